/- AdjustSets: part 4 of 5 of this claim's texts, one behind the other. The words of the kit's printer stand in it cut down, by a program, to those that are used. -/
import Derived.Test.YtfdmfgaiblfbhaaMAdjustSetsc
import Derived.WalkSpells
namespace Go.Proofs.Ytfdmfgaiblfbhaa.P
open Go.RowKit Go.Proofs.YtfdmfgaiblfbhaaW.PrintWords Go.Proofs.YtfdmfgaiblfbhaaW.PrintLast Go.Proofs.YtfdmfgaiblfbhaaW.PrintMore
attribute [local go_sem] max2_int min2_int max_two min_two max_three min_three max_four min_four   -- for this text's walks alone
set_option linter.unusedVariables false
set_option linter.unusedSimpArgs false

/-! ### sashref09_Set: function 67 -/
mutual
def sashref09_Set.l0 : Nat → Int → Int → List (S26) → Int → Int → Int → Int → Int → Int → Int → Int → List (S26) → Option (Int × Int × Int × Int × Int × Int × (List (S26)))
  | 0, _, _, _, _, _, _, _, _, _, _, _, _ => none
  | k + 1, x1, x2, x7, x18, x19, x696000, x696001, x696002, x696003, x696004, x696005, x696006 => if x19 < x18 then (if 0 ≤ x19 then (if x19 < (x696006.length : Int) then ((sashref09_Set.f k ((rd_T26 x696006 x19).f0) ((rd_T26 x696006 x19).f1.f0) ((rd_T26 x696006 x19).f1.f1) ((rd_T26 x696006 x19).f1.f2) ((rd_T26 x696006 x19).f1.f3) ((rd_T26 x696006 x19).f2) ((rd_T26 x696006 x19).f3) x1 x2).bind fun bt701 => (if x7.length < 1954687338268 then ((some (x7 ++ [(⟨bt701.1, (⟨bt701.2.1, bt701.2.2.1, bt701.2.2.2.1, bt701.2.2.2.2.1⟩ : S23), bt701.2.2.2.2.2.1, bt701.2.2.2.2.2.2⟩ : S26)] : List (S26))).bind fun y710 => (if x696000 = 2 then (if x696000 = 3 then (sashref09_Set.l0 k (wrap64 ((wrap64 (x1 + ((rd_T26 x696006 x19).f1.f2))) + 1)) (wrap64 ((wrap64 (x2 + ((rd_T26 x696006 x19).f1.f3))) + 1)) y710 x18 (wrap64 (x19 + 1)) x696000 x696001 x696002 x696003 x696004 x696005 x696006) else (sashref09_Set.l0 k (wrap64 ((wrap64 (x1 + ((rd_T26 x696006 x19).f1.f2))) + 1)) x2 y710 x18 (wrap64 (x19 + 1)) x696000 x696001 x696002 x696003 x696004 x696005 x696006)) else (if x696000 = 3 then (sashref09_Set.l0 k x1 (wrap64 ((wrap64 (x2 + ((rd_T26 x696006 x19).f1.f3))) + 1)) y710 x18 (wrap64 (x19 + 1)) x696000 x696001 x696002 x696003 x696004 x696005 x696006) else (sashref09_Set.l0 k x1 x2 y710 x18 (wrap64 (x19 + 1)) x696000 x696001 x696002 x696003 x696004 x696005 x696006)))) else (none))) else (none)) else (none)) else (some (x696000, x696001, x696002, x696003, x696004, x696005, x7))
def sashref09_Set.f : Nat → Int → Int → Int → Int → Int → Int → List (S26) → Int → Int → Option (Int × Int × Int × Int × Int × Int × (List (S26)))
  | 0, _, _, _, _, _, _, _, _, _ => none
  | k + 1, a0_0, a0_1, a0_2, a0_3, a0_4, a0_5, l0_6, a1, a2 => sashref09_Set.l0 k a1 a2 (([] : List (S26))) (l0_6.length : Int) 0 a0_0 a1 a2 a0_3 a0_4 a0_5 l0_6
end
theorem sashref09_Set.mono_l : ∀ k, (∀ y0 y1 y2 y3 y4 y5 y6 y7 y8, LeO (sashref09_Set.f k y0 y1 y2 y3 y4 y5 y6 y7 y8) (sashref09_Set.f (k + 1) y0 y1 y2 y3 y4 y5 y6 y7 y8)) ∧ (∀ y0 y1 y2 y3 y4 y5 y6 y7 y8 y9 y10 y11, LeO (sashref09_Set.l0 k y0 y1 y2 y3 y4 y5 y6 y7 y8 y9 y10 y11) (sashref09_Set.l0 (k + 1) y0 y1 y2 y3 y4 y5 y6 y7 y8 y9 y10 y11))
  | 0 => ⟨fun _ _ _ _ _ _ _ _ _ r h => by simp [sashref09_Set.f] at h, fun _ _ _ _ _ _ _ _ _ _ _ _ r h => by simp [sashref09_Set.l0] at h⟩
  | k + 1 => by
    obtain ⟨ih0, ih1⟩ := sashref09_Set.mono_l k
    refine ⟨?_, ?_⟩
    · intro y0 y1 y2 y3 y4 y5 y6 y7 y8
      unfold sashref09_Set.f
      repeat' first
      | (with_reducible exact ih0 _ _ _ _ _ _ _ _ _)
      | (with_reducible exact ih1 _ _ _ _ _ _ _ _ _ _ _ _)
      | (with_reducible exact LeO.refl _)
      | (with_reducible exact LeO.none _)
      | (with_reducible refine LeO.ite ?_ ?_)
      | (with_reducible refine LeO.bind ?_ (fun _ => ?_))
      | exact ih0 _ _ _ _ _ _ _ _ _
      | exact ih1 _ _ _ _ _ _ _ _ _ _ _ _
      | exact LeO.none _
      | refine LeO.ite ?_ ?_
      | refine LeO.bind ?_ (fun _ => ?_)
    · intro y0 y1 y2 y3 y4 y5 y6 y7 y8 y9 y10 y11
      unfold sashref09_Set.l0
      repeat' first
      | (with_reducible exact ih0 _ _ _ _ _ _ _ _ _)
      | (with_reducible exact ih1 _ _ _ _ _ _ _ _ _ _ _ _)
      | (with_reducible exact LeO.refl _)
      | (with_reducible exact LeO.none _)
      | (with_reducible refine LeO.ite ?_ ?_)
      | (with_reducible refine LeO.bind ?_ (fun _ => ?_))
      | exact ih0 _ _ _ _ _ _ _ _ _
      | exact ih1 _ _ _ _ _ _ _ _ _ _ _ _
      | exact LeO.none _
      | refine LeO.ite ?_ ?_
      | refine LeO.bind ?_ (fun _ => ?_)
theorem sashref09_Set.mono : ∀ a0 a1 a2 a3 a4 a5 a6 a7 a8 k, LeO (sashref09_Set.f k a0 a1 a2 a3 a4 a5 a6 a7 a8) (sashref09_Set.f (k + 1) a0 a1 a2 a3 a4 a5 a6 a7 a8) := by
  intro a0 a1 a2 a3 a4 a5 a6 a7 a8 k
  obtain ⟨ih0, ih1⟩ := sashref09_Set.mono_l k
  exact ih0 a0 a1 a2 a3 a4 a5 a6 a7 a8
set_option maxHeartbeats 8000000 in
set_option maxRecDepth 100000 in
theorem sashref09_Set.calls (k : Nat) : ∀ (a0_0 : Int) (a0_1 : Int) (a0_2 : Int) (a0_3 : Int) (a0_4 : Int) (a0_5 : Int) (A0_6 : Option Addr) (c0_6 : Nat) (l0_6 : List (S26)) (a1 : Int) (a2 : Int) (r1 : Int) (r2 : Int) (r3 : Int) (r4 : Int) (r5 : Int) (r6 : Int) (r7 : List (S26)) (w : World) (hr0_6 : Kd.C k26 w A0_6 l0_6.length l0_6) (hc0_6 : l0_6.length ≤ c0_6) (h : sashref09_Set.f k a0_0 a0_1 a0_2 a0_3 a0_4 a0_5 l0_6 a1 a2 = some (r1, r2, r3, r4, r5, r6, r7)),
    Calls Try.prog 67 #[.agg #[.int .u8 a0_0, .int .i64 a0_1, .int .i64 a0_2, .int .i64 a0_3, .int .i64 a0_4, .int .i64 a0_5, .slice A0_6 l0_6.length c0_6], .int .i64 a1, .int .i64 a2] w fun e w' => ∃ v6_ : Value, e = .returned (.agg #[.int .u8 r1, .int .i64 r2, .int .i64 r3, .int .i64 r4, .int .i64 r5, .int .i64 r6, v6_]) ∧ Kd.R k26 26 w' w.heap.size (fun _ => True) v6_ r7 ∧ Below w.heap.size w w' := by
  induction k using Nat.strongRecOn with
  | _ k ih =>
  intro a0_0 a0_1 a0_2 a0_3 a0_4 a0_5 A0_6 c0_6 l0_6 a1 a2 r1 r2 r3 r4 r5 r6 r7 w hr0_6 hc0_6 h
  cases k with
  | zero => exact absurd h (by simp [sashref09_Set.f])
  | succ k =>
  simp only [sashref09_Set.f] at h
  have hu26 := Try.underlying26
  have HR0_6 := Aside0.mk hr0_6
  have HC0_6 := Aside0.mk hc0_6
  clear hr0_6 hc0_6
  have HB := Aside0.mk (Below.refl w.heap.size w)
  have H : (sashref09_Set.l0 k a1 a2 (([] : List (S26))) (l0_6.length : Int) 0 a0_0 a1 a2 a0_3 a0_4 a0_5 l0_6) = some (r1, r2, r3, r4, r5, r6, r7) := h
  clear h
  obtain ⟨y697, hy697⟩ : ∃ y_ : List (S26), y_ = (([] : List (S26))) := ⟨_, rfl⟩
  replace H : (sashref09_Set.l0 k a1 a2 y697 (l0_6.length : Int) 0 a0_0 a1 a2 a0_3 a0_4 a0_5 l0_6) = some (r1, r2, r3, r4, r5, r6, r7) := by first | (rw [hy697]; with_reducible exact H) | (have H2_ := (Option.bind_some _ _).symm.trans H; rw [hy697]; with_reducible exact H2_) | (have H2_ := (Option.bind_some _ _).symm.trans H; with_reducible exact H2_) | with_reducible exact H | (rw [hy697]; exact H) | exact H
  have Ny697 := Aside0.mk hy697
  clear hy697
  have H' := Aside0.mk H
  clear H
  go_enter Try.func67, Try.ntmps67
  go_wp2_with (first | ((with_reducible refine gate_dst (N := 3) rfl ?_); refine box_event ?hg (N := 3) ?hd (cs := #[.int .u8 a0_0, .int .i64 a0_1, .int .i64 a0_2, .int .i64 a0_3, .int .i64 a0_4, .int .i64 a0_5, .slice A0_6 l0_6.length c0_6]) (t := 26) ?hr ?_; (case hd => rfl); (case hg => rfl); (case hr => first | (go_simp; done) | (go_simp; rfl)); intro gb695 hg w4 hbox hb; have n0_ := Aside0.mk (below_step (by repeat (first | (with_reducible first | exact HB.out | apply below_alloc | apply pw_below_drewN | apply below_drew1) | exact HB.out)) hb); have n1_ := Aside0.mk (hbox); have n2_ := Aside0.mk ((by rw [hg]; exact (below_size (by repeat (first | (with_reducible first | exact HB.out | apply below_alloc | apply pw_below_drewN | apply below_drew1) | exact HB.out))) : w.heap.size ≤ gb695)); have n3_ := Aside0.mk ((by rw [hg]; exact (below_size (by repeat (first | (with_reducible first | exact HB.out | apply below_alloc | apply pw_below_drewN | apply below_drew1) | exact HB.out))) : w.heap.size ≤ gb695)); clear HB; have HB := n0_; have BK695 := n1_; have GW695 := n2_; have GE695 := n3_; clear n0_ n1_ n2_ n3_; clear hb hbox hg) | ((with_reducible refine gate_dst (N := 6) rfl ?_); refine box_event ?hg (N := 6) ?hd (cs := #[.int .u8 0, .int .i64 0, .int .i64 0, .int .i64 0, .int .i64 0, .int .i64 0, .slice none 0 0]) (t := 26) ?hr ?_; (case hd => rfl); (case hg => rfl); (case hr => first | (go_simp; done) | (go_simp; rfl)); intro gb696 hg w5 hbox hb; have n0_ := Aside0.mk (blk_below (g := gb695) (o := .cells #[.int .u8 a0_0, .int .i64 a0_1, .int .i64 a0_2, .int .i64 a0_3, .int .i64 a0_4, .int .i64 a0_5, .slice A0_6 l0_6.length c0_6] 26 (0, 0)) (by (with_reducible repeat (first | refine blk_drewN ?_ _ | refine blk_drew ?_ | refine blk_alloc ?_ _)); exact BK695.out) hb); have n1_ := Aside0.mk (below_step (by repeat (first | (with_reducible first | exact HB.out | apply below_alloc | apply pw_below_drewN | apply below_drew1 | refine below_set ?_ GE695.out) | exact HB.out)) hb); have n2_ := Aside0.mk (hbox); have n3_ := Aside0.mk ((by rw [hg]; exact (below_size (by repeat (first | (with_reducible first | exact HB.out | apply below_alloc | apply pw_below_drewN | apply below_drew1 | refine below_set ?_ GE695.out) | exact HB.out))) : w.heap.size ≤ gb696)); have n4_ := Aside0.mk ((by rw [hg]; exact (below_size (by repeat (first | (with_reducible first | exact HB.out | apply below_alloc | apply pw_below_drewN | apply below_drew1 | refine below_set ?_ GE695.out) | exact HB.out))) : w.heap.size ≤ gb696)); have n5_ := Aside0.mk ((by rw [hg]; exact Nat.ne_of_lt (blk_lt (g := gb695) (o := .cells #[.int .u8 a0_0, .int .i64 a0_1, .int .i64 a0_2, .int .i64 a0_3, .int .i64 a0_4, .int .i64 a0_5, .slice A0_6 l0_6.length c0_6] 26 (0, 0)) (by (with_reducible repeat (first | refine blk_drewN ?_ _ | refine blk_drew ?_ | refine blk_alloc ?_ _)); exact BK695.out)) : gb695 ≠ gb696)); have n6_ := Aside0.mk ((by rw [hg]; exact Nat.ne_of_gt (blk_lt (g := gb695) (o := .cells #[.int .u8 a0_0, .int .i64 a0_1, .int .i64 a0_2, .int .i64 a0_3, .int .i64 a0_4, .int .i64 a0_5, .slice A0_6 l0_6.length c0_6] 26 (0, 0)) (by (with_reducible repeat (first | refine blk_drewN ?_ _ | refine blk_drew ?_ | refine blk_alloc ?_ _)); exact BK695.out)) : gb696 ≠ gb695)); clear BK695; clear HB; have BK695 := n0_; have HB := n1_; have BK696 := n2_; have GW696 := n3_; have GE696 := n4_; have NB695_696 := n5_; have NB696_695 := n6_; clear n0_ n1_ n2_ n3_ n4_ n5_ n6_; clear hb hbox hg; have hnb6 := NB695_696.out; have hnc6 := NB696_695.out; have hcz7_0 : w5.cell? ⟨gb695, 0, none⟩ = some (.int .u8 a0_0) := (blk_cell BK695.out 0).trans rfl; have hcz7_1 : w5.cell? ⟨gb695, 1, none⟩ = some (.int .i64 a0_1) := (blk_cell BK695.out 1).trans rfl; have hcz7_2 : w5.cell? ⟨gb695, 2, none⟩ = some (.int .i64 a0_2) := (blk_cell BK695.out 2).trans rfl; have hcz7_3 : w5.cell? ⟨gb695, 3, none⟩ = some (.int .i64 a0_3) := (blk_cell BK695.out 3).trans rfl; have hcz7_4 : w5.cell? ⟨gb695, 4, none⟩ = some (.int .i64 a0_4) := (blk_cell BK695.out 4).trans rfl; have hcz7_5 : w5.cell? ⟨gb695, 5, none⟩ = some (.int .i64 a0_5) := (blk_cell BK695.out 5).trans rfl; have hcz7_6 : w5.cell? ⟨gb695, 6, none⟩ = some (.slice A0_6 l0_6.length c0_6) := (blk_cell BK695.out 6).trans rfl; have hfz7_0 := blk_frozen BK695.out 0; have hfz7_1 := blk_frozen BK695.out 1; have hfz7_2 := blk_frozen BK695.out 2; have hfz7_3 := blk_frozen BK695.out 3; have hfz7_4 := blk_frozen BK695.out 4; have hfz7_5 := blk_frozen BK695.out 5; have hfz7_6 := blk_frozen BK695.out 6) | ((with_reducible refine gate_dst (N := 15) rfl ?_); refine Kd.R_lit k26 _ 26 ?hg (N := 15) ?hd (xs := ([] : List (S26))) (inner := []) (ok := fun _ => True) (okp := fun _ => True) ?hr ?hp (fun _ hk => hk) trivial (Below.refl _ _) (Nat.le_refl _) (by simp) ?_; (case hd => rfl); (case hg => rfl); (case hr => first | (go_simp; done) | (go_simp; rfl)); (case hp => exact (Reps.none _ _)); intro v698 w8 ho9 hb hg_ hnew_; clear hg_ hnew_; (first | rw [← Ny697.out] at ho9 | (simp only [Int.reduceToNat] at ho9; rw [← Ny697.out] at ho9)); have n0_ := Aside0.mk (Kd.R_lower (Kd.R_newB (Kd.R_newB ho9 (g := gb695) (o := .cells #[.int .u8 a0_0, .int .i64 a1, .int .i64 a2, .int .i64 a0_3, .int .i64 a0_4, .int .i64 a0_5, .slice A0_6 l0_6.length c0_6] 26 (0, 0)) (by (with_reducible repeat (first | refine blk_drewN ?_ _ | refine blk_drew ?_ | refine blk_alloc ?_ _)); refine blk_put (cs := #[.int .u8 a0_0, .int .i64 a1, .int .i64 a0_2, .int .i64 a0_3, .int .i64 a0_4, .int .i64 a0_5, .slice A0_6 l0_6.length c0_6]) ?_ 2 _ rfl; (with_reducible repeat (first | refine blk_drewN ?_ _ | refine blk_drew ?_ | refine blk_alloc ?_ _)); refine blk_put (cs := #[.int .u8 a0_0, .int .i64 a0_1, .int .i64 a0_2, .int .i64 a0_3, .int .i64 a0_4, .int .i64 a0_5, .slice A0_6 l0_6.length c0_6]) ?_ 1 _ rfl; (with_reducible repeat (first | refine blk_drewN ?_ _ | refine blk_drew ?_ | refine blk_alloc ?_ _)); exact BK695.out)) (g := gb696) (o := .cells #[.int .u8 0, .int .i64 0, .int .i64 0, .int .i64 0, .int .i64 0, .int .i64 0, .slice none 0 0] 26 (0, 0)) (by (with_reducible repeat (first | refine blk_drewN ?_ _ | refine blk_drew ?_ | refine blk_alloc ?_ _)); refine blk_far ?_ NB696_695.out _; (with_reducible repeat (first | refine blk_drewN ?_ _ | refine blk_drew ?_ | refine blk_alloc ?_ _)); refine blk_far ?_ NB696_695.out _; (with_reducible repeat (first | refine blk_drewN ?_ _ | refine blk_drew ?_ | refine blk_alloc ?_ _)); exact BK696.out)) (below_size (by repeat (first | (with_reducible first | exact HB.out | apply below_alloc | apply pw_below_drewN | apply below_drew1 | refine below_set ?_ GE695.out | refine below_set ?_ GE696.out) | exact HB.out)))); have n1_ := Aside0.mk (blk_below (g := gb695) (o := .cells #[.int .u8 a0_0, .int .i64 a1, .int .i64 a2, .int .i64 a0_3, .int .i64 a0_4, .int .i64 a0_5, .slice A0_6 l0_6.length c0_6] 26 (0, 0)) (by (with_reducible repeat (first | refine blk_drewN ?_ _ | refine blk_drew ?_ | refine blk_alloc ?_ _)); refine blk_put (cs := #[.int .u8 a0_0, .int .i64 a1, .int .i64 a0_2, .int .i64 a0_3, .int .i64 a0_4, .int .i64 a0_5, .slice A0_6 l0_6.length c0_6]) ?_ 2 _ rfl; (with_reducible repeat (first | refine blk_drewN ?_ _ | refine blk_drew ?_ | refine blk_alloc ?_ _)); refine blk_put (cs := #[.int .u8 a0_0, .int .i64 a0_1, .int .i64 a0_2, .int .i64 a0_3, .int .i64 a0_4, .int .i64 a0_5, .slice A0_6 l0_6.length c0_6]) ?_ 1 _ rfl; (with_reducible repeat (first | refine blk_drewN ?_ _ | refine blk_drew ?_ | refine blk_alloc ?_ _)); exact BK695.out) hb); have n2_ := Aside0.mk (blk_below (g := gb696) (o := .cells #[.int .u8 0, .int .i64 0, .int .i64 0, .int .i64 0, .int .i64 0, .int .i64 0, .slice none 0 0] 26 (0, 0)) (by (with_reducible repeat (first | refine blk_drewN ?_ _ | refine blk_drew ?_ | refine blk_alloc ?_ _)); refine blk_far ?_ NB696_695.out _; (with_reducible repeat (first | refine blk_drewN ?_ _ | refine blk_drew ?_ | refine blk_alloc ?_ _)); refine blk_far ?_ NB696_695.out _; (with_reducible repeat (first | refine blk_drewN ?_ _ | refine blk_drew ?_ | refine blk_alloc ?_ _)); exact BK696.out) hb); have n3_ := Aside0.mk (below_step (by repeat (first | (with_reducible first | exact HB.out | apply below_alloc | apply pw_below_drewN | apply below_drew1 | refine below_set ?_ GE695.out | refine below_set ?_ GE696.out) | exact HB.out)) hb); clear BK695; clear BK696; clear HB; have HO699 := n0_; have BK695 := n1_; have BK696 := n2_; have HB := n3_; clear n0_ n1_ n2_ n3_; clear hb ho9; have hcz10_0 : w8.cell? ⟨gb695, 0, none⟩ = some (.int .u8 a0_0) := (blk_cell BK695.out 0).trans rfl; have hcz10_1 : w8.cell? ⟨gb695, 1, none⟩ = some (.int .i64 a1) := (blk_cell BK695.out 1).trans rfl; have hcz10_2 : w8.cell? ⟨gb695, 2, none⟩ = some (.int .i64 a2) := (blk_cell BK695.out 2).trans rfl; have hcz10_3 : w8.cell? ⟨gb695, 3, none⟩ = some (.int .i64 a0_3) := (blk_cell BK695.out 3).trans rfl; have hcz10_4 : w8.cell? ⟨gb695, 4, none⟩ = some (.int .i64 a0_4) := (blk_cell BK695.out 4).trans rfl; have hcz10_5 : w8.cell? ⟨gb695, 5, none⟩ = some (.int .i64 a0_5) := (blk_cell BK695.out 5).trans rfl; have hcz10_6 : w8.cell? ⟨gb695, 6, none⟩ = some (.slice A0_6 l0_6.length c0_6) := (blk_cell BK695.out 6).trans rfl; have hfz10_0 := blk_frozen BK695.out 0; have hfz10_1 := blk_frozen BK695.out 1; have hfz10_2 := blk_frozen BK695.out 2; have hfz10_3 := blk_frozen BK695.out 3; have hfz10_4 := blk_frozen BK695.out 4; have hfz10_5 := blk_frozen BK695.out 5; have hfz10_6 := blk_frozen BK695.out 6))
  go_loopg [1, 2, 7, 19] k (fun kq v1 v2 v7 v19 w' => ∃ (x1_1 : Int) (x2_1 : Int) (x7_1 : List (S26)) (x19_1 : Int), v1 = .int .i64 x1_1 ∧ v2 = .int .i64 x2_1 ∧ v19 = .int .i64 x19_1 ∧ Aside0 (sashref09_Set.l0 kq x1_1 x2_1 x7_1 (l0_6.length : Int) x19_1 a0_0 a1 a2 a0_3 a0_4 a0_5 l0_6 = some (r1, r2, r3, r4, r5, r6, r7)) ∧ Aside0 (kq ≤ k) ∧ Aside0 (Kd.R k26 26 w' w.heap.size (fun k_ => k_ ≠ gb695 ∧ k_ ≠ gb696) v7 x7_1) ∧ Aside0 (w'.heap[gb695]? = some (.cells #[.int .u8 a0_0, .int .i64 a1, .int .i64 a2, .int .i64 a0_3, .int .i64 a0_4, .int .i64 a0_5, (.slice A0_6 l0_6.length c0_6)] 26 (0, 0))) ∧ Aside0 (w'.heap[gb696]? = some (.cells #[.int .u8 0, .int .i64 0, .int .i64 0, .int .i64 0, .int .i64 0, .int .i64 0, (.slice none 0 0)] 26 (0, 0))) ∧ Aside0 (Below w.heap.size w w'))
  case atStart => exact ⟨(a1), (a2), (y697), (0), (by first | rfl | (simp; done) | (simp [*]; done)), (by first | rfl | (simp; done) | (simp [*]; done)), (by first | rfl | (simp; done) | (simp [*]; done)), H', ⟨Nat.le_refl _⟩, ⟨by (with_reducible repeat (first | apply Kd.R_alloc | apply Kd.R_drewN | apply Kd.R_drew)); exact Kd.R_mono HO699.out (fun _ hk => ⟨hk.1.2, hk.2⟩)⟩, ⟨by (with_reducible repeat (first | refine blk_drewN ?_ _ | refine blk_drew ?_ | refine blk_alloc ?_ _)); exact BK695.out⟩, ⟨by (with_reducible repeat (first | refine blk_drewN ?_ _ | refine blk_drew ?_ | refine blk_alloc ?_ _)); exact BK696.out⟩, ⟨by repeat (first | (with_reducible first | exact HB.out | apply below_alloc | apply pw_below_drewN | apply below_drew1 | refine below_set ?_ GE695.out | refine below_set ?_ GE696.out) | exact HB.out)⟩⟩
  case round =>
    clear H'
    try clear p2
    try clear c6
    try clear hcz10_0
    try clear hcz10_1
    try clear hcz10_2
    try clear hcz10_3
    try clear hcz10_4
    try clear hcz10_5
    try clear hcz10_6
    try clear hcz7_0
    try clear hcz7_1
    try clear hcz7_2
    try clear hcz7_3
    try clear hcz7_4
    try clear hcz7_5
    try clear hcz7_6
    try clear hfz10_0
    try clear hfz10_1
    try clear hfz10_2
    try clear hfz10_3
    try clear hfz10_4
    try clear hfz10_5
    try clear hfz10_6
    try clear hfz7_0
    try clear hfz7_1
    try clear hfz7_2
    try clear hfz7_3
    try clear hfz7_4
    try clear hfz7_5
    try clear hfz7_6
    obtain ⟨x1_1, x2_1, x7_1, x19_1, rfl, rfl, rfl, HA, HK1, HO_7, BK695, BK696, HB⟩ := hrel
    cases gk with
    | zero => exact absurd HA.out (by simp [sashref09_Set.l0])
    | succ k1 =>
      have H := HA.out
      clear HA
      simp only [sashref09_Set.l0] at H
      by_cases c11 : x19_1 < (l0_6.length : Int)
      · rw [if_pos c11] at H
        have c11b0 : decide (x19_1 < (l0_6.length : Int)) = true := decide_eq_true c11
        clear c11
        by_cases c12 : 0 ≤ x19_1
        · rw [if_pos c12] at H
          have c12b0 : decide (0 ≤ x19_1) = true := decide_eq_true c12
          clear c12
          by_cases c13 : x19_1 < (l0_6.length : Int)
          · rw [if_pos c13] at H
            have c13b0 : decide (x19_1 < (l0_6.length : Int)) = true := decide_eq_true c13
            clear c13
            replace H := Option.bind_eq_some_iff.mp H
            obtain ⟨⟨t701, t702, t703, t704, t705, t706, t707⟩, A140, H⟩ := H
            replace H : (if x7_1.length < 1954687338268 then ((some (x7_1 ++ [(⟨t701, (⟨t702, t703, t704, t705⟩ : S23), t706, t707⟩ : S26)] : List (S26))).bind fun y710 => (if a0_0 = 2 then (if a0_0 = 3 then (sashref09_Set.l0 k1 (wrap64 ((wrap64 (x1_1 + ((rd_T26 l0_6 x19_1).f1.f2))) + 1)) (wrap64 ((wrap64 (x2_1 + ((rd_T26 l0_6 x19_1).f1.f3))) + 1)) y710 (l0_6.length : Int) (wrap64 (x19_1 + 1)) a0_0 a1 a2 a0_3 a0_4 a0_5 l0_6) else (sashref09_Set.l0 k1 (wrap64 ((wrap64 (x1_1 + ((rd_T26 l0_6 x19_1).f1.f2))) + 1)) x2_1 y710 (l0_6.length : Int) (wrap64 (x19_1 + 1)) a0_0 a1 a2 a0_3 a0_4 a0_5 l0_6)) else (if a0_0 = 3 then (sashref09_Set.l0 k1 x1_1 (wrap64 ((wrap64 (x2_1 + ((rd_T26 l0_6 x19_1).f1.f3))) + 1)) y710 (l0_6.length : Int) (wrap64 (x19_1 + 1)) a0_0 a1 a2 a0_3 a0_4 a0_5 l0_6) else (sashref09_Set.l0 k1 x1_1 x2_1 y710 (l0_6.length : Int) (wrap64 (x19_1 + 1)) a0_0 a1 a2 a0_3 a0_4 a0_5 l0_6)))) else (none)) = some (r1, r2, r3, r4, r5, r6, r7) := H
            have A14 := Aside0.mk A140
            clear A140
            by_cases c15 : x7_1.length < 1954687338268
            · rw [if_pos c15] at H
              have LMc15 := Aside0.mk c15
              clear c15
              obtain ⟨y710, hy710⟩ : ∃ y_ : List (S26), y_ = (x7_1 ++ [(⟨t701, (⟨t702, t703, t704, t705⟩ : S23), t706, t707⟩ : S26)]) := ⟨_, rfl⟩
              replace H : (if a0_0 = 2 then (if a0_0 = 3 then (sashref09_Set.l0 k1 (wrap64 ((wrap64 (x1_1 + ((rd_T26 l0_6 x19_1).f1.f2))) + 1)) (wrap64 ((wrap64 (x2_1 + ((rd_T26 l0_6 x19_1).f1.f3))) + 1)) y710 (l0_6.length : Int) (wrap64 (x19_1 + 1)) a0_0 a1 a2 a0_3 a0_4 a0_5 l0_6) else (sashref09_Set.l0 k1 (wrap64 ((wrap64 (x1_1 + ((rd_T26 l0_6 x19_1).f1.f2))) + 1)) x2_1 y710 (l0_6.length : Int) (wrap64 (x19_1 + 1)) a0_0 a1 a2 a0_3 a0_4 a0_5 l0_6)) else (if a0_0 = 3 then (sashref09_Set.l0 k1 x1_1 (wrap64 ((wrap64 (x2_1 + ((rd_T26 l0_6 x19_1).f1.f3))) + 1)) y710 (l0_6.length : Int) (wrap64 (x19_1 + 1)) a0_0 a1 a2 a0_3 a0_4 a0_5 l0_6) else (sashref09_Set.l0 k1 x1_1 x2_1 y710 (l0_6.length : Int) (wrap64 (x19_1 + 1)) a0_0 a1 a2 a0_3 a0_4 a0_5 l0_6))) = some (r1, r2, r3, r4, r5, r6, r7) := by first | (rw [hy710]; with_reducible exact H) | (have H2_ := (Option.bind_some _ _).symm.trans H; rw [hy710]; with_reducible exact H2_) | (have H2_ := (Option.bind_some _ _).symm.trans H; with_reducible exact H2_) | with_reducible exact H | (rw [hy710]; exact H) | exact H
              have Ny710 := Aside0.mk hy710
              clear hy710
              by_cases c16 : a0_0 = 2
              · rw [if_pos c16] at H
                have c16b0 : (a0_0 == 2) = true := beq_iff_eq.mpr c16
                have c16b1 : (a0_0 != 2) = false := bne_eq_false_iff_eq.mpr c16
                clear c16
                by_cases c17 : a0_0 = 3
                · rw [if_pos c17] at H
                  have c17b0 : (a0_0 == 3) = true := beq_iff_eq.mpr c17
                  have c17b1 : (a0_0 != 3) = false := bne_eq_false_iff_eq.mpr c17
                  clear c17
                  have H' := Aside0.mk H
                  clear H
                  have hnb18 := NB695_696.out
                  have hnc18 := NB696_695.out
                  have hcz19_0 : wr.cell? ⟨gb695, 0, none⟩ = some (.int .u8 a0_0) := (blk_cell BK695.out 0).trans rfl
                  have hcz19_1 : wr.cell? ⟨gb695, 1, none⟩ = some (.int .i64 a1) := (blk_cell BK695.out 1).trans rfl
                  have hcz19_2 : wr.cell? ⟨gb695, 2, none⟩ = some (.int .i64 a2) := (blk_cell BK695.out 2).trans rfl
                  have hcz19_3 : wr.cell? ⟨gb695, 3, none⟩ = some (.int .i64 a0_3) := (blk_cell BK695.out 3).trans rfl
                  have hcz19_4 : wr.cell? ⟨gb695, 4, none⟩ = some (.int .i64 a0_4) := (blk_cell BK695.out 4).trans rfl
                  have hcz19_5 : wr.cell? ⟨gb695, 5, none⟩ = some (.int .i64 a0_5) := (blk_cell BK695.out 5).trans rfl
                  have hcz19_6 : wr.cell? ⟨gb695, 6, none⟩ = some (.slice A0_6 l0_6.length c0_6) := (blk_cell BK695.out 6).trans rfl
                  have hfz19_0 := blk_frozen BK695.out 0
                  have hfz19_1 := blk_frozen BK695.out 1
                  have hfz19_2 := blk_frozen BK695.out 2
                  have hfz19_3 := blk_frozen BK695.out 3
                  have hfz19_4 := blk_frozen BK695.out 4
                  have hfz19_5 := blk_frozen BK695.out 5
                  have hfz19_6 := blk_frozen BK695.out 6
                  have p700 : 0 ≤ (x19_1 : Int) := of_decide_eq_true (by first | (with_reducible assumption) | assumption)
                  have q700 : x19_1 < (l0_6.length : Int) := of_decide_eq_true (by first | (with_reducible assumption) | assumption)
                  obtain ⟨ad700, A700_6, c700_6, e700, hx700_0, hx700_1, hx700_2, hx700_3, hx700_4, hx700_5, hx700_6, hl700_6, hi700_6⟩ := at_T26 HR0_6.out x19_1 p700 q700
                  cases e700
                  replace hx700_0 := (HB.out.cell (World.block_lt_of_cell? w _ hx700_0)).trans hx700_0
                  replace hx700_1 := (HB.out.cell (World.block_lt_of_cell? w _ hx700_1)).trans hx700_1
                  replace hx700_2 := (HB.out.cell (World.block_lt_of_cell? w _ hx700_2)).trans hx700_2
                  replace hx700_3 := (HB.out.cell (World.block_lt_of_cell? w _ hx700_3)).trans hx700_3
                  replace hx700_4 := (HB.out.cell (World.block_lt_of_cell? w _ hx700_4)).trans hx700_4
                  replace hx700_5 := (HB.out.cell (World.block_lt_of_cell? w _ hx700_5)).trans hx700_5
                  replace hx700_6 := (HB.out.cell (World.block_lt_of_cell? w _ hx700_6)).trans hx700_6
                  have HR700_6 := Aside0.mk hi700_6
                  have HC700_6 := Aside0.mk hl700_6
                  clear hi700_6 hl700_6
                  replace p700 := eq_true p700
                  replace q700 := eq_true q700
                  go_wp2_with (first | ((with_reducible refine gate_callee (f := 67) rfl ?_); refine goesL_ (some 30) rfl rfl Try.func67 (by kernel_rfl) rfl #[.agg #[.int .u8 ((rd_T26 l0_6 x19_1).f0), .int .i64 ((rd_T26 l0_6 x19_1).f1.f0), .int .i64 ((rd_T26 l0_6 x19_1).f1.f1), .int .i64 ((rd_T26 l0_6 x19_1).f1.f2), .int .i64 ((rd_T26 l0_6 x19_1).f1.f3), .int .i64 ((rd_T26 l0_6 x19_1).f2), .slice A700_6 ((rd_T26 l0_6 x19_1).f3).length c700_6], .int .i64 x1_1, .int .i64 x2_1] rfl (by (try simp only [List.map_toArray, List.map_cons, List.map_nil]); first | done | rfl | (simp only [List.length_drop, List.length_take]; rfl)) ?_; (with_reducible refine (ih k1 (by have := HK1.out; omega) ((rd_T26 l0_6 x19_1).f0) ((rd_T26 l0_6 x19_1).f1.f0) ((rd_T26 l0_6 x19_1).f1.f1) ((rd_T26 l0_6 x19_1).f1.f2) ((rd_T26 l0_6 x19_1).f1.f3) ((rd_T26 l0_6 x19_1).f2) _ _ ((rd_T26 l0_6 x19_1).f3) x1_1 x2_1 t701 t702 t703 t704 t705 t706 t707 _ ?side1 ?side2 A14.out).mono ?_); (case side1 => repeat (first | exact (Kd.C_below HR700_6.out HB.out) | (with_reducible refine Kd.C_alloc ?_ _) | (with_reducible refine Kd.C_drewN ?_ _) | (with_reducible refine Kd.C_drew ?_))); (case side2 => exact HC700_6.out); rintro e w20 ⟨v708, rfl, ho0, hb⟩; refine ⟨_, rfl, ?_⟩; have n0_ := Aside0.mk (Kd.R_elder' (by (with_reducible repeat (first | apply Kd.R_alloc | apply Kd.R_drewN | apply Kd.R_drew)); exact HO_7.out) (Kd.R_base ho0) hb); have n1_ := Aside0.mk (Kd.R_lower (Kd.R_newB (Kd.R_newB (Kd.R_new' ho0 (Kd.R_lt (by (with_reducible repeat (first | apply Kd.R_alloc | apply Kd.R_drewN | apply Kd.R_drew)); exact HO_7.out))) (g := gb695) (o := .cells #[.int .u8 a0_0, .int .i64 a1, .int .i64 a2, .int .i64 a0_3, .int .i64 a0_4, .int .i64 a0_5, .slice (some ad700) l0_6.length c0_6] 26 (0, 0)) (by (with_reducible repeat (first | refine blk_drewN ?_ _ | refine blk_drew ?_ | refine blk_alloc ?_ _)); exact BK695.out)) (g := gb696) (o := .cells #[.int .u8 0, .int .i64 0, .int .i64 0, .int .i64 0, .int .i64 0, .int .i64 0, .slice none 0 0] 26 (0, 0)) (by (with_reducible repeat (first | refine blk_drewN ?_ _ | refine blk_drew ?_ | refine blk_alloc ?_ _)); exact BK696.out)) (below_size (by repeat (first | (with_reducible first | exact HB.out | apply below_alloc | apply pw_below_drewN | apply below_drew1 | refine below_set ?_ GE695.out | refine below_set ?_ GE696.out) | exact HB.out)))); have n2_ := Aside0.mk (blk_below (g := gb695) (o := .cells #[.int .u8 a0_0, .int .i64 a1, .int .i64 a2, .int .i64 a0_3, .int .i64 a0_4, .int .i64 a0_5, .slice (some ad700) l0_6.length c0_6] 26 (0, 0)) (by (with_reducible repeat (first | refine blk_drewN ?_ _ | refine blk_drew ?_ | refine blk_alloc ?_ _)); exact BK695.out) hb); have n3_ := Aside0.mk (blk_below (g := gb696) (o := .cells #[.int .u8 0, .int .i64 0, .int .i64 0, .int .i64 0, .int .i64 0, .int .i64 0, .slice none 0 0] 26 (0, 0)) (by (with_reducible repeat (first | refine blk_drewN ?_ _ | refine blk_drew ?_ | refine blk_alloc ?_ _)); exact BK696.out) hb); have n4_ := Aside0.mk (below_step (by repeat (first | (with_reducible first | exact HB.out | apply below_alloc | apply pw_below_drewN | apply below_drew1 | refine below_set ?_ GE695.out | refine below_set ?_ GE696.out) | exact HB.out)) hb); clear HO_7; clear BK695; clear BK696; clear HB; have HO_7 := n0_; have HO709 := n1_; have BK695 := n2_; have BK696 := n3_; have HB := n4_; clear n0_ n1_ n2_ n3_ n4_; (try clear hb); (try clear hb2); (try clear hk); (try clear hi); (try clear ho0); obtain ⟨Ao22, co22, eo22⟩ := Kd.R_slice HO709.out; subst eo22) | ((with_reducible refine gate_builtin (b := .append) (xs := #[.tmp 22, .tmp 31]) rfl ?_); at_builtin; refine Kd.R_append k26 (w0 := w) w.heap.size rfl (.tmp 22) (.tmp 31) 24 26 (.agg #[(.int .u8 0), (.int .i64 0), (.int .i64 0), (.int .i64 0), (.int .i64 0), (.int .i64 0), (.slice none 0 0)]) 72 rfl Try.underlying24 info26 rfl (by decide) (by omega) u7 x7_1 (⟨t701, (⟨t702, t703, t704, t705⟩ : S23), t706, t707⟩ : S26) [.int .u8 t701, .int .i64 t702, .int .i64 t703, .int .i64 t704, .int .i64 t705, .int .i64 t706, .slice Ao22 t707.length co22] (fun k_ => k_ ≠ gb695 ∧ k_ ≠ gb696) (fun k_ => ((fun k_ => k_ ≠ gb695 ∧ k_ ≠ gb696)) k_ ∧ some k_ ≠ (u7 : Value).ownBlock) rfl rfl ?aP (fun _ hk => hk) ?aF ?aO ?aB ?aS ?aL ?_; (case aP => exact k26_mkM _ _ _ (⟨t701, (⟨t702, t703, t704, t705⟩ : S23), t706, t707⟩ : S26) (Kd.R_mono (HO709.out) (fun k_ hk => ⟨⟨hk.1.2, hk.2⟩, hk.1.1.2⟩))); (case aB => exact (by repeat (first | (with_reducible first | exact HB.out | apply below_alloc | apply pw_below_drewN | apply below_drew1 | refine below_set ?_ GE695.out | refine below_set ?_ GE696.out) | exact HB.out))); (case aF => exact (fun k_ hk => ⟨Kd.freshB (g := gb695) (o := .cells #[.int .u8 a0_0, .int .i64 a1, .int .i64 a2, .int .i64 a0_3, .int .i64 a0_4, .int .i64 a0_5, .slice (some ad700) l0_6.length c0_6] 26 (0, 0)) (by (with_reducible repeat (first | refine blk_drewN ?_ _ | refine blk_drew ?_ | refine blk_alloc ?_ _)); exact BK695.out) k_ hk, Kd.freshB (g := gb696) (o := .cells #[.int .u8 0, .int .i64 0, .int .i64 0, .int .i64 0, .int .i64 0, .int .i64 0, .slice none 0 0] 26 (0, 0)) (by (with_reducible repeat (first | refine blk_drewN ?_ _ | refine blk_drew ?_ | refine blk_alloc ?_ _)); exact BK696.out) k_ hk⟩)); (case aO => exact (by (with_reducible repeat (first | apply Kd.R_alloc | apply Kd.R_drewN | apply Kd.R_drew)); exact Kd.R_mono HO_7.out (fun _ hk => ⟨hk.1.1, hk.1.2⟩))); (case aS => exact (below_size (by repeat (first | (with_reducible first | exact HB.out | apply below_alloc | apply pw_below_drewN | apply below_drew1 | refine below_set ?_ GE695.out | refine below_set ?_ GE696.out) | exact HB.out)))); (case aL => have := LMc15.out; omega); intro v711 w21 ho hb hg hat; rw [← Ny710.out] at ho; have n0_ := Aside0.mk (blk_grown (g := gb695) (o := .cells #[.int .u8 a0_0, .int .i64 a1, .int .i64 a2, .int .i64 a0_3, .int .i64 a0_4, .int .i64 a0_5, .slice (some ad700) l0_6.length c0_6] 26 (0, 0)) (by (with_reducible repeat (first | refine blk_drewN ?_ _ | refine blk_drew ?_ | refine blk_alloc ?_ _)); exact BK695.out) hg (Kd.R_away HO_7.out (fun _ hk => hk.1.1))); have n1_ := Aside0.mk (blk_grown (g := gb696) (o := .cells #[.int .u8 0, .int .i64 0, .int .i64 0, .int .i64 0, .int .i64 0, .int .i64 0, .slice none 0 0] 26 (0, 0)) (by (with_reducible repeat (first | refine blk_drewN ?_ _ | refine blk_drew ?_ | refine blk_alloc ?_ _)); exact BK696.out) hg (Kd.R_away HO_7.out (fun _ hk => hk.1.2))); have n2_ := Aside0.mk (hb); have n3_ := Aside0.mk (ho); clear BK695; clear BK696; clear HB; clear HO_7; clear HO709; have BK695 := n0_; have BK696 := n1_; have HB := n2_; have HO712 := n3_; clear n0_ n1_ n2_ n3_; clear ho hb hg hat; have hcz23_0 : w21.cell? ⟨gb695, 0, none⟩ = some (.int .u8 a0_0) := (blk_cell BK695.out 0).trans rfl; have hcz23_1 : w21.cell? ⟨gb695, 1, none⟩ = some (.int .i64 a1) := (blk_cell BK695.out 1).trans rfl; have hcz23_2 : w21.cell? ⟨gb695, 2, none⟩ = some (.int .i64 a2) := (blk_cell BK695.out 2).trans rfl; have hcz23_3 : w21.cell? ⟨gb695, 3, none⟩ = some (.int .i64 a0_3) := (blk_cell BK695.out 3).trans rfl; have hcz23_4 : w21.cell? ⟨gb695, 4, none⟩ = some (.int .i64 a0_4) := (blk_cell BK695.out 4).trans rfl; have hcz23_5 : w21.cell? ⟨gb695, 5, none⟩ = some (.int .i64 a0_5) := (blk_cell BK695.out 5).trans rfl; have hcz23_6 : w21.cell? ⟨gb695, 6, none⟩ = some (.slice (some ad700) l0_6.length c0_6) := (blk_cell BK695.out 6).trans rfl; have hfz23_0 := blk_frozen BK695.out 0; have hfz23_1 := blk_frozen BK695.out 1; have hfz23_2 := blk_frozen BK695.out 2; have hfz23_3 := blk_frozen BK695.out 3; have hfz23_4 := blk_frozen BK695.out 4; have hfz23_5 := blk_frozen BK695.out 5; have hfz23_6 := blk_frozen BK695.out 6; have p713 : 0 ≤ (x19_1 : Int) := of_decide_eq_true (by first | (with_reducible assumption) | assumption); have q713 : x19_1 < (l0_6.length : Int) := of_decide_eq_true (by first | (with_reducible assumption) | assumption); obtain ⟨ad713, A713_6, c713_6, e713, hx713_0, hx713_1, hx713_2, hx713_3, hx713_4, hx713_5, hx713_6, hl713_6, hi713_6⟩ := at_T26 HR0_6.out x19_1 p713 q713; obtain rfl : ad700 = ad713 := (by injection e713); replace hx713_0 := (HB.out.cell (World.block_lt_of_cell? w _ hx713_0)).trans hx713_0; replace hx713_1 := (HB.out.cell (World.block_lt_of_cell? w _ hx713_1)).trans hx713_1; replace hx713_2 := (HB.out.cell (World.block_lt_of_cell? w _ hx713_2)).trans hx713_2; replace hx713_3 := (HB.out.cell (World.block_lt_of_cell? w _ hx713_3)).trans hx713_3; replace hx713_4 := (HB.out.cell (World.block_lt_of_cell? w _ hx713_4)).trans hx713_4; replace hx713_5 := (HB.out.cell (World.block_lt_of_cell? w _ hx713_5)).trans hx713_5; replace hx713_6 := (HB.out.cell (World.block_lt_of_cell? w _ hx713_6)).trans hx713_6; have HR713_6 := Aside0.mk hi713_6; have HC713_6 := Aside0.mk hl713_6; clear hi713_6 hl713_6; replace p713 := eq_true p713; replace q713 := eq_true q713; have p714 : 0 ≤ (x19_1 : Int) := of_decide_eq_true (by first | (with_reducible assumption) | assumption); have q714 : x19_1 < (l0_6.length : Int) := of_decide_eq_true (by first | (with_reducible assumption) | assumption); obtain ⟨ad714, A714_6, c714_6, e714, hx714_0, hx714_1, hx714_2, hx714_3, hx714_4, hx714_5, hx714_6, hl714_6, hi714_6⟩ := at_T26 HR0_6.out x19_1 p714 q714; obtain rfl : ad700 = ad714 := (by injection e714); replace hx714_0 := (HB.out.cell (World.block_lt_of_cell? w _ hx714_0)).trans hx714_0; replace hx714_1 := (HB.out.cell (World.block_lt_of_cell? w _ hx714_1)).trans hx714_1; replace hx714_2 := (HB.out.cell (World.block_lt_of_cell? w _ hx714_2)).trans hx714_2; replace hx714_3 := (HB.out.cell (World.block_lt_of_cell? w _ hx714_3)).trans hx714_3; replace hx714_4 := (HB.out.cell (World.block_lt_of_cell? w _ hx714_4)).trans hx714_4; replace hx714_5 := (HB.out.cell (World.block_lt_of_cell? w _ hx714_5)).trans hx714_5; replace hx714_6 := (HB.out.cell (World.block_lt_of_cell? w _ hx714_6)).trans hx714_6; have HR714_6 := Aside0.mk hi714_6; have HC714_6 := Aside0.mk hl714_6; clear hi714_6 hl714_6; replace p714 := eq_true p714; replace q714 := eq_true q714; have ea_ := Option.some.inj (hx713_6.symm.trans hx714_6); injection ea_ with ea_ en_ ec_; subst ea_; subst ec_; clear en_))
                  go_roundg k1
                  case measure => have := HK1.out; omega
                  case rel => exact ⟨(wrap64 ((wrap64 (x1_1 + ((rd_T26 l0_6 x19_1).f1.f2))) + 1)), (wrap64 ((wrap64 (x2_1 + ((rd_T26 l0_6 x19_1).f1.f3))) + 1)), (y710), (wrap64 (x19_1 + 1)), (by first | rfl | (simp; done) | (simp [*]; done)), (by first | rfl | (simp; done) | (simp [*]; done)), (by first | rfl | (simp; done) | (simp [*]; done)), H', ⟨by have := HK1.out; omega⟩, ⟨by (with_reducible repeat (first | apply Kd.R_alloc | apply Kd.R_drewN | apply Kd.R_drew)); exact HO712.out⟩, ⟨by (with_reducible repeat (first | refine blk_drewN ?_ _ | refine blk_drew ?_ | refine blk_alloc ?_ _)); exact BK695.out⟩, ⟨by (with_reducible repeat (first | refine blk_drewN ?_ _ | refine blk_drew ?_ | refine blk_alloc ?_ _)); exact BK696.out⟩, ⟨by repeat (first | (with_reducible first | exact HB.out | apply below_alloc | apply pw_below_drewN | apply below_drew1 | refine below_set ?_ GE695.out | refine below_set ?_ GE696.out) | exact HB.out)⟩⟩
                · rw [if_neg c17] at H
                  have c17b0 : (a0_0 == 3) = false := beq_eq_false_iff_ne.mpr c17
                  have c17b1 : (a0_0 != 3) = true := bne_iff_ne.mpr c17
                  have H' := Aside0.mk H
                  clear H
                  have hnb24 := NB695_696.out
                  have hnc24 := NB696_695.out
                  have hcz25_0 : wr.cell? ⟨gb695, 0, none⟩ = some (.int .u8 a0_0) := (blk_cell BK695.out 0).trans rfl
                  have hcz25_1 : wr.cell? ⟨gb695, 1, none⟩ = some (.int .i64 a1) := (blk_cell BK695.out 1).trans rfl
                  have hcz25_2 : wr.cell? ⟨gb695, 2, none⟩ = some (.int .i64 a2) := (blk_cell BK695.out 2).trans rfl
                  have hcz25_3 : wr.cell? ⟨gb695, 3, none⟩ = some (.int .i64 a0_3) := (blk_cell BK695.out 3).trans rfl
                  have hcz25_4 : wr.cell? ⟨gb695, 4, none⟩ = some (.int .i64 a0_4) := (blk_cell BK695.out 4).trans rfl
                  have hcz25_5 : wr.cell? ⟨gb695, 5, none⟩ = some (.int .i64 a0_5) := (blk_cell BK695.out 5).trans rfl
                  have hcz25_6 : wr.cell? ⟨gb695, 6, none⟩ = some (.slice A0_6 l0_6.length c0_6) := (blk_cell BK695.out 6).trans rfl
                  have hfz25_0 := blk_frozen BK695.out 0
                  have hfz25_1 := blk_frozen BK695.out 1
                  have hfz25_2 := blk_frozen BK695.out 2
                  have hfz25_3 := blk_frozen BK695.out 3
                  have hfz25_4 := blk_frozen BK695.out 4
                  have hfz25_5 := blk_frozen BK695.out 5
                  have hfz25_6 := blk_frozen BK695.out 6
                  have p700 : 0 ≤ (x19_1 : Int) := of_decide_eq_true (by first | (with_reducible assumption) | assumption)
                  have q700 : x19_1 < (l0_6.length : Int) := of_decide_eq_true (by first | (with_reducible assumption) | assumption)
                  obtain ⟨ad700, A700_6, c700_6, e700, hx700_0, hx700_1, hx700_2, hx700_3, hx700_4, hx700_5, hx700_6, hl700_6, hi700_6⟩ := at_T26 HR0_6.out x19_1 p700 q700
                  cases e700
                  replace hx700_0 := (HB.out.cell (World.block_lt_of_cell? w _ hx700_0)).trans hx700_0
                  replace hx700_1 := (HB.out.cell (World.block_lt_of_cell? w _ hx700_1)).trans hx700_1
                  replace hx700_2 := (HB.out.cell (World.block_lt_of_cell? w _ hx700_2)).trans hx700_2
                  replace hx700_3 := (HB.out.cell (World.block_lt_of_cell? w _ hx700_3)).trans hx700_3
                  replace hx700_4 := (HB.out.cell (World.block_lt_of_cell? w _ hx700_4)).trans hx700_4
                  replace hx700_5 := (HB.out.cell (World.block_lt_of_cell? w _ hx700_5)).trans hx700_5
                  replace hx700_6 := (HB.out.cell (World.block_lt_of_cell? w _ hx700_6)).trans hx700_6
                  have HR700_6 := Aside0.mk hi700_6
                  have HC700_6 := Aside0.mk hl700_6
                  clear hi700_6 hl700_6
                  replace p700 := eq_true p700
                  replace q700 := eq_true q700
                  go_wp2_with (first | ((with_reducible refine gate_callee (f := 67) rfl ?_); refine goesL_ (some 30) rfl rfl Try.func67 (by kernel_rfl) rfl #[.agg #[.int .u8 ((rd_T26 l0_6 x19_1).f0), .int .i64 ((rd_T26 l0_6 x19_1).f1.f0), .int .i64 ((rd_T26 l0_6 x19_1).f1.f1), .int .i64 ((rd_T26 l0_6 x19_1).f1.f2), .int .i64 ((rd_T26 l0_6 x19_1).f1.f3), .int .i64 ((rd_T26 l0_6 x19_1).f2), .slice A700_6 ((rd_T26 l0_6 x19_1).f3).length c700_6], .int .i64 x1_1, .int .i64 x2_1] rfl (by (try simp only [List.map_toArray, List.map_cons, List.map_nil]); first | done | rfl | (simp only [List.length_drop, List.length_take]; rfl)) ?_; (with_reducible refine (ih k1 (by have := HK1.out; omega) ((rd_T26 l0_6 x19_1).f0) ((rd_T26 l0_6 x19_1).f1.f0) ((rd_T26 l0_6 x19_1).f1.f1) ((rd_T26 l0_6 x19_1).f1.f2) ((rd_T26 l0_6 x19_1).f1.f3) ((rd_T26 l0_6 x19_1).f2) _ _ ((rd_T26 l0_6 x19_1).f3) x1_1 x2_1 t701 t702 t703 t704 t705 t706 t707 _ ?side1 ?side2 A14.out).mono ?_); (case side1 => repeat (first | exact (Kd.C_below HR700_6.out HB.out) | (with_reducible refine Kd.C_alloc ?_ _) | (with_reducible refine Kd.C_drewN ?_ _) | (with_reducible refine Kd.C_drew ?_))); (case side2 => exact HC700_6.out); rintro e w26 ⟨v708, rfl, ho0, hb⟩; refine ⟨_, rfl, ?_⟩; have n0_ := Aside0.mk (Kd.R_elder' (by (with_reducible repeat (first | apply Kd.R_alloc | apply Kd.R_drewN | apply Kd.R_drew)); exact HO_7.out) (Kd.R_base ho0) hb); have n1_ := Aside0.mk (Kd.R_lower (Kd.R_newB (Kd.R_newB (Kd.R_new' ho0 (Kd.R_lt (by (with_reducible repeat (first | apply Kd.R_alloc | apply Kd.R_drewN | apply Kd.R_drew)); exact HO_7.out))) (g := gb695) (o := .cells #[.int .u8 a0_0, .int .i64 a1, .int .i64 a2, .int .i64 a0_3, .int .i64 a0_4, .int .i64 a0_5, .slice (some ad700) l0_6.length c0_6] 26 (0, 0)) (by (with_reducible repeat (first | refine blk_drewN ?_ _ | refine blk_drew ?_ | refine blk_alloc ?_ _)); exact BK695.out)) (g := gb696) (o := .cells #[.int .u8 0, .int .i64 0, .int .i64 0, .int .i64 0, .int .i64 0, .int .i64 0, .slice none 0 0] 26 (0, 0)) (by (with_reducible repeat (first | refine blk_drewN ?_ _ | refine blk_drew ?_ | refine blk_alloc ?_ _)); exact BK696.out)) (below_size (by repeat (first | (with_reducible first | exact HB.out | apply below_alloc | apply pw_below_drewN | apply below_drew1 | refine below_set ?_ GE695.out | refine below_set ?_ GE696.out) | exact HB.out)))); have n2_ := Aside0.mk (blk_below (g := gb695) (o := .cells #[.int .u8 a0_0, .int .i64 a1, .int .i64 a2, .int .i64 a0_3, .int .i64 a0_4, .int .i64 a0_5, .slice (some ad700) l0_6.length c0_6] 26 (0, 0)) (by (with_reducible repeat (first | refine blk_drewN ?_ _ | refine blk_drew ?_ | refine blk_alloc ?_ _)); exact BK695.out) hb); have n3_ := Aside0.mk (blk_below (g := gb696) (o := .cells #[.int .u8 0, .int .i64 0, .int .i64 0, .int .i64 0, .int .i64 0, .int .i64 0, .slice none 0 0] 26 (0, 0)) (by (with_reducible repeat (first | refine blk_drewN ?_ _ | refine blk_drew ?_ | refine blk_alloc ?_ _)); exact BK696.out) hb); have n4_ := Aside0.mk (below_step (by repeat (first | (with_reducible first | exact HB.out | apply below_alloc | apply pw_below_drewN | apply below_drew1 | refine below_set ?_ GE695.out | refine below_set ?_ GE696.out) | exact HB.out)) hb); clear HO_7; clear BK695; clear BK696; clear HB; have HO_7 := n0_; have HO709 := n1_; have BK695 := n2_; have BK696 := n3_; have HB := n4_; clear n0_ n1_ n2_ n3_ n4_; (try clear hb); (try clear hb2); (try clear hk); (try clear hi); (try clear ho0); obtain ⟨Ao28, co28, eo28⟩ := Kd.R_slice HO709.out; subst eo28) | ((with_reducible refine gate_builtin (b := .append) (xs := #[.tmp 22, .tmp 31]) rfl ?_); at_builtin; refine Kd.R_append k26 (w0 := w) w.heap.size rfl (.tmp 22) (.tmp 31) 24 26 (.agg #[(.int .u8 0), (.int .i64 0), (.int .i64 0), (.int .i64 0), (.int .i64 0), (.int .i64 0), (.slice none 0 0)]) 72 rfl Try.underlying24 info26 rfl (by decide) (by omega) u7 x7_1 (⟨t701, (⟨t702, t703, t704, t705⟩ : S23), t706, t707⟩ : S26) [.int .u8 t701, .int .i64 t702, .int .i64 t703, .int .i64 t704, .int .i64 t705, .int .i64 t706, .slice Ao28 t707.length co28] (fun k_ => k_ ≠ gb695 ∧ k_ ≠ gb696) (fun k_ => ((fun k_ => k_ ≠ gb695 ∧ k_ ≠ gb696)) k_ ∧ some k_ ≠ (u7 : Value).ownBlock) rfl rfl ?aP (fun _ hk => hk) ?aF ?aO ?aB ?aS ?aL ?_; (case aP => exact k26_mkM _ _ _ (⟨t701, (⟨t702, t703, t704, t705⟩ : S23), t706, t707⟩ : S26) (Kd.R_mono (HO709.out) (fun k_ hk => ⟨⟨hk.1.2, hk.2⟩, hk.1.1.2⟩))); (case aB => exact (by repeat (first | (with_reducible first | exact HB.out | apply below_alloc | apply pw_below_drewN | apply below_drew1 | refine below_set ?_ GE695.out | refine below_set ?_ GE696.out) | exact HB.out))); (case aF => exact (fun k_ hk => ⟨Kd.freshB (g := gb695) (o := .cells #[.int .u8 a0_0, .int .i64 a1, .int .i64 a2, .int .i64 a0_3, .int .i64 a0_4, .int .i64 a0_5, .slice (some ad700) l0_6.length c0_6] 26 (0, 0)) (by (with_reducible repeat (first | refine blk_drewN ?_ _ | refine blk_drew ?_ | refine blk_alloc ?_ _)); exact BK695.out) k_ hk, Kd.freshB (g := gb696) (o := .cells #[.int .u8 0, .int .i64 0, .int .i64 0, .int .i64 0, .int .i64 0, .int .i64 0, .slice none 0 0] 26 (0, 0)) (by (with_reducible repeat (first | refine blk_drewN ?_ _ | refine blk_drew ?_ | refine blk_alloc ?_ _)); exact BK696.out) k_ hk⟩)); (case aO => exact (by (with_reducible repeat (first | apply Kd.R_alloc | apply Kd.R_drewN | apply Kd.R_drew)); exact Kd.R_mono HO_7.out (fun _ hk => ⟨hk.1.1, hk.1.2⟩))); (case aS => exact (below_size (by repeat (first | (with_reducible first | exact HB.out | apply below_alloc | apply pw_below_drewN | apply below_drew1 | refine below_set ?_ GE695.out | refine below_set ?_ GE696.out) | exact HB.out)))); (case aL => have := LMc15.out; omega); intro v711 w27 ho hb hg hat; rw [← Ny710.out] at ho; have n0_ := Aside0.mk (blk_grown (g := gb695) (o := .cells #[.int .u8 a0_0, .int .i64 a1, .int .i64 a2, .int .i64 a0_3, .int .i64 a0_4, .int .i64 a0_5, .slice (some ad700) l0_6.length c0_6] 26 (0, 0)) (by (with_reducible repeat (first | refine blk_drewN ?_ _ | refine blk_drew ?_ | refine blk_alloc ?_ _)); exact BK695.out) hg (Kd.R_away HO_7.out (fun _ hk => hk.1.1))); have n1_ := Aside0.mk (blk_grown (g := gb696) (o := .cells #[.int .u8 0, .int .i64 0, .int .i64 0, .int .i64 0, .int .i64 0, .int .i64 0, .slice none 0 0] 26 (0, 0)) (by (with_reducible repeat (first | refine blk_drewN ?_ _ | refine blk_drew ?_ | refine blk_alloc ?_ _)); exact BK696.out) hg (Kd.R_away HO_7.out (fun _ hk => hk.1.2))); have n2_ := Aside0.mk (hb); have n3_ := Aside0.mk (ho); clear BK695; clear BK696; clear HB; clear HO_7; clear HO709; have BK695 := n0_; have BK696 := n1_; have HB := n2_; have HO712 := n3_; clear n0_ n1_ n2_ n3_; clear ho hb hg hat; have hcz29_0 : w27.cell? ⟨gb695, 0, none⟩ = some (.int .u8 a0_0) := (blk_cell BK695.out 0).trans rfl; have hcz29_1 : w27.cell? ⟨gb695, 1, none⟩ = some (.int .i64 a1) := (blk_cell BK695.out 1).trans rfl; have hcz29_2 : w27.cell? ⟨gb695, 2, none⟩ = some (.int .i64 a2) := (blk_cell BK695.out 2).trans rfl; have hcz29_3 : w27.cell? ⟨gb695, 3, none⟩ = some (.int .i64 a0_3) := (blk_cell BK695.out 3).trans rfl; have hcz29_4 : w27.cell? ⟨gb695, 4, none⟩ = some (.int .i64 a0_4) := (blk_cell BK695.out 4).trans rfl; have hcz29_5 : w27.cell? ⟨gb695, 5, none⟩ = some (.int .i64 a0_5) := (blk_cell BK695.out 5).trans rfl; have hcz29_6 : w27.cell? ⟨gb695, 6, none⟩ = some (.slice (some ad700) l0_6.length c0_6) := (blk_cell BK695.out 6).trans rfl; have hfz29_0 := blk_frozen BK695.out 0; have hfz29_1 := blk_frozen BK695.out 1; have hfz29_2 := blk_frozen BK695.out 2; have hfz29_3 := blk_frozen BK695.out 3; have hfz29_4 := blk_frozen BK695.out 4; have hfz29_5 := blk_frozen BK695.out 5; have hfz29_6 := blk_frozen BK695.out 6; have p713 : 0 ≤ (x19_1 : Int) := of_decide_eq_true (by first | (with_reducible assumption) | assumption); have q713 : x19_1 < (l0_6.length : Int) := of_decide_eq_true (by first | (with_reducible assumption) | assumption); obtain ⟨ad713, A713_6, c713_6, e713, hx713_0, hx713_1, hx713_2, hx713_3, hx713_4, hx713_5, hx713_6, hl713_6, hi713_6⟩ := at_T26 HR0_6.out x19_1 p713 q713; obtain rfl : ad700 = ad713 := (by injection e713); replace hx713_0 := (HB.out.cell (World.block_lt_of_cell? w _ hx713_0)).trans hx713_0; replace hx713_1 := (HB.out.cell (World.block_lt_of_cell? w _ hx713_1)).trans hx713_1; replace hx713_2 := (HB.out.cell (World.block_lt_of_cell? w _ hx713_2)).trans hx713_2; replace hx713_3 := (HB.out.cell (World.block_lt_of_cell? w _ hx713_3)).trans hx713_3; replace hx713_4 := (HB.out.cell (World.block_lt_of_cell? w _ hx713_4)).trans hx713_4; replace hx713_5 := (HB.out.cell (World.block_lt_of_cell? w _ hx713_5)).trans hx713_5; replace hx713_6 := (HB.out.cell (World.block_lt_of_cell? w _ hx713_6)).trans hx713_6; have HR713_6 := Aside0.mk hi713_6; have HC713_6 := Aside0.mk hl713_6; clear hi713_6 hl713_6; replace p713 := eq_true p713; replace q713 := eq_true q713))
                  go_roundg k1
                  case measure => have := HK1.out; omega
                  case rel => exact ⟨(wrap64 ((wrap64 (x1_1 + ((rd_T26 l0_6 x19_1).f1.f2))) + 1)), (x2_1), (y710), (wrap64 (x19_1 + 1)), (by first | rfl | (simp; done) | (simp [*]; done)), (by first | rfl | (simp; done) | (simp [*]; done)), (by first | rfl | (simp; done) | (simp [*]; done)), H', ⟨by have := HK1.out; omega⟩, ⟨by (with_reducible repeat (first | apply Kd.R_alloc | apply Kd.R_drewN | apply Kd.R_drew)); exact HO712.out⟩, ⟨by (with_reducible repeat (first | refine blk_drewN ?_ _ | refine blk_drew ?_ | refine blk_alloc ?_ _)); exact BK695.out⟩, ⟨by (with_reducible repeat (first | refine blk_drewN ?_ _ | refine blk_drew ?_ | refine blk_alloc ?_ _)); exact BK696.out⟩, ⟨by repeat (first | (with_reducible first | exact HB.out | apply below_alloc | apply pw_below_drewN | apply below_drew1 | refine below_set ?_ GE695.out | refine below_set ?_ GE696.out) | exact HB.out)⟩⟩
              · rw [if_neg c16] at H
                have c16b0 : (a0_0 == 2) = false := beq_eq_false_iff_ne.mpr c16
                have c16b1 : (a0_0 != 2) = true := bne_iff_ne.mpr c16
                by_cases c30 : a0_0 = 3
                · rw [if_pos c30] at H
                  have c30b0 : (a0_0 == 3) = true := beq_iff_eq.mpr c30
                  have c30b1 : (a0_0 != 3) = false := bne_eq_false_iff_eq.mpr c30
                  clear c30
                  have H' := Aside0.mk H
                  clear H
                  have hnb31 := NB695_696.out
                  have hnc31 := NB696_695.out
                  have hcz32_0 : wr.cell? ⟨gb695, 0, none⟩ = some (.int .u8 a0_0) := (blk_cell BK695.out 0).trans rfl
                  have hcz32_1 : wr.cell? ⟨gb695, 1, none⟩ = some (.int .i64 a1) := (blk_cell BK695.out 1).trans rfl
                  have hcz32_2 : wr.cell? ⟨gb695, 2, none⟩ = some (.int .i64 a2) := (blk_cell BK695.out 2).trans rfl
                  have hcz32_3 : wr.cell? ⟨gb695, 3, none⟩ = some (.int .i64 a0_3) := (blk_cell BK695.out 3).trans rfl
                  have hcz32_4 : wr.cell? ⟨gb695, 4, none⟩ = some (.int .i64 a0_4) := (blk_cell BK695.out 4).trans rfl
                  have hcz32_5 : wr.cell? ⟨gb695, 5, none⟩ = some (.int .i64 a0_5) := (blk_cell BK695.out 5).trans rfl
                  have hcz32_6 : wr.cell? ⟨gb695, 6, none⟩ = some (.slice A0_6 l0_6.length c0_6) := (blk_cell BK695.out 6).trans rfl
                  have hfz32_0 := blk_frozen BK695.out 0
                  have hfz32_1 := blk_frozen BK695.out 1
                  have hfz32_2 := blk_frozen BK695.out 2
                  have hfz32_3 := blk_frozen BK695.out 3
                  have hfz32_4 := blk_frozen BK695.out 4
                  have hfz32_5 := blk_frozen BK695.out 5
                  have hfz32_6 := blk_frozen BK695.out 6
                  have p700 : 0 ≤ (x19_1 : Int) := of_decide_eq_true (by first | (with_reducible assumption) | assumption)
                  have q700 : x19_1 < (l0_6.length : Int) := of_decide_eq_true (by first | (with_reducible assumption) | assumption)
                  obtain ⟨ad700, A700_6, c700_6, e700, hx700_0, hx700_1, hx700_2, hx700_3, hx700_4, hx700_5, hx700_6, hl700_6, hi700_6⟩ := at_T26 HR0_6.out x19_1 p700 q700
                  cases e700
                  replace hx700_0 := (HB.out.cell (World.block_lt_of_cell? w _ hx700_0)).trans hx700_0
                  replace hx700_1 := (HB.out.cell (World.block_lt_of_cell? w _ hx700_1)).trans hx700_1
                  replace hx700_2 := (HB.out.cell (World.block_lt_of_cell? w _ hx700_2)).trans hx700_2
                  replace hx700_3 := (HB.out.cell (World.block_lt_of_cell? w _ hx700_3)).trans hx700_3
                  replace hx700_4 := (HB.out.cell (World.block_lt_of_cell? w _ hx700_4)).trans hx700_4
                  replace hx700_5 := (HB.out.cell (World.block_lt_of_cell? w _ hx700_5)).trans hx700_5
                  replace hx700_6 := (HB.out.cell (World.block_lt_of_cell? w _ hx700_6)).trans hx700_6
                  have HR700_6 := Aside0.mk hi700_6
                  have HC700_6 := Aside0.mk hl700_6
                  clear hi700_6 hl700_6
                  replace p700 := eq_true p700
                  replace q700 := eq_true q700
                  go_wp2_with (first | ((with_reducible refine gate_callee (f := 67) rfl ?_); refine goesL_ (some 30) rfl rfl Try.func67 (by kernel_rfl) rfl #[.agg #[.int .u8 ((rd_T26 l0_6 x19_1).f0), .int .i64 ((rd_T26 l0_6 x19_1).f1.f0), .int .i64 ((rd_T26 l0_6 x19_1).f1.f1), .int .i64 ((rd_T26 l0_6 x19_1).f1.f2), .int .i64 ((rd_T26 l0_6 x19_1).f1.f3), .int .i64 ((rd_T26 l0_6 x19_1).f2), .slice A700_6 ((rd_T26 l0_6 x19_1).f3).length c700_6], .int .i64 x1_1, .int .i64 x2_1] rfl (by (try simp only [List.map_toArray, List.map_cons, List.map_nil]); first | done | rfl | (simp only [List.length_drop, List.length_take]; rfl)) ?_; (with_reducible refine (ih k1 (by have := HK1.out; omega) ((rd_T26 l0_6 x19_1).f0) ((rd_T26 l0_6 x19_1).f1.f0) ((rd_T26 l0_6 x19_1).f1.f1) ((rd_T26 l0_6 x19_1).f1.f2) ((rd_T26 l0_6 x19_1).f1.f3) ((rd_T26 l0_6 x19_1).f2) _ _ ((rd_T26 l0_6 x19_1).f3) x1_1 x2_1 t701 t702 t703 t704 t705 t706 t707 _ ?side1 ?side2 A14.out).mono ?_); (case side1 => repeat (first | exact (Kd.C_below HR700_6.out HB.out) | (with_reducible refine Kd.C_alloc ?_ _) | (with_reducible refine Kd.C_drewN ?_ _) | (with_reducible refine Kd.C_drew ?_))); (case side2 => exact HC700_6.out); rintro e w33 ⟨v708, rfl, ho0, hb⟩; refine ⟨_, rfl, ?_⟩; have n0_ := Aside0.mk (Kd.R_elder' (by (with_reducible repeat (first | apply Kd.R_alloc | apply Kd.R_drewN | apply Kd.R_drew)); exact HO_7.out) (Kd.R_base ho0) hb); have n1_ := Aside0.mk (Kd.R_lower (Kd.R_newB (Kd.R_newB (Kd.R_new' ho0 (Kd.R_lt (by (with_reducible repeat (first | apply Kd.R_alloc | apply Kd.R_drewN | apply Kd.R_drew)); exact HO_7.out))) (g := gb695) (o := .cells #[.int .u8 a0_0, .int .i64 a1, .int .i64 a2, .int .i64 a0_3, .int .i64 a0_4, .int .i64 a0_5, .slice (some ad700) l0_6.length c0_6] 26 (0, 0)) (by (with_reducible repeat (first | refine blk_drewN ?_ _ | refine blk_drew ?_ | refine blk_alloc ?_ _)); exact BK695.out)) (g := gb696) (o := .cells #[.int .u8 0, .int .i64 0, .int .i64 0, .int .i64 0, .int .i64 0, .int .i64 0, .slice none 0 0] 26 (0, 0)) (by (with_reducible repeat (first | refine blk_drewN ?_ _ | refine blk_drew ?_ | refine blk_alloc ?_ _)); exact BK696.out)) (below_size (by repeat (first | (with_reducible first | exact HB.out | apply below_alloc | apply pw_below_drewN | apply below_drew1 | refine below_set ?_ GE695.out | refine below_set ?_ GE696.out) | exact HB.out)))); have n2_ := Aside0.mk (blk_below (g := gb695) (o := .cells #[.int .u8 a0_0, .int .i64 a1, .int .i64 a2, .int .i64 a0_3, .int .i64 a0_4, .int .i64 a0_5, .slice (some ad700) l0_6.length c0_6] 26 (0, 0)) (by (with_reducible repeat (first | refine blk_drewN ?_ _ | refine blk_drew ?_ | refine blk_alloc ?_ _)); exact BK695.out) hb); have n3_ := Aside0.mk (blk_below (g := gb696) (o := .cells #[.int .u8 0, .int .i64 0, .int .i64 0, .int .i64 0, .int .i64 0, .int .i64 0, .slice none 0 0] 26 (0, 0)) (by (with_reducible repeat (first | refine blk_drewN ?_ _ | refine blk_drew ?_ | refine blk_alloc ?_ _)); exact BK696.out) hb); have n4_ := Aside0.mk (below_step (by repeat (first | (with_reducible first | exact HB.out | apply below_alloc | apply pw_below_drewN | apply below_drew1 | refine below_set ?_ GE695.out | refine below_set ?_ GE696.out) | exact HB.out)) hb); clear HO_7; clear BK695; clear BK696; clear HB; have HO_7 := n0_; have HO709 := n1_; have BK695 := n2_; have BK696 := n3_; have HB := n4_; clear n0_ n1_ n2_ n3_ n4_; (try clear hb); (try clear hb2); (try clear hk); (try clear hi); (try clear ho0); obtain ⟨Ao35, co35, eo35⟩ := Kd.R_slice HO709.out; subst eo35) | ((with_reducible refine gate_builtin (b := .append) (xs := #[.tmp 22, .tmp 31]) rfl ?_); at_builtin; refine Kd.R_append k26 (w0 := w) w.heap.size rfl (.tmp 22) (.tmp 31) 24 26 (.agg #[(.int .u8 0), (.int .i64 0), (.int .i64 0), (.int .i64 0), (.int .i64 0), (.int .i64 0), (.slice none 0 0)]) 72 rfl Try.underlying24 info26 rfl (by decide) (by omega) u7 x7_1 (⟨t701, (⟨t702, t703, t704, t705⟩ : S23), t706, t707⟩ : S26) [.int .u8 t701, .int .i64 t702, .int .i64 t703, .int .i64 t704, .int .i64 t705, .int .i64 t706, .slice Ao35 t707.length co35] (fun k_ => k_ ≠ gb695 ∧ k_ ≠ gb696) (fun k_ => ((fun k_ => k_ ≠ gb695 ∧ k_ ≠ gb696)) k_ ∧ some k_ ≠ (u7 : Value).ownBlock) rfl rfl ?aP (fun _ hk => hk) ?aF ?aO ?aB ?aS ?aL ?_; (case aP => exact k26_mkM _ _ _ (⟨t701, (⟨t702, t703, t704, t705⟩ : S23), t706, t707⟩ : S26) (Kd.R_mono (HO709.out) (fun k_ hk => ⟨⟨hk.1.2, hk.2⟩, hk.1.1.2⟩))); (case aB => exact (by repeat (first | (with_reducible first | exact HB.out | apply below_alloc | apply pw_below_drewN | apply below_drew1 | refine below_set ?_ GE695.out | refine below_set ?_ GE696.out) | exact HB.out))); (case aF => exact (fun k_ hk => ⟨Kd.freshB (g := gb695) (o := .cells #[.int .u8 a0_0, .int .i64 a1, .int .i64 a2, .int .i64 a0_3, .int .i64 a0_4, .int .i64 a0_5, .slice (some ad700) l0_6.length c0_6] 26 (0, 0)) (by (with_reducible repeat (first | refine blk_drewN ?_ _ | refine blk_drew ?_ | refine blk_alloc ?_ _)); exact BK695.out) k_ hk, Kd.freshB (g := gb696) (o := .cells #[.int .u8 0, .int .i64 0, .int .i64 0, .int .i64 0, .int .i64 0, .int .i64 0, .slice none 0 0] 26 (0, 0)) (by (with_reducible repeat (first | refine blk_drewN ?_ _ | refine blk_drew ?_ | refine blk_alloc ?_ _)); exact BK696.out) k_ hk⟩)); (case aO => exact (by (with_reducible repeat (first | apply Kd.R_alloc | apply Kd.R_drewN | apply Kd.R_drew)); exact Kd.R_mono HO_7.out (fun _ hk => ⟨hk.1.1, hk.1.2⟩))); (case aS => exact (below_size (by repeat (first | (with_reducible first | exact HB.out | apply below_alloc | apply pw_below_drewN | apply below_drew1 | refine below_set ?_ GE695.out | refine below_set ?_ GE696.out) | exact HB.out)))); (case aL => have := LMc15.out; omega); intro v711 w34 ho hb hg hat; rw [← Ny710.out] at ho; have n0_ := Aside0.mk (blk_grown (g := gb695) (o := .cells #[.int .u8 a0_0, .int .i64 a1, .int .i64 a2, .int .i64 a0_3, .int .i64 a0_4, .int .i64 a0_5, .slice (some ad700) l0_6.length c0_6] 26 (0, 0)) (by (with_reducible repeat (first | refine blk_drewN ?_ _ | refine blk_drew ?_ | refine blk_alloc ?_ _)); exact BK695.out) hg (Kd.R_away HO_7.out (fun _ hk => hk.1.1))); have n1_ := Aside0.mk (blk_grown (g := gb696) (o := .cells #[.int .u8 0, .int .i64 0, .int .i64 0, .int .i64 0, .int .i64 0, .int .i64 0, .slice none 0 0] 26 (0, 0)) (by (with_reducible repeat (first | refine blk_drewN ?_ _ | refine blk_drew ?_ | refine blk_alloc ?_ _)); exact BK696.out) hg (Kd.R_away HO_7.out (fun _ hk => hk.1.2))); have n2_ := Aside0.mk (hb); have n3_ := Aside0.mk (ho); clear BK695; clear BK696; clear HB; clear HO_7; clear HO709; have BK695 := n0_; have BK696 := n1_; have HB := n2_; have HO712 := n3_; clear n0_ n1_ n2_ n3_; clear ho hb hg hat; have hcz36_0 : w34.cell? ⟨gb695, 0, none⟩ = some (.int .u8 a0_0) := (blk_cell BK695.out 0).trans rfl; have hcz36_1 : w34.cell? ⟨gb695, 1, none⟩ = some (.int .i64 a1) := (blk_cell BK695.out 1).trans rfl; have hcz36_2 : w34.cell? ⟨gb695, 2, none⟩ = some (.int .i64 a2) := (blk_cell BK695.out 2).trans rfl; have hcz36_3 : w34.cell? ⟨gb695, 3, none⟩ = some (.int .i64 a0_3) := (blk_cell BK695.out 3).trans rfl; have hcz36_4 : w34.cell? ⟨gb695, 4, none⟩ = some (.int .i64 a0_4) := (blk_cell BK695.out 4).trans rfl; have hcz36_5 : w34.cell? ⟨gb695, 5, none⟩ = some (.int .i64 a0_5) := (blk_cell BK695.out 5).trans rfl; have hcz36_6 : w34.cell? ⟨gb695, 6, none⟩ = some (.slice (some ad700) l0_6.length c0_6) := (blk_cell BK695.out 6).trans rfl; have hfz36_0 := blk_frozen BK695.out 0; have hfz36_1 := blk_frozen BK695.out 1; have hfz36_2 := blk_frozen BK695.out 2; have hfz36_3 := blk_frozen BK695.out 3; have hfz36_4 := blk_frozen BK695.out 4; have hfz36_5 := blk_frozen BK695.out 5; have hfz36_6 := blk_frozen BK695.out 6; have p715 : 0 ≤ (x19_1 : Int) := of_decide_eq_true (by first | (with_reducible assumption) | assumption); have q715 : x19_1 < (l0_6.length : Int) := of_decide_eq_true (by first | (with_reducible assumption) | assumption); obtain ⟨ad715, A715_6, c715_6, e715, hx715_0, hx715_1, hx715_2, hx715_3, hx715_4, hx715_5, hx715_6, hl715_6, hi715_6⟩ := at_T26 HR0_6.out x19_1 p715 q715; obtain rfl : ad700 = ad715 := (by injection e715); replace hx715_0 := (HB.out.cell (World.block_lt_of_cell? w _ hx715_0)).trans hx715_0; replace hx715_1 := (HB.out.cell (World.block_lt_of_cell? w _ hx715_1)).trans hx715_1; replace hx715_2 := (HB.out.cell (World.block_lt_of_cell? w _ hx715_2)).trans hx715_2; replace hx715_3 := (HB.out.cell (World.block_lt_of_cell? w _ hx715_3)).trans hx715_3; replace hx715_4 := (HB.out.cell (World.block_lt_of_cell? w _ hx715_4)).trans hx715_4; replace hx715_5 := (HB.out.cell (World.block_lt_of_cell? w _ hx715_5)).trans hx715_5; replace hx715_6 := (HB.out.cell (World.block_lt_of_cell? w _ hx715_6)).trans hx715_6; have HR715_6 := Aside0.mk hi715_6; have HC715_6 := Aside0.mk hl715_6; clear hi715_6 hl715_6; replace p715 := eq_true p715; replace q715 := eq_true q715))
                  go_roundg k1
                  case measure => have := HK1.out; omega
                  case rel => exact ⟨(x1_1), (wrap64 ((wrap64 (x2_1 + ((rd_T26 l0_6 x19_1).f1.f3))) + 1)), (y710), (wrap64 (x19_1 + 1)), (by first | rfl | (simp; done) | (simp [*]; done)), (by first | rfl | (simp; done) | (simp [*]; done)), (by first | rfl | (simp; done) | (simp [*]; done)), H', ⟨by have := HK1.out; omega⟩, ⟨by (with_reducible repeat (first | apply Kd.R_alloc | apply Kd.R_drewN | apply Kd.R_drew)); exact HO712.out⟩, ⟨by (with_reducible repeat (first | refine blk_drewN ?_ _ | refine blk_drew ?_ | refine blk_alloc ?_ _)); exact BK695.out⟩, ⟨by (with_reducible repeat (first | refine blk_drewN ?_ _ | refine blk_drew ?_ | refine blk_alloc ?_ _)); exact BK696.out⟩, ⟨by repeat (first | (with_reducible first | exact HB.out | apply below_alloc | apply pw_below_drewN | apply below_drew1 | refine below_set ?_ GE695.out | refine below_set ?_ GE696.out) | exact HB.out)⟩⟩
                · rw [if_neg c30] at H
                  have c30b0 : (a0_0 == 3) = false := beq_eq_false_iff_ne.mpr c30
                  have c30b1 : (a0_0 != 3) = true := bne_iff_ne.mpr c30
                  have H' := Aside0.mk H
                  clear H
                  have hnb37 := NB695_696.out
                  have hnc37 := NB696_695.out
                  have hcz38_0 : wr.cell? ⟨gb695, 0, none⟩ = some (.int .u8 a0_0) := (blk_cell BK695.out 0).trans rfl
                  have hcz38_1 : wr.cell? ⟨gb695, 1, none⟩ = some (.int .i64 a1) := (blk_cell BK695.out 1).trans rfl
                  have hcz38_2 : wr.cell? ⟨gb695, 2, none⟩ = some (.int .i64 a2) := (blk_cell BK695.out 2).trans rfl
                  have hcz38_3 : wr.cell? ⟨gb695, 3, none⟩ = some (.int .i64 a0_3) := (blk_cell BK695.out 3).trans rfl
                  have hcz38_4 : wr.cell? ⟨gb695, 4, none⟩ = some (.int .i64 a0_4) := (blk_cell BK695.out 4).trans rfl
                  have hcz38_5 : wr.cell? ⟨gb695, 5, none⟩ = some (.int .i64 a0_5) := (blk_cell BK695.out 5).trans rfl
                  have hcz38_6 : wr.cell? ⟨gb695, 6, none⟩ = some (.slice A0_6 l0_6.length c0_6) := (blk_cell BK695.out 6).trans rfl
                  have hfz38_0 := blk_frozen BK695.out 0
                  have hfz38_1 := blk_frozen BK695.out 1
                  have hfz38_2 := blk_frozen BK695.out 2
                  have hfz38_3 := blk_frozen BK695.out 3
                  have hfz38_4 := blk_frozen BK695.out 4
                  have hfz38_5 := blk_frozen BK695.out 5
                  have hfz38_6 := blk_frozen BK695.out 6
                  have p700 : 0 ≤ (x19_1 : Int) := of_decide_eq_true (by first | (with_reducible assumption) | assumption)
                  have q700 : x19_1 < (l0_6.length : Int) := of_decide_eq_true (by first | (with_reducible assumption) | assumption)
                  obtain ⟨ad700, A700_6, c700_6, e700, hx700_0, hx700_1, hx700_2, hx700_3, hx700_4, hx700_5, hx700_6, hl700_6, hi700_6⟩ := at_T26 HR0_6.out x19_1 p700 q700
                  cases e700
                  replace hx700_0 := (HB.out.cell (World.block_lt_of_cell? w _ hx700_0)).trans hx700_0
                  replace hx700_1 := (HB.out.cell (World.block_lt_of_cell? w _ hx700_1)).trans hx700_1
                  replace hx700_2 := (HB.out.cell (World.block_lt_of_cell? w _ hx700_2)).trans hx700_2
                  replace hx700_3 := (HB.out.cell (World.block_lt_of_cell? w _ hx700_3)).trans hx700_3
                  replace hx700_4 := (HB.out.cell (World.block_lt_of_cell? w _ hx700_4)).trans hx700_4
                  replace hx700_5 := (HB.out.cell (World.block_lt_of_cell? w _ hx700_5)).trans hx700_5
                  replace hx700_6 := (HB.out.cell (World.block_lt_of_cell? w _ hx700_6)).trans hx700_6
                  have HR700_6 := Aside0.mk hi700_6
                  have HC700_6 := Aside0.mk hl700_6
                  clear hi700_6 hl700_6
                  replace p700 := eq_true p700
                  replace q700 := eq_true q700
                  go_wp2_with (first | ((with_reducible refine gate_callee (f := 67) rfl ?_); refine goesL_ (some 30) rfl rfl Try.func67 (by kernel_rfl) rfl #[.agg #[.int .u8 ((rd_T26 l0_6 x19_1).f0), .int .i64 ((rd_T26 l0_6 x19_1).f1.f0), .int .i64 ((rd_T26 l0_6 x19_1).f1.f1), .int .i64 ((rd_T26 l0_6 x19_1).f1.f2), .int .i64 ((rd_T26 l0_6 x19_1).f1.f3), .int .i64 ((rd_T26 l0_6 x19_1).f2), .slice A700_6 ((rd_T26 l0_6 x19_1).f3).length c700_6], .int .i64 x1_1, .int .i64 x2_1] rfl (by (try simp only [List.map_toArray, List.map_cons, List.map_nil]); first | done | rfl | (simp only [List.length_drop, List.length_take]; rfl)) ?_; (with_reducible refine (ih k1 (by have := HK1.out; omega) ((rd_T26 l0_6 x19_1).f0) ((rd_T26 l0_6 x19_1).f1.f0) ((rd_T26 l0_6 x19_1).f1.f1) ((rd_T26 l0_6 x19_1).f1.f2) ((rd_T26 l0_6 x19_1).f1.f3) ((rd_T26 l0_6 x19_1).f2) _ _ ((rd_T26 l0_6 x19_1).f3) x1_1 x2_1 t701 t702 t703 t704 t705 t706 t707 _ ?side1 ?side2 A14.out).mono ?_); (case side1 => repeat (first | exact (Kd.C_below HR700_6.out HB.out) | (with_reducible refine Kd.C_alloc ?_ _) | (with_reducible refine Kd.C_drewN ?_ _) | (with_reducible refine Kd.C_drew ?_))); (case side2 => exact HC700_6.out); rintro e w39 ⟨v708, rfl, ho0, hb⟩; refine ⟨_, rfl, ?_⟩; have n0_ := Aside0.mk (Kd.R_elder' (by (with_reducible repeat (first | apply Kd.R_alloc | apply Kd.R_drewN | apply Kd.R_drew)); exact HO_7.out) (Kd.R_base ho0) hb); have n1_ := Aside0.mk (Kd.R_lower (Kd.R_newB (Kd.R_newB (Kd.R_new' ho0 (Kd.R_lt (by (with_reducible repeat (first | apply Kd.R_alloc | apply Kd.R_drewN | apply Kd.R_drew)); exact HO_7.out))) (g := gb695) (o := .cells #[.int .u8 a0_0, .int .i64 a1, .int .i64 a2, .int .i64 a0_3, .int .i64 a0_4, .int .i64 a0_5, .slice (some ad700) l0_6.length c0_6] 26 (0, 0)) (by (with_reducible repeat (first | refine blk_drewN ?_ _ | refine blk_drew ?_ | refine blk_alloc ?_ _)); exact BK695.out)) (g := gb696) (o := .cells #[.int .u8 0, .int .i64 0, .int .i64 0, .int .i64 0, .int .i64 0, .int .i64 0, .slice none 0 0] 26 (0, 0)) (by (with_reducible repeat (first | refine blk_drewN ?_ _ | refine blk_drew ?_ | refine blk_alloc ?_ _)); exact BK696.out)) (below_size (by repeat (first | (with_reducible first | exact HB.out | apply below_alloc | apply pw_below_drewN | apply below_drew1 | refine below_set ?_ GE695.out | refine below_set ?_ GE696.out) | exact HB.out)))); have n2_ := Aside0.mk (blk_below (g := gb695) (o := .cells #[.int .u8 a0_0, .int .i64 a1, .int .i64 a2, .int .i64 a0_3, .int .i64 a0_4, .int .i64 a0_5, .slice (some ad700) l0_6.length c0_6] 26 (0, 0)) (by (with_reducible repeat (first | refine blk_drewN ?_ _ | refine blk_drew ?_ | refine blk_alloc ?_ _)); exact BK695.out) hb); have n3_ := Aside0.mk (blk_below (g := gb696) (o := .cells #[.int .u8 0, .int .i64 0, .int .i64 0, .int .i64 0, .int .i64 0, .int .i64 0, .slice none 0 0] 26 (0, 0)) (by (with_reducible repeat (first | refine blk_drewN ?_ _ | refine blk_drew ?_ | refine blk_alloc ?_ _)); exact BK696.out) hb); have n4_ := Aside0.mk (below_step (by repeat (first | (with_reducible first | exact HB.out | apply below_alloc | apply pw_below_drewN | apply below_drew1 | refine below_set ?_ GE695.out | refine below_set ?_ GE696.out) | exact HB.out)) hb); clear HO_7; clear BK695; clear BK696; clear HB; have HO_7 := n0_; have HO709 := n1_; have BK695 := n2_; have BK696 := n3_; have HB := n4_; clear n0_ n1_ n2_ n3_ n4_; (try clear hb); (try clear hb2); (try clear hk); (try clear hi); (try clear ho0); obtain ⟨Ao41, co41, eo41⟩ := Kd.R_slice HO709.out; subst eo41) | ((with_reducible refine gate_builtin (b := .append) (xs := #[.tmp 22, .tmp 31]) rfl ?_); at_builtin; refine Kd.R_append k26 (w0 := w) w.heap.size rfl (.tmp 22) (.tmp 31) 24 26 (.agg #[(.int .u8 0), (.int .i64 0), (.int .i64 0), (.int .i64 0), (.int .i64 0), (.int .i64 0), (.slice none 0 0)]) 72 rfl Try.underlying24 info26 rfl (by decide) (by omega) u7 x7_1 (⟨t701, (⟨t702, t703, t704, t705⟩ : S23), t706, t707⟩ : S26) [.int .u8 t701, .int .i64 t702, .int .i64 t703, .int .i64 t704, .int .i64 t705, .int .i64 t706, .slice Ao41 t707.length co41] (fun k_ => k_ ≠ gb695 ∧ k_ ≠ gb696) (fun k_ => ((fun k_ => k_ ≠ gb695 ∧ k_ ≠ gb696)) k_ ∧ some k_ ≠ (u7 : Value).ownBlock) rfl rfl ?aP (fun _ hk => hk) ?aF ?aO ?aB ?aS ?aL ?_; (case aP => exact k26_mkM _ _ _ (⟨t701, (⟨t702, t703, t704, t705⟩ : S23), t706, t707⟩ : S26) (Kd.R_mono (HO709.out) (fun k_ hk => ⟨⟨hk.1.2, hk.2⟩, hk.1.1.2⟩))); (case aB => exact (by repeat (first | (with_reducible first | exact HB.out | apply below_alloc | apply pw_below_drewN | apply below_drew1 | refine below_set ?_ GE695.out | refine below_set ?_ GE696.out) | exact HB.out))); (case aF => exact (fun k_ hk => ⟨Kd.freshB (g := gb695) (o := .cells #[.int .u8 a0_0, .int .i64 a1, .int .i64 a2, .int .i64 a0_3, .int .i64 a0_4, .int .i64 a0_5, .slice (some ad700) l0_6.length c0_6] 26 (0, 0)) (by (with_reducible repeat (first | refine blk_drewN ?_ _ | refine blk_drew ?_ | refine blk_alloc ?_ _)); exact BK695.out) k_ hk, Kd.freshB (g := gb696) (o := .cells #[.int .u8 0, .int .i64 0, .int .i64 0, .int .i64 0, .int .i64 0, .int .i64 0, .slice none 0 0] 26 (0, 0)) (by (with_reducible repeat (first | refine blk_drewN ?_ _ | refine blk_drew ?_ | refine blk_alloc ?_ _)); exact BK696.out) k_ hk⟩)); (case aO => exact (by (with_reducible repeat (first | apply Kd.R_alloc | apply Kd.R_drewN | apply Kd.R_drew)); exact Kd.R_mono HO_7.out (fun _ hk => ⟨hk.1.1, hk.1.2⟩))); (case aS => exact (below_size (by repeat (first | (with_reducible first | exact HB.out | apply below_alloc | apply pw_below_drewN | apply below_drew1 | refine below_set ?_ GE695.out | refine below_set ?_ GE696.out) | exact HB.out)))); (case aL => have := LMc15.out; omega); intro v711 w40 ho hb hg hat; rw [← Ny710.out] at ho; have n0_ := Aside0.mk (blk_grown (g := gb695) (o := .cells #[.int .u8 a0_0, .int .i64 a1, .int .i64 a2, .int .i64 a0_3, .int .i64 a0_4, .int .i64 a0_5, .slice (some ad700) l0_6.length c0_6] 26 (0, 0)) (by (with_reducible repeat (first | refine blk_drewN ?_ _ | refine blk_drew ?_ | refine blk_alloc ?_ _)); exact BK695.out) hg (Kd.R_away HO_7.out (fun _ hk => hk.1.1))); have n1_ := Aside0.mk (blk_grown (g := gb696) (o := .cells #[.int .u8 0, .int .i64 0, .int .i64 0, .int .i64 0, .int .i64 0, .int .i64 0, .slice none 0 0] 26 (0, 0)) (by (with_reducible repeat (first | refine blk_drewN ?_ _ | refine blk_drew ?_ | refine blk_alloc ?_ _)); exact BK696.out) hg (Kd.R_away HO_7.out (fun _ hk => hk.1.2))); have n2_ := Aside0.mk (hb); have n3_ := Aside0.mk (ho); clear BK695; clear BK696; clear HB; clear HO_7; clear HO709; have BK695 := n0_; have BK696 := n1_; have HB := n2_; have HO712 := n3_; clear n0_ n1_ n2_ n3_; clear ho hb hg hat; have hcz42_0 : w40.cell? ⟨gb695, 0, none⟩ = some (.int .u8 a0_0) := (blk_cell BK695.out 0).trans rfl; have hcz42_1 : w40.cell? ⟨gb695, 1, none⟩ = some (.int .i64 a1) := (blk_cell BK695.out 1).trans rfl; have hcz42_2 : w40.cell? ⟨gb695, 2, none⟩ = some (.int .i64 a2) := (blk_cell BK695.out 2).trans rfl; have hcz42_3 : w40.cell? ⟨gb695, 3, none⟩ = some (.int .i64 a0_3) := (blk_cell BK695.out 3).trans rfl; have hcz42_4 : w40.cell? ⟨gb695, 4, none⟩ = some (.int .i64 a0_4) := (blk_cell BK695.out 4).trans rfl; have hcz42_5 : w40.cell? ⟨gb695, 5, none⟩ = some (.int .i64 a0_5) := (blk_cell BK695.out 5).trans rfl; have hcz42_6 : w40.cell? ⟨gb695, 6, none⟩ = some (.slice (some ad700) l0_6.length c0_6) := (blk_cell BK695.out 6).trans rfl; have hfz42_0 := blk_frozen BK695.out 0; have hfz42_1 := blk_frozen BK695.out 1; have hfz42_2 := blk_frozen BK695.out 2; have hfz42_3 := blk_frozen BK695.out 3; have hfz42_4 := blk_frozen BK695.out 4; have hfz42_5 := blk_frozen BK695.out 5; have hfz42_6 := blk_frozen BK695.out 6))
                  go_roundg k1
                  case measure => have := HK1.out; omega
                  case rel => exact ⟨(x1_1), (x2_1), (y710), (wrap64 (x19_1 + 1)), (by first | rfl | (simp; done) | (simp [*]; done)), (by first | rfl | (simp; done) | (simp [*]; done)), (by first | rfl | (simp; done) | (simp [*]; done)), H', ⟨by have := HK1.out; omega⟩, ⟨by (with_reducible repeat (first | apply Kd.R_alloc | apply Kd.R_drewN | apply Kd.R_drew)); exact HO712.out⟩, ⟨by (with_reducible repeat (first | refine blk_drewN ?_ _ | refine blk_drew ?_ | refine blk_alloc ?_ _)); exact BK695.out⟩, ⟨by (with_reducible repeat (first | refine blk_drewN ?_ _ | refine blk_drew ?_ | refine blk_alloc ?_ _)); exact BK696.out⟩, ⟨by repeat (first | (with_reducible first | exact HB.out | apply below_alloc | apply pw_below_drewN | apply below_drew1 | refine below_set ?_ GE695.out | refine below_set ?_ GE696.out) | exact HB.out)⟩⟩
            · rw [if_neg c15] at H
              exact absurd H (by simp)
          · rw [if_neg c13] at H
            exact absurd H (by simp)
        · rw [if_neg c12] at H
          exact absurd H (by simp)
      · rw [if_neg c11] at H
        have c11b0 : decide (x19_1 < (l0_6.length : Int)) = false := decide_eq_false c11
        clear c11
        simp only [Option.some.injEq, Prod.mk.injEq] at H
        obtain ⟨rfl, rfl, rfl, rfl, rfl, rfl, rfl⟩ := H
        obtain ⟨Ao43, co43, eo43⟩ := Kd.R_slice HO_7.out
        subst eo43
        have hnb44 := NB695_696.out
        have hnc44 := NB696_695.out
        have hcz45_0 : wr.cell? ⟨gb695, 0, none⟩ = some (.int .u8 a0_0) := (blk_cell BK695.out 0).trans rfl
        have hcz45_1 : wr.cell? ⟨gb695, 1, none⟩ = some (.int .i64 a1) := (blk_cell BK695.out 1).trans rfl
        have hcz45_2 : wr.cell? ⟨gb695, 2, none⟩ = some (.int .i64 a2) := (blk_cell BK695.out 2).trans rfl
        have hcz45_3 : wr.cell? ⟨gb695, 3, none⟩ = some (.int .i64 a0_3) := (blk_cell BK695.out 3).trans rfl
        have hcz45_4 : wr.cell? ⟨gb695, 4, none⟩ = some (.int .i64 a0_4) := (blk_cell BK695.out 4).trans rfl
        have hcz45_5 : wr.cell? ⟨gb695, 5, none⟩ = some (.int .i64 a0_5) := (blk_cell BK695.out 5).trans rfl
        have hcz45_6 : wr.cell? ⟨gb695, 6, none⟩ = some (.slice A0_6 l0_6.length c0_6) := (blk_cell BK695.out 6).trans rfl
        have hfz45_0 := blk_frozen BK695.out 0
        have hfz45_1 := blk_frozen BK695.out 1
        have hfz45_2 := blk_frozen BK695.out 2
        have hfz45_3 := blk_frozen BK695.out 3
        have hfz45_4 := blk_frozen BK695.out 4
        have hfz45_5 := blk_frozen BK695.out 5
        have hfz45_6 := blk_frozen BK695.out 6
        have hcz46_0 : wr.cell? ⟨gb696, 0, none⟩ = some (.int .u8 0) := (blk_cell BK696.out 0).trans rfl
        have hcz46_1 : wr.cell? ⟨gb696, 1, none⟩ = some (.int .i64 0) := (blk_cell BK696.out 1).trans rfl
        have hcz46_2 : wr.cell? ⟨gb696, 2, none⟩ = some (.int .i64 0) := (blk_cell BK696.out 2).trans rfl
        have hcz46_3 : wr.cell? ⟨gb696, 3, none⟩ = some (.int .i64 0) := (blk_cell BK696.out 3).trans rfl
        have hcz46_4 : wr.cell? ⟨gb696, 4, none⟩ = some (.int .i64 0) := (blk_cell BK696.out 4).trans rfl
        have hcz46_5 : wr.cell? ⟨gb696, 5, none⟩ = some (.int .i64 0) := (blk_cell BK696.out 5).trans rfl
        have hcz46_6 : wr.cell? ⟨gb696, 6, none⟩ = some (.slice none 0 0) := (blk_cell BK696.out 6).trans rfl
        have hfz46_0 := blk_frozen BK696.out 0
        have hfz46_1 := blk_frozen BK696.out 1
        have hfz46_2 := blk_frozen BK696.out 2
        have hfz46_3 := blk_frozen BK696.out 3
        have hfz46_4 := blk_frozen BK696.out 4
        have hfz46_5 := blk_frozen BK696.out 5
        have hfz46_6 := blk_frozen BK696.out 6
        go_wp2
        refine bodyPost_ret (results_cell_row rfl _ _ gb696 26 #[.int .u8 a0_0, .int .i64 a1, .int .i64 a2, .int .i64 a0_3, .int .i64 a0_4, .int .i64 a0_5, .slice Ao43 x7_1.length co43] (0, 0) _ rfl (by (with_reducible repeat (first | refine blk_drewN ?_ _ | refine blk_drew ?_ | refine blk_alloc ?_ _)); refine blk_put (cs := #[.int .u8 a0_0, .int .i64 a1, .int .i64 a2, .int .i64 a0_3, .int .i64 a0_4, .int .i64 a0_5, .slice none 0 0]) ?_ 6 _ rfl; (with_reducible repeat (first | refine blk_drewN ?_ _ | refine blk_drew ?_ | refine blk_alloc ?_ _)); refine blk_put (cs := #[.int .u8 a0_0, .int .i64 a1, .int .i64 a2, .int .i64 a0_3, .int .i64 a0_4, .int .i64 0, .slice none 0 0]) ?_ 5 _ rfl; (with_reducible repeat (first | refine blk_drewN ?_ _ | refine blk_drew ?_ | refine blk_alloc ?_ _)); refine blk_put (cs := #[.int .u8 a0_0, .int .i64 a1, .int .i64 a2, .int .i64 a0_3, .int .i64 0, .int .i64 0, .slice none 0 0]) ?_ 4 _ rfl; (with_reducible repeat (first | refine blk_drewN ?_ _ | refine blk_drew ?_ | refine blk_alloc ?_ _)); refine blk_put (cs := #[.int .u8 a0_0, .int .i64 a1, .int .i64 a2, .int .i64 0, .int .i64 0, .int .i64 0, .slice none 0 0]) ?_ 3 _ rfl; (with_reducible repeat (first | refine blk_drewN ?_ _ | refine blk_drew ?_ | refine blk_alloc ?_ _)); refine blk_put (cs := #[.int .u8 a0_0, .int .i64 a1, .int .i64 0, .int .i64 0, .int .i64 0, .int .i64 0, .slice none 0 0]) ?_ 2 _ rfl; (with_reducible repeat (first | refine blk_drewN ?_ _ | refine blk_drew ?_ | refine blk_alloc ?_ _)); refine blk_put (cs := #[.int .u8 a0_0, .int .i64 0, .int .i64 0, .int .i64 0, .int .i64 0, .int .i64 0, .slice none 0 0]) ?_ 1 _ rfl; (with_reducible repeat (first | refine blk_drewN ?_ _ | refine blk_drew ?_ | refine blk_alloc ?_ _)); refine blk_put (cs := #[.int .u8 0, .int .i64 0, .int .i64 0, .int .i64 0, .int .i64 0, .int .i64 0, .slice none 0 0]) ?_ 0 _ rfl; (with_reducible repeat (first | refine blk_drewN ?_ _ | refine blk_drew ?_ | refine blk_alloc ?_ _)); refine blk_far ?_ NB696_695.out _; (with_reducible repeat (first | refine blk_drewN ?_ _ | refine blk_drew ?_ | refine blk_alloc ?_ _)); exact BK696.out) Try.underlying26 rfl (by kernel_rfl)) rfl ?_
        exact ⟨_, by first | rfl | (simp [errW_none, errW_some] <;> rfl) | (simp [*, errW_none, errW_some] <;> rfl), by (with_reducible repeat (first | apply Kd.R_alloc | apply Kd.R_drewN | apply Kd.R_drew)); exact Kd.R_mono (Kd.R_far (p := ⟨gb696, 6, none⟩) (Kd.R_far (p := ⟨gb696, 5, none⟩) (Kd.R_far (p := ⟨gb696, 4, none⟩) (Kd.R_far (p := ⟨gb696, 3, none⟩) (Kd.R_far (p := ⟨gb696, 2, none⟩) (Kd.R_far (p := ⟨gb696, 1, none⟩) (Kd.R_far (p := ⟨gb696, 0, none⟩) (Kd.R_far (p := ⟨gb695, 6, none⟩) (Kd.R_mono (Kd.R_mono HO_7.out (fun k_ hk => (⟨hk, hk.1⟩ : _ ∧ k_ ≠ gb695))) (fun k_ hk => (⟨hk, hk.1.2⟩ : _ ∧ k_ ≠ gb696))) (fun _ hk => hk.1.2) (.slice Ao43 x7_1.length co43)) (fun _ hk => hk.2) (.int .u8 a0_0)) (fun _ hk => hk.2) (.int .i64 a1)) (fun _ hk => hk.2) (.int .i64 a2)) (fun _ hk => hk.2) (.int .i64 a0_3)) (fun _ hk => hk.2) (.int .i64 a0_4)) (fun _ hk => hk.2) (.int .i64 a0_5)) (fun _ hk => hk.2) (.slice Ao43 x7_1.length co43)) (fun _ hk => trivial), by repeat (first | (with_reducible first | exact HB.out | apply below_alloc | apply pw_below_drewN | apply below_drew1 | refine below_set ?_ GE695.out | refine below_set ?_ GE696.out) | exact HB.out)⟩

end Go.Proofs.Ytfdmfgaiblfbhaa.P
/- A store into a block of one's own, as an event: the world behind it is a letter. -/
namespace Go.Proofs.Ytfdmfgaiblfbhaa.P
open Go.RowKit Go.Proofs.YtfdmfgaiblfbhaaW.PrintWords Go.Proofs.YtfdmfgaiblfbhaaW.PrintLast Go.Proofs.YtfdmfgaiblfbhaaW.PrintMore
section
variable {P : Program} {ops : Array Oper} {rest : List Oper} {o : Oper} {a : Act} {Q : Exit → Act → World → Prop}
theorem grown_below {w0 W w1 : World} {g base : Nat} (HB : Below base w0 W) (hg : W.grownBy w1 (some g)) (hbg : base ≤ g) (hs : base ≤ W.heap.size) : Below base w0 w1 := HB.trans ⟨hg.os, hg.tape, hg.output, hg.size, fun k hk => hg.block k (by omega) (fun he => by injection he with he; omega)⟩
/-- What a store into block g leaves. -/
theorem box_cells {W : World} {g j : Nat} {cs cs' : Array Value} {t0 : TypeId} {seg : List Value} (hb : W.heap[g]? = some (.cells cs t0 (0, 0))) (hj : j + seg.length ≤ cs.size) (he : cs.toList.take j ++ seg ++ cs.toList.drop (j + seg.length) = cs'.toList) :
    (W.setCells g j seg).heap[g]? = some (.cells cs' t0 (0, 0)) ∧ W.grownBy (W.setCells g j seg) (some g) := by
  obtain ⟨cur', h3, h4, h5⟩ := setCells_row seg j W cs hb hj
  obtain ⟨s1, s2, s3, s4⟩ := setCells_same g seg j W
  have hc : cur' = cs' := Array.toList_inj.1 (h5.trans he)
  subst hc
  exact ⟨h3, ⟨s1, s2, s3, by rw [s4]; exact Nat.le_refl _, fun k _ hk => setCells_far seg _ k (fun e => hk (by rw [e]))⟩⟩
theorem box_store {W w0 : World} (hN : o.dst = none) (hgd : o.guard = none) (t : TypeId) (p x : Operand) (ho : o.op = .store t p x) {g j base : Nat} {cs : Array Value} (cs' : Array Value) {t0 : TypeId} {u : Value} {seg : List Value}
    (haddr : a.eval p = .pointer (some ⟨g, j, none⟩)) (hx : a.eval x = u) (hu : u.cells.toList = seg) (ht : (P.info? t).map (·.size) = some seg.length) (h1 : ∀ q ∈ seg, q.oneCell' = true)
    (hb : W.heap[g]? = some (.cells cs t0 (0, 0))) (hj : j + seg.length ≤ cs.size) (he : cs.toList.take j ++ seg ++ cs.toList.drop (j + seg.length) = cs'.toList) (HB : Below base w0 W) (hbs : base ≤ W.heap.size) (hbg : base ≤ g)
    (h : ∀ w1, w1.heap[g]? = some (.cells cs' t0 (0, 0)) → Below base w0 w1 → W.grownBy w1 (some g) → wpList P ops Q rest a w1) : wpList P ops Q (o :: rest) a W := by
  obtain ⟨h2, h3⟩ := box_cells hb hj he
  refine wpList_plain hgd fun K hK => ?_
  have hrun := run_store_run (P := P) t u seg hb hu ht hj h1
  unfold Oper.wp execOp
  simp only [ho, haddr, hx, Sem.run_bind, Sem.run_pure, Result.andThen_ok, hrun]
  show K (a.put o.dst undef) _
  rw [hN]
  exact hK a _ (h _ h2 (grown_below HB h3 hbg hbs) h3)
end
/-- A row of the call's own, told of two blocks that stood. -/
theorem N_fresh2 {α : Type} {d : Kd α} {e base b c : Nat} {P : Nat → Prop} {W w1 : World} {v : Value} {xs : List α} (h : Kd.N d e w1 W.heap.size (fun k => ((P k ∧ k ≠ b) ∧ k ≠ c) ∨ W.heap.size ≤ k) v xs) (hb : b < W.heap.size) (hc : c < W.heap.size) (hs : base ≤ W.heap.size) :
    Kd.N d e w1 base (fun k => ((P k ∨ base ≤ k) ∧ k ≠ b) ∧ k ≠ c) v xs :=
  Kd.N_lower (Kd.N_mono h (fun k hk => hk.elim (fun q => ⟨⟨.inl q.1.1, q.1.2⟩, q.2⟩) (fun q => ⟨⟨.inr (by omega), by omega⟩, by omega⟩))) hs
end Go.Proofs.Ytfdmfgaiblfbhaa.P
/- A tree's cells and their number: plain data. -/
namespace Go.Proofs.Ytfdmfgaiblfbhaa.P
open Go.RowKit Go.Proofs.YtfdmfgaiblfbhaaW.PrintWords Go.Proofs.YtfdmfgaiblfbhaaW.PrintLast Go.Proofs.YtfdmfgaiblfbhaaW.PrintMore

mutual
def allC : S26 → List S26
  | ⟨a, b, d, l⟩ => ⟨a, b, d, l⟩ :: allL l
def allL : List S26 → List S26
  | [] => []
  | c :: cs => allC c ++ allL cs
end
theorem allC_eq (c : S26) : allC c = c :: allL c.f3 := by cases c; simp [allC]
theorem allL_nil : allL [] = [] := by simp [allL]
theorem allL_cons (c : S26) (cs : List S26) : allL (c :: cs) = allC c ++ allL cs := by simp [allL]
theorem allL_app (a b : List S26) : allL (a ++ b) = allL a ++ allL b := by
  induction a with
  | nil => simp [allL_nil]
  | cons x xs ih => rw [List.cons_append, allL_cons, allL_cons, ih, List.append_assoc]
def sz (c : S26) : Nat := (allC c).length
def szL (l : List S26) : Nat := (allL l).length
theorem sz_eq (c : S26) : sz c = 1 + szL c.f3 := by unfold sz szL; rw [allC_eq, List.length_cons]; omega
theorem szL_nil : szL [] = 0 := by unfold szL; rw [allL_nil]; rfl
theorem szL_cons (c : S26) (cs : List S26) : szL (c :: cs) = sz c + szL cs := by unfold szL sz; rw [allL_cons, List.length_append]
theorem szL_app (a b : List S26) : szL (a ++ b) = szL a + szL b := by unfold szL; rw [allL_app, List.length_append]
theorem szL_len (l : List S26) : l.length ≤ szL l := by
  induction l with
  | nil => simp
  | cons x xs ih => rw [szL_cons, List.length_cons, sz_eq]; omega
theorem eta26 (c : S26) : (⟨c.f0, ⟨c.f1.f0, c.f1.f1, c.f1.f2, c.f1.f3⟩, c.f2, c.f3⟩ : S26) = c := by cases c; rfl
theorem szL_sum (l : List S26) : szL l = (l.map sz).sum := by
  induction l with
  | nil => rw [szL_nil]; rfl
  | cons x xs ih => rw [szL_cons, List.map_cons, List.sum_cons, ih]
end Go.Proofs.Ytfdmfgaiblfbhaa.P
/- The contract of slices.Clone at api.Cell: the same cells, in a row of the call's own; what they lead to is shared. -/
namespace Go.Proofs.Ytfdmfgaiblfbhaa.P
open Go.RowKit Go.Proofs.YtfdmfgaiblfbhaaW.PrintWords Go.Proofs.YtfdmfgaiblfbhaaW.PrintLast Go.Proofs.YtfdmfgaiblfbhaaW.PrintMore

def api_Cell_137.f (l0 : List (S26)) : Option (List S26) := if l0.length ≤ 1000000 then some l0 else none
set_option maxHeartbeats 2000000 in
set_option maxRecDepth 100000 in
theorem api_Cell_137.calls (P0_ : Nat → Prop) (A0 : Option Addr) (c0 : Nat) (l0 : List (S26)) (r : List S26) (w : World) (hs0 : Kd.V k26 26 w w.heap.size (fun k_ => P0_ k_) (.slice A0 l0.length c0) l0) (h : api_Cell_137.f l0 = some r) :
    Calls Try.prog 137 #[.slice A0 l0.length c0] w fun e w' => ∃ v0_ : Value, e = .returned (v0_) ∧ Kd.N k26 26 w' w.heap.size (fun k_ => (P0_ k_ ∨ w.heap.size ≤ k_)) v0_ r ∧ Below w.heap.size w w' := by
  unfold api_Cell_137.f at h
  split at h
  · rename_i hl
    injection h with h
    subst h
    have HR := Aside0.mk (Kd.V_F hs0)
    have HL := Aside0.mk hl
    clear hl
    cases A0 with
    | none =>
      have heq : ∀ W : World, (binOp .eql 24 (.slice none l0.length c0) (.slice none 0 0)).run Try.prog W = .ok (.bool true) W := fun W => Lib.run_eql_slice_nil W 24 26 none l0.length c0 0 0 Try.underlying24
      have e0 : l0 = [] := by
        cases l0 with
        | nil => rfl
        | cons x xs =>
          obtain ⟨ad, h1, _⟩ := (Kd.F_now HR.out).2.2 (by simp)
          cases h1
      have E0 := Aside0.mk e0
      clear hs0 e0
      go_enter Try.func137, Try.ntmps137
      go_wp2
      go_ret
      exact ⟨_, rfl, by rw [E0.out]; exact Kd.N_nil _ _ _ _ _, Below.refl _ _⟩
    | some ad =>
      have heq : ∀ W : World, (binOp .eql 24 (.slice (some ad) l0.length c0) (.slice none 0 0)).run Try.prog W = .ok (.bool false) W := fun W => Lib.run_eql_slice_nil W 24 26 (some ad) l0.length c0 0 0 Try.underlying24
      clear hs0
      go_enter Try.func137, Try.ntmps137
      go_wp2_with (first | ((with_reducible refine gate_dst (N := 5) rfl ?_); refine Kd.N_lit k26 w.heap.size 26 ?hg (N' := 5) ?hd (xs := ([] : List S26)) (inner := []) (ok := fun k_ => (P0_ k_ ∨ w.heap.size ≤ k_)) (okp := fun _ => False) ?hr ?hp (fun _ hk => hk.elim) (.inr (Nat.le_refl _)) (Below.refl _ _) (Nat.le_refl _) (by simp) ?_; (case hd => rfl); (case hg => rfl); (case hr => first | (go_simp; done) | (go_simp; rfl)); (case hp => exact Reps.none _ _); intro v5 w5 ho hb hg_ hnew_; clear hg_; have HO := Aside0.mk ho; have HB := Aside0.mk hb; have HF := Aside0.mk (Kd.F_mono (Kd.F_elder' (v := v5) HR.out (fun k hk => by obtain ⟨b, h1, h2⟩ := hnew_; rw [h1] at hk; cases hk; exact h2) hb) (fun k hk => hk)); clear ho hb hnew_; obtain ⟨Ao, co, eo⟩ := Kd.N_slice HO.out; subst eo) | ((with_reducible refine gate_builtin (b := .append) (xs := #[.tmp 5, .tmp 6]) rfl ?_); at_builtin; refine Kd.N_append_rows k26 (w0 := w) w.heap.size rfl (.tmp 5) (.tmp 6) 24 26 (.agg #[(.int .u8 0), (.int .i64 0), (.int .i64 0), (.int .i64 0), (.int .i64 0), (.int .i64 0), (.slice none 0 0)]) 72 rfl Try.underlying24 info26 rfl (by decide) (by omega) (.slice Ao ([] : List S26).length co) [] l0 _ _ _ (fun k_ => (P0_ k_ ∨ w.heap.size ≤ k_)) (fun k_ => P0_ k_ ∧ some k_ ≠ (Value.slice Ao ([] : List S26).length co).ownBlock) rfl rfl ?aO ?aR (fun _ h => ⟨.inl h.1, h.2⟩) (fun k hk => .inr (Nat.le_trans (below_size HB.out) hk)) ?aB ?aS ?aL ?_; (case aO => exact HO.out); (case aR => exact HF.out); (case aB => exact HB.out); (case aS => exact below_size HB.out); (case aL => (have := HL.out; simp only [List.length_nil]; omega)); intro v7 w7 h1 h2 h3_ h4_; clear h3_ h4_; have HO7 := Aside0.mk h1; have HB7 := Aside0.mk h2; clear h1 h2 HO HB HF))
      go_wp2
      go_ret
      exact ⟨_, rfl, HO7.out, HB7.out⟩
  · exact absurd h (by simp)
end Go.Proofs.Ytfdmfgaiblfbhaa.P
/- The contract of adjust.Set: the tree that is set, in rows of the call's own; the tree that was handed in stays. Condition: at most 1000000 cells. -/
namespace Go.Proofs.Ytfdmfgaiblfbhaa.P
open Go.RowKit Go.Proofs.YtfdmfgaiblfbhaaW.PrintWords Go.Proofs.YtfdmfgaiblfbhaaW.PrintLast Go.Proofs.YtfdmfgaiblfbhaaW.PrintMore

set_option linter.unusedVariables false
set_option linter.unusedSimpArgs false
/-- Where the next kid stands. -/
def setX (a : Int) (k : S26) (x : Int) : Int := if a = 2 then wrap64 (x + wrap64 (k.f1.f2 + 1)) else x
def setY (a : Int) (k : S26) (y : Int) : Int := if a = 2 then y else if a = 3 then wrap64 (y + wrap64 (k.f1.f3 + 1)) else y
mutual
def setC : S26 → Int → Int → S26
  | ⟨a, b, d, l⟩, x, y => ⟨a, ⟨x, y, b.f2, b.f3⟩, d, setL a l x y⟩
def setL : Int → List S26 → Int → Int → List S26
  | _, [], _, _ => []
  | a, k :: ks, x, y => setC k x y :: setL a ks (setX a k x) (setY a k y)
end
theorem setC_eq (c : S26) (x y : Int) : setC c x y = ⟨c.f0, ⟨x, y, c.f1.f2, c.f1.f3⟩, c.f2, setL c.f0 c.f3 x y⟩ := by cases c; simp [setC]
theorem setL_nil (a x y : Int) : setL a [] x y = [] := by simp [setL]
theorem setL_cons (a : Int) (k : S26) (ks : List S26) (x y : Int) : setL a (k :: ks) x y = setC k x y :: setL a ks (setX a k x) (setY a k y) := by simp [setL]
def setXs (a : Int) (l : List S26) (x : Int) : Int := l.foldl (fun x k => setX a k x) x
def setYs (a : Int) (l : List S26) (y : Int) : Int := l.foldl (fun y k => setY a k y) y
theorem setL_snoc (a : Int) (k : S26) : ∀ (l : List S26) (x y : Int), setL a (l ++ [k]) x y = setL a l x y ++ [setC k (setXs a l x) (setYs a l y)] := by
  intro l
  induction l with
  | nil => intro x y; rw [List.nil_append, setL_cons, setL_nil, setL_nil]; rfl
  | cons z zs ih => intro x y; rw [List.cons_append, setL_cons, setL_cons, ih]; rfl
theorem setXs_snoc (a : Int) (k : S26) (l : List S26) (x : Int) : setXs a (l ++ [k]) x = setX a k (setXs a l x) := by simp [setXs]
theorem setYs_snoc (a : Int) (k : S26) (l : List S26) (y : Int) : setYs a (l ++ [k]) y = setY a k (setYs a l y) := by simp [setYs]
theorem setL_len (a : Int) : ∀ (l : List S26) (x y : Int), (setL a l x y).length = l.length := by
  intro l
  induction l with
  | nil => intro x y; rw [setL_nil]
  | cons z zs ih => intro x y; rw [setL_cons]; simp [ih]
/-- The row in the making: what is set ahead, what is as it was behind. -/
theorem set_put (a : Int) (pre : List S26) (k : S26) (rest : List S26) (x y : Int) : (setL a pre x y ++ k :: rest).set pre.length (setC k (setXs a pre x) (setYs a pre y)) = setL a (pre ++ [k]) x y ++ rest := by
  rw [setL_snoc, ← setL_len a pre x y, List.set_append_right _ _ (Nat.le_refl _), Nat.sub_self, List.set_cons_zero]
  simp
theorem set_rd (a : Int) (pre : List S26) (k : S26) (rest : List S26) (x y : Int) : rd_T26 (setL a pre x y ++ k :: rest) (pre.length : Int) = k := by
  rw [← setL_len a pre x y]
  simp [rd_T26, List.getD_eq_getElem?_getD]

def adjust_Set.T6 : Bool × List (List Nat × List Nat) := (true, [([], []), ([0], [0]), ([], []), ([], []), ([], []), ([], []), ([3, 4, 5], [3, 4, 5]), ([1, 2, 0, 1, 2, 3, 4, 5, 6], [1, 2]), ([7, 6, 6, 0, 1, 2, 3, 4, 5, 6], [6, 7])])
def adjust_Set.B6 : List Nat := [0, 1, 0, 0, 0, 0, 56, 127, 255]
theorem adjust_Set.tab6 : rtab .any (opsOf Try.f66 6) = adjust_Set.T6 := by kernel_rfl
theorem adjust_Set.bits6 : waitsOk adjust_Set.T6.2 adjust_Set.B6 = true := by kernel_rfl
/-- The cells of a cell. -/
def cs26 (c : S26) (v : Value) : Array Value := #[.int .u8 c.f0, .int .i64 c.f1.f0, .int .i64 c.f1.f1, .int .i64 c.f1.f2, .int .i64 c.f1.f3, .int .i64 c.f2, v]
set_option maxHeartbeats 4000000 in
set_option maxRecDepth 100000 in
theorem set66 : ∀ (N : Nat) (c : S26), sz c ≤ N → N ≤ 1000000 → ∀ (P : Nat → Prop) (A : Option Addr) (cc : Nat) (x y : Int) (w : World), Kd.V k26 26 w w.heap.size P (.slice A c.f3.length cc) c.f3 →
    Calls Try.prog 66 #[.agg #[.int .u8 c.f0, .int .i64 c.f1.f0, .int .i64 c.f1.f1, .int .i64 c.f1.f2, .int .i64 c.f1.f3, .int .i64 c.f2, .slice A c.f3.length cc], .int .i64 x, .int .i64 y] w
      fun e w' => ∃ v : Value, e = .returned (.agg #[.int .u8 c.f0, .int .i64 x, .int .i64 y, .int .i64 c.f1.f2, .int .i64 c.f1.f3, .int .i64 c.f2, v]) ∧ Kd.N k26 26 w' w.heap.size (fun k => P k ∨ w.heap.size ≤ k) v (setL c.f0 c.f3 x y) ∧ Below w.heap.size w w' := by
  intro N
  induction N with
  | zero => intro c h; rw [sz_eq] at h; omega
  | succ N ih =>
    intro c hc hN P A cc x y w hs
    have hsz := sz_eq c
    have hlen := szL_len c.f3
    have IH := Aside0.mk fun (k : S26) (hk : k ∈ c.f3) => ih k (by
      have : sz k ≤ szL c.f3 := by
        obtain ⟨p, q, e⟩ := List.append_of_mem hk
        rw [e, szL_app, szL_cons]; omega
      omega) (by omega)
    have H137 := Aside0.mk fun (W : World) (P' : Nat → Prop) (hV : Kd.V k26 26 W w.heap.size P' (.slice A c.f3.length cc) c.f3) => api_Cell_137.calls P' A cc c.f3 c.f3 W hV (if_pos (by omega))
    have HO := Aside0.mk hs
    have HL := Aside0.mk (show c.f3.length ≤ 1000000 by omega)
    have HB := Aside0.mk (Below.refl w.heap.size w)
    clear ih hs hc hN hsz hlen
    obtain ⟨ck, ⟨cx, cy, cw, ch⟩, cid, l⟩ := c
    simp only [] at HO HL IH H137 ⊢
    go_enter Try.func66, Try.ntmps66
    go_upto_region 2 with (first
      | ((with_reducible refine gate_dst (N := 3) rfl ?_); refine box_event ?hg (N := 3) ?hd (cs := #[.int .u8 ck, .int .i64 cx, .int .i64 cy, .int .i64 cw, .int .i64 ch, .int .i64 cid, .slice A l.length cc]) (t := 26) ?hr ?_; (case hd => rfl); (case hg => rfl); (case hr => first | (go_simp; done) | (go_simp; rfl)); intro b3 hg wb3 hbox hb; have Gb3 := Aside0.mk (show w.heap.size ≤ b3 by rw [hg]; exact HB.out.size); have qHB_ := Aside0.mk (below_step HB.out hb); have qHO_ := Aside0.mk (Kd.V_below (Kd.V_elderB HO.out b3 (by rw [hg]; exact Nat.le_refl _)) hb); clear HB HO; have HB := qHB_; have HO := qHO_; clear qHB_ qHO_; have Kb3 := Aside0.mk hbox; clear hb hbox hg)
      | ((with_reducible refine gate_dst (N := 6) rfl ?_); refine box_event ?hg (N := 6) ?hd (cs := #[.int .u8 0, .int .i64 0, .int .i64 0, .int .i64 0, .int .i64 0, .int .i64 0, .slice none 0 0]) (t := 26) ?hr ?_; (case hd => rfl); (case hg => rfl); (case hr => first | (go_simp; done) | (go_simp; rfl)); intro b6 hg wb6 hbox hb; have Gb6 := Aside0.mk (show w.heap.size ≤ b6 by rw [hg]; exact HB.out.size); have NE_b3_b6 := Aside0.mk (show b3 ≠ b6 by rw [hg]; exact Nat.ne_of_lt (blk_lt Kb3.out)); have qHB_ := Aside0.mk (below_step HB.out hb); have qHO_ := Aside0.mk (Kd.V_below (Kd.V_elderB HO.out b6 (by rw [hg]; exact Nat.le_refl _)) hb); have qKb3_ := Aside0.mk (blk_below Kb3.out hb); clear HB HO Kb3; have HB := qHB_; have HO := qHO_; have Kb3 := qKb3_; clear qHB_ qHO_ qKb3_; have Kb6 := Aside0.mk hbox; clear hb hbox hg)
      | ((with_reducible refine gate_ (.store 3 (.tmp 12) (.tmp 9)) rfl ?_); go_loud (refine box_store (w0 := w) rfl rfl 3 (.tmp 12) (.tmp 9) rfl (g := b3) (j := 1) (base := w.heap.size) #[.int .u8 ck, .int .i64 x, .int .i64 cy, .int .i64 cw, .int .i64 ch, .int .i64 cid, .slice A l.length cc] (u := .int .i64 x) (seg := [.int .i64 x]) ?sA ?sX rfl ?sT ?s1 Kb3.out ?sJ rfl HB.out HB.out.size Gb3.out ?_; (case sA => rfl); (case sX => rfl); (case sT => rfl); (case s1 => (simp [Value.oneCell'])); (case sJ => (first | decide | simp)); intro ws1 hbk hbb hgg; have qHO_ := Aside0.mk (Kd.V_grown HO.out hgg (fun k_ hk e_ => absurd (Option.some.inj e_) (by first | exact hk.2 | exact hk.1.2 | exact hk.1.1.2 | exact hk.1.1.1.2 | exact hk.2.2 | exact hk.2.1 | exact hk.2.2.1 | exact hk.2.2.2))); have qKb6_ := Aside0.mk (blk_grown Kb6.out hgg (fun e_ => absurd (Option.some.inj e_) (by first | exact NE_b6_b3.out | exact (fun e2_ => NE_b3_b6.out e2_.symm)))); clear HO Kb6; have HO := qHO_; have Kb6 := qKb6_; clear qHO_ qKb6_; clear Kb3 HB; have Kb3 := Aside0.mk hbk; have HB := Aside0.mk hbb; clear hbk hbb hgg))
      | ((with_reducible refine gate_ (.store 3 (.tmp 14) (.tmp 10)) rfl ?_); go_loud (refine box_store (w0 := w) rfl rfl 3 (.tmp 14) (.tmp 10) rfl (g := b3) (j := 2) (base := w.heap.size) #[.int .u8 ck, .int .i64 x, .int .i64 y, .int .i64 cw, .int .i64 ch, .int .i64 cid, .slice A l.length cc] (u := .int .i64 y) (seg := [.int .i64 y]) ?sA ?sX rfl ?sT ?s1 Kb3.out ?sJ rfl HB.out HB.out.size Gb3.out ?_; (case sA => rfl); (case sX => rfl); (case sT => rfl); (case s1 => (simp [Value.oneCell'])); (case sJ => (first | decide | simp)); intro ws2 hbk hbb hgg; have qHO_ := Aside0.mk (Kd.V_grown HO.out hgg (fun k_ hk e_ => absurd (Option.some.inj e_) (by first | exact hk.2 | exact hk.1.2 | exact hk.1.1.2 | exact hk.1.1.1.2 | exact hk.2.2 | exact hk.2.1 | exact hk.2.2.1 | exact hk.2.2.2))); have qKb6_ := Aside0.mk (blk_grown Kb6.out hgg (fun e_ => absurd (Option.some.inj e_) (by first | exact NE_b6_b3.out | exact (fun e2_ => NE_b3_b6.out e2_.symm)))); clear HO Kb6; have HO := qHO_; have Kb6 := qKb6_; clear qHO_ qKb6_; clear Kb3 HB; have Kb3 := Aside0.mk hbk; have HB := Aside0.mk hbb; clear hbk hbb hgg))
      | fail)
    have c36 : _ = some (Value.slice A l.length cc) := (blk_cell Kb3.out 6).trans rfl
    go_upto_region 3 with (first
      | ((with_reducible refine gate_callee (f := 137) rfl ?_); refine goesL_ (some 17) rfl rfl Try.func137 (by kernel_rfl) rfl #[.slice A l.length cc] rfl (by (try simp only [List.map_toArray, List.map_cons, List.map_nil]); first | done | rfl) ?_; refine (H137.out _ _ HO.out).mono ?_; rintro e wc1 ⟨v1, rfl, ho, hb⟩; refine ⟨_, rfl, ?_⟩; have HN := Aside0.mk (N_fresh2 ho (blk_lt Kb3.out) (blk_lt Kb6.out) HB.out.size); clear ho HO; obtain ⟨A1, c1, e1⟩ := Kd.N_slice HN.out; subst e1; have qHB_ := Aside0.mk (below_step HB.out hb); have qKb3_ := Aside0.mk (blk_below Kb3.out hb); have qKb6_ := Aside0.mk (blk_below Kb6.out hb); clear HB Kb3 Kb6; have HB := qHB_; have Kb3 := qKb3_; have Kb6 := qKb6_; clear qHB_ qKb3_ qKb6_; clear hb)
      | ((with_reducible refine gate_ (.store 24 (.tmp 18) (.tmp 17)) rfl ?_); go_loud (refine box_store (w0 := w) rfl rfl 24 (.tmp 18) (.tmp 17) rfl (g := b3) (j := 6) (base := w.heap.size) #[.int .u8 ck, .int .i64 x, .int .i64 y, .int .i64 cw, .int .i64 ch, .int .i64 cid, .slice A1 l.length c1] (u := .slice A1 l.length c1) (seg := [.slice A1 l.length c1]) ?sA ?sX rfl ?sT ?s1 Kb3.out ?sJ rfl HB.out HB.out.size Gb3.out ?_; (case sA => rfl); (case sX => rfl); (case sT => rfl); (case s1 => (simp [Value.oneCell'])); (case sJ => (first | decide | simp)); intro ws3 hbk hbb hgg; have qKb6_ := Aside0.mk (blk_grown Kb6.out hgg (fun e_ => absurd (Option.some.inj e_) (by first | exact NE_b6_b3.out | exact (fun e2_ => NE_b3_b6.out e2_.symm)))); have qHN_ := Aside0.mk (Kd.N_grown HN.out hgg (fun k_ hk e_ => absurd (Option.some.inj e_) (by first | exact hk.2 | exact hk.1.2 | exact hk.1.1.2 | exact hk.1.1.1.2 | exact hk.2.2 | exact hk.2.1 | exact hk.2.2.1 | exact hk.2.2.2))); clear Kb6 HN; have Kb6 := qKb6_; have HN := qHN_; clear qKb6_ qHN_; clear Kb3 HB; have Kb3 := Aside0.mk hbk; have HB := Aside0.mk hbb; clear hbk hbb hgg))
      | fail)
    clear c36
    have c36 : _ = some (Value.slice A1 l.length c1) := (blk_cell Kb3.out 6).trans rfl
    go_wp2
    clear c36
    go_loopg [1, 2, 22] l.length (fun gg v1 v2 v22 wr => ∃ (pre rest : List S26), v1 = .int .i64 (setXs ck pre x) ∧ v2 = .int .i64 (setYs ck pre y) ∧ v22 = .int .i64 (pre.length : Int) ∧ Aside0 (pre ++ rest = l) ∧ rest.length ≤ gg ∧ Aside0 (Kd.N k26 26 wr w.heap.size (fun q => ((P q ∨ w.heap.size ≤ q) ∧ q ≠ b3) ∧ q ≠ b6) (.slice A1 l.length c1) (setL ck pre x y ++ rest)) ∧ Aside0 (wr.heap[b3]? = some (.cells #[.int .u8 ck, .int .i64 x, .int .i64 y, .int .i64 cw, .int .i64 ch, .int .i64 cid, .slice A1 l.length c1] 26 (0, 0))) ∧ Aside0 (wr.heap[b6]? = some (.cells #[.int .u8 0, .int .i64 0, .int .i64 0, .int .i64 0, .int .i64 0, .int .i64 0, .slice none 0 0] 26 (0, 0))) ∧ Aside0 (Below w.heap.size w wr))
    case atStart => exact ⟨[], l, rfl, rfl, rfl, ⟨rfl⟩, Nat.le_refl _, ⟨by rw [setL_nil]; exact HN.out⟩, Kb3, Kb6, HB⟩
    case round =>
      clear HN Kb3 Kb6 HB
      obtain ⟨pre, rest, rfl, rfl, rfl, HE, hgg, HN, Kb3, Kb6, HB⟩ := hrel
      cases rest with
      | nil =>
        have hpl : pre = l := by have := HE.out; rwa [List.append_nil] at this
        have hlt : ¬ ((pre.length : Int) < (l.length : Int)) := by rw [hpl]; omega
        have HP := Aside0.mk hpl
        clear hpl hgg
        have c30 := (blk_cell Kb3.out 0).trans rfl
        have c31 := (blk_cell Kb3.out 1).trans rfl
        have c32 := (blk_cell Kb3.out 2).trans rfl
        have c33 := (blk_cell Kb3.out 3).trans rfl
        have c34 := (blk_cell Kb3.out 4).trans rfl
        have c35 := (blk_cell Kb3.out 5).trans rfl
        have c36 := (blk_cell Kb3.out 6).trans rfl
        go_wp2_with (first
      | ((with_reducible refine gate_ (.store 26 (.tmp 6) (.tmp 54)) rfl ?_); go_loud (refine box_store (w0 := w) rfl rfl 26 (.tmp 6) (.tmp 54) rfl (g := b6) (j := 0) (base := w.heap.size) #[.int .u8 ck, .int .i64 x, .int .i64 y, .int .i64 cw, .int .i64 ch, .int .i64 cid, .slice A1 l.length c1] (u := .agg #[.int .u8 ck, .int .i64 x, .int .i64 y, .int .i64 cw, .int .i64 ch, .int .i64 cid, .slice A1 l.length c1]) (seg := [.int .u8 ck, .int .i64 x, .int .i64 y, .int .i64 cw, .int .i64 ch, .int .i64 cid, .slice A1 l.length c1]) ?sA ?sX rfl ?sT ?s1 Kb6.out ?sJ rfl HB.out HB.out.size Gb6.out ?_; (case sA => rfl); (case sX => rfl); (case sT => rfl); (case s1 => (simp [Value.oneCell'])); (case sJ => (first | decide | simp)); intro ws21 hbk hbb hgg; have qHN_ := Aside0.mk (Kd.N_grown HN.out hgg (fun k_ hk e_ => absurd (Option.some.inj e_) (by first | exact hk.2 | exact hk.1.2 | exact hk.1.1.2 | exact hk.1.1.1.2 | exact hk.2.2 | exact hk.2.1 | exact hk.2.2.1 | exact hk.2.2.2))); have qKb3_ := Aside0.mk (blk_grown Kb3.out hgg (fun e_ => absurd (Option.some.inj e_) (by first | exact NE_b3_b6.out | exact (fun e2_ => NE_b6_b3.out e2_.symm)))); clear HN Kb3; have HN := qHN_; have Kb3 := qKb3_; clear qHN_ qKb3_; clear Kb6 HB; have Kb6 := Aside0.mk hbk; have HB := Aside0.mk hbb; clear hbk hbb hgg))
      | fail)
        refine bodyPost_ret (results_cell_row rfl _ _ b6 26 #[.int .u8 ck, .int .i64 x, .int .i64 y, .int .i64 cw, .int .i64 ch, .int .i64 cid, .slice A1 l.length c1] (0, 0) _ rfl Kb6.out Try.underlying26 rfl (by kernel_rfl)) rfl ?_
        refine ⟨_, rfl, ?_, HB.out⟩
        rw [← HP.out]
        have hf := HN.out
        rw [List.append_nil] at hf
        rw [HP.out] at hf ⊢
        exact Kd.N_mono hf (fun q hq => hq.1.1)
      | cons k rest =>
        have hk : k ∈ l := by rw [← HE.out]; simp
        have hlt : (pre.length : Int) < (l.length : Int) := by rw [← HE.out, List.length_append, List.length_cons]; omega
        have hw : wrap64 ((pre.length : Int) + 1) = ((pre ++ [k]).length : Int) := by rw [List.length_append, List.length_singleton]; unfold wrap64; have := HL.out; omega
        obtain ⟨g, cap, he, hgb, hglt, _⟩ := Kd.N_form HN.out (by rw [List.length_append, List.length_cons]; omega)
        injection he with ea en ec
        subst ea
        subst ec
        clear en
        have HGB := Aside0.mk hgb
        obtain ⟨ce, hcl, hM, hcc, hfr⟩ := Kd.N_elem HN.out z26 (pre.length : Int) (Int.natCast_nonneg _) hlt
        have hrd : (setL ck pre x y ++ k :: rest).getD (pre.length : Int).toNat z26 = k := set_rd ck pre k rest x y
        rw [hrd] at hM
        obtain ⟨ua, uc, rfl, ul, ge⟩ := k26_openF hM
        have HV := Aside0.mk (show Kd.V k26 26 wr w.heap.size _ (.slice ua k.f3.length uc) k.f3 from Kd.V_mk ul ge)
        have x0 : wr.cell? ⟨g, pre.length * 7, none⟩ = some (.int .u8 k.f0) := hcc 0 _ rfl
        have x1 : wr.cell? ⟨g, pre.length * 7 + 1, none⟩ = some (.int .i64 k.f1.f0) := hcc 1 _ rfl
        have x2 : wr.cell? ⟨g, pre.length * 7 + 2, none⟩ = some (.int .i64 k.f1.f1) := hcc 2 _ rfl
        have x3 : wr.cell? ⟨g, pre.length * 7 + 3, none⟩ = some (.int .i64 k.f1.f2) := hcc 3 _ rfl
        have x4 : wr.cell? ⟨g, pre.length * 7 + 4, none⟩ = some (.int .i64 k.f1.f3) := hcc 4 _ rfl
        have x5 : wr.cell? ⟨g, pre.length * 7 + 5, none⟩ = some (.int .i64 k.f2) := hcc 5 _ rfl
        have x6 : wr.cell? ⟨g, pre.length * 7 + 6, none⟩ = some (.slice ua k.f3.length uc) := hcc 6 _ rfl
        have HW1 := Aside0.mk hw
        have HK := Aside0.mk hk
        have HGG := Aside0.mk hgg
        clear hcl hM hcc hfr hrd ul ge hgb hglt hw hk hgg
        go_upto_region 6 with (first
      | ((with_reducible refine gate_dst (N := 8) rfl ?_); refine box_event ?hg (N := 8) ?hd (cs := #[.int .u8 0, .int .i64 0, .int .i64 0, .int .i64 0, .int .i64 0, .int .i64 0, .slice none 0 0]) (t := 26) ?hr ?_; (case hd => rfl); (case hg => rfl); (case hr => first | (go_simp; done) | (go_simp; rfl)); intro b8 hg wb8 hbox hb; have Gb8 := Aside0.mk (show w.heap.size ≤ b8 by rw [hg]; exact HB.out.size); have NE_b3_b8 := Aside0.mk (show b3 ≠ b8 by rw [hg]; exact Nat.ne_of_lt (blk_lt Kb3.out)); have NE_b6_b8 := Aside0.mk (show b6 ≠ b8 by rw [hg]; exact Nat.ne_of_lt (blk_lt Kb6.out)); have qHB_ := Aside0.mk (below_step HB.out hb); have qHN_ := Aside0.mk (Kd.N_below (Kd.N_elderB HN.out b8 (by rw [hg]; exact Nat.le_refl _)) hb); have qHV_ := Aside0.mk (Kd.V_below (Kd.V_elderB HV.out b8 (by rw [hg]; exact Nat.le_refl _)) hb); have qKb3_ := Aside0.mk (blk_below Kb3.out hb); have qKb6_ := Aside0.mk (blk_below Kb6.out hb); clear HB HN HV Kb3 Kb6; have HB := qHB_; have HN := qHN_; have HV := qHV_; have Kb3 := qKb3_; have Kb6 := qKb6_; clear qHB_ qHN_ qHV_ qKb3_ qKb6_; have Kb8 := Aside0.mk hbox; clear hb hbox hg)
      | ((with_reducible refine gate_ (.store 26 (.tmp 8) (.tmp 26)) rfl ?_); go_loud (refine box_store (w0 := w) rfl rfl 26 (.tmp 8) (.tmp 26) rfl (g := b8) (j := 0) (base := w.heap.size) #[.int .u8 k.f0, .int .i64 k.f1.f0, .int .i64 k.f1.f1, .int .i64 k.f1.f2, .int .i64 k.f1.f3, .int .i64 k.f2, .slice ua k.f3.length uc] (u := .agg #[.int .u8 k.f0, .int .i64 k.f1.f0, .int .i64 k.f1.f1, .int .i64 k.f1.f2, .int .i64 k.f1.f3, .int .i64 k.f2, .slice ua k.f3.length uc]) (seg := [.int .u8 k.f0, .int .i64 k.f1.f0, .int .i64 k.f1.f1, .int .i64 k.f1.f2, .int .i64 k.f1.f3, .int .i64 k.f2, .slice ua k.f3.length uc]) ?sA ?sX rfl ?sT ?s1 Kb8.out ?sJ rfl HB.out HB.out.size Gb8.out ?_; (case sA => rfl); (case sX => rfl); (case sT => rfl); (case s1 => (simp [Value.oneCell'])); (case sJ => (first | decide | simp)); intro ws31 hbk hbb hgg; have qHN_ := Aside0.mk (Kd.N_grown HN.out hgg (fun k_ hk e_ => absurd (Option.some.inj e_) (by first | exact hk.2 | exact hk.1.2 | exact hk.1.1.2 | exact hk.1.1.1.2 | exact hk.2.2 | exact hk.2.1 | exact hk.2.2.1 | exact hk.2.2.2))); have qHV_ := Aside0.mk (Kd.V_grown HV.out hgg (fun k_ hk e_ => absurd (Option.some.inj e_) (by first | exact hk.2 | exact hk.1.2 | exact hk.1.1.2 | exact hk.1.1.1.2 | exact hk.2.2 | exact hk.2.1 | exact hk.2.2.1 | exact hk.2.2.2))); have qKb3_ := Aside0.mk (blk_grown Kb3.out hgg (fun e_ => absurd (Option.some.inj e_) (by first | exact NE_b3_b8.out | exact (fun e2_ => NE_b8_b3.out e2_.symm)))); have qKb6_ := Aside0.mk (blk_grown Kb6.out hgg (fun e_ => absurd (Option.some.inj e_) (by first | exact NE_b6_b8.out | exact (fun e2_ => NE_b8_b6.out e2_.symm)))); clear HN HV Kb3 Kb6; have HN := qHN_; have HV := qHV_; have Kb3 := qKb3_; have Kb6 := qKb6_; clear qHN_ qHV_ qKb3_ qKb6_; clear Kb8 HB; have Kb8 := Aside0.mk hbk; have HB := Aside0.mk hbb; clear hbk hbb hgg))
      | fail)
        clear x0 x1 x2 x3 x4 x5 x6
        have q_ := Aside0.mk (below_drew1 HB.out)
        clear HB
        have HB := q_
        clear q_
        have q_ := Aside0.mk (Kd.N_drew HN.out)
        clear HN
        have HN := q_
        clear q_
        have q_ := Aside0.mk (Kd.V_drew HV.out)
        clear HV
        have HV := q_
        clear q_
        have q_ := Aside0.mk (blk_drew Kb3.out)
        clear Kb3
        have Kb3 := q_
        clear q_
        have q_ := Aside0.mk (blk_drew Kb6.out)
        clear Kb6
        have Kb6 := q_
        clear q_
        have q_ := Aside0.mk (blk_drew Kb8.out)
        clear Kb8
        have Kb8 := q_
        clear q_
        refine start_ (n := 9) (S := fun w' => w'.heap[b3]? = some (.cells #[.int .u8 ck, .int .i64 x, .int .i64 y, .int .i64 cw, .int .i64 ch, .int .i64 cid, .slice (some ⟨g, 0, none⟩) l.length c1] 26 (0, 0)) ∧ w'.heap[b8]? = some (.cells #[.int .u8 k.f0, .int .i64 k.f1.f0, .int .i64 k.f1.f1, .int .i64 k.f1.f2, .int .i64 k.f1.f3, .int .i64 k.f2, .slice ua k.f3.length uc] 26 (0, 0))) (ds := [8]) #[false, false, false, false, false, false, false, false, false] (by kernel_rfl) rfl rfl ⟨Kb3.out, Kb8.out⟩ (fun hHeld => ?_); refine with_tabW adjust_Set.tab6 adjust_Set.bits6 (fun HT_ HW_ => ?_)
        generalize ws31.drew = wd at HB HN HV Kb3 Kb6 Kb8 hHeld ⊢
        refine pure_ (i := 0) (N := some 27) (v := ?_) (a' := ?_) #[true, false, false, false, false, false, false, false, false] rfl rfl (any_of HT_.out (by kernel_rfl)) (fun _ _ _ h => h) (Or.inl ⟨by rfl, ?_⟩) ?_ ?_
        rotate_left
        · intro w'; go_simp; with_reducible rfl
        rotate_left
        · simp only [Act.put, List.setIfInBounds_toArray, List.set_cons_zero, List.set_cons_succ, i64_w, i32_w]
          rfl
        refine pure_ (i := 2) (N := some 29) (v := ?_) (a' := ?_) #[true, false, true, false, false, false, false, false, false] rfl rfl (any_of HT_.out (by kernel_rfl)) (fun _ _ _ h => h) (Or.inl ⟨by rfl, ?_⟩) ?_ ?_
        rotate_left
        · intro w'; go_simp; with_reducible rfl
        rotate_left
        · simp only [Act.put, List.setIfInBounds_toArray, List.set_cons_zero, List.set_cons_succ, i64_w, i32_w]
          rfl
        refine pure_ (i := 4) (N := some 31) (v := ?_) (a' := ?_) #[true, false, true, false, true, false, false, false, false] rfl rfl (any_of HT_.out (by kernel_rfl)) (fun _ _ _ h => h) (Or.inl ⟨by rfl, ?_⟩) ?_ ?_
        rotate_left
        · intro w'; go_simp; with_reducible rfl
        rotate_left
        · simp only [Act.put, List.setIfInBounds_toArray, List.set_cons_zero, List.set_cons_succ, i64_w, i32_w]
          rfl
        refine pure_ (i := 5) (N := some 32) (v := ?_) (a' := ?_) #[true, false, true, false, true, true, false, false, false] rfl rfl (any_of HT_.out (by kernel_rfl)) (fun _ _ _ h => h) (Or.inl ⟨by rfl, ?_⟩) ?_ ?_
        rotate_left
        · intro w'; go_simp; with_reducible rfl
        rotate_left
        · simp only [Act.put, List.setIfInBounds_toArray, List.set_cons_zero, List.set_cons_succ, i64_w, i32_w]
          rfl
        refine take_ (i := 1) (N := some 28) (v := ?_) (a' := ?_) #[true, true, true, false, true, true, false, false, false] rfl rfl (take_ofW HT_.out HW_.out (by kernel_rfl)) (fun _ _ _ h => h) (Or.inl ⟨by rfl, ?_⟩) hHeld ?_ ?_
        rotate_left
        · intro w' hs_
          have c := (blk_cell hs_.1 6).trans rfl
          go_simp; with_reducible rfl
        rotate_left
        · simp only [Act.put, List.setIfInBounds_toArray, List.set_cons_zero, List.set_cons_succ, i64_w, i32_w]
          rfl
        refine take_ (i := 3) (N := some 30) (v := ?_) (a' := ?_) #[true, true, true, true, true, true, false, false, false] rfl rfl (take_ofW HT_.out HW_.out (by kernel_rfl)) (fun _ _ _ h => h) (Or.inl ⟨by rfl, ?_⟩) hHeld ?_ ?_
        rotate_left
        · intro w' hs_
          have c0 := (blk_cell hs_.2 0).trans rfl
          have c1 := (blk_cell hs_.2 1).trans rfl
          have c2 := (blk_cell hs_.2 2).trans rfl
          have c3 := (blk_cell hs_.2 3).trans rfl
          have c4 := (blk_cell hs_.2 4).trans rfl
          have c5 := (blk_cell hs_.2 5).trans rfl
          have c6 := (blk_cell hs_.2 6).trans rfl
          go_simp; with_reducible rfl
        rotate_left
        · simp only [Act.put, List.setIfInBounds_toArray, List.set_cons_zero, List.set_cons_succ, i64_w, i32_w]
          rfl
        refine one_ (i := 6) (N := some 33) #[true, true, true, true, true, true, true, false, false] rfl rfl (one_of HT_.out (by kernel_rfl)) (by decide) (fun K hK => ?_)
        refine goes_ Try.func66 (by kernel_rfl) rfl #[.agg #[.int .u8 k.f0, .int .i64 k.f1.f0, .int .i64 k.f1.f1, .int .i64 k.f1.f2, .int .i64 k.f1.f3, .int .i64 k.f2, .slice ua k.f3.length uc], .int .i64 (setXs ck pre x), .int .i64 (setYs ck pre y)] (by rfl) rfl rfl (by (try simp only [List.map_toArray, List.map_cons, List.map_nil]); first | done | rfl) ?_
        refine (IH.out k HK.out _ ua uc (setXs ck pre x) (setYs ck pre y) wd HV.out).mono ?_
        rintro e wk ⟨v, rfl, ho, hb⟩
        refine ⟨_, rfl, ?_⟩
        have HE3 := Aside0.mk (blk_lt Kb3.out)
        have HE6 := Aside0.mk (blk_lt Kb6.out)
        have HE8 := Aside0.mk (blk_lt Kb8.out)
        have HEG := Aside0.mk (Kd.N_lt HN.out g rfl)
        have HS := Aside0.mk HB.out.size
        have qHB_ := Aside0.mk (below_step HB.out hb); have qHN_ := Aside0.mk (Kd.N_below HN.out hb); have qHV_ := Aside0.mk (Kd.V_below HV.out hb); have qKb3_ := Aside0.mk (blk_below Kb3.out hb); have qKb6_ := Aside0.mk (blk_below Kb6.out hb); have qKb8_ := Aside0.mk (blk_below Kb8.out hb); clear HB HN HV Kb3 Kb6 Kb8; have HB := qHB_; have HN := qHN_; have HV := qHV_; have Kb3 := qKb3_; have Kb6 := qKb6_; have Kb8 := qKb8_; clear qHB_ qHN_ qHV_ qKb3_ qKb6_ qKb8_
        clear HV hb
        obtain ⟨Av, cv, ev⟩ := Kd.N_slice ho
        subst ev
        have HO2 := Aside0.mk ho
        clear ho
        refine hK.out _ _ ⟨Kb3.out, Kb8.out⟩ (fun hHeld => ?_)
        clear hK K
        refine norm_ (a' := ?_) ?_ ?_
        rotate_left
        · show Act.put _ (some 33) _ = _
          simp only [Act.put, List.setIfInBounds_toArray, List.set_cons_zero, List.set_cons_succ, i64_w, i32_w]
          rfl
        refine pure_ (i := 7) (N := some 34) (v := ?_) (a' := ?_) #[true, true, true, true, true, true, true, true, false] rfl rfl (any_of HT_.out (by kernel_rfl)) (fun _ _ _ h => h) (Or.inl ⟨by rfl, ?_⟩) ?_ ?_
        rotate_left
        · intro w'; go_simp; with_reducible rfl
        rotate_left
        · simp only [Act.put, List.setIfInBounds_toArray, List.set_cons_zero, List.set_cons_succ, i64_w, i32_w]
          rfl
        obtain ⟨ce, hcl, hM, hcc, hfr⟩ := Kd.N_elem HN.out z26 (pre.length : Int) (Int.natCast_nonneg _) hlt
        have hrd : (setL ck pre x y ++ k :: rest).getD (pre.length : Int).toNat z26 = k := set_rd ck pre k rest x y
        rw [hrd] at hM
        obtain ⟨ub, ud, rfl, _, _⟩ := k26_openF hM
        have x0 : wk.cell? ⟨g, pre.length * 7, none⟩ = some (.int .u8 k.f0) := hcc 0 _ rfl
        have f0 : wk.frozen? ⟨g, pre.length * 7, none⟩ = false := hfr 0
        have x1 : wk.cell? ⟨g, pre.length * 7 + 1, none⟩ = some (.int .i64 k.f1.f0) := hcc 1 _ rfl
        have f1 : wk.frozen? ⟨g, pre.length * 7 + 1, none⟩ = false := hfr 1
        have x2 : wk.cell? ⟨g, pre.length * 7 + 2, none⟩ = some (.int .i64 k.f1.f1) := hcc 2 _ rfl
        have f2 : wk.frozen? ⟨g, pre.length * 7 + 2, none⟩ = false := hfr 2
        have x3 : wk.cell? ⟨g, pre.length * 7 + 3, none⟩ = some (.int .i64 k.f1.f2) := hcc 3 _ rfl
        have f3 : wk.frozen? ⟨g, pre.length * 7 + 3, none⟩ = false := hfr 3
        have x4 : wk.cell? ⟨g, pre.length * 7 + 4, none⟩ = some (.int .i64 k.f1.f3) := hcc 4 _ rfl
        have f4 : wk.frozen? ⟨g, pre.length * 7 + 4, none⟩ = false := hfr 4
        have x5 : wk.cell? ⟨g, pre.length * 7 + 5, none⟩ = some (.int .i64 k.f2) := hcc 5 _ rfl
        have f5 : wk.frozen? ⟨g, pre.length * 7 + 5, none⟩ = false := hfr 5
        have x6 : wk.cell? ⟨g, pre.length * 7 + 6, none⟩ = some (.slice ub k.f3.length ud) := hcc 6 _ rfl
        have f6 : wk.frozen? ⟨g, pre.length * 7 + 6, none⟩ = false := hfr 6
        have hokp : ∀ q, (((fun q => ((P q ∨ w.heap.size ≤ q) ∧ q ≠ b3) ∧ q ≠ b6) q ∧ q ≠ g) ∧ q ≠ b8) ∨ wd.heap.size ≤ q → ((fun q => ((P q ∨ w.heap.size ≤ q) ∧ q ≠ b3) ∧ q ≠ b6) q ∧ q ≠ b8) ∧ q ≠ g := fun q hq => hq.elim (fun h => ⟨⟨h.1.1, h.2⟩, h.1.2⟩) (fun hn => ⟨⟨⟨⟨.inr (Nat.le_trans HS.out hn), Nat.ne_of_gt (Nat.lt_of_lt_of_le HE3.out hn)⟩, Nat.ne_of_gt (Nat.lt_of_lt_of_le HE6.out hn)⟩, Nat.ne_of_gt (Nat.lt_of_lt_of_le HE8.out hn)⟩, Nat.ne_of_gt (Nat.lt_of_lt_of_le HEG.out hn)⟩)
        have hMk := k26_mkF wk _ (setC k (setXs ck pre x) (setYs ck pre y)) (A6 := Av) (c6 := cv) (by rw [setC_eq]; exact (Kd.N_reads' HO2.out).2.1) (by rw [setC_eq]; exact Kd.N_F HO2.out)
        have hseg := Kd.N_seg HN.out (pre.length : Int) (Int.natCast_nonneg _) hlt (seg := [.int .u8 k.f0, .int .i64 (setXs ck pre x), .int .i64 (setYs ck pre y), .int .i64 k.f1.f2, .int .i64 k.f1.f3, .int .i64 k.f2, .slice Av (setL k.f0 k.f3 (setXs ck pre x) (setYs ck pre y)).length cv]) (j := 0) hcl hcc (show 0 + 7 ≤ 7 from by decide) (x' := setC k (setXs ck pre x) (setYs ck pre y)) (by rw [setC_eq] at hMk ⊢; exact hMk) hokp
        rw [show (setL ck pre x y ++ k :: rest).set (pre.length : Int).toNat (setC k (setXs ck pre x) (setYs ck pre y)) = setL ck (pre ++ [k]) x y ++ rest from set_put ck pre k rest x y] at hseg
        obtain ⟨w9, hw9⟩ : ∃ w9, w9 = wk.setCells g ((pre.length : Int).toNat * 7 + 0) [.int .u8 k.f0, .int .i64 (setXs ck pre x), .int .i64 (setYs ck pre y), .int .i64 k.f1.f2, .int .i64 k.f1.f3, .int .i64 k.f2, .slice Av (setL k.f0 k.f3 (setXs ck pre x) (setYs ck pre y)).length cv] := ⟨_, rfl⟩
        replace hseg : Kd.N k26 26 w9 w.heap.size (fun q => (fun q => ((P q ∨ w.heap.size ≤ q) ∧ q ≠ b3) ∧ q ≠ b6) q ∧ q ≠ b8) (.slice (some ⟨g, 0, none⟩) l.length c1) (setL ck (pre ++ [k]) x y ++ rest) ∧ wk.grownBy w9 (some g) := by rw [hw9]; exact hseg
        have HN9 := Aside0.mk (Kd.N_drop hseg.1)
        have HB9 := Aside0.mk (grown_below HB.out hseg.2 HGB.out HB.out.size)
        have Kb39 := Aside0.mk (blk_grown Kb3.out hseg.2 (fun e_ => (HN.out.1 g rfl).1.1.2 (Option.some.inj e_).symm))
        have Kb69 := Aside0.mk (blk_grown Kb6.out hseg.2 (fun e_ => (HN.out.1 g rfl).1.2 (Option.some.inj e_).symm))
        have Kb89 := Aside0.mk (blk_grown Kb8.out hseg.2 (fun e_ => (HN.out.1 g rfl).2 (Option.some.inj e_).symm))
        clear hseg hMk hokp hcl hcc hfr hM hrd HN HB Kb3 Kb6 Kb8 hHeld HO2
        refine last_ (i := 8) (N := none) #[true, true, true, true, true, true, true, true, true] rfl rfl (one_of HT_.out (by kernel_rfl)) (by decide) (fun K hK => ?_)
        refine skip_ (w1 := w9) (by rfl) rfl ?_ ?_
        · rw [hw9]; go_simp; rfl
        refine hK.out _ _ ?_
        clear hK K x0 x1 x2 x3 x4 x5 x6 f0 f1 f2 f3 f4 f5 f6 hw9
        refine done_ (done_of HT_.out (by kernel_rfl)) ?_
        have d0 := (blk_cell Kb39.out 0).trans rfl
        have e0 := (blk_cell Kb89.out 0).trans rfl
        have d1 := (blk_cell Kb39.out 1).trans rfl
        have e1 := (blk_cell Kb89.out 1).trans rfl
        have d2 := (blk_cell Kb39.out 2).trans rfl
        have e2 := (blk_cell Kb89.out 2).trans rfl
        have d3 := (blk_cell Kb39.out 3).trans rfl
        have e3 := (blk_cell Kb89.out 3).trans rfl
        have d4 := (blk_cell Kb39.out 4).trans rfl
        have e4 := (blk_cell Kb89.out 4).trans rfl
        have d5 := (blk_cell Kb39.out 5).trans rfl
        have e5 := (blk_cell Kb89.out 5).trans rfl
        have d6 := (blk_cell Kb39.out 6).trans rfl
        have e6 := (blk_cell Kb89.out 6).trans rfl
        by_cases k2 : ck = 2
        · have k2b0 : (ck == 2) = true := beq_iff_eq.mpr k2
          have K2 := Aside0.mk k2
          clear k2
          have hw := HW1.out
          go_wp2
          clear d0 d1 d2 d3 d4 d5 d6 e0 e1 e2 e3 e4 e5 e6
          go_roundg rest.length
          case measure => exact Nat.lt_of_lt_of_le (Nat.lt_succ_self _) HGG.out
          case rel => exact ⟨pre ++ [k], rest, (by rw [setXs_snoc]; unfold setX; rw [if_pos K2.out]), (by rw [setYs_snoc]; unfold setY; rw [if_pos K2.out]), (by rw [hw]), ⟨by rw [List.append_assoc]; exact HE.out⟩, Nat.le_refl _, HN9, Kb39, Kb69, HB9⟩
        · have k2b0 : (ck == 2) = false := beq_eq_false_iff_ne.mpr k2
          have K2 := Aside0.mk k2
          clear k2
          by_cases k3 : ck = 3
          · have k3b0 : (ck == 3) = true := beq_iff_eq.mpr k3
            have K3 := Aside0.mk k3
            clear k3
            have hw := HW1.out
            go_wp2
            clear d0 d1 d2 d3 d4 d5 d6 e0 e1 e2 e3 e4 e5 e6
            go_roundg rest.length
            case measure => exact Nat.lt_of_lt_of_le (Nat.lt_succ_self _) HGG.out
            case rel => exact ⟨pre ++ [k], rest, (by rw [setXs_snoc]; unfold setX; rw [if_neg K2.out]), (by rw [setYs_snoc]; unfold setY; rw [if_neg K2.out, if_pos K3.out]), (by rw [hw]), ⟨by rw [List.append_assoc]; exact HE.out⟩, Nat.le_refl _, HN9, Kb39, Kb69, HB9⟩
          · have k3b0 : (ck == 3) = false := beq_eq_false_iff_ne.mpr k3
            have K3 := Aside0.mk k3
            clear k3
            have hw := HW1.out
            go_wp2
            clear d0 d1 d2 d3 d4 d5 d6 e0 e1 e2 e3 e4 e5 e6
            go_roundg rest.length
            case measure => exact Nat.lt_of_lt_of_le (Nat.lt_succ_self _) HGG.out
            case rel => exact ⟨pre ++ [k], rest, (by rw [setXs_snoc]; unfold setX; rw [if_neg K2.out]), (by rw [setYs_snoc]; unfold setY; rw [if_neg K2.out, if_neg K3.out]), (by rw [hw]), ⟨by rw [List.append_assoc]; exact HE.out⟩, Nat.le_refl _, HN9, Kb39, Kb69, HB9⟩
def adjust_Set.f (a0 a1 a2 a3 a4 a5 : Int) (l : List S26) (x y : Int) : Option (Int × Int × Int × Int × Int × Int × List S26) := if sz ⟨a0, ⟨a1, a2, a3, a4⟩, a5, l⟩ ≤ 1000000 then some (a0, x, y, a3, a4, a5, setL a0 l x y) else none
theorem adjust_Set.calls (a0_0 a0_1 a0_2 a0_3 a0_4 a0_5 : Int) (P0_6_ : Nat → Prop) (A0_6 : Option Addr) (c0_6 : Nat) (l0_6 : List S26) (a1 a2 : Int) (r1 r2 r3 r4 r5 r6 : Int) (r7 : List S26) (w : World) (hs0_6 : Kd.V k26 26 w w.heap.size (fun k_ => P0_6_ k_) (.slice A0_6 l0_6.length c0_6) l0_6) (h : adjust_Set.f a0_0 a0_1 a0_2 a0_3 a0_4 a0_5 l0_6 a1 a2 = some (r1, r2, r3, r4, r5, r6, r7)) :
    Calls Try.prog 66 #[.agg #[.int .u8 a0_0, .int .i64 a0_1, .int .i64 a0_2, .int .i64 a0_3, .int .i64 a0_4, .int .i64 a0_5, .slice A0_6 l0_6.length c0_6], .int .i64 a1, .int .i64 a2] w fun e w' => ∃ v6_ : Value, e = .returned (.agg #[.int .u8 r1, .int .i64 r2, .int .i64 r3, .int .i64 r4, .int .i64 r5, .int .i64 r6, v6_]) ∧ Kd.N k26 26 w' w.heap.size (fun k_ => (P0_6_ k_ ∨ w.heap.size ≤ k_)) v6_ r7 ∧ Below w.heap.size w w' := by
  unfold adjust_Set.f at h
  split at h
  · rename_i hz
    simp only [Option.some.injEq, Prod.mk.injEq] at h
    obtain ⟨rfl, rfl, rfl, rfl, rfl, rfl, rfl⟩ := h
    exact set66 1000000 ⟨a0_0, ⟨a0_1, a0_2, a0_3, a0_4⟩, a0_5, l0_6⟩ hz (Nat.le_refl _) P0_6_ A0_6 c0_6 a1 a2 w hs0_6
  · exact absurd h (by simp)
end Go.Proofs.Ytfdmfgaiblfbhaa.P
namespace Go.Proofs.Ytfdmfgaiblfbhaa.P
open Go.RowKit Go.Proofs.YtfdmfgaiblfbhaaW.PrintWords Go.Proofs.YtfdmfgaiblfbhaaW.PrintLast Go.Proofs.YtfdmfgaiblfbhaaW.PrintMore
attribute [local go_sem] max2_int min2_int max_two min_two max_three min_three max_four min_four   -- for this text's walks alone
set_option linter.unusedVariables false
set_option linter.unusedSimpArgs false

/-! ### sashlaw09_AdjustSets: function 12 -/
def sashlaw09_AdjustSets.f (k : Nat) (a0_0 : Int) (a0_1 : Int) (a0_2 : Int) (a0_3 : Int) (a0_4 : Int) (a0_5 : Int) (l0_6 : List (S26)) (a1 : Int) (a2 : Int) : Option (Bool) := (sashref05_Great.f k a0_0 a0_1 a0_2 a0_3 a0_4 a0_5 l0_6).bind fun t700 => (if t700 = true then ((sashlaw09_awake.f k).bind fun t701 => (some t701)) else ((adjust_Set.f a0_0 a0_1 a0_2 a0_3 a0_4 a0_5 l0_6 a1 a2).bind fun bt702 => ((sashref09_Set.f k a0_0 a0_1 a0_2 a0_3 a0_4 a0_5 l0_6 a1 a2).bind fun bt711 => ((sashref05_Same.f k bt702.1 bt702.2.1 bt702.2.2.1 bt702.2.2.2.1 bt702.2.2.2.2.1 bt702.2.2.2.2.2.1 bt702.2.2.2.2.2.2 bt711.1 bt711.2.1 bt711.2.2.1 bt711.2.2.2.1 bt711.2.2.2.2.1 bt711.2.2.2.2.2.1 bt711.2.2.2.2.2.2).bind fun t720 => (if t720 = true then ((sashlaw09_awake.f k).bind fun t721 => (some t721)) else (some false))))))
theorem sashlaw09_AdjustSets.mono : ∀ a0 a1 a2 a3 a4 a5 a6 a7 a8 k, LeO (sashlaw09_AdjustSets.f k a0 a1 a2 a3 a4 a5 a6 a7 a8) (sashlaw09_AdjustSets.f (k + 1) a0 a1 a2 a3 a4 a5 a6 a7 a8) := by
  intro a0 a1 a2 a3 a4 a5 a6 a7 a8 k
  unfold sashlaw09_AdjustSets.f
  repeat' first
      | (with_reducible exact sashlaw09_awake.mono _)
      | (with_reducible exact sashref05_Great.mono _ _ _ _ _ _ _ _)
      | (with_reducible exact sashref05_Same.mono _ _ _ _ _ _ _ _ _ _ _ _ _ _ _)
      | (with_reducible exact sashref09_Set.mono _ _ _ _ _ _ _ _ _ _)
      | (with_reducible exact LeO.refl _)
      | (with_reducible exact LeO.none _)
      | (with_reducible refine LeO.ite ?_ ?_)
      | (with_reducible refine LeO.bind ?_ (fun _ => ?_))
      | exact sashlaw09_awake.mono _
      | exact sashref05_Great.mono _ _ _ _ _ _ _ _
      | exact sashref05_Same.mono _ _ _ _ _ _ _ _ _ _ _ _ _ _ _
      | exact sashref09_Set.mono _ _ _ _ _ _ _ _ _ _
      | exact LeO.none _
      | refine LeO.ite ?_ ?_
      | refine LeO.bind ?_ (fun _ => ?_)
def sashlaw09_AdjustSets.T3 : Bool × List (List Nat × List Nat) := (true, [([], []), ([], []), ([], []), ([0, 1, 2], [0, 1, 2]), ([], []), ([], []), ([], []), ([4, 5, 6, 3], [4, 5, 6]), ([3, 7, 7], [3, 7]), ([8, 8], [8]), ([9, 9], [9]), ([9, 10], [9, 10]), ([11, 10, 0, 1, 2, 3, 4, 5, 6, 7, 8, 9, 10, 11], [11])])
def sashlaw09_AdjustSets.B3 : List Nat := [0, 0, 0, 7, 0, 0, 0, 127, 255, 511, 1023, 2047, 4095]
theorem sashlaw09_AdjustSets.tab3 : rtab .any (opsOf Try.f12 3) = sashlaw09_AdjustSets.T3 := by kernel_rfl
theorem sashlaw09_AdjustSets.bits3 : waitsOk sashlaw09_AdjustSets.T3.2 sashlaw09_AdjustSets.B3 = true := by kernel_rfl
set_option maxHeartbeats 8000000 in
set_option maxRecDepth 100000 in
theorem sashlaw09_AdjustSets.calls (k : Nat) (a0_0 : Int) (a0_1 : Int) (a0_2 : Int) (a0_3 : Int) (a0_4 : Int) (a0_5 : Int) (A0_6 : Option Addr) (c0_6 : Nat) (l0_6 : List (S26)) (a1 : Int) (a2 : Int) (r : Bool) (w : World) (hr0_6 : Kd.C k26 w A0_6 l0_6.length l0_6) (hc0_6 : l0_6.length ≤ c0_6) (h : sashlaw09_AdjustSets.f k a0_0 a0_1 a0_2 a0_3 a0_4 a0_5 l0_6 a1 a2 = some r) :
    Calls Try.prog 12 #[.agg #[.int .u8 a0_0, .int .i64 a0_1, .int .i64 a0_2, .int .i64 a0_3, .int .i64 a0_4, .int .i64 a0_5, .slice A0_6 l0_6.length c0_6], .int .i64 a1, .int .i64 a2] w fun e w' => e = .returned (.bool r) ∧ Below w.heap.size w w' := by
  have hu26 := Try.underlying26
  have HR0_6 := Aside0.mk hr0_6
  have HC0_6 := Aside0.mk hc0_6
  clear hr0_6 hc0_6
  have HB := Aside0.mk (Below.refl w.heap.size w)
  have H : ((sashref05_Great.f k a0_0 a0_1 a0_2 a0_3 a0_4 a0_5 l0_6).bind fun t700 => (if t700 = true then ((sashlaw09_awake.f k).bind fun t701 => (some t701)) else ((adjust_Set.f a0_0 a0_1 a0_2 a0_3 a0_4 a0_5 l0_6 a1 a2).bind fun bt702 => ((sashref09_Set.f k a0_0 a0_1 a0_2 a0_3 a0_4 a0_5 l0_6 a1 a2).bind fun bt711 => ((sashref05_Same.f k bt702.1 bt702.2.1 bt702.2.2.1 bt702.2.2.2.1 bt702.2.2.2.2.1 bt702.2.2.2.2.2.1 bt702.2.2.2.2.2.2 bt711.1 bt711.2.1 bt711.2.2.1 bt711.2.2.2.1 bt711.2.2.2.2.1 bt711.2.2.2.2.2.1 bt711.2.2.2.2.2.2).bind fun t720 => (if t720 = true then ((sashlaw09_awake.f k).bind fun t721 => (some t721)) else (some false))))))) = some r := h
  clear h
  replace H := Option.bind_eq_some_iff.mp H
  obtain ⟨t700, A40, H⟩ := H
  replace H : (if t700 = true then ((sashlaw09_awake.f k).bind fun t701 => (some t701)) else ((adjust_Set.f a0_0 a0_1 a0_2 a0_3 a0_4 a0_5 l0_6 a1 a2).bind fun bt702 => ((sashref09_Set.f k a0_0 a0_1 a0_2 a0_3 a0_4 a0_5 l0_6 a1 a2).bind fun bt711 => ((sashref05_Same.f k bt702.1 bt702.2.1 bt702.2.2.1 bt702.2.2.2.1 bt702.2.2.2.2.1 bt702.2.2.2.2.2.1 bt702.2.2.2.2.2.2 bt711.1 bt711.2.1 bt711.2.2.1 bt711.2.2.2.1 bt711.2.2.2.2.1 bt711.2.2.2.2.2.1 bt711.2.2.2.2.2.2).bind fun t720 => (if t720 = true then ((sashlaw09_awake.f k).bind fun t721 => (some t721)) else (some false)))))) = some r := H
  have A4 := Aside0.mk A40
  clear A40
  by_cases c5 : t700 = true
  · subst c5
    have H1 : ((sashlaw09_awake.f k).bind fun t701 => (some t701)) = some r := by rw [if_pos rfl] at H; exact H
    clear H
    have H := H1
    clear H1
    replace H := Option.bind_eq_some_iff.mp H
    obtain ⟨t701, A60, H⟩ := H
    replace H : (some t701) = some r := H
    have A6 := Aside0.mk A60
    clear A60
    obtain rfl := Option.some.inj H
    go_enter Try.func12, Try.ntmps12
    go_wp2_with (first | ((with_reducible refine gate_dst (N := 3) rfl ?_); refine box_event ?hg (N := 3) ?hd (cs := #[.int .u8 a0_0, .int .i64 a0_1, .int .i64 a0_2, .int .i64 a0_3, .int .i64 a0_4, .int .i64 a0_5, .slice A0_6 l0_6.length c0_6]) (t := 26) ?hr ?_; (case hd => rfl); (case hg => rfl); (case hr => first | (go_simp; done) | (go_simp; rfl)); intro gb699 hg w7 hbox hb; have n0_ := Aside0.mk (below_step (by repeat (first | (with_reducible first | exact HB.out | apply below_alloc | apply pw_below_drewN | apply below_drew1) | exact HB.out)) hb); have n1_ := Aside0.mk (hbox); have n2_ := Aside0.mk ((by rw [hg]; exact (below_size (by repeat (first | (with_reducible first | exact HB.out | apply below_alloc | apply pw_below_drewN | apply below_drew1) | exact HB.out))) : w.heap.size ≤ gb699)); have n3_ := Aside0.mk ((by rw [hg]; exact (below_size (by repeat (first | (with_reducible first | exact HB.out | apply below_alloc | apply pw_below_drewN | apply below_drew1) | exact HB.out))) : w.heap.size ≤ gb699)); clear HB; have HB := n0_; have BK699 := n1_; have GW699 := n2_; have GE699 := n3_; clear n0_ n1_ n2_ n3_; clear hb hbox hg; have hcz8_0 : w7.cell? ⟨gb699, 0, none⟩ = some (.int .u8 a0_0) := (blk_cell BK699.out 0).trans rfl; have hcz8_1 : w7.cell? ⟨gb699, 1, none⟩ = some (.int .i64 a0_1) := (blk_cell BK699.out 1).trans rfl; have hcz8_2 : w7.cell? ⟨gb699, 2, none⟩ = some (.int .i64 a0_2) := (blk_cell BK699.out 2).trans rfl; have hcz8_3 : w7.cell? ⟨gb699, 3, none⟩ = some (.int .i64 a0_3) := (blk_cell BK699.out 3).trans rfl; have hcz8_4 : w7.cell? ⟨gb699, 4, none⟩ = some (.int .i64 a0_4) := (blk_cell BK699.out 4).trans rfl; have hcz8_5 : w7.cell? ⟨gb699, 5, none⟩ = some (.int .i64 a0_5) := (blk_cell BK699.out 5).trans rfl; have hcz8_6 : w7.cell? ⟨gb699, 6, none⟩ = some (.slice A0_6 l0_6.length c0_6) := (blk_cell BK699.out 6).trans rfl; have hfz8_0 := blk_frozen BK699.out 0; have hfz8_1 := blk_frozen BK699.out 1; have hfz8_2 := blk_frozen BK699.out 2; have hfz8_3 := blk_frozen BK699.out 3; have hfz8_4 := blk_frozen BK699.out 4; have hfz8_5 := blk_frozen BK699.out 5; have hfz8_6 := blk_frozen BK699.out 6) | ((with_reducible refine gate_callee (f := 34) rfl ?_); refine goesL_ (some 8) rfl rfl Try.func34 (by kernel_rfl) rfl #[.agg #[.int .u8 a0_0, .int .i64 a0_1, .int .i64 a0_2, .int .i64 a0_3, .int .i64 a0_4, .int .i64 a0_5, .slice A0_6 l0_6.length c0_6]] rfl (by (try simp only [List.map_toArray, List.map_cons, List.map_nil]); first | done | rfl | (simp only [List.length_drop, List.length_take]; rfl)) ?_; (with_reducible refine (sashref05_Great.calls k a0_0 a0_1 a0_2 a0_3 a0_4 a0_5 _ _ l0_6 true _ ?side1 ?side2 A4.out).mono ?_); (case side1 => repeat (first | exact (Kd.C_below HR0_6.out HB.out) | (with_reducible refine Kd.C_alloc ?_ _) | (with_reducible refine Kd.C_drewN ?_ _) | (with_reducible refine Kd.C_drew ?_))); (case side2 => exact HC0_6.out); rintro e w9 ⟨rfl, hb⟩; refine ⟨_, rfl, ?_⟩; have n0_ := Aside0.mk (blk_below (g := gb699) (o := .cells #[.int .u8 a0_0, .int .i64 a0_1, .int .i64 a0_2, .int .i64 a0_3, .int .i64 a0_4, .int .i64 a0_5, .slice A0_6 l0_6.length c0_6] 26 (0, 0)) (by (with_reducible repeat (first | refine blk_drewN ?_ _ | refine blk_drew ?_ | refine blk_alloc ?_ _)); exact BK699.out) hb); have n1_ := Aside0.mk (below_step (by repeat (first | (with_reducible first | exact HB.out | apply below_alloc | apply pw_below_drewN | apply below_drew1 | refine below_set ?_ GE699.out) | exact HB.out)) hb); clear BK699; clear HB; have BK699 := n0_; have HB := n1_; clear n0_ n1_; (try clear hb); (try clear hb2); (try clear hk); (try clear hi)) | ((with_reducible refine gate_callee (f := 48) rfl ?_); refine goesL_ (some 9) rfl rfl Try.func48 (by kernel_rfl) rfl #[] rfl (by (try simp only [List.map_toArray, List.map_cons, List.map_nil]); first | done | rfl | (simp only [List.length_drop, List.length_take]; rfl)) ?_; (with_reducible refine (sashlaw09_awake.calls k  t701 _ A6.out).mono ?_); rintro e w10 ⟨rfl, hb⟩; refine ⟨_, rfl, ?_⟩; have n0_ := Aside0.mk (blk_below (g := gb699) (o := .cells #[.int .u8 a0_0, .int .i64 a0_1, .int .i64 a0_2, .int .i64 a0_3, .int .i64 a0_4, .int .i64 a0_5, .slice A0_6 l0_6.length c0_6] 26 (0, 0)) (by (with_reducible repeat (first | refine blk_drewN ?_ _ | refine blk_drew ?_ | refine blk_alloc ?_ _)); exact BK699.out) hb); have n1_ := Aside0.mk (below_step (by repeat (first | (with_reducible first | exact HB.out | apply below_alloc | apply pw_below_drewN | apply below_drew1 | refine below_set ?_ GE699.out) | exact HB.out)) hb); clear BK699; clear HB; have BK699 := n0_; have HB := n1_; clear n0_ n1_; (try clear hb); (try clear hb2); (try clear hk); (try clear hi)))
    go_ret
    exact ⟨by first | rfl | (simp [errW_none, errW_some] <;> rfl) | (simp [*, errW_none, errW_some] <;> rfl), by repeat (first | (with_reducible first | exact HB.out | apply below_alloc | apply pw_below_drewN | apply below_drew1 | refine below_set ?_ GE699.out) | exact HB.out)⟩
  · replace c5 := Bool.eq_false_iff.mpr c5
    subst c5
    have H1 : ((adjust_Set.f a0_0 a0_1 a0_2 a0_3 a0_4 a0_5 l0_6 a1 a2).bind fun bt702 => ((sashref09_Set.f k a0_0 a0_1 a0_2 a0_3 a0_4 a0_5 l0_6 a1 a2).bind fun bt711 => ((sashref05_Same.f k bt702.1 bt702.2.1 bt702.2.2.1 bt702.2.2.2.1 bt702.2.2.2.2.1 bt702.2.2.2.2.2.1 bt702.2.2.2.2.2.2 bt711.1 bt711.2.1 bt711.2.2.1 bt711.2.2.2.1 bt711.2.2.2.2.1 bt711.2.2.2.2.2.1 bt711.2.2.2.2.2.2).bind fun t720 => (if t720 = true then ((sashlaw09_awake.f k).bind fun t721 => (some t721)) else (some false))))) = some r := by rw [if_neg (show ¬ (false = true) by decide)] at H; exact H
    clear H
    have H := H1
    clear H1
    replace H := Option.bind_eq_some_iff.mp H
    obtain ⟨⟨t702, t703, t704, t705, t706, t707, t708⟩, A110, H⟩ := H
    replace H : ((sashref09_Set.f k a0_0 a0_1 a0_2 a0_3 a0_4 a0_5 l0_6 a1 a2).bind fun bt711 => ((sashref05_Same.f k t702 t703 t704 t705 t706 t707 t708 bt711.1 bt711.2.1 bt711.2.2.1 bt711.2.2.2.1 bt711.2.2.2.2.1 bt711.2.2.2.2.2.1 bt711.2.2.2.2.2.2).bind fun t720 => (if t720 = true then ((sashlaw09_awake.f k).bind fun t721 => (some t721)) else (some false)))) = some r := H
    have A11 := Aside0.mk A110
    clear A110
    replace H := Option.bind_eq_some_iff.mp H
    obtain ⟨⟨t711, t712, t713, t714, t715, t716, t717⟩, A120, H⟩ := H
    replace H : ((sashref05_Same.f k t702 t703 t704 t705 t706 t707 t708 t711 t712 t713 t714 t715 t716 t717).bind fun t720 => (if t720 = true then ((sashlaw09_awake.f k).bind fun t721 => (some t721)) else (some false))) = some r := H
    have A12 := Aside0.mk A120
    clear A120
    replace H := Option.bind_eq_some_iff.mp H
    obtain ⟨t720, A130, H⟩ := H
    replace H : (if t720 = true then ((sashlaw09_awake.f k).bind fun t721 => (some t721)) else (some false)) = some r := H
    have A13 := Aside0.mk A130
    clear A130
    by_cases c14 : t720 = true
    · subst c14
      have H1 : ((sashlaw09_awake.f k).bind fun t721 => (some t721)) = some r := by rw [if_pos rfl] at H; exact H
      clear H
      have H := H1
      clear H1
      replace H := Option.bind_eq_some_iff.mp H
      obtain ⟨t721, A150, H⟩ := H
      replace H : (some t721) = some r := H
      have A15 := Aside0.mk A150
      clear A150
      obtain rfl := Option.some.inj H
      go_enter Try.func12, Try.ntmps12
      try go_wp2_with (first | ((with_reducible refine gate_dst (N := 3) rfl ?_); refine box_event ?hg (N := 3) ?hd (cs := #[.int .u8 a0_0, .int .i64 a0_1, .int .i64 a0_2, .int .i64 a0_3, .int .i64 a0_4, .int .i64 a0_5, .slice A0_6 l0_6.length c0_6]) (t := 26) ?hr ?_; (case hd => rfl); (case hg => rfl); (case hr => first | (go_simp; done) | (go_simp; rfl)); intro gb699 hg w16 hbox hb; have n0_ := Aside0.mk (below_step (by repeat (first | (with_reducible first | exact HB.out | apply below_alloc | apply pw_below_drewN | apply below_drew1) | exact HB.out)) hb); have n1_ := Aside0.mk (hbox); have n2_ := Aside0.mk ((by rw [hg]; exact (below_size (by repeat (first | (with_reducible first | exact HB.out | apply below_alloc | apply pw_below_drewN | apply below_drew1) | exact HB.out))) : w.heap.size ≤ gb699)); have n3_ := Aside0.mk ((by rw [hg]; exact (below_size (by repeat (first | (with_reducible first | exact HB.out | apply below_alloc | apply pw_below_drewN | apply below_drew1) | exact HB.out))) : w.heap.size ≤ gb699)); clear HB; have HB := n0_; have BK699 := n1_; have GW699 := n2_; have GE699 := n3_; clear n0_ n1_ n2_ n3_; clear hb hbox hg; have hcz17_0 : w16.cell? ⟨gb699, 0, none⟩ = some (.int .u8 a0_0) := (blk_cell BK699.out 0).trans rfl; have hcz17_1 : w16.cell? ⟨gb699, 1, none⟩ = some (.int .i64 a0_1) := (blk_cell BK699.out 1).trans rfl; have hcz17_2 : w16.cell? ⟨gb699, 2, none⟩ = some (.int .i64 a0_2) := (blk_cell BK699.out 2).trans rfl; have hcz17_3 : w16.cell? ⟨gb699, 3, none⟩ = some (.int .i64 a0_3) := (blk_cell BK699.out 3).trans rfl; have hcz17_4 : w16.cell? ⟨gb699, 4, none⟩ = some (.int .i64 a0_4) := (blk_cell BK699.out 4).trans rfl; have hcz17_5 : w16.cell? ⟨gb699, 5, none⟩ = some (.int .i64 a0_5) := (blk_cell BK699.out 5).trans rfl; have hcz17_6 : w16.cell? ⟨gb699, 6, none⟩ = some (.slice A0_6 l0_6.length c0_6) := (blk_cell BK699.out 6).trans rfl; have hfz17_0 := blk_frozen BK699.out 0; have hfz17_1 := blk_frozen BK699.out 1; have hfz17_2 := blk_frozen BK699.out 2; have hfz17_3 := blk_frozen BK699.out 3; have hfz17_4 := blk_frozen BK699.out 4; have hfz17_5 := blk_frozen BK699.out 5; have hfz17_6 := blk_frozen BK699.out 6) | ((with_reducible refine gate_callee (f := 34) rfl ?_); refine goesL_ (some 8) rfl rfl Try.func34 (by kernel_rfl) rfl #[.agg #[.int .u8 a0_0, .int .i64 a0_1, .int .i64 a0_2, .int .i64 a0_3, .int .i64 a0_4, .int .i64 a0_5, .slice A0_6 l0_6.length c0_6]] rfl (by (try simp only [List.map_toArray, List.map_cons, List.map_nil]); first | done | rfl | (simp only [List.length_drop, List.length_take]; rfl)) ?_; (with_reducible refine (sashref05_Great.calls k a0_0 a0_1 a0_2 a0_3 a0_4 a0_5 _ _ l0_6 false _ ?side1 ?side2 A4.out).mono ?_); (case side1 => repeat (first | exact (Kd.C_below HR0_6.out HB.out) | (with_reducible refine Kd.C_alloc ?_ _) | (with_reducible refine Kd.C_drewN ?_ _) | (with_reducible refine Kd.C_drew ?_))); (case side2 => exact HC0_6.out); rintro e w18 ⟨rfl, hb⟩; refine ⟨_, rfl, ?_⟩; have n0_ := Aside0.mk (blk_below (g := gb699) (o := .cells #[.int .u8 a0_0, .int .i64 a0_1, .int .i64 a0_2, .int .i64 a0_3, .int .i64 a0_4, .int .i64 a0_5, .slice A0_6 l0_6.length c0_6] 26 (0, 0)) (by (with_reducible repeat (first | refine blk_drewN ?_ _ | refine blk_drew ?_ | refine blk_alloc ?_ _)); exact BK699.out) hb); have n1_ := Aside0.mk (below_step (by repeat (first | (with_reducible first | exact HB.out | apply below_alloc | apply pw_below_drewN | apply below_drew1 | refine below_set ?_ GE699.out) | exact HB.out)) hb); clear BK699; clear HB; have BK699 := n0_; have HB := n1_; clear n0_ n1_; (try clear hb); (try clear hb2); (try clear hk); (try clear hi)))
      have n0_ := Aside0.mk (blk_drew BK699.out)
      have n1_ := Aside0.mk (below_drew1 HB.out)
      clear BK699
      clear HB
      have BK699 := n0_
      have HB := n1_
      clear n0_ n1_
      refine start_ (n := 13) (S := fun w' => w'.cell? ⟨gb699, 0, none⟩ = some (.int .u8 a0_0) ∧ w'.cell? ⟨gb699, 1, none⟩ = some (.int .i64 a0_1) ∧ w'.cell? ⟨gb699, 2, none⟩ = some (.int .i64 a0_2) ∧ w'.cell? ⟨gb699, 3, none⟩ = some (.int .i64 a0_3) ∧ w'.cell? ⟨gb699, 4, none⟩ = some (.int .i64 a0_4) ∧ w'.cell? ⟨gb699, 5, none⟩ = some (.int .i64 a0_5) ∧ w'.cell? ⟨gb699, 6, none⟩ = some (.slice A0_6 l0_6.length c0_6)) (ds := []) #[false, false, false, false, false, false, false, false, false, false, false, false, false] (by kernel_rfl) rfl rfl ⟨(blk_cell BK699.out 0).trans rfl, (blk_cell BK699.out 1).trans rfl, (blk_cell BK699.out 2).trans rfl, (blk_cell BK699.out 3).trans rfl, (blk_cell BK699.out 4).trans rfl, (blk_cell BK699.out 5).trans rfl, (blk_cell BK699.out 6).trans rfl⟩ (fun hHeld => ?_); refine with_tabW sashlaw09_AdjustSets.tab3 sashlaw09_AdjustSets.bits3 (fun HT_ HW_ => ?_)
      generalize w18.drew = w19 at BK699 HB hHeld ⊢
      refine pure_ (i := 1) (N := some 11) (v := ?_) (a' := ?_) #[false, true, false, false, false, false, false, false, false, false, false, false, false] rfl rfl (any_of HT_.out (by kernel_rfl)) (fun _ _ _ h => h) (Or.inl ⟨by rfl, ?_⟩) ?_ ?_
      rotate_left
      · intro w'
        go_simp
        with_reducible rfl
      rotate_left
      · simp only [Act.put, List.setIfInBounds_toArray, List.set_cons_zero, List.set_cons_succ, i64_w, i32_w]
        rfl
      refine pure_ (i := 2) (N := some 12) (v := ?_) (a' := ?_) #[false, true, true, false, false, false, false, false, false, false, false, false, false] rfl rfl (any_of HT_.out (by kernel_rfl)) (fun _ _ _ h => h) (Or.inl ⟨by rfl, ?_⟩) ?_ ?_
      rotate_left
      · intro w'
        go_simp
        with_reducible rfl
      rotate_left
      · simp only [Act.put, List.setIfInBounds_toArray, List.set_cons_zero, List.set_cons_succ, i64_w, i32_w]
        rfl
      refine pure_ (i := 5) (N := some 15) (v := ?_) (a' := ?_) #[false, true, true, false, false, true, false, false, false, false, false, false, false] rfl rfl (any_of HT_.out (by kernel_rfl)) (fun _ _ _ h => h) (Or.inl ⟨by rfl, ?_⟩) ?_ ?_
      rotate_left
      · intro w'
        go_simp
        with_reducible rfl
      rotate_left
      · simp only [Act.put, List.setIfInBounds_toArray, List.set_cons_zero, List.set_cons_succ, i64_w, i32_w]
        rfl
      refine pure_ (i := 6) (N := some 16) (v := ?_) (a' := ?_) #[false, true, true, false, false, true, true, false, false, false, false, false, false] rfl rfl (any_of HT_.out (by kernel_rfl)) (fun _ _ _ h => h) (Or.inl ⟨by rfl, ?_⟩) ?_ ?_
      rotate_left
      · intro w'
        go_simp
        with_reducible rfl
      rotate_left
      · simp only [Act.put, List.setIfInBounds_toArray, List.set_cons_zero, List.set_cons_succ, i64_w, i32_w]
        rfl
      refine take_ (i := 0) (N := some 10) (v := ?_) (a' := ?_) #[true, true, true, false, false, true, true, false, false, false, false, false, false] rfl rfl (take_ofW HT_.out HW_.out (by kernel_rfl)) (fun _ _ _ h => h) (Or.inl ⟨by rfl, ?_⟩) hHeld ?_ ?_
      rotate_left
      · rintro w' ⟨s0, s1, s2, s3, s4, s5, s6⟩
        go_simp
        with_reducible rfl
      rotate_left
      · simp only [Act.put, List.setIfInBounds_toArray, List.set_cons_zero, List.set_cons_succ, i64_w, i32_w]
        rfl
      refine take_ (i := 4) (N := some 14) (v := ?_) (a' := ?_) #[true, true, true, false, true, true, true, false, false, false, false, false, false] rfl rfl (take_ofW HT_.out HW_.out (by kernel_rfl)) (fun _ _ _ h => h) (Or.inl ⟨by rfl, ?_⟩) hHeld ?_ ?_
      rotate_left
      · rintro w' ⟨s0, s1, s2, s3, s4, s5, s6⟩
        go_simp
        with_reducible rfl
      rotate_left
      · simp only [Act.put, List.setIfInBounds_toArray, List.set_cons_zero, List.set_cons_succ, i64_w, i32_w]
        rfl
      refine one_ (i := 3) (N := some 13) #[true, true, true, true, true, true, true, false, false, false, false, false, false] rfl rfl (one_of HT_.out (by kernel_rfl)) (by decide) (fun K hK => ?_)
      refine goes_ Try.func66 (by kernel_rfl) rfl #[.agg #[.int .u8 a0_0, .int .i64 a0_1, .int .i64 a0_2, .int .i64 a0_3, .int .i64 a0_4, .int .i64 a0_5, .slice A0_6 l0_6.length c0_6], .int .i64 a1, .int .i64 a2] (by rfl) rfl rfl (by (try simp only [List.map_toArray, List.map_cons, List.map_nil]); first | done | rfl | (simp only [List.length_drop, List.length_take]; rfl)) ?_
      with_reducible refine (adjust_Set.calls a0_0 a0_1 a0_2 a0_3 a0_4 a0_5 (fun k_ => k_ < w.heap.size) _ _ l0_6 a1 a2 t702 t703 t704 t705 t706 t707 t708 _ ?side1 A11.out).mono ?_
      (case side1 => exact Kd.V_mk HC0_6.out (Kd.F_below (Kd.C_F k26_heap HR0_6.out) (by repeat (first | (with_reducible first | exact HB.out | apply below_alloc | apply pw_below_drewN | apply below_drew1 | refine below_set ?_ GE699.out) | exact HB.out))))
      rintro e w20 ⟨v709, rfl, ho0, hb⟩
      refine ⟨_, rfl, ?_⟩
      have n0_ := Aside0.mk (Kd.N_lower (Kd.N_mono (ok' := fun k_ => k_ ≠ gb699) ho0 (fun k_ hk_ => Or.elim hk_ (fun hs_ => fun e_ => Nat.not_le.2 hs_ (by rw [e_]; exact GW699.out)) (fun hn_ => (Kd.freshB (g := gb699) (o := .cells #[.int .u8 a0_0, .int .i64 a0_1, .int .i64 a0_2, .int .i64 a0_3, .int .i64 a0_4, .int .i64 a0_5, .slice A0_6 l0_6.length c0_6] 26 (0, 0)) (by (with_reducible repeat (first | refine blk_drewN ?_ _ | refine blk_drew ?_ | refine blk_alloc ?_ _)); exact BK699.out) k_ hn_)))) (below_size (by repeat (first | (with_reducible first | exact HB.out | apply below_alloc | apply pw_below_drewN | apply below_drew1 | refine below_set ?_ GE699.out) | exact HB.out))))
      have n1_ := Aside0.mk (blk_below (g := gb699) (o := .cells #[.int .u8 a0_0, .int .i64 a0_1, .int .i64 a0_2, .int .i64 a0_3, .int .i64 a0_4, .int .i64 a0_5, .slice A0_6 l0_6.length c0_6] 26 (0, 0)) (by (with_reducible repeat (first | refine blk_drewN ?_ _ | refine blk_drew ?_ | refine blk_alloc ?_ _)); exact BK699.out) hb)
      have n2_ := Aside0.mk (below_step (by repeat (first | (with_reducible first | exact HB.out | apply below_alloc | apply pw_below_drewN | apply below_drew1 | refine below_set ?_ GE699.out) | exact HB.out)) hb)
      clear BK699
      clear HB
      have HO710 := n0_
      have BK699 := n1_
      have HB := n2_
      clear n0_ n1_ n2_
      (try clear hb)
      (try clear hb2)
      (try clear hk)
      (try clear hi)
      (try clear ho0)
      refine hK.out _ _ ⟨(blk_cell BK699.out 0).trans rfl, (blk_cell BK699.out 1).trans rfl, (blk_cell BK699.out 2).trans rfl, (blk_cell BK699.out 3).trans rfl, (blk_cell BK699.out 4).trans rfl, (blk_cell BK699.out 5).trans rfl, (blk_cell BK699.out 6).trans rfl⟩ (fun hHeld => ?_)
      clear hK K
      refine norm_ (a' := ?_) ?_ ?_
      rotate_left
      · show Act.put _ (some 13) _ = _
        simp only [Act.put, List.setIfInBounds_toArray, List.set_cons_zero, List.set_cons_succ, i64_w, i32_w]
        rfl
      refine one_ (i := 7) (N := some 17) #[true, true, true, true, true, true, true, true, false, false, false, false, false] rfl rfl (one_of HT_.out (by kernel_rfl)) (by decide) (fun K hK => ?_)
      refine goes_ Try.func67 (by kernel_rfl) rfl #[.agg #[.int .u8 a0_0, .int .i64 a0_1, .int .i64 a0_2, .int .i64 a0_3, .int .i64 a0_4, .int .i64 a0_5, .slice A0_6 l0_6.length c0_6], .int .i64 a1, .int .i64 a2] (by rfl) rfl rfl (by (try simp only [List.map_toArray, List.map_cons, List.map_nil]); first | done | rfl | (simp only [List.length_drop, List.length_take]; rfl)) ?_
      with_reducible refine (sashref09_Set.calls k a0_0 a0_1 a0_2 a0_3 a0_4 a0_5 _ _ l0_6 a1 a2 t711 t712 t713 t714 t715 t716 t717 _ ?side1 ?side2 A12.out).mono ?_
      (case side1 => repeat (first | exact (Kd.C_below HR0_6.out HB.out) | (with_reducible refine Kd.C_alloc ?_ _) | (with_reducible refine Kd.C_drewN ?_ _) | (with_reducible refine Kd.C_drew ?_)))
      (case side2 => exact HC0_6.out)
      rintro e w21 ⟨v718, rfl, ho0, hb⟩
      refine ⟨_, rfl, ?_⟩
      have n0_ := Aside0.mk (Kd.N_elder' (by (with_reducible repeat (first | apply Kd.N_alloc | apply Kd.N_drewN | apply Kd.N_drew)); exact HO710.out) (Kd.R_base ho0) hb)
      have n1_ := Aside0.mk (Kd.N_lower (Kd.N_mono (ok' := fun k_ => some k_ ≠ (v709 : Value).ownBlock ∧ k_ ≠ gb699) (Kd.R_N (Kd.R_bound ho0)) (fun k_ hk_ => ⟨(Kd.fresh' (Kd.N_lt (by (with_reducible repeat (first | apply Kd.N_alloc | apply Kd.N_drewN | apply Kd.N_drew)); exact HO710.out)) k_ hk_.2.1), (Kd.freshB (g := gb699) (o := .cells #[.int .u8 a0_0, .int .i64 a0_1, .int .i64 a0_2, .int .i64 a0_3, .int .i64 a0_4, .int .i64 a0_5, .slice A0_6 l0_6.length c0_6] 26 (0, 0)) (by (with_reducible repeat (first | refine blk_drewN ?_ _ | refine blk_drew ?_ | refine blk_alloc ?_ _)); exact BK699.out) k_ hk_.2.1)⟩)) (below_size (by repeat (first | (with_reducible first | exact HB.out | apply below_alloc | apply pw_below_drewN | apply below_drew1 | refine below_set ?_ GE699.out) | exact HB.out))))
      have n2_ := Aside0.mk (blk_below (g := gb699) (o := .cells #[.int .u8 a0_0, .int .i64 a0_1, .int .i64 a0_2, .int .i64 a0_3, .int .i64 a0_4, .int .i64 a0_5, .slice A0_6 l0_6.length c0_6] 26 (0, 0)) (by (with_reducible repeat (first | refine blk_drewN ?_ _ | refine blk_drew ?_ | refine blk_alloc ?_ _)); exact BK699.out) hb)
      have n3_ := Aside0.mk (below_step (by repeat (first | (with_reducible first | exact HB.out | apply below_alloc | apply pw_below_drewN | apply below_drew1 | refine below_set ?_ GE699.out) | exact HB.out)) hb)
      clear HO710
      clear BK699
      clear HB
      have HO710 := n0_
      have HO719 := n1_
      have BK699 := n2_
      have HB := n3_
      clear n0_ n1_ n2_ n3_
      (try clear hb)
      (try clear hb2)
      (try clear hk)
      (try clear hi)
      (try clear ho0)
      obtain ⟨Ao22, co22, eo22⟩ := Kd.N_slice HO710.out
      (first | subst eo22 | (injection eo22 with f1_ f2_ f3_; have f4_ := f1_.symm; have f5_ := f3_.symm; clear f1_ f2_ f3_; subst f4_; subst f5_))
      obtain ⟨Ao23, co23, eo23⟩ := Kd.N_slice HO719.out
      (first | subst eo23 | (injection eo23 with f1_ f2_ f3_; have f4_ := f1_.symm; have f5_ := f3_.symm; clear f1_ f2_ f3_; subst f4_; subst f5_))
      refine hK.out _ _ ⟨(blk_cell BK699.out 0).trans rfl, (blk_cell BK699.out 1).trans rfl, (blk_cell BK699.out 2).trans rfl, (blk_cell BK699.out 3).trans rfl, (blk_cell BK699.out 4).trans rfl, (blk_cell BK699.out 5).trans rfl, (blk_cell BK699.out 6).trans rfl⟩ (fun hHeld => ?_)
      clear hK K
      refine norm_ (a' := ?_) ?_ ?_
      rotate_left
      · show Act.put _ (some 17) _ = _
        simp only [Act.put, List.setIfInBounds_toArray, List.set_cons_zero, List.set_cons_succ, i64_w, i32_w]
        rfl
      refine one_ (i := 8) (N := some 18) #[true, true, true, true, true, true, true, true, true, false, false, false, false] rfl rfl (one_of HT_.out (by kernel_rfl)) (by decide) (fun K hK => ?_)
      refine goes_ Try.func64 (by kernel_rfl) rfl #[.agg #[.int .u8 t702, .int .i64 t703, .int .i64 t704, .int .i64 t705, .int .i64 t706, .int .i64 t707, .slice Ao22 t708.length co22], .agg #[.int .u8 t711, .int .i64 t712, .int .i64 t713, .int .i64 t714, .int .i64 t715, .int .i64 t716, .slice Ao23 t717.length co23]] (by rfl) rfl rfl (by (try simp only [List.map_toArray, List.map_cons, List.map_nil]); first | done | rfl | (simp only [List.length_drop, List.length_take]; rfl)) ?_
      with_reducible refine (sashref05_Same.calls k t702 t703 t704 t705 t706 t707 _ _ t708 t711 t712 t713 t714 t715 t716 _ _ t717 true _ ?side1 ?side2 ?side3 ?side4 A13.out).mono ?_
      (case side1 => repeat (first | exact (Kd.N_reads' HO710.out).2.2 | (with_reducible refine Kd.C_alloc ?_ _) | (with_reducible refine Kd.C_drewN ?_ _) | (with_reducible refine Kd.C_drew ?_)))
      (case side2 => exact (Kd.N_reads' HO710.out).2.1)
      (case side3 => repeat (first | exact (Kd.N_reads' HO719.out).2.2 | (with_reducible refine Kd.C_alloc ?_ _) | (with_reducible refine Kd.C_drewN ?_ _) | (with_reducible refine Kd.C_drew ?_)))
      (case side4 => exact (Kd.N_reads' HO719.out).2.1)
      rintro e w24 ⟨rfl, hb⟩
      refine ⟨_, rfl, ?_⟩
      have n0_ := Aside0.mk (Kd.N_below (by (with_reducible repeat (first | apply Kd.N_alloc | apply Kd.N_drewN | apply Kd.N_drew)); exact HO710.out) hb)
      have n1_ := Aside0.mk (Kd.N_below (by (with_reducible repeat (first | apply Kd.N_alloc | apply Kd.N_drewN | apply Kd.N_drew)); exact HO719.out) hb)
      have n2_ := Aside0.mk (blk_below (g := gb699) (o := .cells #[.int .u8 a0_0, .int .i64 a0_1, .int .i64 a0_2, .int .i64 a0_3, .int .i64 a0_4, .int .i64 a0_5, .slice A0_6 l0_6.length c0_6] 26 (0, 0)) (by (with_reducible repeat (first | refine blk_drewN ?_ _ | refine blk_drew ?_ | refine blk_alloc ?_ _)); exact BK699.out) hb)
      have n3_ := Aside0.mk (below_step (by repeat (first | (with_reducible first | exact HB.out | apply below_alloc | apply pw_below_drewN | apply below_drew1 | refine below_set ?_ GE699.out) | exact HB.out)) hb)
      clear HO710
      clear HO719
      clear BK699
      clear HB
      have HO710 := n0_
      have HO719 := n1_
      have BK699 := n2_
      have HB := n3_
      clear n0_ n1_ n2_ n3_
      (try clear hb)
      (try clear hb2)
      (try clear hk)
      (try clear hi)
      refine hK.out _ _ ⟨(blk_cell BK699.out 0).trans rfl, (blk_cell BK699.out 1).trans rfl, (blk_cell BK699.out 2).trans rfl, (blk_cell BK699.out 3).trans rfl, (blk_cell BK699.out 4).trans rfl, (blk_cell BK699.out 5).trans rfl, (blk_cell BK699.out 6).trans rfl⟩ (fun hHeld => ?_)
      clear hK K
      refine norm_ (a' := ?_) ?_ ?_
      rotate_left
      · show Act.put _ (some 18) _ = _
        simp only [Act.put, List.setIfInBounds_toArray, List.set_cons_zero, List.set_cons_succ, i64_w, i32_w]
        rfl
      refine pure_ (i := 9) (N := some 19) (v := ?_) (a' := ?_) #[true, true, true, true, true, true, true, true, true, true, false, false, false] rfl rfl (any_of HT_.out (by kernel_rfl)) (fun _ _ _ h => h) (Or.inl ⟨by rfl, ?_⟩) ?_ ?_
      rotate_left
      · intro w'
        go_simp
        with_reducible rfl
      rotate_left
      · simp only [Act.put, List.setIfInBounds_toArray, List.set_cons_zero, List.set_cons_succ, i64_w, i32_w]
        rfl
      refine one_ (i := 10) (N := some 20) #[true, true, true, true, true, true, true, true, true, true, true, false, false] rfl rfl (one_of HT_.out (by kernel_rfl)) (by decide) (fun K hK => ?_)
      refine goes_ Try.func48 (by kernel_rfl) rfl #[] (by rfl) rfl rfl (by (try simp only [List.map_toArray, List.map_cons, List.map_nil]); first | done | rfl | (simp only [List.length_drop, List.length_take]; rfl)) ?_
      with_reducible refine (sashlaw09_awake.calls k  t721 _ A15.out).mono ?_
      rintro e w25 ⟨rfl, hb⟩
      refine ⟨_, rfl, ?_⟩
      have n0_ := Aside0.mk (Kd.N_below (by (with_reducible repeat (first | apply Kd.N_alloc | apply Kd.N_drewN | apply Kd.N_drew)); exact HO710.out) hb)
      have n1_ := Aside0.mk (Kd.N_below (by (with_reducible repeat (first | apply Kd.N_alloc | apply Kd.N_drewN | apply Kd.N_drew)); exact HO719.out) hb)
      have n2_ := Aside0.mk (blk_below (g := gb699) (o := .cells #[.int .u8 a0_0, .int .i64 a0_1, .int .i64 a0_2, .int .i64 a0_3, .int .i64 a0_4, .int .i64 a0_5, .slice A0_6 l0_6.length c0_6] 26 (0, 0)) (by (with_reducible repeat (first | refine blk_drewN ?_ _ | refine blk_drew ?_ | refine blk_alloc ?_ _)); exact BK699.out) hb)
      have n3_ := Aside0.mk (below_step (by repeat (first | (with_reducible first | exact HB.out | apply below_alloc | apply pw_below_drewN | apply below_drew1 | refine below_set ?_ GE699.out) | exact HB.out)) hb)
      clear HO710
      clear HO719
      clear BK699
      clear HB
      have HO710 := n0_
      have HO719 := n1_
      have BK699 := n2_
      have HB := n3_
      clear n0_ n1_ n2_ n3_
      (try clear hb)
      (try clear hb2)
      (try clear hk)
      (try clear hi)
      refine hK.out _ _ ⟨(blk_cell BK699.out 0).trans rfl, (blk_cell BK699.out 1).trans rfl, (blk_cell BK699.out 2).trans rfl, (blk_cell BK699.out 3).trans rfl, (blk_cell BK699.out 4).trans rfl, (blk_cell BK699.out 5).trans rfl, (blk_cell BK699.out 6).trans rfl⟩ (fun hHeld => ?_)
      clear hK K
      refine norm_ (a' := ?_) ?_ ?_
      rotate_left
      · show Act.put _ (some 20) _ = _
        simp only [Act.put, List.setIfInBounds_toArray, List.set_cons_zero, List.set_cons_succ, i64_w, i32_w]
        rfl
      refine pure_ (i := 11) (N := some 21) (v := ?_) (a' := ?_) #[true, true, true, true, true, true, true, true, true, true, true, true, false] rfl rfl (any_of HT_.out (by kernel_rfl)) (fun _ _ _ h => h) (Or.inl ⟨by rfl, ?_⟩) ?_ ?_
      rotate_left
      · intro w'
        go_simp
        with_reducible rfl
      rotate_left
      · simp only [Act.put, List.setIfInBounds_toArray, List.set_cons_zero, List.set_cons_succ, i64_w, i32_w]
        rfl
      refine pure_ (i := 12) (N := some 6) (v := ?_) (a' := ?_) #[true, true, true, true, true, true, true, true, true, true, true, true, true] rfl rfl (any_of HT_.out (by kernel_rfl)) (fun _ _ _ h => h) (Or.inl ⟨by rfl, ?_⟩) ?_ ?_
      rotate_left
      · intro w'
        go_simp
        with_reducible rfl
      rotate_left
      · simp only [Act.put, List.setIfInBounds_toArray, List.set_cons_zero, List.set_cons_succ, i64_w, i32_w]
        rfl
      refine done_ (done_of HT_.out (by kernel_rfl)) ?_
      try go_wp2
      go_ret
      exact ⟨by first | rfl | (simp [errW_none, errW_some] <;> rfl) | (simp [*, errW_none, errW_some] <;> rfl), by repeat (first | (with_reducible first | exact HB.out | apply below_alloc | apply pw_below_drewN | apply below_drew1 | refine below_set ?_ GE699.out) | exact HB.out)⟩
    · replace c14 := Bool.eq_false_iff.mpr c14
      subst c14
      have H1 : (some false) = some r := by rw [if_neg (show ¬ (false = true) by decide)] at H; exact H
      clear H
      have H := H1
      clear H1
      obtain rfl := Option.some.inj H
      go_enter Try.func12, Try.ntmps12
      try go_wp2_with (first | ((with_reducible refine gate_dst (N := 3) rfl ?_); refine box_event ?hg (N := 3) ?hd (cs := #[.int .u8 a0_0, .int .i64 a0_1, .int .i64 a0_2, .int .i64 a0_3, .int .i64 a0_4, .int .i64 a0_5, .slice A0_6 l0_6.length c0_6]) (t := 26) ?hr ?_; (case hd => rfl); (case hg => rfl); (case hr => first | (go_simp; done) | (go_simp; rfl)); intro gb699 hg w26 hbox hb; have n0_ := Aside0.mk (below_step (by repeat (first | (with_reducible first | exact HB.out | apply below_alloc | apply pw_below_drewN | apply below_drew1) | exact HB.out)) hb); have n1_ := Aside0.mk (hbox); have n2_ := Aside0.mk ((by rw [hg]; exact (below_size (by repeat (first | (with_reducible first | exact HB.out | apply below_alloc | apply pw_below_drewN | apply below_drew1) | exact HB.out))) : w.heap.size ≤ gb699)); have n3_ := Aside0.mk ((by rw [hg]; exact (below_size (by repeat (first | (with_reducible first | exact HB.out | apply below_alloc | apply pw_below_drewN | apply below_drew1) | exact HB.out))) : w.heap.size ≤ gb699)); clear HB; have HB := n0_; have BK699 := n1_; have GW699 := n2_; have GE699 := n3_; clear n0_ n1_ n2_ n3_; clear hb hbox hg; have hcz27_0 : w26.cell? ⟨gb699, 0, none⟩ = some (.int .u8 a0_0) := (blk_cell BK699.out 0).trans rfl; have hcz27_1 : w26.cell? ⟨gb699, 1, none⟩ = some (.int .i64 a0_1) := (blk_cell BK699.out 1).trans rfl; have hcz27_2 : w26.cell? ⟨gb699, 2, none⟩ = some (.int .i64 a0_2) := (blk_cell BK699.out 2).trans rfl; have hcz27_3 : w26.cell? ⟨gb699, 3, none⟩ = some (.int .i64 a0_3) := (blk_cell BK699.out 3).trans rfl; have hcz27_4 : w26.cell? ⟨gb699, 4, none⟩ = some (.int .i64 a0_4) := (blk_cell BK699.out 4).trans rfl; have hcz27_5 : w26.cell? ⟨gb699, 5, none⟩ = some (.int .i64 a0_5) := (blk_cell BK699.out 5).trans rfl; have hcz27_6 : w26.cell? ⟨gb699, 6, none⟩ = some (.slice A0_6 l0_6.length c0_6) := (blk_cell BK699.out 6).trans rfl; have hfz27_0 := blk_frozen BK699.out 0; have hfz27_1 := blk_frozen BK699.out 1; have hfz27_2 := blk_frozen BK699.out 2; have hfz27_3 := blk_frozen BK699.out 3; have hfz27_4 := blk_frozen BK699.out 4; have hfz27_5 := blk_frozen BK699.out 5; have hfz27_6 := blk_frozen BK699.out 6) | ((with_reducible refine gate_callee (f := 34) rfl ?_); refine goesL_ (some 8) rfl rfl Try.func34 (by kernel_rfl) rfl #[.agg #[.int .u8 a0_0, .int .i64 a0_1, .int .i64 a0_2, .int .i64 a0_3, .int .i64 a0_4, .int .i64 a0_5, .slice A0_6 l0_6.length c0_6]] rfl (by (try simp only [List.map_toArray, List.map_cons, List.map_nil]); first | done | rfl | (simp only [List.length_drop, List.length_take]; rfl)) ?_; (with_reducible refine (sashref05_Great.calls k a0_0 a0_1 a0_2 a0_3 a0_4 a0_5 _ _ l0_6 false _ ?side1 ?side2 A4.out).mono ?_); (case side1 => repeat (first | exact (Kd.C_below HR0_6.out HB.out) | (with_reducible refine Kd.C_alloc ?_ _) | (with_reducible refine Kd.C_drewN ?_ _) | (with_reducible refine Kd.C_drew ?_))); (case side2 => exact HC0_6.out); rintro e w28 ⟨rfl, hb⟩; refine ⟨_, rfl, ?_⟩; have n0_ := Aside0.mk (blk_below (g := gb699) (o := .cells #[.int .u8 a0_0, .int .i64 a0_1, .int .i64 a0_2, .int .i64 a0_3, .int .i64 a0_4, .int .i64 a0_5, .slice A0_6 l0_6.length c0_6] 26 (0, 0)) (by (with_reducible repeat (first | refine blk_drewN ?_ _ | refine blk_drew ?_ | refine blk_alloc ?_ _)); exact BK699.out) hb); have n1_ := Aside0.mk (below_step (by repeat (first | (with_reducible first | exact HB.out | apply below_alloc | apply pw_below_drewN | apply below_drew1 | refine below_set ?_ GE699.out) | exact HB.out)) hb); clear BK699; clear HB; have BK699 := n0_; have HB := n1_; clear n0_ n1_; (try clear hb); (try clear hb2); (try clear hk); (try clear hi)))
      have n0_ := Aside0.mk (blk_drew BK699.out)
      have n1_ := Aside0.mk (below_drew1 HB.out)
      clear BK699
      clear HB
      have BK699 := n0_
      have HB := n1_
      clear n0_ n1_
      refine start_ (n := 13) (S := fun w' => w'.cell? ⟨gb699, 0, none⟩ = some (.int .u8 a0_0) ∧ w'.cell? ⟨gb699, 1, none⟩ = some (.int .i64 a0_1) ∧ w'.cell? ⟨gb699, 2, none⟩ = some (.int .i64 a0_2) ∧ w'.cell? ⟨gb699, 3, none⟩ = some (.int .i64 a0_3) ∧ w'.cell? ⟨gb699, 4, none⟩ = some (.int .i64 a0_4) ∧ w'.cell? ⟨gb699, 5, none⟩ = some (.int .i64 a0_5) ∧ w'.cell? ⟨gb699, 6, none⟩ = some (.slice A0_6 l0_6.length c0_6)) (ds := []) #[false, false, false, false, false, false, false, false, false, false, false, false, false] (by kernel_rfl) rfl rfl ⟨(blk_cell BK699.out 0).trans rfl, (blk_cell BK699.out 1).trans rfl, (blk_cell BK699.out 2).trans rfl, (blk_cell BK699.out 3).trans rfl, (blk_cell BK699.out 4).trans rfl, (blk_cell BK699.out 5).trans rfl, (blk_cell BK699.out 6).trans rfl⟩ (fun hHeld => ?_); refine with_tabW sashlaw09_AdjustSets.tab3 sashlaw09_AdjustSets.bits3 (fun HT_ HW_ => ?_)
      generalize w28.drew = w29 at BK699 HB hHeld ⊢
      refine pure_ (i := 1) (N := some 11) (v := ?_) (a' := ?_) #[false, true, false, false, false, false, false, false, false, false, false, false, false] rfl rfl (any_of HT_.out (by kernel_rfl)) (fun _ _ _ h => h) (Or.inl ⟨by rfl, ?_⟩) ?_ ?_
      rotate_left
      · intro w'
        go_simp
        with_reducible rfl
      rotate_left
      · simp only [Act.put, List.setIfInBounds_toArray, List.set_cons_zero, List.set_cons_succ, i64_w, i32_w]
        rfl
      refine pure_ (i := 2) (N := some 12) (v := ?_) (a' := ?_) #[false, true, true, false, false, false, false, false, false, false, false, false, false] rfl rfl (any_of HT_.out (by kernel_rfl)) (fun _ _ _ h => h) (Or.inl ⟨by rfl, ?_⟩) ?_ ?_
      rotate_left
      · intro w'
        go_simp
        with_reducible rfl
      rotate_left
      · simp only [Act.put, List.setIfInBounds_toArray, List.set_cons_zero, List.set_cons_succ, i64_w, i32_w]
        rfl
      refine pure_ (i := 5) (N := some 15) (v := ?_) (a' := ?_) #[false, true, true, false, false, true, false, false, false, false, false, false, false] rfl rfl (any_of HT_.out (by kernel_rfl)) (fun _ _ _ h => h) (Or.inl ⟨by rfl, ?_⟩) ?_ ?_
      rotate_left
      · intro w'
        go_simp
        with_reducible rfl
      rotate_left
      · simp only [Act.put, List.setIfInBounds_toArray, List.set_cons_zero, List.set_cons_succ, i64_w, i32_w]
        rfl
      refine pure_ (i := 6) (N := some 16) (v := ?_) (a' := ?_) #[false, true, true, false, false, true, true, false, false, false, false, false, false] rfl rfl (any_of HT_.out (by kernel_rfl)) (fun _ _ _ h => h) (Or.inl ⟨by rfl, ?_⟩) ?_ ?_
      rotate_left
      · intro w'
        go_simp
        with_reducible rfl
      rotate_left
      · simp only [Act.put, List.setIfInBounds_toArray, List.set_cons_zero, List.set_cons_succ, i64_w, i32_w]
        rfl
      refine take_ (i := 0) (N := some 10) (v := ?_) (a' := ?_) #[true, true, true, false, false, true, true, false, false, false, false, false, false] rfl rfl (take_ofW HT_.out HW_.out (by kernel_rfl)) (fun _ _ _ h => h) (Or.inl ⟨by rfl, ?_⟩) hHeld ?_ ?_
      rotate_left
      · rintro w' ⟨s0, s1, s2, s3, s4, s5, s6⟩
        go_simp
        with_reducible rfl
      rotate_left
      · simp only [Act.put, List.setIfInBounds_toArray, List.set_cons_zero, List.set_cons_succ, i64_w, i32_w]
        rfl
      refine take_ (i := 4) (N := some 14) (v := ?_) (a' := ?_) #[true, true, true, false, true, true, true, false, false, false, false, false, false] rfl rfl (take_ofW HT_.out HW_.out (by kernel_rfl)) (fun _ _ _ h => h) (Or.inl ⟨by rfl, ?_⟩) hHeld ?_ ?_
      rotate_left
      · rintro w' ⟨s0, s1, s2, s3, s4, s5, s6⟩
        go_simp
        with_reducible rfl
      rotate_left
      · simp only [Act.put, List.setIfInBounds_toArray, List.set_cons_zero, List.set_cons_succ, i64_w, i32_w]
        rfl
      refine one_ (i := 3) (N := some 13) #[true, true, true, true, true, true, true, false, false, false, false, false, false] rfl rfl (one_of HT_.out (by kernel_rfl)) (by decide) (fun K hK => ?_)
      refine goes_ Try.func66 (by kernel_rfl) rfl #[.agg #[.int .u8 a0_0, .int .i64 a0_1, .int .i64 a0_2, .int .i64 a0_3, .int .i64 a0_4, .int .i64 a0_5, .slice A0_6 l0_6.length c0_6], .int .i64 a1, .int .i64 a2] (by rfl) rfl rfl (by (try simp only [List.map_toArray, List.map_cons, List.map_nil]); first | done | rfl | (simp only [List.length_drop, List.length_take]; rfl)) ?_
      with_reducible refine (adjust_Set.calls a0_0 a0_1 a0_2 a0_3 a0_4 a0_5 (fun k_ => k_ < w.heap.size) _ _ l0_6 a1 a2 t702 t703 t704 t705 t706 t707 t708 _ ?side1 A11.out).mono ?_
      (case side1 => exact Kd.V_mk HC0_6.out (Kd.F_below (Kd.C_F k26_heap HR0_6.out) (by repeat (first | (with_reducible first | exact HB.out | apply below_alloc | apply pw_below_drewN | apply below_drew1 | refine below_set ?_ GE699.out) | exact HB.out))))
      rintro e w30 ⟨v709, rfl, ho0, hb⟩
      refine ⟨_, rfl, ?_⟩
      have n0_ := Aside0.mk (Kd.N_lower (Kd.N_mono (ok' := fun k_ => k_ ≠ gb699) ho0 (fun k_ hk_ => Or.elim hk_ (fun hs_ => fun e_ => Nat.not_le.2 hs_ (by rw [e_]; exact GW699.out)) (fun hn_ => (Kd.freshB (g := gb699) (o := .cells #[.int .u8 a0_0, .int .i64 a0_1, .int .i64 a0_2, .int .i64 a0_3, .int .i64 a0_4, .int .i64 a0_5, .slice A0_6 l0_6.length c0_6] 26 (0, 0)) (by (with_reducible repeat (first | refine blk_drewN ?_ _ | refine blk_drew ?_ | refine blk_alloc ?_ _)); exact BK699.out) k_ hn_)))) (below_size (by repeat (first | (with_reducible first | exact HB.out | apply below_alloc | apply pw_below_drewN | apply below_drew1 | refine below_set ?_ GE699.out) | exact HB.out))))
      have n1_ := Aside0.mk (blk_below (g := gb699) (o := .cells #[.int .u8 a0_0, .int .i64 a0_1, .int .i64 a0_2, .int .i64 a0_3, .int .i64 a0_4, .int .i64 a0_5, .slice A0_6 l0_6.length c0_6] 26 (0, 0)) (by (with_reducible repeat (first | refine blk_drewN ?_ _ | refine blk_drew ?_ | refine blk_alloc ?_ _)); exact BK699.out) hb)
      have n2_ := Aside0.mk (below_step (by repeat (first | (with_reducible first | exact HB.out | apply below_alloc | apply pw_below_drewN | apply below_drew1 | refine below_set ?_ GE699.out) | exact HB.out)) hb)
      clear BK699
      clear HB
      have HO710 := n0_
      have BK699 := n1_
      have HB := n2_
      clear n0_ n1_ n2_
      (try clear hb)
      (try clear hb2)
      (try clear hk)
      (try clear hi)
      (try clear ho0)
      refine hK.out _ _ ⟨(blk_cell BK699.out 0).trans rfl, (blk_cell BK699.out 1).trans rfl, (blk_cell BK699.out 2).trans rfl, (blk_cell BK699.out 3).trans rfl, (blk_cell BK699.out 4).trans rfl, (blk_cell BK699.out 5).trans rfl, (blk_cell BK699.out 6).trans rfl⟩ (fun hHeld => ?_)
      clear hK K
      refine norm_ (a' := ?_) ?_ ?_
      rotate_left
      · show Act.put _ (some 13) _ = _
        simp only [Act.put, List.setIfInBounds_toArray, List.set_cons_zero, List.set_cons_succ, i64_w, i32_w]
        rfl
      refine one_ (i := 7) (N := some 17) #[true, true, true, true, true, true, true, true, false, false, false, false, false] rfl rfl (one_of HT_.out (by kernel_rfl)) (by decide) (fun K hK => ?_)
      refine goes_ Try.func67 (by kernel_rfl) rfl #[.agg #[.int .u8 a0_0, .int .i64 a0_1, .int .i64 a0_2, .int .i64 a0_3, .int .i64 a0_4, .int .i64 a0_5, .slice A0_6 l0_6.length c0_6], .int .i64 a1, .int .i64 a2] (by rfl) rfl rfl (by (try simp only [List.map_toArray, List.map_cons, List.map_nil]); first | done | rfl | (simp only [List.length_drop, List.length_take]; rfl)) ?_
      with_reducible refine (sashref09_Set.calls k a0_0 a0_1 a0_2 a0_3 a0_4 a0_5 _ _ l0_6 a1 a2 t711 t712 t713 t714 t715 t716 t717 _ ?side1 ?side2 A12.out).mono ?_
      (case side1 => repeat (first | exact (Kd.C_below HR0_6.out HB.out) | (with_reducible refine Kd.C_alloc ?_ _) | (with_reducible refine Kd.C_drewN ?_ _) | (with_reducible refine Kd.C_drew ?_)))
      (case side2 => exact HC0_6.out)
      rintro e w31 ⟨v718, rfl, ho0, hb⟩
      refine ⟨_, rfl, ?_⟩
      have n0_ := Aside0.mk (Kd.N_elder' (by (with_reducible repeat (first | apply Kd.N_alloc | apply Kd.N_drewN | apply Kd.N_drew)); exact HO710.out) (Kd.R_base ho0) hb)
      have n1_ := Aside0.mk (Kd.N_lower (Kd.N_mono (ok' := fun k_ => some k_ ≠ (v709 : Value).ownBlock ∧ k_ ≠ gb699) (Kd.R_N (Kd.R_bound ho0)) (fun k_ hk_ => ⟨(Kd.fresh' (Kd.N_lt (by (with_reducible repeat (first | apply Kd.N_alloc | apply Kd.N_drewN | apply Kd.N_drew)); exact HO710.out)) k_ hk_.2.1), (Kd.freshB (g := gb699) (o := .cells #[.int .u8 a0_0, .int .i64 a0_1, .int .i64 a0_2, .int .i64 a0_3, .int .i64 a0_4, .int .i64 a0_5, .slice A0_6 l0_6.length c0_6] 26 (0, 0)) (by (with_reducible repeat (first | refine blk_drewN ?_ _ | refine blk_drew ?_ | refine blk_alloc ?_ _)); exact BK699.out) k_ hk_.2.1)⟩)) (below_size (by repeat (first | (with_reducible first | exact HB.out | apply below_alloc | apply pw_below_drewN | apply below_drew1 | refine below_set ?_ GE699.out) | exact HB.out))))
      have n2_ := Aside0.mk (blk_below (g := gb699) (o := .cells #[.int .u8 a0_0, .int .i64 a0_1, .int .i64 a0_2, .int .i64 a0_3, .int .i64 a0_4, .int .i64 a0_5, .slice A0_6 l0_6.length c0_6] 26 (0, 0)) (by (with_reducible repeat (first | refine blk_drewN ?_ _ | refine blk_drew ?_ | refine blk_alloc ?_ _)); exact BK699.out) hb)
      have n3_ := Aside0.mk (below_step (by repeat (first | (with_reducible first | exact HB.out | apply below_alloc | apply pw_below_drewN | apply below_drew1 | refine below_set ?_ GE699.out) | exact HB.out)) hb)
      clear HO710
      clear BK699
      clear HB
      have HO710 := n0_
      have HO719 := n1_
      have BK699 := n2_
      have HB := n3_
      clear n0_ n1_ n2_ n3_
      (try clear hb)
      (try clear hb2)
      (try clear hk)
      (try clear hi)
      (try clear ho0)
      obtain ⟨Ao32, co32, eo32⟩ := Kd.N_slice HO710.out
      (first | subst eo32 | (injection eo32 with f1_ f2_ f3_; have f4_ := f1_.symm; have f5_ := f3_.symm; clear f1_ f2_ f3_; subst f4_; subst f5_))
      obtain ⟨Ao33, co33, eo33⟩ := Kd.N_slice HO719.out
      (first | subst eo33 | (injection eo33 with f1_ f2_ f3_; have f4_ := f1_.symm; have f5_ := f3_.symm; clear f1_ f2_ f3_; subst f4_; subst f5_))
      refine hK.out _ _ ⟨(blk_cell BK699.out 0).trans rfl, (blk_cell BK699.out 1).trans rfl, (blk_cell BK699.out 2).trans rfl, (blk_cell BK699.out 3).trans rfl, (blk_cell BK699.out 4).trans rfl, (blk_cell BK699.out 5).trans rfl, (blk_cell BK699.out 6).trans rfl⟩ (fun hHeld => ?_)
      clear hK K
      refine norm_ (a' := ?_) ?_ ?_
      rotate_left
      · show Act.put _ (some 17) _ = _
        simp only [Act.put, List.setIfInBounds_toArray, List.set_cons_zero, List.set_cons_succ, i64_w, i32_w]
        rfl
      refine one_ (i := 8) (N := some 18) #[true, true, true, true, true, true, true, true, true, false, false, false, false] rfl rfl (one_of HT_.out (by kernel_rfl)) (by decide) (fun K hK => ?_)
      refine goes_ Try.func64 (by kernel_rfl) rfl #[.agg #[.int .u8 t702, .int .i64 t703, .int .i64 t704, .int .i64 t705, .int .i64 t706, .int .i64 t707, .slice Ao32 t708.length co32], .agg #[.int .u8 t711, .int .i64 t712, .int .i64 t713, .int .i64 t714, .int .i64 t715, .int .i64 t716, .slice Ao33 t717.length co33]] (by rfl) rfl rfl (by (try simp only [List.map_toArray, List.map_cons, List.map_nil]); first | done | rfl | (simp only [List.length_drop, List.length_take]; rfl)) ?_
      with_reducible refine (sashref05_Same.calls k t702 t703 t704 t705 t706 t707 _ _ t708 t711 t712 t713 t714 t715 t716 _ _ t717 false _ ?side1 ?side2 ?side3 ?side4 A13.out).mono ?_
      (case side1 => repeat (first | exact (Kd.N_reads' HO710.out).2.2 | (with_reducible refine Kd.C_alloc ?_ _) | (with_reducible refine Kd.C_drewN ?_ _) | (with_reducible refine Kd.C_drew ?_)))
      (case side2 => exact (Kd.N_reads' HO710.out).2.1)
      (case side3 => repeat (first | exact (Kd.N_reads' HO719.out).2.2 | (with_reducible refine Kd.C_alloc ?_ _) | (with_reducible refine Kd.C_drewN ?_ _) | (with_reducible refine Kd.C_drew ?_)))
      (case side4 => exact (Kd.N_reads' HO719.out).2.1)
      rintro e w34 ⟨rfl, hb⟩
      refine ⟨_, rfl, ?_⟩
      have n0_ := Aside0.mk (Kd.N_below (by (with_reducible repeat (first | apply Kd.N_alloc | apply Kd.N_drewN | apply Kd.N_drew)); exact HO710.out) hb)
      have n1_ := Aside0.mk (Kd.N_below (by (with_reducible repeat (first | apply Kd.N_alloc | apply Kd.N_drewN | apply Kd.N_drew)); exact HO719.out) hb)
      have n2_ := Aside0.mk (blk_below (g := gb699) (o := .cells #[.int .u8 a0_0, .int .i64 a0_1, .int .i64 a0_2, .int .i64 a0_3, .int .i64 a0_4, .int .i64 a0_5, .slice A0_6 l0_6.length c0_6] 26 (0, 0)) (by (with_reducible repeat (first | refine blk_drewN ?_ _ | refine blk_drew ?_ | refine blk_alloc ?_ _)); exact BK699.out) hb)
      have n3_ := Aside0.mk (below_step (by repeat (first | (with_reducible first | exact HB.out | apply below_alloc | apply pw_below_drewN | apply below_drew1 | refine below_set ?_ GE699.out) | exact HB.out)) hb)
      clear HO710
      clear HO719
      clear BK699
      clear HB
      have HO710 := n0_
      have HO719 := n1_
      have BK699 := n2_
      have HB := n3_
      clear n0_ n1_ n2_ n3_
      (try clear hb)
      (try clear hb2)
      (try clear hk)
      (try clear hi)
      refine hK.out _ _ ⟨(blk_cell BK699.out 0).trans rfl, (blk_cell BK699.out 1).trans rfl, (blk_cell BK699.out 2).trans rfl, (blk_cell BK699.out 3).trans rfl, (blk_cell BK699.out 4).trans rfl, (blk_cell BK699.out 5).trans rfl, (blk_cell BK699.out 6).trans rfl⟩ (fun hHeld => ?_)
      clear hK K
      refine norm_ (a' := ?_) ?_ ?_
      rotate_left
      · show Act.put _ (some 18) _ = _
        simp only [Act.put, List.setIfInBounds_toArray, List.set_cons_zero, List.set_cons_succ, i64_w, i32_w]
        rfl
      refine pure_ (i := 9) (N := some 19) (v := ?_) (a' := ?_) #[true, true, true, true, true, true, true, true, true, true, false, false, false] rfl rfl (any_of HT_.out (by kernel_rfl)) (fun _ _ _ h => h) (Or.inl ⟨by rfl, ?_⟩) ?_ ?_
      rotate_left
      · intro w'
        go_simp
        with_reducible rfl
      rotate_left
      · simp only [Act.put, List.setIfInBounds_toArray, List.set_cons_zero, List.set_cons_succ, i64_w, i32_w]
        rfl
      refine pure_ (i := 10) (N := some 20) (v := undef) (a' := ?_) #[true, true, true, true, true, true, true, true, true, true, true, false, false] rfl rfl (any_of HT_.out (by kernel_rfl)) (fun _ _ _ h => h) (Or.inr ⟨by rfl, rfl⟩) ?_ ?_
      rotate_left
      · simp only [Act.put, List.setIfInBounds_toArray, List.set_cons_zero, List.set_cons_succ, i64_w, i32_w]
        rfl
      refine pure_ (i := 11) (N := some 21) (v := ?_) (a' := ?_) #[true, true, true, true, true, true, true, true, true, true, true, true, false] rfl rfl (any_of HT_.out (by kernel_rfl)) (fun _ _ _ h => h) (Or.inl ⟨by rfl, ?_⟩) ?_ ?_
      rotate_left
      · intro w'
        go_simp
        with_reducible rfl
      rotate_left
      · simp only [Act.put, List.setIfInBounds_toArray, List.set_cons_zero, List.set_cons_succ, i64_w, i32_w]
        rfl
      refine pure_ (i := 12) (N := some 6) (v := ?_) (a' := ?_) #[true, true, true, true, true, true, true, true, true, true, true, true, true] rfl rfl (any_of HT_.out (by kernel_rfl)) (fun _ _ _ h => h) (Or.inl ⟨by rfl, ?_⟩) ?_ ?_
      rotate_left
      · intro w'
        go_simp
        with_reducible rfl
      rotate_left
      · simp only [Act.put, List.setIfInBounds_toArray, List.set_cons_zero, List.set_cons_succ, i64_w, i32_w]
        rfl
      refine done_ (done_of HT_.out (by kernel_rfl)) ?_
      try go_wp2
      go_ret
      exact ⟨by first | rfl | (simp [errW_none, errW_some] <;> rfl) | (simp [*, errW_none, errW_some] <;> rfl), by repeat (first | (with_reducible first | exact HB.out | apply below_alloc | apply pw_below_drewN | apply below_drew1 | refine below_set ?_ GE699.out) | exact HB.out)⟩

end Go.Proofs.Ytfdmfgaiblfbhaa.P
namespace Go.Proofs.Ytfdmfgaiblfbhaa.P
open Go.RowKit Go.Proofs.YtfdmfgaiblfbhaaW.PrintWords Go.Proofs.YtfdmfgaiblfbhaaW.PrintLast Go.Proofs.YtfdmfgaiblfbhaaW.PrintMore
attribute [local go_sem] max2_int min2_int max_two min_two max_three min_three max_four min_four   -- for this text's walks alone
set_option linter.unusedVariables false
set_option linter.unusedSimpArgs false

/-! ### rect_may: function 128 -/
def rect_may.f (a0_0 : Int) (a0_1 : Int) (a0_2 : Int) (a0_3 : Int) : Option (Bool) := if a0_0 ≥ 0 then (if a0_2 ≥ 1 then (if a0_2 ≤ 10000 then (if a0_0 ≤ (wrap64 (10000 - a0_2)) then (if a0_1 ≥ 0 then (if a0_3 ≥ 1 then (if a0_3 ≤ 10000 then (some (decide (a0_1 ≤ (wrap64 (10000 - a0_3))))) else (some false)) else (some false)) else (some false)) else (some false)) else (some false)) else (some false)) else (some false)
set_option maxHeartbeats 8000000 in
set_option maxRecDepth 100000 in
theorem rect_may.calls (a0_0 : Int) (a0_1 : Int) (a0_2 : Int) (a0_3 : Int) (r : Bool) (w : World) (h : rect_may.f a0_0 a0_1 a0_2 a0_3 = some r) :
    Calls Try.prog 128 #[.agg #[.int .i64 a0_0, .int .i64 a0_1, .int .i64 a0_2, .int .i64 a0_3]] w fun e w' => e = .returned (.bool r) ∧ Below w.heap.size w w' := by
  have hu23 := Try.underlying23
  have HB := Aside0.mk (Below.refl w.heap.size w)
  have H : (if a0_0 ≥ 0 then (if a0_2 ≥ 1 then (if a0_2 ≤ 10000 then (if a0_0 ≤ (wrap64 (10000 - a0_2)) then (if a0_1 ≥ 0 then (if a0_3 ≥ 1 then (if a0_3 ≤ 10000 then (some (decide (a0_1 ≤ (wrap64 (10000 - a0_3))))) else (some false)) else (some false)) else (some false)) else (some false)) else (some false)) else (some false)) else (some false)) = some r := h
  clear h
  by_cases c2 : a0_0 ≥ 0
  · rw [if_pos c2] at H
    have c2b0 : decide (0 ≤ a0_0) = true := decide_eq_true c2
    clear c2
    by_cases c3 : a0_2 ≥ 1
    · rw [if_pos c3] at H
      have c3b0 : decide (1 ≤ a0_2) = true := decide_eq_true c3
      clear c3
      by_cases c4 : a0_2 ≤ 10000
      · rw [if_pos c4] at H
        have c4b0 : decide (a0_2 ≤ 10000) = true := decide_eq_true c4
        clear c4
        by_cases c5 : a0_0 ≤ (wrap64 (10000 - a0_2))
        · rw [if_pos c5] at H
          have c5b0 : decide (a0_0 ≤ (wrap64 (10000 - a0_2))) = true := decide_eq_true c5
          clear c5
          by_cases c6 : a0_1 ≥ 0
          · rw [if_pos c6] at H
            have c6b0 : decide (0 ≤ a0_1) = true := decide_eq_true c6
            clear c6
            by_cases c7 : a0_3 ≥ 1
            · rw [if_pos c7] at H
              have c7b0 : decide (1 ≤ a0_3) = true := decide_eq_true c7
              clear c7
              by_cases c8 : a0_3 ≤ 10000
              · rw [if_pos c8] at H
                have c8b0 : decide (a0_3 ≤ 10000) = true := decide_eq_true c8
                clear c8
                obtain rfl := Option.some.inj H
                go_enter Try.func128, Try.ntmps128
                go_wp2_with (first | ((with_reducible refine gate_dst (N := 1) rfl ?_); refine box_event ?hg (N := 1) ?hd (cs := #[.int .i64 a0_0, .int .i64 a0_1, .int .i64 a0_2, .int .i64 a0_3]) (t := 23) ?hr ?_; (case hd => rfl); (case hg => rfl); (case hr => first | (go_simp; done) | (go_simp; rfl)); intro gb245 hg w9 hbox hb; have n0_ := Aside0.mk (below_step (by repeat (first | (with_reducible first | exact HB.out | apply below_alloc | apply pw_below_drewN | apply below_drew1) | exact HB.out)) hb); have n1_ := Aside0.mk (hbox); have n2_ := Aside0.mk ((by rw [hg]; exact (below_size (by repeat (first | (with_reducible first | exact HB.out | apply below_alloc | apply pw_below_drewN | apply below_drew1) | exact HB.out))) : w.heap.size ≤ gb245)); have n3_ := Aside0.mk ((by rw [hg]; exact (below_size (by repeat (first | (with_reducible first | exact HB.out | apply below_alloc | apply pw_below_drewN | apply below_drew1) | exact HB.out))) : w.heap.size ≤ gb245)); clear HB; have HB := n0_; have BK245 := n1_; have GW245 := n2_; have GE245 := n3_; clear n0_ n1_ n2_ n3_; clear hb hbox hg; have hcz10_0 : w9.cell? ⟨gb245, 0, none⟩ = some (.int .i64 a0_0) := (blk_cell BK245.out 0).trans rfl; have hcz10_1 : w9.cell? ⟨gb245, 1, none⟩ = some (.int .i64 a0_1) := (blk_cell BK245.out 1).trans rfl; have hcz10_2 : w9.cell? ⟨gb245, 2, none⟩ = some (.int .i64 a0_2) := (blk_cell BK245.out 2).trans rfl; have hcz10_3 : w9.cell? ⟨gb245, 3, none⟩ = some (.int .i64 a0_3) := (blk_cell BK245.out 3).trans rfl; have hfz10_0 := blk_frozen BK245.out 0; have hfz10_1 := blk_frozen BK245.out 1; have hfz10_2 := blk_frozen BK245.out 2; have hfz10_3 := blk_frozen BK245.out 3))
                go_ret
                exact ⟨by first | rfl | (simp [errW_none, errW_some] <;> rfl) | (simp [*, errW_none, errW_some] <;> rfl), by repeat (first | (with_reducible first | exact HB.out | apply below_alloc | apply pw_below_drewN | apply below_drew1 | refine below_set ?_ GE245.out) | exact HB.out)⟩
              · rw [if_neg c8] at H
                have c8b0 : decide (a0_3 ≤ 10000) = false := decide_eq_false c8
                clear c8
                obtain rfl := Option.some.inj H
                go_enter Try.func128, Try.ntmps128
                go_wp2_with (first | ((with_reducible refine gate_dst (N := 1) rfl ?_); refine box_event ?hg (N := 1) ?hd (cs := #[.int .i64 a0_0, .int .i64 a0_1, .int .i64 a0_2, .int .i64 a0_3]) (t := 23) ?hr ?_; (case hd => rfl); (case hg => rfl); (case hr => first | (go_simp; done) | (go_simp; rfl)); intro gb245 hg w11 hbox hb; have n0_ := Aside0.mk (below_step (by repeat (first | (with_reducible first | exact HB.out | apply below_alloc | apply pw_below_drewN | apply below_drew1) | exact HB.out)) hb); have n1_ := Aside0.mk (hbox); have n2_ := Aside0.mk ((by rw [hg]; exact (below_size (by repeat (first | (with_reducible first | exact HB.out | apply below_alloc | apply pw_below_drewN | apply below_drew1) | exact HB.out))) : w.heap.size ≤ gb245)); have n3_ := Aside0.mk ((by rw [hg]; exact (below_size (by repeat (first | (with_reducible first | exact HB.out | apply below_alloc | apply pw_below_drewN | apply below_drew1) | exact HB.out))) : w.heap.size ≤ gb245)); clear HB; have HB := n0_; have BK245 := n1_; have GW245 := n2_; have GE245 := n3_; clear n0_ n1_ n2_ n3_; clear hb hbox hg; have hcz12_0 : w11.cell? ⟨gb245, 0, none⟩ = some (.int .i64 a0_0) := (blk_cell BK245.out 0).trans rfl; have hcz12_1 : w11.cell? ⟨gb245, 1, none⟩ = some (.int .i64 a0_1) := (blk_cell BK245.out 1).trans rfl; have hcz12_2 : w11.cell? ⟨gb245, 2, none⟩ = some (.int .i64 a0_2) := (blk_cell BK245.out 2).trans rfl; have hcz12_3 : w11.cell? ⟨gb245, 3, none⟩ = some (.int .i64 a0_3) := (blk_cell BK245.out 3).trans rfl; have hfz12_0 := blk_frozen BK245.out 0; have hfz12_1 := blk_frozen BK245.out 1; have hfz12_2 := blk_frozen BK245.out 2; have hfz12_3 := blk_frozen BK245.out 3))
                go_ret
                exact ⟨by first | rfl | (simp [errW_none, errW_some] <;> rfl) | (simp [*, errW_none, errW_some] <;> rfl), by repeat (first | (with_reducible first | exact HB.out | apply below_alloc | apply pw_below_drewN | apply below_drew1 | refine below_set ?_ GE245.out) | exact HB.out)⟩
            · rw [if_neg c7] at H
              have c7b0 : decide (1 ≤ a0_3) = false := decide_eq_false c7
              clear c7
              obtain rfl := Option.some.inj H
              go_enter Try.func128, Try.ntmps128
              go_wp2_with (first | ((with_reducible refine gate_dst (N := 1) rfl ?_); refine box_event ?hg (N := 1) ?hd (cs := #[.int .i64 a0_0, .int .i64 a0_1, .int .i64 a0_2, .int .i64 a0_3]) (t := 23) ?hr ?_; (case hd => rfl); (case hg => rfl); (case hr => first | (go_simp; done) | (go_simp; rfl)); intro gb245 hg w13 hbox hb; have n0_ := Aside0.mk (below_step (by repeat (first | (with_reducible first | exact HB.out | apply below_alloc | apply pw_below_drewN | apply below_drew1) | exact HB.out)) hb); have n1_ := Aside0.mk (hbox); have n2_ := Aside0.mk ((by rw [hg]; exact (below_size (by repeat (first | (with_reducible first | exact HB.out | apply below_alloc | apply pw_below_drewN | apply below_drew1) | exact HB.out))) : w.heap.size ≤ gb245)); have n3_ := Aside0.mk ((by rw [hg]; exact (below_size (by repeat (first | (with_reducible first | exact HB.out | apply below_alloc | apply pw_below_drewN | apply below_drew1) | exact HB.out))) : w.heap.size ≤ gb245)); clear HB; have HB := n0_; have BK245 := n1_; have GW245 := n2_; have GE245 := n3_; clear n0_ n1_ n2_ n3_; clear hb hbox hg; have hcz14_0 : w13.cell? ⟨gb245, 0, none⟩ = some (.int .i64 a0_0) := (blk_cell BK245.out 0).trans rfl; have hcz14_1 : w13.cell? ⟨gb245, 1, none⟩ = some (.int .i64 a0_1) := (blk_cell BK245.out 1).trans rfl; have hcz14_2 : w13.cell? ⟨gb245, 2, none⟩ = some (.int .i64 a0_2) := (blk_cell BK245.out 2).trans rfl; have hcz14_3 : w13.cell? ⟨gb245, 3, none⟩ = some (.int .i64 a0_3) := (blk_cell BK245.out 3).trans rfl; have hfz14_0 := blk_frozen BK245.out 0; have hfz14_1 := blk_frozen BK245.out 1; have hfz14_2 := blk_frozen BK245.out 2; have hfz14_3 := blk_frozen BK245.out 3))
              go_ret
              exact ⟨by first | rfl | (simp [errW_none, errW_some] <;> rfl) | (simp [*, errW_none, errW_some] <;> rfl), by repeat (first | (with_reducible first | exact HB.out | apply below_alloc | apply pw_below_drewN | apply below_drew1 | refine below_set ?_ GE245.out) | exact HB.out)⟩
          · rw [if_neg c6] at H
            have c6b0 : decide (0 ≤ a0_1) = false := decide_eq_false c6
            clear c6
            obtain rfl := Option.some.inj H
            go_enter Try.func128, Try.ntmps128
            go_wp2_with (first | ((with_reducible refine gate_dst (N := 1) rfl ?_); refine box_event ?hg (N := 1) ?hd (cs := #[.int .i64 a0_0, .int .i64 a0_1, .int .i64 a0_2, .int .i64 a0_3]) (t := 23) ?hr ?_; (case hd => rfl); (case hg => rfl); (case hr => first | (go_simp; done) | (go_simp; rfl)); intro gb245 hg w15 hbox hb; have n0_ := Aside0.mk (below_step (by repeat (first | (with_reducible first | exact HB.out | apply below_alloc | apply pw_below_drewN | apply below_drew1) | exact HB.out)) hb); have n1_ := Aside0.mk (hbox); have n2_ := Aside0.mk ((by rw [hg]; exact (below_size (by repeat (first | (with_reducible first | exact HB.out | apply below_alloc | apply pw_below_drewN | apply below_drew1) | exact HB.out))) : w.heap.size ≤ gb245)); have n3_ := Aside0.mk ((by rw [hg]; exact (below_size (by repeat (first | (with_reducible first | exact HB.out | apply below_alloc | apply pw_below_drewN | apply below_drew1) | exact HB.out))) : w.heap.size ≤ gb245)); clear HB; have HB := n0_; have BK245 := n1_; have GW245 := n2_; have GE245 := n3_; clear n0_ n1_ n2_ n3_; clear hb hbox hg; have hcz16_0 : w15.cell? ⟨gb245, 0, none⟩ = some (.int .i64 a0_0) := (blk_cell BK245.out 0).trans rfl; have hcz16_1 : w15.cell? ⟨gb245, 1, none⟩ = some (.int .i64 a0_1) := (blk_cell BK245.out 1).trans rfl; have hcz16_2 : w15.cell? ⟨gb245, 2, none⟩ = some (.int .i64 a0_2) := (blk_cell BK245.out 2).trans rfl; have hcz16_3 : w15.cell? ⟨gb245, 3, none⟩ = some (.int .i64 a0_3) := (blk_cell BK245.out 3).trans rfl; have hfz16_0 := blk_frozen BK245.out 0; have hfz16_1 := blk_frozen BK245.out 1; have hfz16_2 := blk_frozen BK245.out 2; have hfz16_3 := blk_frozen BK245.out 3))
            go_ret
            exact ⟨by first | rfl | (simp [errW_none, errW_some] <;> rfl) | (simp [*, errW_none, errW_some] <;> rfl), by repeat (first | (with_reducible first | exact HB.out | apply below_alloc | apply pw_below_drewN | apply below_drew1 | refine below_set ?_ GE245.out) | exact HB.out)⟩
        · rw [if_neg c5] at H
          have c5b0 : decide (a0_0 ≤ (wrap64 (10000 - a0_2))) = false := decide_eq_false c5
          clear c5
          obtain rfl := Option.some.inj H
          go_enter Try.func128, Try.ntmps128
          go_wp2_with (first | ((with_reducible refine gate_dst (N := 1) rfl ?_); refine box_event ?hg (N := 1) ?hd (cs := #[.int .i64 a0_0, .int .i64 a0_1, .int .i64 a0_2, .int .i64 a0_3]) (t := 23) ?hr ?_; (case hd => rfl); (case hg => rfl); (case hr => first | (go_simp; done) | (go_simp; rfl)); intro gb245 hg w17 hbox hb; have n0_ := Aside0.mk (below_step (by repeat (first | (with_reducible first | exact HB.out | apply below_alloc | apply pw_below_drewN | apply below_drew1) | exact HB.out)) hb); have n1_ := Aside0.mk (hbox); have n2_ := Aside0.mk ((by rw [hg]; exact (below_size (by repeat (first | (with_reducible first | exact HB.out | apply below_alloc | apply pw_below_drewN | apply below_drew1) | exact HB.out))) : w.heap.size ≤ gb245)); have n3_ := Aside0.mk ((by rw [hg]; exact (below_size (by repeat (first | (with_reducible first | exact HB.out | apply below_alloc | apply pw_below_drewN | apply below_drew1) | exact HB.out))) : w.heap.size ≤ gb245)); clear HB; have HB := n0_; have BK245 := n1_; have GW245 := n2_; have GE245 := n3_; clear n0_ n1_ n2_ n3_; clear hb hbox hg; have hcz18_0 : w17.cell? ⟨gb245, 0, none⟩ = some (.int .i64 a0_0) := (blk_cell BK245.out 0).trans rfl; have hcz18_1 : w17.cell? ⟨gb245, 1, none⟩ = some (.int .i64 a0_1) := (blk_cell BK245.out 1).trans rfl; have hcz18_2 : w17.cell? ⟨gb245, 2, none⟩ = some (.int .i64 a0_2) := (blk_cell BK245.out 2).trans rfl; have hcz18_3 : w17.cell? ⟨gb245, 3, none⟩ = some (.int .i64 a0_3) := (blk_cell BK245.out 3).trans rfl; have hfz18_0 := blk_frozen BK245.out 0; have hfz18_1 := blk_frozen BK245.out 1; have hfz18_2 := blk_frozen BK245.out 2; have hfz18_3 := blk_frozen BK245.out 3))
          go_ret
          exact ⟨by first | rfl | (simp [errW_none, errW_some] <;> rfl) | (simp [*, errW_none, errW_some] <;> rfl), by repeat (first | (with_reducible first | exact HB.out | apply below_alloc | apply pw_below_drewN | apply below_drew1 | refine below_set ?_ GE245.out) | exact HB.out)⟩
      · rw [if_neg c4] at H
        have c4b0 : decide (a0_2 ≤ 10000) = false := decide_eq_false c4
        clear c4
        obtain rfl := Option.some.inj H
        go_enter Try.func128, Try.ntmps128
        go_wp2_with (first | ((with_reducible refine gate_dst (N := 1) rfl ?_); refine box_event ?hg (N := 1) ?hd (cs := #[.int .i64 a0_0, .int .i64 a0_1, .int .i64 a0_2, .int .i64 a0_3]) (t := 23) ?hr ?_; (case hd => rfl); (case hg => rfl); (case hr => first | (go_simp; done) | (go_simp; rfl)); intro gb245 hg w19 hbox hb; have n0_ := Aside0.mk (below_step (by repeat (first | (with_reducible first | exact HB.out | apply below_alloc | apply pw_below_drewN | apply below_drew1) | exact HB.out)) hb); have n1_ := Aside0.mk (hbox); have n2_ := Aside0.mk ((by rw [hg]; exact (below_size (by repeat (first | (with_reducible first | exact HB.out | apply below_alloc | apply pw_below_drewN | apply below_drew1) | exact HB.out))) : w.heap.size ≤ gb245)); have n3_ := Aside0.mk ((by rw [hg]; exact (below_size (by repeat (first | (with_reducible first | exact HB.out | apply below_alloc | apply pw_below_drewN | apply below_drew1) | exact HB.out))) : w.heap.size ≤ gb245)); clear HB; have HB := n0_; have BK245 := n1_; have GW245 := n2_; have GE245 := n3_; clear n0_ n1_ n2_ n3_; clear hb hbox hg; have hcz20_0 : w19.cell? ⟨gb245, 0, none⟩ = some (.int .i64 a0_0) := (blk_cell BK245.out 0).trans rfl; have hcz20_1 : w19.cell? ⟨gb245, 1, none⟩ = some (.int .i64 a0_1) := (blk_cell BK245.out 1).trans rfl; have hcz20_2 : w19.cell? ⟨gb245, 2, none⟩ = some (.int .i64 a0_2) := (blk_cell BK245.out 2).trans rfl; have hcz20_3 : w19.cell? ⟨gb245, 3, none⟩ = some (.int .i64 a0_3) := (blk_cell BK245.out 3).trans rfl; have hfz20_0 := blk_frozen BK245.out 0; have hfz20_1 := blk_frozen BK245.out 1; have hfz20_2 := blk_frozen BK245.out 2; have hfz20_3 := blk_frozen BK245.out 3))
        go_ret
        exact ⟨by first | rfl | (simp [errW_none, errW_some] <;> rfl) | (simp [*, errW_none, errW_some] <;> rfl), by repeat (first | (with_reducible first | exact HB.out | apply below_alloc | apply pw_below_drewN | apply below_drew1 | refine below_set ?_ GE245.out) | exact HB.out)⟩
    · rw [if_neg c3] at H
      have c3b0 : decide (1 ≤ a0_2) = false := decide_eq_false c3
      clear c3
      obtain rfl := Option.some.inj H
      go_enter Try.func128, Try.ntmps128
      go_wp2_with (first | ((with_reducible refine gate_dst (N := 1) rfl ?_); refine box_event ?hg (N := 1) ?hd (cs := #[.int .i64 a0_0, .int .i64 a0_1, .int .i64 a0_2, .int .i64 a0_3]) (t := 23) ?hr ?_; (case hd => rfl); (case hg => rfl); (case hr => first | (go_simp; done) | (go_simp; rfl)); intro gb245 hg w21 hbox hb; have n0_ := Aside0.mk (below_step (by repeat (first | (with_reducible first | exact HB.out | apply below_alloc | apply pw_below_drewN | apply below_drew1) | exact HB.out)) hb); have n1_ := Aside0.mk (hbox); have n2_ := Aside0.mk ((by rw [hg]; exact (below_size (by repeat (first | (with_reducible first | exact HB.out | apply below_alloc | apply pw_below_drewN | apply below_drew1) | exact HB.out))) : w.heap.size ≤ gb245)); have n3_ := Aside0.mk ((by rw [hg]; exact (below_size (by repeat (first | (with_reducible first | exact HB.out | apply below_alloc | apply pw_below_drewN | apply below_drew1) | exact HB.out))) : w.heap.size ≤ gb245)); clear HB; have HB := n0_; have BK245 := n1_; have GW245 := n2_; have GE245 := n3_; clear n0_ n1_ n2_ n3_; clear hb hbox hg; have hcz22_0 : w21.cell? ⟨gb245, 0, none⟩ = some (.int .i64 a0_0) := (blk_cell BK245.out 0).trans rfl; have hcz22_1 : w21.cell? ⟨gb245, 1, none⟩ = some (.int .i64 a0_1) := (blk_cell BK245.out 1).trans rfl; have hcz22_2 : w21.cell? ⟨gb245, 2, none⟩ = some (.int .i64 a0_2) := (blk_cell BK245.out 2).trans rfl; have hcz22_3 : w21.cell? ⟨gb245, 3, none⟩ = some (.int .i64 a0_3) := (blk_cell BK245.out 3).trans rfl; have hfz22_0 := blk_frozen BK245.out 0; have hfz22_1 := blk_frozen BK245.out 1; have hfz22_2 := blk_frozen BK245.out 2; have hfz22_3 := blk_frozen BK245.out 3))
      go_ret
      exact ⟨by first | rfl | (simp [errW_none, errW_some] <;> rfl) | (simp [*, errW_none, errW_some] <;> rfl), by repeat (first | (with_reducible first | exact HB.out | apply below_alloc | apply pw_below_drewN | apply below_drew1 | refine below_set ?_ GE245.out) | exact HB.out)⟩
  · rw [if_neg c2] at H
    have c2b0 : decide (0 ≤ a0_0) = false := decide_eq_false c2
    clear c2
    obtain rfl := Option.some.inj H
    go_enter Try.func128, Try.ntmps128
    go_wp2_with (first | ((with_reducible refine gate_dst (N := 1) rfl ?_); refine box_event ?hg (N := 1) ?hd (cs := #[.int .i64 a0_0, .int .i64 a0_1, .int .i64 a0_2, .int .i64 a0_3]) (t := 23) ?hr ?_; (case hd => rfl); (case hg => rfl); (case hr => first | (go_simp; done) | (go_simp; rfl)); intro gb245 hg w23 hbox hb; have n0_ := Aside0.mk (below_step (by repeat (first | (with_reducible first | exact HB.out | apply below_alloc | apply pw_below_drewN | apply below_drew1) | exact HB.out)) hb); have n1_ := Aside0.mk (hbox); have n2_ := Aside0.mk ((by rw [hg]; exact (below_size (by repeat (first | (with_reducible first | exact HB.out | apply below_alloc | apply pw_below_drewN | apply below_drew1) | exact HB.out))) : w.heap.size ≤ gb245)); have n3_ := Aside0.mk ((by rw [hg]; exact (below_size (by repeat (first | (with_reducible first | exact HB.out | apply below_alloc | apply pw_below_drewN | apply below_drew1) | exact HB.out))) : w.heap.size ≤ gb245)); clear HB; have HB := n0_; have BK245 := n1_; have GW245 := n2_; have GE245 := n3_; clear n0_ n1_ n2_ n3_; clear hb hbox hg; have hcz24_0 : w23.cell? ⟨gb245, 0, none⟩ = some (.int .i64 a0_0) := (blk_cell BK245.out 0).trans rfl; have hcz24_1 : w23.cell? ⟨gb245, 1, none⟩ = some (.int .i64 a0_1) := (blk_cell BK245.out 1).trans rfl; have hcz24_2 : w23.cell? ⟨gb245, 2, none⟩ = some (.int .i64 a0_2) := (blk_cell BK245.out 2).trans rfl; have hcz24_3 : w23.cell? ⟨gb245, 3, none⟩ = some (.int .i64 a0_3) := (blk_cell BK245.out 3).trans rfl; have hfz24_0 := blk_frozen BK245.out 0; have hfz24_1 := blk_frozen BK245.out 1; have hfz24_2 := blk_frozen BK245.out 2; have hfz24_3 := blk_frozen BK245.out 3))
    go_ret
    exact ⟨by first | rfl | (simp [errW_none, errW_some] <;> rfl) | (simp [*, errW_none, errW_some] <;> rfl), by repeat (first | (with_reducible first | exact HB.out | apply below_alloc | apply pw_below_drewN | apply below_drew1 | refine below_set ?_ GE245.out) | exact HB.out)⟩

end Go.Proofs.Ytfdmfgaiblfbhaa.P
namespace Go.Proofs.Ytfdmfgaiblfbhaa.P
open Go.RowKit Go.Proofs.YtfdmfgaiblfbhaaW.PrintWords Go.Proofs.YtfdmfgaiblfbhaaW.PrintLast Go.Proofs.YtfdmfgaiblfbhaaW.PrintMore
attribute [local go_sem] max2_int min2_int max_two min_two max_three min_three max_four min_four   -- for this text's walks alone
set_option linter.unusedVariables false
set_option linter.unusedSimpArgs false

/-! ### sashref04_May: function 57 -/
def sashref04_May.f (a0_0 : Int) (a0_1 : Int) (a0_2 : Int) (a0_3 : Int) : Option (Bool) := if a0_0 < 0 then (some false) else (if a0_0 > 10000 then (some false) else (if a0_1 < 0 then (some false) else (if a0_1 > 10000 then (some false) else (if a0_2 > 0 then (if a0_2 ≤ 10000 then (if a0_3 > 0 then (if a0_3 ≤ 10000 then (if (wrap64 (a0_0 + a0_2)) ≤ 10000 then (some (decide ((wrap64 (a0_1 + a0_3)) ≤ 10000))) else (some false)) else (some false)) else (some false)) else (some false)) else (some false)))))
set_option maxHeartbeats 8000000 in
set_option maxRecDepth 100000 in
theorem sashref04_May.calls (a0_0 : Int) (a0_1 : Int) (a0_2 : Int) (a0_3 : Int) (r : Bool) (w : World) (h : sashref04_May.f a0_0 a0_1 a0_2 a0_3 = some r) :
    Calls Try.prog 57 #[.agg #[.int .i64 a0_0, .int .i64 a0_1, .int .i64 a0_2, .int .i64 a0_3]] w fun e w' => e = .returned (.bool r) ∧ Below w.heap.size w w' := by
  have hu23 := Try.underlying23
  have HB := Aside0.mk (Below.refl w.heap.size w)
  have H : (if a0_0 < 0 then (some false) else (if a0_0 > 10000 then (some false) else (if a0_1 < 0 then (some false) else (if a0_1 > 10000 then (some false) else (if a0_2 > 0 then (if a0_2 ≤ 10000 then (if a0_3 > 0 then (if a0_3 ≤ 10000 then (if (wrap64 (a0_0 + a0_2)) ≤ 10000 then (some (decide ((wrap64 (a0_1 + a0_3)) ≤ 10000))) else (some false)) else (some false)) else (some false)) else (some false)) else (some false)))))) = some r := h
  clear h
  by_cases c2 : a0_0 < 0
  · rw [if_pos c2] at H
    have c2b0 : decide (a0_0 < 0) = true := decide_eq_true c2
    clear c2
    obtain rfl := Option.some.inj H
    go_enter Try.func57, Try.ntmps57
    go_wp2_with (first | ((with_reducible refine gate_dst (N := 1) rfl ?_); refine box_event ?hg (N := 1) ?hd (cs := #[.int .i64 a0_0, .int .i64 a0_1, .int .i64 a0_2, .int .i64 a0_3]) (t := 23) ?hr ?_; (case hd => rfl); (case hg => rfl); (case hr => first | (go_simp; done) | (go_simp; rfl)); intro gb173 hg w3 hbox hb; have n0_ := Aside0.mk (below_step (by repeat (first | (with_reducible first | exact HB.out | apply below_alloc | apply pw_below_drewN | apply below_drew1) | exact HB.out)) hb); have n1_ := Aside0.mk (hbox); have n2_ := Aside0.mk ((by rw [hg]; exact (below_size (by repeat (first | (with_reducible first | exact HB.out | apply below_alloc | apply pw_below_drewN | apply below_drew1) | exact HB.out))) : w.heap.size ≤ gb173)); have n3_ := Aside0.mk ((by rw [hg]; exact (below_size (by repeat (first | (with_reducible first | exact HB.out | apply below_alloc | apply pw_below_drewN | apply below_drew1) | exact HB.out))) : w.heap.size ≤ gb173)); clear HB; have HB := n0_; have BK173 := n1_; have GW173 := n2_; have GE173 := n3_; clear n0_ n1_ n2_ n3_; clear hb hbox hg; have hcz4_0 : w3.cell? ⟨gb173, 0, none⟩ = some (.int .i64 a0_0) := (blk_cell BK173.out 0).trans rfl; have hcz4_1 : w3.cell? ⟨gb173, 1, none⟩ = some (.int .i64 a0_1) := (blk_cell BK173.out 1).trans rfl; have hcz4_2 : w3.cell? ⟨gb173, 2, none⟩ = some (.int .i64 a0_2) := (blk_cell BK173.out 2).trans rfl; have hcz4_3 : w3.cell? ⟨gb173, 3, none⟩ = some (.int .i64 a0_3) := (blk_cell BK173.out 3).trans rfl; have hfz4_0 := blk_frozen BK173.out 0; have hfz4_1 := blk_frozen BK173.out 1; have hfz4_2 := blk_frozen BK173.out 2; have hfz4_3 := blk_frozen BK173.out 3))
    go_ret
    exact ⟨by first | rfl | (simp [errW_none, errW_some] <;> rfl) | (simp [*, errW_none, errW_some] <;> rfl), by repeat (first | (with_reducible first | exact HB.out | apply below_alloc | apply pw_below_drewN | apply below_drew1 | refine below_set ?_ GE173.out) | exact HB.out)⟩
  · rw [if_neg c2] at H
    have c2b0 : decide (a0_0 < 0) = false := decide_eq_false c2
    clear c2
    by_cases c5 : a0_0 > 10000
    · rw [if_pos c5] at H
      have c5b0 : decide (10000 < a0_0) = true := decide_eq_true c5
      clear c5
      obtain rfl := Option.some.inj H
      go_enter Try.func57, Try.ntmps57
      go_wp2_with (first | ((with_reducible refine gate_dst (N := 1) rfl ?_); refine box_event ?hg (N := 1) ?hd (cs := #[.int .i64 a0_0, .int .i64 a0_1, .int .i64 a0_2, .int .i64 a0_3]) (t := 23) ?hr ?_; (case hd => rfl); (case hg => rfl); (case hr => first | (go_simp; done) | (go_simp; rfl)); intro gb173 hg w6 hbox hb; have n0_ := Aside0.mk (below_step (by repeat (first | (with_reducible first | exact HB.out | apply below_alloc | apply pw_below_drewN | apply below_drew1) | exact HB.out)) hb); have n1_ := Aside0.mk (hbox); have n2_ := Aside0.mk ((by rw [hg]; exact (below_size (by repeat (first | (with_reducible first | exact HB.out | apply below_alloc | apply pw_below_drewN | apply below_drew1) | exact HB.out))) : w.heap.size ≤ gb173)); have n3_ := Aside0.mk ((by rw [hg]; exact (below_size (by repeat (first | (with_reducible first | exact HB.out | apply below_alloc | apply pw_below_drewN | apply below_drew1) | exact HB.out))) : w.heap.size ≤ gb173)); clear HB; have HB := n0_; have BK173 := n1_; have GW173 := n2_; have GE173 := n3_; clear n0_ n1_ n2_ n3_; clear hb hbox hg; have hcz7_0 : w6.cell? ⟨gb173, 0, none⟩ = some (.int .i64 a0_0) := (blk_cell BK173.out 0).trans rfl; have hcz7_1 : w6.cell? ⟨gb173, 1, none⟩ = some (.int .i64 a0_1) := (blk_cell BK173.out 1).trans rfl; have hcz7_2 : w6.cell? ⟨gb173, 2, none⟩ = some (.int .i64 a0_2) := (blk_cell BK173.out 2).trans rfl; have hcz7_3 : w6.cell? ⟨gb173, 3, none⟩ = some (.int .i64 a0_3) := (blk_cell BK173.out 3).trans rfl; have hfz7_0 := blk_frozen BK173.out 0; have hfz7_1 := blk_frozen BK173.out 1; have hfz7_2 := blk_frozen BK173.out 2; have hfz7_3 := blk_frozen BK173.out 3))
      go_ret
      exact ⟨by first | rfl | (simp [errW_none, errW_some] <;> rfl) | (simp [*, errW_none, errW_some] <;> rfl), by repeat (first | (with_reducible first | exact HB.out | apply below_alloc | apply pw_below_drewN | apply below_drew1 | refine below_set ?_ GE173.out) | exact HB.out)⟩
    · rw [if_neg c5] at H
      have c5b0 : decide (10000 < a0_0) = false := decide_eq_false c5
      clear c5
      by_cases c8 : a0_1 < 0
      · rw [if_pos c8] at H
        have c8b0 : decide (a0_1 < 0) = true := decide_eq_true c8
        clear c8
        obtain rfl := Option.some.inj H
        go_enter Try.func57, Try.ntmps57
        go_wp2_with (first | ((with_reducible refine gate_dst (N := 1) rfl ?_); refine box_event ?hg (N := 1) ?hd (cs := #[.int .i64 a0_0, .int .i64 a0_1, .int .i64 a0_2, .int .i64 a0_3]) (t := 23) ?hr ?_; (case hd => rfl); (case hg => rfl); (case hr => first | (go_simp; done) | (go_simp; rfl)); intro gb173 hg w9 hbox hb; have n0_ := Aside0.mk (below_step (by repeat (first | (with_reducible first | exact HB.out | apply below_alloc | apply pw_below_drewN | apply below_drew1) | exact HB.out)) hb); have n1_ := Aside0.mk (hbox); have n2_ := Aside0.mk ((by rw [hg]; exact (below_size (by repeat (first | (with_reducible first | exact HB.out | apply below_alloc | apply pw_below_drewN | apply below_drew1) | exact HB.out))) : w.heap.size ≤ gb173)); have n3_ := Aside0.mk ((by rw [hg]; exact (below_size (by repeat (first | (with_reducible first | exact HB.out | apply below_alloc | apply pw_below_drewN | apply below_drew1) | exact HB.out))) : w.heap.size ≤ gb173)); clear HB; have HB := n0_; have BK173 := n1_; have GW173 := n2_; have GE173 := n3_; clear n0_ n1_ n2_ n3_; clear hb hbox hg; have hcz10_0 : w9.cell? ⟨gb173, 0, none⟩ = some (.int .i64 a0_0) := (blk_cell BK173.out 0).trans rfl; have hcz10_1 : w9.cell? ⟨gb173, 1, none⟩ = some (.int .i64 a0_1) := (blk_cell BK173.out 1).trans rfl; have hcz10_2 : w9.cell? ⟨gb173, 2, none⟩ = some (.int .i64 a0_2) := (blk_cell BK173.out 2).trans rfl; have hcz10_3 : w9.cell? ⟨gb173, 3, none⟩ = some (.int .i64 a0_3) := (blk_cell BK173.out 3).trans rfl; have hfz10_0 := blk_frozen BK173.out 0; have hfz10_1 := blk_frozen BK173.out 1; have hfz10_2 := blk_frozen BK173.out 2; have hfz10_3 := blk_frozen BK173.out 3))
        go_ret
        exact ⟨by first | rfl | (simp [errW_none, errW_some] <;> rfl) | (simp [*, errW_none, errW_some] <;> rfl), by repeat (first | (with_reducible first | exact HB.out | apply below_alloc | apply pw_below_drewN | apply below_drew1 | refine below_set ?_ GE173.out) | exact HB.out)⟩
      · rw [if_neg c8] at H
        have c8b0 : decide (a0_1 < 0) = false := decide_eq_false c8
        clear c8
        by_cases c11 : a0_1 > 10000
        · rw [if_pos c11] at H
          have c11b0 : decide (10000 < a0_1) = true := decide_eq_true c11
          clear c11
          obtain rfl := Option.some.inj H
          go_enter Try.func57, Try.ntmps57
          go_wp2_with (first | ((with_reducible refine gate_dst (N := 1) rfl ?_); refine box_event ?hg (N := 1) ?hd (cs := #[.int .i64 a0_0, .int .i64 a0_1, .int .i64 a0_2, .int .i64 a0_3]) (t := 23) ?hr ?_; (case hd => rfl); (case hg => rfl); (case hr => first | (go_simp; done) | (go_simp; rfl)); intro gb173 hg w12 hbox hb; have n0_ := Aside0.mk (below_step (by repeat (first | (with_reducible first | exact HB.out | apply below_alloc | apply pw_below_drewN | apply below_drew1) | exact HB.out)) hb); have n1_ := Aside0.mk (hbox); have n2_ := Aside0.mk ((by rw [hg]; exact (below_size (by repeat (first | (with_reducible first | exact HB.out | apply below_alloc | apply pw_below_drewN | apply below_drew1) | exact HB.out))) : w.heap.size ≤ gb173)); have n3_ := Aside0.mk ((by rw [hg]; exact (below_size (by repeat (first | (with_reducible first | exact HB.out | apply below_alloc | apply pw_below_drewN | apply below_drew1) | exact HB.out))) : w.heap.size ≤ gb173)); clear HB; have HB := n0_; have BK173 := n1_; have GW173 := n2_; have GE173 := n3_; clear n0_ n1_ n2_ n3_; clear hb hbox hg; have hcz13_0 : w12.cell? ⟨gb173, 0, none⟩ = some (.int .i64 a0_0) := (blk_cell BK173.out 0).trans rfl; have hcz13_1 : w12.cell? ⟨gb173, 1, none⟩ = some (.int .i64 a0_1) := (blk_cell BK173.out 1).trans rfl; have hcz13_2 : w12.cell? ⟨gb173, 2, none⟩ = some (.int .i64 a0_2) := (blk_cell BK173.out 2).trans rfl; have hcz13_3 : w12.cell? ⟨gb173, 3, none⟩ = some (.int .i64 a0_3) := (blk_cell BK173.out 3).trans rfl; have hfz13_0 := blk_frozen BK173.out 0; have hfz13_1 := blk_frozen BK173.out 1; have hfz13_2 := blk_frozen BK173.out 2; have hfz13_3 := blk_frozen BK173.out 3))
          go_ret
          exact ⟨by first | rfl | (simp [errW_none, errW_some] <;> rfl) | (simp [*, errW_none, errW_some] <;> rfl), by repeat (first | (with_reducible first | exact HB.out | apply below_alloc | apply pw_below_drewN | apply below_drew1 | refine below_set ?_ GE173.out) | exact HB.out)⟩
        · rw [if_neg c11] at H
          have c11b0 : decide (10000 < a0_1) = false := decide_eq_false c11
          clear c11
          by_cases c14 : a0_2 > 0
          · rw [if_pos c14] at H
            have c14b0 : decide (0 < a0_2) = true := decide_eq_true c14
            clear c14
            by_cases c15 : a0_2 ≤ 10000
            · rw [if_pos c15] at H
              have c15b0 : decide (a0_2 ≤ 10000) = true := decide_eq_true c15
              clear c15
              by_cases c16 : a0_3 > 0
              · rw [if_pos c16] at H
                have c16b0 : decide (0 < a0_3) = true := decide_eq_true c16
                clear c16
                by_cases c17 : a0_3 ≤ 10000
                · rw [if_pos c17] at H
                  have c17b0 : decide (a0_3 ≤ 10000) = true := decide_eq_true c17
                  clear c17
                  by_cases c18 : (wrap64 (a0_0 + a0_2)) ≤ 10000
                  · rw [if_pos c18] at H
                    have c18b0 : decide ((wrap64 (a0_0 + a0_2)) ≤ 10000) = true := decide_eq_true c18
                    clear c18
                    obtain rfl := Option.some.inj H
                    go_enter Try.func57, Try.ntmps57
                    go_wp2_with (first | ((with_reducible refine gate_dst (N := 1) rfl ?_); refine box_event ?hg (N := 1) ?hd (cs := #[.int .i64 a0_0, .int .i64 a0_1, .int .i64 a0_2, .int .i64 a0_3]) (t := 23) ?hr ?_; (case hd => rfl); (case hg => rfl); (case hr => first | (go_simp; done) | (go_simp; rfl)); intro gb173 hg w19 hbox hb; have n0_ := Aside0.mk (below_step (by repeat (first | (with_reducible first | exact HB.out | apply below_alloc | apply pw_below_drewN | apply below_drew1) | exact HB.out)) hb); have n1_ := Aside0.mk (hbox); have n2_ := Aside0.mk ((by rw [hg]; exact (below_size (by repeat (first | (with_reducible first | exact HB.out | apply below_alloc | apply pw_below_drewN | apply below_drew1) | exact HB.out))) : w.heap.size ≤ gb173)); have n3_ := Aside0.mk ((by rw [hg]; exact (below_size (by repeat (first | (with_reducible first | exact HB.out | apply below_alloc | apply pw_below_drewN | apply below_drew1) | exact HB.out))) : w.heap.size ≤ gb173)); clear HB; have HB := n0_; have BK173 := n1_; have GW173 := n2_; have GE173 := n3_; clear n0_ n1_ n2_ n3_; clear hb hbox hg; have hcz20_0 : w19.cell? ⟨gb173, 0, none⟩ = some (.int .i64 a0_0) := (blk_cell BK173.out 0).trans rfl; have hcz20_1 : w19.cell? ⟨gb173, 1, none⟩ = some (.int .i64 a0_1) := (blk_cell BK173.out 1).trans rfl; have hcz20_2 : w19.cell? ⟨gb173, 2, none⟩ = some (.int .i64 a0_2) := (blk_cell BK173.out 2).trans rfl; have hcz20_3 : w19.cell? ⟨gb173, 3, none⟩ = some (.int .i64 a0_3) := (blk_cell BK173.out 3).trans rfl; have hfz20_0 := blk_frozen BK173.out 0; have hfz20_1 := blk_frozen BK173.out 1; have hfz20_2 := blk_frozen BK173.out 2; have hfz20_3 := blk_frozen BK173.out 3))
                    go_ret
                    exact ⟨by first | rfl | (simp [errW_none, errW_some] <;> rfl) | (simp [*, errW_none, errW_some] <;> rfl), by repeat (first | (with_reducible first | exact HB.out | apply below_alloc | apply pw_below_drewN | apply below_drew1 | refine below_set ?_ GE173.out) | exact HB.out)⟩
                  · rw [if_neg c18] at H
                    have c18b0 : decide ((wrap64 (a0_0 + a0_2)) ≤ 10000) = false := decide_eq_false c18
                    clear c18
                    obtain rfl := Option.some.inj H
                    go_enter Try.func57, Try.ntmps57
                    go_wp2_with (first | ((with_reducible refine gate_dst (N := 1) rfl ?_); refine box_event ?hg (N := 1) ?hd (cs := #[.int .i64 a0_0, .int .i64 a0_1, .int .i64 a0_2, .int .i64 a0_3]) (t := 23) ?hr ?_; (case hd => rfl); (case hg => rfl); (case hr => first | (go_simp; done) | (go_simp; rfl)); intro gb173 hg w21 hbox hb; have n0_ := Aside0.mk (below_step (by repeat (first | (with_reducible first | exact HB.out | apply below_alloc | apply pw_below_drewN | apply below_drew1) | exact HB.out)) hb); have n1_ := Aside0.mk (hbox); have n2_ := Aside0.mk ((by rw [hg]; exact (below_size (by repeat (first | (with_reducible first | exact HB.out | apply below_alloc | apply pw_below_drewN | apply below_drew1) | exact HB.out))) : w.heap.size ≤ gb173)); have n3_ := Aside0.mk ((by rw [hg]; exact (below_size (by repeat (first | (with_reducible first | exact HB.out | apply below_alloc | apply pw_below_drewN | apply below_drew1) | exact HB.out))) : w.heap.size ≤ gb173)); clear HB; have HB := n0_; have BK173 := n1_; have GW173 := n2_; have GE173 := n3_; clear n0_ n1_ n2_ n3_; clear hb hbox hg; have hcz22_0 : w21.cell? ⟨gb173, 0, none⟩ = some (.int .i64 a0_0) := (blk_cell BK173.out 0).trans rfl; have hcz22_1 : w21.cell? ⟨gb173, 1, none⟩ = some (.int .i64 a0_1) := (blk_cell BK173.out 1).trans rfl; have hcz22_2 : w21.cell? ⟨gb173, 2, none⟩ = some (.int .i64 a0_2) := (blk_cell BK173.out 2).trans rfl; have hcz22_3 : w21.cell? ⟨gb173, 3, none⟩ = some (.int .i64 a0_3) := (blk_cell BK173.out 3).trans rfl; have hfz22_0 := blk_frozen BK173.out 0; have hfz22_1 := blk_frozen BK173.out 1; have hfz22_2 := blk_frozen BK173.out 2; have hfz22_3 := blk_frozen BK173.out 3))
                    go_ret
                    exact ⟨by first | rfl | (simp [errW_none, errW_some] <;> rfl) | (simp [*, errW_none, errW_some] <;> rfl), by repeat (first | (with_reducible first | exact HB.out | apply below_alloc | apply pw_below_drewN | apply below_drew1 | refine below_set ?_ GE173.out) | exact HB.out)⟩
                · rw [if_neg c17] at H
                  have c17b0 : decide (a0_3 ≤ 10000) = false := decide_eq_false c17
                  clear c17
                  obtain rfl := Option.some.inj H
                  go_enter Try.func57, Try.ntmps57
                  go_wp2_with (first | ((with_reducible refine gate_dst (N := 1) rfl ?_); refine box_event ?hg (N := 1) ?hd (cs := #[.int .i64 a0_0, .int .i64 a0_1, .int .i64 a0_2, .int .i64 a0_3]) (t := 23) ?hr ?_; (case hd => rfl); (case hg => rfl); (case hr => first | (go_simp; done) | (go_simp; rfl)); intro gb173 hg w23 hbox hb; have n0_ := Aside0.mk (below_step (by repeat (first | (with_reducible first | exact HB.out | apply below_alloc | apply pw_below_drewN | apply below_drew1) | exact HB.out)) hb); have n1_ := Aside0.mk (hbox); have n2_ := Aside0.mk ((by rw [hg]; exact (below_size (by repeat (first | (with_reducible first | exact HB.out | apply below_alloc | apply pw_below_drewN | apply below_drew1) | exact HB.out))) : w.heap.size ≤ gb173)); have n3_ := Aside0.mk ((by rw [hg]; exact (below_size (by repeat (first | (with_reducible first | exact HB.out | apply below_alloc | apply pw_below_drewN | apply below_drew1) | exact HB.out))) : w.heap.size ≤ gb173)); clear HB; have HB := n0_; have BK173 := n1_; have GW173 := n2_; have GE173 := n3_; clear n0_ n1_ n2_ n3_; clear hb hbox hg; have hcz24_0 : w23.cell? ⟨gb173, 0, none⟩ = some (.int .i64 a0_0) := (blk_cell BK173.out 0).trans rfl; have hcz24_1 : w23.cell? ⟨gb173, 1, none⟩ = some (.int .i64 a0_1) := (blk_cell BK173.out 1).trans rfl; have hcz24_2 : w23.cell? ⟨gb173, 2, none⟩ = some (.int .i64 a0_2) := (blk_cell BK173.out 2).trans rfl; have hcz24_3 : w23.cell? ⟨gb173, 3, none⟩ = some (.int .i64 a0_3) := (blk_cell BK173.out 3).trans rfl; have hfz24_0 := blk_frozen BK173.out 0; have hfz24_1 := blk_frozen BK173.out 1; have hfz24_2 := blk_frozen BK173.out 2; have hfz24_3 := blk_frozen BK173.out 3))
                  go_ret
                  exact ⟨by first | rfl | (simp [errW_none, errW_some] <;> rfl) | (simp [*, errW_none, errW_some] <;> rfl), by repeat (first | (with_reducible first | exact HB.out | apply below_alloc | apply pw_below_drewN | apply below_drew1 | refine below_set ?_ GE173.out) | exact HB.out)⟩
              · rw [if_neg c16] at H
                have c16b0 : decide (0 < a0_3) = false := decide_eq_false c16
                clear c16
                obtain rfl := Option.some.inj H
                go_enter Try.func57, Try.ntmps57
                go_wp2_with (first | ((with_reducible refine gate_dst (N := 1) rfl ?_); refine box_event ?hg (N := 1) ?hd (cs := #[.int .i64 a0_0, .int .i64 a0_1, .int .i64 a0_2, .int .i64 a0_3]) (t := 23) ?hr ?_; (case hd => rfl); (case hg => rfl); (case hr => first | (go_simp; done) | (go_simp; rfl)); intro gb173 hg w25 hbox hb; have n0_ := Aside0.mk (below_step (by repeat (first | (with_reducible first | exact HB.out | apply below_alloc | apply pw_below_drewN | apply below_drew1) | exact HB.out)) hb); have n1_ := Aside0.mk (hbox); have n2_ := Aside0.mk ((by rw [hg]; exact (below_size (by repeat (first | (with_reducible first | exact HB.out | apply below_alloc | apply pw_below_drewN | apply below_drew1) | exact HB.out))) : w.heap.size ≤ gb173)); have n3_ := Aside0.mk ((by rw [hg]; exact (below_size (by repeat (first | (with_reducible first | exact HB.out | apply below_alloc | apply pw_below_drewN | apply below_drew1) | exact HB.out))) : w.heap.size ≤ gb173)); clear HB; have HB := n0_; have BK173 := n1_; have GW173 := n2_; have GE173 := n3_; clear n0_ n1_ n2_ n3_; clear hb hbox hg; have hcz26_0 : w25.cell? ⟨gb173, 0, none⟩ = some (.int .i64 a0_0) := (blk_cell BK173.out 0).trans rfl; have hcz26_1 : w25.cell? ⟨gb173, 1, none⟩ = some (.int .i64 a0_1) := (blk_cell BK173.out 1).trans rfl; have hcz26_2 : w25.cell? ⟨gb173, 2, none⟩ = some (.int .i64 a0_2) := (blk_cell BK173.out 2).trans rfl; have hcz26_3 : w25.cell? ⟨gb173, 3, none⟩ = some (.int .i64 a0_3) := (blk_cell BK173.out 3).trans rfl; have hfz26_0 := blk_frozen BK173.out 0; have hfz26_1 := blk_frozen BK173.out 1; have hfz26_2 := blk_frozen BK173.out 2; have hfz26_3 := blk_frozen BK173.out 3))
                go_ret
                exact ⟨by first | rfl | (simp [errW_none, errW_some] <;> rfl) | (simp [*, errW_none, errW_some] <;> rfl), by repeat (first | (with_reducible first | exact HB.out | apply below_alloc | apply pw_below_drewN | apply below_drew1 | refine below_set ?_ GE173.out) | exact HB.out)⟩
            · rw [if_neg c15] at H
              have c15b0 : decide (a0_2 ≤ 10000) = false := decide_eq_false c15
              clear c15
              obtain rfl := Option.some.inj H
              go_enter Try.func57, Try.ntmps57
              go_wp2_with (first | ((with_reducible refine gate_dst (N := 1) rfl ?_); refine box_event ?hg (N := 1) ?hd (cs := #[.int .i64 a0_0, .int .i64 a0_1, .int .i64 a0_2, .int .i64 a0_3]) (t := 23) ?hr ?_; (case hd => rfl); (case hg => rfl); (case hr => first | (go_simp; done) | (go_simp; rfl)); intro gb173 hg w27 hbox hb; have n0_ := Aside0.mk (below_step (by repeat (first | (with_reducible first | exact HB.out | apply below_alloc | apply pw_below_drewN | apply below_drew1) | exact HB.out)) hb); have n1_ := Aside0.mk (hbox); have n2_ := Aside0.mk ((by rw [hg]; exact (below_size (by repeat (first | (with_reducible first | exact HB.out | apply below_alloc | apply pw_below_drewN | apply below_drew1) | exact HB.out))) : w.heap.size ≤ gb173)); have n3_ := Aside0.mk ((by rw [hg]; exact (below_size (by repeat (first | (with_reducible first | exact HB.out | apply below_alloc | apply pw_below_drewN | apply below_drew1) | exact HB.out))) : w.heap.size ≤ gb173)); clear HB; have HB := n0_; have BK173 := n1_; have GW173 := n2_; have GE173 := n3_; clear n0_ n1_ n2_ n3_; clear hb hbox hg; have hcz28_0 : w27.cell? ⟨gb173, 0, none⟩ = some (.int .i64 a0_0) := (blk_cell BK173.out 0).trans rfl; have hcz28_1 : w27.cell? ⟨gb173, 1, none⟩ = some (.int .i64 a0_1) := (blk_cell BK173.out 1).trans rfl; have hcz28_2 : w27.cell? ⟨gb173, 2, none⟩ = some (.int .i64 a0_2) := (blk_cell BK173.out 2).trans rfl; have hcz28_3 : w27.cell? ⟨gb173, 3, none⟩ = some (.int .i64 a0_3) := (blk_cell BK173.out 3).trans rfl; have hfz28_0 := blk_frozen BK173.out 0; have hfz28_1 := blk_frozen BK173.out 1; have hfz28_2 := blk_frozen BK173.out 2; have hfz28_3 := blk_frozen BK173.out 3))
              go_ret
              exact ⟨by first | rfl | (simp [errW_none, errW_some] <;> rfl) | (simp [*, errW_none, errW_some] <;> rfl), by repeat (first | (with_reducible first | exact HB.out | apply below_alloc | apply pw_below_drewN | apply below_drew1 | refine below_set ?_ GE173.out) | exact HB.out)⟩
          · rw [if_neg c14] at H
            have c14b0 : decide (0 < a0_2) = false := decide_eq_false c14
            clear c14
            obtain rfl := Option.some.inj H
            go_enter Try.func57, Try.ntmps57
            go_wp2_with (first | ((with_reducible refine gate_dst (N := 1) rfl ?_); refine box_event ?hg (N := 1) ?hd (cs := #[.int .i64 a0_0, .int .i64 a0_1, .int .i64 a0_2, .int .i64 a0_3]) (t := 23) ?hr ?_; (case hd => rfl); (case hg => rfl); (case hr => first | (go_simp; done) | (go_simp; rfl)); intro gb173 hg w29 hbox hb; have n0_ := Aside0.mk (below_step (by repeat (first | (with_reducible first | exact HB.out | apply below_alloc | apply pw_below_drewN | apply below_drew1) | exact HB.out)) hb); have n1_ := Aside0.mk (hbox); have n2_ := Aside0.mk ((by rw [hg]; exact (below_size (by repeat (first | (with_reducible first | exact HB.out | apply below_alloc | apply pw_below_drewN | apply below_drew1) | exact HB.out))) : w.heap.size ≤ gb173)); have n3_ := Aside0.mk ((by rw [hg]; exact (below_size (by repeat (first | (with_reducible first | exact HB.out | apply below_alloc | apply pw_below_drewN | apply below_drew1) | exact HB.out))) : w.heap.size ≤ gb173)); clear HB; have HB := n0_; have BK173 := n1_; have GW173 := n2_; have GE173 := n3_; clear n0_ n1_ n2_ n3_; clear hb hbox hg; have hcz30_0 : w29.cell? ⟨gb173, 0, none⟩ = some (.int .i64 a0_0) := (blk_cell BK173.out 0).trans rfl; have hcz30_1 : w29.cell? ⟨gb173, 1, none⟩ = some (.int .i64 a0_1) := (blk_cell BK173.out 1).trans rfl; have hcz30_2 : w29.cell? ⟨gb173, 2, none⟩ = some (.int .i64 a0_2) := (blk_cell BK173.out 2).trans rfl; have hcz30_3 : w29.cell? ⟨gb173, 3, none⟩ = some (.int .i64 a0_3) := (blk_cell BK173.out 3).trans rfl; have hfz30_0 := blk_frozen BK173.out 0; have hfz30_1 := blk_frozen BK173.out 1; have hfz30_2 := blk_frozen BK173.out 2; have hfz30_3 := blk_frozen BK173.out 3))
            go_ret
            exact ⟨by first | rfl | (simp [errW_none, errW_some] <;> rfl) | (simp [*, errW_none, errW_some] <;> rfl), by repeat (first | (with_reducible first | exact HB.out | apply below_alloc | apply pw_below_drewN | apply below_drew1 | refine below_set ?_ GE173.out) | exact HB.out)⟩

end Go.Proofs.Ytfdmfgaiblfbhaa.P
/- May a rectangle be: plain words. -/
namespace Go.Proofs.Ytfdmfgaiblfbhaa.P
open Go.RowKit Go.Proofs.YtfdmfgaiblfbhaaW.PrintWords Go.Proofs.YtfdmfgaiblfbhaaW.PrintLast Go.Proofs.YtfdmfgaiblfbhaaW.PrintMore

theorem wq {x : Int} (h0 : -9223372036854775808 ≤ x) (h1 : x ≤ 9223372036854775807) : wrap64 x = x := by unfold wrap64; omega
theorem ev_pos {α : Type} {c : Prop} [Decidable c] {g f : Nat → Option α} {r : α} (hc : c) (h : Ev g r) : Ev (fun k => if c then g k else f k) r := by simp only [if_pos hc]; exact h
theorem ev_neg {α : Type} {c : Prop} [Decidable c] {g f : Nat → Option α} {r : α} (hc : ¬c) (h : Ev f r) : Ev (fun k => if c then g k else f k) r := by simp only [if_neg hc]; exact h
theorem ev_some {α : Type} {g : Nat → Option α} {r : α} (h : ∀ k, g k = some r) : Ev g r := ⟨0, fun k _ => h k⟩
/-- May a rectangle be? -/
def mayB (X Y W H : Int) : Bool := decide (0 ≤ X ∧ 1 ≤ W ∧ W ≤ 10000 ∧ X + W ≤ 10000 ∧ 0 ≤ Y ∧ 1 ≤ H ∧ H ≤ 10000 ∧ Y + H ≤ 10000)
def mayR (r : S23) : Bool := mayB r.f0 r.f1 r.f2 r.f3
end Go.Proofs.Ytfdmfgaiblfbhaa.P
namespace Go.Proofs.Ytfdmfgaiblfbhaa.P
open Go.RowKit Go.Proofs.YtfdmfgaiblfbhaaW.PrintWords Go.Proofs.YtfdmfgaiblfbhaaW.PrintLast Go.Proofs.YtfdmfgaiblfbhaaW.PrintMore
attribute [local go_sem] max2_int min2_int max_two min_two max_three min_three max_four min_four   -- for this text's walks alone
set_option linter.unusedVariables false
set_option linter.unusedSimpArgs false

/-! ### sashref05_All: function 79 -/
mutual
def sashref05_All.l0 : Nat → List (S26) → Int → Int → Int → Int → Int → Int → Int → Int → List (S26) → Option ((List (S26)))
  | 0, _, _, _, _, _, _, _, _, _, _ => none
  | k + 1, x3, x9, x10, x132000, x132001, x132002, x132003, x132004, x132005, x132006 => if x10 < x9 then (if 0 ≤ x10 then (if x10 < (x132006.length : Int) then ((sashref05_All.f k ((rd_T26 x132006 x10).f0) ((rd_T26 x132006 x10).f1.f0) ((rd_T26 x132006 x10).f1.f1) ((rd_T26 x132006 x10).f1.f2) ((rd_T26 x132006 x10).f1.f3) ((rd_T26 x132006 x10).f2) ((rd_T26 x132006 x10).f3)).bind fun t136 => (if x3.length + t136.length < 1954687338268 then (sashref05_All.l0 k (x3 ++ t136) x9 (wrap64 (x10 + 1)) x132000 x132001 x132002 x132003 x132004 x132005 x132006) else (none))) else (none)) else (none)) else (some x3)
def sashref05_All.f : Nat → Int → Int → Int → Int → Int → Int → List (S26) → Option ((List (S26)))
  | 0, _, _, _, _, _, _, _ => none
  | k + 1, a0_0, a0_1, a0_2, a0_3, a0_4, a0_5, l0_6 => sashref05_All.l0 k (([(⟨a0_0, (⟨a0_1, a0_2, a0_3, a0_4⟩ : S23), a0_5, l0_6⟩ : S26)] : List (S26))) (l0_6.length : Int) 0 a0_0 a0_1 a0_2 a0_3 a0_4 a0_5 l0_6
end
theorem sashref05_All.mono_l : ∀ k, (∀ y0 y1 y2 y3 y4 y5 y6, LeO (sashref05_All.f k y0 y1 y2 y3 y4 y5 y6) (sashref05_All.f (k + 1) y0 y1 y2 y3 y4 y5 y6)) ∧ (∀ y0 y1 y2 y3 y4 y5 y6 y7 y8 y9, LeO (sashref05_All.l0 k y0 y1 y2 y3 y4 y5 y6 y7 y8 y9) (sashref05_All.l0 (k + 1) y0 y1 y2 y3 y4 y5 y6 y7 y8 y9))
  | 0 => ⟨fun _ _ _ _ _ _ _ r h => by simp [sashref05_All.f] at h, fun _ _ _ _ _ _ _ _ _ _ r h => by simp [sashref05_All.l0] at h⟩
  | k + 1 => by
    obtain ⟨ih0, ih1⟩ := sashref05_All.mono_l k
    refine ⟨?_, ?_⟩
    · intro y0 y1 y2 y3 y4 y5 y6
      unfold sashref05_All.f
      repeat' first
      | (with_reducible exact ih0 _ _ _ _ _ _ _)
      | (with_reducible exact ih1 _ _ _ _ _ _ _ _ _ _)
      | (with_reducible exact LeO.refl _)
      | (with_reducible exact LeO.none _)
      | (with_reducible refine LeO.ite ?_ ?_)
      | (with_reducible refine LeO.bind ?_ (fun _ => ?_))
      | exact ih0 _ _ _ _ _ _ _
      | exact ih1 _ _ _ _ _ _ _ _ _ _
      | exact LeO.none _
      | refine LeO.ite ?_ ?_
      | refine LeO.bind ?_ (fun _ => ?_)
    · intro y0 y1 y2 y3 y4 y5 y6 y7 y8 y9
      unfold sashref05_All.l0
      repeat' first
      | (with_reducible exact ih0 _ _ _ _ _ _ _)
      | (with_reducible exact ih1 _ _ _ _ _ _ _ _ _ _)
      | (with_reducible exact LeO.refl _)
      | (with_reducible exact LeO.none _)
      | (with_reducible refine LeO.ite ?_ ?_)
      | (with_reducible refine LeO.bind ?_ (fun _ => ?_))
      | exact ih0 _ _ _ _ _ _ _
      | exact ih1 _ _ _ _ _ _ _ _ _ _
      | exact LeO.none _
      | refine LeO.ite ?_ ?_
      | refine LeO.bind ?_ (fun _ => ?_)
theorem sashref05_All.mono : ∀ a0 a1 a2 a3 a4 a5 a6 k, LeO (sashref05_All.f k a0 a1 a2 a3 a4 a5 a6) (sashref05_All.f (k + 1) a0 a1 a2 a3 a4 a5 a6) := by
  intro a0 a1 a2 a3 a4 a5 a6 k
  obtain ⟨ih0, ih1⟩ := sashref05_All.mono_l k
  exact ih0 a0 a1 a2 a3 a4 a5 a6
set_option maxHeartbeats 8000000 in
set_option maxRecDepth 100000 in
theorem sashref05_All.calls (k : Nat) : ∀ (a0_0 : Int) (a0_1 : Int) (a0_2 : Int) (a0_3 : Int) (a0_4 : Int) (a0_5 : Int) (P0_6_ : Nat → Prop) (A0_6 : Option Addr) (c0_6 : Nat) (l0_6 : List (S26)) (r : List (S26)) (w : World) (hs0_6 : Kd.V k26 26 w w.heap.size (fun k_ => P0_6_ k_) (.slice A0_6 l0_6.length c0_6) l0_6) (h : sashref05_All.f k a0_0 a0_1 a0_2 a0_3 a0_4 a0_5 l0_6 = some r),
    Calls Try.prog 79 #[.agg #[.int .u8 a0_0, .int .i64 a0_1, .int .i64 a0_2, .int .i64 a0_3, .int .i64 a0_4, .int .i64 a0_5, .slice A0_6 l0_6.length c0_6]] w fun e w' => ∃ v0_ : Value, e = .returned (v0_) ∧ Kd.N k26 26 w' w.heap.size (fun k_ => (P0_6_ k_ ∨ w.heap.size ≤ k_)) v0_ r ∧ Below w.heap.size w w' := by
  induction k using Nat.strongRecOn with
  | _ k ih =>
  intro a0_0 a0_1 a0_2 a0_3 a0_4 a0_5 P0_6_ A0_6 c0_6 l0_6 r w hs0_6 h
  cases k with
  | zero => exact absurd h (by simp [sashref05_All.f])
  | succ k =>
  simp only [sashref05_All.f] at h
  have hu26 := Try.underlying26
  have HO0_6 := Aside0.mk (show Kd.V k26 26 w w.heap.size (fun k_ => (P0_6_ k_ ∨ w.heap.size ≤ k_)) (.slice A0_6 l0_6.length c0_6) l0_6 from Kd.V_mono hs0_6 (fun k_ hk => .inl hk))
  have HB := Aside0.mk (Below.refl w.heap.size w)
  have H : (sashref05_All.l0 k (([(⟨a0_0, (⟨a0_1, a0_2, a0_3, a0_4⟩ : S23), a0_5, l0_6⟩ : S26)] : List (S26))) (l0_6.length : Int) 0 a0_0 a0_1 a0_2 a0_3 a0_4 a0_5 l0_6) = some r := h
  clear h
  obtain ⟨y132, hy132⟩ : ∃ y_ : List (S26), y_ = (([(⟨a0_0, (⟨a0_1, a0_2, a0_3, a0_4⟩ : S23), a0_5, l0_6⟩ : S26)] : List (S26))) := ⟨_, rfl⟩
  replace H : (sashref05_All.l0 k y132 (l0_6.length : Int) 0 a0_0 a0_1 a0_2 a0_3 a0_4 a0_5 l0_6) = some r := by first | (rw [hy132]; with_reducible exact H) | (have H2_ := (Option.bind_some _ _).symm.trans H; rw [hy132]; with_reducible exact H2_) | (have H2_ := (Option.bind_some _ _).symm.trans H; with_reducible exact H2_) | with_reducible exact H | (rw [hy132]; exact H) | exact H
  have Ny132 := Aside0.mk hy132
  clear hy132
  have H' := Aside0.mk H
  clear H
  go_enter Try.func79, Try.ntmps79
  go_wp2_with (first | ((with_reducible refine gate_dst (N := 1) rfl ?_); refine box_event ?hg (N := 1) ?hd (cs := #[.int .u8 a0_0, .int .i64 a0_1, .int .i64 a0_2, .int .i64 a0_3, .int .i64 a0_4, .int .i64 a0_5, .slice A0_6 l0_6.length c0_6]) (t := 26) ?hr ?_; (case hd => rfl); (case hg => rfl); (case hr => first | (go_simp; done) | (go_simp; rfl)); intro gb131 hg w2 hbox hb; have n0_ := Aside0.mk (Kd.V_below (Kd.V_elderB (by (with_reducible repeat (first | apply Kd.V_alloc | apply Kd.V_drewN | apply Kd.V_drew)); exact HO0_6.out) gb131 (Nat.le_of_eq hg.symm)) hb); have n1_ := Aside0.mk (below_step (by repeat (first | (with_reducible first | exact HB.out | apply below_alloc | apply pw_below_drewN | apply below_drew1) | exact HB.out)) hb); have n2_ := Aside0.mk (hbox); have n3_ := Aside0.mk ((by rw [hg]; exact (below_size (by repeat (first | (with_reducible first | exact HB.out | apply below_alloc | apply pw_below_drewN | apply below_drew1) | exact HB.out))) : w.heap.size ≤ gb131)); have n4_ := Aside0.mk ((by rw [hg]; exact (below_size (by repeat (first | (with_reducible first | exact HB.out | apply below_alloc | apply pw_below_drewN | apply below_drew1) | exact HB.out))) : w.heap.size ≤ gb131)); clear HO0_6; clear HB; have HO0_6 := n0_; have HB := n1_; have BK131 := n2_; have GW131 := n3_; have GE131 := n4_; clear n0_ n1_ n2_ n3_ n4_; clear hb hbox hg; have hcz3_0 : w2.cell? ⟨gb131, 0, none⟩ = some (.int .u8 a0_0) := (blk_cell BK131.out 0).trans rfl; have hcz3_1 : w2.cell? ⟨gb131, 1, none⟩ = some (.int .i64 a0_1) := (blk_cell BK131.out 1).trans rfl; have hcz3_2 : w2.cell? ⟨gb131, 2, none⟩ = some (.int .i64 a0_2) := (blk_cell BK131.out 2).trans rfl; have hcz3_3 : w2.cell? ⟨gb131, 3, none⟩ = some (.int .i64 a0_3) := (blk_cell BK131.out 3).trans rfl; have hcz3_4 : w2.cell? ⟨gb131, 4, none⟩ = some (.int .i64 a0_4) := (blk_cell BK131.out 4).trans rfl; have hcz3_5 : w2.cell? ⟨gb131, 5, none⟩ = some (.int .i64 a0_5) := (blk_cell BK131.out 5).trans rfl; have hcz3_6 : w2.cell? ⟨gb131, 6, none⟩ = some (.slice A0_6 l0_6.length c0_6) := (blk_cell BK131.out 6).trans rfl; have hfz3_0 := blk_frozen BK131.out 0; have hfz3_1 := blk_frozen BK131.out 1; have hfz3_2 := blk_frozen BK131.out 2; have hfz3_3 := blk_frozen BK131.out 3; have hfz3_4 := blk_frozen BK131.out 4; have hfz3_5 := blk_frozen BK131.out 5; have hfz3_6 := blk_frozen BK131.out 6) | ((with_reducible refine gate_dst (N := 6) rfl ?_); refine Kd.N_lit k26 _ 26 ?hg (N' := 6) ?hd (xs := ([(⟨a0_0, (⟨a0_1, a0_2, a0_3, a0_4⟩ : S23), a0_5, l0_6⟩ : S26)] : List (S26))) (inner := [.int .u8 a0_0, .int .i64 a0_1, .int .i64 a0_2, .int .i64 a0_3, .int .i64 a0_4, .int .i64 a0_5, .slice A0_6 l0_6.length c0_6]) (ok := (fun k_ => (P0_6_ k_ ∨ w.heap.size ≤ k_) ∧ k_ ≠ gb131)) (okp := (fun k_ => (P0_6_ k_ ∨ w.heap.size ≤ k_) ∧ k_ ≠ gb131)) ?hr ?hp (fun _ hk => hk) ((show ∀ k_, w2.heap.size ≤ k_ → (fun k_ => (P0_6_ k_ ∨ w.heap.size ≤ k_) ∧ k_ ≠ gb131) k_ from fun k_ hk => ⟨(.inr (Nat.le_trans (below_size (by repeat (first | (with_reducible first | exact HB.out | apply below_alloc | apply pw_below_drewN | apply below_drew1 | refine below_set ?_ GE131.out) | exact HB.out))) hk)), Kd.freshB (g := gb131) (o := .cells #[.int .u8 a0_0, .int .i64 a0_1, .int .i64 a0_2, .int .i64 a0_3, .int .i64 a0_4, .int .i64 a0_5, .slice A0_6 l0_6.length c0_6] 26 (0, 0)) (by (with_reducible repeat (first | refine blk_drewN ?_ _ | refine blk_drew ?_ | refine blk_alloc ?_ _)); exact BK131.out) k_ hk⟩) _ (Nat.le_refl _)) (Below.refl _ _) (Nat.le_refl _) (by simp) ?_; (case hd => rfl); (case hg => rfl); (case hr => first | (go_simp; done) | (go_simp; rfl)); (case hp => exact (Reps.c7 (show Kd.FK k26 _ _ (⟨a0_0, (⟨a0_1, a0_2, a0_3, a0_4⟩ : S23), a0_5, l0_6⟩ : S26) [.int .u8 a0_0, .int .i64 a0_1, .int .i64 a0_2, .int .i64 a0_3, .int .i64 a0_4, .int .i64 a0_5, .slice A0_6 l0_6.length c0_6] from (k26_mkF _ _ (⟨a0_0, (⟨a0_1, a0_2, a0_3, a0_4⟩ : S23), a0_5, l0_6⟩ : S26) (Kd.V_reads' (Kd.V_mono (ok' := (fun k_ => (P0_6_ k_ ∨ w.heap.size ≤ k_) ∧ k_ ≠ gb131)) (HO0_6.out) (fun k_ hk => ⟨hk.1, hk.2⟩))).2.1 (Kd.V_F (Kd.V_mono (ok' := (fun k_ => (P0_6_ k_ ∨ w.heap.size ≤ k_) ∧ k_ ≠ gb131)) (HO0_6.out) (fun k_ hk => ⟨hk.1, hk.2⟩))))) (Reps.none _ _))); intro v133 w4 ho5 hb hg_ hnew_; clear hg_ hnew_; (first | rw [← Ny132.out] at ho5 | (simp only [Int.reduceToNat] at ho5; rw [← Ny132.out] at ho5)); have n0_ := Aside0.mk (Kd.V_elder' (by (with_reducible repeat (first | apply Kd.V_alloc | apply Kd.V_drewN | apply Kd.V_drew)); exact HO0_6.out) (Kd.N_base ho5) hb); have n1_ := Aside0.mk (Kd.N_lower ho5 (below_size (by repeat (first | (with_reducible first | exact HB.out | apply below_alloc | apply pw_below_drewN | apply below_drew1 | refine below_set ?_ GE131.out) | exact HB.out)))); have n2_ := Aside0.mk (blk_below (g := gb131) (o := .cells #[.int .u8 a0_0, .int .i64 a0_1, .int .i64 a0_2, .int .i64 a0_3, .int .i64 a0_4, .int .i64 a0_5, .slice A0_6 l0_6.length c0_6] 26 (0, 0)) (by (with_reducible repeat (first | refine blk_drewN ?_ _ | refine blk_drew ?_ | refine blk_alloc ?_ _)); exact BK131.out) hb); have n3_ := Aside0.mk (below_step (by repeat (first | (with_reducible first | exact HB.out | apply below_alloc | apply pw_below_drewN | apply below_drew1 | refine below_set ?_ GE131.out) | exact HB.out)) hb); clear HO0_6; clear BK131; clear HB; have HO0_6 := n0_; have HO134 := n1_; have BK131 := n2_; have HB := n3_; clear n0_ n1_ n2_ n3_; clear hb ho5; have hcz6_0 : w4.cell? ⟨gb131, 0, none⟩ = some (.int .u8 a0_0) := (blk_cell BK131.out 0).trans rfl; have hcz6_1 : w4.cell? ⟨gb131, 1, none⟩ = some (.int .i64 a0_1) := (blk_cell BK131.out 1).trans rfl; have hcz6_2 : w4.cell? ⟨gb131, 2, none⟩ = some (.int .i64 a0_2) := (blk_cell BK131.out 2).trans rfl; have hcz6_3 : w4.cell? ⟨gb131, 3, none⟩ = some (.int .i64 a0_3) := (blk_cell BK131.out 3).trans rfl; have hcz6_4 : w4.cell? ⟨gb131, 4, none⟩ = some (.int .i64 a0_4) := (blk_cell BK131.out 4).trans rfl; have hcz6_5 : w4.cell? ⟨gb131, 5, none⟩ = some (.int .i64 a0_5) := (blk_cell BK131.out 5).trans rfl; have hcz6_6 : w4.cell? ⟨gb131, 6, none⟩ = some (.slice A0_6 l0_6.length c0_6) := (blk_cell BK131.out 6).trans rfl; have hfz6_0 := blk_frozen BK131.out 0; have hfz6_1 := blk_frozen BK131.out 1; have hfz6_2 := blk_frozen BK131.out 2; have hfz6_3 := blk_frozen BK131.out 3; have hfz6_4 := blk_frozen BK131.out 4; have hfz6_5 := blk_frozen BK131.out 5; have hfz6_6 := blk_frozen BK131.out 6))
  go_loopg [3, 10] k (fun kq v3 v10 w' => ∃ (x3_1 : List (S26)) (x10_1 : Int), v10 = .int .i64 x10_1 ∧ Aside0 (sashref05_All.l0 kq x3_1 (l0_6.length : Int) x10_1 a0_0 a0_1 a0_2 a0_3 a0_4 a0_5 l0_6 = some r) ∧ Aside0 (kq ≤ k) ∧ Aside0 (Kd.N k26 26 w' w.heap.size (fun k_ => (P0_6_ k_ ∨ w.heap.size ≤ k_) ∧ k_ ≠ gb131) v3 x3_1) ∧ Aside0 (Kd.V k26 26 w' w.heap.size (fun k_ => (P0_6_ k_ ∨ w.heap.size ≤ k_) ∧ some k_ ≠ (v3 : Value).ownBlock ∧ k_ ≠ gb131) (.slice A0_6 l0_6.length c0_6) l0_6) ∧ Aside0 (w'.heap[gb131]? = some (.cells #[.int .u8 a0_0, .int .i64 a0_1, .int .i64 a0_2, .int .i64 a0_3, .int .i64 a0_4, .int .i64 a0_5, (.slice A0_6 l0_6.length c0_6)] 26 (0, 0))) ∧ Aside0 (Below w.heap.size w w'))
  case atStart => exact ⟨(y132), (0), (by first | rfl | (simp; done) | (simp [*]; done)), H', ⟨Nat.le_refl _⟩, ⟨by (with_reducible repeat (first | apply Kd.N_alloc | apply Kd.N_drewN | apply Kd.N_drew)); exact HO134.out⟩, ⟨by (with_reducible repeat (first | apply Kd.V_alloc | apply Kd.V_drewN | apply Kd.V_drew)); exact Kd.V_mono HO0_6.out (fun _ hk => ⟨hk.1.1, ⟨hk.2, hk.1.2⟩⟩)⟩, ⟨by (with_reducible repeat (first | refine blk_drewN ?_ _ | refine blk_drew ?_ | refine blk_alloc ?_ _)); exact BK131.out⟩, ⟨by repeat (first | (with_reducible first | exact HB.out | apply below_alloc | apply pw_below_drewN | apply below_drew1 | refine below_set ?_ GE131.out) | exact HB.out)⟩⟩
  case round =>
    clear H'
    try clear p2
    try clear hcz3_0
    try clear hcz3_1
    try clear hcz3_2
    try clear hcz3_3
    try clear hcz3_4
    try clear hcz3_5
    try clear hcz3_6
    try clear hcz6_0
    try clear hcz6_1
    try clear hcz6_2
    try clear hcz6_3
    try clear hcz6_4
    try clear hcz6_5
    try clear hcz6_6
    try clear hfz3_0
    try clear hfz3_1
    try clear hfz3_2
    try clear hfz3_3
    try clear hfz3_4
    try clear hfz3_5
    try clear hfz3_6
    try clear hfz6_0
    try clear hfz6_1
    try clear hfz6_2
    try clear hfz6_3
    try clear hfz6_4
    try clear hfz6_5
    try clear hfz6_6
    obtain ⟨x3_1, x10_1, rfl, HA, HK1, HO_3, HO_132006, BK131, HB⟩ := hrel
    cases gk with
    | zero => exact absurd HA.out (by simp [sashref05_All.l0])
    | succ k1 =>
      have H := HA.out
      clear HA
      simp only [sashref05_All.l0] at H
      by_cases c7 : x10_1 < (l0_6.length : Int)
      · rw [if_pos c7] at H
        have c7b0 : decide (x10_1 < (l0_6.length : Int)) = true := decide_eq_true c7
        clear c7
        by_cases c8 : 0 ≤ x10_1
        · rw [if_pos c8] at H
          have c8b0 : decide (0 ≤ x10_1) = true := decide_eq_true c8
          clear c8
          by_cases c9 : x10_1 < (l0_6.length : Int)
          · rw [if_pos c9] at H
            have c9b0 : decide (x10_1 < (l0_6.length : Int)) = true := decide_eq_true c9
            clear c9
            replace H := Option.bind_eq_some_iff.mp H
            obtain ⟨t136, A100, H⟩ := H
            replace H : (if x3_1.length + t136.length < 1954687338268 then (sashref05_All.l0 k1 (x3_1 ++ t136) (l0_6.length : Int) (wrap64 (x10_1 + 1)) a0_0 a0_1 a0_2 a0_3 a0_4 a0_5 l0_6) else (none)) = some r := H
            have A10 := Aside0.mk A100
            clear A100
            by_cases c11 : x3_1.length + t136.length < 1954687338268
            · rw [if_pos c11] at H
              have LMc11 := Aside0.mk c11
              clear c11
              obtain ⟨y139, hy139⟩ : ∃ y_ : List (S26), y_ = (x3_1 ++ t136) := ⟨_, rfl⟩
              replace H : (sashref05_All.l0 k1 y139 (l0_6.length : Int) (wrap64 (x10_1 + 1)) a0_0 a0_1 a0_2 a0_3 a0_4 a0_5 l0_6) = some r := by first | (rw [hy139]; with_reducible exact H) | (have H2_ := (Option.bind_some _ _).symm.trans H; rw [hy139]; with_reducible exact H2_) | (have H2_ := (Option.bind_some _ _).symm.trans H; with_reducible exact H2_) | with_reducible exact H | (rw [hy139]; exact H) | exact H
              have Ny139 := Aside0.mk hy139
              clear hy139
              have H' := Aside0.mk H
              clear H
              have hcz12_0 : wr.cell? ⟨gb131, 0, none⟩ = some (.int .u8 a0_0) := (blk_cell BK131.out 0).trans rfl
              have hcz12_1 : wr.cell? ⟨gb131, 1, none⟩ = some (.int .i64 a0_1) := (blk_cell BK131.out 1).trans rfl
              have hcz12_2 : wr.cell? ⟨gb131, 2, none⟩ = some (.int .i64 a0_2) := (blk_cell BK131.out 2).trans rfl
              have hcz12_3 : wr.cell? ⟨gb131, 3, none⟩ = some (.int .i64 a0_3) := (blk_cell BK131.out 3).trans rfl
              have hcz12_4 : wr.cell? ⟨gb131, 4, none⟩ = some (.int .i64 a0_4) := (blk_cell BK131.out 4).trans rfl
              have hcz12_5 : wr.cell? ⟨gb131, 5, none⟩ = some (.int .i64 a0_5) := (blk_cell BK131.out 5).trans rfl
              have hcz12_6 : wr.cell? ⟨gb131, 6, none⟩ = some (.slice A0_6 l0_6.length c0_6) := (blk_cell BK131.out 6).trans rfl
              have hfz12_0 := blk_frozen BK131.out 0
              have hfz12_1 := blk_frozen BK131.out 1
              have hfz12_2 := blk_frozen BK131.out 2
              have hfz12_3 := blk_frozen BK131.out 3
              have hfz12_4 := blk_frozen BK131.out 4
              have hfz12_5 := blk_frozen BK131.out 5
              have hfz12_6 := blk_frozen BK131.out 6
              have p135 : 0 ≤ (x10_1 : Int) := of_decide_eq_true (by first | (with_reducible assumption) | assumption)
              have q135 : x10_1 < (l0_6.length : Int) := of_decide_eq_true (by first | (with_reducible assumption) | assumption)
              obtain ⟨ad135, A135_6, c135_6, e135, hx135_0, hx135_1, hx135_2, hx135_3, hx135_4, hx135_5, hx135_6, hl135_6, hi135_6⟩ := at_T26 (Kd.V_reads' HO_132006.out).2.2 x10_1 p135 q135
              cases e135
              obtain ⟨ce135, hce135, hMe135, hcc135⟩ := Kd.V_get HO_132006.out z26 x10_1 p135 (by first | exact q135 | exact of_decide_eq_true (by first | (with_reducible assumption) | assumption) | (have e_ := (Kd.V_reads' HO_132006.out).1; omega))
              obtain ⟨ua135_6, uc135_6, rfl, ul135_6, ge135_6⟩ := k26_openF hMe135
              have hv135_6 := hcc135 6 _ rfl
              rw [add_field _ _ 6 (by omega)] at hv135_6
              replace hv135_6 := Option.some.inj (hv135_6.symm.trans hx135_6)
              injection hv135_6 with hva_ hvn_ hvc_
              rw [hva_] at ge135_6
              rw [hvc_] at ul135_6
              have HL135_6 := Aside0.mk (show Kd.V k26 26 _ w.heap.size _ _ ((rd_T26 l0_6 x10_1).f3) from Kd.V_mk ul135_6 ge135_6)
              clear hva_ hvn_ hvc_ ge135_6 ul135_6
              clear hcc135 hce135
              have HR135_6 := Aside0.mk hi135_6
              have HC135_6 := Aside0.mk hl135_6
              clear hi135_6 hl135_6
              replace p135 := eq_true p135
              replace q135 := eq_true q135
              go_wp2_with (first | ((with_reducible refine gate_callee (f := 79) rfl ?_); refine goesL_ (some 19) rfl rfl Try.func79 (by kernel_rfl) rfl #[.agg #[.int .u8 ((rd_T26 l0_6 x10_1).f0), .int .i64 ((rd_T26 l0_6 x10_1).f1.f0), .int .i64 ((rd_T26 l0_6 x10_1).f1.f1), .int .i64 ((rd_T26 l0_6 x10_1).f1.f2), .int .i64 ((rd_T26 l0_6 x10_1).f1.f3), .int .i64 ((rd_T26 l0_6 x10_1).f2), .slice A135_6 ((rd_T26 l0_6 x10_1).f3).length c135_6]] rfl (by (try simp only [List.map_toArray, List.map_cons, List.map_nil]); first | done | rfl | (simp only [List.length_drop, List.length_take]; rfl)) ?_; (with_reducible refine (ih k1 (by have := HK1.out; omega) ((rd_T26 l0_6 x10_1).f0) ((rd_T26 l0_6 x10_1).f1.f0) ((rd_T26 l0_6 x10_1).f1.f1) ((rd_T26 l0_6 x10_1).f1.f2) ((rd_T26 l0_6 x10_1).f1.f3) ((rd_T26 l0_6 x10_1).f2) (fun k_ => ((P0_6_ k_ ∨ w.heap.size ≤ k_) ∧ (some k_ ≠ (u3 : Value).ownBlock ∧ k_ ≠ gb131))) _ _ ((rd_T26 l0_6 x10_1).f3) t136 _ ?side1 A10.out).mono ?_); (case side1 => exact HL135_6.out); rintro e w13 ⟨v137, rfl, ho0, hb⟩; refine ⟨_, rfl, ?_⟩; have n0_ := Aside0.mk (Kd.N_elder' (by (with_reducible repeat (first | apply Kd.N_alloc | apply Kd.N_drewN | apply Kd.N_drew)); exact HO_3.out) (Kd.N_base ho0) hb); have n1_ := Aside0.mk (Kd.V_elder' (by (with_reducible repeat (first | apply Kd.V_alloc | apply Kd.V_drewN | apply Kd.V_drew)); exact HO_132006.out) (Kd.N_base ho0) hb); have n2_ := Aside0.mk (Kd.V_elder' (by (with_reducible repeat (first | apply Kd.V_alloc | apply Kd.V_drewN | apply Kd.V_drew)); exact HL135_6.out) (Kd.N_base ho0) hb); have n3_ := Aside0.mk (Kd.N_lower (Kd.N_mono (ok' := fun k_ => (P0_6_ k_ ∨ w.heap.size ≤ k_) ∧ some k_ ≠ (u3 : Value).ownBlock ∧ k_ ≠ gb131) ho0 (fun k_ hk_ => ⟨Or.elim hk_ (fun hs_ => hs_.1) (fun hn_ => (.inr (Nat.le_trans (below_size (by repeat (first | (with_reducible first | exact HB.out | apply below_alloc | apply pw_below_drewN | apply below_drew1 | refine below_set ?_ GE131.out) | exact HB.out))) hn_))), Or.elim hk_ (fun hs_ => hs_.2.1) (fun hn_ => (Kd.fresh' (Kd.N_lt (by (with_reducible repeat (first | apply Kd.N_alloc | apply Kd.N_drewN | apply Kd.N_drew)); exact HO_3.out)) k_ hn_)), Or.elim hk_ (fun hs_ => hs_.2.2) (fun hn_ => (Kd.freshB (g := gb131) (o := .cells #[.int .u8 a0_0, .int .i64 a0_1, .int .i64 a0_2, .int .i64 a0_3, .int .i64 a0_4, .int .i64 a0_5, .slice (some ad135) l0_6.length c0_6] 26 (0, 0)) (by (with_reducible repeat (first | refine blk_drewN ?_ _ | refine blk_drew ?_ | refine blk_alloc ?_ _)); exact BK131.out) k_ hn_))⟩)) (below_size (by repeat (first | (with_reducible first | exact HB.out | apply below_alloc | apply pw_below_drewN | apply below_drew1 | refine below_set ?_ GE131.out) | exact HB.out)))); have n4_ := Aside0.mk (blk_below (g := gb131) (o := .cells #[.int .u8 a0_0, .int .i64 a0_1, .int .i64 a0_2, .int .i64 a0_3, .int .i64 a0_4, .int .i64 a0_5, .slice (some ad135) l0_6.length c0_6] 26 (0, 0)) (by (with_reducible repeat (first | refine blk_drewN ?_ _ | refine blk_drew ?_ | refine blk_alloc ?_ _)); exact BK131.out) hb); have n5_ := Aside0.mk (Kd.C_below (by repeat (first | (with_reducible exact HR135_6.out) | (with_reducible refine Kd.C_alloc ?_ _) | (with_reducible refine Kd.C_drewN ?_ _) | (with_reducible refine Kd.C_drew ?_) | exact HR135_6.out)) hb); have n6_ := Aside0.mk (below_step (by repeat (first | (with_reducible first | exact HB.out | apply below_alloc | apply pw_below_drewN | apply below_drew1 | refine below_set ?_ GE131.out) | exact HB.out)) hb); clear HO_3; clear HO_132006; clear HL135_6; clear BK131; clear HR135_6; clear HB; have HO_3 := n0_; have HO_132006 := n1_; have HL135_6 := n2_; have HO138 := n3_; have BK131 := n4_; have HR135_6 := n5_; have HB := n6_; clear n0_ n1_ n2_ n3_ n4_ n5_ n6_; (try clear hb); (try clear hb2); (try clear hk); (try clear hi); (try clear ho0); obtain ⟨Ao15, co15, eo15⟩ := Kd.N_slice HO138.out; subst eo15) | ((with_reducible refine gate_builtin (b := .append) (xs := #[.tmp 13, .tmp 19]) rfl ?_); at_builtin; refine Kd.N_append_rows k26 (w0 := w) w.heap.size rfl (.tmp 13) (.tmp 19) 24 26 (.agg #[(.int .u8 0), (.int .i64 0), (.int .i64 0), (.int .i64 0), (.int .i64 0), (.int .i64 0), (.slice none 0 0)]) 72 rfl Try.underlying24 info26 rfl (by decide) (by omega) u3 x3_1 t136 _ _ _ (fun k_ => (P0_6_ k_ ∨ w.heap.size ≤ k_) ∧ k_ ≠ gb131) (fun k_ => ((fun k_ => (P0_6_ k_ ∨ w.heap.size ≤ k_) ∧ k_ ≠ gb131)) k_ ∧ some k_ ≠ (u3 : Value).ownBlock) rfl rfl ?aO ?aR (fun _ hk => hk) ?aF ?aB ?aS ?aL ?_; (case aR => exact (by skip; exact Kd.N_F (Kd.N_mono (ok' := (fun k_ => ((fun k_ => (P0_6_ k_ ∨ w.heap.size ≤ k_) ∧ k_ ≠ gb131)) k_ ∧ some k_ ≠ (u3 : Value).ownBlock)) (HO138.out) (fun k_ hk => ⟨⟨hk.1, hk.2.2⟩, hk.2.1⟩)))); (case aB => exact (by repeat (first | (with_reducible first | exact HB.out | apply below_alloc | apply pw_below_drewN | apply below_drew1 | refine below_set ?_ GE131.out) | exact HB.out))); (case aF => exact (fun k_ hk => ⟨(.inr (Nat.le_trans (below_size (by repeat (first | (with_reducible first | exact HB.out | apply below_alloc | apply pw_below_drewN | apply below_drew1 | refine below_set ?_ GE131.out) | exact HB.out))) hk)), Kd.freshB (g := gb131) (o := .cells #[.int .u8 a0_0, .int .i64 a0_1, .int .i64 a0_2, .int .i64 a0_3, .int .i64 a0_4, .int .i64 a0_5, .slice (some ad135) l0_6.length c0_6] 26 (0, 0)) (by (with_reducible repeat (first | refine blk_drewN ?_ _ | refine blk_drew ?_ | refine blk_alloc ?_ _)); exact BK131.out) k_ hk⟩)); (case aO => exact (by (with_reducible repeat (first | apply Kd.N_alloc | apply Kd.N_drewN | apply Kd.N_drew)); exact Kd.N_mono HO_3.out (fun _ hk => ⟨hk.1.1, hk.1.2⟩))); (case aS => exact (below_size (by repeat (first | (with_reducible first | exact HB.out | apply below_alloc | apply pw_below_drewN | apply below_drew1 | refine below_set ?_ GE131.out) | exact HB.out)))); (case aL => have := LMc11.out; omega); intro v140 w14 ho hb hg hat; rw [← Ny139.out] at ho; have n0_ := Aside0.mk (Kd.V_afterv (ok := (fun k_ => (P0_6_ k_ ∨ w.heap.size ≤ k_) ∧ some k_ ≠ (.slice Ao15 t136.length co15 : Value).ownBlock ∧ k_ ≠ gb131)) (by (with_reducible repeat (first | apply Kd.V_alloc | apply Kd.V_drewN | apply Kd.V_drew)); exact Kd.V_mono HO_132006.out (fun _ hk => ⟨⟨hk.1.1, ⟨hk.2, hk.1.2.2⟩⟩, hk.1.2.1⟩)) hg hat); have n1_ := Aside0.mk (blk_grown (g := gb131) (o := .cells #[.int .u8 a0_0, .int .i64 a0_1, .int .i64 a0_2, .int .i64 a0_3, .int .i64 a0_4, .int .i64 a0_5, .slice (some ad135) l0_6.length c0_6] 26 (0, 0)) (by (with_reducible repeat (first | refine blk_drewN ?_ _ | refine blk_drew ?_ | refine blk_alloc ?_ _)); exact BK131.out) hg (Kd.N_away HO_3.out (fun _ hk => hk.1.2))); have n2_ := Aside0.mk (Kd.V_afterv (ok := (fun k_ => (P0_6_ k_ ∨ w.heap.size ≤ k_) ∧ some k_ ≠ (.slice Ao15 t136.length co15 : Value).ownBlock ∧ k_ ≠ gb131)) (by (with_reducible repeat (first | apply Kd.V_alloc | apply Kd.V_drewN | apply Kd.V_drew)); exact Kd.V_mono HL135_6.out (fun _ hk => ⟨⟨hk.1.1, ⟨hk.2, hk.1.2.2⟩⟩, hk.1.2.1⟩)) hg hat); have n3_ := Aside0.mk (Kd.N_afterv (ok := (fun k_ => (P0_6_ k_ ∨ w.heap.size ≤ k_) ∧ k_ ≠ gb131)) (by (with_reducible repeat (first | apply Kd.N_alloc | apply Kd.N_drewN | apply Kd.N_drew)); exact Kd.N_mono HO138.out (fun _ hk => ⟨⟨hk.1, hk.2.2⟩, hk.2.1⟩)) hg hat); have n4_ := Aside0.mk (hb); have n5_ := Aside0.mk (ho); clear HO_132006; clear BK131; clear HL135_6; clear HO138; clear HB; clear HO_3; have HO_132006 := n0_; have BK131 := n1_; have HL135_6 := n2_; have HO138 := n3_; have HB := n4_; have HO141 := n5_; clear n0_ n1_ n2_ n3_ n4_ n5_; clear ho hb hg hat))
              go_roundg k1
              case measure => have := HK1.out; omega
              case rel => exact ⟨(y139), (wrap64 (x10_1 + 1)), (by first | rfl | (simp; done) | (simp [*]; done)), H', ⟨by have := HK1.out; omega⟩, ⟨by (with_reducible repeat (first | apply Kd.N_alloc | apply Kd.N_drewN | apply Kd.N_drew)); exact HO141.out⟩, ⟨by (with_reducible repeat (first | apply Kd.V_alloc | apply Kd.V_drewN | apply Kd.V_drew)); exact Kd.V_mono HO_132006.out (fun _ hk => ⟨hk.1.1, ⟨hk.2, hk.1.2.2⟩⟩)⟩, ⟨by (with_reducible repeat (first | refine blk_drewN ?_ _ | refine blk_drew ?_ | refine blk_alloc ?_ _)); exact BK131.out⟩, ⟨by repeat (first | (with_reducible first | exact HB.out | apply below_alloc | apply pw_below_drewN | apply below_drew1 | refine below_set ?_ GE131.out) | exact HB.out)⟩⟩
            · rw [if_neg c11] at H
              exact absurd H (by simp)
          · rw [if_neg c9] at H
            exact absurd H (by simp)
        · rw [if_neg c8] at H
          exact absurd H (by simp)
      · rw [if_neg c7] at H
        have c7b0 : decide (x10_1 < (l0_6.length : Int)) = false := decide_eq_false c7
        clear c7
        obtain rfl := Option.some.inj H
        go_wp2
        go_ret
        exact ⟨_, by first | rfl | (simp [errW_none, errW_some] <;> rfl) | (simp [*, errW_none, errW_some] <;> rfl), by (with_reducible repeat (first | apply Kd.N_alloc | apply Kd.N_drewN | apply Kd.N_drew)); exact Kd.N_mono HO_3.out (fun _ hk => hk.1), by repeat (first | (with_reducible first | exact HB.out | apply below_alloc | apply pw_below_drewN | apply below_drew1 | refine below_set ?_ GE131.out) | exact HB.out)⟩

end Go.Proofs.Ytfdmfgaiblfbhaa.P
