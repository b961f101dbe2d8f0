/- FlatStill: part 5 of 7 of this claim's texts, one behind the other. The words of the kit's printer stand in it cut down, by a program, to those that are used. -/
import Derived.Test.YtfdmfgaiblfbhaaMFlatStillc
import Derived.Test.YtfdmfgaiblfbhaaMFlatStilld
import Derived.Deep.QuietTactic
import Derived.BigQuiet
import Derived.WalkSpells
namespace Go.Proofs.Ytfdmfgaiblfbhaa.P
open Go.RowKit Go.Proofs.YtfdmfgaiblfbhaaW.PrintWords Go.Proofs.YtfdmfgaiblfbhaaW.PrintLast Go.Proofs.YtfdmfgaiblfbhaaW.PrintMore
attribute [local go_sem] max2_int min2_int max_two min_two max_three min_three max_four min_four   -- for this text's walks alone
set_option linter.unusedVariables false
set_option linter.unusedSimpArgs false

/-! ### flat_name: function 136 -/
mutual
def flat_name.j0 : Nat → List Int → Int → Int → Int → Int → Int → Int → List (S26) → Option (Int × Int × Int × Int × Int × Int × (List (S26)) × List Int)
  | 0, _, _, _, _, _, _, _, _ => none
  | k + 1, x1, x544000, x544001, x544002, x544003, x544004, x544005, x544006 => (api_Cell_137.f x544006).bind fun t551 => (flat_name.l0 k x1 (t551.length : Int) 0 x544000 x544001 x544002 x544003 x544004 x544005 t551)
def flat_name.l0 : Nat → List Int → Int → Int → Int → Int → Int → Int → Int → Int → List (S26) → Option (Int × Int × Int × Int × Int × Int × (List (S26)) × List Int)
  | 0, _, _, _, _, _, _, _, _, _, _ => none
  | k + 1, x1, x22, x23, x544000, x544001, x544002, x544003, x544004, x544005, x544006 => if x23 < x22 then (if 0 ≤ x23 then (if x23 < (x544006.length : Int) then ((flat_name.f k ((rd_T26 x544006 x23).f0) ((rd_T26 x544006 x23).f1.f0) ((rd_T26 x544006 x23).f1.f1) ((rd_T26 x544006 x23).f1.f2) ((rd_T26 x544006 x23).f1.f3) ((rd_T26 x544006 x23).f2) ((rd_T26 x544006 x23).f3) x1).bind fun bt555 => (flat_name.l0 k bt555.2.2.2.2.2.2.2 x22 (wrap64 (x23 + 1)) x544000 x544001 x544002 x544003 x544004 x544005 (x544006.set (x23 : Int).toNat (⟨bt555.1, (⟨bt555.2.1, bt555.2.2.1, bt555.2.2.2.1, bt555.2.2.2.2.1⟩ : S23), bt555.2.2.2.2.2.1, bt555.2.2.2.2.2.2.1⟩ : S26)))) else (none)) else (none)) else (some (x544000, x544001, x544002, x544003, x544004, x544005, x544006, x1))
def flat_name.f : Nat → Int → Int → Int → Int → Int → Int → List (S26) → List Int → Option (Int × Int × Int × Int × Int × Int × (List (S26)) × List Int)
  | 0, _, _, _, _, _, _, _, _ => none
  | k + 1, a0_0, a0_1, a0_2, a0_3, a0_4, a0_5, l0_6, l1 => if a0_0 = 1 then (if 0 < (l1.length : Int) then (if 1 ≤ (l1.length : Int) then (flat_name.j0 k (l1.drop 1) a0_0 a0_1 a0_2 a0_3 a0_4 (rd l1 0) l0_6) else (none)) else (none)) else (flat_name.j0 k l1 a0_0 a0_1 a0_2 a0_3 a0_4 a0_5 l0_6)
end
theorem flat_name.mono_l : ∀ k, (∀ y0 y1 y2 y3 y4 y5 y6 y7, LeO (flat_name.f k y0 y1 y2 y3 y4 y5 y6 y7) (flat_name.f (k + 1) y0 y1 y2 y3 y4 y5 y6 y7)) ∧ (∀ y0 y1 y2 y3 y4 y5 y6 y7, LeO (flat_name.j0 k y0 y1 y2 y3 y4 y5 y6 y7) (flat_name.j0 (k + 1) y0 y1 y2 y3 y4 y5 y6 y7)) ∧ (∀ y0 y1 y2 y3 y4 y5 y6 y7 y8 y9, LeO (flat_name.l0 k y0 y1 y2 y3 y4 y5 y6 y7 y8 y9) (flat_name.l0 (k + 1) y0 y1 y2 y3 y4 y5 y6 y7 y8 y9))
  | 0 => ⟨fun _ _ _ _ _ _ _ _ r h => by simp [flat_name.f] at h, fun _ _ _ _ _ _ _ _ r h => by simp [flat_name.j0] at h, fun _ _ _ _ _ _ _ _ _ _ r h => by simp [flat_name.l0] at h⟩
  | k + 1 => by
    obtain ⟨ih0, ih1, ih2⟩ := flat_name.mono_l k
    refine ⟨?_, ?_, ?_⟩
    · intro y0 y1 y2 y3 y4 y5 y6 y7
      unfold flat_name.f
      repeat' first
      | (with_reducible exact ih0 _ _ _ _ _ _ _ _)
      | (with_reducible exact ih1 _ _ _ _ _ _ _ _)
      | (with_reducible exact ih2 _ _ _ _ _ _ _ _ _ _)
      | (with_reducible exact LeO.refl _)
      | (with_reducible exact LeO.none _)
      | (with_reducible refine LeO.ite ?_ ?_)
      | (with_reducible refine LeO.bind ?_ (fun _ => ?_))
      | exact ih0 _ _ _ _ _ _ _ _
      | exact ih1 _ _ _ _ _ _ _ _
      | exact ih2 _ _ _ _ _ _ _ _ _ _
      | exact LeO.none _
      | refine LeO.ite ?_ ?_
      | refine LeO.bind ?_ (fun _ => ?_)
    · intro y0 y1 y2 y3 y4 y5 y6 y7
      unfold flat_name.j0
      repeat' first
      | (with_reducible exact ih0 _ _ _ _ _ _ _ _)
      | (with_reducible exact ih1 _ _ _ _ _ _ _ _)
      | (with_reducible exact ih2 _ _ _ _ _ _ _ _ _ _)
      | (with_reducible exact LeO.refl _)
      | (with_reducible exact LeO.none _)
      | (with_reducible refine LeO.ite ?_ ?_)
      | (with_reducible refine LeO.bind ?_ (fun _ => ?_))
      | exact ih0 _ _ _ _ _ _ _ _
      | exact ih1 _ _ _ _ _ _ _ _
      | exact ih2 _ _ _ _ _ _ _ _ _ _
      | exact LeO.none _
      | refine LeO.ite ?_ ?_
      | refine LeO.bind ?_ (fun _ => ?_)
    · intro y0 y1 y2 y3 y4 y5 y6 y7 y8 y9
      unfold flat_name.l0
      repeat' first
      | (with_reducible exact ih0 _ _ _ _ _ _ _ _)
      | (with_reducible exact ih1 _ _ _ _ _ _ _ _)
      | (with_reducible exact ih2 _ _ _ _ _ _ _ _ _ _)
      | (with_reducible exact LeO.refl _)
      | (with_reducible exact LeO.none _)
      | (with_reducible refine LeO.ite ?_ ?_)
      | (with_reducible refine LeO.bind ?_ (fun _ => ?_))
      | exact ih0 _ _ _ _ _ _ _ _
      | exact ih1 _ _ _ _ _ _ _ _
      | exact ih2 _ _ _ _ _ _ _ _ _ _
      | exact LeO.none _
      | refine LeO.ite ?_ ?_
      | refine LeO.bind ?_ (fun _ => ?_)
theorem flat_name.mono : ∀ a0 a1 a2 a3 a4 a5 a6 a7 k, LeO (flat_name.f k a0 a1 a2 a3 a4 a5 a6 a7) (flat_name.f (k + 1) a0 a1 a2 a3 a4 a5 a6 a7) := by
  intro a0 a1 a2 a3 a4 a5 a6 a7 k
  obtain ⟨ih0, ih1, ih2⟩ := flat_name.mono_l k
  exact ih0 a0 a1 a2 a3 a4 a5 a6 a7
def flat_name.T2 : Bool × List (List Nat × List Nat) := (true, [([], []), ([0], [0]), ([1], [1]), ([], []), ([3], [3]), ([0, 1, 2], []), ([5, 2, 0, 1, 2], [2, 5]), ([4, 6, 0, 1, 2, 3, 4, 5, 6], [0, 3, 4])])
def flat_name.B2 : List Nat := [0, 1, 3, 0, 8, 7, 39, 127]
theorem flat_name.tab2 : rtab .any (opsOf Try.f136 2) = flat_name.T2 := by kernel_rfl
theorem flat_name.bits2 : waitsOk flat_name.T2.2 flat_name.B2 = true := by kernel_rfl
def flat_name.T7 : Bool × List (List Nat × List Nat) := (true, [([], []), ([0], [0]), ([], []), ([], []), ([3], [3]), ([], []), ([4, 5], [4, 5]), ([6], [6]), ([], []), ([7, 8], [7, 8]), ([9], [9]), ([10], [10]), ([10], [10]), ([1, 2, 0, 1, 2, 3, 4, 5, 6, 7, 8, 9, 10, 11], [1, 2]), ([13, 11, 9, 0, 1, 2, 3, 4, 5, 6, 7, 8, 9, 10, 11], [11, 13]), ([12, 14, 0, 1, 2, 3, 4, 5, 6, 7, 8, 9, 10, 11, 12, 13, 14], [8, 12])])
def flat_name.B7 : List Nat := [0, 1, 0, 0, 8, 0, 56, 120, 0, 504, 1016, 2040, 2040, 4095, 12287, 32767]
theorem flat_name.tab7 : rtab .any (opsOf Try.f136 7) = flat_name.T7 := by kernel_rfl
theorem flat_name.bits7 : waitsOk flat_name.T7.2 flat_name.B7 = true := by kernel_rfl
set_option maxHeartbeats 8000000 in
set_option maxRecDepth 100000 in
theorem flat_name.calls (k : Nat) : ∀ (a0_0 : Int) (a0_1 : Int) (a0_2 : Int) (a0_3 : Int) (a0_4 : Int) (a0_5 : Int) (P0_6_ : Nat → Prop) (A0_6 : Option Addr) (c0_6 : Nat) (l0_6 : List (S26)) (P1_ : Nat → Prop) (A1 : Option Addr) (c1 : Nat) (l1 : List Int) (r1 : Int) (r2 : Int) (r3 : Int) (r4 : Int) (r5 : Int) (r6 : Int) (r7 : List (S26)) (r8 : List Int) (w : World) (hs0_6 : Kd.V k26 26 w w.heap.size (fun k_ => P0_6_ k_) (.slice A0_6 l0_6.length c0_6) l0_6) (hs1 : Kd.V (Kd.int .i64) 3 w w.heap.size (fun k_ => P1_ k_) (.slice A1 l1.length c1) l1) (h : flat_name.f k a0_0 a0_1 a0_2 a0_3 a0_4 a0_5 l0_6 l1 = some (r1, r2, r3, r4, r5, r6, r7, r8)),
    Calls Try.prog 136 #[.agg #[.int .u8 a0_0, .int .i64 a0_1, .int .i64 a0_2, .int .i64 a0_3, .int .i64 a0_4, .int .i64 a0_5, .slice A0_6 l0_6.length c0_6], .slice A1 l1.length c1] w fun e w' => ∃ v6_ v7_ : Value, e = .returned (.tuple #[.agg #[.int .u8 r1, .int .i64 r2, .int .i64 r3, .int .i64 r4, .int .i64 r5, .int .i64 r6, v6_], v7_]) ∧ Kd.N k26 26 w' w.heap.size (fun k_ => ((P0_6_ k_ ∨ P1_ k_) ∨ w.heap.size ≤ k_)) v6_ r7 ∧ Kd.V (Kd.int .i64) 3 w' w.heap.size (fun k_ => ((P0_6_ k_ ∨ P1_ k_) ∨ w.heap.size ≤ k_) ∧ some k_ ≠ (v6_ : Value).ownBlock) v7_ r8 ∧ Below w.heap.size w w' := by
  induction k using Nat.strongRecOn with
  | _ k ih =>
  intro a0_0 a0_1 a0_2 a0_3 a0_4 a0_5 P0_6_ A0_6 c0_6 l0_6 P1_ A1 c1 l1 r1 r2 r3 r4 r5 r6 r7 r8 w hs0_6 hs1 h
  cases k with
  | zero => exact absurd h (by simp [flat_name.f])
  | succ k =>
  simp only [flat_name.f] at h
  have hu26 := Try.underlying26
  have HO0_6 := Aside0.mk (show Kd.V k26 26 w w.heap.size (fun k_ => ((P0_6_ k_ ∨ P1_ k_) ∨ w.heap.size ≤ k_)) (.slice A0_6 l0_6.length c0_6) l0_6 from Kd.V_mono hs0_6 (fun k_ hk => .inl (.inl hk)))
  have HO1 := Aside0.mk (show Kd.V (Kd.int .i64) 3 w w.heap.size (fun k_ => ((P0_6_ k_ ∨ P1_ k_) ∨ w.heap.size ≤ k_)) (.slice A1 l1.length c1) l1 from Kd.V_mono hs1 (fun k_ hk => .inl (.inr hk)))
  have HB := Aside0.mk (Below.refl w.heap.size w)
  have H : (if a0_0 = 1 then (if 0 < (l1.length : Int) then (if 1 ≤ (l1.length : Int) then (flat_name.j0 k (l1.drop 1) a0_0 a0_1 a0_2 a0_3 a0_4 (rd l1 0) l0_6) else (none)) else (none)) else (flat_name.j0 k l1 a0_0 a0_1 a0_2 a0_3 a0_4 a0_5 l0_6)) = some (r1, r2, r3, r4, r5, r6, r7, r8) := h
  clear h
  have HC3 := Aside0.mk H
  clear H
  go_enter Try.func136, Try.ntmps136
  go_upto_if 9 with (first | ((with_reducible refine gate_dst (N := 2) rfl ?_); refine box_event ?hg (N := 2) ?hd (cs := #[.int .u8 a0_0, .int .i64 a0_1, .int .i64 a0_2, .int .i64 a0_3, .int .i64 a0_4, .int .i64 a0_5, .slice A0_6 l0_6.length c0_6]) (t := 26) ?hr ?_; (case hd => rfl); (case hg => rfl); (case hr => first | (go_simp; done) | (go_simp; rfl)); intro gb543 hg w4 hbox hb; have n0_ := Aside0.mk (Kd.V_below (Kd.V_elderB (by (with_reducible repeat (first | apply Kd.V_alloc | apply Kd.V_drewN | apply Kd.V_drew)); exact HO0_6.out) gb543 (Nat.le_of_eq hg.symm)) hb); have n1_ := Aside0.mk (Kd.V_below (Kd.V_elderB (by (with_reducible repeat (first | apply Kd.V_alloc | apply Kd.V_drewN | apply Kd.V_drew)); exact HO1.out) gb543 (Nat.le_of_eq hg.symm)) hb); have n2_ := Aside0.mk (below_step (by repeat (first | (with_reducible first | exact HB.out | apply below_alloc | apply pw_below_drewN | apply below_drew1) | exact HB.out)) hb); have n3_ := Aside0.mk (hbox); have n4_ := Aside0.mk ((by rw [hg]; exact (below_size (by repeat (first | (with_reducible first | exact HB.out | apply below_alloc | apply pw_below_drewN | apply below_drew1) | exact HB.out))) : w.heap.size ≤ gb543)); have n5_ := Aside0.mk ((by rw [hg]; exact (below_size (by repeat (first | (with_reducible first | exact HB.out | apply below_alloc | apply pw_below_drewN | apply below_drew1) | exact HB.out))) : w.heap.size ≤ gb543)); clear HO0_6; clear HO1; clear HB; have HO0_6 := n0_; have HO1 := n1_; have HB := n2_; have BK543 := n3_; have GW543 := n4_; have GE543 := n5_; clear n0_ n1_ n2_ n3_ n4_ n5_; clear hb hbox hg) | ((with_reducible refine gate_dst (N := 4) rfl ?_); refine box_event ?hg (N := 4) ?hd (cs := #[.int .u8 0, .int .i64 0, .int .i64 0, .int .i64 0, .int .i64 0, .int .i64 0, .slice none 0 0]) (t := 26) ?hr ?_; (case hd => rfl); (case hg => rfl); (case hr => first | (go_simp; done) | (go_simp; rfl)); intro gb544 hg w5 hbox hb; have n0_ := Aside0.mk (Kd.V_below (Kd.V_elderB (by (with_reducible repeat (first | apply Kd.V_alloc | apply Kd.V_drewN | apply Kd.V_drew)); exact HO0_6.out) gb544 (Nat.le_of_eq hg.symm)) hb); have n1_ := Aside0.mk (Kd.V_below (Kd.V_elderB (by (with_reducible repeat (first | apply Kd.V_alloc | apply Kd.V_drewN | apply Kd.V_drew)); exact HO1.out) gb544 (Nat.le_of_eq hg.symm)) hb); have n2_ := Aside0.mk (blk_below (g := gb543) (o := .cells #[.int .u8 a0_0, .int .i64 a0_1, .int .i64 a0_2, .int .i64 a0_3, .int .i64 a0_4, .int .i64 a0_5, .slice A0_6 l0_6.length c0_6] 26 (0, 0)) (by (with_reducible repeat (first | refine blk_drewN ?_ _ | refine blk_drew ?_ | refine blk_alloc ?_ _)); exact BK543.out) hb); have n3_ := Aside0.mk (below_step (by repeat (first | (with_reducible first | exact HB.out | apply below_alloc | apply pw_below_drewN | apply below_drew1 | refine below_set ?_ GE543.out) | exact HB.out)) hb); have n4_ := Aside0.mk (hbox); have n5_ := Aside0.mk ((by rw [hg]; exact (below_size (by repeat (first | (with_reducible first | exact HB.out | apply below_alloc | apply pw_below_drewN | apply below_drew1 | refine below_set ?_ GE543.out) | exact HB.out))) : w.heap.size ≤ gb544)); have n6_ := Aside0.mk ((by rw [hg]; exact (below_size (by repeat (first | (with_reducible first | exact HB.out | apply below_alloc | apply pw_below_drewN | apply below_drew1 | refine below_set ?_ GE543.out) | exact HB.out))) : w.heap.size ≤ gb544)); have n7_ := Aside0.mk ((by rw [hg]; exact Nat.ne_of_lt (blk_lt (g := gb543) (o := .cells #[.int .u8 a0_0, .int .i64 a0_1, .int .i64 a0_2, .int .i64 a0_3, .int .i64 a0_4, .int .i64 a0_5, .slice A0_6 l0_6.length c0_6] 26 (0, 0)) (by (with_reducible repeat (first | refine blk_drewN ?_ _ | refine blk_drew ?_ | refine blk_alloc ?_ _)); exact BK543.out)) : gb543 ≠ gb544)); have n8_ := Aside0.mk ((by rw [hg]; exact Nat.ne_of_gt (blk_lt (g := gb543) (o := .cells #[.int .u8 a0_0, .int .i64 a0_1, .int .i64 a0_2, .int .i64 a0_3, .int .i64 a0_4, .int .i64 a0_5, .slice A0_6 l0_6.length c0_6] 26 (0, 0)) (by (with_reducible repeat (first | refine blk_drewN ?_ _ | refine blk_drew ?_ | refine blk_alloc ?_ _)); exact BK543.out)) : gb544 ≠ gb543)); clear HO0_6; clear HO1; clear BK543; clear HB; have HO0_6 := n0_; have HO1 := n1_; have BK543 := n2_; have HB := n3_; have BK544 := n4_; have GW544 := n5_; have GE544 := n6_; have NB543_544 := n7_; have NB544_543 := n8_; clear n0_ n1_ n2_ n3_ n4_ n5_ n6_ n7_ n8_; clear hb hbox hg; have hnb6 := NB543_544.out; have hnc6 := NB544_543.out; have hcz7_0 : w5.cell? ⟨gb543, 0, none⟩ = some (.int .u8 a0_0) := (blk_cell BK543.out 0).trans rfl; have hcz7_1 : w5.cell? ⟨gb543, 1, none⟩ = some (.int .i64 a0_1) := (blk_cell BK543.out 1).trans rfl; have hcz7_2 : w5.cell? ⟨gb543, 2, none⟩ = some (.int .i64 a0_2) := (blk_cell BK543.out 2).trans rfl; have hcz7_3 : w5.cell? ⟨gb543, 3, none⟩ = some (.int .i64 a0_3) := (blk_cell BK543.out 3).trans rfl; have hcz7_4 : w5.cell? ⟨gb543, 4, none⟩ = some (.int .i64 a0_4) := (blk_cell BK543.out 4).trans rfl; have hcz7_5 : w5.cell? ⟨gb543, 5, none⟩ = some (.int .i64 a0_5) := (blk_cell BK543.out 5).trans rfl; have hcz7_6 : w5.cell? ⟨gb543, 6, none⟩ = some (.slice A0_6 l0_6.length c0_6) := (blk_cell BK543.out 6).trans rfl; have hfz7_0 := blk_frozen BK543.out 0; have hfz7_1 := blk_frozen BK543.out 1; have hfz7_2 := blk_frozen BK543.out 2; have hfz7_3 := blk_frozen BK543.out 3; have hfz7_4 := blk_frozen BK543.out 4; have hfz7_5 := blk_frozen BK543.out 5; have hfz7_6 := blk_frozen BK543.out 6))
  (try simp only [Act.put, List.setIfInBounds_toArray, List.set_cons_zero, List.set_cons_succ])
  go_cut [1] (fun v1 wc => ∃ (kq : Nat) (x1_2 : List Int) (x544005_2 : Int), Aside0 (flat_name.j0 kq x1_2 a0_0 a0_1 a0_2 a0_3 a0_4 x544005_2 l0_6 = some (r1, r2, r3, r4, r5, r6, r7, r8)) ∧ Aside0 (kq ≤ k) ∧ Aside0 (Kd.V (Kd.int .i64) 3 wc w.heap.size (fun k_ => ((P0_6_ k_ ∨ P1_ k_) ∨ w.heap.size ≤ k_) ∧ k_ ≠ gb543 ∧ k_ ≠ gb544) v1 x1_2) ∧ Aside0 (Kd.V k26 26 wc w.heap.size (fun k_ => ((P0_6_ k_ ∨ P1_ k_) ∨ w.heap.size ≤ k_) ∧ k_ ≠ gb543 ∧ k_ ≠ gb544) (.slice A0_6 l0_6.length c0_6) l0_6) ∧ Aside0 (wc.heap[gb543]? = some (.cells #[.int .u8 a0_0, .int .i64 a0_1, .int .i64 a0_2, .int .i64 a0_3, .int .i64 a0_4, .int .i64 x544005_2, (.slice A0_6 l0_6.length c0_6)] 26 (0, 0))) ∧ Aside0 (wc.heap[gb544]? = some (.cells #[.int .u8 0, .int .i64 0, .int .i64 0, .int .i64 0, .int .i64 0, .int .i64 0, (.slice none 0 0)] 26 (0, 0))) ∧ Aside0 (Below w.heap.size w wc))
  case first =>
    have H := HC3.out
    clear HC3
    by_cases c8 : a0_0 = 1
    · rw [if_pos c8] at H
      have c8b0 : (a0_0 == 1) = true := beq_iff_eq.mpr c8
      have c8b1 : (a0_0 != 1) = false := bne_eq_false_iff_eq.mpr c8
      clear c8
      (first | rw [c8b0] | (simp only [i64_w, i32_w]; rw [c8b0]) | skip)
      by_cases c9 : 0 < (l1.length : Int)
      · rw [if_pos c9] at H
        have c9b0 : decide (0 < (l1.length : Int)) = true := decide_eq_true c9
        have c9b1 : decide (0 < l1.length) = true := decide_eq_true (by omega)
        clear c9
        by_cases c10 : 1 ≤ (l1.length : Int)
        · rw [if_pos c10] at H
          have c10b0 := eq_true c10
          have c10b1 : decide (1 ≤ (l1.length : Int)) = true := decide_eq_true c10
          clear c10
          obtain ⟨y546, hy546⟩ : ∃ y_ : List Int, y_ = (l1.drop 1) := ⟨_, rfl⟩
          replace H : (flat_name.j0 k y546 a0_0 a0_1 a0_2 a0_3 a0_4 (rd l1 0) l0_6) = some (r1, r2, r3, r4, r5, r6, r7, r8) := by first | (rw [hy546]; with_reducible exact H) | (have H2_ := (Option.bind_some _ _).symm.trans H; rw [hy546]; with_reducible exact H2_) | (have H2_ := (Option.bind_some _ _).symm.trans H; with_reducible exact H2_) | with_reducible exact H | (rw [hy546]; exact H) | exact H
          have Ny546 := Aside0.mk hy546
          clear hy546
          have H' := Aside0.mk H
          clear H
          try go_wp2
          have n0_ := Aside0.mk (Kd.V_drew HO0_6.out)
          have n1_ := Aside0.mk (Kd.V_drew HO1.out)
          have n2_ := Aside0.mk (blk_drew BK543.out)
          have n3_ := Aside0.mk (blk_drew BK544.out)
          have n4_ := Aside0.mk (below_drew1 HB.out)
          clear HO0_6
          clear HO1
          clear BK543
          clear BK544
          clear HB
          have HO0_6 := n0_
          have HO1 := n1_
          have BK543 := n2_
          have BK544 := n3_
          have HB := n4_
          clear n0_ n1_ n2_ n3_ n4_
          have p545 : 0 ≤ (0 : Int) := (by omega)
          have q545 : 0 < (l1.length : Int) := of_decide_eq_true (by first | (with_reducible assumption) | assumption)
          obtain ⟨ad545, e545, hx545_0⟩ := Kd.at_int (Kd.V_reads' HO1.out).2.2 0 p545 q545
          cases e545
          have qi545 : (0 < l1.length) = True := eq_true (by omega)
          (try rw [show ((0 : Int)).toNat = 0 from rfl] at hx545_0)
          (try rw [Addr.add_zero'] at hx545_0)
          replace p545 := eq_true p545
          replace q545 := eq_true q545
          have q12 : (1 : Int) ≤ ((l1.length : Int) : Int) := of_decide_eq_true (by first | (with_reducible assumption) | assumption)
          obtain ⟨i012, hi012, _, hsz12, _⟩ := info_parts info3
          have hroom12 : l1.length ≤ c1 := (Kd.V_reads' HO1.out).2.1
          have hC12 : Kd.F (Kd.int .i64) _ _ (some ad545) l1.length l1 := (Kd.V_at (base := w.heap.size) HO1.out).2.2
          have hcut12 := cut_from (P := Try.prog) 41 3 .i64 Try.underlying41 hi012 1 hsz12 (some ad545) l1.length c1 1 (by omega) q12
          have hr12 := Kd.F_cut (m := (1 : Int).toNat) (c := c1) hC12 (by omega) hroom12
          obtain ⟨A12, hA12⟩ : ∃ A1, A1 = (if c1 = (1 : Int).toNat then (some ad545) else ((some ad545) : Option Addr).map (·.add ((1 : Int).toNat * 1))) := ⟨_, rfl⟩
          obtain ⟨c12, hc12⟩ : ∃ q1_, q1_ = c1 - (1 : Int).toNat := ⟨_, rfl⟩
          have hy12 : y546.length = l1.length - (1 : Int).toNat := (by rw [Ny546.out, List.length_drop] <;> omega)
          rw [show (l1).drop (1 : Int).toNat = y546 from Ny546.out.symm] at hr12
          replace hr12 : Kd.F (Kd.int .i64) _ _ A12 y546.length y546 := (by rw [hA12]; exact hr12)
          rw [← hy12, ← hA12, ← hc12] at hcut12
          have HO550 := Aside0.mk (show Kd.V (Kd.int .i64) 3 _ w.heap.size _ (.slice A12 y546.length c12) y546 from Kd.V_mk (by rw [hy12, hc12]; exact Nat.sub_le_sub_right hroom12 _) hr12)
          have HC550 := Aside0.mk (show y546.length ≤ c12 from by rw [hy12, hc12]; exact Nat.sub_le_sub_right hroom12 _)
          clear hr12 hC12 hroom12 hi012 hsz12 hc12
          have KY12 := Aside0.mk hy12
          have KA12 := Aside0.mk hA12
          clear hy12 hA12
          replace q12 := eq_true q12
          refine start_ (n := 8) (S := fun w' => w'.cell? ad545 = some (.int .i64 (rd l1 0))) (ds := []) #[false, false, false, false, false, false, false, false] (by kernel_rfl) rfl rfl (hx545_0) (fun hHeld => ?_); refine with_tabW flat_name.tab2 flat_name.bits2 (fun HT_ HW_ => ?_)
          generalize w5.drew = w11 at HO0_6 HO1 BK543 BK544 HB HO550 hx545_0 hHeld ⊢
          refine pure_ (i := 0) (N := some 10) (v := ?_) (a' := ?_) #[true, false, false, false, false, false, false, false] rfl rfl (any_of HT_.out (by kernel_rfl)) (fun _ _ _ h => h) (Or.inl ⟨by rfl, ?_⟩) ?_ ?_
          rotate_left
          · intro w'
            go_simp
            with_reducible rfl
          rotate_left
          · simp only [Act.put, List.setIfInBounds_toArray, List.set_cons_zero, List.set_cons_succ, i64_w, i32_w]
            rfl
          refine pure_ (i := 1) (N := some 11) (v := ?_) (a' := ?_) #[true, true, false, false, false, false, false, false] rfl rfl (any_of HT_.out (by kernel_rfl)) (fun _ _ _ h => h) (Or.inl ⟨by rfl, ?_⟩) ?_ ?_
          rotate_left
          · intro w'
            go_simp
            with_reducible rfl
          rotate_left
          · simp only [Act.put, List.setIfInBounds_toArray, List.set_cons_zero, List.set_cons_succ, i64_w, i32_w]
            rfl
          refine pure_ (i := 3) (N := some 13) (v := ?_) (a' := ?_) #[true, true, false, true, false, false, false, false] rfl rfl (any_of HT_.out (by kernel_rfl)) (fun _ _ _ h => h) (Or.inl ⟨by rfl, ?_⟩) ?_ ?_
          rotate_left
          · intro w'
            go_simp
            with_reducible rfl
          rotate_left
          · simp only [Act.put, List.setIfInBounds_toArray, List.set_cons_zero, List.set_cons_succ, i64_w, i32_w]
            rfl
          refine pure_ (i := 4) (N := some 14) (v := ?_) (a' := ?_) #[true, true, false, true, true, false, false, false] rfl rfl (any_of HT_.out (by kernel_rfl)) (fun _ _ _ h => h) (Or.inl ⟨by rfl, ?_⟩) ?_ ?_
          rotate_left
          · intro w'
            go_simp
            with_reducible rfl
          rotate_left
          · simp only [Act.put, List.setIfInBounds_toArray, List.set_cons_zero, List.set_cons_succ, i64_w, i32_w]
            rfl
          refine take_ (i := 2) (N := some 12) (v := ?_) (a' := ?_) #[true, true, true, true, true, false, false, false] rfl rfl (take_ofW HT_.out HW_.out (by kernel_rfl)) (fun _ _ _ h => h) (Or.inl ⟨by rfl, ?_⟩) hHeld ?_ ?_
          rotate_left
          · intro w' s0
            go_simp
            with_reducible rfl
          rotate_left
          · simp only [Act.put, List.setIfInBounds_toArray, List.set_cons_zero, List.set_cons_succ, i64_w, i32_w]
            rfl
          refine pure_ (i := 5) (N := some 15) (v := ?_) (a' := ?_) #[true, true, true, true, true, true, false, false] rfl rfl (any_of HT_.out (by kernel_rfl)) (fun _ _ _ h => h) (Or.inl ⟨by rfl, ?_⟩) ?_ ?_
          rotate_left
          · intro w'
            go_simp
            with_reducible rfl
          rotate_left
          · simp only [Act.put, List.setIfInBounds_toArray, List.set_cons_zero, List.set_cons_succ, i64_w, i32_w]
            rfl
          refine one_ (i := 6) (N := none) #[true, true, true, true, true, true, true, false] rfl rfl (one_of HT_.out (by kernel_rfl)) (by decide) (fun K hK => ?_)
          have hs13 : w11.cell? ⟨gb543, 5, none⟩ = some (.int .i64 a0_5) := (blk_cell BK543.out 5).trans rfl
          have hfs13 := blk_frozen BK543.out 5
          have hns13_1 := NB544_543.out
          have hms13_1 := NB543_544.out
          refine skip_ (w1 := ?_) (by rfl) rfl ?_ ?_
          rotate_left
          · go_simp
            rfl
          refine hK.out _ _ (((cell_far (p := ⟨gb543, _, none⟩) (by first | exact Kd.own_blk (V_away1 HO1.out Nat.one_pos (Int.ofNat_lt.1 (of_decide_eq_true c9b0)) (fun _ hk => hk.1.2)) | (rw [add_block]; exact Kd.own_blk (V_away1 HO1.out Nat.one_pos (Int.ofNat_lt.1 (of_decide_eq_true c9b0)) (fun _ hk => hk.1.2))) | (show (Addr.add _ _).block ≠ _; rw [add_block]; exact Kd.own_blk (V_away1 HO1.out Nat.one_pos (Int.ofNat_lt.1 (of_decide_eq_true c9b0)) (fun _ hk => hk.1.2))) | (dsimp only; exact Kd.own_blk (V_away1 HO1.out Nat.one_pos (Int.ofNat_lt.1 (of_decide_eq_true c9b0)) (fun _ hk => hk.1.2)))) _).trans (hHeld))) (fun hHeld => ?_)
          clear hK K
          refine pure_ (i := 7) (N := some 1) (v := ?_) (a' := ?_) #[true, true, true, true, true, true, true, true] rfl rfl (any_of HT_.out (by kernel_rfl)) (fun _ _ _ h => h) (Or.inl ⟨by rfl, ?_⟩) ?_ ?_
          rotate_left
          · intro w'
            go_simp
            with_reducible rfl
          rotate_left
          · simp only [Act.put, List.setIfInBounds_toArray, List.set_cons_zero, List.set_cons_succ, i64_w, i32_w]
            rfl
          refine done_ (done_of HT_.out (by kernel_rfl)) ?_
          try go_wp2
          go_meet
          case rel => exact ⟨_, (y546), (rd l1 0), H', ⟨by first | omega | exact Nat.le_refl _⟩, ⟨by (with_reducible repeat (first | apply Kd.V_alloc | apply Kd.V_drewN | apply Kd.V_drew)); exact Kd.V_mono (Kd.V_far (p := ⟨gb543, 5, none⟩) (Kd.V_mono HO550.out (fun k_ hk => (⟨hk, hk.1.2⟩ : _ ∧ k_ ≠ gb543))) (fun _ hk => hk.2) (.int .i64 (rd l1 0))) (fun _ hk => ⟨hk.1.1.1, ⟨hk.1.1.2, hk.1.2⟩⟩)⟩, ⟨by (with_reducible repeat (first | apply Kd.V_alloc | apply Kd.V_drewN | apply Kd.V_drew)); exact Kd.V_mono (Kd.V_far (p := ⟨gb543, 5, none⟩) (Kd.V_mono HO0_6.out (fun k_ hk => (⟨hk, hk.1.2⟩ : _ ∧ k_ ≠ gb543))) (fun _ hk => hk.2) (.int .i64 (rd l1 0))) (fun _ hk => ⟨hk.1.1.1, ⟨hk.1.1.2, hk.1.2⟩⟩)⟩, ⟨by (with_reducible repeat (first | refine blk_drewN ?_ _ | refine blk_drew ?_ | refine blk_alloc ?_ _)); refine blk_put (cs := #[.int .u8 a0_0, .int .i64 a0_1, .int .i64 a0_2, .int .i64 a0_3, .int .i64 a0_4, .int .i64 a0_5, .slice A0_6 l0_6.length c0_6]) ?_ 5 _ rfl; (with_reducible repeat (first | refine blk_drewN ?_ _ | refine blk_drew ?_ | refine blk_alloc ?_ _)); exact BK543.out⟩, ⟨by (with_reducible repeat (first | refine blk_drewN ?_ _ | refine blk_drew ?_ | refine blk_alloc ?_ _)); refine blk_far ?_ NB544_543.out _; (with_reducible repeat (first | refine blk_drewN ?_ _ | refine blk_drew ?_ | refine blk_alloc ?_ _)); exact BK544.out⟩, ⟨by repeat (first | (with_reducible first | exact HB.out | apply below_alloc | apply pw_below_drewN | apply below_drew1 | refine below_set ?_ GE543.out | refine below_set ?_ GE544.out) | exact HB.out)⟩⟩
        · rw [if_neg c10] at H
          exact absurd H (by simp)
      · rw [if_neg c9] at H
        exact absurd H (by simp)
    · rw [if_neg c8] at H
      have c8b0 : (a0_0 == 1) = false := beq_eq_false_iff_ne.mpr c8
      have c8b1 : (a0_0 != 1) = true := bne_iff_ne.mpr c8
      (first | rw [c8b0] | (simp only [i64_w, i32_w]; rw [c8b0]) | skip)
      have H' := Aside0.mk H
      clear H
      go_wp2
      go_meet
      case rel => exact ⟨_, (l1), (a0_5), H', ⟨by first | omega | exact Nat.le_refl _⟩, ⟨by (with_reducible repeat (first | apply Kd.V_alloc | apply Kd.V_drewN | apply Kd.V_drew)); exact Kd.V_mono HO1.out (fun _ hk => ⟨hk.1.1, ⟨hk.1.2, hk.2⟩⟩)⟩, ⟨by (with_reducible repeat (first | apply Kd.V_alloc | apply Kd.V_drewN | apply Kd.V_drew)); exact Kd.V_mono HO0_6.out (fun _ hk => ⟨hk.1.1, ⟨hk.1.2, hk.2⟩⟩)⟩, ⟨by (with_reducible repeat (first | refine blk_drewN ?_ _ | refine blk_drew ?_ | refine blk_alloc ?_ _)); exact BK543.out⟩, ⟨by (with_reducible repeat (first | refine blk_drewN ?_ _ | refine blk_drew ?_ | refine blk_alloc ?_ _)); exact BK544.out⟩, ⟨by repeat (first | (with_reducible first | exact HB.out | apply below_alloc | apply pw_below_drewN | apply below_drew1 | refine below_set ?_ GE543.out | refine below_set ?_ GE544.out) | exact HB.out)⟩⟩
  case rest =>
    clear HC3
    try clear c1
    try clear q1
    try clear p2
    try clear p5
    try clear q5
    try clear hx5
    try clear qi5
    try clear c6
    try clear c8
    try clear c8b0
    try clear c8b1
    try clear c9
    try clear c9b0
    try clear c9b1
    try clear c10
    try clear c10b0
    try clear c10b1
    try clear c12
    try clear q12
    try clear c13
    try clear hcz7_0
    try clear hcz7_1
    try clear hcz7_2
    try clear hcz7_3
    try clear hcz7_4
    try clear hcz7_5
    try clear hcz7_6
    try clear hfz7_0
    try clear hfz7_1
    try clear hfz7_2
    try clear hfz7_3
    try clear hfz7_4
    try clear hfz7_5
    try clear hfz7_6
    try clear hx545_0
    try clear p545
    try clear q12
    try clear q545
    obtain ⟨kq, x1_2, x544005_2, HA, HJ2, HO_1, HO_544006, BK543, BK544, HB⟩ := hcut
    cases kq with
    | zero => exact absurd HA.out (by simp [flat_name.j0])
    | succ kj2 =>
      have H := HA.out
      clear HA
      simp only [flat_name.j0] at H
      replace H := Option.bind_eq_some_iff.mp H
      obtain ⟨t551, A140, H⟩ := H
      replace H : (flat_name.l0 kj2 x1_2 (t551.length : Int) 0 a0_0 a0_1 a0_2 a0_3 a0_4 x544005_2 t551) = some (r1, r2, r3, r4, r5, r6, r7, r8) := H
      have A14 := Aside0.mk A140
      clear A140
      have H' := Aside0.mk H
      clear H
      have hnb15 := NB543_544.out
      have hnc15 := NB544_543.out
      have hcz16_0 : wc.cell? ⟨gb543, 0, none⟩ = some (.int .u8 a0_0) := (blk_cell BK543.out 0).trans rfl
      have hcz16_1 : wc.cell? ⟨gb543, 1, none⟩ = some (.int .i64 a0_1) := (blk_cell BK543.out 1).trans rfl
      have hcz16_2 : wc.cell? ⟨gb543, 2, none⟩ = some (.int .i64 a0_2) := (blk_cell BK543.out 2).trans rfl
      have hcz16_3 : wc.cell? ⟨gb543, 3, none⟩ = some (.int .i64 a0_3) := (blk_cell BK543.out 3).trans rfl
      have hcz16_4 : wc.cell? ⟨gb543, 4, none⟩ = some (.int .i64 a0_4) := (blk_cell BK543.out 4).trans rfl
      have hcz16_5 : wc.cell? ⟨gb543, 5, none⟩ = some (.int .i64 x544005_2) := (blk_cell BK543.out 5).trans rfl
      have hcz16_6 : wc.cell? ⟨gb543, 6, none⟩ = some (.slice A0_6 l0_6.length c0_6) := (blk_cell BK543.out 6).trans rfl
      have hfz16_0 := blk_frozen BK543.out 0
      have hfz16_1 := blk_frozen BK543.out 1
      have hfz16_2 := blk_frozen BK543.out 2
      have hfz16_3 := blk_frozen BK543.out 3
      have hfz16_4 := blk_frozen BK543.out 4
      have hfz16_5 := blk_frozen BK543.out 5
      have hfz16_6 := blk_frozen BK543.out 6
      go_wp2_with (first | ((with_reducible refine gate_callee (f := 137) rfl ?_); refine goesL_ (some 18) rfl rfl Try.func137 (by kernel_rfl) rfl #[.slice A0_6 l0_6.length c0_6] rfl (by (try simp only [List.map_toArray, List.map_cons, List.map_nil]); first | done | rfl | (simp only [List.length_drop, List.length_take]; rfl)) ?_; (with_reducible refine (api_Cell_137.calls (fun k_ => (((P0_6_ k_ ∨ P1_ k_) ∨ w.heap.size ≤ k_) ∧ (k_ ≠ gb543 ∧ k_ ≠ gb544))) _ _ l0_6 t551 _ ?side1 A14.out).mono ?_); (case side1 => exact HO_544006.out); rintro e w17 ⟨v552, rfl, ho0, hb⟩; refine ⟨_, rfl, ?_⟩; have n0_ := Aside0.mk (Kd.V_elder' (by (with_reducible repeat (first | apply Kd.V_alloc | apply Kd.V_drewN | apply Kd.V_drew)); exact HO_1.out) (Kd.N_base ho0) hb); have n1_ := Aside0.mk (Kd.V_elder' (by (with_reducible repeat (first | apply Kd.V_alloc | apply Kd.V_drewN | apply Kd.V_drew)); exact HO_544006.out) (Kd.N_base ho0) hb); have n2_ := Aside0.mk (Kd.N_lower (Kd.N_mono (ok' := fun k_ => ((P0_6_ k_ ∨ P1_ k_) ∨ w.heap.size ≤ k_) ∧ k_ ≠ gb543 ∧ k_ ≠ gb544) ho0 (fun k_ hk_ => ⟨Or.elim hk_ (fun hs_ => hs_.1) (fun hn_ => (.inr (Nat.le_trans (below_size (by repeat (first | (with_reducible first | exact HB.out | apply below_alloc | apply pw_below_drewN | apply below_drew1 | refine below_set ?_ GE543.out | refine below_set ?_ GE544.out) | exact HB.out))) hn_))), Or.elim hk_ (fun hs_ => hs_.2.1) (fun hn_ => (Kd.freshB (g := gb543) (o := .cells #[.int .u8 a0_0, .int .i64 a0_1, .int .i64 a0_2, .int .i64 a0_3, .int .i64 a0_4, .int .i64 x544005_2, .slice A0_6 l0_6.length c0_6] 26 (0, 0)) (by (with_reducible repeat (first | refine blk_drewN ?_ _ | refine blk_drew ?_ | refine blk_alloc ?_ _)); exact BK543.out) k_ hn_)), Or.elim hk_ (fun hs_ => hs_.2.2) (fun hn_ => (Kd.freshB (g := gb544) (o := .cells #[.int .u8 0, .int .i64 0, .int .i64 0, .int .i64 0, .int .i64 0, .int .i64 0, .slice none 0 0] 26 (0, 0)) (by (with_reducible repeat (first | refine blk_drewN ?_ _ | refine blk_drew ?_ | refine blk_alloc ?_ _)); exact BK544.out) k_ hn_))⟩)) (below_size (by repeat (first | (with_reducible first | exact HB.out | apply below_alloc | apply pw_below_drewN | apply below_drew1 | refine below_set ?_ GE543.out | refine below_set ?_ GE544.out) | exact HB.out)))); have n3_ := Aside0.mk (blk_below (g := gb543) (o := .cells #[.int .u8 a0_0, .int .i64 a0_1, .int .i64 a0_2, .int .i64 a0_3, .int .i64 a0_4, .int .i64 x544005_2, .slice A0_6 l0_6.length c0_6] 26 (0, 0)) (by (with_reducible repeat (first | refine blk_drewN ?_ _ | refine blk_drew ?_ | refine blk_alloc ?_ _)); exact BK543.out) hb); have n4_ := Aside0.mk (blk_below (g := gb544) (o := .cells #[.int .u8 0, .int .i64 0, .int .i64 0, .int .i64 0, .int .i64 0, .int .i64 0, .slice none 0 0] 26 (0, 0)) (by (with_reducible repeat (first | refine blk_drewN ?_ _ | refine blk_drew ?_ | refine blk_alloc ?_ _)); exact BK544.out) hb); have n5_ := Aside0.mk (below_step (by repeat (first | (with_reducible first | exact HB.out | apply below_alloc | apply pw_below_drewN | apply below_drew1 | refine below_set ?_ GE543.out | refine below_set ?_ GE544.out) | exact HB.out)) hb); clear HO_1; clear HO_544006; clear BK543; clear BK544; clear HB; have HO_1 := n0_; have HO_544006 := n1_; have HO553 := n2_; have BK543 := n3_; have BK544 := n4_; have HB := n5_; clear n0_ n1_ n2_ n3_ n4_ n5_; (try clear hb); (try clear hb2); (try clear hk); (try clear hi); (try clear ho0); obtain ⟨Ao18, co18, eo18⟩ := Kd.N_slice HO553.out; subst eo18; have hcz19_0 : w17.cell? ⟨gb543, 0, none⟩ = some (.int .u8 a0_0) := (blk_cell BK543.out 0).trans rfl; have hcz19_1 : w17.cell? ⟨gb543, 1, none⟩ = some (.int .i64 a0_1) := (blk_cell BK543.out 1).trans rfl; have hcz19_2 : w17.cell? ⟨gb543, 2, none⟩ = some (.int .i64 a0_2) := (blk_cell BK543.out 2).trans rfl; have hcz19_3 : w17.cell? ⟨gb543, 3, none⟩ = some (.int .i64 a0_3) := (blk_cell BK543.out 3).trans rfl; have hcz19_4 : w17.cell? ⟨gb543, 4, none⟩ = some (.int .i64 a0_4) := (blk_cell BK543.out 4).trans rfl; have hcz19_5 : w17.cell? ⟨gb543, 5, none⟩ = some (.int .i64 x544005_2) := (blk_cell BK543.out 5).trans rfl; have hcz19_6 : w17.cell? ⟨gb543, 6, none⟩ = some (.slice A0_6 l0_6.length c0_6) := (blk_cell BK543.out 6).trans rfl; have hfz19_0 := blk_frozen BK543.out 0; have hfz19_1 := blk_frozen BK543.out 1; have hfz19_2 := blk_frozen BK543.out 2; have hfz19_3 := blk_frozen BK543.out 3; have hfz19_4 := blk_frozen BK543.out 4; have hfz19_5 := blk_frozen BK543.out 5; have hfz19_6 := blk_frozen BK543.out 6))
      go_loopg [1, 23] kj2 (fun kq v1 v23 w' => ∃ (x1_2 : List Int) (x23_2 : Int) (x544000_2 : Int) (x544001_2 : Int) (x544002_2 : Int) (x544003_2 : Int) (x544004_2 : Int) (x544005_2 : Int) (x544006_2 : List (S26)) (x545000_2 : Int) (x545001_2 : Int) (x545002_2 : Int) (x545003_2 : Int) (x545004_2 : Int) (x545005_2 : Int) (u544006 : Value), v23 = .int .i64 x23_2 ∧ Aside0 (flat_name.l0 kq x1_2 (t551.length : Int) x23_2 x544000_2 x544001_2 x544002_2 x544003_2 x544004_2 x544005_2 x544006_2 = some (r1, r2, r3, r4, r5, r6, r7, r8)) ∧ Aside0 (kq ≤ kj2) ∧ Aside0 (Kd.V (Kd.int .i64) 3 w' w.heap.size (fun k_ => ((P0_6_ k_ ∨ P1_ k_) ∨ w.heap.size ≤ k_) ∧ some k_ ≠ (u544006 : Value).ownBlock ∧ k_ ≠ gb543 ∧ k_ ≠ gb544) v1 x1_2) ∧ Aside0 (Kd.N k26 26 w' w.heap.size (fun k_ => ((P0_6_ k_ ∨ P1_ k_) ∨ w.heap.size ≤ k_) ∧ k_ ≠ gb543 ∧ k_ ≠ gb544) u544006 x544006_2) ∧ Aside0 (w'.heap[gb543]? = some (.cells #[.int .u8 x544000_2, .int .i64 x544001_2, .int .i64 x544002_2, .int .i64 x544003_2, .int .i64 x544004_2, .int .i64 x544005_2, u544006] 26 (0, 0))) ∧ Aside0 (w'.heap[gb544]? = some (.cells #[.int .u8 x545000_2, .int .i64 x545001_2, .int .i64 x545002_2, .int .i64 x545003_2, .int .i64 x545004_2, .int .i64 x545005_2, (.slice none 0 0)] 26 (0, 0))) ∧ Aside0 (Below w.heap.size w w'))
      case atStart => exact ⟨(x1_2), (0), (a0_0), (a0_1), (a0_2), (a0_3), (a0_4), (x544005_2), (t551), (0), (0), (0), (0), (0), (0), (.slice Ao18 t551.length co18), (by first | rfl | (simp; done) | (simp [*]; done)), H', ⟨Nat.le_refl _⟩, ⟨by (with_reducible repeat (first | apply Kd.V_alloc | apply Kd.V_drewN | apply Kd.V_drew)); exact Kd.V_mono (Kd.V_far (p := ⟨gb543, 6, none⟩) (Kd.V_mono HO_1.out (fun k_ hk => (⟨hk, hk.1.2.1⟩ : _ ∧ k_ ≠ gb543))) (fun _ hk => hk.2) (.slice Ao18 t551.length co18)) (fun _ hk => ⟨hk.1.1.1, ⟨hk.1.2, ⟨hk.1.1.2.1, hk.1.1.2.2⟩⟩⟩)⟩, ⟨by (with_reducible repeat (first | apply Kd.N_alloc | apply Kd.N_drewN | apply Kd.N_drew)); exact Kd.N_mono (Kd.N_far (p := ⟨gb543, 6, none⟩) (Kd.N_mono HO553.out (fun k_ hk => (⟨hk, hk.2.1⟩ : _ ∧ k_ ≠ gb543))) (fun _ hk => hk.2) (.slice Ao18 t551.length co18)) (fun _ hk => ⟨hk.1.1, ⟨hk.1.2.1, hk.1.2.2⟩⟩)⟩, ⟨by (with_reducible repeat (first | refine blk_drewN ?_ _ | refine blk_drew ?_ | refine blk_alloc ?_ _)); refine blk_put (cs := #[.int .u8 a0_0, .int .i64 a0_1, .int .i64 a0_2, .int .i64 a0_3, .int .i64 a0_4, .int .i64 x544005_2, .slice A0_6 l0_6.length c0_6]) ?_ 6 _ rfl; (with_reducible repeat (first | refine blk_drewN ?_ _ | refine blk_drew ?_ | refine blk_alloc ?_ _)); exact BK543.out⟩, ⟨by (with_reducible repeat (first | refine blk_drewN ?_ _ | refine blk_drew ?_ | refine blk_alloc ?_ _)); refine blk_far ?_ NB544_543.out _; (with_reducible repeat (first | refine blk_drewN ?_ _ | refine blk_drew ?_ | refine blk_alloc ?_ _)); exact BK544.out⟩, ⟨by repeat (first | (with_reducible first | exact HB.out | apply below_alloc | apply pw_below_drewN | apply below_drew1 | refine below_set ?_ GE543.out | refine below_set ?_ GE544.out) | exact HB.out)⟩⟩
      case round =>
        clear H'
        try clear c1
        try clear q1
        try clear p2
        try clear p5
        try clear q5
        try clear hx5
        try clear qi5
        try clear c6
        try clear c8
        try clear c8b0
        try clear c8b1
        try clear c9
        try clear c9b0
        try clear c9b1
        try clear c10
        try clear c10b0
        try clear c10b1
        try clear c12
        try clear q12
        try clear c13
        try clear c15
        try clear hcz16_0
        try clear hcz16_1
        try clear hcz16_2
        try clear hcz16_3
        try clear hcz16_4
        try clear hcz16_5
        try clear hcz16_6
        try clear hcz19_0
        try clear hcz19_1
        try clear hcz19_2
        try clear hcz19_3
        try clear hcz19_4
        try clear hcz19_5
        try clear hcz19_6
        try clear hcz7_0
        try clear hcz7_1
        try clear hcz7_2
        try clear hcz7_3
        try clear hcz7_4
        try clear hcz7_5
        try clear hcz7_6
        try clear hfz16_0
        try clear hfz16_1
        try clear hfz16_2
        try clear hfz16_3
        try clear hfz16_4
        try clear hfz16_5
        try clear hfz16_6
        try clear hfz19_0
        try clear hfz19_1
        try clear hfz19_2
        try clear hfz19_3
        try clear hfz19_4
        try clear hfz19_5
        try clear hfz19_6
        try clear hfz7_0
        try clear hfz7_1
        try clear hfz7_2
        try clear hfz7_3
        try clear hfz7_4
        try clear hfz7_5
        try clear hfz7_6
        try clear hx545_0
        try clear p2
        try clear p5
        try clear p545
        try clear q1
        try clear q12
        try clear q5
        try clear q545
        obtain ⟨x1_2, x23_2, x544000_2, x544001_2, x544002_2, x544003_2, x544004_2, x544005_2, x544006_2, x545000_2, x545001_2, x545002_2, x545003_2, x545004_2, x545005_2, u544006, rfl, HA, HK2, HO_1, HO_544006, BK543, BK544, HB⟩ := hrel
        cases gk with
        | zero => exact absurd HA.out (by simp [flat_name.l0])
        | succ k2 =>
          have H := HA.out
          clear HA
          simp only [flat_name.l0] at H
          by_cases c20 : x23_2 < (t551.length : Int)
          · rw [if_pos c20] at H
            have c20b0 : decide (x23_2 < (t551.length : Int)) = true := decide_eq_true c20
            clear c20
            by_cases c21 : 0 ≤ x23_2
            · rw [if_pos c21] at H
              have c21b0 : decide (0 ≤ x23_2) = true := decide_eq_true c21
              clear c21
              by_cases c22 : x23_2 < (x544006_2.length : Int)
              · rw [if_pos c22] at H
                have c22b0 : decide (x23_2 < (x544006_2.length : Int)) = true := decide_eq_true c22
                clear c22
                replace H := Option.bind_eq_some_iff.mp H
                obtain ⟨⟨t555, t556, t557, t558, t559, t560, t561, t564⟩, A230, H⟩ := H
                replace H : (flat_name.l0 k2 t564 (t551.length : Int) (wrap64 (x23_2 + 1)) x544000_2 x544001_2 x544002_2 x544003_2 x544004_2 x544005_2 (x544006_2.set (x23_2 : Int).toNat (⟨t555, (⟨t556, t557, t558, t559⟩ : S23), t560, t561⟩ : S26))) = some (r1, r2, r3, r4, r5, r6, r7, r8) := H
                have A23 := Aside0.mk A230
                clear A230
                obtain ⟨y567, hy567⟩ : ∃ y_ : List (S26), y_ = (x544006_2.set (x23_2 : Int).toNat (⟨t555, (⟨t556, t557, t558, t559⟩ : S23), t560, t561⟩ : S26)) := ⟨_, rfl⟩
                replace H : (flat_name.l0 k2 t564 (t551.length : Int) (wrap64 (x23_2 + 1)) x544000_2 x544001_2 x544002_2 x544003_2 x544004_2 x544005_2 y567) = some (r1, r2, r3, r4, r5, r6, r7, r8) := by first | (rw [hy567]; with_reducible exact H) | (have H2_ := (Option.bind_some _ _).symm.trans H; rw [hy567]; with_reducible exact H2_) | (have H2_ := (Option.bind_some _ _).symm.trans H; with_reducible exact H2_) | with_reducible exact H | (rw [hy567]; exact H) | exact H
                have Ny567 := Aside0.mk hy567
                clear hy567
                have H' := Aside0.mk H
                clear H
                try go_wp2
                have n0_ := Aside0.mk (Kd.V_drew HO_1.out)
                have n1_ := Aside0.mk (Kd.N_drew HO_544006.out)
                have n2_ := Aside0.mk (blk_drew BK543.out)
                have n3_ := Aside0.mk (blk_drew BK544.out)
                have n4_ := Aside0.mk (below_drew1 HB.out)
                clear HO_1
                clear HO_544006
                clear BK543
                clear BK544
                clear HB
                have HO_1 := n0_
                have HO_544006 := n1_
                have BK543 := n2_
                have BK544 := n3_
                have HB := n4_
                clear n0_ n1_ n2_ n3_ n4_
                obtain ⟨Ao26, co26, eo26⟩ := Kd.N_slice HO_544006.out
                (first | subst eo26 | (injection eo26 with f1_ f2_ f3_; have f4_ := f1_.symm; have f5_ := f3_.symm; clear f1_ f2_ f3_; subst f4_; subst f5_))
                have p554 : 0 ≤ (x23_2 : Int) := of_decide_eq_true (by first | (with_reducible assumption) | assumption)
                have q554 : x23_2 < (x544006_2.length : Int) := of_decide_eq_true (by first | (with_reducible assumption) | assumption)
                obtain ⟨ad554, A554_6, c554_6, e554, hx554_0, hx554_1, hx554_2, hx554_3, hx554_4, hx554_5, hx554_6, hl554_6, hi554_6⟩ := at_T26 (Kd.N_reads' HO_544006.out).2.2 x23_2 p554 q554
                cases e554
                obtain ⟨ce554, hce554, hMe554, hcc554⟩ := Kd.N_get HO_544006.out z26 x23_2 p554 (by first | exact q554 | exact of_decide_eq_true (by first | (with_reducible assumption) | assumption) | (have e_ := (Kd.N_reads' HO_544006.out).1; omega))
                obtain ⟨ua554_6, uc554_6, rfl, ul554_6, ge554_6⟩ := k26_openF hMe554
                have hv554_6 := hcc554 6 _ rfl
                rw [add_field _ _ 6 (by omega)] at hv554_6
                replace hv554_6 := Option.some.inj (hv554_6.symm.trans hx554_6)
                injection hv554_6 with hva_ hvn_ hvc_
                rw [hva_] at ge554_6
                rw [hvc_] at ul554_6
                have HL554_6 := Aside0.mk (show Kd.V k26 26 _ w.heap.size _ _ ((rd_T26 x544006_2 x23_2).f3) from Kd.V_mk ul554_6 ge554_6)
                clear hva_ hvn_ hvc_ ge554_6 ul554_6
                clear hcc554 hce554
                have HR554_6 := Aside0.mk hi554_6
                have HC554_6 := Aside0.mk hl554_6
                clear hi554_6 hl554_6
                replace p554 := eq_true p554
                replace q554 := eq_true q554
                obtain ⟨Ao27, co27, eo27⟩ := Kd.V_slice HO_1.out
                (first | subst eo27 | (injection eo27 with f1_ f2_ f3_; have f4_ := f1_.symm; have f5_ := f3_.symm; clear f1_ f2_ f3_; subst f4_; subst f5_))
                refine start_ (n := 16) (S := fun w' => w'.cell? ⟨gb543, 0, none⟩ = some (.int .u8 x544000_2) ∧ w'.cell? ⟨gb543, 1, none⟩ = some (.int .i64 x544001_2) ∧ w'.cell? ⟨gb543, 2, none⟩ = some (.int .i64 x544002_2) ∧ w'.cell? ⟨gb543, 3, none⟩ = some (.int .i64 x544003_2) ∧ w'.cell? ⟨gb543, 4, none⟩ = some (.int .i64 x544004_2) ∧ w'.cell? ⟨gb543, 5, none⟩ = some (.int .i64 x544005_2) ∧ w'.cell? ⟨gb543, 6, none⟩ = some (.slice (some ad554) x544006_2.length co26) ∧ w'.cell? (ad554.add ((x23_2).toNat * 7)) = some (.int .u8 ((rd_T26 x544006_2 x23_2).f0)) ∧ w'.cell? ⟨(ad554.add ((x23_2).toNat * 7)).block, (ad554.add ((x23_2).toNat * 7)).off + 1, none⟩ = some (.int .i64 ((rd_T26 x544006_2 x23_2).f1.f0)) ∧ w'.cell? ⟨(ad554.add ((x23_2).toNat * 7)).block, (ad554.add ((x23_2).toNat * 7)).off + 2, none⟩ = some (.int .i64 ((rd_T26 x544006_2 x23_2).f1.f1)) ∧ w'.cell? ⟨(ad554.add ((x23_2).toNat * 7)).block, (ad554.add ((x23_2).toNat * 7)).off + 3, none⟩ = some (.int .i64 ((rd_T26 x544006_2 x23_2).f1.f2)) ∧ w'.cell? ⟨(ad554.add ((x23_2).toNat * 7)).block, (ad554.add ((x23_2).toNat * 7)).off + 4, none⟩ = some (.int .i64 ((rd_T26 x544006_2 x23_2).f1.f3)) ∧ w'.cell? ⟨(ad554.add ((x23_2).toNat * 7)).block, (ad554.add ((x23_2).toNat * 7)).off + 5, none⟩ = some (.int .i64 ((rd_T26 x544006_2 x23_2).f2)) ∧ w'.cell? ⟨(ad554.add ((x23_2).toNat * 7)).block, (ad554.add ((x23_2).toNat * 7)).off + 6, none⟩ = some (.slice A554_6 ((rd_T26 x544006_2 x23_2).f3).length c554_6)) (ds := [14]) #[false, false, false, false, false, false, false, false, false, false, false, false, false, false, false, false] (by kernel_rfl) rfl rfl ⟨(blk_cell BK543.out 0).trans rfl, (blk_cell BK543.out 1).trans rfl, (blk_cell BK543.out 2).trans rfl, (blk_cell BK543.out 3).trans rfl, (blk_cell BK543.out 4).trans rfl, (blk_cell BK543.out 5).trans rfl, (blk_cell BK543.out 6).trans rfl, hx554_0, hx554_1, hx554_2, hx554_3, hx554_4, hx554_5, hx554_6⟩ (fun hHeld => ?_); refine with_tabW flat_name.tab7 flat_name.bits7 (fun HT_ HW_ => ?_)
                generalize wr.drew = w25 at HO_1 HO_544006 BK543 BK544 HB HL554_6 HR554_6 hx554_0 hx554_1 hx554_2 hx554_3 hx554_4 hx554_5 hx554_6 hHeld ⊢
                refine pure_ (i := 0) (N := some 27) (v := ?_) (a' := ?_) #[true, false, false, false, false, false, false, false, false, false, false, false, false, false, false, false] rfl rfl (any_of HT_.out (by kernel_rfl)) (fun _ _ _ h => h) (Or.inl ⟨by rfl, ?_⟩) ?_ ?_
                rotate_left
                · intro w'
                  go_simp
                  with_reducible rfl
                rotate_left
                · simp only [Act.put, List.setIfInBounds_toArray, List.set_cons_zero, List.set_cons_succ, i64_w, i32_w]
                  rfl
                refine pure_ (i := 2) (N := some 29) (v := ?_) (a' := ?_) #[true, false, true, false, false, false, false, false, false, false, false, false, false, false, false, false] rfl rfl (any_of HT_.out (by kernel_rfl)) (fun _ _ _ h => h) (Or.inl ⟨by rfl, ?_⟩) ?_ ?_
                rotate_left
                · intro w'
                  go_simp
                  with_reducible rfl
                rotate_left
                · simp only [Act.put, List.setIfInBounds_toArray, List.set_cons_zero, List.set_cons_succ, i64_w, i32_w]
                  rfl
                refine pure_ (i := 3) (N := some 30) (v := ?_) (a' := ?_) #[true, false, true, true, false, false, false, false, false, false, false, false, false, false, false, false] rfl rfl (any_of HT_.out (by kernel_rfl)) (fun _ _ _ h => h) (Or.inl ⟨by rfl, ?_⟩) ?_ ?_
                rotate_left
                · intro w'
                  go_simp
                  with_reducible rfl
                rotate_left
                · simp only [Act.put, List.setIfInBounds_toArray, List.set_cons_zero, List.set_cons_succ, i64_w, i32_w]
                  rfl
                refine pure_ (i := 5) (N := some 32) (v := ?_) (a' := ?_) #[true, false, true, true, false, true, false, false, false, false, false, false, false, false, false, false] rfl rfl (any_of HT_.out (by kernel_rfl)) (fun _ _ _ h => h) (Or.inl ⟨by rfl, ?_⟩) ?_ ?_
                rotate_left
                · intro w'
                  go_simp
                  with_reducible rfl
                rotate_left
                · simp only [Act.put, List.setIfInBounds_toArray, List.set_cons_zero, List.set_cons_succ, i64_w, i32_w]
                  rfl
                refine pure_ (i := 8) (N := some 35) (v := ?_) (a' := ?_) #[true, false, true, true, false, true, false, false, true, false, false, false, false, false, false, false] rfl rfl (any_of HT_.out (by kernel_rfl)) (fun _ _ _ h => h) (Or.inl ⟨by rfl, ?_⟩) ?_ ?_
                rotate_left
                · intro w'
                  go_simp
                  with_reducible rfl
                rotate_left
                · simp only [Act.put, List.setIfInBounds_toArray, List.set_cons_zero, List.set_cons_succ, i64_w, i32_w]
                  rfl
                refine take_ (i := 1) (N := some 28) (v := ?_) (a' := ?_) #[true, true, true, true, false, true, false, false, true, false, false, false, false, false, false, false] rfl rfl (take_ofW HT_.out HW_.out (by kernel_rfl)) (fun _ _ _ h => h) (Or.inl ⟨by rfl, ?_⟩) hHeld ?_ ?_
                rotate_left
                · rintro w' ⟨s0, s1, s2, s3, s4, s5, s6, s7, s8, s9, s10, s11, s12, s13⟩
                  go_simp
                  with_reducible rfl
                rotate_left
                · simp only [Act.put, List.setIfInBounds_toArray, List.set_cons_zero, List.set_cons_succ, i64_w, i32_w]
                  rfl
                refine take_ (i := 4) (N := some 31) (v := ?_) (a' := ?_) #[true, true, true, true, true, true, false, false, true, false, false, false, false, false, false, false] rfl rfl (take_ofW HT_.out HW_.out (by kernel_rfl)) (fun _ _ _ h => h) (Or.inl ⟨by rfl, ?_⟩) hHeld ?_ ?_
                rotate_left
                · rintro w' ⟨s0, s1, s2, s3, s4, s5, s6, s7, s8, s9, s10, s11, s12, s13⟩
                  go_simp
                  with_reducible rfl
                rotate_left
                · simp only [Act.put, List.setIfInBounds_toArray, List.set_cons_zero, List.set_cons_succ, i64_w, i32_w]
                  rfl
                refine pure_ (i := 6) (N := some 33) (v := ?_) (a' := ?_) #[true, true, true, true, true, true, true, false, true, false, false, false, false, false, false, false] rfl rfl (any_of HT_.out (by kernel_rfl)) (fun _ _ _ h => h) (Or.inl ⟨by rfl, ?_⟩) ?_ ?_
                rotate_left
                · intro w'
                  go_simp
                  with_reducible rfl
                rotate_left
                · simp only [Act.put, List.setIfInBounds_toArray, List.set_cons_zero, List.set_cons_succ, i64_w, i32_w]
                  rfl
                refine take_ (i := 7) (N := some 34) (v := ?_) (a' := ?_) #[true, true, true, true, true, true, true, true, true, false, false, false, false, false, false, false] rfl rfl (take_ofW HT_.out HW_.out (by kernel_rfl)) (fun _ _ _ h => h) (Or.inl ⟨by rfl, ?_⟩) hHeld ?_ ?_
                rotate_left
                · rintro w' ⟨s0, s1, s2, s3, s4, s5, s6, s7, s8, s9, s10, s11, s12, s13⟩
                  go_simp
                  with_reducible rfl
                rotate_left
                · simp only [Act.put, List.setIfInBounds_toArray, List.set_cons_zero, List.set_cons_succ, i64_w, i32_w]
                  rfl
                refine one_ (i := 9) (N := some 36) #[true, true, true, true, true, true, true, true, true, true, false, false, false, false, false, false] rfl rfl (one_of HT_.out (by kernel_rfl)) (by decide) (fun K hK => ?_)
                refine goes_ Try.func136 (by kernel_rfl) rfl #[.agg #[.int .u8 ((rd_T26 x544006_2 x23_2).f0), .int .i64 ((rd_T26 x544006_2 x23_2).f1.f0), .int .i64 ((rd_T26 x544006_2 x23_2).f1.f1), .int .i64 ((rd_T26 x544006_2 x23_2).f1.f2), .int .i64 ((rd_T26 x544006_2 x23_2).f1.f3), .int .i64 ((rd_T26 x544006_2 x23_2).f2), .slice A554_6 ((rd_T26 x544006_2 x23_2).f3).length c554_6], .slice Ao27 x1_2.length co27] (by rfl) rfl rfl (by (try simp only [List.map_toArray, List.map_cons, List.map_nil]); first | done | rfl | (simp only [List.length_drop, List.length_take]; rfl)) ?_
                with_reducible refine (ih k2 (by have := HJ2.out; have := HK2.out; omega) ((rd_T26 x544006_2 x23_2).f0) ((rd_T26 x544006_2 x23_2).f1.f0) ((rd_T26 x544006_2 x23_2).f1.f1) ((rd_T26 x544006_2 x23_2).f1.f2) ((rd_T26 x544006_2 x23_2).f1.f3) ((rd_T26 x544006_2 x23_2).f2) (fun k_ => ((((P0_6_ k_ ∨ P1_ k_) ∨ w.heap.size ≤ k_) ∧ (k_ ≠ gb543 ∧ k_ ≠ gb544)) ∧ some k_ ≠ (.slice (some ad554) x544006_2.length co26 : Value).ownBlock)) _ _ ((rd_T26 x544006_2 x23_2).f3) (fun k_ => (((P0_6_ k_ ∨ P1_ k_) ∨ w.heap.size ≤ k_) ∧ (some k_ ≠ (.slice (some ad554) x544006_2.length co26 : Value).ownBlock ∧ (k_ ≠ gb543 ∧ k_ ≠ gb544)))) _ _ x1_2 t555 t556 t557 t558 t559 t560 t561 t564 _ ?side1 ?side2 A23.out).mono ?_
                (case side1 => exact HL554_6.out)
                (case side2 => exact HO_1.out)
                rintro e w28 ⟨v562, v565, rfl, ho0, ho1, hb⟩
                have HS7_ := (hb.cell (World.block_lt_of_cell? _ _ (hHeld.2.2.2.2.2.2.2.1))).trans (hHeld.2.2.2.2.2.2.2.1)
                have HS8_ := (hb.cell (World.block_lt_of_cell? _ _ (hHeld.2.2.2.2.2.2.2.2.1))).trans (hHeld.2.2.2.2.2.2.2.2.1)
                have HS9_ := (hb.cell (World.block_lt_of_cell? _ _ (hHeld.2.2.2.2.2.2.2.2.2.1))).trans (hHeld.2.2.2.2.2.2.2.2.2.1)
                have HS10_ := (hb.cell (World.block_lt_of_cell? _ _ (hHeld.2.2.2.2.2.2.2.2.2.2.1))).trans (hHeld.2.2.2.2.2.2.2.2.2.2.1)
                have HS11_ := (hb.cell (World.block_lt_of_cell? _ _ (hHeld.2.2.2.2.2.2.2.2.2.2.2.1))).trans (hHeld.2.2.2.2.2.2.2.2.2.2.2.1)
                have HS12_ := (hb.cell (World.block_lt_of_cell? _ _ (hHeld.2.2.2.2.2.2.2.2.2.2.2.2.1))).trans (hHeld.2.2.2.2.2.2.2.2.2.2.2.2.1)
                have HS13_ := (hb.cell (World.block_lt_of_cell? _ _ (hHeld.2.2.2.2.2.2.2.2.2.2.2.2.2))).trans (hHeld.2.2.2.2.2.2.2.2.2.2.2.2.2)
                refine ⟨_, rfl, ?_⟩
                have n0_ := Aside0.mk (Kd.V_elder' (by (with_reducible repeat (first | apply Kd.V_alloc | apply Kd.V_drewN | apply Kd.V_drew)); exact HO_1.out) (Kd.N_base ho0) hb)
                have n1_ := Aside0.mk (Kd.N_elder' (by (with_reducible repeat (first | apply Kd.N_alloc | apply Kd.N_drewN | apply Kd.N_drew)); exact HO_544006.out) (Kd.N_base ho0) hb)
                have n2_ := Aside0.mk (Kd.V_elder' (by (with_reducible repeat (first | apply Kd.V_alloc | apply Kd.V_drewN | apply Kd.V_drew)); exact HL554_6.out) (Kd.N_base ho0) hb)
                have n3_ := Aside0.mk (Kd.N_lower (Kd.N_mono (ok' := fun k_ => ((P0_6_ k_ ∨ P1_ k_) ∨ w.heap.size ≤ k_) ∧ some k_ ≠ (.slice (some ad554) x544006_2.length co26 : Value).ownBlock ∧ k_ ≠ gb543 ∧ k_ ≠ gb544) ho0 (fun k_ hk_ => ⟨Or.elim hk_ (fun hs_ => Or.elim hs_ (fun hs_ => hs_.1.1) (fun hs_ => hs_.1)) (fun hn_ => (.inr (Nat.le_trans (below_size (by repeat (first | (with_reducible first | exact HB.out | apply below_alloc | apply pw_below_drewN | apply below_drew1 | refine below_set ?_ GE543.out | refine below_set ?_ GE544.out) | exact HB.out))) hn_))), Or.elim hk_ (fun hs_ => Or.elim hs_ (fun hs_ => hs_.2) (fun hs_ => hs_.2.1)) (fun hn_ => (Kd.fresh' (Kd.N_lt (by (with_reducible repeat (first | apply Kd.N_alloc | apply Kd.N_drewN | apply Kd.N_drew)); exact HO_544006.out)) k_ hn_)), Or.elim hk_ (fun hs_ => Or.elim hs_ (fun hs_ => hs_.1.2.1) (fun hs_ => hs_.2.2.1)) (fun hn_ => (Kd.freshB (g := gb543) (o := .cells #[.int .u8 x544000_2, .int .i64 x544001_2, .int .i64 x544002_2, .int .i64 x544003_2, .int .i64 x544004_2, .int .i64 x544005_2, .slice (some ad554) x544006_2.length co26] 26 (0, 0)) (by (with_reducible repeat (first | refine blk_drewN ?_ _ | refine blk_drew ?_ | refine blk_alloc ?_ _)); exact BK543.out) k_ hn_)), Or.elim hk_ (fun hs_ => Or.elim hs_ (fun hs_ => hs_.1.2.2) (fun hs_ => hs_.2.2.2)) (fun hn_ => (Kd.freshB (g := gb544) (o := .cells #[.int .u8 x545000_2, .int .i64 x545001_2, .int .i64 x545002_2, .int .i64 x545003_2, .int .i64 x545004_2, .int .i64 x545005_2, .slice none 0 0] 26 (0, 0)) (by (with_reducible repeat (first | refine blk_drewN ?_ _ | refine blk_drew ?_ | refine blk_alloc ?_ _)); exact BK544.out) k_ hn_))⟩)) (below_size (by repeat (first | (with_reducible first | exact HB.out | apply below_alloc | apply pw_below_drewN | apply below_drew1 | refine below_set ?_ GE543.out | refine below_set ?_ GE544.out) | exact HB.out))))
                have n4_ := Aside0.mk (Kd.V_lower (Kd.V_mono (ok' := fun k_ => ((P0_6_ k_ ∨ P1_ k_) ∨ w.heap.size ≤ k_) ∧ some k_ ≠ (v562 : Value).ownBlock ∧ some k_ ≠ (.slice (some ad554) x544006_2.length co26 : Value).ownBlock ∧ k_ ≠ gb543 ∧ k_ ≠ gb544) ho1 (fun k_ hk_ => ⟨Or.elim hk_.1 (fun hs_ => Or.elim hs_ (fun hs_ => hs_.1.1) (fun hs_ => hs_.1)) (fun hn_ => (.inr (Nat.le_trans (below_size (by repeat (first | (with_reducible first | exact HB.out | apply below_alloc | apply pw_below_drewN | apply below_drew1 | refine below_set ?_ GE543.out | refine below_set ?_ GE544.out) | exact HB.out))) hn_))), hk_.2, Or.elim hk_.1 (fun hs_ => Or.elim hs_ (fun hs_ => hs_.2) (fun hs_ => hs_.2.1)) (fun hn_ => (Kd.fresh' (Kd.N_lt (by (with_reducible repeat (first | apply Kd.N_alloc | apply Kd.N_drewN | apply Kd.N_drew)); exact HO_544006.out)) k_ hn_)), Or.elim hk_.1 (fun hs_ => Or.elim hs_ (fun hs_ => hs_.1.2.1) (fun hs_ => hs_.2.2.1)) (fun hn_ => (Kd.freshB (g := gb543) (o := .cells #[.int .u8 x544000_2, .int .i64 x544001_2, .int .i64 x544002_2, .int .i64 x544003_2, .int .i64 x544004_2, .int .i64 x544005_2, .slice (some ad554) x544006_2.length co26] 26 (0, 0)) (by (with_reducible repeat (first | refine blk_drewN ?_ _ | refine blk_drew ?_ | refine blk_alloc ?_ _)); exact BK543.out) k_ hn_)), Or.elim hk_.1 (fun hs_ => Or.elim hs_ (fun hs_ => hs_.1.2.2) (fun hs_ => hs_.2.2.2)) (fun hn_ => (Kd.freshB (g := gb544) (o := .cells #[.int .u8 x545000_2, .int .i64 x545001_2, .int .i64 x545002_2, .int .i64 x545003_2, .int .i64 x545004_2, .int .i64 x545005_2, .slice none 0 0] 26 (0, 0)) (by (with_reducible repeat (first | refine blk_drewN ?_ _ | refine blk_drew ?_ | refine blk_alloc ?_ _)); exact BK544.out) k_ hn_))⟩)) (below_size (by repeat (first | (with_reducible first | exact HB.out | apply below_alloc | apply pw_below_drewN | apply below_drew1 | refine below_set ?_ GE543.out | refine below_set ?_ GE544.out) | exact HB.out))))
                have n5_ := Aside0.mk (blk_below (g := gb543) (o := .cells #[.int .u8 x544000_2, .int .i64 x544001_2, .int .i64 x544002_2, .int .i64 x544003_2, .int .i64 x544004_2, .int .i64 x544005_2, .slice (some ad554) x544006_2.length co26] 26 (0, 0)) (by (with_reducible repeat (first | refine blk_drewN ?_ _ | refine blk_drew ?_ | refine blk_alloc ?_ _)); exact BK543.out) hb)
                have n6_ := Aside0.mk (blk_below (g := gb544) (o := .cells #[.int .u8 x545000_2, .int .i64 x545001_2, .int .i64 x545002_2, .int .i64 x545003_2, .int .i64 x545004_2, .int .i64 x545005_2, .slice none 0 0] 26 (0, 0)) (by (with_reducible repeat (first | refine blk_drewN ?_ _ | refine blk_drew ?_ | refine blk_alloc ?_ _)); exact BK544.out) hb)
                have n7_ := Aside0.mk (Kd.C_below (by repeat (first | (with_reducible exact HR554_6.out) | (with_reducible refine Kd.C_alloc ?_ _) | (with_reducible refine Kd.C_drewN ?_ _) | (with_reducible refine Kd.C_drew ?_) | exact HR554_6.out)) hb)
                have n8_ := Aside0.mk (below_step (by repeat (first | (with_reducible first | exact HB.out | apply below_alloc | apply pw_below_drewN | apply below_drew1 | refine below_set ?_ GE543.out | refine below_set ?_ GE544.out) | exact HB.out)) hb)
                clear HO_1
                clear HO_544006
                clear HL554_6
                clear BK543
                clear BK544
                clear HR554_6
                clear HB
                have HO_1 := n0_
                have HO_544006 := n1_
                have HL554_6 := n2_
                have HO563 := n3_
                have HO566 := n4_
                have BK543 := n5_
                have BK544 := n6_
                have HR554_6 := n7_
                have HB := n8_
                clear n0_ n1_ n2_ n3_ n4_ n5_ n6_ n7_ n8_
                (try clear hb)
                (try clear hb2)
                (try clear hk)
                (try clear hi)
                (try clear ho0)
                (try clear ho1)
                obtain ⟨Aq562, cq562, eq562⟩ := Kd.N_slice HO563.out
                subst eq562
                have p24 : 0 ≤ (x23_2 : Int) := of_decide_eq_true (by first | (with_reducible assumption) | assumption)
                have q24 : (x23_2 : Int) < ((x544006_2.length : Int) : Int) := of_decide_eq_true (by first | (with_reducible assumption) | assumption)
                obtain ⟨go24, co24, eo24, gb24, gl24, cl24, HG24⟩ := Kd.N_form HO_544006.out (by omega)
                (first | cases eo24 | (injection eo24 with ea_ en_ ec_; (first | subst ea_ | (injection ea_ with ea_; subst ea_)); subst ec_; clear en_))
                have GB24 := Aside0.mk gb24
                have GG24 := Aside0.mk HG24
                clear gb24 gl24 HG24
                (first | simp only [add_plain] at hx554_0 | skip)
                (first | simp only [add_plain] at hx554_1 | skip)
                (first | simp only [add_plain] at hx554_2 | skip)
                (first | simp only [add_plain] at hx554_3 | skip)
                (first | simp only [add_plain] at hx554_4 | skip)
                (first | simp only [add_plain] at hx554_5 | skip)
                (first | simp only [add_plain] at hx554_6 | skip)
                obtain ⟨ce24, hcl24, hM24, hcc24, hfr24⟩ := Kd.N_elem HO_544006.out z26 (x23_2 : Int) p24 q24
                obtain ⟨ua24_6, uc24_6, rfl, ul24_6, ge24_6⟩ := k26_openF hM24
                have hx24_0 : World.cell? _ ⟨go24, (x23_2 : Int).toNat * 7, none⟩ = some (.int .u8 ((rd_T26 x544006_2 x23_2).f0)) := hcc24 0 _ rfl
                have hx24_1 : World.cell? _ ⟨go24, (x23_2 : Int).toNat * 7 + 1, none⟩ = some (.int .i64 ((rd_T26 x544006_2 x23_2).f1.f0)) := hcc24 1 _ rfl
                have hx24_2 : World.cell? _ ⟨go24, (x23_2 : Int).toNat * 7 + 2, none⟩ = some (.int .i64 ((rd_T26 x544006_2 x23_2).f1.f1)) := hcc24 2 _ rfl
                have hx24_3 : World.cell? _ ⟨go24, (x23_2 : Int).toNat * 7 + 3, none⟩ = some (.int .i64 ((rd_T26 x544006_2 x23_2).f1.f2)) := hcc24 3 _ rfl
                have hx24_4 : World.cell? _ ⟨go24, (x23_2 : Int).toNat * 7 + 4, none⟩ = some (.int .i64 ((rd_T26 x544006_2 x23_2).f1.f3)) := hcc24 4 _ rfl
                have hx24_5 : World.cell? _ ⟨go24, (x23_2 : Int).toNat * 7 + 5, none⟩ = some (.int .i64 ((rd_T26 x544006_2 x23_2).f2)) := hcc24 5 _ rfl
                have hx24_6 : World.cell? _ ⟨go24, (x23_2 : Int).toNat * 7 + 6, none⟩ = some (.slice ua24_6 ((rd_T26 x544006_2 x23_2).f3).length uc24_6) := hcc24 6 _ rfl
                have hf24_0 : World.frozen? _ ⟨go24, (x23_2 : Int).toNat * 7, none⟩ = false := hfr24 0
                have hf24_1 : World.frozen? _ ⟨go24, (x23_2 : Int).toNat * 7 + 1, none⟩ = false := hfr24 1
                have hf24_2 : World.frozen? _ ⟨go24, (x23_2 : Int).toNat * 7 + 2, none⟩ = false := hfr24 2
                have hf24_3 : World.frozen? _ ⟨go24, (x23_2 : Int).toNat * 7 + 3, none⟩ = false := hfr24 3
                have hf24_4 : World.frozen? _ ⟨go24, (x23_2 : Int).toNat * 7 + 4, none⟩ = false := hfr24 4
                have hf24_5 : World.frozen? _ ⟨go24, (x23_2 : Int).toNat * 7 + 5, none⟩ = false := hfr24 5
                have hf24_6 : World.frozen? _ ⟨go24, (x23_2 : Int).toNat * 7 + 6, none⟩ = false := hfr24 6
                clear hcl24 hcc24 hfr24 hM24
                replace p24 := eq_true p24
                replace q24 := eq_true q24
                have HX29 := Aside0.mk (show Kd.N k26 26 _ w.heap.size (fun k_ => ((P0_6_ k_ ∨ P1_ k_) ∨ w.heap.size ≤ k_) ∧ some k_ ≠ (.slice Aq562 t561.length cq562 : Value).ownBlock ∧ k_ ≠ gb543 ∧ k_ ≠ gb544) (.slice (some ⟨go24, 0, none⟩) x544006_2.length co26) x544006_2 from (Kd.N_mono (HO_544006.out) (fun k_ hk => ⟨hk.1.1, ⟨hk.2, ⟨hk.1.2.1, hk.1.2.2⟩⟩⟩)))
                replace HX29 := Aside0.mk (show Kd.N k26 26 _ w.heap.size (fun k_ => ((P0_6_ k_ ∨ P1_ k_) ∨ w.heap.size ≤ k_) ∧ k_ ≠ gb543 ∧ k_ ≠ gb544) (.slice (some ⟨go24, 0, none⟩) x544006_2.length co26) x544006_2 from Kd.N_mono HX29.out (fun k_ hk => ⟨hk.1, ⟨hk.2.2.1, hk.2.2.2⟩⟩))
                obtain ⟨ce29, hcl29, hM29, hcc29, hfr29⟩ := Kd.N_elem HX29.out z26 (x23_2 : Int) (of_decide_eq_true (by first | (with_reducible assumption) | assumption)) (by have h_ : (x23_2 : Int) < ((x544006_2.length : Int) : Int) := of_decide_eq_true (by first | (with_reducible assumption) | assumption); first | exact h_ | (have e_ := (Kd.N_reads' HO_544006.out).1; omega) | simpa using h_)
                obtain ⟨ua29_6, uc29_6, rfl, ul29_6, ge29_6⟩ := k26_openF hM29
                have HP29 := (Kd.N_seg HX29.out (x23_2 : Int) (of_decide_eq_true (by first | (with_reducible assumption) | assumption)) (by have h_ : (x23_2 : Int) < ((x544006_2.length : Int) : Int) := of_decide_eq_true (by first | (with_reducible assumption) | assumption); first | exact h_ | (have e_ := (Kd.N_reads' HO_544006.out).1; omega) | simpa using h_) (seg := [.int .u8 t555, .int .i64 t556, .int .i64 t557, .int .i64 t558, .int .i64 t559, .int .i64 t560, (.slice Aq562 t561.length cq562)]) (j := 0) hcl29 hcc29 (show 7 ≤ 7 from by decide) (x' := (⟨t555, (⟨t556, t557, t558, t559⟩ : S23), t560, t561⟩ : S26)) (k26_mkF _ _ (⟨t555, (⟨t556, t557, t558, t559⟩ : S23), t560, t561⟩ : S26) (Kd.N_reads' (Kd.N_mono (ok' := (fun k_ => ((fun k_ => ((P0_6_ k_ ∨ P1_ k_) ∨ w.heap.size ≤ k_) ∧ k_ ≠ gb543 ∧ k_ ≠ gb544)) k_ ∧ k_ ≠ go24)) (HO563.out) (fun k_ hk => ⟨⟨hk.1, ⟨hk.2.2.1, hk.2.2.2⟩⟩, fun e_ => (hk.2.1) (by rw [e_]; rfl)⟩))).2.1 (Kd.N_F (Kd.N_mono (ok' := (fun k_ => ((fun k_ => ((P0_6_ k_ ∨ P1_ k_) ∨ w.heap.size ≤ k_) ∧ k_ ≠ gb543 ∧ k_ ≠ gb544)) k_ ∧ k_ ≠ go24)) (HO563.out) (fun k_ hk => ⟨⟨hk.1, ⟨hk.2.2.1, hk.2.2.2⟩⟩, fun e_ => (hk.2.1) (by rw [e_]; rfl)⟩)))) (fun _ hk => hk)).1
                rw [← Ny567.out] at HP29
                have HQ29 := Aside0.mk HP29
                clear hcl29 hcc29 hfr29 hM29 HP29
                refine hK.out _ _ ⟨(blk_cell BK543.out 0).trans rfl, (blk_cell BK543.out 1).trans rfl, (blk_cell BK543.out 2).trans rfl, (blk_cell BK543.out 3).trans rfl, (blk_cell BK543.out 4).trans rfl, (blk_cell BK543.out 5).trans rfl, (blk_cell BK543.out 6).trans rfl, HS7_, HS8_, HS9_, HS10_, HS11_, HS12_, HS13_⟩ (fun hHeld => ?_)
                clear hK K
                refine norm_ (a' := ?_) ?_ ?_
                rotate_left
                · show Act.put _ (some 36) _ = _
                  simp only [Act.put, List.setIfInBounds_toArray, List.set_cons_zero, List.set_cons_succ, i64_w, i32_w]
                  rfl
                refine pure_ (i := 10) (N := some 26) (v := ?_) (a' := ?_) #[true, true, true, true, true, true, true, true, true, true, true, false, false, false, false, false] rfl rfl (any_of HT_.out (by kernel_rfl)) (fun _ _ _ h => h) (Or.inl ⟨by rfl, ?_⟩) ?_ ?_
                rotate_left
                · intro w'
                  go_simp
                  with_reducible rfl
                rotate_left
                · simp only [Act.put, List.setIfInBounds_toArray, List.set_cons_zero, List.set_cons_succ, i64_w, i32_w]
                  rfl
                refine pure_ (i := 11) (N := some 37) (v := ?_) (a' := ?_) #[true, true, true, true, true, true, true, true, true, true, true, true, false, false, false, false] rfl rfl (any_of HT_.out (by kernel_rfl)) (fun _ _ _ h => h) (Or.inl ⟨by rfl, ?_⟩) ?_ ?_
                rotate_left
                · intro w'
                  go_simp
                  with_reducible rfl
                rotate_left
                · simp only [Act.put, List.setIfInBounds_toArray, List.set_cons_zero, List.set_cons_succ, i64_w, i32_w]
                  rfl
                refine pure_ (i := 12) (N := some 38) (v := ?_) (a' := ?_) #[true, true, true, true, true, true, true, true, true, true, true, true, true, false, false, false] rfl rfl (any_of HT_.out (by kernel_rfl)) (fun _ _ _ h => h) (Or.inl ⟨by rfl, ?_⟩) ?_ ?_
                rotate_left
                · intro w'
                  go_simp
                  with_reducible rfl
                rotate_left
                · simp only [Act.put, List.setIfInBounds_toArray, List.set_cons_zero, List.set_cons_succ, i64_w, i32_w]
                  rfl
                refine pure_ (i := 13) (N := some 39) (v := ?_) (a' := ?_) #[true, true, true, true, true, true, true, true, true, true, true, true, true, true, false, false] rfl rfl (any_of HT_.out (by kernel_rfl)) (fun _ _ _ h => h) (Or.inl ⟨by rfl, ?_⟩) ?_ ?_
                rotate_left
                · intro w'
                  go_simp
                  with_reducible rfl
                rotate_left
                · simp only [Act.put, List.setIfInBounds_toArray, List.set_cons_zero, List.set_cons_succ, i64_w, i32_w]
                  rfl
                refine last_ (i := 14) (N := none) #[true, true, true, true, true, true, true, true, true, true, true, true, true, true, true, false] rfl rfl (one_of HT_.out (by kernel_rfl)) (by decide) (fun K hK => ?_)
                refine skip_ (w1 := ?_) (by rfl) rfl ?_ ?_
                rotate_left
                · go_simp
                  rfl
                refine hK.out _ _ ?_
                clear hK K
                refine pure_ (i := 15) (N := some 1) (v := ?_) (a' := ?_) #[true, true, true, true, true, true, true, true, true, true, true, true, true, true, true, true] rfl rfl (any_of HT_.out (by kernel_rfl)) (fun _ _ _ h => h) (Or.inl ⟨by rfl, ?_⟩) ?_ ?_
                rotate_left
                · intro w'
                  go_simp
                  with_reducible rfl
                rotate_left
                · simp only [Act.put, List.setIfInBounds_toArray, List.set_cons_zero, List.set_cons_succ, i64_w, i32_w]
                  rfl
                refine done_ (done_of HT_.out (by kernel_rfl)) ?_
                try go_wp2
                go_roundg k2
                case measure => have := HJ2.out; have := HK2.out; omega
                case rel =>
                  have NE543 : gb543 ≠ go24 := fun e_ => Kd.N_away (g := gb543) HX29.out (fun _ hk => hk.2.1) (by rw [e_]; rfl)
                  have NE544 : gb544 ≠ go24 := fun e_ => Kd.N_away (g := gb544) HX29.out (fun _ hk => hk.2.2) (by rw [e_]; rfl)
                  exact ⟨(t564), (wrap64 (x23_2 + 1)), (x544000_2), (x544001_2), (x544002_2), (x544003_2), (x544004_2), (x544005_2), (y567), (x545000_2), (x545001_2), (x545002_2), (x545003_2), (x545004_2), (x545005_2), (.slice (some ⟨go24, 0, none⟩) x544006_2.length co26), (by first | rfl | (simp; done) | (simp [*]; done)), H', ⟨by have := HJ2.out; have := HK2.out; omega⟩, ⟨by (with_reducible repeat (first | apply Kd.V_alloc | apply Kd.V_drewN | apply Kd.V_drew)); exact Kd.V_mono (Kd.V_far (p := ⟨go24, (x23_2 : Int).toNat * 7 + 6, none⟩) (Kd.V_far (p := ⟨go24, (x23_2 : Int).toNat * 7 + 5, none⟩) (Kd.V_far (p := ⟨go24, (x23_2 : Int).toNat * 7 + 4, none⟩) (Kd.V_far (p := ⟨go24, (x23_2 : Int).toNat * 7 + 3, none⟩) (Kd.V_far (p := ⟨go24, (x23_2 : Int).toNat * 7 + 2, none⟩) (Kd.V_far (p := ⟨go24, (x23_2 : Int).toNat * 7 + 1, none⟩) (Kd.V_far (p := ⟨go24, (x23_2 : Int).toNat * 7, none⟩) (Kd.V_mono HO566.out (fun k_ hk => (⟨hk, fun e_ => hk.2.2.1 (by rw [e_]; rfl)⟩ : _ ∧ k_ ≠ go24))) (fun _ hk => hk.2) (.int .u8 t555)) (fun _ hk => hk.2) (.int .i64 t556)) (fun _ hk => hk.2) (.int .i64 t557)) (fun _ hk => hk.2) (.int .i64 t558)) (fun _ hk => hk.2) (.int .i64 t559)) (fun _ hk => hk.2) (.int .i64 t560)) (fun _ hk => hk.2) ((.slice Aq562 t561.length cq562))) (fun _ hk => ⟨hk.1.1, ⟨hk.1.2.2.1, ⟨hk.1.2.2.2.1, hk.1.2.2.2.2⟩⟩⟩)⟩, ⟨by (with_reducible repeat (first | apply Kd.N_alloc | apply Kd.N_drewN | apply Kd.N_drew)); exact HQ29.out⟩, ⟨by (with_reducible repeat (first | refine blk_drewN ?_ _ | refine blk_drew ?_ | refine blk_alloc ?_ _)); refine blk_far ?_ NE543 _; (with_reducible repeat (first | refine blk_drewN ?_ _ | refine blk_drew ?_ | refine blk_alloc ?_ _)); refine blk_far ?_ NE543 _; (with_reducible repeat (first | refine blk_drewN ?_ _ | refine blk_drew ?_ | refine blk_alloc ?_ _)); refine blk_far ?_ NE543 _; (with_reducible repeat (first | refine blk_drewN ?_ _ | refine blk_drew ?_ | refine blk_alloc ?_ _)); refine blk_far ?_ NE543 _; (with_reducible repeat (first | refine blk_drewN ?_ _ | refine blk_drew ?_ | refine blk_alloc ?_ _)); refine blk_far ?_ NE543 _; (with_reducible repeat (first | refine blk_drewN ?_ _ | refine blk_drew ?_ | refine blk_alloc ?_ _)); refine blk_far ?_ NE543 _; (with_reducible repeat (first | refine blk_drewN ?_ _ | refine blk_drew ?_ | refine blk_alloc ?_ _)); refine blk_far ?_ NE543 _; (with_reducible repeat (first | refine blk_drewN ?_ _ | refine blk_drew ?_ | refine blk_alloc ?_ _)); exact BK543.out⟩, ⟨by (with_reducible repeat (first | refine blk_drewN ?_ _ | refine blk_drew ?_ | refine blk_alloc ?_ _)); refine blk_far ?_ NE544 _; (with_reducible repeat (first | refine blk_drewN ?_ _ | refine blk_drew ?_ | refine blk_alloc ?_ _)); refine blk_far ?_ NE544 _; (with_reducible repeat (first | refine blk_drewN ?_ _ | refine blk_drew ?_ | refine blk_alloc ?_ _)); refine blk_far ?_ NE544 _; (with_reducible repeat (first | refine blk_drewN ?_ _ | refine blk_drew ?_ | refine blk_alloc ?_ _)); refine blk_far ?_ NE544 _; (with_reducible repeat (first | refine blk_drewN ?_ _ | refine blk_drew ?_ | refine blk_alloc ?_ _)); refine blk_far ?_ NE544 _; (with_reducible repeat (first | refine blk_drewN ?_ _ | refine blk_drew ?_ | refine blk_alloc ?_ _)); refine blk_far ?_ NE544 _; (with_reducible repeat (first | refine blk_drewN ?_ _ | refine blk_drew ?_ | refine blk_alloc ?_ _)); refine blk_far ?_ NE544 _; (with_reducible repeat (first | refine blk_drewN ?_ _ | refine blk_drew ?_ | refine blk_alloc ?_ _)); exact BK544.out⟩, ⟨by repeat (first | (with_reducible first | exact HB.out | apply below_alloc | apply pw_below_drewN | apply below_drew1 | refine below_set ?_ GB24.out | refine below_set ?_ GB24.out | refine below_set ?_ GB24.out | refine below_set ?_ GB24.out | refine below_set ?_ GB24.out | refine below_set ?_ GB24.out | refine below_set ?_ GB24.out | refine below_set ?_ GE543.out | refine below_set ?_ GE544.out) | exact HB.out)⟩⟩
              · rw [if_neg c22] at H
                exact absurd H (by simp)
            · rw [if_neg c21] at H
              exact absurd H (by simp)
          · rw [if_neg c20] at H
            have c20b0 : decide (x23_2 < (t551.length : Int)) = false := decide_eq_false c20
            clear c20
            simp only [Option.some.injEq, Prod.mk.injEq] at H
            obtain ⟨rfl, rfl, rfl, rfl, rfl, rfl, rfl, rfl⟩ := H
            have hnb30 := NB543_544.out
            have hnc30 := NB544_543.out
            have hcz31_0 : wr.cell? ⟨gb543, 0, none⟩ = some (.int .u8 x544000_2) := (blk_cell BK543.out 0).trans rfl
            have hcz31_1 : wr.cell? ⟨gb543, 1, none⟩ = some (.int .i64 x544001_2) := (blk_cell BK543.out 1).trans rfl
            have hcz31_2 : wr.cell? ⟨gb543, 2, none⟩ = some (.int .i64 x544002_2) := (blk_cell BK543.out 2).trans rfl
            have hcz31_3 : wr.cell? ⟨gb543, 3, none⟩ = some (.int .i64 x544003_2) := (blk_cell BK543.out 3).trans rfl
            have hcz31_4 : wr.cell? ⟨gb543, 4, none⟩ = some (.int .i64 x544004_2) := (blk_cell BK543.out 4).trans rfl
            have hcz31_5 : wr.cell? ⟨gb543, 5, none⟩ = some (.int .i64 x544005_2) := (blk_cell BK543.out 5).trans rfl
            have hcz31_6 : wr.cell? ⟨gb543, 6, none⟩ = some (u544006) := (blk_cell BK543.out 6).trans rfl
            have hfz31_0 := blk_frozen BK543.out 0
            have hfz31_1 := blk_frozen BK543.out 1
            have hfz31_2 := blk_frozen BK543.out 2
            have hfz31_3 := blk_frozen BK543.out 3
            have hfz31_4 := blk_frozen BK543.out 4
            have hfz31_5 := blk_frozen BK543.out 5
            have hfz31_6 := blk_frozen BK543.out 6
            have hcz32_0 : wr.cell? ⟨gb544, 0, none⟩ = some (.int .u8 x545000_2) := (blk_cell BK544.out 0).trans rfl
            have hcz32_1 : wr.cell? ⟨gb544, 1, none⟩ = some (.int .i64 x545001_2) := (blk_cell BK544.out 1).trans rfl
            have hcz32_2 : wr.cell? ⟨gb544, 2, none⟩ = some (.int .i64 x545002_2) := (blk_cell BK544.out 2).trans rfl
            have hcz32_3 : wr.cell? ⟨gb544, 3, none⟩ = some (.int .i64 x545003_2) := (blk_cell BK544.out 3).trans rfl
            have hcz32_4 : wr.cell? ⟨gb544, 4, none⟩ = some (.int .i64 x545004_2) := (blk_cell BK544.out 4).trans rfl
            have hcz32_5 : wr.cell? ⟨gb544, 5, none⟩ = some (.int .i64 x545005_2) := (blk_cell BK544.out 5).trans rfl
            have hcz32_6 : wr.cell? ⟨gb544, 6, none⟩ = some (.slice none 0 0) := (blk_cell BK544.out 6).trans rfl
            have hfz32_0 := blk_frozen BK544.out 0
            have hfz32_1 := blk_frozen BK544.out 1
            have hfz32_2 := blk_frozen BK544.out 2
            have hfz32_3 := blk_frozen BK544.out 3
            have hfz32_4 := blk_frozen BK544.out 4
            have hfz32_5 := blk_frozen BK544.out 5
            have hfz32_6 := blk_frozen BK544.out 6
            obtain ⟨Ao33, co33, eo33⟩ := Kd.N_slice HO_544006.out
            subst eo33
            go_wp2
            refine bodyPost_ret (results_ct rfl _ _ gb544 26 #[.int .u8 x544000_2, .int .i64 x544001_2, .int .i64 x544002_2, .int .i64 x544003_2, .int .i64 x544004_2, .int .i64 x544005_2, .slice Ao33 x544006_2.length co33] (0, 0) _ rfl (by (with_reducible repeat (first | refine blk_drewN ?_ _ | refine blk_drew ?_ | refine blk_alloc ?_ _)); refine blk_put (cs := #[.int .u8 x544000_2, .int .i64 x544001_2, .int .i64 x544002_2, .int .i64 x544003_2, .int .i64 x544004_2, .int .i64 x544005_2, .slice none 0 0]) ?_ 6 _ rfl; (with_reducible repeat (first | refine blk_drewN ?_ _ | refine blk_drew ?_ | refine blk_alloc ?_ _)); refine blk_put (cs := #[.int .u8 x544000_2, .int .i64 x544001_2, .int .i64 x544002_2, .int .i64 x544003_2, .int .i64 x544004_2, .int .i64 x545005_2, .slice none 0 0]) ?_ 5 _ rfl; (with_reducible repeat (first | refine blk_drewN ?_ _ | refine blk_drew ?_ | refine blk_alloc ?_ _)); refine blk_put (cs := #[.int .u8 x544000_2, .int .i64 x544001_2, .int .i64 x544002_2, .int .i64 x544003_2, .int .i64 x545004_2, .int .i64 x545005_2, .slice none 0 0]) ?_ 4 _ rfl; (with_reducible repeat (first | refine blk_drewN ?_ _ | refine blk_drew ?_ | refine blk_alloc ?_ _)); refine blk_put (cs := #[.int .u8 x544000_2, .int .i64 x544001_2, .int .i64 x544002_2, .int .i64 x545003_2, .int .i64 x545004_2, .int .i64 x545005_2, .slice none 0 0]) ?_ 3 _ rfl; (with_reducible repeat (first | refine blk_drewN ?_ _ | refine blk_drew ?_ | refine blk_alloc ?_ _)); refine blk_put (cs := #[.int .u8 x544000_2, .int .i64 x544001_2, .int .i64 x545002_2, .int .i64 x545003_2, .int .i64 x545004_2, .int .i64 x545005_2, .slice none 0 0]) ?_ 2 _ rfl; (with_reducible repeat (first | refine blk_drewN ?_ _ | refine blk_drew ?_ | refine blk_alloc ?_ _)); refine blk_put (cs := #[.int .u8 x544000_2, .int .i64 x545001_2, .int .i64 x545002_2, .int .i64 x545003_2, .int .i64 x545004_2, .int .i64 x545005_2, .slice none 0 0]) ?_ 1 _ rfl; (with_reducible repeat (first | refine blk_drewN ?_ _ | refine blk_drew ?_ | refine blk_alloc ?_ _)); refine blk_put (cs := #[.int .u8 x545000_2, .int .i64 x545001_2, .int .i64 x545002_2, .int .i64 x545003_2, .int .i64 x545004_2, .int .i64 x545005_2, .slice none 0 0]) ?_ 0 _ rfl; (with_reducible repeat (first | refine blk_drewN ?_ _ | refine blk_drew ?_ | refine blk_alloc ?_ _)); exact BK544.out) Try.underlying26 rfl (by kernel_rfl)) rfl ?_
            exact ⟨_, _, by first | rfl | (simp [errW_none, errW_some] <;> rfl) | (simp [*, errW_none, errW_some] <;> rfl), by (with_reducible repeat (first | apply Kd.N_alloc | apply Kd.N_drewN | apply Kd.N_drew)); exact Kd.N_mono (Kd.N_far (p := ⟨gb544, 6, none⟩) (Kd.N_far (p := ⟨gb544, 5, none⟩) (Kd.N_far (p := ⟨gb544, 4, none⟩) (Kd.N_far (p := ⟨gb544, 3, none⟩) (Kd.N_far (p := ⟨gb544, 2, none⟩) (Kd.N_far (p := ⟨gb544, 1, none⟩) (Kd.N_far (p := ⟨gb544, 0, none⟩) (Kd.N_mono HO_544006.out (fun k_ hk => (⟨hk, hk.2.2⟩ : _ ∧ k_ ≠ gb544))) (fun _ hk => hk.2) (.int .u8 x544000_2)) (fun _ hk => hk.2) (.int .i64 x544001_2)) (fun _ hk => hk.2) (.int .i64 x544002_2)) (fun _ hk => hk.2) (.int .i64 x544003_2)) (fun _ hk => hk.2) (.int .i64 x544004_2)) (fun _ hk => hk.2) (.int .i64 x544005_2)) (fun _ hk => hk.2) (.slice Ao33 x544006_2.length co33)) (fun _ hk => hk.1.1), by (with_reducible repeat (first | apply Kd.V_alloc | apply Kd.V_drewN | apply Kd.V_drew)); exact Kd.V_mono (Kd.V_far (p := ⟨gb544, 6, none⟩) (Kd.V_far (p := ⟨gb544, 5, none⟩) (Kd.V_far (p := ⟨gb544, 4, none⟩) (Kd.V_far (p := ⟨gb544, 3, none⟩) (Kd.V_far (p := ⟨gb544, 2, none⟩) (Kd.V_far (p := ⟨gb544, 1, none⟩) (Kd.V_far (p := ⟨gb544, 0, none⟩) (Kd.V_mono HO_1.out (fun k_ hk => (⟨hk, hk.2.2.2⟩ : _ ∧ k_ ≠ gb544))) (fun _ hk => hk.2) (.int .u8 x544000_2)) (fun _ hk => hk.2) (.int .i64 x544001_2)) (fun _ hk => hk.2) (.int .i64 x544002_2)) (fun _ hk => hk.2) (.int .i64 x544003_2)) (fun _ hk => hk.2) (.int .i64 x544004_2)) (fun _ hk => hk.2) (.int .i64 x544005_2)) (fun _ hk => hk.2) (.slice Ao33 x544006_2.length co33)) (fun _ hk => ⟨hk.1.1, hk.1.2.1⟩), by repeat (first | (with_reducible first | exact HB.out | apply below_alloc | apply pw_below_drewN | apply below_drew1 | refine below_set ?_ GE543.out | refine below_set ?_ GE544.out) | exact HB.out)⟩

end Go.Proofs.Ytfdmfgaiblfbhaa.P
namespace Go.Proofs.Ytfdmfgaiblfbhaa.P
open Go.RowKit Go.Proofs.YtfdmfgaiblfbhaaW.PrintWords Go.Proofs.YtfdmfgaiblfbhaaW.PrintLast Go.Proofs.YtfdmfgaiblfbhaaW.PrintMore
attribute [local go_sem] max2_int min2_int max_two min_two max_three min_three max_four min_four   -- for this text's walks alone
set_option linter.unusedVariables false
set_option linter.unusedSimpArgs false

/-! ### flat_Name: function 62 -/
def flat_Name.f (k : Nat) (a0_0 : Int) (a0_1 : Int) (a0_2 : Int) (a0_3 : Int) (a0_4 : Int) (a0_5 : Int) (l0_6 : List (S26)) (l1 : List Int) : Option (Int × Int × Int × Int × Int × Int × (List (S26)) × Bool) := (cell_Leaves.f k (([(⟨a0_0, (⟨a0_1, a0_2, a0_3, a0_4⟩ : S23), a0_5, l0_6⟩ : S26)] : List (S26)))).bind fun t573 => (if (t573.length : Int) = (l1.length : Int) then ((flat_name.f k a0_0 a0_1 a0_2 a0_3 a0_4 a0_5 l0_6 l1).bind fun bt576 => (some (bt576.1, bt576.2.1, bt576.2.2.1, bt576.2.2.2.1, bt576.2.2.2.2.1, bt576.2.2.2.2.2.1, bt576.2.2.2.2.2.2.1, true))) else (some (0, 0, 0, 0, 0, 0, ([] : List (S26)), false)))
theorem flat_Name.mono : ∀ a0 a1 a2 a3 a4 a5 a6 a7 k, LeO (flat_Name.f k a0 a1 a2 a3 a4 a5 a6 a7) (flat_Name.f (k + 1) a0 a1 a2 a3 a4 a5 a6 a7) := by
  intro a0 a1 a2 a3 a4 a5 a6 a7 k
  unfold flat_Name.f
  repeat' first
      | (with_reducible exact cell_Leaves.mono _ _)
      | (with_reducible exact flat_name.mono _ _ _ _ _ _ _ _ _)
      | (with_reducible exact LeO.refl _)
      | (with_reducible exact LeO.none _)
      | (with_reducible refine LeO.ite ?_ ?_)
      | (with_reducible refine LeO.bind ?_ (fun _ => ?_))
      | exact cell_Leaves.mono _ _
      | exact flat_name.mono _ _ _ _ _ _ _ _ _
      | exact LeO.none _
      | refine LeO.ite ?_ ?_
      | refine LeO.bind ?_ (fun _ => ?_)
set_option maxHeartbeats 8000000 in
set_option maxRecDepth 100000 in
theorem flat_Name.calls (k : Nat) (a0_0 : Int) (a0_1 : Int) (a0_2 : Int) (a0_3 : Int) (a0_4 : Int) (a0_5 : Int) (P0_6_ : Nat → Prop) (A0_6 : Option Addr) (c0_6 : Nat) (l0_6 : List (S26)) (P1_ : Nat → Prop) (A1 : Option Addr) (c1 : Nat) (l1 : List Int) (r1 : Int) (r2 : Int) (r3 : Int) (r4 : Int) (r5 : Int) (r6 : Int) (r7 : List (S26)) (r8 : Bool) (w : World) (hs0_6 : Kd.V k26 26 w w.heap.size (fun k_ => P0_6_ k_) (.slice A0_6 l0_6.length c0_6) l0_6) (hs1 : Kd.V (Kd.int .i64) 3 w w.heap.size (fun k_ => P1_ k_) (.slice A1 l1.length c1) l1) (h : flat_Name.f k a0_0 a0_1 a0_2 a0_3 a0_4 a0_5 l0_6 l1 = some (r1, r2, r3, r4, r5, r6, r7, r8)) :
    Calls Try.prog 62 #[.agg #[.int .u8 a0_0, .int .i64 a0_1, .int .i64 a0_2, .int .i64 a0_3, .int .i64 a0_4, .int .i64 a0_5, .slice A0_6 l0_6.length c0_6], .slice A1 l1.length c1] w fun e w' => ∃ v6_ : Value, e = .returned (.tuple #[.agg #[.int .u8 r1, .int .i64 r2, .int .i64 r3, .int .i64 r4, .int .i64 r5, .int .i64 r6, v6_], .bool r8]) ∧ Kd.N k26 26 w' w.heap.size (fun k_ => ((P0_6_ k_ ∨ P1_ k_) ∨ w.heap.size ≤ k_)) v6_ r7 ∧ Below w.heap.size w w' := by
  have hu26 := Try.underlying26
  have HO0_6 := Aside0.mk (show Kd.V k26 26 w w.heap.size (fun k_ => ((P0_6_ k_ ∨ P1_ k_) ∨ w.heap.size ≤ k_)) (.slice A0_6 l0_6.length c0_6) l0_6 from Kd.V_mono hs0_6 (fun k_ hk => .inl (.inl hk)))
  have HO1 := Aside0.mk (show Kd.V (Kd.int .i64) 3 w w.heap.size (fun k_ => ((P0_6_ k_ ∨ P1_ k_) ∨ w.heap.size ≤ k_)) (.slice A1 l1.length c1) l1 from Kd.V_mono hs1 (fun k_ hk => .inl (.inr hk)))
  have HB := Aside0.mk (Below.refl w.heap.size w)
  have H : ((cell_Leaves.f k (([(⟨a0_0, (⟨a0_1, a0_2, a0_3, a0_4⟩ : S23), a0_5, l0_6⟩ : S26)] : List (S26)))).bind fun t573 => (if (t573.length : Int) = (l1.length : Int) then ((flat_name.f k a0_0 a0_1 a0_2 a0_3 a0_4 a0_5 l0_6 l1).bind fun bt576 => (some (bt576.1, bt576.2.1, bt576.2.2.1, bt576.2.2.2.1, bt576.2.2.2.2.1, bt576.2.2.2.2.2.1, bt576.2.2.2.2.2.2.1, true))) else (some (0, 0, 0, 0, 0, 0, ([] : List (S26)), false)))) = some (r1, r2, r3, r4, r5, r6, r7, r8) := h
  clear h
  obtain ⟨y570, hy570⟩ : ∃ y_ : List (S26), y_ = (([(⟨a0_0, (⟨a0_1, a0_2, a0_3, a0_4⟩ : S23), a0_5, l0_6⟩ : S26)] : List (S26))) := ⟨_, rfl⟩
  replace H : ((cell_Leaves.f k y570).bind fun t573 => (if (t573.length : Int) = (l1.length : Int) then ((flat_name.f k a0_0 a0_1 a0_2 a0_3 a0_4 a0_5 l0_6 l1).bind fun bt576 => (some (bt576.1, bt576.2.1, bt576.2.2.1, bt576.2.2.2.1, bt576.2.2.2.2.1, bt576.2.2.2.2.2.1, bt576.2.2.2.2.2.2.1, true))) else (some (0, 0, 0, 0, 0, 0, ([] : List (S26)), false)))) = some (r1, r2, r3, r4, r5, r6, r7, r8) := by first | (rw [hy570]; with_reducible exact H) | (have H2_ := (Option.bind_some _ _).symm.trans H; rw [hy570]; with_reducible exact H2_) | (have H2_ := (Option.bind_some _ _).symm.trans H; with_reducible exact H2_) | with_reducible exact H | (rw [hy570]; exact H) | exact H
  have Ny570 := Aside0.mk hy570
  clear hy570
  replace H := Option.bind_eq_some_iff.mp H
  obtain ⟨t573, A30, H⟩ := H
  replace H : (if (t573.length : Int) = (l1.length : Int) then ((flat_name.f k a0_0 a0_1 a0_2 a0_3 a0_4 a0_5 l0_6 l1).bind fun bt576 => (some (bt576.1, bt576.2.1, bt576.2.2.1, bt576.2.2.2.1, bt576.2.2.2.2.1, bt576.2.2.2.2.2.1, bt576.2.2.2.2.2.2.1, true))) else (some (0, 0, 0, 0, 0, 0, ([] : List (S26)), false))) = some (r1, r2, r3, r4, r5, r6, r7, r8) := H
  have A3 := Aside0.mk A30
  clear A30
  by_cases c4 : (t573.length : Int) = (l1.length : Int)
  · rw [if_pos c4] at H
    have c4b0 : ((t573.length : Int) == (l1.length : Int)) = true := beq_iff_eq.mpr c4
    have c4b1 : ((t573.length : Int) != (l1.length : Int)) = false := bne_eq_false_iff_eq.mpr c4
    have c4b2 : (t573.length == l1.length) = true := by first | simpa using c4 | (simp at c4 ⊢; omega)
    clear c4
    replace H := Option.bind_eq_some_iff.mp H
    obtain ⟨⟨t576, t577, t578, t579, t580, t581, t582, t585⟩, A50, H⟩ := H
    replace H : (some (t576, t577, t578, t579, t580, t581, t582, true)) = some (r1, r2, r3, r4, r5, r6, r7, r8) := H
    have A5 := Aside0.mk A50
    clear A50
    simp only [Option.some.injEq, Prod.mk.injEq] at H
    obtain ⟨rfl, rfl, rfl, rfl, rfl, rfl, rfl, rfl⟩ := H
    go_enter Try.func62, Try.ntmps62
    go_wp2_with (first | ((with_reducible refine gate_dst (N := 2) rfl ?_); refine box_event ?hg (N := 2) ?hd (cs := #[.int .u8 a0_0, .int .i64 a0_1, .int .i64 a0_2, .int .i64 a0_3, .int .i64 a0_4, .int .i64 a0_5, .slice A0_6 l0_6.length c0_6]) (t := 26) ?hr ?_; (case hd => rfl); (case hg => rfl); (case hr => first | (go_simp; done) | (go_simp; rfl)); intro gb568 hg w6 hbox hb; have n0_ := Aside0.mk (Kd.V_below (Kd.V_elderB (by (with_reducible repeat (first | apply Kd.V_alloc | apply Kd.V_drewN | apply Kd.V_drew)); exact HO0_6.out) gb568 (Nat.le_of_eq hg.symm)) hb); have n1_ := Aside0.mk (Kd.V_below (Kd.V_elderB (by (with_reducible repeat (first | apply Kd.V_alloc | apply Kd.V_drewN | apply Kd.V_drew)); exact HO1.out) gb568 (Nat.le_of_eq hg.symm)) hb); have n2_ := Aside0.mk (below_step (by repeat (first | (with_reducible first | exact HB.out | apply below_alloc | apply pw_below_drewN | apply below_drew1) | exact HB.out)) hb); have n3_ := Aside0.mk (hbox); have n4_ := Aside0.mk ((by rw [hg]; exact (below_size (by repeat (first | (with_reducible first | exact HB.out | apply below_alloc | apply pw_below_drewN | apply below_drew1) | exact HB.out))) : w.heap.size ≤ gb568)); have n5_ := Aside0.mk ((by rw [hg]; exact (below_size (by repeat (first | (with_reducible first | exact HB.out | apply below_alloc | apply pw_below_drewN | apply below_drew1) | exact HB.out))) : w.heap.size ≤ gb568)); clear HO0_6; clear HO1; clear HB; have HO0_6 := n0_; have HO1 := n1_; have HB := n2_; have BK568 := n3_; have GW568 := n4_; have GE568 := n5_; clear n0_ n1_ n2_ n3_ n4_ n5_; clear hb hbox hg) | ((with_reducible refine gate_dst (N := 4) rfl ?_); refine box_event ?hg (N := 4) ?hd (cs := #[.int .u8 0, .int .i64 0, .int .i64 0, .int .i64 0, .int .i64 0, .int .i64 0, .slice none 0 0]) (t := 26) ?hr ?_; (case hd => rfl); (case hg => rfl); (case hr => first | (go_simp; done) | (go_simp; rfl)); intro gb569 hg w7 hbox hb; have n0_ := Aside0.mk (Kd.V_below (Kd.V_elderB (by (with_reducible repeat (first | apply Kd.V_alloc | apply Kd.V_drewN | apply Kd.V_drew)); exact HO0_6.out) gb569 (Nat.le_of_eq hg.symm)) hb); have n1_ := Aside0.mk (Kd.V_below (Kd.V_elderB (by (with_reducible repeat (first | apply Kd.V_alloc | apply Kd.V_drewN | apply Kd.V_drew)); exact HO1.out) gb569 (Nat.le_of_eq hg.symm)) hb); have n2_ := Aside0.mk (blk_below (g := gb568) (o := .cells #[.int .u8 a0_0, .int .i64 a0_1, .int .i64 a0_2, .int .i64 a0_3, .int .i64 a0_4, .int .i64 a0_5, .slice A0_6 l0_6.length c0_6] 26 (0, 0)) (by (with_reducible repeat (first | refine blk_drewN ?_ _ | refine blk_drew ?_ | refine blk_alloc ?_ _)); exact BK568.out) hb); have n3_ := Aside0.mk (below_step (by repeat (first | (with_reducible first | exact HB.out | apply below_alloc | apply pw_below_drewN | apply below_drew1 | refine below_set ?_ GE568.out) | exact HB.out)) hb); have n4_ := Aside0.mk (hbox); have n5_ := Aside0.mk ((by rw [hg]; exact (below_size (by repeat (first | (with_reducible first | exact HB.out | apply below_alloc | apply pw_below_drewN | apply below_drew1 | refine below_set ?_ GE568.out) | exact HB.out))) : w.heap.size ≤ gb569)); have n6_ := Aside0.mk ((by rw [hg]; exact (below_size (by repeat (first | (with_reducible first | exact HB.out | apply below_alloc | apply pw_below_drewN | apply below_drew1 | refine below_set ?_ GE568.out) | exact HB.out))) : w.heap.size ≤ gb569)); have n7_ := Aside0.mk ((by rw [hg]; exact Nat.ne_of_lt (blk_lt (g := gb568) (o := .cells #[.int .u8 a0_0, .int .i64 a0_1, .int .i64 a0_2, .int .i64 a0_3, .int .i64 a0_4, .int .i64 a0_5, .slice A0_6 l0_6.length c0_6] 26 (0, 0)) (by (with_reducible repeat (first | refine blk_drewN ?_ _ | refine blk_drew ?_ | refine blk_alloc ?_ _)); exact BK568.out)) : gb568 ≠ gb569)); have n8_ := Aside0.mk ((by rw [hg]; exact Nat.ne_of_gt (blk_lt (g := gb568) (o := .cells #[.int .u8 a0_0, .int .i64 a0_1, .int .i64 a0_2, .int .i64 a0_3, .int .i64 a0_4, .int .i64 a0_5, .slice A0_6 l0_6.length c0_6] 26 (0, 0)) (by (with_reducible repeat (first | refine blk_drewN ?_ _ | refine blk_drew ?_ | refine blk_alloc ?_ _)); exact BK568.out)) : gb569 ≠ gb568)); clear HO0_6; clear HO1; clear BK568; clear HB; have HO0_6 := n0_; have HO1 := n1_; have BK568 := n2_; have HB := n3_; have BK569 := n4_; have GW569 := n5_; have GE569 := n6_; have NB568_569 := n7_; have NB569_568 := n8_; clear n0_ n1_ n2_ n3_ n4_ n5_ n6_ n7_ n8_; clear hb hbox hg; have hnb8 := NB568_569.out; have hnc8 := NB569_568.out; have hcz9_0 : w7.cell? ⟨gb568, 0, none⟩ = some (.int .u8 a0_0) := (blk_cell BK568.out 0).trans rfl; have hcz9_1 : w7.cell? ⟨gb568, 1, none⟩ = some (.int .i64 a0_1) := (blk_cell BK568.out 1).trans rfl; have hcz9_2 : w7.cell? ⟨gb568, 2, none⟩ = some (.int .i64 a0_2) := (blk_cell BK568.out 2).trans rfl; have hcz9_3 : w7.cell? ⟨gb568, 3, none⟩ = some (.int .i64 a0_3) := (blk_cell BK568.out 3).trans rfl; have hcz9_4 : w7.cell? ⟨gb568, 4, none⟩ = some (.int .i64 a0_4) := (blk_cell BK568.out 4).trans rfl; have hcz9_5 : w7.cell? ⟨gb568, 5, none⟩ = some (.int .i64 a0_5) := (blk_cell BK568.out 5).trans rfl; have hcz9_6 : w7.cell? ⟨gb568, 6, none⟩ = some (.slice A0_6 l0_6.length c0_6) := (blk_cell BK568.out 6).trans rfl; have hfz9_0 := blk_frozen BK568.out 0; have hfz9_1 := blk_frozen BK568.out 1; have hfz9_2 := blk_frozen BK568.out 2; have hfz9_3 := blk_frozen BK568.out 3; have hfz9_4 := blk_frozen BK568.out 4; have hfz9_5 := blk_frozen BK568.out 5; have hfz9_6 := blk_frozen BK568.out 6) | ((with_reducible refine gate_dst (N := 9) rfl ?_); refine Kd.N_lit k26 _ 26 ?hg (N' := 9) ?hd (xs := ([(⟨a0_0, (⟨a0_1, a0_2, a0_3, a0_4⟩ : S23), a0_5, l0_6⟩ : S26)] : List (S26))) (inner := [.int .u8 a0_0, .int .i64 a0_1, .int .i64 a0_2, .int .i64 a0_3, .int .i64 a0_4, .int .i64 a0_5, .slice A0_6 l0_6.length c0_6]) (ok := (fun k_ => ((P0_6_ k_ ∨ P1_ k_) ∨ w.heap.size ≤ k_) ∧ k_ ≠ gb568 ∧ k_ ≠ gb569)) (okp := (fun k_ => ((P0_6_ k_ ∨ P1_ k_) ∨ w.heap.size ≤ k_) ∧ k_ ≠ gb568 ∧ k_ ≠ gb569)) ?hr ?hp (fun _ hk => hk) ((show ∀ k_, w7.heap.size ≤ k_ → (fun k_ => ((P0_6_ k_ ∨ P1_ k_) ∨ w.heap.size ≤ k_) ∧ k_ ≠ gb568 ∧ k_ ≠ gb569) k_ from fun k_ hk => ⟨(.inr (Nat.le_trans (below_size (by repeat (first | (with_reducible first | exact HB.out | apply below_alloc | apply pw_below_drewN | apply below_drew1 | refine below_set ?_ GE568.out | refine below_set ?_ GE569.out) | exact HB.out))) hk)), Kd.freshB (g := gb568) (o := .cells #[.int .u8 a0_0, .int .i64 a0_1, .int .i64 a0_2, .int .i64 a0_3, .int .i64 a0_4, .int .i64 a0_5, .slice A0_6 l0_6.length c0_6] 26 (0, 0)) (by (with_reducible repeat (first | refine blk_drewN ?_ _ | refine blk_drew ?_ | refine blk_alloc ?_ _)); exact BK568.out) k_ hk, Kd.freshB (g := gb569) (o := .cells #[.int .u8 0, .int .i64 0, .int .i64 0, .int .i64 0, .int .i64 0, .int .i64 0, .slice none 0 0] 26 (0, 0)) (by (with_reducible repeat (first | refine blk_drewN ?_ _ | refine blk_drew ?_ | refine blk_alloc ?_ _)); exact BK569.out) k_ hk⟩) _ (Nat.le_refl _)) (Below.refl _ _) (Nat.le_refl _) (by simp) ?_; (case hd => rfl); (case hg => rfl); (case hr => first | (go_simp; done) | (go_simp; rfl)); (case hp => exact (Reps.c7 (show Kd.FK k26 _ _ (⟨a0_0, (⟨a0_1, a0_2, a0_3, a0_4⟩ : S23), a0_5, l0_6⟩ : S26) [.int .u8 a0_0, .int .i64 a0_1, .int .i64 a0_2, .int .i64 a0_3, .int .i64 a0_4, .int .i64 a0_5, .slice A0_6 l0_6.length c0_6] from (k26_mkF _ _ (⟨a0_0, (⟨a0_1, a0_2, a0_3, a0_4⟩ : S23), a0_5, l0_6⟩ : S26) (Kd.V_reads' (Kd.V_mono (ok' := (fun k_ => ((P0_6_ k_ ∨ P1_ k_) ∨ w.heap.size ≤ k_) ∧ k_ ≠ gb568 ∧ k_ ≠ gb569)) (HO0_6.out) (fun k_ hk => ⟨hk.1.1, ⟨hk.1.2, hk.2⟩⟩))).2.1 (Kd.V_F (Kd.V_mono (ok' := (fun k_ => ((P0_6_ k_ ∨ P1_ k_) ∨ w.heap.size ≤ k_) ∧ k_ ≠ gb568 ∧ k_ ≠ gb569)) (HO0_6.out) (fun k_ hk => ⟨hk.1.1, ⟨hk.1.2, hk.2⟩⟩))))) (Reps.none _ _))); intro v571 w10 ho11 hb hg_ hnew_; clear hg_ hnew_; (first | rw [← Ny570.out] at ho11 | (simp only [Int.reduceToNat] at ho11; rw [← Ny570.out] at ho11)); have n0_ := Aside0.mk (Kd.V_elder' (by (with_reducible repeat (first | apply Kd.V_alloc | apply Kd.V_drewN | apply Kd.V_drew)); exact HO0_6.out) (Kd.N_base ho11) hb); have n1_ := Aside0.mk (Kd.V_elder' (by (with_reducible repeat (first | apply Kd.V_alloc | apply Kd.V_drewN | apply Kd.V_drew)); exact HO1.out) (Kd.N_base ho11) hb); have n2_ := Aside0.mk (Kd.N_lower ho11 (below_size (by repeat (first | (with_reducible first | exact HB.out | apply below_alloc | apply pw_below_drewN | apply below_drew1 | refine below_set ?_ GE568.out | refine below_set ?_ GE569.out) | exact HB.out)))); have n3_ := Aside0.mk (blk_below (g := gb568) (o := .cells #[.int .u8 a0_0, .int .i64 a0_1, .int .i64 a0_2, .int .i64 a0_3, .int .i64 a0_4, .int .i64 a0_5, .slice A0_6 l0_6.length c0_6] 26 (0, 0)) (by (with_reducible repeat (first | refine blk_drewN ?_ _ | refine blk_drew ?_ | refine blk_alloc ?_ _)); exact BK568.out) hb); have n4_ := Aside0.mk (blk_below (g := gb569) (o := .cells #[.int .u8 0, .int .i64 0, .int .i64 0, .int .i64 0, .int .i64 0, .int .i64 0, .slice none 0 0] 26 (0, 0)) (by (with_reducible repeat (first | refine blk_drewN ?_ _ | refine blk_drew ?_ | refine blk_alloc ?_ _)); exact BK569.out) hb); have n5_ := Aside0.mk (below_step (by repeat (first | (with_reducible first | exact HB.out | apply below_alloc | apply pw_below_drewN | apply below_drew1 | refine below_set ?_ GE568.out | refine below_set ?_ GE569.out) | exact HB.out)) hb); clear HO0_6; clear HO1; clear BK568; clear BK569; clear HB; have HO0_6 := n0_; have HO1 := n1_; have HO572 := n2_; have BK568 := n3_; have BK569 := n4_; have HB := n5_; clear n0_ n1_ n2_ n3_ n4_ n5_; clear hb ho11; obtain ⟨Ao12, co12, eo12⟩ := Kd.N_slice HO572.out; subst eo12) | ((with_reducible refine gate_callee (f := 83) rfl ?_); refine goesL_ (some 10) rfl rfl Try.func83 (by kernel_rfl) rfl #[.slice Ao12 y570.length co12] rfl (by (try simp only [List.map_toArray, List.map_cons, List.map_nil]); first | done | rfl | (simp only [List.length_drop, List.length_take]; rfl)) ?_; (with_reducible refine (cell_Leaves.calls k _ _ y570 t573 _ ?side1 ?side2 A3.out).mono ?_); (case side1 => repeat (first | exact (Kd.N_reads' HO572.out).2.2 | (with_reducible refine Kd.C_alloc ?_ _) | (with_reducible refine Kd.C_drewN ?_ _) | (with_reducible refine Kd.C_drew ?_))); (case side2 => exact (Kd.N_reads' HO572.out).2.1); rintro e w13 ⟨v574, rfl, ho0, hb⟩; refine ⟨_, rfl, ?_⟩; have n0_ := Aside0.mk (Kd.V_elder' (by (with_reducible repeat (first | apply Kd.V_alloc | apply Kd.V_drewN | apply Kd.V_drew)); exact HO0_6.out) (Kd.R_base ho0) hb); have n1_ := Aside0.mk (Kd.V_elder' (by (with_reducible repeat (first | apply Kd.V_alloc | apply Kd.V_drewN | apply Kd.V_drew)); exact HO1.out) (Kd.R_base ho0) hb); have n2_ := Aside0.mk (Kd.N_elder' (by (with_reducible repeat (first | apply Kd.N_alloc | apply Kd.N_drewN | apply Kd.N_drew)); exact HO572.out) (Kd.R_base ho0) hb); have n3_ := Aside0.mk (Kd.R_lower (Kd.R_newM (M := fun k_ => (w.heap.size ≤ k_)) ho0 (below_size (by repeat (first | (with_reducible first | exact HB.out | apply below_alloc | apply pw_below_drewN | apply below_drew1 | refine below_set ?_ GE568.out | refine below_set ?_ GE569.out) | exact HB.out))) (fun k_ h_ => h_)) (below_size (by repeat (first | (with_reducible first | exact HB.out | apply below_alloc | apply pw_below_drewN | apply below_drew1 | refine below_set ?_ GE568.out | refine below_set ?_ GE569.out) | exact HB.out)))); have n4_ := Aside0.mk (blk_below (g := gb568) (o := .cells #[.int .u8 a0_0, .int .i64 a0_1, .int .i64 a0_2, .int .i64 a0_3, .int .i64 a0_4, .int .i64 a0_5, .slice A0_6 l0_6.length c0_6] 26 (0, 0)) (by (with_reducible repeat (first | refine blk_drewN ?_ _ | refine blk_drew ?_ | refine blk_alloc ?_ _)); exact BK568.out) hb); have n5_ := Aside0.mk (blk_below (g := gb569) (o := .cells #[.int .u8 0, .int .i64 0, .int .i64 0, .int .i64 0, .int .i64 0, .int .i64 0, .slice none 0 0] 26 (0, 0)) (by (with_reducible repeat (first | refine blk_drewN ?_ _ | refine blk_drew ?_ | refine blk_alloc ?_ _)); exact BK569.out) hb); have n6_ := Aside0.mk (below_step (by repeat (first | (with_reducible first | exact HB.out | apply below_alloc | apply pw_below_drewN | apply below_drew1 | refine below_set ?_ GE568.out | refine below_set ?_ GE569.out) | exact HB.out)) hb); clear HO0_6; clear HO1; clear HO572; clear BK568; clear BK569; clear HB; have HO0_6 := n0_; have HO1 := n1_; have HO572 := n2_; have HO575 := n3_; have BK568 := n4_; have BK569 := n5_; have HB := n6_; clear n0_ n1_ n2_ n3_ n4_ n5_ n6_; (try clear hb); (try clear hb2); (try clear hk); (try clear hi); (try clear ho0); obtain ⟨Ao14, co14, eo14⟩ := Kd.R_slice HO575.out; subst eo14; have hcz15_0 : w13.cell? ⟨gb568, 0, none⟩ = some (.int .u8 a0_0) := (blk_cell BK568.out 0).trans rfl; have hcz15_1 : w13.cell? ⟨gb568, 1, none⟩ = some (.int .i64 a0_1) := (blk_cell BK568.out 1).trans rfl; have hcz15_2 : w13.cell? ⟨gb568, 2, none⟩ = some (.int .i64 a0_2) := (blk_cell BK568.out 2).trans rfl; have hcz15_3 : w13.cell? ⟨gb568, 3, none⟩ = some (.int .i64 a0_3) := (blk_cell BK568.out 3).trans rfl; have hcz15_4 : w13.cell? ⟨gb568, 4, none⟩ = some (.int .i64 a0_4) := (blk_cell BK568.out 4).trans rfl; have hcz15_5 : w13.cell? ⟨gb568, 5, none⟩ = some (.int .i64 a0_5) := (blk_cell BK568.out 5).trans rfl; have hcz15_6 : w13.cell? ⟨gb568, 6, none⟩ = some (.slice A0_6 l0_6.length c0_6) := (blk_cell BK568.out 6).trans rfl; have hfz15_0 := blk_frozen BK568.out 0; have hfz15_1 := blk_frozen BK568.out 1; have hfz15_2 := blk_frozen BK568.out 2; have hfz15_3 := blk_frozen BK568.out 3; have hfz15_4 := blk_frozen BK568.out 4; have hfz15_5 := blk_frozen BK568.out 5; have hfz15_6 := blk_frozen BK568.out 6) | ((with_reducible refine gate_callee (f := 136) rfl ?_); refine goesL_ (some 19) rfl rfl Try.func136 (by kernel_rfl) rfl #[.agg #[.int .u8 a0_0, .int .i64 a0_1, .int .i64 a0_2, .int .i64 a0_3, .int .i64 a0_4, .int .i64 a0_5, .slice A0_6 l0_6.length c0_6], .slice A1 l1.length c1] rfl (by (try simp only [List.map_toArray, List.map_cons, List.map_nil]); first | done | rfl | (simp only [List.length_drop, List.length_take]; rfl)) ?_; (with_reducible refine (flat_name.calls k a0_0 a0_1 a0_2 a0_3 a0_4 a0_5 (fun k_ => ((((((P0_6_ k_ ∨ P1_ k_) ∨ w.heap.size ≤ k_) ∧ k_ ≠ gb568) ∧ k_ ≠ gb569) ∧ some k_ ≠ (.slice Ao12 y570.length co12 : Value).ownBlock) ∧ some k_ ≠ (.slice Ao14 t573.length co14 : Value).ownBlock)) _ _ l0_6 (fun k_ => ((((((P0_6_ k_ ∨ P1_ k_) ∨ w.heap.size ≤ k_) ∧ k_ ≠ gb568) ∧ k_ ≠ gb569) ∧ some k_ ≠ (.slice Ao12 y570.length co12 : Value).ownBlock) ∧ some k_ ≠ (.slice Ao14 t573.length co14 : Value).ownBlock)) _ _ l1 t576 t577 t578 t579 t580 t581 t582 t585 _ ?side1 ?side2 A5.out).mono ?_); (case side1 => exact HO0_6.out); (case side2 => exact HO1.out); rintro e w16 ⟨v583, v586, rfl, ho0, ho1, hb⟩; refine ⟨_, rfl, ?_⟩; have n0_ := Aside0.mk (Kd.V_elder' (by (with_reducible repeat (first | apply Kd.V_alloc | apply Kd.V_drewN | apply Kd.V_drew)); exact HO0_6.out) (Kd.N_base ho0) hb); have n1_ := Aside0.mk (Kd.V_elder' (by (with_reducible repeat (first | apply Kd.V_alloc | apply Kd.V_drewN | apply Kd.V_drew)); exact HO1.out) (Kd.N_base ho0) hb); have n2_ := Aside0.mk (Kd.N_elder' (by (with_reducible repeat (first | apply Kd.N_alloc | apply Kd.N_drewN | apply Kd.N_drew)); exact HO572.out) (Kd.N_base ho0) hb); have n3_ := Aside0.mk (Kd.R_below (by (with_reducible repeat (first | apply Kd.R_alloc | apply Kd.R_drewN | apply Kd.R_drew)); exact HO575.out) hb); have n4_ := Aside0.mk (Kd.N_lower (Kd.N_mono (ok' := fun k_ => ((P0_6_ k_ ∨ P1_ k_) ∨ w.heap.size ≤ k_) ∧ some k_ ≠ (.slice Ao12 y570.length co12 : Value).ownBlock ∧ some k_ ≠ (.slice Ao14 t573.length co14 : Value).ownBlock ∧ k_ ≠ gb568 ∧ k_ ≠ gb569) ho0 (fun k_ hk_ => ⟨Or.elim hk_ (fun hs_ => Or.elim hs_ (fun hs_ => hs_.1.1.1.1) (fun hs_ => hs_.1.1.1.1)) (fun hn_ => (.inr (Nat.le_trans (below_size (by repeat (first | (with_reducible first | exact HB.out | apply below_alloc | apply pw_below_drewN | apply below_drew1 | refine below_set ?_ GE568.out | refine below_set ?_ GE569.out) | exact HB.out))) hn_))), Or.elim hk_ (fun hs_ => Or.elim hs_ (fun hs_ => hs_.1.2) (fun hs_ => hs_.1.2)) (fun hn_ => (Kd.fresh' (Kd.N_lt (by (with_reducible repeat (first | apply Kd.N_alloc | apply Kd.N_drewN | apply Kd.N_drew)); exact HO572.out)) k_ hn_)), Or.elim hk_ (fun hs_ => Or.elim hs_ (fun hs_ => hs_.2) (fun hs_ => hs_.2)) (fun hn_ => (Kd.fresh' (Kd.R_lt (by (with_reducible repeat (first | apply Kd.R_alloc | apply Kd.R_drewN | apply Kd.R_drew)); exact HO575.out)) k_ hn_)), Or.elim hk_ (fun hs_ => Or.elim hs_ (fun hs_ => hs_.1.1.1.2) (fun hs_ => hs_.1.1.1.2)) (fun hn_ => (Kd.freshB (g := gb568) (o := .cells #[.int .u8 a0_0, .int .i64 a0_1, .int .i64 a0_2, .int .i64 a0_3, .int .i64 a0_4, .int .i64 a0_5, .slice A0_6 l0_6.length c0_6] 26 (0, 0)) (by (with_reducible repeat (first | refine blk_drewN ?_ _ | refine blk_drew ?_ | refine blk_alloc ?_ _)); exact BK568.out) k_ hn_)), Or.elim hk_ (fun hs_ => Or.elim hs_ (fun hs_ => hs_.1.1.2) (fun hs_ => hs_.1.1.2)) (fun hn_ => (Kd.freshB (g := gb569) (o := .cells #[.int .u8 0, .int .i64 0, .int .i64 0, .int .i64 0, .int .i64 0, .int .i64 0, .slice none 0 0] 26 (0, 0)) (by (with_reducible repeat (first | refine blk_drewN ?_ _ | refine blk_drew ?_ | refine blk_alloc ?_ _)); exact BK569.out) k_ hn_))⟩)) (below_size (by repeat (first | (with_reducible first | exact HB.out | apply below_alloc | apply pw_below_drewN | apply below_drew1 | refine below_set ?_ GE568.out | refine below_set ?_ GE569.out) | exact HB.out)))); have n5_ := Aside0.mk (Kd.V_lower (Kd.V_mono (ok' := fun k_ => ((P0_6_ k_ ∨ P1_ k_) ∨ w.heap.size ≤ k_) ∧ some k_ ≠ (v583 : Value).ownBlock ∧ some k_ ≠ (.slice Ao12 y570.length co12 : Value).ownBlock ∧ some k_ ≠ (.slice Ao14 t573.length co14 : Value).ownBlock ∧ k_ ≠ gb568 ∧ k_ ≠ gb569) ho1 (fun k_ hk_ => ⟨Or.elim hk_.1 (fun hs_ => Or.elim hs_ (fun hs_ => hs_.1.1.1.1) (fun hs_ => hs_.1.1.1.1)) (fun hn_ => (.inr (Nat.le_trans (below_size (by repeat (first | (with_reducible first | exact HB.out | apply below_alloc | apply pw_below_drewN | apply below_drew1 | refine below_set ?_ GE568.out | refine below_set ?_ GE569.out) | exact HB.out))) hn_))), hk_.2, Or.elim hk_.1 (fun hs_ => Or.elim hs_ (fun hs_ => hs_.1.2) (fun hs_ => hs_.1.2)) (fun hn_ => (Kd.fresh' (Kd.N_lt (by (with_reducible repeat (first | apply Kd.N_alloc | apply Kd.N_drewN | apply Kd.N_drew)); exact HO572.out)) k_ hn_)), Or.elim hk_.1 (fun hs_ => Or.elim hs_ (fun hs_ => hs_.2) (fun hs_ => hs_.2)) (fun hn_ => (Kd.fresh' (Kd.R_lt (by (with_reducible repeat (first | apply Kd.R_alloc | apply Kd.R_drewN | apply Kd.R_drew)); exact HO575.out)) k_ hn_)), Or.elim hk_.1 (fun hs_ => Or.elim hs_ (fun hs_ => hs_.1.1.1.2) (fun hs_ => hs_.1.1.1.2)) (fun hn_ => (Kd.freshB (g := gb568) (o := .cells #[.int .u8 a0_0, .int .i64 a0_1, .int .i64 a0_2, .int .i64 a0_3, .int .i64 a0_4, .int .i64 a0_5, .slice A0_6 l0_6.length c0_6] 26 (0, 0)) (by (with_reducible repeat (first | refine blk_drewN ?_ _ | refine blk_drew ?_ | refine blk_alloc ?_ _)); exact BK568.out) k_ hn_)), Or.elim hk_.1 (fun hs_ => Or.elim hs_ (fun hs_ => hs_.1.1.2) (fun hs_ => hs_.1.1.2)) (fun hn_ => (Kd.freshB (g := gb569) (o := .cells #[.int .u8 0, .int .i64 0, .int .i64 0, .int .i64 0, .int .i64 0, .int .i64 0, .slice none 0 0] 26 (0, 0)) (by (with_reducible repeat (first | refine blk_drewN ?_ _ | refine blk_drew ?_ | refine blk_alloc ?_ _)); exact BK569.out) k_ hn_))⟩)) (below_size (by repeat (first | (with_reducible first | exact HB.out | apply below_alloc | apply pw_below_drewN | apply below_drew1 | refine below_set ?_ GE568.out | refine below_set ?_ GE569.out) | exact HB.out)))); have n6_ := Aside0.mk (blk_below (g := gb568) (o := .cells #[.int .u8 a0_0, .int .i64 a0_1, .int .i64 a0_2, .int .i64 a0_3, .int .i64 a0_4, .int .i64 a0_5, .slice A0_6 l0_6.length c0_6] 26 (0, 0)) (by (with_reducible repeat (first | refine blk_drewN ?_ _ | refine blk_drew ?_ | refine blk_alloc ?_ _)); exact BK568.out) hb); have n7_ := Aside0.mk (blk_below (g := gb569) (o := .cells #[.int .u8 0, .int .i64 0, .int .i64 0, .int .i64 0, .int .i64 0, .int .i64 0, .slice none 0 0] 26 (0, 0)) (by (with_reducible repeat (first | refine blk_drewN ?_ _ | refine blk_drew ?_ | refine blk_alloc ?_ _)); exact BK569.out) hb); have n8_ := Aside0.mk (below_step (by repeat (first | (with_reducible first | exact HB.out | apply below_alloc | apply pw_below_drewN | apply below_drew1 | refine below_set ?_ GE568.out | refine below_set ?_ GE569.out) | exact HB.out)) hb); clear HO0_6; clear HO1; clear HO572; clear HO575; clear BK568; clear BK569; clear HB; have HO0_6 := n0_; have HO1 := n1_; have HO572 := n2_; have HO575 := n3_; have HO584 := n4_; have HO587 := n5_; have BK568 := n6_; have BK569 := n7_; have HB := n8_; clear n0_ n1_ n2_ n3_ n4_ n5_ n6_ n7_ n8_; (try clear hb); (try clear hb2); (try clear hk); (try clear hi); (try clear ho0); (try clear ho1)) | ((with_reducible refine gate_dst (N := 6) rfl ?_); refine box_event ?hg (N := 6) ?hd (cs := #[.int .u8 0, .int .i64 0, .int .i64 0, .int .i64 0, .int .i64 0, .int .i64 0, .slice none 0 0]) (t := 26) ?hr ?_; (case hd => rfl); (case hg => rfl); (case hr => first | (go_simp; done) | (go_simp; rfl)); intro gb588 hg w17 hbox hb; have n0_ := Aside0.mk (Kd.V_below (Kd.V_elderB (by (with_reducible repeat (first | apply Kd.V_alloc | apply Kd.V_drewN | apply Kd.V_drew)); exact HO0_6.out) gb588 (Nat.le_of_eq hg.symm)) hb); have n1_ := Aside0.mk (Kd.V_below (Kd.V_elderB (by (with_reducible repeat (first | apply Kd.V_alloc | apply Kd.V_drewN | apply Kd.V_drew)); exact HO1.out) gb588 (Nat.le_of_eq hg.symm)) hb); have n2_ := Aside0.mk (Kd.N_below (Kd.N_elderB (by (with_reducible repeat (first | apply Kd.N_alloc | apply Kd.N_drewN | apply Kd.N_drew)); exact HO572.out) gb588 (Nat.le_of_eq hg.symm)) hb); have n3_ := Aside0.mk (Kd.R_below (by (with_reducible repeat (first | apply Kd.R_alloc | apply Kd.R_drewN | apply Kd.R_drew)); exact HO575.out) hb); have n4_ := Aside0.mk (Kd.N_below (Kd.N_elderB (by (with_reducible repeat (first | apply Kd.N_alloc | apply Kd.N_drewN | apply Kd.N_drew)); exact HO584.out) gb588 (Nat.le_of_eq hg.symm)) hb); have n5_ := Aside0.mk (Kd.V_below (Kd.V_elderB (by (with_reducible repeat (first | apply Kd.V_alloc | apply Kd.V_drewN | apply Kd.V_drew)); exact HO587.out) gb588 (Nat.le_of_eq hg.symm)) hb); have n6_ := Aside0.mk (blk_below (g := gb568) (o := .cells #[.int .u8 a0_0, .int .i64 a0_1, .int .i64 a0_2, .int .i64 a0_3, .int .i64 a0_4, .int .i64 a0_5, .slice A0_6 l0_6.length c0_6] 26 (0, 0)) (by (with_reducible repeat (first | refine blk_drewN ?_ _ | refine blk_drew ?_ | refine blk_alloc ?_ _)); exact BK568.out) hb); have n7_ := Aside0.mk (blk_below (g := gb569) (o := .cells #[.int .u8 0, .int .i64 0, .int .i64 0, .int .i64 0, .int .i64 0, .int .i64 0, .slice none 0 0] 26 (0, 0)) (by (with_reducible repeat (first | refine blk_drewN ?_ _ | refine blk_drew ?_ | refine blk_alloc ?_ _)); exact BK569.out) hb); have n8_ := Aside0.mk (below_step (by repeat (first | (with_reducible first | exact HB.out | apply below_alloc | apply pw_below_drewN | apply below_drew1 | refine below_set ?_ GE568.out | refine below_set ?_ GE569.out) | exact HB.out)) hb); have n9_ := Aside0.mk (hbox); have n10_ := Aside0.mk ((by rw [hg]; exact (below_size (by repeat (first | (with_reducible first | exact HB.out | apply below_alloc | apply pw_below_drewN | apply below_drew1 | refine below_set ?_ GE568.out | refine below_set ?_ GE569.out) | exact HB.out))) : w.heap.size ≤ gb588)); have n11_ := Aside0.mk ((by rw [hg]; exact (below_size (by repeat (first | (with_reducible first | exact HB.out | apply below_alloc | apply pw_below_drewN | apply below_drew1 | refine below_set ?_ GE568.out | refine below_set ?_ GE569.out) | exact HB.out))) : w.heap.size ≤ gb588)); have n12_ := Aside0.mk ((by rw [hg]; exact Nat.ne_of_lt (blk_lt (g := gb568) (o := .cells #[.int .u8 a0_0, .int .i64 a0_1, .int .i64 a0_2, .int .i64 a0_3, .int .i64 a0_4, .int .i64 a0_5, .slice A0_6 l0_6.length c0_6] 26 (0, 0)) (by (with_reducible repeat (first | refine blk_drewN ?_ _ | refine blk_drew ?_ | refine blk_alloc ?_ _)); exact BK568.out)) : gb568 ≠ gb588)); have n13_ := Aside0.mk ((by rw [hg]; exact Nat.ne_of_gt (blk_lt (g := gb568) (o := .cells #[.int .u8 a0_0, .int .i64 a0_1, .int .i64 a0_2, .int .i64 a0_3, .int .i64 a0_4, .int .i64 a0_5, .slice A0_6 l0_6.length c0_6] 26 (0, 0)) (by (with_reducible repeat (first | refine blk_drewN ?_ _ | refine blk_drew ?_ | refine blk_alloc ?_ _)); exact BK568.out)) : gb588 ≠ gb568)); have n14_ := Aside0.mk ((by rw [hg]; exact Nat.ne_of_lt (blk_lt (g := gb569) (o := .cells #[.int .u8 0, .int .i64 0, .int .i64 0, .int .i64 0, .int .i64 0, .int .i64 0, .slice none 0 0] 26 (0, 0)) (by (with_reducible repeat (first | refine blk_drewN ?_ _ | refine blk_drew ?_ | refine blk_alloc ?_ _)); exact BK569.out)) : gb569 ≠ gb588)); have n15_ := Aside0.mk ((by rw [hg]; exact Nat.ne_of_gt (blk_lt (g := gb569) (o := .cells #[.int .u8 0, .int .i64 0, .int .i64 0, .int .i64 0, .int .i64 0, .int .i64 0, .slice none 0 0] 26 (0, 0)) (by (with_reducible repeat (first | refine blk_drewN ?_ _ | refine blk_drew ?_ | refine blk_alloc ?_ _)); exact BK569.out)) : gb588 ≠ gb569)); clear HO0_6; clear HO1; clear HO572; clear HO575; clear HO584; clear HO587; clear BK568; clear BK569; clear HB; have HO0_6 := n0_; have HO1 := n1_; have HO572 := n2_; have HO575 := n3_; have HO584 := n4_; have HO587 := n5_; have BK568 := n6_; have BK569 := n7_; have HB := n8_; have BK588 := n9_; have GW588 := n10_; have GE588 := n11_; have NB568_588 := n12_; have NB588_568 := n13_; have NB569_588 := n14_; have NB588_569 := n15_; clear n0_ n1_ n2_ n3_ n4_ n5_ n6_ n7_ n8_ n9_ n10_ n11_ n12_ n13_ n14_ n15_; clear hb hbox hg; have hnb18 := NB588_568.out; have hnc18 := NB568_588.out; have hnb19 := NB588_569.out; have hnc19 := NB569_588.out; have hcz20_0 : w17.cell? ⟨gb588, 0, none⟩ = some (.int .u8 0) := (blk_cell BK588.out 0).trans rfl; have hcz20_1 : w17.cell? ⟨gb588, 1, none⟩ = some (.int .i64 0) := (blk_cell BK588.out 1).trans rfl; have hcz20_2 : w17.cell? ⟨gb588, 2, none⟩ = some (.int .i64 0) := (blk_cell BK588.out 2).trans rfl; have hcz20_3 : w17.cell? ⟨gb588, 3, none⟩ = some (.int .i64 0) := (blk_cell BK588.out 3).trans rfl; have hcz20_4 : w17.cell? ⟨gb588, 4, none⟩ = some (.int .i64 0) := (blk_cell BK588.out 4).trans rfl; have hcz20_5 : w17.cell? ⟨gb588, 5, none⟩ = some (.int .i64 0) := (blk_cell BK588.out 5).trans rfl; have hcz20_6 : w17.cell? ⟨gb588, 6, none⟩ = some (.slice none 0 0) := (blk_cell BK588.out 6).trans rfl; have hfz20_0 := blk_frozen BK588.out 0; have hfz20_1 := blk_frozen BK588.out 1; have hfz20_2 := blk_frozen BK588.out 2; have hfz20_3 := blk_frozen BK588.out 3; have hfz20_4 := blk_frozen BK588.out 4; have hfz20_5 := blk_frozen BK588.out 5; have hfz20_6 := blk_frozen BK588.out 6; obtain ⟨Ao21, co21, eo21⟩ := Kd.N_slice HO584.out; subst eo21; have hcz22_0 : w17.cell? ⟨gb569, 0, none⟩ = some (.int .u8 0) := (blk_cell BK569.out 0).trans rfl; have hcz22_1 : w17.cell? ⟨gb569, 1, none⟩ = some (.int .i64 0) := (blk_cell BK569.out 1).trans rfl; have hcz22_2 : w17.cell? ⟨gb569, 2, none⟩ = some (.int .i64 0) := (blk_cell BK569.out 2).trans rfl; have hcz22_3 : w17.cell? ⟨gb569, 3, none⟩ = some (.int .i64 0) := (blk_cell BK569.out 3).trans rfl; have hcz22_4 : w17.cell? ⟨gb569, 4, none⟩ = some (.int .i64 0) := (blk_cell BK569.out 4).trans rfl; have hcz22_5 : w17.cell? ⟨gb569, 5, none⟩ = some (.int .i64 0) := (blk_cell BK569.out 5).trans rfl; have hcz22_6 : w17.cell? ⟨gb569, 6, none⟩ = some (.slice none 0 0) := (blk_cell BK569.out 6).trans rfl; have hfz22_0 := blk_frozen BK569.out 0; have hfz22_1 := blk_frozen BK569.out 1; have hfz22_2 := blk_frozen BK569.out 2; have hfz22_3 := blk_frozen BK569.out 3; have hfz22_4 := blk_frozen BK569.out 4; have hfz22_5 := blk_frozen BK569.out 5; have hfz22_6 := blk_frozen BK569.out 6))
    refine bodyPost_ret (results_ct rfl _ _ gb569 26 #[.int .u8 t576, .int .i64 t577, .int .i64 t578, .int .i64 t579, .int .i64 t580, .int .i64 t581, .slice Ao21 t582.length co21] (0, 0) _ rfl (by (with_reducible repeat (first | refine blk_drewN ?_ _ | refine blk_drew ?_ | refine blk_alloc ?_ _)); refine blk_put (cs := #[.int .u8 t576, .int .i64 t577, .int .i64 t578, .int .i64 t579, .int .i64 t580, .int .i64 t581, .slice none 0 0]) ?_ 6 _ rfl; (with_reducible repeat (first | refine blk_drewN ?_ _ | refine blk_drew ?_ | refine blk_alloc ?_ _)); refine blk_put (cs := #[.int .u8 t576, .int .i64 t577, .int .i64 t578, .int .i64 t579, .int .i64 t580, .int .i64 0, .slice none 0 0]) ?_ 5 _ rfl; (with_reducible repeat (first | refine blk_drewN ?_ _ | refine blk_drew ?_ | refine blk_alloc ?_ _)); refine blk_put (cs := #[.int .u8 t576, .int .i64 t577, .int .i64 t578, .int .i64 t579, .int .i64 0, .int .i64 0, .slice none 0 0]) ?_ 4 _ rfl; (with_reducible repeat (first | refine blk_drewN ?_ _ | refine blk_drew ?_ | refine blk_alloc ?_ _)); refine blk_put (cs := #[.int .u8 t576, .int .i64 t577, .int .i64 t578, .int .i64 0, .int .i64 0, .int .i64 0, .slice none 0 0]) ?_ 3 _ rfl; (with_reducible repeat (first | refine blk_drewN ?_ _ | refine blk_drew ?_ | refine blk_alloc ?_ _)); refine blk_put (cs := #[.int .u8 t576, .int .i64 t577, .int .i64 0, .int .i64 0, .int .i64 0, .int .i64 0, .slice none 0 0]) ?_ 2 _ rfl; (with_reducible repeat (first | refine blk_drewN ?_ _ | refine blk_drew ?_ | refine blk_alloc ?_ _)); refine blk_put (cs := #[.int .u8 t576, .int .i64 0, .int .i64 0, .int .i64 0, .int .i64 0, .int .i64 0, .slice none 0 0]) ?_ 1 _ rfl; (with_reducible repeat (first | refine blk_drewN ?_ _ | refine blk_drew ?_ | refine blk_alloc ?_ _)); refine blk_put (cs := #[.int .u8 0, .int .i64 0, .int .i64 0, .int .i64 0, .int .i64 0, .int .i64 0, .slice none 0 0]) ?_ 0 _ rfl; (with_reducible repeat (first | refine blk_drewN ?_ _ | refine blk_drew ?_ | refine blk_alloc ?_ _)); refine blk_far ?_ NB569_588.out _; (with_reducible repeat (first | refine blk_drewN ?_ _ | refine blk_drew ?_ | refine blk_alloc ?_ _)); refine blk_far ?_ NB569_588.out _; (with_reducible repeat (first | refine blk_drewN ?_ _ | refine blk_drew ?_ | refine blk_alloc ?_ _)); refine blk_far ?_ NB569_588.out _; (with_reducible repeat (first | refine blk_drewN ?_ _ | refine blk_drew ?_ | refine blk_alloc ?_ _)); refine blk_far ?_ NB569_588.out _; (with_reducible repeat (first | refine blk_drewN ?_ _ | refine blk_drew ?_ | refine blk_alloc ?_ _)); refine blk_far ?_ NB569_588.out _; (with_reducible repeat (first | refine blk_drewN ?_ _ | refine blk_drew ?_ | refine blk_alloc ?_ _)); refine blk_far ?_ NB569_588.out _; (with_reducible repeat (first | refine blk_drewN ?_ _ | refine blk_drew ?_ | refine blk_alloc ?_ _)); refine blk_far ?_ NB569_588.out _; (with_reducible repeat (first | refine blk_drewN ?_ _ | refine blk_drew ?_ | refine blk_alloc ?_ _)); exact BK569.out) Try.underlying26 rfl (by kernel_rfl)) rfl ?_
    exact ⟨_, by first | rfl | (simp [errW_none, errW_some] <;> rfl) | (simp [*, errW_none, errW_some] <;> rfl), by (with_reducible repeat (first | apply Kd.N_alloc | apply Kd.N_drewN | apply Kd.N_drew)); exact Kd.N_mono (Kd.N_far (p := ⟨gb569, 6, none⟩) (Kd.N_far (p := ⟨gb569, 5, none⟩) (Kd.N_far (p := ⟨gb569, 4, none⟩) (Kd.N_far (p := ⟨gb569, 3, none⟩) (Kd.N_far (p := ⟨gb569, 2, none⟩) (Kd.N_far (p := ⟨gb569, 1, none⟩) (Kd.N_far (p := ⟨gb569, 0, none⟩) (Kd.N_far (p := ⟨gb588, 6, none⟩) (Kd.N_far (p := ⟨gb588, 5, none⟩) (Kd.N_far (p := ⟨gb588, 4, none⟩) (Kd.N_far (p := ⟨gb588, 3, none⟩) (Kd.N_far (p := ⟨gb588, 2, none⟩) (Kd.N_far (p := ⟨gb588, 1, none⟩) (Kd.N_far (p := ⟨gb588, 0, none⟩) (Kd.N_mono (Kd.N_mono HO584.out (fun k_ hk => (⟨hk, hk.2⟩ : _ ∧ k_ ≠ gb588))) (fun k_ hk => (⟨hk, hk.1.1.2.2.2.2⟩ : _ ∧ k_ ≠ gb569))) (fun _ hk => hk.1.2) (.int .u8 t576)) (fun _ hk => hk.1.2) (.int .i64 t577)) (fun _ hk => hk.1.2) (.int .i64 t578)) (fun _ hk => hk.1.2) (.int .i64 t579)) (fun _ hk => hk.1.2) (.int .i64 t580)) (fun _ hk => hk.1.2) (.int .i64 t581)) (fun _ hk => hk.1.2) (.slice Ao21 t582.length co21)) (fun _ hk => hk.2) (.int .u8 t576)) (fun _ hk => hk.2) (.int .i64 t577)) (fun _ hk => hk.2) (.int .i64 t578)) (fun _ hk => hk.2) (.int .i64 t579)) (fun _ hk => hk.2) (.int .i64 t580)) (fun _ hk => hk.2) (.int .i64 t581)) (fun _ hk => hk.2) (.slice Ao21 t582.length co21)) (fun _ hk => hk.1.1.1.1), by repeat (first | (with_reducible first | exact HB.out | apply below_alloc | apply pw_below_drewN | apply below_drew1 | refine below_set ?_ GE568.out | refine below_set ?_ GE569.out | refine below_set ?_ GE588.out) | exact HB.out)⟩
  · rw [if_neg c4] at H
    have c4b0 : ((t573.length : Int) == (l1.length : Int)) = false := beq_eq_false_iff_ne.mpr c4
    have c4b1 : ((t573.length : Int) != (l1.length : Int)) = true := bne_iff_ne.mpr c4
    have c4b2 : (t573.length == l1.length) = false := by first | simpa using c4 | (simp at c4 ⊢; omega)
    simp only [Option.some.injEq, Prod.mk.injEq] at H
    obtain ⟨rfl, rfl, rfl, rfl, rfl, rfl, rfl, rfl⟩ := H
    go_enter Try.func62, Try.ntmps62
    go_wp2_with (first | ((with_reducible refine gate_dst (N := 2) rfl ?_); refine box_event ?hg (N := 2) ?hd (cs := #[.int .u8 a0_0, .int .i64 a0_1, .int .i64 a0_2, .int .i64 a0_3, .int .i64 a0_4, .int .i64 a0_5, .slice A0_6 l0_6.length c0_6]) (t := 26) ?hr ?_; (case hd => rfl); (case hg => rfl); (case hr => first | (go_simp; done) | (go_simp; rfl)); intro gb568 hg w23 hbox hb; have n0_ := Aside0.mk (Kd.V_below (Kd.V_elderB (by (with_reducible repeat (first | apply Kd.V_alloc | apply Kd.V_drewN | apply Kd.V_drew)); exact HO0_6.out) gb568 (Nat.le_of_eq hg.symm)) hb); have n1_ := Aside0.mk (Kd.V_below (Kd.V_elderB (by (with_reducible repeat (first | apply Kd.V_alloc | apply Kd.V_drewN | apply Kd.V_drew)); exact HO1.out) gb568 (Nat.le_of_eq hg.symm)) hb); have n2_ := Aside0.mk (below_step (by repeat (first | (with_reducible first | exact HB.out | apply below_alloc | apply pw_below_drewN | apply below_drew1) | exact HB.out)) hb); have n3_ := Aside0.mk (hbox); have n4_ := Aside0.mk ((by rw [hg]; exact (below_size (by repeat (first | (with_reducible first | exact HB.out | apply below_alloc | apply pw_below_drewN | apply below_drew1) | exact HB.out))) : w.heap.size ≤ gb568)); have n5_ := Aside0.mk ((by rw [hg]; exact (below_size (by repeat (first | (with_reducible first | exact HB.out | apply below_alloc | apply pw_below_drewN | apply below_drew1) | exact HB.out))) : w.heap.size ≤ gb568)); clear HO0_6; clear HO1; clear HB; have HO0_6 := n0_; have HO1 := n1_; have HB := n2_; have BK568 := n3_; have GW568 := n4_; have GE568 := n5_; clear n0_ n1_ n2_ n3_ n4_ n5_; clear hb hbox hg) | ((with_reducible refine gate_dst (N := 4) rfl ?_); refine box_event ?hg (N := 4) ?hd (cs := #[.int .u8 0, .int .i64 0, .int .i64 0, .int .i64 0, .int .i64 0, .int .i64 0, .slice none 0 0]) (t := 26) ?hr ?_; (case hd => rfl); (case hg => rfl); (case hr => first | (go_simp; done) | (go_simp; rfl)); intro gb569 hg w24 hbox hb; have n0_ := Aside0.mk (Kd.V_below (Kd.V_elderB (by (with_reducible repeat (first | apply Kd.V_alloc | apply Kd.V_drewN | apply Kd.V_drew)); exact HO0_6.out) gb569 (Nat.le_of_eq hg.symm)) hb); have n1_ := Aside0.mk (Kd.V_below (Kd.V_elderB (by (with_reducible repeat (first | apply Kd.V_alloc | apply Kd.V_drewN | apply Kd.V_drew)); exact HO1.out) gb569 (Nat.le_of_eq hg.symm)) hb); have n2_ := Aside0.mk (blk_below (g := gb568) (o := .cells #[.int .u8 a0_0, .int .i64 a0_1, .int .i64 a0_2, .int .i64 a0_3, .int .i64 a0_4, .int .i64 a0_5, .slice A0_6 l0_6.length c0_6] 26 (0, 0)) (by (with_reducible repeat (first | refine blk_drewN ?_ _ | refine blk_drew ?_ | refine blk_alloc ?_ _)); exact BK568.out) hb); have n3_ := Aside0.mk (below_step (by repeat (first | (with_reducible first | exact HB.out | apply below_alloc | apply pw_below_drewN | apply below_drew1 | refine below_set ?_ GE568.out) | exact HB.out)) hb); have n4_ := Aside0.mk (hbox); have n5_ := Aside0.mk ((by rw [hg]; exact (below_size (by repeat (first | (with_reducible first | exact HB.out | apply below_alloc | apply pw_below_drewN | apply below_drew1 | refine below_set ?_ GE568.out) | exact HB.out))) : w.heap.size ≤ gb569)); have n6_ := Aside0.mk ((by rw [hg]; exact (below_size (by repeat (first | (with_reducible first | exact HB.out | apply below_alloc | apply pw_below_drewN | apply below_drew1 | refine below_set ?_ GE568.out) | exact HB.out))) : w.heap.size ≤ gb569)); have n7_ := Aside0.mk ((by rw [hg]; exact Nat.ne_of_lt (blk_lt (g := gb568) (o := .cells #[.int .u8 a0_0, .int .i64 a0_1, .int .i64 a0_2, .int .i64 a0_3, .int .i64 a0_4, .int .i64 a0_5, .slice A0_6 l0_6.length c0_6] 26 (0, 0)) (by (with_reducible repeat (first | refine blk_drewN ?_ _ | refine blk_drew ?_ | refine blk_alloc ?_ _)); exact BK568.out)) : gb568 ≠ gb569)); have n8_ := Aside0.mk ((by rw [hg]; exact Nat.ne_of_gt (blk_lt (g := gb568) (o := .cells #[.int .u8 a0_0, .int .i64 a0_1, .int .i64 a0_2, .int .i64 a0_3, .int .i64 a0_4, .int .i64 a0_5, .slice A0_6 l0_6.length c0_6] 26 (0, 0)) (by (with_reducible repeat (first | refine blk_drewN ?_ _ | refine blk_drew ?_ | refine blk_alloc ?_ _)); exact BK568.out)) : gb569 ≠ gb568)); clear HO0_6; clear HO1; clear BK568; clear HB; have HO0_6 := n0_; have HO1 := n1_; have BK568 := n2_; have HB := n3_; have BK569 := n4_; have GW569 := n5_; have GE569 := n6_; have NB568_569 := n7_; have NB569_568 := n8_; clear n0_ n1_ n2_ n3_ n4_ n5_ n6_ n7_ n8_; clear hb hbox hg; have hnb25 := NB568_569.out; have hnc25 := NB569_568.out; have hcz26_0 : w24.cell? ⟨gb568, 0, none⟩ = some (.int .u8 a0_0) := (blk_cell BK568.out 0).trans rfl; have hcz26_1 : w24.cell? ⟨gb568, 1, none⟩ = some (.int .i64 a0_1) := (blk_cell BK568.out 1).trans rfl; have hcz26_2 : w24.cell? ⟨gb568, 2, none⟩ = some (.int .i64 a0_2) := (blk_cell BK568.out 2).trans rfl; have hcz26_3 : w24.cell? ⟨gb568, 3, none⟩ = some (.int .i64 a0_3) := (blk_cell BK568.out 3).trans rfl; have hcz26_4 : w24.cell? ⟨gb568, 4, none⟩ = some (.int .i64 a0_4) := (blk_cell BK568.out 4).trans rfl; have hcz26_5 : w24.cell? ⟨gb568, 5, none⟩ = some (.int .i64 a0_5) := (blk_cell BK568.out 5).trans rfl; have hcz26_6 : w24.cell? ⟨gb568, 6, none⟩ = some (.slice A0_6 l0_6.length c0_6) := (blk_cell BK568.out 6).trans rfl; have hfz26_0 := blk_frozen BK568.out 0; have hfz26_1 := blk_frozen BK568.out 1; have hfz26_2 := blk_frozen BK568.out 2; have hfz26_3 := blk_frozen BK568.out 3; have hfz26_4 := blk_frozen BK568.out 4; have hfz26_5 := blk_frozen BK568.out 5; have hfz26_6 := blk_frozen BK568.out 6) | ((with_reducible refine gate_dst (N := 9) rfl ?_); refine Kd.N_lit k26 _ 26 ?hg (N' := 9) ?hd (xs := ([(⟨a0_0, (⟨a0_1, a0_2, a0_3, a0_4⟩ : S23), a0_5, l0_6⟩ : S26)] : List (S26))) (inner := [.int .u8 a0_0, .int .i64 a0_1, .int .i64 a0_2, .int .i64 a0_3, .int .i64 a0_4, .int .i64 a0_5, .slice A0_6 l0_6.length c0_6]) (ok := (fun k_ => ((P0_6_ k_ ∨ P1_ k_) ∨ w.heap.size ≤ k_) ∧ k_ ≠ gb568 ∧ k_ ≠ gb569)) (okp := (fun k_ => ((P0_6_ k_ ∨ P1_ k_) ∨ w.heap.size ≤ k_) ∧ k_ ≠ gb568 ∧ k_ ≠ gb569)) ?hr ?hp (fun _ hk => hk) ((show ∀ k_, w24.heap.size ≤ k_ → (fun k_ => ((P0_6_ k_ ∨ P1_ k_) ∨ w.heap.size ≤ k_) ∧ k_ ≠ gb568 ∧ k_ ≠ gb569) k_ from fun k_ hk => ⟨(.inr (Nat.le_trans (below_size (by repeat (first | (with_reducible first | exact HB.out | apply below_alloc | apply pw_below_drewN | apply below_drew1 | refine below_set ?_ GE568.out | refine below_set ?_ GE569.out) | exact HB.out))) hk)), Kd.freshB (g := gb568) (o := .cells #[.int .u8 a0_0, .int .i64 a0_1, .int .i64 a0_2, .int .i64 a0_3, .int .i64 a0_4, .int .i64 a0_5, .slice A0_6 l0_6.length c0_6] 26 (0, 0)) (by (with_reducible repeat (first | refine blk_drewN ?_ _ | refine blk_drew ?_ | refine blk_alloc ?_ _)); exact BK568.out) k_ hk, Kd.freshB (g := gb569) (o := .cells #[.int .u8 0, .int .i64 0, .int .i64 0, .int .i64 0, .int .i64 0, .int .i64 0, .slice none 0 0] 26 (0, 0)) (by (with_reducible repeat (first | refine blk_drewN ?_ _ | refine blk_drew ?_ | refine blk_alloc ?_ _)); exact BK569.out) k_ hk⟩) _ (Nat.le_refl _)) (Below.refl _ _) (Nat.le_refl _) (by simp) ?_; (case hd => rfl); (case hg => rfl); (case hr => first | (go_simp; done) | (go_simp; rfl)); (case hp => exact (Reps.c7 (show Kd.FK k26 _ _ (⟨a0_0, (⟨a0_1, a0_2, a0_3, a0_4⟩ : S23), a0_5, l0_6⟩ : S26) [.int .u8 a0_0, .int .i64 a0_1, .int .i64 a0_2, .int .i64 a0_3, .int .i64 a0_4, .int .i64 a0_5, .slice A0_6 l0_6.length c0_6] from (k26_mkF _ _ (⟨a0_0, (⟨a0_1, a0_2, a0_3, a0_4⟩ : S23), a0_5, l0_6⟩ : S26) (Kd.V_reads' (Kd.V_mono (ok' := (fun k_ => ((P0_6_ k_ ∨ P1_ k_) ∨ w.heap.size ≤ k_) ∧ k_ ≠ gb568 ∧ k_ ≠ gb569)) (HO0_6.out) (fun k_ hk => ⟨hk.1.1, ⟨hk.1.2, hk.2⟩⟩))).2.1 (Kd.V_F (Kd.V_mono (ok' := (fun k_ => ((P0_6_ k_ ∨ P1_ k_) ∨ w.heap.size ≤ k_) ∧ k_ ≠ gb568 ∧ k_ ≠ gb569)) (HO0_6.out) (fun k_ hk => ⟨hk.1.1, ⟨hk.1.2, hk.2⟩⟩))))) (Reps.none _ _))); intro v571 w27 ho28 hb hg_ hnew_; clear hg_ hnew_; (first | rw [← Ny570.out] at ho28 | (simp only [Int.reduceToNat] at ho28; rw [← Ny570.out] at ho28)); have n0_ := Aside0.mk (Kd.V_elder' (by (with_reducible repeat (first | apply Kd.V_alloc | apply Kd.V_drewN | apply Kd.V_drew)); exact HO0_6.out) (Kd.N_base ho28) hb); have n1_ := Aside0.mk (Kd.V_elder' (by (with_reducible repeat (first | apply Kd.V_alloc | apply Kd.V_drewN | apply Kd.V_drew)); exact HO1.out) (Kd.N_base ho28) hb); have n2_ := Aside0.mk (Kd.N_lower ho28 (below_size (by repeat (first | (with_reducible first | exact HB.out | apply below_alloc | apply pw_below_drewN | apply below_drew1 | refine below_set ?_ GE568.out | refine below_set ?_ GE569.out) | exact HB.out)))); have n3_ := Aside0.mk (blk_below (g := gb568) (o := .cells #[.int .u8 a0_0, .int .i64 a0_1, .int .i64 a0_2, .int .i64 a0_3, .int .i64 a0_4, .int .i64 a0_5, .slice A0_6 l0_6.length c0_6] 26 (0, 0)) (by (with_reducible repeat (first | refine blk_drewN ?_ _ | refine blk_drew ?_ | refine blk_alloc ?_ _)); exact BK568.out) hb); have n4_ := Aside0.mk (blk_below (g := gb569) (o := .cells #[.int .u8 0, .int .i64 0, .int .i64 0, .int .i64 0, .int .i64 0, .int .i64 0, .slice none 0 0] 26 (0, 0)) (by (with_reducible repeat (first | refine blk_drewN ?_ _ | refine blk_drew ?_ | refine blk_alloc ?_ _)); exact BK569.out) hb); have n5_ := Aside0.mk (below_step (by repeat (first | (with_reducible first | exact HB.out | apply below_alloc | apply pw_below_drewN | apply below_drew1 | refine below_set ?_ GE568.out | refine below_set ?_ GE569.out) | exact HB.out)) hb); clear HO0_6; clear HO1; clear BK568; clear BK569; clear HB; have HO0_6 := n0_; have HO1 := n1_; have HO572 := n2_; have BK568 := n3_; have BK569 := n4_; have HB := n5_; clear n0_ n1_ n2_ n3_ n4_ n5_; clear hb ho28; obtain ⟨Ao29, co29, eo29⟩ := Kd.N_slice HO572.out; subst eo29) | ((with_reducible refine gate_callee (f := 83) rfl ?_); refine goesL_ (some 10) rfl rfl Try.func83 (by kernel_rfl) rfl #[.slice Ao29 y570.length co29] rfl (by (try simp only [List.map_toArray, List.map_cons, List.map_nil]); first | done | rfl | (simp only [List.length_drop, List.length_take]; rfl)) ?_; (with_reducible refine (cell_Leaves.calls k _ _ y570 t573 _ ?side1 ?side2 A3.out).mono ?_); (case side1 => repeat (first | exact (Kd.N_reads' HO572.out).2.2 | (with_reducible refine Kd.C_alloc ?_ _) | (with_reducible refine Kd.C_drewN ?_ _) | (with_reducible refine Kd.C_drew ?_))); (case side2 => exact (Kd.N_reads' HO572.out).2.1); rintro e w30 ⟨v574, rfl, ho0, hb⟩; refine ⟨_, rfl, ?_⟩; have n0_ := Aside0.mk (Kd.V_elder' (by (with_reducible repeat (first | apply Kd.V_alloc | apply Kd.V_drewN | apply Kd.V_drew)); exact HO0_6.out) (Kd.R_base ho0) hb); have n1_ := Aside0.mk (Kd.V_elder' (by (with_reducible repeat (first | apply Kd.V_alloc | apply Kd.V_drewN | apply Kd.V_drew)); exact HO1.out) (Kd.R_base ho0) hb); have n2_ := Aside0.mk (Kd.N_elder' (by (with_reducible repeat (first | apply Kd.N_alloc | apply Kd.N_drewN | apply Kd.N_drew)); exact HO572.out) (Kd.R_base ho0) hb); have n3_ := Aside0.mk (Kd.R_lower (Kd.R_newM (M := fun k_ => (w.heap.size ≤ k_)) ho0 (below_size (by repeat (first | (with_reducible first | exact HB.out | apply below_alloc | apply pw_below_drewN | apply below_drew1 | refine below_set ?_ GE568.out | refine below_set ?_ GE569.out) | exact HB.out))) (fun k_ h_ => h_)) (below_size (by repeat (first | (with_reducible first | exact HB.out | apply below_alloc | apply pw_below_drewN | apply below_drew1 | refine below_set ?_ GE568.out | refine below_set ?_ GE569.out) | exact HB.out)))); have n4_ := Aside0.mk (blk_below (g := gb568) (o := .cells #[.int .u8 a0_0, .int .i64 a0_1, .int .i64 a0_2, .int .i64 a0_3, .int .i64 a0_4, .int .i64 a0_5, .slice A0_6 l0_6.length c0_6] 26 (0, 0)) (by (with_reducible repeat (first | refine blk_drewN ?_ _ | refine blk_drew ?_ | refine blk_alloc ?_ _)); exact BK568.out) hb); have n5_ := Aside0.mk (blk_below (g := gb569) (o := .cells #[.int .u8 0, .int .i64 0, .int .i64 0, .int .i64 0, .int .i64 0, .int .i64 0, .slice none 0 0] 26 (0, 0)) (by (with_reducible repeat (first | refine blk_drewN ?_ _ | refine blk_drew ?_ | refine blk_alloc ?_ _)); exact BK569.out) hb); have n6_ := Aside0.mk (below_step (by repeat (first | (with_reducible first | exact HB.out | apply below_alloc | apply pw_below_drewN | apply below_drew1 | refine below_set ?_ GE568.out | refine below_set ?_ GE569.out) | exact HB.out)) hb); clear HO0_6; clear HO1; clear HO572; clear BK568; clear BK569; clear HB; have HO0_6 := n0_; have HO1 := n1_; have HO572 := n2_; have HO575 := n3_; have BK568 := n4_; have BK569 := n5_; have HB := n6_; clear n0_ n1_ n2_ n3_ n4_ n5_ n6_; (try clear hb); (try clear hb2); (try clear hk); (try clear hi); (try clear ho0); obtain ⟨Ao31, co31, eo31⟩ := Kd.R_slice HO575.out; subst eo31; have hcz32_0 : w30.cell? ⟨gb569, 0, none⟩ = some (.int .u8 0) := (blk_cell BK569.out 0).trans rfl; have hcz32_1 : w30.cell? ⟨gb569, 1, none⟩ = some (.int .i64 0) := (blk_cell BK569.out 1).trans rfl; have hcz32_2 : w30.cell? ⟨gb569, 2, none⟩ = some (.int .i64 0) := (blk_cell BK569.out 2).trans rfl; have hcz32_3 : w30.cell? ⟨gb569, 3, none⟩ = some (.int .i64 0) := (blk_cell BK569.out 3).trans rfl; have hcz32_4 : w30.cell? ⟨gb569, 4, none⟩ = some (.int .i64 0) := (blk_cell BK569.out 4).trans rfl; have hcz32_5 : w30.cell? ⟨gb569, 5, none⟩ = some (.int .i64 0) := (blk_cell BK569.out 5).trans rfl; have hcz32_6 : w30.cell? ⟨gb569, 6, none⟩ = some (.slice none 0 0) := (blk_cell BK569.out 6).trans rfl; have hfz32_0 := blk_frozen BK569.out 0; have hfz32_1 := blk_frozen BK569.out 1; have hfz32_2 := blk_frozen BK569.out 2; have hfz32_3 := blk_frozen BK569.out 3; have hfz32_4 := blk_frozen BK569.out 4; have hfz32_5 := blk_frozen BK569.out 5; have hfz32_6 := blk_frozen BK569.out 6))
    refine bodyPost_ret (results_ct rfl _ _ gb569 26 #[.int .u8 0, .int .i64 0, .int .i64 0, .int .i64 0, .int .i64 0, .int .i64 0, .slice none 0 0] (0, 0) _ rfl (by (with_reducible repeat (first | refine blk_drewN ?_ _ | refine blk_drew ?_ | refine blk_alloc ?_ _)); refine blk_put (cs := #[.int .u8 0, .int .i64 0, .int .i64 0, .int .i64 0, .int .i64 0, .int .i64 0, .slice none 0 0]) ?_ 6 _ rfl; (with_reducible repeat (first | refine blk_drewN ?_ _ | refine blk_drew ?_ | refine blk_alloc ?_ _)); refine blk_put (cs := #[.int .u8 0, .int .i64 0, .int .i64 0, .int .i64 0, .int .i64 0, .int .i64 0, .slice none 0 0]) ?_ 5 _ rfl; (with_reducible repeat (first | refine blk_drewN ?_ _ | refine blk_drew ?_ | refine blk_alloc ?_ _)); refine blk_put (cs := #[.int .u8 0, .int .i64 0, .int .i64 0, .int .i64 0, .int .i64 0, .int .i64 0, .slice none 0 0]) ?_ 4 _ rfl; (with_reducible repeat (first | refine blk_drewN ?_ _ | refine blk_drew ?_ | refine blk_alloc ?_ _)); refine blk_put (cs := #[.int .u8 0, .int .i64 0, .int .i64 0, .int .i64 0, .int .i64 0, .int .i64 0, .slice none 0 0]) ?_ 3 _ rfl; (with_reducible repeat (first | refine blk_drewN ?_ _ | refine blk_drew ?_ | refine blk_alloc ?_ _)); refine blk_put (cs := #[.int .u8 0, .int .i64 0, .int .i64 0, .int .i64 0, .int .i64 0, .int .i64 0, .slice none 0 0]) ?_ 2 _ rfl; (with_reducible repeat (first | refine blk_drewN ?_ _ | refine blk_drew ?_ | refine blk_alloc ?_ _)); refine blk_put (cs := #[.int .u8 0, .int .i64 0, .int .i64 0, .int .i64 0, .int .i64 0, .int .i64 0, .slice none 0 0]) ?_ 1 _ rfl; (with_reducible repeat (first | refine blk_drewN ?_ _ | refine blk_drew ?_ | refine blk_alloc ?_ _)); refine blk_put (cs := #[.int .u8 0, .int .i64 0, .int .i64 0, .int .i64 0, .int .i64 0, .int .i64 0, .slice none 0 0]) ?_ 0 _ rfl; (with_reducible repeat (first | refine blk_drewN ?_ _ | refine blk_drew ?_ | refine blk_alloc ?_ _)); exact BK569.out) Try.underlying26 rfl (by kernel_rfl)) rfl ?_
    exact ⟨_, by first | rfl | (simp [errW_none, errW_some] <;> rfl) | (simp [*, errW_none, errW_some] <;> rfl), by first | exact Kd.R_nil _ _ _ _ _ | exact Kd.N_nil _ _ _ _ _ | exact Kd.V_nil _ _ _ _ _ | exact Kd.Q_nil _ _ _ _ _ | exact Kd.S_nil _ _ _ _ _, by repeat (first | (with_reducible first | exact HB.out | apply below_alloc | apply pw_below_drewN | apply below_drew1 | refine below_set ?_ GE568.out | refine below_set ?_ GE569.out) | exact HB.out)⟩

end Go.Proofs.Ytfdmfgaiblfbhaa.P
/- A row of panes of the call's own: its tail cleared. -/
namespace Go.Proofs.Ytfdmfgaiblfbhaa.P
open Go.RowKit Go.Proofs.YtfdmfgaiblfbhaaW.PrintWords Go.Proofs.YtfdmfgaiblfbhaaW.PrintLast Go.Proofs.YtfdmfgaiblfbhaaW.PrintMore

/-- Cells written behind what a row holds. -/
theorem R_past {α : Type} {d : Kd α} {e base g m cap o : Nat} {w : World} {ok : Nat → Prop} {xs : List α} (vs : List Value) (h : d.R e w base ok (.slice (some ⟨g, 0, none⟩) m cap) xs) (ho : m * d.sz ≤ o) (hfit : o + vs.length ≤ cap * d.sz) :
    d.R e (w.setCells g o vs) base ok (.slice (some ⟨g, 0, none⟩) m cap) xs := by
  obtain ⟨h0, inner, ⟨hl, hv⟩, hr⟩ := h
  rcases hv with ⟨hv, _⟩ | ⟨g', cap', cur, hv, hb, hh, hnc, hcm, hcs, ht⟩
  · cases hv
  have hv' := hv
  simp only [Value.slice.injEq, Option.some.injEq, Addr.mk.injEq] at hv
  obtain ⟨⟨rfl, _⟩, hm, rfl⟩ := hv
  obtain ⟨cur', h3, h4, h5⟩ := setCells_row vs o w cur hh (by omega)
  refine ⟨h0, inner, ⟨hl, .inr ⟨g, cap, cur', hv', hb, h3, hnc, hcm, by rw [h4, hcs], ?_⟩⟩, hr.imp_ fun p q hp => d.M_move (fun k' hk' => setCells_far vs o k' (fun he => hk'.2 (by rw [he]; simp [Value.ownBlock]))) hp⟩
  subst hm
  have hcl : cap * d.sz = cur.toList.length := by rw [Array.length_toList]; exact hcs.symm
  have hmul : xs.length * d.sz ≤ cap * d.sz := Nat.mul_le_mul_right _ hnc
  rw [h5, List.append_assoc, List.take_append_of_le_length (by rw [List.length_take]; omega), List.take_take, Nat.min_eq_left ho, ht]
theorem clear35 {base g n cap i : Nat} {w0 w : World} {ok : Nat → Prop} {xs : List S35} (h : k35.R 35 w base ok (.slice (some ⟨g, 0, none⟩) n cap) xs) (hi : i < n) (hB : Below base w0 w) (c' : Nat) :
    ∃ w', (∀ ty, (Builtin.clear_ #[32] ty #[.slice (some ⟨g, i * 5, none⟩) (n - i) c']).run Try.prog w = .ok (.tuple #[]) w') ∧ k35.R 35 w' base ok (.slice (some ⟨g, 0, none⟩) i cap) (xs.take i) ∧ Below base w0 w' := by
  have hn : n = xs.length := (Kd.R_reads' h).1
  have hT := Kd.R_take h (m := i) (by omega)
  have hbg := Kd.R_base h g rfl
  obtain ⟨_, inner, ⟨hl, hv⟩, _⟩ := h
  rcases hv with ⟨hv, _⟩ | ⟨g', cap', cur, hv, hb, hh, hnc, hcm, hcs, ht⟩
  · cases hv
  simp only [Value.slice.injEq, Option.some.injEq, Addr.mk.injEq] at hv
  obtain ⟨⟨rfl, _⟩, hm, rfl⟩ := hv
  have hcs5 : cur.size = cap * 5 := hcs
  have hzc : (Builtin.zeroCells (Value.agg #[.int .i64 0, .int .i64 0, .int .i64 0, .int .i64 0, .int .i64 0]).cells (n - i)).toList = List.replicate ((n - i) * 5) (.int .i64 0) := by
    apply List.ext_getElem
    · simp [Builtin.zeroCells, Value.cells]
    · intro q h1 h2
      have h5 : q % 5 < 5 := Nat.mod_lt _ (by decide)
      simp only [Builtin.zeroCells, Value.cells, Array.toList_map, List.getElem_map, List.getElem_replicate, Array.getElem_toList, Array.getElem_range]
      generalize q % 5 = r at h5
      match r, h5 with
      | 0, _ => rfl
      | 1, _ => rfl
      | 2, _ => rfl
      | 3, _ => rfl
      | 4, _ => rfl
  have hfit : i * 5 + (List.replicate ((n - i) * 5) (Value.int .i64 0)).length ≤ cap * 5 := by
    rw [List.length_replicate]
    omega
  have hst := run_storeCells_cells (P := Try.prog) g (i * 5) (List.replicate ((n - i) * 5) (.int .i64 0)) 0 w (fun j hj => by rw [cell_of_row w g _ cur 35 (0, 0) hh]; simp at hj ⊢; omega) (fun j _ => blk_frozen hh _) (fun v hv' => by rw [List.eq_of_mem_replicate hv']; rfl)
  simp only [Nat.add_zero] at hst
  refine ⟨w.setCells g (i * 5) (List.replicate ((n - i) * 5) (.int .i64 0)), fun ty => ?_, R_past _ hT (Nat.le_refl _) hfit, ?_⟩
  · obtain ⟨m, hm⟩ : ∃ m, n - i = m + 1 := ⟨n - i - 1, by omega⟩
    rw [hm] at hzc hst ⊢
    simp [Builtin.clear_, run_underlying Try.underlying32, hzc, hst]
  · obtain ⟨s1, s2, s3, s4⟩ := setCells_same g (List.replicate ((n - i) * 5) (Value.int .i64 0)) (i * 5) w
    exact hB.trans ⟨s1, s2, s3, by rw [s4]; exact Nat.le_refl _, fun k hk => setCells_far _ _ k (by omega)⟩
end Go.Proofs.Ytfdmfgaiblfbhaa.P
/- The contract of slices.DeleteFunc at api.Pane over flat.Changed's closure: those panes that are new or of another size stay, in order. -/
namespace Go.Proofs.Ytfdmfgaiblfbhaa.P
open Go.RowKit Go.Proofs.YtfdmfgaiblfbhaaW.PrintWords Go.Proofs.YtfdmfgaiblfbhaaW.PrintLast Go.Proofs.YtfdmfgaiblfbhaaW.PrintMore

theorem wq31 {x : Int} (h0 : -9223372036854775808 ≤ x) (h1 : x ≤ 9223372036854775807) : wrap64 x = x := by unfold wrap64; omega
/-- Is a pane among l, of the same size? -/
def delB (l : List S35) (p : S35) : Bool := decide (0 ≤ findP p.f0 0 l) && ((rd_T35 l (findP p.f0 0 l)).f1.f2 == p.f1.f2 && (rd_T35 l (findP p.f0 0 l)).f1.f3 == p.f1.f3)
def keepL (l xs : List S35) : List S35 := xs.filter fun p => !delB l p
set_option maxHeartbeats 2000000 in
set_option maxRecDepth 100000 in
theorem chg133 (l : List S35) (A : Option Addr) (c : Nat) (p : S35) (bx : Nat) (w : World) (hr : Kd.C k35 w A l.length l) (hc : l.length ≤ c) (hb : w.heap[bx]? = some (.cells #[.slice A l.length c] 32 (0, 0))) :
    Calls Try.prog 133 #[.agg #[.int .i64 p.f0, .int .i64 p.f1.f0, .int .i64 p.f1.f1, .int .i64 p.f1.f2, .int .i64 p.f1.f3], .pointer (some ⟨bx, 0, none⟩)] w fun e w' => e = .returned (.bool (delB l p)) ∧ Below w.heap.size w w' := by
  have HR := Aside0.mk hr
  have HC := Aside0.mk hc
  have HK := Aside0.mk hb
  have hlen := hr.2.1
  have hrange := findP_range p.f0 l 0 (by omega)
  have hlt : bx < w.heap.size := (Array.getElem?_eq_some_iff.1 hb).1
  have hcell : w.cell? ⟨bx, 0, none⟩ = some (.slice A l.length c) := (blk_cell hb 0).trans rfl
  have HF := Aside0.mk fun (W : World) (hW : Below w.heap.size w W) => flat_find.calls A c l p.f0 (findP p.f0 0 l) W (Kd.C_below hr hW) hc rfl
  clear hb hr hc
  by_cases hi : 0 ≤ findP p.f0 0 l
  · have hi2 : findP p.f0 0 l < (l.length : Int) := by omega
    have hd0 : decide (0 ≤ findP p.f0 0 l) = true := decide_eq_true hi
    have HD : Aside0 (delB l p = ((rd_T35 l (findP p.f0 0 l)).f1.f2 == p.f1.f2 && (rd_T35 l (findP p.f0 0 l)).f1.f3 == p.f1.f3)) := ⟨by unfold delB; rw [hd0, Bool.true_and]⟩
    obtain ⟨ad, rfl, q0, q1, q2, q3, q4⟩ := at_T35 HR.out (findP p.f0 0 l) hi hi2
    rw [HD.out]
    generalize rd_T35 l (findP p.f0 0 l) = x at q0 q1 q2 q3 q4 ⊢
    generalize findP p.f0 0 l = i at hi hi2 hrange HF q0 q1 q2 q3 q4 hd0
    have Q2 := Aside0.mk q3
    have Q3 := Aside0.mk q4
    clear hrange HD q0 q1 q2 q3 q4
    cases h2 : (x.f1.f2 == p.f1.f2) <;> cases h3 : (x.f1.f3 == p.f1.f3)
    all_goals
      go_enter Try.func133, Try.ntmps133
      go_wp2_with fail
      refine (HF.out _ (below_alloc (Below.refl _ _) _)).mono ?_
      rintro e w2 ⟨rfl, hb⟩
      have HB := Aside0.mk (below_then (below_alloc (Below.refl _ _) _) (by simp) hb)
      have HP := Aside0.mk (blk_below (heap_alloc_new w _) hb)
      have c0 : w2.cell? ⟨bx, 0, none⟩ = some (.slice (some ad) l.length c) := (HB.out.cell hlt).trans hcell
      have c2 : w2.cell? ⟨w.heap.size, 3, none⟩ = some (.int .i64 p.f1.f2) := (blk_cell HP.out 3).trans rfl
      have c3 : w2.cell? ⟨w.heap.size, 4, none⟩ = some (.int .i64 p.f1.f3) := (blk_cell HP.out 4).trans rfl
      have r2 := (HB.out.cell (World.block_lt_of_cell? w _ Q2.out)).trans Q2.out
      have r3 := (HB.out.cell (World.block_lt_of_cell? w _ Q3.out)).trans Q3.out
      clear hb hcell
      go_wp2
      go_quiet (fail)
      go_wp2
      go_ret
      exact ⟨rfl, by with_reducible repeat (first | exact HB.out | apply pw_below_drewN | apply below_drew1)⟩
  · have hd0 : decide (0 ≤ findP p.f0 0 l) = false := decide_eq_false hi
    have HD : Aside0 (delB l p = false) := ⟨by unfold delB; rw [hd0, Bool.false_and]⟩
    rw [HD.out]
    generalize findP p.f0 0 l = i at hi hrange HF hd0
    clear hrange HD
    go_enter Try.func133, Try.ntmps133
    go_wp2_with fail
    refine (HF.out _ (below_alloc (Below.refl _ _) _)).mono ?_
    rintro e w2 ⟨rfl, hb⟩
    have HB := Aside0.mk (below_then (below_alloc (Below.refl _ _) _) (by simp) hb)
    clear hb hcell
    go_wp2
    go_quiet (fail)
    go_wp2
    go_ret
    exact ⟨rfl, by with_reducible repeat (first | exact HB.out | apply pw_below_drewN | apply below_drew1)⟩
theorem keepL_app (l a b : List S35) : keepL l (a ++ b) = keepL l a ++ keepL l b := List.filter_append _ _
theorem scan_del (l : List S35) : ∀ (xs : List S35) (i : Int), 0 ≤ i → ((scanI (fun (_ : Unit) (x : S35) => (delB l x, ())) i () xs).1 = -1 ∧ keepL l xs = xs) ∨ (∃ m : Nat, (scanI (fun (_ : Unit) (x : S35) => (delB l x, ())) i () xs).1 = i + m ∧ m < xs.length ∧ xs.take m = keepL l (xs.take (m + 1))) := by
  intro xs
  induction xs with
  | nil => intro i _; exact .inl ⟨rfl, rfl⟩
  | cons x xs ih =>
    intro i hi
    simp only [scanI]
    cases hx : delB l x with
    | true =>
      right
      refine ⟨0, by simp, by simp, ?_⟩
      simp [keepL, hx]
    | false =>
      rcases ih (i + 1) (by omega) with ⟨h1, h2⟩ | ⟨m, h1, h2, h3⟩
      · left
        refine ⟨by simpa using h1, ?_⟩
        unfold keepL at h2 ⊢
        rw [List.filter_cons_of_pos (by simp [hx]), h2]
      · right
        refine ⟨m + 1, ?_, by simp; omega, ?_⟩
        · simp only [Bool.false_eq_true, if_false]
          rw [h1]
          omega
        · unfold keepL at h3 ⊢
          rw [List.take_succ_cons, List.take_succ_cons, List.filter_cons_of_pos (by simp [hx]), ← h3]
theorem keep_step {l xs ys : List S35} {ii jj : Nat} (hy : ys.length = xs.length) (hij : ii < jj) (hj : jj < xs.length) (h1 : ys.take ii = keepL l (xs.take jj)) (h2 : ys.drop jj = xs.drop jj) :
    rd_T35 ys (jj : Int) = rd_T35 xs (jj : Int) ∧ (delB l (rd_T35 xs (jj : Int)) = true → ys.take ii = keepL l (xs.take (jj + 1)) ∧ ys.drop (jj + 1) = xs.drop (jj + 1)) ∧
      (delB l (rd_T35 xs (jj : Int)) = false → (ys.set ii (rd_T35 xs (jj : Int))).take (ii + 1) = keepL l (xs.take (jj + 1)) ∧ (ys.set ii (rd_T35 xs (jj : Int))).drop (jj + 1) = xs.drop (jj + 1)) := by
  have e : rd_T35 xs (jj : Int) = xs[jj] := by simp [rd_T35, List.getD_eq_getElem?_getD, hj]
  have e2 : rd_T35 ys (jj : Int) = xs[jj] := by
    have : ys[jj]? = xs[jj]? := by
      have h3 : (ys.drop jj)[0]? = (xs.drop jj)[0]? := by rw [h2]
      rwa [List.getElem?_drop, List.getElem?_drop, Nat.add_zero] at h3
    simp [rd_T35, List.getD_eq_getElem?_getD, this, hj]
  have hd : ys.drop (jj + 1) = xs.drop (jj + 1) := by
    rw [← List.drop_drop, ← List.drop_drop, h2]
  rw [e]
  refine ⟨e2, fun hx => ⟨?_, hd⟩, fun hx => ⟨?_, ?_⟩⟩
  · rw [List.take_succ_eq_append_getElem hj, keepL_app, h1]
    simp [keepL, hx]
  · rw [List.take_succ_eq_append_getElem hj, keepL_app, ← h1]
    rw [List.take_succ_eq_append_getElem (by rw [List.length_set]; omega), List.take_set_of_le (by omega), List.getElem_set_self]
    simp [keepL, hx]
  · rw [List.drop_set_of_lt (by omega), hd]
set_option maxHeartbeats 4000000 in
set_option maxRecDepth 100000 in
theorem del131 (l : List S35) (A : Option Addr) (c : Nat) (w0 w : World) (hr : Kd.C k35 w0 A l.length l) (hc : l.length ≤ c) (bx g cap : Nat) (xs : List S35) (ho : k35.R 35 w w0.heap.size (fun k => k ≠ bx) (.slice (some ⟨g, 0, none⟩) xs.length cap) xs)
    (hk : w.heap[bx]? = some (.cells #[.slice A l.length c] 32 (0, 0))) (hb : Below w0.heap.size w0 w) :
    Calls Try.prog 131 #[.slice (some ⟨g, 0, none⟩) xs.length cap, .func (.func 133) #[] #[.pointer (some ⟨bx, 0, none⟩)]] w fun e w' => ∃ v, e = .returned v ∧ k35.R 35 w' w0.heap.size (fun _ => True) v (keepL l xs) ∧ Below w0.heap.size w0 w' := by
  have HR := Aside0.mk hr
  have HC := Aside0.mk hc
  have HO := Aside0.mk ho
  have HK := Aside0.mk hk
  have HB := Aside0.mk hb
  have hcap := (Kd.R_reads' ho).2.1
  have HL := Aside0.mk (Kd.R_reads' ho).2.2.2.1
  have hgb := Kd.R_base ho g rfl
  have hgx : g ≠ bx := ho.1 g rfl
  have HCall := Aside0.mk fun (W : World) (x : S35) (hW : Below w0.heap.size w0 W) (hk : W.heap[bx]? = some (.cells #[.slice A l.length c] 32 (0, 0))) => chg133 l A c x bx W (Kd.C_below hr hW) hc hk
  have HI := Aside0.mk (idx171 (fun (_ : Unit) W => Below w.heap.size w W) (fun _ x => (delB l x, ())) 133 #[.pointer (some ⟨bx, 0, none⟩)] (enters_fn Try.func133 (by decide +kernel) (by kernel_rfl)) xs (some ⟨g, 0, none⟩) cap
    (fun _ W hW => Kd.C_below (Kd.R_reads' ho).2.2 hW) (fun _ W n hW => pw_below_drewN hW n)
    (fun _ W x _ hW => (HCall.out W x (below_then hb hb.size hW) (blk_below hk hW)).mono fun e w' ⟨he, hb'⟩ => ⟨he, below_then hW hW.size hb'⟩) () w (Below.refl _ _) HL.out)
  have hsc := scan_del l xs 0 (by omega)
  clear hr hc ho hk hb
  generalize (scanI (fun (_ : Unit) (x : S35) => (delB l x, ())) 0 () xs).1 = sc at HI hsc
  rcases hsc with ⟨rfl, hkeep⟩ | ⟨m, hm, hmn, hkeep⟩
  · have HE := Aside0.mk hkeep
    clear hkeep
    go_enter Try.func131, Try.ntmps131
    go_wp2_with fail
    refine HI.out.mono ?_
    rintro e w2 ⟨rfl, hb2⟩
    have HB2 := Aside0.mk hb2
    clear hb2
    go_wp2
    go_ret
    rw [HE.out]
    exact ⟨_, rfl, Kd.R_mono (Kd.R_below HO.out HB2.out) (fun _ _ => trivial), below_then HB.out HB.out.size HB2.out⟩
  · rw [Int.zero_add] at hm
    subst hm
    have HE := Aside0.mk hkeep
    clear hkeep
    have hm1 : decide ((m : Int) = -1) = false := by simp
    go_enter Try.func131, Try.ntmps131
    go_wp2_with fail
    refine HI.out.mono ?_
    rintro e w2 ⟨rfl, hb2⟩
    have HO2 := Aside0.mk (Kd.R_below HO.out hb2)
    have HK2 := Aside0.mk (blk_below HK.out hb2)
    have HB2 := Aside0.mk (below_then HB.out HB.out.size hb2)
    clear hb2 HO HK HB HI
    go_wp2
    go_loopg [5, 6, 7] xs.length (fun gg v5 v6 _ wr => ∃ (ii jj : Nat) (ys : List S35), v5 = .int .i64 ii ∧ v6 = .int .i64 jj ∧ ii < jj ∧ jj ≤ xs.length ∧ xs.length - jj ≤ gg ∧ Aside0 (ys.length = xs.length) ∧ Aside0 (ys.take ii = keepL l (xs.take jj)) ∧ Aside0 (ys.drop jj = xs.drop jj) ∧
      Aside0 (k35.R 35 wr w0.heap.size (fun k => k ≠ bx) (.slice (some ⟨g, 0, none⟩) xs.length cap) ys) ∧ Aside0 (wr.heap[bx]? = some (.cells #[.slice A l.length c] 32 (0, 0))) ∧ Aside0 (Below w0.heap.size w0 wr))
    case atStart => exact ⟨m, m + 1, xs, rfl, (by rw [wq31 (by omega) (by have := HL.out; omega)]; rfl), by omega, by omega, by omega, ⟨rfl⟩, HE, ⟨rfl⟩, HO2, HK2, HB2⟩
    case round =>
      clear HO2 HK2 HB2 HE
      obtain ⟨ii, jj, ys, rfl, rfl, hij, hjn, hgg, HY, HT, HD, HO, HK, HB⟩ := hrel
      by_cases hlt : jj < xs.length
      · have hltz : (jj : Int) < (xs.length : Int) := by omega
        obtain ⟨hrd, hdel, hkp⟩ := keep_step HY.out hij hlt HT.out HD.out
        have hw : wrap64 ((jj : Int) + 1) = ((jj + 1 : Nat) : Int) := (wq31 (by omega) (by have := HL.out; omega)).trans (by omega)
        have hwi : wrap64 ((ii : Int) + 1) = ((ii + 1 : Nat) : Int) := (wq31 (by omega) (by have := HL.out; omega)).trans (by omega)
        obtain ⟨ad, he, q0, q1, q2, q3, q4⟩ := at_T35 (Kd.R_reads' HO.out).2.2 (jj : Int) (by omega) (by rw [HY.out]; omega)
        cases he
        rw [hrd] at q0 q1 q2 q3 q4
        have HDel := Aside0.mk hdel
        have HKp := Aside0.mk hkp
        clear hrd hdel hkp
        simp only [Int.toNat_natCast, add_at, Nat.zero_add] at q0 q1 q2 q3 q4
        generalize rd_T35 xs (jj : Int) = x at q0 q1 q2 q3 q4 HDel HKp
        have hlw := HB.out.size
        cases hx : delB l x with
        | true =>
          have HX := Aside0.mk hx
          have HD2 := Aside0.mk (HDel.out hx)
          clear hx HDel HKp HT HD
          go_wp2_with fail
          refine (HCall.out _ x (below_alloc HB.out _) (blk_below HK.out (below_alloc (Below.refl _ _) _))).mono ?_
          rw [HX.out]
          rintro e w3 ⟨rfl, hb3⟩
          have HB3 := Aside0.mk (below_then (below_alloc HB.out _) (below_alloc HB.out _).size hb3)
          have HW := Aside0.mk (below_then (below_alloc (Below.refl wr.heap.size wr) (.cells #[.int .i64 x.f0, .int .i64 x.f1.f0, .int .i64 x.f1.f1, .int .i64 x.f1.f2, .int .i64 x.f1.f3] 35)) (by simp) hb3)
          have HO3 := Aside0.mk (Kd.R_below HO.out HW.out)
          have HK3 := Aside0.mk (blk_below HK.out HW.out)
          clear hb3 HW HO HK HB HX q0 q1 q2 q3 q4
          go_wp2
          go_roundg (xs.length - (jj + 1))
          case measure => exact Nat.lt_of_lt_of_le (Nat.sub_lt_sub_left hlt (Nat.lt_succ_self jj)) hgg
          case rel => exact ⟨ii, jj + 1, ys, rfl, by rw [hw], Nat.lt_succ_of_lt hij, hlt, Nat.le_refl _, HY, ⟨HD2.out.1⟩, ⟨HD2.out.2⟩, HO3, HK3, HB3⟩
        | false =>
          have HX := Aside0.mk hx
          have HD2 := Aside0.mk (HKp.out hx)
          clear hx HDel HKp HT HD
          go_wp2_with fail
          refine (HCall.out _ x (below_alloc HB.out _) (blk_below HK.out (below_alloc (Below.refl _ _) _))).mono ?_
          rw [HX.out]
          rintro e w3 ⟨rfl, hb3⟩
          have HB3 := Aside0.mk (below_then (below_alloc HB.out _) (below_alloc HB.out _).size hb3)
          have HW := Aside0.mk (below_then (below_alloc (Below.refl wr.heap.size wr) (.cells #[.int .i64 x.f0, .int .i64 x.f1.f0, .int .i64 x.f1.f1, .int .i64 x.f1.f2, .int .i64 x.f1.f3] 35)) (by simp) hb3)
          have HO3 := Aside0.mk (Kd.R_below HO.out HW.out)
          have HK3 := Aside0.mk (blk_below HK.out HW.out)
          have HP := Aside0.mk (blk_below (heap_alloc_new wr _) hb3)
          have p0 : w3.cell? ⟨wr.heap.size, 0, none⟩ = some (.int .i64 x.f0) := (blk_cell HP.out 0).trans rfl
          have p1 : w3.cell? ⟨wr.heap.size, 1, none⟩ = some (.int .i64 x.f1.f0) := (blk_cell HP.out 1).trans rfl
          have p2 : w3.cell? ⟨wr.heap.size, 2, none⟩ = some (.int .i64 x.f1.f1) := (blk_cell HP.out 2).trans rfl
          have p3 : w3.cell? ⟨wr.heap.size, 3, none⟩ = some (.int .i64 x.f1.f2) := (blk_cell HP.out 3).trans rfl
          have p4 : w3.cell? ⟨wr.heap.size, 4, none⟩ = some (.int .i64 x.f1.f3) := (blk_cell HP.out 4).trans rfl
          have hiiz : (ii : Int) < (xs.length : Int) := Int.ofNat_lt.2 (Nat.lt_trans hij hlt)
          obtain ⟨c5, hc5, _, hcc5, _⟩ := Kd.R_elem HO3.out z35 (ii : Int) (Int.natCast_nonneg _) hiiz
          have HC5 := Aside0.mk hcc5
          have HL5 := Aside0.mk hc5
          have HD5 : Aside0 (c5.drop 5 = []) := ⟨List.drop_eq_nil_of_le (Nat.le_of_eq hc5)⟩
          clear hb3 HW HO HK HB HX q0 q1 q2 q3 q4 hcc5 hc5
          go_wp2_with ((with_reducible refine gate_ (.store 35 (.tmp 33) (.tmp 32)) rfl ?_); go_loud (refine Kd.R_store k35 (w0 := w0) w0.heap.size rfl rfl 35 (.tmp 33) (.tmp 32) rfl 35 (g := g) (n := xs.length) (cap := cap) (o' := ii * 5) (ii : Int) 0 ys x (.agg #[.int .i64 x.f0, .int .i64 x.f1.f0, .int .i64 x.f1.f1, .int .i64 x.f1.f2, .int .i64 x.f1.f3]) [.int .i64 x.f0, .int .i64 x.f1.f0, .int .i64 x.f1.f1, .int .i64 x.f1.f2, .int .i64 x.f1.f3] c5 (fun k => k ≠ bx) (fun _ => False) ?sA ?sO ?sX rfl ?sT ?s1 HO3.out (Int.natCast_nonneg _) hiiz HL5.out ?sC (by show 0 + 5 ≤ 5; omega) ?sM (fun _ h => h.elim) HB3.out ?_); (case sA => rfl); (case sO => (show ii * 5 = ii * 5 + 0; rfl)); (case sX => rfl); (case sT => rfl); (case s1 => (simp [Value.oneCell'])); (case sC => exact HC5.out); (case sM => (show Kd.M k35 _ _ _ x ([] ++ [.int .i64 x.f0, .int .i64 x.f1.f0, .int .i64 x.f1.f1, .int .i64 x.f1.f2, .int .i64 x.f1.f3] ++ c5.drop 5); rw [HD5.out]; exact k35_mkM _ _ _ x)); intro w4 h4 hb4 hg4; have HO4 := Aside0.mk h4; have HB4 := Aside0.mk hb4; have HG4 := Aside0.mk hg4; clear h4 hb4 hg4)
          have HK4 := Aside0.mk ((HG4.out.block bx (Array.getElem?_eq_some_iff.1 HK3.out).1 (fun he => hgx (Option.some.inj he).symm)).trans HK3.out)
          clear HG4 HO3 HK3 HB3 HP HC5 HL5 HD5 p0 p1 p2 p3 p4
          go_wp2
          go_roundg (xs.length - (jj + 1))
          case measure => exact Nat.lt_of_lt_of_le (Nat.sub_lt_sub_left hlt (Nat.lt_succ_self jj)) hgg
          case rel => exact ⟨ii + 1, jj + 1, ys.set ii x, by rw [hwi], by rw [hw], Nat.succ_lt_succ hij, hlt, Nat.le_refl _, ⟨by rw [List.length_set]; exact HY.out⟩, ⟨HD2.out.1⟩, ⟨HD2.out.2⟩, HO4, HK4, HB4⟩
      · have hltz : ¬ (jj : Int) < (xs.length : Int) := by omega
        have hin : ii < xs.length := by omega
        obtain ⟨w5, hcl, hR5, hB5⟩ := clear35 HO.out hin HB.out (cap - ii)
        have hfin : ys.take ii = keepL l xs := by rw [HT.out, List.take_of_length_le (by omega)]
        have HF := Aside0.mk hfin
        have HR5 := Aside0.mk hR5
        have HB5 := Aside0.mk hB5
        have hiz : (ii : Int) < (xs.length : Int) := by omega
        have hiz2 : (ii : Int) ≤ (xs.length : Int) := by omega
        have hiz3 : (ii : Int) ≤ (cap : Int) := by omega
        clear HT HD HO HK HB hR5 hB5 hfin HY
        go_wp2
        go_ret
        refine ⟨_, rfl, ?_, HB5.out⟩
        rw [← HF.out]
        exact Kd.R_mono HR5.out (fun _ _ => trivial)
end Go.Proofs.Ytfdmfgaiblfbhaa.P
/- The contract of slices.Clone at api.Pane: the same panes, in a row of the call's own. -/
namespace Go.Proofs.Ytfdmfgaiblfbhaa.P
open Go.RowKit Go.Proofs.YtfdmfgaiblfbhaaW.PrintWords Go.Proofs.YtfdmfgaiblfbhaaW.PrintLast Go.Proofs.YtfdmfgaiblfbhaaW.PrintMore

def api_Pane_132.f (l0 : List (S35)) : Option (List S35) := if l0.length ≤ 1000000 then some l0 else none
set_option maxHeartbeats 2000000 in
set_option maxRecDepth 100000 in
theorem api_Pane_132.calls (A0 : Option Addr) (c0 : Nat) (l0 : List (S35)) (r : List S35) (w : World) (hr0 : Kd.C k35 w A0 l0.length l0) (hc0 : l0.length ≤ c0) (h : api_Pane_132.f l0 = some r) :
    Calls Try.prog 132 #[.slice A0 l0.length c0] w fun e w' => ∃ v0_ : Value, e = .returned (v0_) ∧ Kd.R k35 35 w' w.heap.size (fun _ => True) v0_ r ∧ Below w.heap.size w w' := by
  unfold api_Pane_132.f at h
  split at h
  · rename_i hl
    injection h with h
    subst h
    have HR := Aside0.mk hr0
    have HL := Aside0.mk hl
    clear hl
    cases A0 with
    | none =>
      have heq : ∀ W : World, (binOp .eql 32 (.slice none l0.length c0) (.slice none 0 0)).run Try.prog W = .ok (.bool true) W := fun W => Lib.run_eql_slice_nil W 32 35 none l0.length c0 0 0 Try.underlying32
      have e0 : l0 = [] := by
        cases l0 with
        | nil => rfl
        | cons x xs =>
          obtain ⟨ad, h1, _⟩ := hr0.2.2 (by simp)
          cases h1
      have E0 := Aside0.mk e0
      clear hr0 e0
      go_enter Try.func132, Try.ntmps132
      go_wp2
      go_ret
      exact ⟨_, rfl, by rw [E0.out]; exact Kd.R_nil _ _ _ _ _, Below.refl _ _⟩
    | some ad =>
      have heq : ∀ W : World, (binOp .eql 32 (.slice (some ad) l0.length c0) (.slice none 0 0)).run Try.prog W = .ok (.bool false) W := fun W => Lib.run_eql_slice_nil W 32 35 (some ad) l0.length c0 0 0 Try.underlying32
      clear hr0
      go_enter Try.func132, Try.ntmps132
      go_wp2_with (first | ((with_reducible refine gate_dst (N := 5) rfl ?_); refine Kd.R_lit k35 w.heap.size 35 ?hg (N := 5) ?hd (xs := ([] : List S35)) (inner := []) (ok := fun _ => True) (okp := fun _ => True) ?hr ?hp (fun _ hk => hk) trivial (Below.refl _ _) (Nat.le_refl _) (by simp) ?_; (case hd => rfl); (case hg => rfl); (case hr => first | (go_simp; done) | (go_simp; rfl)); (case hp => exact Reps.none _ _); intro v5 w5 ho hb hg_ hnew_; clear hg_ hnew_; have HO := Aside0.mk ho; have HB := Aside0.mk hb; clear ho hb; obtain ⟨Ao, co, eo⟩ := Kd.R_slice HO.out; subst eo) | ((with_reducible refine gate_builtin (b := .append) (xs := #[.tmp 5, .tmp 6]) rfl ?_); at_builtin; refine Kd.R_append_rows (Rr := k35.K w) k35 (w0 := w) w.heap.size rfl (.tmp 5) (.tmp 6) 32 35 (.agg #[(.int .i64 0), (.int .i64 0), (.int .i64 0), (.int .i64 0), (.int .i64 0)]) 40 rfl Try.underlying32 info35 rfl (by decide) (by omega) (.slice Ao ([] : List S35).length co) [] l0 _ _ _ (fun _ => True) (fun _ => False) rfl rfl ?aO ?aR ?aK (fun _ h => h.elim) (fun _ _ => trivial) ?aB ?aS ?aL ?_; (case aO => exact HO.out); (case aR => exact Kd.C_below HR.out HB.out); (case aK => exact (fun x cs h => by rw [k35_open h]; exact k35_mkM _ _ _ x)); (case aB => exact HB.out); (case aS => exact below_size HB.out); (case aL => (have := HL.out; simp only [List.length_nil]; omega)); intro v7 w7 h1 h2 h3_ h4_; clear h3_ h4_; have HO7 := Aside0.mk h1; have HB7 := Aside0.mk h2; clear h1 h2 HO HB))
      go_wp2
      go_ret
      exact ⟨_, rfl, HO7.out, HB7.out⟩
  · exact absurd h (by simp)
end Go.Proofs.Ytfdmfgaiblfbhaa.P
/- The contract of flat.Changed: those panes that are new or of another size, in order. -/
namespace Go.Proofs.Ytfdmfgaiblfbhaa.P
open Go.RowKit Go.Proofs.YtfdmfgaiblfbhaaW.PrintWords Go.Proofs.YtfdmfgaiblfbhaaW.PrintLast Go.Proofs.YtfdmfgaiblfbhaaW.PrintMore

/-- DeleteFunc at the row without an array. -/
theorem del131_nil (l : List S35) (w : World) (bx : Nat) :
    Calls Try.prog 131 #[.slice none 0 0, .func (.func 133) #[] #[.pointer (some ⟨bx, 0, none⟩)]] w fun e w' => e = .returned (.slice none 0 0) ∧ Below w.heap.size w w' := by
  have HI := Aside0.mk (idx171 (fun (_ : Unit) W => Below w.heap.size w W) (fun _ x => (delB l x, ())) 133 #[.pointer (some ⟨bx, 0, none⟩)] (enters_fn Try.func133 (by decide +kernel) (by kernel_rfl)) [] none 0
    (fun _ W _ => Kd.C_nil k35 W) (fun _ W n hW => pw_below_drewN hW n) (fun _ W x hx _ => absurd hx (by simp)) () w (Below.refl _ _) (by simp))
  go_enter Try.func131, Try.ntmps131
  go_wp2_with fail
  refine HI.out.mono ?_
  rintro e w2 ⟨rfl, hb2⟩
  have HB2 := Aside0.mk hb2
  clear hb2
  have hs : (scanI (fun (_ : Unit) (x : S35) => (delB l x, ())) 0 () []).1 = -1 := rfl
  go_wp2
  go_ret
  exact ⟨rfl, HB2.out⟩
def flat_Changed.f (l0 : List (S35)) (l1 : List (S35)) : Option (List S35) := if l1.length ≤ 1000000 then some (keepL l0 l1) else none
set_option maxHeartbeats 2000000 in
set_option maxRecDepth 100000 in
theorem flat_Changed.calls (A0 : Option Addr) (c0 : Nat) (l0 : List (S35)) (A1 : Option Addr) (c1 : Nat) (l1 : List (S35)) (r : List S35) (w : World) (hr0 : Kd.C k35 w A0 l0.length l0) (hc0 : l0.length ≤ c0) (hr1 : Kd.C k35 w A1 l1.length l1) (hc1 : l1.length ≤ c1) (h : flat_Changed.f l0 l1 = some r) :
    Calls Try.prog 55 #[.slice A0 l0.length c0, .slice A1 l1.length c1] w fun e w' => ∃ v0_ : Value, e = .returned (v0_) ∧ Kd.R k35 35 w' w.heap.size (fun _ => True) v0_ r ∧ Below w.heap.size w w' := by
  unfold flat_Changed.f at h
  split at h
  · rename_i hl
    injection h with h
    subst h
    have HR0 := Aside0.mk hr0
    have HC0 := Aside0.mk hc0
    have HCl := Aside0.mk fun (W : World) (hW : Below w.heap.size w W) => api_Pane_132.calls A1 c1 l1 l1 W (Kd.C_below hr1 hW) hc1 (by unfold api_Pane_132.f; rw [if_pos hl])
    clear hr0 hc0 hr1 hc1 hl
    go_enter Try.func55, Try.ntmps55
    go_wp2_with fail
    refine (HCl.out _ (below_alloc (Below.refl _ _) _)).mono ?_
    rintro e w2 ⟨v, rfl, ho, hb⟩
    have hbx := blk_below (heap_alloc_new w _) hb
    have hB2 := below_then (below_alloc (Below.refl w.heap.size w) (.cells #[.slice A0 l0.length c0] 32)) (by simp) hb
    have hlow := Kd.R_lower ho (below_alloc (Below.refl w.heap.size w) (.cells #[.slice A0 l0.length c0] 32)).size
    have hne : ∀ k, v.ownBlock = some k → k ≠ w.heap.size := fun k hk => by have := Kd.R_base ho k hk; simp at this; omega
    have HO := Aside0.mk (Kd.R_reok (ok := fun k => k ≠ w.heap.size) rfl hlow hne)
    have HK := Aside0.mk hbx
    have HB := Aside0.mk hB2
    clear ho hb hbx hB2 hlow hne HCl
    rcases HO.out.2 with ⟨inner, ⟨_, ⟨hv, h0⟩ | ⟨g, cap, cur, hv, _⟩⟩, _⟩
    · have e0 : l1 = [] := List.length_eq_zero_iff.1 h0
      have HD := Aside0.mk fun (W : World) => del131_nil l0 W w.heap.size
      subst hv
      subst e0
      clear h0
      go_wp2_with fail
      refine (HD.out _).mono ?_
      rintro e w3 ⟨rfl, hb3⟩
      have HB3 := Aside0.mk (below_then HB.out HB.out.size hb3)
      clear hb3
      go_wp2
      go_ret
      exact ⟨_, rfl, Kd.R_nil _ _ _ _ _, HB3.out⟩
    · subst hv
      have HD := Aside0.mk (del131 l0 A0 c0 w w2 HR0.out HC0.out w.heap.size g cap l1 HO.out HK.out HB.out)
      go_wp2_with fail
      refine HD.out.mono ?_
      rintro e w3 ⟨v3, rfl, ho3, hb3⟩
      have HO3 := Aside0.mk ho3
      have HB3 := Aside0.mk hb3
      clear ho3 hb3
      go_wp2
      go_ret
      exact ⟨_, rfl, HO3.out, HB3.out⟩
  · exact absurd h (by simp)
end Go.Proofs.Ytfdmfgaiblfbhaa.P
