/- CellMays: part 4 of 6 of this claim's texts, one behind the other. The words of the kit's printer stand in it cut down, by a program, to those that are used. -/
import Derived.Test.YtfdmfgaiblfbhaaMCellMaysc
import Derived.Shelf.Spec.SlicesInsert
import Derived.Shelf.Spec.SlicesInsertGrow
namespace Go.Proofs.Ytfdmfgaiblfbhaa.P
open Go.RowKit Go.Proofs.YtfdmfgaiblfbhaaW.PrintWords Go.Proofs.YtfdmfgaiblfbhaaW.PrintLast Go.Proofs.YtfdmfgaiblfbhaaW.PrintMore
attribute [local go_sem] max2_int min2_int max_two min_two max_three min_three max_four min_four   -- for this text's walks alone
set_option linter.unusedVariables false
set_option linter.unusedSimpArgs false

/-! ### sashref05_May: function 38 -/
mutual
def sashref05_May.l0 : Nat → List (S26) → Int → Int → Int → Int → Int → Int → Int → Int → List (S26) → Option (Bool)
  | 0, _, _, _, _, _, _, _, _, _, _ => none
  | k + 1, x3, x14, x15, x175000, x175001, x175002, x175003, x175004, x175005, x175006 => if x15 < x14 then (if 0 ≤ x15 then (if x15 < (x3.length : Int) then ((sashref04_May.f ((rd_T26 x3 x15).f1.f0) ((rd_T26 x3 x15).f1.f1) ((rd_T26 x3 x15).f1.f2) ((rd_T26 x3 x15).f1.f3)).bind fun t179 => (if t179 = true then (if ((rd_T26 x3 x15).f0) < 1 then (sashref05_May.j1 k x3 x15 x14 x15 true x175000 x175001 x175002 x175003 x175004 x175005 x175006) else (sashref05_May.j1 k x3 x15 x14 x15 (decide (((rd_T26 x3 x15).f0) > 3)) x175000 x175001 x175002 x175003 x175004 x175005 x175006)) else (sashref05_May.j1 k x3 x15 x14 x15 true x175000 x175001 x175002 x175003 x175004 x175005 x175006))) else (none)) else (none)) else ((sashref05_Leaves.f k x175000 x175001 x175002 x175003 x175004 x175005 x175006).bind fun t192 => (sashref05_May.l1 k t192 (t192.length : Int) 0))
def sashref05_May.j1 : Nat → List (S26) → Int → Int → Int → Bool → Int → Int → Int → Int → Int → Int → List (S26) → Option (Bool)
  | 0, _, _, _, _, _, _, _, _, _, _, _, _ => none
  | k + 1, x3, x4, x14, x15, x40, x175000, x175001, x175002, x175003, x175004, x175005, x175006 => if x40 = true then (some false) else (if 0 ≤ x4 then (if x4 < (x3.length : Int) then (if ((rd_T26 x3 x4).f0) = 1 then (if (((rd_T26 x3 x4).f3).length : Int) > 0 then (some false) else (if ((rd_T26 x3 x4).f2) < 0 then (some false) else (if ((rd_T26 x3 x4).f2) > 2147483647 then (some false) else (if ((rd_T26 x3 x4).f0) > 1 then (if (((rd_T26 x3 x4).f3).length : Int) < 2 then (some false) else (if ((rd_T26 x3 x4).f2) = 0 then (sashref05_May.l0 k x3 x14 (wrap64 (x15 + 1)) x175000 x175001 x175002 x175003 x175004 x175005 x175006) else (some false))) else (sashref05_May.l0 k x3 x14 (wrap64 (x15 + 1)) x175000 x175001 x175002 x175003 x175004 x175005 x175006))))) else (if ((rd_T26 x3 x4).f0) > 1 then (if (((rd_T26 x3 x4).f3).length : Int) < 2 then (some false) else (if ((rd_T26 x3 x4).f2) = 0 then (sashref05_May.l0 k x3 x14 (wrap64 (x15 + 1)) x175000 x175001 x175002 x175003 x175004 x175005 x175006) else (some false))) else (sashref05_May.l0 k x3 x14 (wrap64 (x15 + 1)) x175000 x175001 x175002 x175003 x175004 x175005 x175006))) else (none)) else (none))
def sashref05_May.l1 : Nat → List (S26) → Int → Int → Option (Bool)
  | 0, _, _, _ => none
  | k + 1, x5, x101, x102 => if x102 < x101 then (sashref05_May.l2 k x5 x102 0 x101 x102) else (some true)
def sashref05_May.l2 : Nat → List (S26) → Int → Int → Int → Int → Option (Bool)
  | 0, _, _, _, _, _ => none
  | k + 1, x5, x6, x7, x101, x102 => if x7 < x6 then (if 0 ≤ x6 then (if x6 < (x5.length : Int) then (if 0 ≤ x7 then (if x7 < (x5.length : Int) then (if ((rd_T26 x5 x6).f2) = ((rd_T26 x5 x7).f2) then (some false) else (sashref05_May.l2 k x5 x6 (wrap64 (x7 + 1)) x101 x102)) else (none)) else (none)) else (none)) else (none)) else (sashref05_May.l1 k x5 x101 (wrap64 (x102 + 1)))
end
def sashref05_May.f (k : Nat) (a0_0 : Int) (a0_1 : Int) (a0_2 : Int) (a0_3 : Int) (a0_4 : Int) (a0_5 : Int) (l0_6 : List (S26)) : Option (Bool) := (sashref05_All.f k a0_0 a0_1 a0_2 a0_3 a0_4 a0_5 l0_6).bind fun t175 => (if (t175.length : Int) > 20000 then (some false) else (sashref05_May.l0 k t175 (t175.length : Int) 0 a0_0 a0_1 a0_2 a0_3 a0_4 a0_5 l0_6))
theorem sashref05_May.mono_l : ∀ k, (∀ y0 y1 y2 y3 y4 y5 y6 y7 y8 y9, LeO (sashref05_May.l0 k y0 y1 y2 y3 y4 y5 y6 y7 y8 y9) (sashref05_May.l0 (k + 1) y0 y1 y2 y3 y4 y5 y6 y7 y8 y9)) ∧ (∀ y0 y1 y2 y3 y4 y5 y6 y7 y8 y9 y10 y11, LeO (sashref05_May.j1 k y0 y1 y2 y3 y4 y5 y6 y7 y8 y9 y10 y11) (sashref05_May.j1 (k + 1) y0 y1 y2 y3 y4 y5 y6 y7 y8 y9 y10 y11)) ∧ (∀ y0 y1 y2, LeO (sashref05_May.l1 k y0 y1 y2) (sashref05_May.l1 (k + 1) y0 y1 y2)) ∧ (∀ y0 y1 y2 y3 y4, LeO (sashref05_May.l2 k y0 y1 y2 y3 y4) (sashref05_May.l2 (k + 1) y0 y1 y2 y3 y4))
  | 0 => ⟨fun _ _ _ _ _ _ _ _ _ _ r h => by simp [sashref05_May.l0] at h, fun _ _ _ _ _ _ _ _ _ _ _ _ r h => by simp [sashref05_May.j1] at h, fun _ _ _ r h => by simp [sashref05_May.l1] at h, fun _ _ _ _ _ r h => by simp [sashref05_May.l2] at h⟩
  | k + 1 => by
    obtain ⟨ih0, ih1, ih2, ih3⟩ := sashref05_May.mono_l k
    refine ⟨?_, ?_, ?_, ?_⟩
    · intro y0 y1 y2 y3 y4 y5 y6 y7 y8 y9
      unfold sashref05_May.l0
      repeat' first
      | (with_reducible exact ih0 _ _ _ _ _ _ _ _ _ _)
      | (with_reducible exact ih1 _ _ _ _ _ _ _ _ _ _ _ _)
      | (with_reducible exact ih2 _ _ _)
      | (with_reducible exact ih3 _ _ _ _ _)
      | (with_reducible exact sashref05_All.mono _ _ _ _ _ _ _ _)
      | (with_reducible exact sashref05_Leaves.mono _ _ _ _ _ _ _ _)
      | (with_reducible exact LeO.refl _)
      | (with_reducible exact LeO.none _)
      | (with_reducible refine LeO.ite ?_ ?_)
      | (with_reducible refine LeO.bind ?_ (fun _ => ?_))
      | exact ih0 _ _ _ _ _ _ _ _ _ _
      | exact ih1 _ _ _ _ _ _ _ _ _ _ _ _
      | exact ih2 _ _ _
      | exact ih3 _ _ _ _ _
      | exact sashref05_All.mono _ _ _ _ _ _ _ _
      | exact sashref05_Leaves.mono _ _ _ _ _ _ _ _
      | exact LeO.none _
      | refine LeO.ite ?_ ?_
      | refine LeO.bind ?_ (fun _ => ?_)
    · intro y0 y1 y2 y3 y4 y5 y6 y7 y8 y9 y10 y11
      unfold sashref05_May.j1
      repeat' first
      | (with_reducible exact ih0 _ _ _ _ _ _ _ _ _ _)
      | (with_reducible exact ih1 _ _ _ _ _ _ _ _ _ _ _ _)
      | (with_reducible exact ih2 _ _ _)
      | (with_reducible exact ih3 _ _ _ _ _)
      | (with_reducible exact sashref05_All.mono _ _ _ _ _ _ _ _)
      | (with_reducible exact sashref05_Leaves.mono _ _ _ _ _ _ _ _)
      | (with_reducible exact LeO.refl _)
      | (with_reducible exact LeO.none _)
      | (with_reducible refine LeO.ite ?_ ?_)
      | (with_reducible refine LeO.bind ?_ (fun _ => ?_))
      | exact ih0 _ _ _ _ _ _ _ _ _ _
      | exact ih1 _ _ _ _ _ _ _ _ _ _ _ _
      | exact ih2 _ _ _
      | exact ih3 _ _ _ _ _
      | exact sashref05_All.mono _ _ _ _ _ _ _ _
      | exact sashref05_Leaves.mono _ _ _ _ _ _ _ _
      | exact LeO.none _
      | refine LeO.ite ?_ ?_
      | refine LeO.bind ?_ (fun _ => ?_)
    · intro y0 y1 y2
      unfold sashref05_May.l1
      repeat' first
      | (with_reducible exact ih0 _ _ _ _ _ _ _ _ _ _)
      | (with_reducible exact ih1 _ _ _ _ _ _ _ _ _ _ _ _)
      | (with_reducible exact ih2 _ _ _)
      | (with_reducible exact ih3 _ _ _ _ _)
      | (with_reducible exact sashref05_All.mono _ _ _ _ _ _ _ _)
      | (with_reducible exact sashref05_Leaves.mono _ _ _ _ _ _ _ _)
      | (with_reducible exact LeO.refl _)
      | (with_reducible exact LeO.none _)
      | (with_reducible refine LeO.ite ?_ ?_)
      | (with_reducible refine LeO.bind ?_ (fun _ => ?_))
      | exact ih0 _ _ _ _ _ _ _ _ _ _
      | exact ih1 _ _ _ _ _ _ _ _ _ _ _ _
      | exact ih2 _ _ _
      | exact ih3 _ _ _ _ _
      | exact sashref05_All.mono _ _ _ _ _ _ _ _
      | exact sashref05_Leaves.mono _ _ _ _ _ _ _ _
      | exact LeO.none _
      | refine LeO.ite ?_ ?_
      | refine LeO.bind ?_ (fun _ => ?_)
    · intro y0 y1 y2 y3 y4
      unfold sashref05_May.l2
      repeat' first
      | (with_reducible exact ih0 _ _ _ _ _ _ _ _ _ _)
      | (with_reducible exact ih1 _ _ _ _ _ _ _ _ _ _ _ _)
      | (with_reducible exact ih2 _ _ _)
      | (with_reducible exact ih3 _ _ _ _ _)
      | (with_reducible exact sashref05_All.mono _ _ _ _ _ _ _ _)
      | (with_reducible exact sashref05_Leaves.mono _ _ _ _ _ _ _ _)
      | (with_reducible exact LeO.refl _)
      | (with_reducible exact LeO.none _)
      | (with_reducible refine LeO.ite ?_ ?_)
      | (with_reducible refine LeO.bind ?_ (fun _ => ?_))
      | exact ih0 _ _ _ _ _ _ _ _ _ _
      | exact ih1 _ _ _ _ _ _ _ _ _ _ _ _
      | exact ih2 _ _ _
      | exact ih3 _ _ _ _ _
      | exact sashref05_All.mono _ _ _ _ _ _ _ _
      | exact sashref05_Leaves.mono _ _ _ _ _ _ _ _
      | exact LeO.none _
      | refine LeO.ite ?_ ?_
      | refine LeO.bind ?_ (fun _ => ?_)
theorem sashref05_May.mono : ∀ a0 a1 a2 a3 a4 a5 a6 k, LeO (sashref05_May.f k a0 a1 a2 a3 a4 a5 a6) (sashref05_May.f (k + 1) a0 a1 a2 a3 a4 a5 a6) := by
  intro a0 a1 a2 a3 a4 a5 a6 k
  obtain ⟨ih0, ih1, ih2, ih3⟩ := sashref05_May.mono_l k
  unfold sashref05_May.f
  repeat' first
      | (with_reducible exact ih0 _ _ _ _ _ _ _ _ _ _)
      | (with_reducible exact ih1 _ _ _ _ _ _ _ _ _ _ _ _)
      | (with_reducible exact ih2 _ _ _)
      | (with_reducible exact ih3 _ _ _ _ _)
      | (with_reducible exact sashref05_All.mono _ _ _ _ _ _ _ _)
      | (with_reducible exact sashref05_Leaves.mono _ _ _ _ _ _ _ _)
      | (with_reducible exact LeO.refl _)
      | (with_reducible exact LeO.none _)
      | (with_reducible refine LeO.ite ?_ ?_)
      | (with_reducible refine LeO.bind ?_ (fun _ => ?_))
      | exact ih0 _ _ _ _ _ _ _ _ _ _
      | exact ih1 _ _ _ _ _ _ _ _ _ _ _ _
      | exact ih2 _ _ _
      | exact ih3 _ _ _ _ _
      | exact sashref05_All.mono _ _ _ _ _ _ _ _
      | exact sashref05_Leaves.mono _ _ _ _ _ _ _ _
      | exact LeO.none _
      | refine LeO.ite ?_ ?_
      | refine LeO.bind ?_ (fun _ => ?_)
set_option maxHeartbeats 8000000 in
set_option maxRecDepth 100000 in
theorem sashref05_May.calls (k : Nat) (a0_0 : Int) (a0_1 : Int) (a0_2 : Int) (a0_3 : Int) (a0_4 : Int) (a0_5 : Int) (A0_6 : Option Addr) (c0_6 : Nat) (l0_6 : List (S26)) (r : Bool) (w : World) (hr0_6 : Kd.C k26 w A0_6 l0_6.length l0_6) (hc0_6 : l0_6.length ≤ c0_6) (h : sashref05_May.f k a0_0 a0_1 a0_2 a0_3 a0_4 a0_5 l0_6 = some r) :
    Calls Try.prog 38 #[.agg #[.int .u8 a0_0, .int .i64 a0_1, .int .i64 a0_2, .int .i64 a0_3, .int .i64 a0_4, .int .i64 a0_5, .slice A0_6 l0_6.length c0_6]] w fun e w' => e = .returned (.bool r) ∧ Below w.heap.size w w' := by
  have hu26 := Try.underlying26
  have hu23 := Try.underlying23
  have HR0_6 := Aside0.mk hr0_6
  have HC0_6 := Aside0.mk hc0_6
  clear hr0_6 hc0_6
  have HB := Aside0.mk (Below.refl w.heap.size w)
  have H : ((sashref05_All.f k a0_0 a0_1 a0_2 a0_3 a0_4 a0_5 l0_6).bind fun t175 => (if (t175.length : Int) > 20000 then (some false) else (sashref05_May.l0 k t175 (t175.length : Int) 0 a0_0 a0_1 a0_2 a0_3 a0_4 a0_5 l0_6))) = some r := h
  clear h
  replace H := Option.bind_eq_some_iff.mp H
  obtain ⟨t175, A20, H⟩ := H
  replace H : (if (t175.length : Int) > 20000 then (some false) else (sashref05_May.l0 k t175 (t175.length : Int) 0 a0_0 a0_1 a0_2 a0_3 a0_4 a0_5 l0_6)) = some r := H
  have A2 := Aside0.mk A20
  clear A20
  by_cases c3 : (t175.length : Int) > 20000
  · rw [if_pos c3] at H
    have c3b0 : decide (20000 < (t175.length : Int)) = true := decide_eq_true c3
    have c3b1 : decide (20000 < t175.length) = true := decide_eq_true (by omega)
    clear c3
    obtain rfl := Option.some.inj H
    go_enter Try.func38, Try.ntmps38
    go_wp2_with (first | ((with_reducible refine gate_dst (N := 1) rfl ?_); (try (refine gate_guard (by rfl) ?_; dsimp only)); refine box_event ?hg (N := 1) ?hd (cs := #[.int .u8 a0_0, .int .i64 a0_1, .int .i64 a0_2, .int .i64 a0_3, .int .i64 a0_4, .int .i64 a0_5, .slice A0_6 l0_6.length c0_6]) (t := 26) ?hr ?_; (case hd => rfl); (case hg => rfl); (case hr => first | (go_simp; done) | (go_simp; rfl)); intro gb174 hg w4 hbox hb; have n0_ := Aside0.mk (below_step (by repeat (first | (with_reducible first | exact HB.out | apply below_alloc | apply pw_below_drewN | apply below_drew1) | exact HB.out)) hb); have n1_ := Aside0.mk (hbox); have n2_ := Aside0.mk ((by rw [hg]; exact (below_size (by repeat (first | (with_reducible first | exact HB.out | apply below_alloc | apply pw_below_drewN | apply below_drew1) | exact HB.out))) : w.heap.size ≤ gb174)); have n3_ := Aside0.mk ((by rw [hg]; exact (below_size (by repeat (first | (with_reducible first | exact HB.out | apply below_alloc | apply pw_below_drewN | apply below_drew1) | exact HB.out))) : w.heap.size ≤ gb174)); clear HB; have HB := n0_; have BK174 := n1_; have GW174 := n2_; have GE174 := n3_; clear n0_ n1_ n2_ n3_; clear hb hbox hg; have hcz5_0 : w4.cell? ⟨gb174, 0, none⟩ = some (.int .u8 a0_0) := (blk_cell BK174.out 0).trans rfl; have hcz5_1 : w4.cell? ⟨gb174, 1, none⟩ = some (.int .i64 a0_1) := (blk_cell BK174.out 1).trans rfl; have hcz5_2 : w4.cell? ⟨gb174, 2, none⟩ = some (.int .i64 a0_2) := (blk_cell BK174.out 2).trans rfl; have hcz5_3 : w4.cell? ⟨gb174, 3, none⟩ = some (.int .i64 a0_3) := (blk_cell BK174.out 3).trans rfl; have hcz5_4 : w4.cell? ⟨gb174, 4, none⟩ = some (.int .i64 a0_4) := (blk_cell BK174.out 4).trans rfl; have hcz5_5 : w4.cell? ⟨gb174, 5, none⟩ = some (.int .i64 a0_5) := (blk_cell BK174.out 5).trans rfl; have hcz5_6 : w4.cell? ⟨gb174, 6, none⟩ = some (.slice A0_6 l0_6.length c0_6) := (blk_cell BK174.out 6).trans rfl; have hfz5_0 := blk_frozen BK174.out 0; have hfz5_1 := blk_frozen BK174.out 1; have hfz5_2 := blk_frozen BK174.out 2; have hfz5_3 := blk_frozen BK174.out 3; have hfz5_4 := blk_frozen BK174.out 4; have hfz5_5 := blk_frozen BK174.out 5; have hfz5_6 := blk_frozen BK174.out 6) | (go_at_call 79; (with_reducible refine (sashref05_All.calls k a0_0 a0_1 a0_2 a0_3 a0_4 a0_5 (fun k_ => k_ < w.heap.size) _ _ l0_6 t175 _ ?side1 A2.out).mono ?_); (case side1 => exact Kd.V_mk HC0_6.out (Kd.F_below (Kd.C_F k26_heap HR0_6.out) (by repeat (first | (with_reducible first | exact HB.out | apply below_alloc | apply pw_below_drewN | apply below_drew1 | refine below_set ?_ GE174.out) | exact HB.out)))); rintro e w6 ⟨v176, rfl, ho0, hb⟩; have n0_ := Aside0.mk (Kd.N_lower (Kd.N_mono (ok' := fun k_ => k_ ≠ gb174) ho0 (fun k_ hk_ => Or.elim hk_ (fun hs_ => fun e_ => Nat.not_le.2 hs_ (by rw [e_]; exact GW174.out)) (fun hn_ => (Kd.freshB (g := gb174) (o := .cells #[.int .u8 a0_0, .int .i64 a0_1, .int .i64 a0_2, .int .i64 a0_3, .int .i64 a0_4, .int .i64 a0_5, .slice A0_6 l0_6.length c0_6] 26 (0, 0)) (by (with_reducible repeat (first | refine blk_drewN ?_ _ | refine blk_drew ?_ | refine blk_alloc ?_ _)); exact BK174.out) k_ hn_)))) (below_size (by repeat (first | (with_reducible first | exact HB.out | apply below_alloc | apply pw_below_drewN | apply below_drew1 | refine below_set ?_ GE174.out) | exact HB.out)))); have n1_ := Aside0.mk (blk_below (g := gb174) (o := .cells #[.int .u8 a0_0, .int .i64 a0_1, .int .i64 a0_2, .int .i64 a0_3, .int .i64 a0_4, .int .i64 a0_5, .slice A0_6 l0_6.length c0_6] 26 (0, 0)) (by (with_reducible repeat (first | refine blk_drewN ?_ _ | refine blk_drew ?_ | refine blk_alloc ?_ _)); exact BK174.out) hb); have n2_ := Aside0.mk (below_step (by repeat (first | (with_reducible first | exact HB.out | apply below_alloc | apply pw_below_drewN | apply below_drew1 | refine below_set ?_ GE174.out) | exact HB.out)) hb); clear BK174; clear HB; have HO177 := n0_; have BK174 := n1_; have HB := n2_; clear n0_ n1_ n2_; (try clear hb); (try clear hb2); (try clear hk); (try clear hi); (try clear ho0); obtain ⟨Ao7, co7, eo7⟩ := Kd.N_slice HO177.out; subst eo7))
    repeat (go_quiet (first | ((with_reducible refine gate_dst (N := 1) rfl ?_); (try (refine gate_guard (by rfl) ?_; dsimp only)); refine box_event ?hg (N := 1) ?hd (cs := #[.int .u8 a0_0, .int .i64 a0_1, .int .i64 a0_2, .int .i64 a0_3, .int .i64 a0_4, .int .i64 a0_5, .slice A0_6 l0_6.length c0_6]) (t := 26) ?hr ?_; (case hd => rfl); (case hg => rfl); (case hr => first | (go_simp; done) | (go_simp; rfl)); intro gb174 hg w4 hbox hb; have n0_ := Aside0.mk (below_step (by repeat (first | (with_reducible first | exact HB.out | apply below_alloc | apply pw_below_drewN | apply below_drew1) | exact HB.out)) hb); have n1_ := Aside0.mk (hbox); have n2_ := Aside0.mk ((by rw [hg]; exact (below_size (by repeat (first | (with_reducible first | exact HB.out | apply below_alloc | apply pw_below_drewN | apply below_drew1) | exact HB.out))) : w.heap.size ≤ gb174)); have n3_ := Aside0.mk ((by rw [hg]; exact (below_size (by repeat (first | (with_reducible first | exact HB.out | apply below_alloc | apply pw_below_drewN | apply below_drew1) | exact HB.out))) : w.heap.size ≤ gb174)); clear HB; have HB := n0_; have BK174 := n1_; have GW174 := n2_; have GE174 := n3_; clear n0_ n1_ n2_ n3_; clear hb hbox hg; have hcz5_0 : w4.cell? ⟨gb174, 0, none⟩ = some (.int .u8 a0_0) := (blk_cell BK174.out 0).trans rfl; have hcz5_1 : w4.cell? ⟨gb174, 1, none⟩ = some (.int .i64 a0_1) := (blk_cell BK174.out 1).trans rfl; have hcz5_2 : w4.cell? ⟨gb174, 2, none⟩ = some (.int .i64 a0_2) := (blk_cell BK174.out 2).trans rfl; have hcz5_3 : w4.cell? ⟨gb174, 3, none⟩ = some (.int .i64 a0_3) := (blk_cell BK174.out 3).trans rfl; have hcz5_4 : w4.cell? ⟨gb174, 4, none⟩ = some (.int .i64 a0_4) := (blk_cell BK174.out 4).trans rfl; have hcz5_5 : w4.cell? ⟨gb174, 5, none⟩ = some (.int .i64 a0_5) := (blk_cell BK174.out 5).trans rfl; have hcz5_6 : w4.cell? ⟨gb174, 6, none⟩ = some (.slice A0_6 l0_6.length c0_6) := (blk_cell BK174.out 6).trans rfl; have hfz5_0 := blk_frozen BK174.out 0; have hfz5_1 := blk_frozen BK174.out 1; have hfz5_2 := blk_frozen BK174.out 2; have hfz5_3 := blk_frozen BK174.out 3; have hfz5_4 := blk_frozen BK174.out 4; have hfz5_5 := blk_frozen BK174.out 5; have hfz5_6 := blk_frozen BK174.out 6) | (go_at_call 79; (with_reducible refine (sashref05_All.calls k a0_0 a0_1 a0_2 a0_3 a0_4 a0_5 (fun k_ => k_ < w.heap.size) _ _ l0_6 t175 _ ?side1 A2.out).mono ?_); (case side1 => exact Kd.V_mk HC0_6.out (Kd.F_below (Kd.C_F k26_heap HR0_6.out) (by repeat (first | (with_reducible first | exact HB.out | apply below_alloc | apply pw_below_drewN | apply below_drew1 | refine below_set ?_ GE174.out) | exact HB.out)))); rintro e w6 ⟨v176, rfl, ho0, hb⟩; have n0_ := Aside0.mk (Kd.N_lower (Kd.N_mono (ok' := fun k_ => k_ ≠ gb174) ho0 (fun k_ hk_ => Or.elim hk_ (fun hs_ => fun e_ => Nat.not_le.2 hs_ (by rw [e_]; exact GW174.out)) (fun hn_ => (Kd.freshB (g := gb174) (o := .cells #[.int .u8 a0_0, .int .i64 a0_1, .int .i64 a0_2, .int .i64 a0_3, .int .i64 a0_4, .int .i64 a0_5, .slice A0_6 l0_6.length c0_6] 26 (0, 0)) (by (with_reducible repeat (first | refine blk_drewN ?_ _ | refine blk_drew ?_ | refine blk_alloc ?_ _)); exact BK174.out) k_ hn_)))) (below_size (by repeat (first | (with_reducible first | exact HB.out | apply below_alloc | apply pw_below_drewN | apply below_drew1 | refine below_set ?_ GE174.out) | exact HB.out)))); have n1_ := Aside0.mk (blk_below (g := gb174) (o := .cells #[.int .u8 a0_0, .int .i64 a0_1, .int .i64 a0_2, .int .i64 a0_3, .int .i64 a0_4, .int .i64 a0_5, .slice A0_6 l0_6.length c0_6] 26 (0, 0)) (by (with_reducible repeat (first | refine blk_drewN ?_ _ | refine blk_drew ?_ | refine blk_alloc ?_ _)); exact BK174.out) hb); have n2_ := Aside0.mk (below_step (by repeat (first | (with_reducible first | exact HB.out | apply below_alloc | apply pw_below_drewN | apply below_drew1 | refine below_set ?_ GE174.out) | exact HB.out)) hb); clear BK174; clear HB; have HO177 := n0_; have BK174 := n1_; have HB := n2_; clear n0_ n1_ n2_; (try clear hb); (try clear hb2); (try clear hk); (try clear hi); (try clear ho0); obtain ⟨Ao7, co7, eo7⟩ := Kd.N_slice HO177.out; subst eo7)); try go_wp2_with (first | ((with_reducible refine gate_dst (N := 1) rfl ?_); (try (refine gate_guard (by rfl) ?_; dsimp only)); refine box_event ?hg (N := 1) ?hd (cs := #[.int .u8 a0_0, .int .i64 a0_1, .int .i64 a0_2, .int .i64 a0_3, .int .i64 a0_4, .int .i64 a0_5, .slice A0_6 l0_6.length c0_6]) (t := 26) ?hr ?_; (case hd => rfl); (case hg => rfl); (case hr => first | (go_simp; done) | (go_simp; rfl)); intro gb174 hg w4 hbox hb; have n0_ := Aside0.mk (below_step (by repeat (first | (with_reducible first | exact HB.out | apply below_alloc | apply pw_below_drewN | apply below_drew1) | exact HB.out)) hb); have n1_ := Aside0.mk (hbox); have n2_ := Aside0.mk ((by rw [hg]; exact (below_size (by repeat (first | (with_reducible first | exact HB.out | apply below_alloc | apply pw_below_drewN | apply below_drew1) | exact HB.out))) : w.heap.size ≤ gb174)); have n3_ := Aside0.mk ((by rw [hg]; exact (below_size (by repeat (first | (with_reducible first | exact HB.out | apply below_alloc | apply pw_below_drewN | apply below_drew1) | exact HB.out))) : w.heap.size ≤ gb174)); clear HB; have HB := n0_; have BK174 := n1_; have GW174 := n2_; have GE174 := n3_; clear n0_ n1_ n2_ n3_; clear hb hbox hg; have hcz5_0 : w4.cell? ⟨gb174, 0, none⟩ = some (.int .u8 a0_0) := (blk_cell BK174.out 0).trans rfl; have hcz5_1 : w4.cell? ⟨gb174, 1, none⟩ = some (.int .i64 a0_1) := (blk_cell BK174.out 1).trans rfl; have hcz5_2 : w4.cell? ⟨gb174, 2, none⟩ = some (.int .i64 a0_2) := (blk_cell BK174.out 2).trans rfl; have hcz5_3 : w4.cell? ⟨gb174, 3, none⟩ = some (.int .i64 a0_3) := (blk_cell BK174.out 3).trans rfl; have hcz5_4 : w4.cell? ⟨gb174, 4, none⟩ = some (.int .i64 a0_4) := (blk_cell BK174.out 4).trans rfl; have hcz5_5 : w4.cell? ⟨gb174, 5, none⟩ = some (.int .i64 a0_5) := (blk_cell BK174.out 5).trans rfl; have hcz5_6 : w4.cell? ⟨gb174, 6, none⟩ = some (.slice A0_6 l0_6.length c0_6) := (blk_cell BK174.out 6).trans rfl; have hfz5_0 := blk_frozen BK174.out 0; have hfz5_1 := blk_frozen BK174.out 1; have hfz5_2 := blk_frozen BK174.out 2; have hfz5_3 := blk_frozen BK174.out 3; have hfz5_4 := blk_frozen BK174.out 4; have hfz5_5 := blk_frozen BK174.out 5; have hfz5_6 := blk_frozen BK174.out 6) | (go_at_call 79; (with_reducible refine (sashref05_All.calls k a0_0 a0_1 a0_2 a0_3 a0_4 a0_5 (fun k_ => k_ < w.heap.size) _ _ l0_6 t175 _ ?side1 A2.out).mono ?_); (case side1 => exact Kd.V_mk HC0_6.out (Kd.F_below (Kd.C_F k26_heap HR0_6.out) (by repeat (first | (with_reducible first | exact HB.out | apply below_alloc | apply pw_below_drewN | apply below_drew1 | refine below_set ?_ GE174.out) | exact HB.out)))); rintro e w6 ⟨v176, rfl, ho0, hb⟩; have n0_ := Aside0.mk (Kd.N_lower (Kd.N_mono (ok' := fun k_ => k_ ≠ gb174) ho0 (fun k_ hk_ => Or.elim hk_ (fun hs_ => fun e_ => Nat.not_le.2 hs_ (by rw [e_]; exact GW174.out)) (fun hn_ => (Kd.freshB (g := gb174) (o := .cells #[.int .u8 a0_0, .int .i64 a0_1, .int .i64 a0_2, .int .i64 a0_3, .int .i64 a0_4, .int .i64 a0_5, .slice A0_6 l0_6.length c0_6] 26 (0, 0)) (by (with_reducible repeat (first | refine blk_drewN ?_ _ | refine blk_drew ?_ | refine blk_alloc ?_ _)); exact BK174.out) k_ hn_)))) (below_size (by repeat (first | (with_reducible first | exact HB.out | apply below_alloc | apply pw_below_drewN | apply below_drew1 | refine below_set ?_ GE174.out) | exact HB.out)))); have n1_ := Aside0.mk (blk_below (g := gb174) (o := .cells #[.int .u8 a0_0, .int .i64 a0_1, .int .i64 a0_2, .int .i64 a0_3, .int .i64 a0_4, .int .i64 a0_5, .slice A0_6 l0_6.length c0_6] 26 (0, 0)) (by (with_reducible repeat (first | refine blk_drewN ?_ _ | refine blk_drew ?_ | refine blk_alloc ?_ _)); exact BK174.out) hb); have n2_ := Aside0.mk (below_step (by repeat (first | (with_reducible first | exact HB.out | apply below_alloc | apply pw_below_drewN | apply below_drew1 | refine below_set ?_ GE174.out) | exact HB.out)) hb); clear BK174; clear HB; have HO177 := n0_; have BK174 := n1_; have HB := n2_; clear n0_ n1_ n2_; (try clear hb); (try clear hb2); (try clear hk); (try clear hi); (try clear ho0); obtain ⟨Ao7, co7, eo7⟩ := Kd.N_slice HO177.out; subst eo7)))
    go_ret
    exact ⟨by first | rfl | (simp [errW_none, errW_some] <;> rfl) | (simp [*, errW_none, errW_some] <;> rfl), by repeat (first | (with_reducible first | exact HB.out | apply below_alloc | apply pw_below_drewN | apply below_drew1 | refine below_set ?_ GE174.out) | exact HB.out)⟩
  · rw [if_neg c3] at H
    have c3b0 : decide (20000 < (t175.length : Int)) = false := decide_eq_false c3
    have c3b1 : decide (20000 < t175.length) = false := decide_eq_false (by omega)
    clear c3
    have H' := Aside0.mk H
    clear H
    go_enter Try.func38, Try.ntmps38
    go_wp2_with (first | ((with_reducible refine gate_dst (N := 1) rfl ?_); (try (refine gate_guard (by rfl) ?_; dsimp only)); refine box_event ?hg (N := 1) ?hd (cs := #[.int .u8 a0_0, .int .i64 a0_1, .int .i64 a0_2, .int .i64 a0_3, .int .i64 a0_4, .int .i64 a0_5, .slice A0_6 l0_6.length c0_6]) (t := 26) ?hr ?_; (case hd => rfl); (case hg => rfl); (case hr => first | (go_simp; done) | (go_simp; rfl)); intro gb174 hg w8 hbox hb; have n0_ := Aside0.mk (below_step (by repeat (first | (with_reducible first | exact HB.out | apply below_alloc | apply pw_below_drewN | apply below_drew1) | exact HB.out)) hb); have n1_ := Aside0.mk (hbox); have n2_ := Aside0.mk ((by rw [hg]; exact (below_size (by repeat (first | (with_reducible first | exact HB.out | apply below_alloc | apply pw_below_drewN | apply below_drew1) | exact HB.out))) : w.heap.size ≤ gb174)); have n3_ := Aside0.mk ((by rw [hg]; exact (below_size (by repeat (first | (with_reducible first | exact HB.out | apply below_alloc | apply pw_below_drewN | apply below_drew1) | exact HB.out))) : w.heap.size ≤ gb174)); clear HB; have HB := n0_; have BK174 := n1_; have GW174 := n2_; have GE174 := n3_; clear n0_ n1_ n2_ n3_; clear hb hbox hg; have hcz9_0 : w8.cell? ⟨gb174, 0, none⟩ = some (.int .u8 a0_0) := (blk_cell BK174.out 0).trans rfl; have hcz9_1 : w8.cell? ⟨gb174, 1, none⟩ = some (.int .i64 a0_1) := (blk_cell BK174.out 1).trans rfl; have hcz9_2 : w8.cell? ⟨gb174, 2, none⟩ = some (.int .i64 a0_2) := (blk_cell BK174.out 2).trans rfl; have hcz9_3 : w8.cell? ⟨gb174, 3, none⟩ = some (.int .i64 a0_3) := (blk_cell BK174.out 3).trans rfl; have hcz9_4 : w8.cell? ⟨gb174, 4, none⟩ = some (.int .i64 a0_4) := (blk_cell BK174.out 4).trans rfl; have hcz9_5 : w8.cell? ⟨gb174, 5, none⟩ = some (.int .i64 a0_5) := (blk_cell BK174.out 5).trans rfl; have hcz9_6 : w8.cell? ⟨gb174, 6, none⟩ = some (.slice A0_6 l0_6.length c0_6) := (blk_cell BK174.out 6).trans rfl; have hfz9_0 := blk_frozen BK174.out 0; have hfz9_1 := blk_frozen BK174.out 1; have hfz9_2 := blk_frozen BK174.out 2; have hfz9_3 := blk_frozen BK174.out 3; have hfz9_4 := blk_frozen BK174.out 4; have hfz9_5 := blk_frozen BK174.out 5; have hfz9_6 := blk_frozen BK174.out 6) | (go_at_call 79; (with_reducible refine (sashref05_All.calls k a0_0 a0_1 a0_2 a0_3 a0_4 a0_5 (fun k_ => k_ < w.heap.size) _ _ l0_6 t175 _ ?side1 A2.out).mono ?_); (case side1 => exact Kd.V_mk HC0_6.out (Kd.F_below (Kd.C_F k26_heap HR0_6.out) (by repeat (first | (with_reducible first | exact HB.out | apply below_alloc | apply pw_below_drewN | apply below_drew1 | refine below_set ?_ GE174.out) | exact HB.out)))); rintro e w10 ⟨v176, rfl, ho0, hb⟩; have n0_ := Aside0.mk (Kd.N_lower (Kd.N_mono (ok' := fun k_ => k_ ≠ gb174) ho0 (fun k_ hk_ => Or.elim hk_ (fun hs_ => fun e_ => Nat.not_le.2 hs_ (by rw [e_]; exact GW174.out)) (fun hn_ => (Kd.freshB (g := gb174) (o := .cells #[.int .u8 a0_0, .int .i64 a0_1, .int .i64 a0_2, .int .i64 a0_3, .int .i64 a0_4, .int .i64 a0_5, .slice A0_6 l0_6.length c0_6] 26 (0, 0)) (by (with_reducible repeat (first | refine blk_drewN ?_ _ | refine blk_drew ?_ | refine blk_alloc ?_ _)); exact BK174.out) k_ hn_)))) (below_size (by repeat (first | (with_reducible first | exact HB.out | apply below_alloc | apply pw_below_drewN | apply below_drew1 | refine below_set ?_ GE174.out) | exact HB.out)))); have n1_ := Aside0.mk (blk_below (g := gb174) (o := .cells #[.int .u8 a0_0, .int .i64 a0_1, .int .i64 a0_2, .int .i64 a0_3, .int .i64 a0_4, .int .i64 a0_5, .slice A0_6 l0_6.length c0_6] 26 (0, 0)) (by (with_reducible repeat (first | refine blk_drewN ?_ _ | refine blk_drew ?_ | refine blk_alloc ?_ _)); exact BK174.out) hb); have n2_ := Aside0.mk (below_step (by repeat (first | (with_reducible first | exact HB.out | apply below_alloc | apply pw_below_drewN | apply below_drew1 | refine below_set ?_ GE174.out) | exact HB.out)) hb); clear BK174; clear HB; have HO177 := n0_; have BK174 := n1_; have HB := n2_; clear n0_ n1_ n2_; (try clear hb); (try clear hb2); (try clear hk); (try clear hi); (try clear ho0); obtain ⟨Ao11, co11, eo11⟩ := Kd.N_slice HO177.out; subst eo11))
    repeat (go_quiet (first | ((with_reducible refine gate_dst (N := 1) rfl ?_); (try (refine gate_guard (by rfl) ?_; dsimp only)); refine box_event ?hg (N := 1) ?hd (cs := #[.int .u8 a0_0, .int .i64 a0_1, .int .i64 a0_2, .int .i64 a0_3, .int .i64 a0_4, .int .i64 a0_5, .slice A0_6 l0_6.length c0_6]) (t := 26) ?hr ?_; (case hd => rfl); (case hg => rfl); (case hr => first | (go_simp; done) | (go_simp; rfl)); intro gb174 hg w8 hbox hb; have n0_ := Aside0.mk (below_step (by repeat (first | (with_reducible first | exact HB.out | apply below_alloc | apply pw_below_drewN | apply below_drew1) | exact HB.out)) hb); have n1_ := Aside0.mk (hbox); have n2_ := Aside0.mk ((by rw [hg]; exact (below_size (by repeat (first | (with_reducible first | exact HB.out | apply below_alloc | apply pw_below_drewN | apply below_drew1) | exact HB.out))) : w.heap.size ≤ gb174)); have n3_ := Aside0.mk ((by rw [hg]; exact (below_size (by repeat (first | (with_reducible first | exact HB.out | apply below_alloc | apply pw_below_drewN | apply below_drew1) | exact HB.out))) : w.heap.size ≤ gb174)); clear HB; have HB := n0_; have BK174 := n1_; have GW174 := n2_; have GE174 := n3_; clear n0_ n1_ n2_ n3_; clear hb hbox hg; have hcz9_0 : w8.cell? ⟨gb174, 0, none⟩ = some (.int .u8 a0_0) := (blk_cell BK174.out 0).trans rfl; have hcz9_1 : w8.cell? ⟨gb174, 1, none⟩ = some (.int .i64 a0_1) := (blk_cell BK174.out 1).trans rfl; have hcz9_2 : w8.cell? ⟨gb174, 2, none⟩ = some (.int .i64 a0_2) := (blk_cell BK174.out 2).trans rfl; have hcz9_3 : w8.cell? ⟨gb174, 3, none⟩ = some (.int .i64 a0_3) := (blk_cell BK174.out 3).trans rfl; have hcz9_4 : w8.cell? ⟨gb174, 4, none⟩ = some (.int .i64 a0_4) := (blk_cell BK174.out 4).trans rfl; have hcz9_5 : w8.cell? ⟨gb174, 5, none⟩ = some (.int .i64 a0_5) := (blk_cell BK174.out 5).trans rfl; have hcz9_6 : w8.cell? ⟨gb174, 6, none⟩ = some (.slice A0_6 l0_6.length c0_6) := (blk_cell BK174.out 6).trans rfl; have hfz9_0 := blk_frozen BK174.out 0; have hfz9_1 := blk_frozen BK174.out 1; have hfz9_2 := blk_frozen BK174.out 2; have hfz9_3 := blk_frozen BK174.out 3; have hfz9_4 := blk_frozen BK174.out 4; have hfz9_5 := blk_frozen BK174.out 5; have hfz9_6 := blk_frozen BK174.out 6) | (go_at_call 79; (with_reducible refine (sashref05_All.calls k a0_0 a0_1 a0_2 a0_3 a0_4 a0_5 (fun k_ => k_ < w.heap.size) _ _ l0_6 t175 _ ?side1 A2.out).mono ?_); (case side1 => exact Kd.V_mk HC0_6.out (Kd.F_below (Kd.C_F k26_heap HR0_6.out) (by repeat (first | (with_reducible first | exact HB.out | apply below_alloc | apply pw_below_drewN | apply below_drew1 | refine below_set ?_ GE174.out) | exact HB.out)))); rintro e w10 ⟨v176, rfl, ho0, hb⟩; have n0_ := Aside0.mk (Kd.N_lower (Kd.N_mono (ok' := fun k_ => k_ ≠ gb174) ho0 (fun k_ hk_ => Or.elim hk_ (fun hs_ => fun e_ => Nat.not_le.2 hs_ (by rw [e_]; exact GW174.out)) (fun hn_ => (Kd.freshB (g := gb174) (o := .cells #[.int .u8 a0_0, .int .i64 a0_1, .int .i64 a0_2, .int .i64 a0_3, .int .i64 a0_4, .int .i64 a0_5, .slice A0_6 l0_6.length c0_6] 26 (0, 0)) (by (with_reducible repeat (first | refine blk_drewN ?_ _ | refine blk_drew ?_ | refine blk_alloc ?_ _)); exact BK174.out) k_ hn_)))) (below_size (by repeat (first | (with_reducible first | exact HB.out | apply below_alloc | apply pw_below_drewN | apply below_drew1 | refine below_set ?_ GE174.out) | exact HB.out)))); have n1_ := Aside0.mk (blk_below (g := gb174) (o := .cells #[.int .u8 a0_0, .int .i64 a0_1, .int .i64 a0_2, .int .i64 a0_3, .int .i64 a0_4, .int .i64 a0_5, .slice A0_6 l0_6.length c0_6] 26 (0, 0)) (by (with_reducible repeat (first | refine blk_drewN ?_ _ | refine blk_drew ?_ | refine blk_alloc ?_ _)); exact BK174.out) hb); have n2_ := Aside0.mk (below_step (by repeat (first | (with_reducible first | exact HB.out | apply below_alloc | apply pw_below_drewN | apply below_drew1 | refine below_set ?_ GE174.out) | exact HB.out)) hb); clear BK174; clear HB; have HO177 := n0_; have BK174 := n1_; have HB := n2_; clear n0_ n1_ n2_; (try clear hb); (try clear hb2); (try clear hk); (try clear hi); (try clear ho0); obtain ⟨Ao11, co11, eo11⟩ := Kd.N_slice HO177.out; subst eo11)); try go_wp2_with (first | ((with_reducible refine gate_dst (N := 1) rfl ?_); (try (refine gate_guard (by rfl) ?_; dsimp only)); refine box_event ?hg (N := 1) ?hd (cs := #[.int .u8 a0_0, .int .i64 a0_1, .int .i64 a0_2, .int .i64 a0_3, .int .i64 a0_4, .int .i64 a0_5, .slice A0_6 l0_6.length c0_6]) (t := 26) ?hr ?_; (case hd => rfl); (case hg => rfl); (case hr => first | (go_simp; done) | (go_simp; rfl)); intro gb174 hg w8 hbox hb; have n0_ := Aside0.mk (below_step (by repeat (first | (with_reducible first | exact HB.out | apply below_alloc | apply pw_below_drewN | apply below_drew1) | exact HB.out)) hb); have n1_ := Aside0.mk (hbox); have n2_ := Aside0.mk ((by rw [hg]; exact (below_size (by repeat (first | (with_reducible first | exact HB.out | apply below_alloc | apply pw_below_drewN | apply below_drew1) | exact HB.out))) : w.heap.size ≤ gb174)); have n3_ := Aside0.mk ((by rw [hg]; exact (below_size (by repeat (first | (with_reducible first | exact HB.out | apply below_alloc | apply pw_below_drewN | apply below_drew1) | exact HB.out))) : w.heap.size ≤ gb174)); clear HB; have HB := n0_; have BK174 := n1_; have GW174 := n2_; have GE174 := n3_; clear n0_ n1_ n2_ n3_; clear hb hbox hg; have hcz9_0 : w8.cell? ⟨gb174, 0, none⟩ = some (.int .u8 a0_0) := (blk_cell BK174.out 0).trans rfl; have hcz9_1 : w8.cell? ⟨gb174, 1, none⟩ = some (.int .i64 a0_1) := (blk_cell BK174.out 1).trans rfl; have hcz9_2 : w8.cell? ⟨gb174, 2, none⟩ = some (.int .i64 a0_2) := (blk_cell BK174.out 2).trans rfl; have hcz9_3 : w8.cell? ⟨gb174, 3, none⟩ = some (.int .i64 a0_3) := (blk_cell BK174.out 3).trans rfl; have hcz9_4 : w8.cell? ⟨gb174, 4, none⟩ = some (.int .i64 a0_4) := (blk_cell BK174.out 4).trans rfl; have hcz9_5 : w8.cell? ⟨gb174, 5, none⟩ = some (.int .i64 a0_5) := (blk_cell BK174.out 5).trans rfl; have hcz9_6 : w8.cell? ⟨gb174, 6, none⟩ = some (.slice A0_6 l0_6.length c0_6) := (blk_cell BK174.out 6).trans rfl; have hfz9_0 := blk_frozen BK174.out 0; have hfz9_1 := blk_frozen BK174.out 1; have hfz9_2 := blk_frozen BK174.out 2; have hfz9_3 := blk_frozen BK174.out 3; have hfz9_4 := blk_frozen BK174.out 4; have hfz9_5 := blk_frozen BK174.out 5; have hfz9_6 := blk_frozen BK174.out 6) | (go_at_call 79; (with_reducible refine (sashref05_All.calls k a0_0 a0_1 a0_2 a0_3 a0_4 a0_5 (fun k_ => k_ < w.heap.size) _ _ l0_6 t175 _ ?side1 A2.out).mono ?_); (case side1 => exact Kd.V_mk HC0_6.out (Kd.F_below (Kd.C_F k26_heap HR0_6.out) (by repeat (first | (with_reducible first | exact HB.out | apply below_alloc | apply pw_below_drewN | apply below_drew1 | refine below_set ?_ GE174.out) | exact HB.out)))); rintro e w10 ⟨v176, rfl, ho0, hb⟩; have n0_ := Aside0.mk (Kd.N_lower (Kd.N_mono (ok' := fun k_ => k_ ≠ gb174) ho0 (fun k_ hk_ => Or.elim hk_ (fun hs_ => fun e_ => Nat.not_le.2 hs_ (by rw [e_]; exact GW174.out)) (fun hn_ => (Kd.freshB (g := gb174) (o := .cells #[.int .u8 a0_0, .int .i64 a0_1, .int .i64 a0_2, .int .i64 a0_3, .int .i64 a0_4, .int .i64 a0_5, .slice A0_6 l0_6.length c0_6] 26 (0, 0)) (by (with_reducible repeat (first | refine blk_drewN ?_ _ | refine blk_drew ?_ | refine blk_alloc ?_ _)); exact BK174.out) k_ hn_)))) (below_size (by repeat (first | (with_reducible first | exact HB.out | apply below_alloc | apply pw_below_drewN | apply below_drew1 | refine below_set ?_ GE174.out) | exact HB.out)))); have n1_ := Aside0.mk (blk_below (g := gb174) (o := .cells #[.int .u8 a0_0, .int .i64 a0_1, .int .i64 a0_2, .int .i64 a0_3, .int .i64 a0_4, .int .i64 a0_5, .slice A0_6 l0_6.length c0_6] 26 (0, 0)) (by (with_reducible repeat (first | refine blk_drewN ?_ _ | refine blk_drew ?_ | refine blk_alloc ?_ _)); exact BK174.out) hb); have n2_ := Aside0.mk (below_step (by repeat (first | (with_reducible first | exact HB.out | apply below_alloc | apply pw_below_drewN | apply below_drew1 | refine below_set ?_ GE174.out) | exact HB.out)) hb); clear BK174; clear HB; have HO177 := n0_; have BK174 := n1_; have HB := n2_; clear n0_ n1_ n2_; (try clear hb); (try clear hb2); (try clear hk); (try clear hi); (try clear ho0); obtain ⟨Ao11, co11, eo11⟩ := Kd.N_slice HO177.out; subst eo11)))
    go_loopg [15] k (fun kq v15 w' => ∃ (x15_1 : Int), v15 = .int .i64 x15_1 ∧ Aside0 (sashref05_May.l0 kq t175 (t175.length : Int) x15_1 a0_0 a0_1 a0_2 a0_3 a0_4 a0_5 l0_6 = some r) ∧ Aside0 (kq ≤ k) ∧ Aside0 (Kd.N k26 26 w' w.heap.size (fun k_ => k_ ≠ gb174) (.slice Ao11 t175.length co11) t175) ∧ Aside0 (w'.heap[gb174]? = some (.cells #[.int .u8 a0_0, .int .i64 a0_1, .int .i64 a0_2, .int .i64 a0_3, .int .i64 a0_4, .int .i64 a0_5, (.slice A0_6 l0_6.length c0_6)] 26 (0, 0))) ∧ Aside0 (Below w.heap.size w w'))
    case atStart => exact ⟨(0), (by first | rfl | (simp; done) | (simp [*]; done)), H', ⟨Nat.le_refl _⟩, ⟨by (with_reducible repeat (first | apply Kd.N_alloc | apply Kd.N_drewN | apply Kd.N_drew)); exact HO177.out⟩, ⟨by (with_reducible repeat (first | refine blk_drewN ?_ _ | refine blk_drew ?_ | refine blk_alloc ?_ _)); exact BK174.out⟩, ⟨by repeat (first | (with_reducible first | exact HB.out | apply below_alloc | apply pw_below_drewN | apply below_drew1 | refine below_set ?_ GE174.out) | exact HB.out)⟩⟩
    case round =>
      clear H'
      try clear p2
      try clear c3
      try clear c3b0
      try clear c3b1
      try clear hcz5_0
      try clear hcz5_1
      try clear hcz5_2
      try clear hcz5_3
      try clear hcz5_4
      try clear hcz5_5
      try clear hcz5_6
      try clear hcz9_0
      try clear hcz9_1
      try clear hcz9_2
      try clear hcz9_3
      try clear hcz9_4
      try clear hcz9_5
      try clear hcz9_6
      try clear hfz5_0
      try clear hfz5_1
      try clear hfz5_2
      try clear hfz5_3
      try clear hfz5_4
      try clear hfz5_5
      try clear hfz5_6
      try clear hfz9_0
      try clear hfz9_1
      try clear hfz9_2
      try clear hfz9_3
      try clear hfz9_4
      try clear hfz9_5
      try clear hfz9_6
      obtain ⟨x15_1, rfl, HA, HK1, HO_3, BK174, HB⟩ := hrel
      cases gk with
      | zero => exact absurd HA.out (by simp [sashref05_May.l0])
      | succ k1 =>
        have H := HA.out
        clear HA
        simp only [sashref05_May.l0] at H
        by_cases c12 : x15_1 < (t175.length : Int)
        · rw [if_pos c12] at H
          have c12b0 : decide (x15_1 < (t175.length : Int)) = true := decide_eq_true c12
          clear c12
          have HC13 := Aside0.mk H
          clear H
          go_upto_region 7 with (fail)
          repeat (go_quiet (fail); go_upto_region 7 with (fail))
          go_cut [40] (fun v40 wc => ∃ (kq : Nat) (x40_12 : Bool), v40 = .bool x40_12 ∧ Aside0 (sashref05_May.j1 kq t175 x15_1 (t175.length : Int) x15_1 x40_12 a0_0 a0_1 a0_2 a0_3 a0_4 a0_5 l0_6 = some r) ∧ Aside0 (kq ≤ k1) ∧ Aside0 (Kd.N k26 26 wc w.heap.size (fun k_ => k_ ≠ gb174) (.slice Ao11 t175.length co11) t175) ∧ Aside0 (wc.heap[gb174]? = some (.cells #[.int .u8 a0_0, .int .i64 a0_1, .int .i64 a0_2, .int .i64 a0_3, .int .i64 a0_4, .int .i64 a0_5, (.slice A0_6 l0_6.length c0_6)] 26 (0, 0))) ∧ Aside0 (Below w.heap.size w wc))
          case first =>
            have H := HC13.out
            clear HC13
            by_cases c14 : 0 ≤ x15_1
            · rw [if_pos c14] at H
              have c14b0 : decide (0 ≤ x15_1) = true := decide_eq_true c14
              clear c14
              (first | rw [c14b0] | (simp only [i64_w, i32_w]; rw [c14b0]) | skip)
              by_cases c15 : x15_1 < (t175.length : Int)
              · rw [if_pos c15] at H
                have c15b0 : decide (x15_1 < (t175.length : Int)) = true := decide_eq_true c15
                clear c15
                replace H := Option.bind_eq_some_iff.mp H
                obtain ⟨t179, A160, H⟩ := H
                replace H : (if t179 = true then (if ((rd_T26 t175 x15_1).f0) < 1 then (sashref05_May.j1 k1 t175 x15_1 (t175.length : Int) x15_1 true a0_0 a0_1 a0_2 a0_3 a0_4 a0_5 l0_6) else (sashref05_May.j1 k1 t175 x15_1 (t175.length : Int) x15_1 (decide (((rd_T26 t175 x15_1).f0) > 3)) a0_0 a0_1 a0_2 a0_3 a0_4 a0_5 l0_6)) else (sashref05_May.j1 k1 t175 x15_1 (t175.length : Int) x15_1 true a0_0 a0_1 a0_2 a0_3 a0_4 a0_5 l0_6)) = some r := H
                have A16 := Aside0.mk A160
                clear A160
                by_cases c17 : t179 = true
                · subst c17
                  have H1 : (if ((rd_T26 t175 x15_1).f0) < 1 then (sashref05_May.j1 k1 t175 x15_1 (t175.length : Int) x15_1 true a0_0 a0_1 a0_2 a0_3 a0_4 a0_5 l0_6) else (sashref05_May.j1 k1 t175 x15_1 (t175.length : Int) x15_1 (decide (((rd_T26 t175 x15_1).f0) > 3)) a0_0 a0_1 a0_2 a0_3 a0_4 a0_5 l0_6)) = some r := by rw [if_pos rfl] at H; exact H
                  clear H
                  have H := H1
                  clear H1
                  by_cases c18 : ((rd_T26 t175 x15_1).f0) < 1
                  · rw [if_pos c18] at H
                    have c18b0 : decide (((rd_T26 t175 x15_1).f0) < 1) = true := decide_eq_true c18
                    clear c18
                    have H' := Aside0.mk H
                    clear H
                    have p178 : 0 ≤ (x15_1 : Int) := of_decide_eq_true (by first | (with_reducible assumption) | assumption)
                    have q178 : x15_1 < (t175.length : Int) := of_decide_eq_true (by first | (with_reducible assumption) | assumption)
                    obtain ⟨ad178, A178_6, c178_6, e178, hx178_0, hx178_1, hx178_2, hx178_3, hx178_4, hx178_5, hx178_6, hl178_6, hi178_6⟩ := at_T26 (Kd.N_reads' HO_3.out).2.2 x15_1 p178 q178
                    cases e178
                    obtain ⟨ce178, hce178, hMe178, hcc178⟩ := Kd.N_get HO_3.out z26 x15_1 p178 (by first | exact q178 | exact of_decide_eq_true (by first | (with_reducible assumption) | assumption) | (have e_ := (Kd.N_reads' HO_3.out).1; omega))
                    obtain ⟨ua178_6, uc178_6, rfl, ul178_6, ge178_6⟩ := k26_openF hMe178
                    have hv178_6 := hcc178 6 _ rfl
                    rw [add_field _ _ 6 (by omega)] at hv178_6
                    replace hv178_6 := Option.some.inj (hv178_6.symm.trans hx178_6)
                    injection hv178_6 with hva_ hvn_ hvc_
                    rw [hva_] at ge178_6
                    rw [hvc_] at ul178_6
                    have HL178_6 := Aside0.mk (show Kd.V k26 26 _ w.heap.size _ _ ((rd_T26 t175 x15_1).f3) from Kd.V_mk ul178_6 ge178_6)
                    clear hva_ hvn_ hvc_ ge178_6 ul178_6
                    clear hcc178 hce178
                    have HR178_6 := Aside0.mk hi178_6
                    have HC178_6 := Aside0.mk hl178_6
                    clear hi178_6 hl178_6
                    replace p178 := eq_true p178
                    replace q178 := eq_true q178
                    go_wp2_with (first | (go_at_call 57; (with_reducible refine (sashref04_May.calls ((rd_T26 t175 x15_1).f1.f0) ((rd_T26 t175 x15_1).f1.f1) ((rd_T26 t175 x15_1).f1.f2) ((rd_T26 t175 x15_1).f1.f3) true _ A16.out).mono ?_); rintro e w19 ⟨rfl, hb⟩; have n0_ := Aside0.mk (Kd.N_below (by (with_reducible repeat (first | apply Kd.N_alloc | apply Kd.N_drewN | apply Kd.N_drew)); exact HO_3.out) hb); have n1_ := Aside0.mk (Kd.V_below (by (with_reducible repeat (first | apply Kd.V_alloc | apply Kd.V_drewN | apply Kd.V_drew)); exact HL178_6.out) hb); have n2_ := Aside0.mk (blk_below (g := gb174) (o := .cells #[.int .u8 a0_0, .int .i64 a0_1, .int .i64 a0_2, .int .i64 a0_3, .int .i64 a0_4, .int .i64 a0_5, .slice A0_6 l0_6.length c0_6] 26 (0, 0)) (by (with_reducible repeat (first | refine blk_drewN ?_ _ | refine blk_drew ?_ | refine blk_alloc ?_ _)); exact BK174.out) hb); have n3_ := Aside0.mk (Kd.C_below (by repeat (first | (with_reducible exact HR178_6.out) | (with_reducible refine Kd.C_alloc ?_ _) | (with_reducible refine Kd.C_drewN ?_ _) | (with_reducible refine Kd.C_drew ?_) | exact HR178_6.out)) hb); have n4_ := Aside0.mk (below_step (by repeat (first | (with_reducible first | exact HB.out | apply below_alloc | apply pw_below_drewN | apply below_drew1 | refine below_set ?_ GE174.out) | exact HB.out)) hb); clear HO_3; clear HL178_6; clear BK174; clear HR178_6; clear HB; have HO_3 := n0_; have HL178_6 := n1_; have BK174 := n2_; have HR178_6 := n3_; have HB := n4_; clear n0_ n1_ n2_ n3_ n4_; (try clear hb); (try clear hb2); (try clear hk); (try clear hi); have p180 : 0 ≤ (x15_1 : Int) := of_decide_eq_true (by first | (with_reducible assumption) | assumption); have q180 : x15_1 < (t175.length : Int) := of_decide_eq_true (by first | (with_reducible assumption) | assumption); obtain ⟨ad180, A180_6, c180_6, e180, hx180_0, hx180_1, hx180_2, hx180_3, hx180_4, hx180_5, hx180_6, hl180_6, hi180_6⟩ := at_T26 (Kd.N_reads' HO_3.out).2.2 x15_1 p180 q180; obtain rfl : ad178 = ad180 := (by injection e180); obtain ⟨ce180, hce180, hMe180, hcc180⟩ := Kd.N_get HO_3.out z26 x15_1 p180 (by first | exact q180 | exact of_decide_eq_true (by first | (with_reducible assumption) | assumption) | (have e_ := (Kd.N_reads' HO_3.out).1; omega)); obtain ⟨ua180_6, uc180_6, rfl, ul180_6, ge180_6⟩ := k26_openF hMe180; have hv180_6 := hcc180 6 _ rfl; rw [add_field _ _ 6 (by omega)] at hv180_6; replace hv180_6 := Option.some.inj (hv180_6.symm.trans hx180_6); injection hv180_6 with hva_ hvn_ hvc_; rw [hva_] at ge180_6; rw [hvc_] at ul180_6; have HL180_6 := Aside0.mk (show Kd.V k26 26 _ w.heap.size _ _ ((rd_T26 t175 x15_1).f3) from Kd.V_mk ul180_6 ge180_6); clear hva_ hvn_ hvc_ ge180_6 ul180_6; clear hcc180 hce180; have HR180_6 := Aside0.mk hi180_6; have HC180_6 := Aside0.mk hl180_6; clear hi180_6 hl180_6; replace p180 := eq_true p180; replace q180 := eq_true q180))
                    repeat (go_quiet (first | (go_at_call 57; (with_reducible refine (sashref04_May.calls ((rd_T26 t175 x15_1).f1.f0) ((rd_T26 t175 x15_1).f1.f1) ((rd_T26 t175 x15_1).f1.f2) ((rd_T26 t175 x15_1).f1.f3) true _ A16.out).mono ?_); rintro e w19 ⟨rfl, hb⟩; have n0_ := Aside0.mk (Kd.N_below (by (with_reducible repeat (first | apply Kd.N_alloc | apply Kd.N_drewN | apply Kd.N_drew)); exact HO_3.out) hb); have n1_ := Aside0.mk (Kd.V_below (by (with_reducible repeat (first | apply Kd.V_alloc | apply Kd.V_drewN | apply Kd.V_drew)); exact HL178_6.out) hb); have n2_ := Aside0.mk (blk_below (g := gb174) (o := .cells #[.int .u8 a0_0, .int .i64 a0_1, .int .i64 a0_2, .int .i64 a0_3, .int .i64 a0_4, .int .i64 a0_5, .slice A0_6 l0_6.length c0_6] 26 (0, 0)) (by (with_reducible repeat (first | refine blk_drewN ?_ _ | refine blk_drew ?_ | refine blk_alloc ?_ _)); exact BK174.out) hb); have n3_ := Aside0.mk (Kd.C_below (by repeat (first | (with_reducible exact HR178_6.out) | (with_reducible refine Kd.C_alloc ?_ _) | (with_reducible refine Kd.C_drewN ?_ _) | (with_reducible refine Kd.C_drew ?_) | exact HR178_6.out)) hb); have n4_ := Aside0.mk (below_step (by repeat (first | (with_reducible first | exact HB.out | apply below_alloc | apply pw_below_drewN | apply below_drew1 | refine below_set ?_ GE174.out) | exact HB.out)) hb); clear HO_3; clear HL178_6; clear BK174; clear HR178_6; clear HB; have HO_3 := n0_; have HL178_6 := n1_; have BK174 := n2_; have HR178_6 := n3_; have HB := n4_; clear n0_ n1_ n2_ n3_ n4_; (try clear hb); (try clear hb2); (try clear hk); (try clear hi); have p180 : 0 ≤ (x15_1 : Int) := of_decide_eq_true (by first | (with_reducible assumption) | assumption); have q180 : x15_1 < (t175.length : Int) := of_decide_eq_true (by first | (with_reducible assumption) | assumption); obtain ⟨ad180, A180_6, c180_6, e180, hx180_0, hx180_1, hx180_2, hx180_3, hx180_4, hx180_5, hx180_6, hl180_6, hi180_6⟩ := at_T26 (Kd.N_reads' HO_3.out).2.2 x15_1 p180 q180; obtain rfl : ad178 = ad180 := (by injection e180); obtain ⟨ce180, hce180, hMe180, hcc180⟩ := Kd.N_get HO_3.out z26 x15_1 p180 (by first | exact q180 | exact of_decide_eq_true (by first | (with_reducible assumption) | assumption) | (have e_ := (Kd.N_reads' HO_3.out).1; omega)); obtain ⟨ua180_6, uc180_6, rfl, ul180_6, ge180_6⟩ := k26_openF hMe180; have hv180_6 := hcc180 6 _ rfl; rw [add_field _ _ 6 (by omega)] at hv180_6; replace hv180_6 := Option.some.inj (hv180_6.symm.trans hx180_6); injection hv180_6 with hva_ hvn_ hvc_; rw [hva_] at ge180_6; rw [hvc_] at ul180_6; have HL180_6 := Aside0.mk (show Kd.V k26 26 _ w.heap.size _ _ ((rd_T26 t175 x15_1).f3) from Kd.V_mk ul180_6 ge180_6); clear hva_ hvn_ hvc_ ge180_6 ul180_6; clear hcc180 hce180; have HR180_6 := Aside0.mk hi180_6; have HC180_6 := Aside0.mk hl180_6; clear hi180_6 hl180_6; replace p180 := eq_true p180; replace q180 := eq_true q180)); try go_wp2_with (first | (go_at_call 57; (with_reducible refine (sashref04_May.calls ((rd_T26 t175 x15_1).f1.f0) ((rd_T26 t175 x15_1).f1.f1) ((rd_T26 t175 x15_1).f1.f2) ((rd_T26 t175 x15_1).f1.f3) true _ A16.out).mono ?_); rintro e w19 ⟨rfl, hb⟩; have n0_ := Aside0.mk (Kd.N_below (by (with_reducible repeat (first | apply Kd.N_alloc | apply Kd.N_drewN | apply Kd.N_drew)); exact HO_3.out) hb); have n1_ := Aside0.mk (Kd.V_below (by (with_reducible repeat (first | apply Kd.V_alloc | apply Kd.V_drewN | apply Kd.V_drew)); exact HL178_6.out) hb); have n2_ := Aside0.mk (blk_below (g := gb174) (o := .cells #[.int .u8 a0_0, .int .i64 a0_1, .int .i64 a0_2, .int .i64 a0_3, .int .i64 a0_4, .int .i64 a0_5, .slice A0_6 l0_6.length c0_6] 26 (0, 0)) (by (with_reducible repeat (first | refine blk_drewN ?_ _ | refine blk_drew ?_ | refine blk_alloc ?_ _)); exact BK174.out) hb); have n3_ := Aside0.mk (Kd.C_below (by repeat (first | (with_reducible exact HR178_6.out) | (with_reducible refine Kd.C_alloc ?_ _) | (with_reducible refine Kd.C_drewN ?_ _) | (with_reducible refine Kd.C_drew ?_) | exact HR178_6.out)) hb); have n4_ := Aside0.mk (below_step (by repeat (first | (with_reducible first | exact HB.out | apply below_alloc | apply pw_below_drewN | apply below_drew1 | refine below_set ?_ GE174.out) | exact HB.out)) hb); clear HO_3; clear HL178_6; clear BK174; clear HR178_6; clear HB; have HO_3 := n0_; have HL178_6 := n1_; have BK174 := n2_; have HR178_6 := n3_; have HB := n4_; clear n0_ n1_ n2_ n3_ n4_; (try clear hb); (try clear hb2); (try clear hk); (try clear hi); have p180 : 0 ≤ (x15_1 : Int) := of_decide_eq_true (by first | (with_reducible assumption) | assumption); have q180 : x15_1 < (t175.length : Int) := of_decide_eq_true (by first | (with_reducible assumption) | assumption); obtain ⟨ad180, A180_6, c180_6, e180, hx180_0, hx180_1, hx180_2, hx180_3, hx180_4, hx180_5, hx180_6, hl180_6, hi180_6⟩ := at_T26 (Kd.N_reads' HO_3.out).2.2 x15_1 p180 q180; obtain rfl : ad178 = ad180 := (by injection e180); obtain ⟨ce180, hce180, hMe180, hcc180⟩ := Kd.N_get HO_3.out z26 x15_1 p180 (by first | exact q180 | exact of_decide_eq_true (by first | (with_reducible assumption) | assumption) | (have e_ := (Kd.N_reads' HO_3.out).1; omega)); obtain ⟨ua180_6, uc180_6, rfl, ul180_6, ge180_6⟩ := k26_openF hMe180; have hv180_6 := hcc180 6 _ rfl; rw [add_field _ _ 6 (by omega)] at hv180_6; replace hv180_6 := Option.some.inj (hv180_6.symm.trans hx180_6); injection hv180_6 with hva_ hvn_ hvc_; rw [hva_] at ge180_6; rw [hvc_] at ul180_6; have HL180_6 := Aside0.mk (show Kd.V k26 26 _ w.heap.size _ _ ((rd_T26 t175 x15_1).f3) from Kd.V_mk ul180_6 ge180_6); clear hva_ hvn_ hvc_ ge180_6 ul180_6; clear hcc180 hce180; have HR180_6 := Aside0.mk hi180_6; have HC180_6 := Aside0.mk hl180_6; clear hi180_6 hl180_6; replace p180 := eq_true p180; replace q180 := eq_true q180)))
                    go_meet
                    case rel => exact ⟨_, (true), (by first | rfl | (simp; done) | (simp [*]; done)), H', ⟨by have := HK1.out; first | omega | exact Nat.le_refl _⟩, ⟨by (with_reducible repeat (first | apply Kd.N_alloc | apply Kd.N_drewN | apply Kd.N_drew)); exact HO_3.out⟩, ⟨by (with_reducible repeat (first | refine blk_drewN ?_ _ | refine blk_drew ?_ | refine blk_alloc ?_ _)); exact BK174.out⟩, ⟨by repeat (first | (with_reducible first | exact HB.out | apply below_alloc | apply pw_below_drewN | apply below_drew1 | refine below_set ?_ GE174.out) | exact HB.out)⟩⟩
                  · rw [if_neg c18] at H
                    have c18b0 : decide (((rd_T26 t175 x15_1).f0) < 1) = false := decide_eq_false c18
                    clear c18
                    have H' := Aside0.mk H
                    clear H
                    have p178 : 0 ≤ (x15_1 : Int) := of_decide_eq_true (by first | (with_reducible assumption) | assumption)
                    have q178 : x15_1 < (t175.length : Int) := of_decide_eq_true (by first | (with_reducible assumption) | assumption)
                    obtain ⟨ad178, A178_6, c178_6, e178, hx178_0, hx178_1, hx178_2, hx178_3, hx178_4, hx178_5, hx178_6, hl178_6, hi178_6⟩ := at_T26 (Kd.N_reads' HO_3.out).2.2 x15_1 p178 q178
                    cases e178
                    obtain ⟨ce178, hce178, hMe178, hcc178⟩ := Kd.N_get HO_3.out z26 x15_1 p178 (by first | exact q178 | exact of_decide_eq_true (by first | (with_reducible assumption) | assumption) | (have e_ := (Kd.N_reads' HO_3.out).1; omega))
                    obtain ⟨ua178_6, uc178_6, rfl, ul178_6, ge178_6⟩ := k26_openF hMe178
                    have hv178_6 := hcc178 6 _ rfl
                    rw [add_field _ _ 6 (by omega)] at hv178_6
                    replace hv178_6 := Option.some.inj (hv178_6.symm.trans hx178_6)
                    injection hv178_6 with hva_ hvn_ hvc_
                    rw [hva_] at ge178_6
                    rw [hvc_] at ul178_6
                    have HL178_6 := Aside0.mk (show Kd.V k26 26 _ w.heap.size _ _ ((rd_T26 t175 x15_1).f3) from Kd.V_mk ul178_6 ge178_6)
                    clear hva_ hvn_ hvc_ ge178_6 ul178_6
                    clear hcc178 hce178
                    have HR178_6 := Aside0.mk hi178_6
                    have HC178_6 := Aside0.mk hl178_6
                    clear hi178_6 hl178_6
                    replace p178 := eq_true p178
                    replace q178 := eq_true q178
                    go_wp2_with (first | (go_at_call 57; (with_reducible refine (sashref04_May.calls ((rd_T26 t175 x15_1).f1.f0) ((rd_T26 t175 x15_1).f1.f1) ((rd_T26 t175 x15_1).f1.f2) ((rd_T26 t175 x15_1).f1.f3) true _ A16.out).mono ?_); rintro e w20 ⟨rfl, hb⟩; have n0_ := Aside0.mk (Kd.N_below (by (with_reducible repeat (first | apply Kd.N_alloc | apply Kd.N_drewN | apply Kd.N_drew)); exact HO_3.out) hb); have n1_ := Aside0.mk (Kd.V_below (by (with_reducible repeat (first | apply Kd.V_alloc | apply Kd.V_drewN | apply Kd.V_drew)); exact HL178_6.out) hb); have n2_ := Aside0.mk (blk_below (g := gb174) (o := .cells #[.int .u8 a0_0, .int .i64 a0_1, .int .i64 a0_2, .int .i64 a0_3, .int .i64 a0_4, .int .i64 a0_5, .slice A0_6 l0_6.length c0_6] 26 (0, 0)) (by (with_reducible repeat (first | refine blk_drewN ?_ _ | refine blk_drew ?_ | refine blk_alloc ?_ _)); exact BK174.out) hb); have n3_ := Aside0.mk (Kd.C_below (by repeat (first | (with_reducible exact HR178_6.out) | (with_reducible refine Kd.C_alloc ?_ _) | (with_reducible refine Kd.C_drewN ?_ _) | (with_reducible refine Kd.C_drew ?_) | exact HR178_6.out)) hb); have n4_ := Aside0.mk (below_step (by repeat (first | (with_reducible first | exact HB.out | apply below_alloc | apply pw_below_drewN | apply below_drew1 | refine below_set ?_ GE174.out) | exact HB.out)) hb); clear HO_3; clear HL178_6; clear BK174; clear HR178_6; clear HB; have HO_3 := n0_; have HL178_6 := n1_; have BK174 := n2_; have HR178_6 := n3_; have HB := n4_; clear n0_ n1_ n2_ n3_ n4_; (try clear hb); (try clear hb2); (try clear hk); (try clear hi); have p180 : 0 ≤ (x15_1 : Int) := of_decide_eq_true (by first | (with_reducible assumption) | assumption); have q180 : x15_1 < (t175.length : Int) := of_decide_eq_true (by first | (with_reducible assumption) | assumption); obtain ⟨ad180, A180_6, c180_6, e180, hx180_0, hx180_1, hx180_2, hx180_3, hx180_4, hx180_5, hx180_6, hl180_6, hi180_6⟩ := at_T26 (Kd.N_reads' HO_3.out).2.2 x15_1 p180 q180; obtain rfl : ad178 = ad180 := (by injection e180); obtain ⟨ce180, hce180, hMe180, hcc180⟩ := Kd.N_get HO_3.out z26 x15_1 p180 (by first | exact q180 | exact of_decide_eq_true (by first | (with_reducible assumption) | assumption) | (have e_ := (Kd.N_reads' HO_3.out).1; omega)); obtain ⟨ua180_6, uc180_6, rfl, ul180_6, ge180_6⟩ := k26_openF hMe180; have hv180_6 := hcc180 6 _ rfl; rw [add_field _ _ 6 (by omega)] at hv180_6; replace hv180_6 := Option.some.inj (hv180_6.symm.trans hx180_6); injection hv180_6 with hva_ hvn_ hvc_; rw [hva_] at ge180_6; rw [hvc_] at ul180_6; have HL180_6 := Aside0.mk (show Kd.V k26 26 _ w.heap.size _ _ ((rd_T26 t175 x15_1).f3) from Kd.V_mk ul180_6 ge180_6); clear hva_ hvn_ hvc_ ge180_6 ul180_6; clear hcc180 hce180; have HR180_6 := Aside0.mk hi180_6; have HC180_6 := Aside0.mk hl180_6; clear hi180_6 hl180_6; replace p180 := eq_true p180; replace q180 := eq_true q180; have p181 : 0 ≤ (x15_1 : Int) := of_decide_eq_true (by first | (with_reducible assumption) | assumption); have q181 : x15_1 < (t175.length : Int) := of_decide_eq_true (by first | (with_reducible assumption) | assumption); obtain ⟨ad181, A181_6, c181_6, e181, hx181_0, hx181_1, hx181_2, hx181_3, hx181_4, hx181_5, hx181_6, hl181_6, hi181_6⟩ := at_T26 (Kd.N_reads' HO_3.out).2.2 x15_1 p181 q181; obtain rfl : ad178 = ad181 := (by injection e181); obtain ⟨ce181, hce181, hMe181, hcc181⟩ := Kd.N_get HO_3.out z26 x15_1 p181 (by first | exact q181 | exact of_decide_eq_true (by first | (with_reducible assumption) | assumption) | (have e_ := (Kd.N_reads' HO_3.out).1; omega)); obtain ⟨ua181_6, uc181_6, rfl, ul181_6, ge181_6⟩ := k26_openF hMe181; have hv181_6 := hcc181 6 _ rfl; rw [add_field _ _ 6 (by omega)] at hv181_6; replace hv181_6 := Option.some.inj (hv181_6.symm.trans hx181_6); injection hv181_6 with hva_ hvn_ hvc_; rw [hva_] at ge181_6; rw [hvc_] at ul181_6; have HL181_6 := Aside0.mk (show Kd.V k26 26 _ w.heap.size _ _ ((rd_T26 t175 x15_1).f3) from Kd.V_mk ul181_6 ge181_6); clear hva_ hvn_ hvc_ ge181_6 ul181_6; clear hcc181 hce181; have HR181_6 := Aside0.mk hi181_6; have HC181_6 := Aside0.mk hl181_6; clear hi181_6 hl181_6; replace p181 := eq_true p181; replace q181 := eq_true q181; have ea_ := Option.some.inj (hx180_6.symm.trans hx181_6); injection ea_ with ea_ en_ ec_; subst ea_; subst ec_; clear en_))
                    repeat (go_quiet (first | (go_at_call 57; (with_reducible refine (sashref04_May.calls ((rd_T26 t175 x15_1).f1.f0) ((rd_T26 t175 x15_1).f1.f1) ((rd_T26 t175 x15_1).f1.f2) ((rd_T26 t175 x15_1).f1.f3) true _ A16.out).mono ?_); rintro e w20 ⟨rfl, hb⟩; have n0_ := Aside0.mk (Kd.N_below (by (with_reducible repeat (first | apply Kd.N_alloc | apply Kd.N_drewN | apply Kd.N_drew)); exact HO_3.out) hb); have n1_ := Aside0.mk (Kd.V_below (by (with_reducible repeat (first | apply Kd.V_alloc | apply Kd.V_drewN | apply Kd.V_drew)); exact HL178_6.out) hb); have n2_ := Aside0.mk (blk_below (g := gb174) (o := .cells #[.int .u8 a0_0, .int .i64 a0_1, .int .i64 a0_2, .int .i64 a0_3, .int .i64 a0_4, .int .i64 a0_5, .slice A0_6 l0_6.length c0_6] 26 (0, 0)) (by (with_reducible repeat (first | refine blk_drewN ?_ _ | refine blk_drew ?_ | refine blk_alloc ?_ _)); exact BK174.out) hb); have n3_ := Aside0.mk (Kd.C_below (by repeat (first | (with_reducible exact HR178_6.out) | (with_reducible refine Kd.C_alloc ?_ _) | (with_reducible refine Kd.C_drewN ?_ _) | (with_reducible refine Kd.C_drew ?_) | exact HR178_6.out)) hb); have n4_ := Aside0.mk (below_step (by repeat (first | (with_reducible first | exact HB.out | apply below_alloc | apply pw_below_drewN | apply below_drew1 | refine below_set ?_ GE174.out) | exact HB.out)) hb); clear HO_3; clear HL178_6; clear BK174; clear HR178_6; clear HB; have HO_3 := n0_; have HL178_6 := n1_; have BK174 := n2_; have HR178_6 := n3_; have HB := n4_; clear n0_ n1_ n2_ n3_ n4_; (try clear hb); (try clear hb2); (try clear hk); (try clear hi); have p180 : 0 ≤ (x15_1 : Int) := of_decide_eq_true (by first | (with_reducible assumption) | assumption); have q180 : x15_1 < (t175.length : Int) := of_decide_eq_true (by first | (with_reducible assumption) | assumption); obtain ⟨ad180, A180_6, c180_6, e180, hx180_0, hx180_1, hx180_2, hx180_3, hx180_4, hx180_5, hx180_6, hl180_6, hi180_6⟩ := at_T26 (Kd.N_reads' HO_3.out).2.2 x15_1 p180 q180; obtain rfl : ad178 = ad180 := (by injection e180); obtain ⟨ce180, hce180, hMe180, hcc180⟩ := Kd.N_get HO_3.out z26 x15_1 p180 (by first | exact q180 | exact of_decide_eq_true (by first | (with_reducible assumption) | assumption) | (have e_ := (Kd.N_reads' HO_3.out).1; omega)); obtain ⟨ua180_6, uc180_6, rfl, ul180_6, ge180_6⟩ := k26_openF hMe180; have hv180_6 := hcc180 6 _ rfl; rw [add_field _ _ 6 (by omega)] at hv180_6; replace hv180_6 := Option.some.inj (hv180_6.symm.trans hx180_6); injection hv180_6 with hva_ hvn_ hvc_; rw [hva_] at ge180_6; rw [hvc_] at ul180_6; have HL180_6 := Aside0.mk (show Kd.V k26 26 _ w.heap.size _ _ ((rd_T26 t175 x15_1).f3) from Kd.V_mk ul180_6 ge180_6); clear hva_ hvn_ hvc_ ge180_6 ul180_6; clear hcc180 hce180; have HR180_6 := Aside0.mk hi180_6; have HC180_6 := Aside0.mk hl180_6; clear hi180_6 hl180_6; replace p180 := eq_true p180; replace q180 := eq_true q180; have p181 : 0 ≤ (x15_1 : Int) := of_decide_eq_true (by first | (with_reducible assumption) | assumption); have q181 : x15_1 < (t175.length : Int) := of_decide_eq_true (by first | (with_reducible assumption) | assumption); obtain ⟨ad181, A181_6, c181_6, e181, hx181_0, hx181_1, hx181_2, hx181_3, hx181_4, hx181_5, hx181_6, hl181_6, hi181_6⟩ := at_T26 (Kd.N_reads' HO_3.out).2.2 x15_1 p181 q181; obtain rfl : ad178 = ad181 := (by injection e181); obtain ⟨ce181, hce181, hMe181, hcc181⟩ := Kd.N_get HO_3.out z26 x15_1 p181 (by first | exact q181 | exact of_decide_eq_true (by first | (with_reducible assumption) | assumption) | (have e_ := (Kd.N_reads' HO_3.out).1; omega)); obtain ⟨ua181_6, uc181_6, rfl, ul181_6, ge181_6⟩ := k26_openF hMe181; have hv181_6 := hcc181 6 _ rfl; rw [add_field _ _ 6 (by omega)] at hv181_6; replace hv181_6 := Option.some.inj (hv181_6.symm.trans hx181_6); injection hv181_6 with hva_ hvn_ hvc_; rw [hva_] at ge181_6; rw [hvc_] at ul181_6; have HL181_6 := Aside0.mk (show Kd.V k26 26 _ w.heap.size _ _ ((rd_T26 t175 x15_1).f3) from Kd.V_mk ul181_6 ge181_6); clear hva_ hvn_ hvc_ ge181_6 ul181_6; clear hcc181 hce181; have HR181_6 := Aside0.mk hi181_6; have HC181_6 := Aside0.mk hl181_6; clear hi181_6 hl181_6; replace p181 := eq_true p181; replace q181 := eq_true q181; have ea_ := Option.some.inj (hx180_6.symm.trans hx181_6); injection ea_ with ea_ en_ ec_; subst ea_; subst ec_; clear en_)); try go_wp2_with (first | (go_at_call 57; (with_reducible refine (sashref04_May.calls ((rd_T26 t175 x15_1).f1.f0) ((rd_T26 t175 x15_1).f1.f1) ((rd_T26 t175 x15_1).f1.f2) ((rd_T26 t175 x15_1).f1.f3) true _ A16.out).mono ?_); rintro e w20 ⟨rfl, hb⟩; have n0_ := Aside0.mk (Kd.N_below (by (with_reducible repeat (first | apply Kd.N_alloc | apply Kd.N_drewN | apply Kd.N_drew)); exact HO_3.out) hb); have n1_ := Aside0.mk (Kd.V_below (by (with_reducible repeat (first | apply Kd.V_alloc | apply Kd.V_drewN | apply Kd.V_drew)); exact HL178_6.out) hb); have n2_ := Aside0.mk (blk_below (g := gb174) (o := .cells #[.int .u8 a0_0, .int .i64 a0_1, .int .i64 a0_2, .int .i64 a0_3, .int .i64 a0_4, .int .i64 a0_5, .slice A0_6 l0_6.length c0_6] 26 (0, 0)) (by (with_reducible repeat (first | refine blk_drewN ?_ _ | refine blk_drew ?_ | refine blk_alloc ?_ _)); exact BK174.out) hb); have n3_ := Aside0.mk (Kd.C_below (by repeat (first | (with_reducible exact HR178_6.out) | (with_reducible refine Kd.C_alloc ?_ _) | (with_reducible refine Kd.C_drewN ?_ _) | (with_reducible refine Kd.C_drew ?_) | exact HR178_6.out)) hb); have n4_ := Aside0.mk (below_step (by repeat (first | (with_reducible first | exact HB.out | apply below_alloc | apply pw_below_drewN | apply below_drew1 | refine below_set ?_ GE174.out) | exact HB.out)) hb); clear HO_3; clear HL178_6; clear BK174; clear HR178_6; clear HB; have HO_3 := n0_; have HL178_6 := n1_; have BK174 := n2_; have HR178_6 := n3_; have HB := n4_; clear n0_ n1_ n2_ n3_ n4_; (try clear hb); (try clear hb2); (try clear hk); (try clear hi); have p180 : 0 ≤ (x15_1 : Int) := of_decide_eq_true (by first | (with_reducible assumption) | assumption); have q180 : x15_1 < (t175.length : Int) := of_decide_eq_true (by first | (with_reducible assumption) | assumption); obtain ⟨ad180, A180_6, c180_6, e180, hx180_0, hx180_1, hx180_2, hx180_3, hx180_4, hx180_5, hx180_6, hl180_6, hi180_6⟩ := at_T26 (Kd.N_reads' HO_3.out).2.2 x15_1 p180 q180; obtain rfl : ad178 = ad180 := (by injection e180); obtain ⟨ce180, hce180, hMe180, hcc180⟩ := Kd.N_get HO_3.out z26 x15_1 p180 (by first | exact q180 | exact of_decide_eq_true (by first | (with_reducible assumption) | assumption) | (have e_ := (Kd.N_reads' HO_3.out).1; omega)); obtain ⟨ua180_6, uc180_6, rfl, ul180_6, ge180_6⟩ := k26_openF hMe180; have hv180_6 := hcc180 6 _ rfl; rw [add_field _ _ 6 (by omega)] at hv180_6; replace hv180_6 := Option.some.inj (hv180_6.symm.trans hx180_6); injection hv180_6 with hva_ hvn_ hvc_; rw [hva_] at ge180_6; rw [hvc_] at ul180_6; have HL180_6 := Aside0.mk (show Kd.V k26 26 _ w.heap.size _ _ ((rd_T26 t175 x15_1).f3) from Kd.V_mk ul180_6 ge180_6); clear hva_ hvn_ hvc_ ge180_6 ul180_6; clear hcc180 hce180; have HR180_6 := Aside0.mk hi180_6; have HC180_6 := Aside0.mk hl180_6; clear hi180_6 hl180_6; replace p180 := eq_true p180; replace q180 := eq_true q180; have p181 : 0 ≤ (x15_1 : Int) := of_decide_eq_true (by first | (with_reducible assumption) | assumption); have q181 : x15_1 < (t175.length : Int) := of_decide_eq_true (by first | (with_reducible assumption) | assumption); obtain ⟨ad181, A181_6, c181_6, e181, hx181_0, hx181_1, hx181_2, hx181_3, hx181_4, hx181_5, hx181_6, hl181_6, hi181_6⟩ := at_T26 (Kd.N_reads' HO_3.out).2.2 x15_1 p181 q181; obtain rfl : ad178 = ad181 := (by injection e181); obtain ⟨ce181, hce181, hMe181, hcc181⟩ := Kd.N_get HO_3.out z26 x15_1 p181 (by first | exact q181 | exact of_decide_eq_true (by first | (with_reducible assumption) | assumption) | (have e_ := (Kd.N_reads' HO_3.out).1; omega)); obtain ⟨ua181_6, uc181_6, rfl, ul181_6, ge181_6⟩ := k26_openF hMe181; have hv181_6 := hcc181 6 _ rfl; rw [add_field _ _ 6 (by omega)] at hv181_6; replace hv181_6 := Option.some.inj (hv181_6.symm.trans hx181_6); injection hv181_6 with hva_ hvn_ hvc_; rw [hva_] at ge181_6; rw [hvc_] at ul181_6; have HL181_6 := Aside0.mk (show Kd.V k26 26 _ w.heap.size _ _ ((rd_T26 t175 x15_1).f3) from Kd.V_mk ul181_6 ge181_6); clear hva_ hvn_ hvc_ ge181_6 ul181_6; clear hcc181 hce181; have HR181_6 := Aside0.mk hi181_6; have HC181_6 := Aside0.mk hl181_6; clear hi181_6 hl181_6; replace p181 := eq_true p181; replace q181 := eq_true q181; have ea_ := Option.some.inj (hx180_6.symm.trans hx181_6); injection ea_ with ea_ en_ ec_; subst ea_; subst ec_; clear en_)))
                    go_meet
                    case rel => exact ⟨_, (decide (((rd_T26 t175 x15_1).f0) > 3)), (by first | rfl | (simp; done) | (simp [*]; done)), H', ⟨by have := HK1.out; first | omega | exact Nat.le_refl _⟩, ⟨by (with_reducible repeat (first | apply Kd.N_alloc | apply Kd.N_drewN | apply Kd.N_drew)); exact HO_3.out⟩, ⟨by (with_reducible repeat (first | refine blk_drewN ?_ _ | refine blk_drew ?_ | refine blk_alloc ?_ _)); exact BK174.out⟩, ⟨by repeat (first | (with_reducible first | exact HB.out | apply below_alloc | apply pw_below_drewN | apply below_drew1 | refine below_set ?_ GE174.out) | exact HB.out)⟩⟩
                · replace c17 := Bool.eq_false_iff.mpr c17
                  subst c17
                  have H1 : (sashref05_May.j1 k1 t175 x15_1 (t175.length : Int) x15_1 true a0_0 a0_1 a0_2 a0_3 a0_4 a0_5 l0_6) = some r := by rw [if_neg (show ¬ (false = true) by decide)] at H; exact H
                  clear H
                  have H := H1
                  clear H1
                  have H' := Aside0.mk H
                  clear H
                  have p178 : 0 ≤ (x15_1 : Int) := of_decide_eq_true (by first | (with_reducible assumption) | assumption)
                  have q178 : x15_1 < (t175.length : Int) := of_decide_eq_true (by first | (with_reducible assumption) | assumption)
                  obtain ⟨ad178, A178_6, c178_6, e178, hx178_0, hx178_1, hx178_2, hx178_3, hx178_4, hx178_5, hx178_6, hl178_6, hi178_6⟩ := at_T26 (Kd.N_reads' HO_3.out).2.2 x15_1 p178 q178
                  cases e178
                  obtain ⟨ce178, hce178, hMe178, hcc178⟩ := Kd.N_get HO_3.out z26 x15_1 p178 (by first | exact q178 | exact of_decide_eq_true (by first | (with_reducible assumption) | assumption) | (have e_ := (Kd.N_reads' HO_3.out).1; omega))
                  obtain ⟨ua178_6, uc178_6, rfl, ul178_6, ge178_6⟩ := k26_openF hMe178
                  have hv178_6 := hcc178 6 _ rfl
                  rw [add_field _ _ 6 (by omega)] at hv178_6
                  replace hv178_6 := Option.some.inj (hv178_6.symm.trans hx178_6)
                  injection hv178_6 with hva_ hvn_ hvc_
                  rw [hva_] at ge178_6
                  rw [hvc_] at ul178_6
                  have HL178_6 := Aside0.mk (show Kd.V k26 26 _ w.heap.size _ _ ((rd_T26 t175 x15_1).f3) from Kd.V_mk ul178_6 ge178_6)
                  clear hva_ hvn_ hvc_ ge178_6 ul178_6
                  clear hcc178 hce178
                  have HR178_6 := Aside0.mk hi178_6
                  have HC178_6 := Aside0.mk hl178_6
                  clear hi178_6 hl178_6
                  replace p178 := eq_true p178
                  replace q178 := eq_true q178
                  go_wp2_with (first | (go_at_call 57; (with_reducible refine (sashref04_May.calls ((rd_T26 t175 x15_1).f1.f0) ((rd_T26 t175 x15_1).f1.f1) ((rd_T26 t175 x15_1).f1.f2) ((rd_T26 t175 x15_1).f1.f3) false _ A16.out).mono ?_); rintro e w21 ⟨rfl, hb⟩; have n0_ := Aside0.mk (Kd.N_below (by (with_reducible repeat (first | apply Kd.N_alloc | apply Kd.N_drewN | apply Kd.N_drew)); exact HO_3.out) hb); have n1_ := Aside0.mk (Kd.V_below (by (with_reducible repeat (first | apply Kd.V_alloc | apply Kd.V_drewN | apply Kd.V_drew)); exact HL178_6.out) hb); have n2_ := Aside0.mk (blk_below (g := gb174) (o := .cells #[.int .u8 a0_0, .int .i64 a0_1, .int .i64 a0_2, .int .i64 a0_3, .int .i64 a0_4, .int .i64 a0_5, .slice A0_6 l0_6.length c0_6] 26 (0, 0)) (by (with_reducible repeat (first | refine blk_drewN ?_ _ | refine blk_drew ?_ | refine blk_alloc ?_ _)); exact BK174.out) hb); have n3_ := Aside0.mk (Kd.C_below (by repeat (first | (with_reducible exact HR178_6.out) | (with_reducible refine Kd.C_alloc ?_ _) | (with_reducible refine Kd.C_drewN ?_ _) | (with_reducible refine Kd.C_drew ?_) | exact HR178_6.out)) hb); have n4_ := Aside0.mk (below_step (by repeat (first | (with_reducible first | exact HB.out | apply below_alloc | apply pw_below_drewN | apply below_drew1 | refine below_set ?_ GE174.out) | exact HB.out)) hb); clear HO_3; clear HL178_6; clear BK174; clear HR178_6; clear HB; have HO_3 := n0_; have HL178_6 := n1_; have BK174 := n2_; have HR178_6 := n3_; have HB := n4_; clear n0_ n1_ n2_ n3_ n4_; (try clear hb); (try clear hb2); (try clear hk); (try clear hi)))
                  repeat (go_quiet (first | (go_at_call 57; (with_reducible refine (sashref04_May.calls ((rd_T26 t175 x15_1).f1.f0) ((rd_T26 t175 x15_1).f1.f1) ((rd_T26 t175 x15_1).f1.f2) ((rd_T26 t175 x15_1).f1.f3) false _ A16.out).mono ?_); rintro e w21 ⟨rfl, hb⟩; have n0_ := Aside0.mk (Kd.N_below (by (with_reducible repeat (first | apply Kd.N_alloc | apply Kd.N_drewN | apply Kd.N_drew)); exact HO_3.out) hb); have n1_ := Aside0.mk (Kd.V_below (by (with_reducible repeat (first | apply Kd.V_alloc | apply Kd.V_drewN | apply Kd.V_drew)); exact HL178_6.out) hb); have n2_ := Aside0.mk (blk_below (g := gb174) (o := .cells #[.int .u8 a0_0, .int .i64 a0_1, .int .i64 a0_2, .int .i64 a0_3, .int .i64 a0_4, .int .i64 a0_5, .slice A0_6 l0_6.length c0_6] 26 (0, 0)) (by (with_reducible repeat (first | refine blk_drewN ?_ _ | refine blk_drew ?_ | refine blk_alloc ?_ _)); exact BK174.out) hb); have n3_ := Aside0.mk (Kd.C_below (by repeat (first | (with_reducible exact HR178_6.out) | (with_reducible refine Kd.C_alloc ?_ _) | (with_reducible refine Kd.C_drewN ?_ _) | (with_reducible refine Kd.C_drew ?_) | exact HR178_6.out)) hb); have n4_ := Aside0.mk (below_step (by repeat (first | (with_reducible first | exact HB.out | apply below_alloc | apply pw_below_drewN | apply below_drew1 | refine below_set ?_ GE174.out) | exact HB.out)) hb); clear HO_3; clear HL178_6; clear BK174; clear HR178_6; clear HB; have HO_3 := n0_; have HL178_6 := n1_; have BK174 := n2_; have HR178_6 := n3_; have HB := n4_; clear n0_ n1_ n2_ n3_ n4_; (try clear hb); (try clear hb2); (try clear hk); (try clear hi))); try go_wp2_with (first | (go_at_call 57; (with_reducible refine (sashref04_May.calls ((rd_T26 t175 x15_1).f1.f0) ((rd_T26 t175 x15_1).f1.f1) ((rd_T26 t175 x15_1).f1.f2) ((rd_T26 t175 x15_1).f1.f3) false _ A16.out).mono ?_); rintro e w21 ⟨rfl, hb⟩; have n0_ := Aside0.mk (Kd.N_below (by (with_reducible repeat (first | apply Kd.N_alloc | apply Kd.N_drewN | apply Kd.N_drew)); exact HO_3.out) hb); have n1_ := Aside0.mk (Kd.V_below (by (with_reducible repeat (first | apply Kd.V_alloc | apply Kd.V_drewN | apply Kd.V_drew)); exact HL178_6.out) hb); have n2_ := Aside0.mk (blk_below (g := gb174) (o := .cells #[.int .u8 a0_0, .int .i64 a0_1, .int .i64 a0_2, .int .i64 a0_3, .int .i64 a0_4, .int .i64 a0_5, .slice A0_6 l0_6.length c0_6] 26 (0, 0)) (by (with_reducible repeat (first | refine blk_drewN ?_ _ | refine blk_drew ?_ | refine blk_alloc ?_ _)); exact BK174.out) hb); have n3_ := Aside0.mk (Kd.C_below (by repeat (first | (with_reducible exact HR178_6.out) | (with_reducible refine Kd.C_alloc ?_ _) | (with_reducible refine Kd.C_drewN ?_ _) | (with_reducible refine Kd.C_drew ?_) | exact HR178_6.out)) hb); have n4_ := Aside0.mk (below_step (by repeat (first | (with_reducible first | exact HB.out | apply below_alloc | apply pw_below_drewN | apply below_drew1 | refine below_set ?_ GE174.out) | exact HB.out)) hb); clear HO_3; clear HL178_6; clear BK174; clear HR178_6; clear HB; have HO_3 := n0_; have HL178_6 := n1_; have BK174 := n2_; have HR178_6 := n3_; have HB := n4_; clear n0_ n1_ n2_ n3_ n4_; (try clear hb); (try clear hb2); (try clear hk); (try clear hi))))
                  go_meet
                  case rel => exact ⟨_, (true), (by first | rfl | (simp; done) | (simp [*]; done)), H', ⟨by have := HK1.out; first | omega | exact Nat.le_refl _⟩, ⟨by (with_reducible repeat (first | apply Kd.N_alloc | apply Kd.N_drewN | apply Kd.N_drew)); exact HO_3.out⟩, ⟨by (with_reducible repeat (first | refine blk_drewN ?_ _ | refine blk_drew ?_ | refine blk_alloc ?_ _)); exact BK174.out⟩, ⟨by repeat (first | (with_reducible first | exact HB.out | apply below_alloc | apply pw_below_drewN | apply below_drew1 | refine below_set ?_ GE174.out) | exact HB.out)⟩⟩
              · rw [if_neg c15] at H
                exact absurd H (by simp)
            · rw [if_neg c14] at H
              exact absurd H (by simp)
          case rest =>
            clear HC13
            try clear c1
            try clear p1
            try clear q1
            try clear hx1
            try clear p2
            try clear c3
            try clear c3b0
            try clear c3b1
            try clear c12
            try clear c12b0
            try clear c14
            try clear c14b0
            try clear c15
            try clear c15b0
            try clear c17
            try clear p17
            try clear q17
            try clear hx17
            try clear c18
            try clear c18b0
            try clear p18
            try clear q18
            try clear hx18
            try clear hcz5_0
            try clear hcz5_1
            try clear hcz5_2
            try clear hcz5_3
            try clear hcz5_4
            try clear hcz5_5
            try clear hcz5_6
            try clear hcz9_0
            try clear hcz9_1
            try clear hcz9_2
            try clear hcz9_3
            try clear hcz9_4
            try clear hcz9_5
            try clear hcz9_6
            try clear hfz5_0
            try clear hfz5_1
            try clear hfz5_2
            try clear hfz5_3
            try clear hfz5_4
            try clear hfz5_5
            try clear hfz5_6
            try clear hfz9_0
            try clear hfz9_1
            try clear hfz9_2
            try clear hfz9_3
            try clear hfz9_4
            try clear hfz9_5
            try clear hfz9_6
            try clear hx178_0
            try clear hx178_1
            try clear hx178_2
            try clear hx178_3
            try clear hx178_4
            try clear hx178_5
            try clear hx178_6
            try clear hx180_0
            try clear hx180_1
            try clear hx180_2
            try clear hx180_3
            try clear hx180_4
            try clear hx180_5
            try clear hx180_6
            try clear hx181_0
            try clear hx181_1
            try clear hx181_2
            try clear hx181_3
            try clear hx181_4
            try clear hx181_5
            try clear hx181_6
            try clear p178
            try clear p180
            try clear p181
            try clear p2
            try clear q178
            try clear q180
            try clear q181
            obtain ⟨kq, x40_12, rfl, HA, HJ12, HO_3, BK174, HB⟩ := hcut
            cases kq with
            | zero => exact absurd HA.out (by simp [sashref05_May.j1])
            | succ kj12 =>
              have H := HA.out
              clear HA
              simp only [sashref05_May.j1] at H
              by_cases c22 : x40_12 = true
              · subst c22
                have H1 : (some false) = some r := by rw [if_pos rfl] at H; exact H
                clear H
                have H := H1
                clear H1
                obtain rfl := Option.some.inj H
                go_wp2
                repeat (go_quiet (fail); try go_wp2)
                go_ret
                exact ⟨by first | rfl | (simp [errW_none, errW_some] <;> rfl) | (simp [*, errW_none, errW_some] <;> rfl), by repeat (first | (with_reducible first | exact HB.out | apply below_alloc | apply pw_below_drewN | apply below_drew1 | refine below_set ?_ GE174.out) | exact HB.out)⟩
              · replace c22 := Bool.eq_false_iff.mpr c22
                subst c22
                have H1 : (if 0 ≤ x15_1 then (if x15_1 < (t175.length : Int) then (if ((rd_T26 t175 x15_1).f0) = 1 then (if (((rd_T26 t175 x15_1).f3).length : Int) > 0 then (some false) else (if ((rd_T26 t175 x15_1).f2) < 0 then (some false) else (if ((rd_T26 t175 x15_1).f2) > 2147483647 then (some false) else (if ((rd_T26 t175 x15_1).f0) > 1 then (if (((rd_T26 t175 x15_1).f3).length : Int) < 2 then (some false) else (if ((rd_T26 t175 x15_1).f2) = 0 then (sashref05_May.l0 kj12 t175 (t175.length : Int) (wrap64 (x15_1 + 1)) a0_0 a0_1 a0_2 a0_3 a0_4 a0_5 l0_6) else (some false))) else (sashref05_May.l0 kj12 t175 (t175.length : Int) (wrap64 (x15_1 + 1)) a0_0 a0_1 a0_2 a0_3 a0_4 a0_5 l0_6))))) else (if ((rd_T26 t175 x15_1).f0) > 1 then (if (((rd_T26 t175 x15_1).f3).length : Int) < 2 then (some false) else (if ((rd_T26 t175 x15_1).f2) = 0 then (sashref05_May.l0 kj12 t175 (t175.length : Int) (wrap64 (x15_1 + 1)) a0_0 a0_1 a0_2 a0_3 a0_4 a0_5 l0_6) else (some false))) else (sashref05_May.l0 kj12 t175 (t175.length : Int) (wrap64 (x15_1 + 1)) a0_0 a0_1 a0_2 a0_3 a0_4 a0_5 l0_6))) else (none)) else (none)) = some r := by rw [if_neg (show ¬ (false = true) by decide)] at H; exact H
                clear H
                have H := H1
                clear H1
                by_cases c23 : 0 ≤ x15_1
                · rw [if_pos c23] at H
                  have c23b0 : decide (0 ≤ x15_1) = true := decide_eq_true c23
                  clear c23
                  by_cases c24 : x15_1 < (t175.length : Int)
                  · rw [if_pos c24] at H
                    have c24b0 : decide (x15_1 < (t175.length : Int)) = true := decide_eq_true c24
                    clear c24
                    by_cases c25 : ((rd_T26 t175 x15_1).f0) = 1
                    · rw [if_pos c25] at H
                      have c25b0 : (((rd_T26 t175 x15_1).f0) == 1) = true := beq_iff_eq.mpr c25
                      have c25b1 : (((rd_T26 t175 x15_1).f0) != 1) = false := bne_eq_false_iff_eq.mpr c25
                      clear c25
                      by_cases c26 : (((rd_T26 t175 x15_1).f3).length : Int) > 0
                      · rw [if_pos c26] at H
                        have c26b0 : decide (0 < (((rd_T26 t175 x15_1).f3).length : Int)) = true := decide_eq_true c26
                        have c26b1 : decide (0 < ((rd_T26 t175 x15_1).f3).length) = true := decide_eq_true (by omega)
                        clear c26
                        obtain rfl := Option.some.inj H
                        have p182 : 0 ≤ (x15_1 : Int) := of_decide_eq_true (by first | (with_reducible assumption) | assumption)
                        have q182 : x15_1 < (t175.length : Int) := of_decide_eq_true (by first | (with_reducible assumption) | assumption)
                        obtain ⟨ad182, A182_6, c182_6, e182, hx182_0, hx182_1, hx182_2, hx182_3, hx182_4, hx182_5, hx182_6, hl182_6, hi182_6⟩ := at_T26 (Kd.N_reads' HO_3.out).2.2 x15_1 p182 q182
                        cases e182
                        obtain ⟨ce182, hce182, hMe182, hcc182⟩ := Kd.N_get HO_3.out z26 x15_1 p182 (by first | exact q182 | exact of_decide_eq_true (by first | (with_reducible assumption) | assumption) | (have e_ := (Kd.N_reads' HO_3.out).1; omega))
                        obtain ⟨ua182_6, uc182_6, rfl, ul182_6, ge182_6⟩ := k26_openF hMe182
                        have hv182_6 := hcc182 6 _ rfl
                        rw [add_field _ _ 6 (by omega)] at hv182_6
                        replace hv182_6 := Option.some.inj (hv182_6.symm.trans hx182_6)
                        injection hv182_6 with hva_ hvn_ hvc_
                        rw [hva_] at ge182_6
                        rw [hvc_] at ul182_6
                        have HL182_6 := Aside0.mk (show Kd.V k26 26 _ w.heap.size _ _ ((rd_T26 t175 x15_1).f3) from Kd.V_mk ul182_6 ge182_6)
                        clear hva_ hvn_ hvc_ ge182_6 ul182_6
                        clear hcc182 hce182
                        have HR182_6 := Aside0.mk hi182_6
                        have HC182_6 := Aside0.mk hl182_6
                        clear hi182_6 hl182_6
                        replace p182 := eq_true p182
                        replace q182 := eq_true q182
                        have p183 : 0 ≤ (x15_1 : Int) := of_decide_eq_true (by first | (with_reducible assumption) | assumption)
                        have q183 : x15_1 < (t175.length : Int) := of_decide_eq_true (by first | (with_reducible assumption) | assumption)
                        obtain ⟨ad183, A183_6, c183_6, e183, hx183_0, hx183_1, hx183_2, hx183_3, hx183_4, hx183_5, hx183_6, hl183_6, hi183_6⟩ := at_T26 (Kd.N_reads' HO_3.out).2.2 x15_1 p183 q183
                        obtain rfl : ad182 = ad183 := (by injection e183)
                        obtain ⟨ce183, hce183, hMe183, hcc183⟩ := Kd.N_get HO_3.out z26 x15_1 p183 (by first | exact q183 | exact of_decide_eq_true (by first | (with_reducible assumption) | assumption) | (have e_ := (Kd.N_reads' HO_3.out).1; omega))
                        obtain ⟨ua183_6, uc183_6, rfl, ul183_6, ge183_6⟩ := k26_openF hMe183
                        have hv183_6 := hcc183 6 _ rfl
                        rw [add_field _ _ 6 (by omega)] at hv183_6
                        replace hv183_6 := Option.some.inj (hv183_6.symm.trans hx183_6)
                        injection hv183_6 with hva_ hvn_ hvc_
                        rw [hva_] at ge183_6
                        rw [hvc_] at ul183_6
                        have HL183_6 := Aside0.mk (show Kd.V k26 26 _ w.heap.size _ _ ((rd_T26 t175 x15_1).f3) from Kd.V_mk ul183_6 ge183_6)
                        clear hva_ hvn_ hvc_ ge183_6 ul183_6
                        clear hcc183 hce183
                        have HR183_6 := Aside0.mk hi183_6
                        have HC183_6 := Aside0.mk hl183_6
                        clear hi183_6 hl183_6
                        replace p183 := eq_true p183
                        replace q183 := eq_true q183
                        have ea_ := Option.some.inj (hx182_6.symm.trans hx183_6)
                        injection ea_ with ea_ en_ ec_
                        subst ea_
                        subst ec_
                        clear en_
                        go_wp2
                        repeat (go_quiet (fail); try go_wp2)
                        go_ret
                        exact ⟨by first | rfl | (simp [errW_none, errW_some] <;> rfl) | (simp [*, errW_none, errW_some] <;> rfl), by repeat (first | (with_reducible first | exact HB.out | apply below_alloc | apply pw_below_drewN | apply below_drew1 | refine below_set ?_ GE174.out) | exact HB.out)⟩
                      · rw [if_neg c26] at H
                        have c26b0 : decide (0 < (((rd_T26 t175 x15_1).f3).length : Int)) = false := decide_eq_false c26
                        have c26b1 : decide (0 < ((rd_T26 t175 x15_1).f3).length) = false := decide_eq_false (by omega)
                        clear c26
                        by_cases c27 : ((rd_T26 t175 x15_1).f2) < 0
                        · rw [if_pos c27] at H
                          have c27b0 : decide (((rd_T26 t175 x15_1).f2) < 0) = true := decide_eq_true c27
                          clear c27
                          obtain rfl := Option.some.inj H
                          have p182 : 0 ≤ (x15_1 : Int) := of_decide_eq_true (by first | (with_reducible assumption) | assumption)
                          have q182 : x15_1 < (t175.length : Int) := of_decide_eq_true (by first | (with_reducible assumption) | assumption)
                          obtain ⟨ad182, A182_6, c182_6, e182, hx182_0, hx182_1, hx182_2, hx182_3, hx182_4, hx182_5, hx182_6, hl182_6, hi182_6⟩ := at_T26 (Kd.N_reads' HO_3.out).2.2 x15_1 p182 q182
                          cases e182
                          obtain ⟨ce182, hce182, hMe182, hcc182⟩ := Kd.N_get HO_3.out z26 x15_1 p182 (by first | exact q182 | exact of_decide_eq_true (by first | (with_reducible assumption) | assumption) | (have e_ := (Kd.N_reads' HO_3.out).1; omega))
                          obtain ⟨ua182_6, uc182_6, rfl, ul182_6, ge182_6⟩ := k26_openF hMe182
                          have hv182_6 := hcc182 6 _ rfl
                          rw [add_field _ _ 6 (by omega)] at hv182_6
                          replace hv182_6 := Option.some.inj (hv182_6.symm.trans hx182_6)
                          injection hv182_6 with hva_ hvn_ hvc_
                          rw [hva_] at ge182_6
                          rw [hvc_] at ul182_6
                          have HL182_6 := Aside0.mk (show Kd.V k26 26 _ w.heap.size _ _ ((rd_T26 t175 x15_1).f3) from Kd.V_mk ul182_6 ge182_6)
                          clear hva_ hvn_ hvc_ ge182_6 ul182_6
                          clear hcc182 hce182
                          have HR182_6 := Aside0.mk hi182_6
                          have HC182_6 := Aside0.mk hl182_6
                          clear hi182_6 hl182_6
                          replace p182 := eq_true p182
                          replace q182 := eq_true q182
                          have p183 : 0 ≤ (x15_1 : Int) := of_decide_eq_true (by first | (with_reducible assumption) | assumption)
                          have q183 : x15_1 < (t175.length : Int) := of_decide_eq_true (by first | (with_reducible assumption) | assumption)
                          obtain ⟨ad183, A183_6, c183_6, e183, hx183_0, hx183_1, hx183_2, hx183_3, hx183_4, hx183_5, hx183_6, hl183_6, hi183_6⟩ := at_T26 (Kd.N_reads' HO_3.out).2.2 x15_1 p183 q183
                          obtain rfl : ad182 = ad183 := (by injection e183)
                          obtain ⟨ce183, hce183, hMe183, hcc183⟩ := Kd.N_get HO_3.out z26 x15_1 p183 (by first | exact q183 | exact of_decide_eq_true (by first | (with_reducible assumption) | assumption) | (have e_ := (Kd.N_reads' HO_3.out).1; omega))
                          obtain ⟨ua183_6, uc183_6, rfl, ul183_6, ge183_6⟩ := k26_openF hMe183
                          have hv183_6 := hcc183 6 _ rfl
                          rw [add_field _ _ 6 (by omega)] at hv183_6
                          replace hv183_6 := Option.some.inj (hv183_6.symm.trans hx183_6)
                          injection hv183_6 with hva_ hvn_ hvc_
                          rw [hva_] at ge183_6
                          rw [hvc_] at ul183_6
                          have HL183_6 := Aside0.mk (show Kd.V k26 26 _ w.heap.size _ _ ((rd_T26 t175 x15_1).f3) from Kd.V_mk ul183_6 ge183_6)
                          clear hva_ hvn_ hvc_ ge183_6 ul183_6
                          clear hcc183 hce183
                          have HR183_6 := Aside0.mk hi183_6
                          have HC183_6 := Aside0.mk hl183_6
                          clear hi183_6 hl183_6
                          replace p183 := eq_true p183
                          replace q183 := eq_true q183
                          have ea_ := Option.some.inj (hx182_6.symm.trans hx183_6)
                          injection ea_ with ea_ en_ ec_
                          subst ea_
                          subst ec_
                          clear en_
                          have p184 : 0 ≤ (x15_1 : Int) := of_decide_eq_true (by first | (with_reducible assumption) | assumption)
                          have q184 : x15_1 < (t175.length : Int) := of_decide_eq_true (by first | (with_reducible assumption) | assumption)
                          obtain ⟨ad184, A184_6, c184_6, e184, hx184_0, hx184_1, hx184_2, hx184_3, hx184_4, hx184_5, hx184_6, hl184_6, hi184_6⟩ := at_T26 (Kd.N_reads' HO_3.out).2.2 x15_1 p184 q184
                          obtain rfl : ad182 = ad184 := (by injection e184)
                          obtain ⟨ce184, hce184, hMe184, hcc184⟩ := Kd.N_get HO_3.out z26 x15_1 p184 (by first | exact q184 | exact of_decide_eq_true (by first | (with_reducible assumption) | assumption) | (have e_ := (Kd.N_reads' HO_3.out).1; omega))
                          obtain ⟨ua184_6, uc184_6, rfl, ul184_6, ge184_6⟩ := k26_openF hMe184
                          have hv184_6 := hcc184 6 _ rfl
                          rw [add_field _ _ 6 (by omega)] at hv184_6
                          replace hv184_6 := Option.some.inj (hv184_6.symm.trans hx184_6)
                          injection hv184_6 with hva_ hvn_ hvc_
                          rw [hva_] at ge184_6
                          rw [hvc_] at ul184_6
                          have HL184_6 := Aside0.mk (show Kd.V k26 26 _ w.heap.size _ _ ((rd_T26 t175 x15_1).f3) from Kd.V_mk ul184_6 ge184_6)
                          clear hva_ hvn_ hvc_ ge184_6 ul184_6
                          clear hcc184 hce184
                          have HR184_6 := Aside0.mk hi184_6
                          have HC184_6 := Aside0.mk hl184_6
                          clear hi184_6 hl184_6
                          replace p184 := eq_true p184
                          replace q184 := eq_true q184
                          have ea_ := Option.some.inj (hx182_6.symm.trans hx184_6)
                          injection ea_ with ea_ en_ ec_
                          subst ea_
                          subst ec_
                          clear en_
                          go_wp2
                          repeat (go_quiet (fail); try go_wp2)
                          go_ret
                          exact ⟨by first | rfl | (simp [errW_none, errW_some] <;> rfl) | (simp [*, errW_none, errW_some] <;> rfl), by repeat (first | (with_reducible first | exact HB.out | apply below_alloc | apply pw_below_drewN | apply below_drew1 | refine below_set ?_ GE174.out) | exact HB.out)⟩
                        · rw [if_neg c27] at H
                          have c27b0 : decide (((rd_T26 t175 x15_1).f2) < 0) = false := decide_eq_false c27
                          clear c27
                          by_cases c28 : ((rd_T26 t175 x15_1).f2) > 2147483647
                          · rw [if_pos c28] at H
                            have c28b0 : decide (2147483647 < ((rd_T26 t175 x15_1).f2)) = true := decide_eq_true c28
                            clear c28
                            obtain rfl := Option.some.inj H
                            have p182 : 0 ≤ (x15_1 : Int) := of_decide_eq_true (by first | (with_reducible assumption) | assumption)
                            have q182 : x15_1 < (t175.length : Int) := of_decide_eq_true (by first | (with_reducible assumption) | assumption)
                            obtain ⟨ad182, A182_6, c182_6, e182, hx182_0, hx182_1, hx182_2, hx182_3, hx182_4, hx182_5, hx182_6, hl182_6, hi182_6⟩ := at_T26 (Kd.N_reads' HO_3.out).2.2 x15_1 p182 q182
                            cases e182
                            obtain ⟨ce182, hce182, hMe182, hcc182⟩ := Kd.N_get HO_3.out z26 x15_1 p182 (by first | exact q182 | exact of_decide_eq_true (by first | (with_reducible assumption) | assumption) | (have e_ := (Kd.N_reads' HO_3.out).1; omega))
                            obtain ⟨ua182_6, uc182_6, rfl, ul182_6, ge182_6⟩ := k26_openF hMe182
                            have hv182_6 := hcc182 6 _ rfl
                            rw [add_field _ _ 6 (by omega)] at hv182_6
                            replace hv182_6 := Option.some.inj (hv182_6.symm.trans hx182_6)
                            injection hv182_6 with hva_ hvn_ hvc_
                            rw [hva_] at ge182_6
                            rw [hvc_] at ul182_6
                            have HL182_6 := Aside0.mk (show Kd.V k26 26 _ w.heap.size _ _ ((rd_T26 t175 x15_1).f3) from Kd.V_mk ul182_6 ge182_6)
                            clear hva_ hvn_ hvc_ ge182_6 ul182_6
                            clear hcc182 hce182
                            have HR182_6 := Aside0.mk hi182_6
                            have HC182_6 := Aside0.mk hl182_6
                            clear hi182_6 hl182_6
                            replace p182 := eq_true p182
                            replace q182 := eq_true q182
                            have p183 : 0 ≤ (x15_1 : Int) := of_decide_eq_true (by first | (with_reducible assumption) | assumption)
                            have q183 : x15_1 < (t175.length : Int) := of_decide_eq_true (by first | (with_reducible assumption) | assumption)
                            obtain ⟨ad183, A183_6, c183_6, e183, hx183_0, hx183_1, hx183_2, hx183_3, hx183_4, hx183_5, hx183_6, hl183_6, hi183_6⟩ := at_T26 (Kd.N_reads' HO_3.out).2.2 x15_1 p183 q183
                            obtain rfl : ad182 = ad183 := (by injection e183)
                            obtain ⟨ce183, hce183, hMe183, hcc183⟩ := Kd.N_get HO_3.out z26 x15_1 p183 (by first | exact q183 | exact of_decide_eq_true (by first | (with_reducible assumption) | assumption) | (have e_ := (Kd.N_reads' HO_3.out).1; omega))
                            obtain ⟨ua183_6, uc183_6, rfl, ul183_6, ge183_6⟩ := k26_openF hMe183
                            have hv183_6 := hcc183 6 _ rfl
                            rw [add_field _ _ 6 (by omega)] at hv183_6
                            replace hv183_6 := Option.some.inj (hv183_6.symm.trans hx183_6)
                            injection hv183_6 with hva_ hvn_ hvc_
                            rw [hva_] at ge183_6
                            rw [hvc_] at ul183_6
                            have HL183_6 := Aside0.mk (show Kd.V k26 26 _ w.heap.size _ _ ((rd_T26 t175 x15_1).f3) from Kd.V_mk ul183_6 ge183_6)
                            clear hva_ hvn_ hvc_ ge183_6 ul183_6
                            clear hcc183 hce183
                            have HR183_6 := Aside0.mk hi183_6
                            have HC183_6 := Aside0.mk hl183_6
                            clear hi183_6 hl183_6
                            replace p183 := eq_true p183
                            replace q183 := eq_true q183
                            have ea_ := Option.some.inj (hx182_6.symm.trans hx183_6)
                            injection ea_ with ea_ en_ ec_
                            subst ea_
                            subst ec_
                            clear en_
                            have p184 : 0 ≤ (x15_1 : Int) := of_decide_eq_true (by first | (with_reducible assumption) | assumption)
                            have q184 : x15_1 < (t175.length : Int) := of_decide_eq_true (by first | (with_reducible assumption) | assumption)
                            obtain ⟨ad184, A184_6, c184_6, e184, hx184_0, hx184_1, hx184_2, hx184_3, hx184_4, hx184_5, hx184_6, hl184_6, hi184_6⟩ := at_T26 (Kd.N_reads' HO_3.out).2.2 x15_1 p184 q184
                            obtain rfl : ad182 = ad184 := (by injection e184)
                            obtain ⟨ce184, hce184, hMe184, hcc184⟩ := Kd.N_get HO_3.out z26 x15_1 p184 (by first | exact q184 | exact of_decide_eq_true (by first | (with_reducible assumption) | assumption) | (have e_ := (Kd.N_reads' HO_3.out).1; omega))
                            obtain ⟨ua184_6, uc184_6, rfl, ul184_6, ge184_6⟩ := k26_openF hMe184
                            have hv184_6 := hcc184 6 _ rfl
                            rw [add_field _ _ 6 (by omega)] at hv184_6
                            replace hv184_6 := Option.some.inj (hv184_6.symm.trans hx184_6)
                            injection hv184_6 with hva_ hvn_ hvc_
                            rw [hva_] at ge184_6
                            rw [hvc_] at ul184_6
                            have HL184_6 := Aside0.mk (show Kd.V k26 26 _ w.heap.size _ _ ((rd_T26 t175 x15_1).f3) from Kd.V_mk ul184_6 ge184_6)
                            clear hva_ hvn_ hvc_ ge184_6 ul184_6
                            clear hcc184 hce184
                            have HR184_6 := Aside0.mk hi184_6
                            have HC184_6 := Aside0.mk hl184_6
                            clear hi184_6 hl184_6
                            replace p184 := eq_true p184
                            replace q184 := eq_true q184
                            have ea_ := Option.some.inj (hx182_6.symm.trans hx184_6)
                            injection ea_ with ea_ en_ ec_
                            subst ea_
                            subst ec_
                            clear en_
                            have p185 : 0 ≤ (x15_1 : Int) := of_decide_eq_true (by first | (with_reducible assumption) | assumption)
                            have q185 : x15_1 < (t175.length : Int) := of_decide_eq_true (by first | (with_reducible assumption) | assumption)
                            obtain ⟨ad185, A185_6, c185_6, e185, hx185_0, hx185_1, hx185_2, hx185_3, hx185_4, hx185_5, hx185_6, hl185_6, hi185_6⟩ := at_T26 (Kd.N_reads' HO_3.out).2.2 x15_1 p185 q185
                            obtain rfl : ad182 = ad185 := (by injection e185)
                            obtain ⟨ce185, hce185, hMe185, hcc185⟩ := Kd.N_get HO_3.out z26 x15_1 p185 (by first | exact q185 | exact of_decide_eq_true (by first | (with_reducible assumption) | assumption) | (have e_ := (Kd.N_reads' HO_3.out).1; omega))
                            obtain ⟨ua185_6, uc185_6, rfl, ul185_6, ge185_6⟩ := k26_openF hMe185
                            have hv185_6 := hcc185 6 _ rfl
                            rw [add_field _ _ 6 (by omega)] at hv185_6
                            replace hv185_6 := Option.some.inj (hv185_6.symm.trans hx185_6)
                            injection hv185_6 with hva_ hvn_ hvc_
                            rw [hva_] at ge185_6
                            rw [hvc_] at ul185_6
                            have HL185_6 := Aside0.mk (show Kd.V k26 26 _ w.heap.size _ _ ((rd_T26 t175 x15_1).f3) from Kd.V_mk ul185_6 ge185_6)
                            clear hva_ hvn_ hvc_ ge185_6 ul185_6
                            clear hcc185 hce185
                            have HR185_6 := Aside0.mk hi185_6
                            have HC185_6 := Aside0.mk hl185_6
                            clear hi185_6 hl185_6
                            replace p185 := eq_true p185
                            replace q185 := eq_true q185
                            have ea_ := Option.some.inj (hx182_6.symm.trans hx185_6)
                            injection ea_ with ea_ en_ ec_
                            subst ea_
                            subst ec_
                            clear en_
                            go_wp2
                            repeat (go_quiet (fail); try go_wp2)
                            go_ret
                            exact ⟨by first | rfl | (simp [errW_none, errW_some] <;> rfl) | (simp [*, errW_none, errW_some] <;> rfl), by repeat (first | (with_reducible first | exact HB.out | apply below_alloc | apply pw_below_drewN | apply below_drew1 | refine below_set ?_ GE174.out) | exact HB.out)⟩
                          · rw [if_neg c28] at H
                            have c28b0 : decide (2147483647 < ((rd_T26 t175 x15_1).f2)) = false := decide_eq_false c28
                            clear c28
                            by_cases c29 : ((rd_T26 t175 x15_1).f0) > 1
                            · rw [if_pos c29] at H
                              have c29b0 : decide (1 < ((rd_T26 t175 x15_1).f0)) = true := decide_eq_true c29
                              clear c29
                              by_cases c30 : (((rd_T26 t175 x15_1).f3).length : Int) < 2
                              · rw [if_pos c30] at H
                                have c30b0 : decide ((((rd_T26 t175 x15_1).f3).length : Int) < 2) = true := decide_eq_true c30
                                have c30b1 : decide (((rd_T26 t175 x15_1).f3).length < 2) = true := decide_eq_true (by omega)
                                clear c30
                                obtain rfl := Option.some.inj H
                                have p182 : 0 ≤ (x15_1 : Int) := of_decide_eq_true (by first | (with_reducible assumption) | assumption)
                                have q182 : x15_1 < (t175.length : Int) := of_decide_eq_true (by first | (with_reducible assumption) | assumption)
                                obtain ⟨ad182, A182_6, c182_6, e182, hx182_0, hx182_1, hx182_2, hx182_3, hx182_4, hx182_5, hx182_6, hl182_6, hi182_6⟩ := at_T26 (Kd.N_reads' HO_3.out).2.2 x15_1 p182 q182
                                cases e182
                                obtain ⟨ce182, hce182, hMe182, hcc182⟩ := Kd.N_get HO_3.out z26 x15_1 p182 (by first | exact q182 | exact of_decide_eq_true (by first | (with_reducible assumption) | assumption) | (have e_ := (Kd.N_reads' HO_3.out).1; omega))
                                obtain ⟨ua182_6, uc182_6, rfl, ul182_6, ge182_6⟩ := k26_openF hMe182
                                have hv182_6 := hcc182 6 _ rfl
                                rw [add_field _ _ 6 (by omega)] at hv182_6
                                replace hv182_6 := Option.some.inj (hv182_6.symm.trans hx182_6)
                                injection hv182_6 with hva_ hvn_ hvc_
                                rw [hva_] at ge182_6
                                rw [hvc_] at ul182_6
                                have HL182_6 := Aside0.mk (show Kd.V k26 26 _ w.heap.size _ _ ((rd_T26 t175 x15_1).f3) from Kd.V_mk ul182_6 ge182_6)
                                clear hva_ hvn_ hvc_ ge182_6 ul182_6
                                clear hcc182 hce182
                                have HR182_6 := Aside0.mk hi182_6
                                have HC182_6 := Aside0.mk hl182_6
                                clear hi182_6 hl182_6
                                replace p182 := eq_true p182
                                replace q182 := eq_true q182
                                have p183 : 0 ≤ (x15_1 : Int) := of_decide_eq_true (by first | (with_reducible assumption) | assumption)
                                have q183 : x15_1 < (t175.length : Int) := of_decide_eq_true (by first | (with_reducible assumption) | assumption)
                                obtain ⟨ad183, A183_6, c183_6, e183, hx183_0, hx183_1, hx183_2, hx183_3, hx183_4, hx183_5, hx183_6, hl183_6, hi183_6⟩ := at_T26 (Kd.N_reads' HO_3.out).2.2 x15_1 p183 q183
                                obtain rfl : ad182 = ad183 := (by injection e183)
                                obtain ⟨ce183, hce183, hMe183, hcc183⟩ := Kd.N_get HO_3.out z26 x15_1 p183 (by first | exact q183 | exact of_decide_eq_true (by first | (with_reducible assumption) | assumption) | (have e_ := (Kd.N_reads' HO_3.out).1; omega))
                                obtain ⟨ua183_6, uc183_6, rfl, ul183_6, ge183_6⟩ := k26_openF hMe183
                                have hv183_6 := hcc183 6 _ rfl
                                rw [add_field _ _ 6 (by omega)] at hv183_6
                                replace hv183_6 := Option.some.inj (hv183_6.symm.trans hx183_6)
                                injection hv183_6 with hva_ hvn_ hvc_
                                rw [hva_] at ge183_6
                                rw [hvc_] at ul183_6
                                have HL183_6 := Aside0.mk (show Kd.V k26 26 _ w.heap.size _ _ ((rd_T26 t175 x15_1).f3) from Kd.V_mk ul183_6 ge183_6)
                                clear hva_ hvn_ hvc_ ge183_6 ul183_6
                                clear hcc183 hce183
                                have HR183_6 := Aside0.mk hi183_6
                                have HC183_6 := Aside0.mk hl183_6
                                clear hi183_6 hl183_6
                                replace p183 := eq_true p183
                                replace q183 := eq_true q183
                                have ea_ := Option.some.inj (hx182_6.symm.trans hx183_6)
                                injection ea_ with ea_ en_ ec_
                                subst ea_
                                subst ec_
                                clear en_
                                have p184 : 0 ≤ (x15_1 : Int) := of_decide_eq_true (by first | (with_reducible assumption) | assumption)
                                have q184 : x15_1 < (t175.length : Int) := of_decide_eq_true (by first | (with_reducible assumption) | assumption)
                                obtain ⟨ad184, A184_6, c184_6, e184, hx184_0, hx184_1, hx184_2, hx184_3, hx184_4, hx184_5, hx184_6, hl184_6, hi184_6⟩ := at_T26 (Kd.N_reads' HO_3.out).2.2 x15_1 p184 q184
                                obtain rfl : ad182 = ad184 := (by injection e184)
                                obtain ⟨ce184, hce184, hMe184, hcc184⟩ := Kd.N_get HO_3.out z26 x15_1 p184 (by first | exact q184 | exact of_decide_eq_true (by first | (with_reducible assumption) | assumption) | (have e_ := (Kd.N_reads' HO_3.out).1; omega))
                                obtain ⟨ua184_6, uc184_6, rfl, ul184_6, ge184_6⟩ := k26_openF hMe184
                                have hv184_6 := hcc184 6 _ rfl
                                rw [add_field _ _ 6 (by omega)] at hv184_6
                                replace hv184_6 := Option.some.inj (hv184_6.symm.trans hx184_6)
                                injection hv184_6 with hva_ hvn_ hvc_
                                rw [hva_] at ge184_6
                                rw [hvc_] at ul184_6
                                have HL184_6 := Aside0.mk (show Kd.V k26 26 _ w.heap.size _ _ ((rd_T26 t175 x15_1).f3) from Kd.V_mk ul184_6 ge184_6)
                                clear hva_ hvn_ hvc_ ge184_6 ul184_6
                                clear hcc184 hce184
                                have HR184_6 := Aside0.mk hi184_6
                                have HC184_6 := Aside0.mk hl184_6
                                clear hi184_6 hl184_6
                                replace p184 := eq_true p184
                                replace q184 := eq_true q184
                                have ea_ := Option.some.inj (hx182_6.symm.trans hx184_6)
                                injection ea_ with ea_ en_ ec_
                                subst ea_
                                subst ec_
                                clear en_
                                have p185 : 0 ≤ (x15_1 : Int) := of_decide_eq_true (by first | (with_reducible assumption) | assumption)
                                have q185 : x15_1 < (t175.length : Int) := of_decide_eq_true (by first | (with_reducible assumption) | assumption)
                                obtain ⟨ad185, A185_6, c185_6, e185, hx185_0, hx185_1, hx185_2, hx185_3, hx185_4, hx185_5, hx185_6, hl185_6, hi185_6⟩ := at_T26 (Kd.N_reads' HO_3.out).2.2 x15_1 p185 q185
                                obtain rfl : ad182 = ad185 := (by injection e185)
                                obtain ⟨ce185, hce185, hMe185, hcc185⟩ := Kd.N_get HO_3.out z26 x15_1 p185 (by first | exact q185 | exact of_decide_eq_true (by first | (with_reducible assumption) | assumption) | (have e_ := (Kd.N_reads' HO_3.out).1; omega))
                                obtain ⟨ua185_6, uc185_6, rfl, ul185_6, ge185_6⟩ := k26_openF hMe185
                                have hv185_6 := hcc185 6 _ rfl
                                rw [add_field _ _ 6 (by omega)] at hv185_6
                                replace hv185_6 := Option.some.inj (hv185_6.symm.trans hx185_6)
                                injection hv185_6 with hva_ hvn_ hvc_
                                rw [hva_] at ge185_6
                                rw [hvc_] at ul185_6
                                have HL185_6 := Aside0.mk (show Kd.V k26 26 _ w.heap.size _ _ ((rd_T26 t175 x15_1).f3) from Kd.V_mk ul185_6 ge185_6)
                                clear hva_ hvn_ hvc_ ge185_6 ul185_6
                                clear hcc185 hce185
                                have HR185_6 := Aside0.mk hi185_6
                                have HC185_6 := Aside0.mk hl185_6
                                clear hi185_6 hl185_6
                                replace p185 := eq_true p185
                                replace q185 := eq_true q185
                                have ea_ := Option.some.inj (hx182_6.symm.trans hx185_6)
                                injection ea_ with ea_ en_ ec_
                                subst ea_
                                subst ec_
                                clear en_
                                have p186 : 0 ≤ (x15_1 : Int) := of_decide_eq_true (by first | (with_reducible assumption) | assumption)
                                have q186 : x15_1 < (t175.length : Int) := of_decide_eq_true (by first | (with_reducible assumption) | assumption)
                                obtain ⟨ad186, A186_6, c186_6, e186, hx186_0, hx186_1, hx186_2, hx186_3, hx186_4, hx186_5, hx186_6, hl186_6, hi186_6⟩ := at_T26 (Kd.N_reads' HO_3.out).2.2 x15_1 p186 q186
                                obtain rfl : ad182 = ad186 := (by injection e186)
                                obtain ⟨ce186, hce186, hMe186, hcc186⟩ := Kd.N_get HO_3.out z26 x15_1 p186 (by first | exact q186 | exact of_decide_eq_true (by first | (with_reducible assumption) | assumption) | (have e_ := (Kd.N_reads' HO_3.out).1; omega))
                                obtain ⟨ua186_6, uc186_6, rfl, ul186_6, ge186_6⟩ := k26_openF hMe186
                                have hv186_6 := hcc186 6 _ rfl
                                rw [add_field _ _ 6 (by omega)] at hv186_6
                                replace hv186_6 := Option.some.inj (hv186_6.symm.trans hx186_6)
                                injection hv186_6 with hva_ hvn_ hvc_
                                rw [hva_] at ge186_6
                                rw [hvc_] at ul186_6
                                have HL186_6 := Aside0.mk (show Kd.V k26 26 _ w.heap.size _ _ ((rd_T26 t175 x15_1).f3) from Kd.V_mk ul186_6 ge186_6)
                                clear hva_ hvn_ hvc_ ge186_6 ul186_6
                                clear hcc186 hce186
                                have HR186_6 := Aside0.mk hi186_6
                                have HC186_6 := Aside0.mk hl186_6
                                clear hi186_6 hl186_6
                                replace p186 := eq_true p186
                                replace q186 := eq_true q186
                                have ea_ := Option.some.inj (hx182_6.symm.trans hx186_6)
                                injection ea_ with ea_ en_ ec_
                                subst ea_
                                subst ec_
                                clear en_
                                have p187 : 0 ≤ (x15_1 : Int) := of_decide_eq_true (by first | (with_reducible assumption) | assumption)
                                have q187 : x15_1 < (t175.length : Int) := of_decide_eq_true (by first | (with_reducible assumption) | assumption)
                                obtain ⟨ad187, A187_6, c187_6, e187, hx187_0, hx187_1, hx187_2, hx187_3, hx187_4, hx187_5, hx187_6, hl187_6, hi187_6⟩ := at_T26 (Kd.N_reads' HO_3.out).2.2 x15_1 p187 q187
                                obtain rfl : ad182 = ad187 := (by injection e187)
                                obtain ⟨ce187, hce187, hMe187, hcc187⟩ := Kd.N_get HO_3.out z26 x15_1 p187 (by first | exact q187 | exact of_decide_eq_true (by first | (with_reducible assumption) | assumption) | (have e_ := (Kd.N_reads' HO_3.out).1; omega))
                                obtain ⟨ua187_6, uc187_6, rfl, ul187_6, ge187_6⟩ := k26_openF hMe187
                                have hv187_6 := hcc187 6 _ rfl
                                rw [add_field _ _ 6 (by omega)] at hv187_6
                                replace hv187_6 := Option.some.inj (hv187_6.symm.trans hx187_6)
                                injection hv187_6 with hva_ hvn_ hvc_
                                rw [hva_] at ge187_6
                                rw [hvc_] at ul187_6
                                have HL187_6 := Aside0.mk (show Kd.V k26 26 _ w.heap.size _ _ ((rd_T26 t175 x15_1).f3) from Kd.V_mk ul187_6 ge187_6)
                                clear hva_ hvn_ hvc_ ge187_6 ul187_6
                                clear hcc187 hce187
                                have HR187_6 := Aside0.mk hi187_6
                                have HC187_6 := Aside0.mk hl187_6
                                clear hi187_6 hl187_6
                                replace p187 := eq_true p187
                                replace q187 := eq_true q187
                                have ea_ := Option.some.inj (hx182_6.symm.trans hx187_6)
                                injection ea_ with ea_ en_ ec_
                                subst ea_
                                subst ec_
                                clear en_
                                go_wp2
                                repeat (go_quiet (fail); try go_wp2)
                                go_ret
                                exact ⟨by first | rfl | (simp [errW_none, errW_some] <;> rfl) | (simp [*, errW_none, errW_some] <;> rfl), by repeat (first | (with_reducible first | exact HB.out | apply below_alloc | apply pw_below_drewN | apply below_drew1 | refine below_set ?_ GE174.out) | exact HB.out)⟩
                              · rw [if_neg c30] at H
                                have c30b0 : decide ((((rd_T26 t175 x15_1).f3).length : Int) < 2) = false := decide_eq_false c30
                                have c30b1 : decide (((rd_T26 t175 x15_1).f3).length < 2) = false := decide_eq_false (by omega)
                                clear c30
                                by_cases c31 : ((rd_T26 t175 x15_1).f2) = 0
                                · rw [if_pos c31] at H
                                  have c31b0 : (((rd_T26 t175 x15_1).f2) == 0) = true := beq_iff_eq.mpr c31
                                  have c31b1 : (((rd_T26 t175 x15_1).f2) != 0) = false := bne_eq_false_iff_eq.mpr c31
                                  clear c31
                                  have H' := Aside0.mk H
                                  clear H
                                  have p182 : 0 ≤ (x15_1 : Int) := of_decide_eq_true (by first | (with_reducible assumption) | assumption)
                                  have q182 : x15_1 < (t175.length : Int) := of_decide_eq_true (by first | (with_reducible assumption) | assumption)
                                  obtain ⟨ad182, A182_6, c182_6, e182, hx182_0, hx182_1, hx182_2, hx182_3, hx182_4, hx182_5, hx182_6, hl182_6, hi182_6⟩ := at_T26 (Kd.N_reads' HO_3.out).2.2 x15_1 p182 q182
                                  cases e182
                                  obtain ⟨ce182, hce182, hMe182, hcc182⟩ := Kd.N_get HO_3.out z26 x15_1 p182 (by first | exact q182 | exact of_decide_eq_true (by first | (with_reducible assumption) | assumption) | (have e_ := (Kd.N_reads' HO_3.out).1; omega))
                                  obtain ⟨ua182_6, uc182_6, rfl, ul182_6, ge182_6⟩ := k26_openF hMe182
                                  have hv182_6 := hcc182 6 _ rfl
                                  rw [add_field _ _ 6 (by omega)] at hv182_6
                                  replace hv182_6 := Option.some.inj (hv182_6.symm.trans hx182_6)
                                  injection hv182_6 with hva_ hvn_ hvc_
                                  rw [hva_] at ge182_6
                                  rw [hvc_] at ul182_6
                                  have HL182_6 := Aside0.mk (show Kd.V k26 26 _ w.heap.size _ _ ((rd_T26 t175 x15_1).f3) from Kd.V_mk ul182_6 ge182_6)
                                  clear hva_ hvn_ hvc_ ge182_6 ul182_6
                                  clear hcc182 hce182
                                  have HR182_6 := Aside0.mk hi182_6
                                  have HC182_6 := Aside0.mk hl182_6
                                  clear hi182_6 hl182_6
                                  replace p182 := eq_true p182
                                  replace q182 := eq_true q182
                                  have p183 : 0 ≤ (x15_1 : Int) := of_decide_eq_true (by first | (with_reducible assumption) | assumption)
                                  have q183 : x15_1 < (t175.length : Int) := of_decide_eq_true (by first | (with_reducible assumption) | assumption)
                                  obtain ⟨ad183, A183_6, c183_6, e183, hx183_0, hx183_1, hx183_2, hx183_3, hx183_4, hx183_5, hx183_6, hl183_6, hi183_6⟩ := at_T26 (Kd.N_reads' HO_3.out).2.2 x15_1 p183 q183
                                  obtain rfl : ad182 = ad183 := (by injection e183)
                                  obtain ⟨ce183, hce183, hMe183, hcc183⟩ := Kd.N_get HO_3.out z26 x15_1 p183 (by first | exact q183 | exact of_decide_eq_true (by first | (with_reducible assumption) | assumption) | (have e_ := (Kd.N_reads' HO_3.out).1; omega))
                                  obtain ⟨ua183_6, uc183_6, rfl, ul183_6, ge183_6⟩ := k26_openF hMe183
                                  have hv183_6 := hcc183 6 _ rfl
                                  rw [add_field _ _ 6 (by omega)] at hv183_6
                                  replace hv183_6 := Option.some.inj (hv183_6.symm.trans hx183_6)
                                  injection hv183_6 with hva_ hvn_ hvc_
                                  rw [hva_] at ge183_6
                                  rw [hvc_] at ul183_6
                                  have HL183_6 := Aside0.mk (show Kd.V k26 26 _ w.heap.size _ _ ((rd_T26 t175 x15_1).f3) from Kd.V_mk ul183_6 ge183_6)
                                  clear hva_ hvn_ hvc_ ge183_6 ul183_6
                                  clear hcc183 hce183
                                  have HR183_6 := Aside0.mk hi183_6
                                  have HC183_6 := Aside0.mk hl183_6
                                  clear hi183_6 hl183_6
                                  replace p183 := eq_true p183
                                  replace q183 := eq_true q183
                                  have ea_ := Option.some.inj (hx182_6.symm.trans hx183_6)
                                  injection ea_ with ea_ en_ ec_
                                  subst ea_
                                  subst ec_
                                  clear en_
                                  have p184 : 0 ≤ (x15_1 : Int) := of_decide_eq_true (by first | (with_reducible assumption) | assumption)
                                  have q184 : x15_1 < (t175.length : Int) := of_decide_eq_true (by first | (with_reducible assumption) | assumption)
                                  obtain ⟨ad184, A184_6, c184_6, e184, hx184_0, hx184_1, hx184_2, hx184_3, hx184_4, hx184_5, hx184_6, hl184_6, hi184_6⟩ := at_T26 (Kd.N_reads' HO_3.out).2.2 x15_1 p184 q184
                                  obtain rfl : ad182 = ad184 := (by injection e184)
                                  obtain ⟨ce184, hce184, hMe184, hcc184⟩ := Kd.N_get HO_3.out z26 x15_1 p184 (by first | exact q184 | exact of_decide_eq_true (by first | (with_reducible assumption) | assumption) | (have e_ := (Kd.N_reads' HO_3.out).1; omega))
                                  obtain ⟨ua184_6, uc184_6, rfl, ul184_6, ge184_6⟩ := k26_openF hMe184
                                  have hv184_6 := hcc184 6 _ rfl
                                  rw [add_field _ _ 6 (by omega)] at hv184_6
                                  replace hv184_6 := Option.some.inj (hv184_6.symm.trans hx184_6)
                                  injection hv184_6 with hva_ hvn_ hvc_
                                  rw [hva_] at ge184_6
                                  rw [hvc_] at ul184_6
                                  have HL184_6 := Aside0.mk (show Kd.V k26 26 _ w.heap.size _ _ ((rd_T26 t175 x15_1).f3) from Kd.V_mk ul184_6 ge184_6)
                                  clear hva_ hvn_ hvc_ ge184_6 ul184_6
                                  clear hcc184 hce184
                                  have HR184_6 := Aside0.mk hi184_6
                                  have HC184_6 := Aside0.mk hl184_6
                                  clear hi184_6 hl184_6
                                  replace p184 := eq_true p184
                                  replace q184 := eq_true q184
                                  have ea_ := Option.some.inj (hx182_6.symm.trans hx184_6)
                                  injection ea_ with ea_ en_ ec_
                                  subst ea_
                                  subst ec_
                                  clear en_
                                  have p185 : 0 ≤ (x15_1 : Int) := of_decide_eq_true (by first | (with_reducible assumption) | assumption)
                                  have q185 : x15_1 < (t175.length : Int) := of_decide_eq_true (by first | (with_reducible assumption) | assumption)
                                  obtain ⟨ad185, A185_6, c185_6, e185, hx185_0, hx185_1, hx185_2, hx185_3, hx185_4, hx185_5, hx185_6, hl185_6, hi185_6⟩ := at_T26 (Kd.N_reads' HO_3.out).2.2 x15_1 p185 q185
                                  obtain rfl : ad182 = ad185 := (by injection e185)
                                  obtain ⟨ce185, hce185, hMe185, hcc185⟩ := Kd.N_get HO_3.out z26 x15_1 p185 (by first | exact q185 | exact of_decide_eq_true (by first | (with_reducible assumption) | assumption) | (have e_ := (Kd.N_reads' HO_3.out).1; omega))
                                  obtain ⟨ua185_6, uc185_6, rfl, ul185_6, ge185_6⟩ := k26_openF hMe185
                                  have hv185_6 := hcc185 6 _ rfl
                                  rw [add_field _ _ 6 (by omega)] at hv185_6
                                  replace hv185_6 := Option.some.inj (hv185_6.symm.trans hx185_6)
                                  injection hv185_6 with hva_ hvn_ hvc_
                                  rw [hva_] at ge185_6
                                  rw [hvc_] at ul185_6
                                  have HL185_6 := Aside0.mk (show Kd.V k26 26 _ w.heap.size _ _ ((rd_T26 t175 x15_1).f3) from Kd.V_mk ul185_6 ge185_6)
                                  clear hva_ hvn_ hvc_ ge185_6 ul185_6
                                  clear hcc185 hce185
                                  have HR185_6 := Aside0.mk hi185_6
                                  have HC185_6 := Aside0.mk hl185_6
                                  clear hi185_6 hl185_6
                                  replace p185 := eq_true p185
                                  replace q185 := eq_true q185
                                  have ea_ := Option.some.inj (hx182_6.symm.trans hx185_6)
                                  injection ea_ with ea_ en_ ec_
                                  subst ea_
                                  subst ec_
                                  clear en_
                                  have p186 : 0 ≤ (x15_1 : Int) := of_decide_eq_true (by first | (with_reducible assumption) | assumption)
                                  have q186 : x15_1 < (t175.length : Int) := of_decide_eq_true (by first | (with_reducible assumption) | assumption)
                                  obtain ⟨ad186, A186_6, c186_6, e186, hx186_0, hx186_1, hx186_2, hx186_3, hx186_4, hx186_5, hx186_6, hl186_6, hi186_6⟩ := at_T26 (Kd.N_reads' HO_3.out).2.2 x15_1 p186 q186
                                  obtain rfl : ad182 = ad186 := (by injection e186)
                                  obtain ⟨ce186, hce186, hMe186, hcc186⟩ := Kd.N_get HO_3.out z26 x15_1 p186 (by first | exact q186 | exact of_decide_eq_true (by first | (with_reducible assumption) | assumption) | (have e_ := (Kd.N_reads' HO_3.out).1; omega))
                                  obtain ⟨ua186_6, uc186_6, rfl, ul186_6, ge186_6⟩ := k26_openF hMe186
                                  have hv186_6 := hcc186 6 _ rfl
                                  rw [add_field _ _ 6 (by omega)] at hv186_6
                                  replace hv186_6 := Option.some.inj (hv186_6.symm.trans hx186_6)
                                  injection hv186_6 with hva_ hvn_ hvc_
                                  rw [hva_] at ge186_6
                                  rw [hvc_] at ul186_6
                                  have HL186_6 := Aside0.mk (show Kd.V k26 26 _ w.heap.size _ _ ((rd_T26 t175 x15_1).f3) from Kd.V_mk ul186_6 ge186_6)
                                  clear hva_ hvn_ hvc_ ge186_6 ul186_6
                                  clear hcc186 hce186
                                  have HR186_6 := Aside0.mk hi186_6
                                  have HC186_6 := Aside0.mk hl186_6
                                  clear hi186_6 hl186_6
                                  replace p186 := eq_true p186
                                  replace q186 := eq_true q186
                                  have ea_ := Option.some.inj (hx182_6.symm.trans hx186_6)
                                  injection ea_ with ea_ en_ ec_
                                  subst ea_
                                  subst ec_
                                  clear en_
                                  have p187 : 0 ≤ (x15_1 : Int) := of_decide_eq_true (by first | (with_reducible assumption) | assumption)
                                  have q187 : x15_1 < (t175.length : Int) := of_decide_eq_true (by first | (with_reducible assumption) | assumption)
                                  obtain ⟨ad187, A187_6, c187_6, e187, hx187_0, hx187_1, hx187_2, hx187_3, hx187_4, hx187_5, hx187_6, hl187_6, hi187_6⟩ := at_T26 (Kd.N_reads' HO_3.out).2.2 x15_1 p187 q187
                                  obtain rfl : ad182 = ad187 := (by injection e187)
                                  obtain ⟨ce187, hce187, hMe187, hcc187⟩ := Kd.N_get HO_3.out z26 x15_1 p187 (by first | exact q187 | exact of_decide_eq_true (by first | (with_reducible assumption) | assumption) | (have e_ := (Kd.N_reads' HO_3.out).1; omega))
                                  obtain ⟨ua187_6, uc187_6, rfl, ul187_6, ge187_6⟩ := k26_openF hMe187
                                  have hv187_6 := hcc187 6 _ rfl
                                  rw [add_field _ _ 6 (by omega)] at hv187_6
                                  replace hv187_6 := Option.some.inj (hv187_6.symm.trans hx187_6)
                                  injection hv187_6 with hva_ hvn_ hvc_
                                  rw [hva_] at ge187_6
                                  rw [hvc_] at ul187_6
                                  have HL187_6 := Aside0.mk (show Kd.V k26 26 _ w.heap.size _ _ ((rd_T26 t175 x15_1).f3) from Kd.V_mk ul187_6 ge187_6)
                                  clear hva_ hvn_ hvc_ ge187_6 ul187_6
                                  clear hcc187 hce187
                                  have HR187_6 := Aside0.mk hi187_6
                                  have HC187_6 := Aside0.mk hl187_6
                                  clear hi187_6 hl187_6
                                  replace p187 := eq_true p187
                                  replace q187 := eq_true q187
                                  have ea_ := Option.some.inj (hx182_6.symm.trans hx187_6)
                                  injection ea_ with ea_ en_ ec_
                                  subst ea_
                                  subst ec_
                                  clear en_
                                  have p188 : 0 ≤ (x15_1 : Int) := of_decide_eq_true (by first | (with_reducible assumption) | assumption)
                                  have q188 : x15_1 < (t175.length : Int) := of_decide_eq_true (by first | (with_reducible assumption) | assumption)
                                  obtain ⟨ad188, A188_6, c188_6, e188, hx188_0, hx188_1, hx188_2, hx188_3, hx188_4, hx188_5, hx188_6, hl188_6, hi188_6⟩ := at_T26 (Kd.N_reads' HO_3.out).2.2 x15_1 p188 q188
                                  obtain rfl : ad182 = ad188 := (by injection e188)
                                  obtain ⟨ce188, hce188, hMe188, hcc188⟩ := Kd.N_get HO_3.out z26 x15_1 p188 (by first | exact q188 | exact of_decide_eq_true (by first | (with_reducible assumption) | assumption) | (have e_ := (Kd.N_reads' HO_3.out).1; omega))
                                  obtain ⟨ua188_6, uc188_6, rfl, ul188_6, ge188_6⟩ := k26_openF hMe188
                                  have hv188_6 := hcc188 6 _ rfl
                                  rw [add_field _ _ 6 (by omega)] at hv188_6
                                  replace hv188_6 := Option.some.inj (hv188_6.symm.trans hx188_6)
                                  injection hv188_6 with hva_ hvn_ hvc_
                                  rw [hva_] at ge188_6
                                  rw [hvc_] at ul188_6
                                  have HL188_6 := Aside0.mk (show Kd.V k26 26 _ w.heap.size _ _ ((rd_T26 t175 x15_1).f3) from Kd.V_mk ul188_6 ge188_6)
                                  clear hva_ hvn_ hvc_ ge188_6 ul188_6
                                  clear hcc188 hce188
                                  have HR188_6 := Aside0.mk hi188_6
                                  have HC188_6 := Aside0.mk hl188_6
                                  clear hi188_6 hl188_6
                                  replace p188 := eq_true p188
                                  replace q188 := eq_true q188
                                  have ea_ := Option.some.inj (hx182_6.symm.trans hx188_6)
                                  injection ea_ with ea_ en_ ec_
                                  subst ea_
                                  subst ec_
                                  clear en_
                                  go_wp2
                                  repeat (go_quiet (fail); try go_wp2)
                                  go_roundg kj12
                                  case measure => have := HK1.out; have := HJ12.out; omega
                                  case rel => exact ⟨(wrap64 (x15_1 + 1)), (by first | rfl | (simp; done) | (simp [*]; done)), H', ⟨by have := HK1.out; have := HJ12.out; omega⟩, ⟨by (with_reducible repeat (first | apply Kd.N_alloc | apply Kd.N_drewN | apply Kd.N_drew)); exact HO_3.out⟩, ⟨by (with_reducible repeat (first | refine blk_drewN ?_ _ | refine blk_drew ?_ | refine blk_alloc ?_ _)); exact BK174.out⟩, ⟨by repeat (first | (with_reducible first | exact HB.out | apply below_alloc | apply pw_below_drewN | apply below_drew1 | refine below_set ?_ GE174.out) | exact HB.out)⟩⟩
                                · rw [if_neg c31] at H
                                  have c31b0 : (((rd_T26 t175 x15_1).f2) == 0) = false := beq_eq_false_iff_ne.mpr c31
                                  have c31b1 : (((rd_T26 t175 x15_1).f2) != 0) = true := bne_iff_ne.mpr c31
                                  obtain rfl := Option.some.inj H
                                  have p182 : 0 ≤ (x15_1 : Int) := of_decide_eq_true (by first | (with_reducible assumption) | assumption)
                                  have q182 : x15_1 < (t175.length : Int) := of_decide_eq_true (by first | (with_reducible assumption) | assumption)
                                  obtain ⟨ad182, A182_6, c182_6, e182, hx182_0, hx182_1, hx182_2, hx182_3, hx182_4, hx182_5, hx182_6, hl182_6, hi182_6⟩ := at_T26 (Kd.N_reads' HO_3.out).2.2 x15_1 p182 q182
                                  cases e182
                                  obtain ⟨ce182, hce182, hMe182, hcc182⟩ := Kd.N_get HO_3.out z26 x15_1 p182 (by first | exact q182 | exact of_decide_eq_true (by first | (with_reducible assumption) | assumption) | (have e_ := (Kd.N_reads' HO_3.out).1; omega))
                                  obtain ⟨ua182_6, uc182_6, rfl, ul182_6, ge182_6⟩ := k26_openF hMe182
                                  have hv182_6 := hcc182 6 _ rfl
                                  rw [add_field _ _ 6 (by omega)] at hv182_6
                                  replace hv182_6 := Option.some.inj (hv182_6.symm.trans hx182_6)
                                  injection hv182_6 with hva_ hvn_ hvc_
                                  rw [hva_] at ge182_6
                                  rw [hvc_] at ul182_6
                                  have HL182_6 := Aside0.mk (show Kd.V k26 26 _ w.heap.size _ _ ((rd_T26 t175 x15_1).f3) from Kd.V_mk ul182_6 ge182_6)
                                  clear hva_ hvn_ hvc_ ge182_6 ul182_6
                                  clear hcc182 hce182
                                  have HR182_6 := Aside0.mk hi182_6
                                  have HC182_6 := Aside0.mk hl182_6
                                  clear hi182_6 hl182_6
                                  replace p182 := eq_true p182
                                  replace q182 := eq_true q182
                                  have p183 : 0 ≤ (x15_1 : Int) := of_decide_eq_true (by first | (with_reducible assumption) | assumption)
                                  have q183 : x15_1 < (t175.length : Int) := of_decide_eq_true (by first | (with_reducible assumption) | assumption)
                                  obtain ⟨ad183, A183_6, c183_6, e183, hx183_0, hx183_1, hx183_2, hx183_3, hx183_4, hx183_5, hx183_6, hl183_6, hi183_6⟩ := at_T26 (Kd.N_reads' HO_3.out).2.2 x15_1 p183 q183
                                  obtain rfl : ad182 = ad183 := (by injection e183)
                                  obtain ⟨ce183, hce183, hMe183, hcc183⟩ := Kd.N_get HO_3.out z26 x15_1 p183 (by first | exact q183 | exact of_decide_eq_true (by first | (with_reducible assumption) | assumption) | (have e_ := (Kd.N_reads' HO_3.out).1; omega))
                                  obtain ⟨ua183_6, uc183_6, rfl, ul183_6, ge183_6⟩ := k26_openF hMe183
                                  have hv183_6 := hcc183 6 _ rfl
                                  rw [add_field _ _ 6 (by omega)] at hv183_6
                                  replace hv183_6 := Option.some.inj (hv183_6.symm.trans hx183_6)
                                  injection hv183_6 with hva_ hvn_ hvc_
                                  rw [hva_] at ge183_6
                                  rw [hvc_] at ul183_6
                                  have HL183_6 := Aside0.mk (show Kd.V k26 26 _ w.heap.size _ _ ((rd_T26 t175 x15_1).f3) from Kd.V_mk ul183_6 ge183_6)
                                  clear hva_ hvn_ hvc_ ge183_6 ul183_6
                                  clear hcc183 hce183
                                  have HR183_6 := Aside0.mk hi183_6
                                  have HC183_6 := Aside0.mk hl183_6
                                  clear hi183_6 hl183_6
                                  replace p183 := eq_true p183
                                  replace q183 := eq_true q183
                                  have ea_ := Option.some.inj (hx182_6.symm.trans hx183_6)
                                  injection ea_ with ea_ en_ ec_
                                  subst ea_
                                  subst ec_
                                  clear en_
                                  have p184 : 0 ≤ (x15_1 : Int) := of_decide_eq_true (by first | (with_reducible assumption) | assumption)
                                  have q184 : x15_1 < (t175.length : Int) := of_decide_eq_true (by first | (with_reducible assumption) | assumption)
                                  obtain ⟨ad184, A184_6, c184_6, e184, hx184_0, hx184_1, hx184_2, hx184_3, hx184_4, hx184_5, hx184_6, hl184_6, hi184_6⟩ := at_T26 (Kd.N_reads' HO_3.out).2.2 x15_1 p184 q184
                                  obtain rfl : ad182 = ad184 := (by injection e184)
                                  obtain ⟨ce184, hce184, hMe184, hcc184⟩ := Kd.N_get HO_3.out z26 x15_1 p184 (by first | exact q184 | exact of_decide_eq_true (by first | (with_reducible assumption) | assumption) | (have e_ := (Kd.N_reads' HO_3.out).1; omega))
                                  obtain ⟨ua184_6, uc184_6, rfl, ul184_6, ge184_6⟩ := k26_openF hMe184
                                  have hv184_6 := hcc184 6 _ rfl
                                  rw [add_field _ _ 6 (by omega)] at hv184_6
                                  replace hv184_6 := Option.some.inj (hv184_6.symm.trans hx184_6)
                                  injection hv184_6 with hva_ hvn_ hvc_
                                  rw [hva_] at ge184_6
                                  rw [hvc_] at ul184_6
                                  have HL184_6 := Aside0.mk (show Kd.V k26 26 _ w.heap.size _ _ ((rd_T26 t175 x15_1).f3) from Kd.V_mk ul184_6 ge184_6)
                                  clear hva_ hvn_ hvc_ ge184_6 ul184_6
                                  clear hcc184 hce184
                                  have HR184_6 := Aside0.mk hi184_6
                                  have HC184_6 := Aside0.mk hl184_6
                                  clear hi184_6 hl184_6
                                  replace p184 := eq_true p184
                                  replace q184 := eq_true q184
                                  have ea_ := Option.some.inj (hx182_6.symm.trans hx184_6)
                                  injection ea_ with ea_ en_ ec_
                                  subst ea_
                                  subst ec_
                                  clear en_
                                  have p185 : 0 ≤ (x15_1 : Int) := of_decide_eq_true (by first | (with_reducible assumption) | assumption)
                                  have q185 : x15_1 < (t175.length : Int) := of_decide_eq_true (by first | (with_reducible assumption) | assumption)
                                  obtain ⟨ad185, A185_6, c185_6, e185, hx185_0, hx185_1, hx185_2, hx185_3, hx185_4, hx185_5, hx185_6, hl185_6, hi185_6⟩ := at_T26 (Kd.N_reads' HO_3.out).2.2 x15_1 p185 q185
                                  obtain rfl : ad182 = ad185 := (by injection e185)
                                  obtain ⟨ce185, hce185, hMe185, hcc185⟩ := Kd.N_get HO_3.out z26 x15_1 p185 (by first | exact q185 | exact of_decide_eq_true (by first | (with_reducible assumption) | assumption) | (have e_ := (Kd.N_reads' HO_3.out).1; omega))
                                  obtain ⟨ua185_6, uc185_6, rfl, ul185_6, ge185_6⟩ := k26_openF hMe185
                                  have hv185_6 := hcc185 6 _ rfl
                                  rw [add_field _ _ 6 (by omega)] at hv185_6
                                  replace hv185_6 := Option.some.inj (hv185_6.symm.trans hx185_6)
                                  injection hv185_6 with hva_ hvn_ hvc_
                                  rw [hva_] at ge185_6
                                  rw [hvc_] at ul185_6
                                  have HL185_6 := Aside0.mk (show Kd.V k26 26 _ w.heap.size _ _ ((rd_T26 t175 x15_1).f3) from Kd.V_mk ul185_6 ge185_6)
                                  clear hva_ hvn_ hvc_ ge185_6 ul185_6
                                  clear hcc185 hce185
                                  have HR185_6 := Aside0.mk hi185_6
                                  have HC185_6 := Aside0.mk hl185_6
                                  clear hi185_6 hl185_6
                                  replace p185 := eq_true p185
                                  replace q185 := eq_true q185
                                  have ea_ := Option.some.inj (hx182_6.symm.trans hx185_6)
                                  injection ea_ with ea_ en_ ec_
                                  subst ea_
                                  subst ec_
                                  clear en_
                                  have p186 : 0 ≤ (x15_1 : Int) := of_decide_eq_true (by first | (with_reducible assumption) | assumption)
                                  have q186 : x15_1 < (t175.length : Int) := of_decide_eq_true (by first | (with_reducible assumption) | assumption)
                                  obtain ⟨ad186, A186_6, c186_6, e186, hx186_0, hx186_1, hx186_2, hx186_3, hx186_4, hx186_5, hx186_6, hl186_6, hi186_6⟩ := at_T26 (Kd.N_reads' HO_3.out).2.2 x15_1 p186 q186
                                  obtain rfl : ad182 = ad186 := (by injection e186)
                                  obtain ⟨ce186, hce186, hMe186, hcc186⟩ := Kd.N_get HO_3.out z26 x15_1 p186 (by first | exact q186 | exact of_decide_eq_true (by first | (with_reducible assumption) | assumption) | (have e_ := (Kd.N_reads' HO_3.out).1; omega))
                                  obtain ⟨ua186_6, uc186_6, rfl, ul186_6, ge186_6⟩ := k26_openF hMe186
                                  have hv186_6 := hcc186 6 _ rfl
                                  rw [add_field _ _ 6 (by omega)] at hv186_6
                                  replace hv186_6 := Option.some.inj (hv186_6.symm.trans hx186_6)
                                  injection hv186_6 with hva_ hvn_ hvc_
                                  rw [hva_] at ge186_6
                                  rw [hvc_] at ul186_6
                                  have HL186_6 := Aside0.mk (show Kd.V k26 26 _ w.heap.size _ _ ((rd_T26 t175 x15_1).f3) from Kd.V_mk ul186_6 ge186_6)
                                  clear hva_ hvn_ hvc_ ge186_6 ul186_6
                                  clear hcc186 hce186
                                  have HR186_6 := Aside0.mk hi186_6
                                  have HC186_6 := Aside0.mk hl186_6
                                  clear hi186_6 hl186_6
                                  replace p186 := eq_true p186
                                  replace q186 := eq_true q186
                                  have ea_ := Option.some.inj (hx182_6.symm.trans hx186_6)
                                  injection ea_ with ea_ en_ ec_
                                  subst ea_
                                  subst ec_
                                  clear en_
                                  have p187 : 0 ≤ (x15_1 : Int) := of_decide_eq_true (by first | (with_reducible assumption) | assumption)
                                  have q187 : x15_1 < (t175.length : Int) := of_decide_eq_true (by first | (with_reducible assumption) | assumption)
                                  obtain ⟨ad187, A187_6, c187_6, e187, hx187_0, hx187_1, hx187_2, hx187_3, hx187_4, hx187_5, hx187_6, hl187_6, hi187_6⟩ := at_T26 (Kd.N_reads' HO_3.out).2.2 x15_1 p187 q187
                                  obtain rfl : ad182 = ad187 := (by injection e187)
                                  obtain ⟨ce187, hce187, hMe187, hcc187⟩ := Kd.N_get HO_3.out z26 x15_1 p187 (by first | exact q187 | exact of_decide_eq_true (by first | (with_reducible assumption) | assumption) | (have e_ := (Kd.N_reads' HO_3.out).1; omega))
                                  obtain ⟨ua187_6, uc187_6, rfl, ul187_6, ge187_6⟩ := k26_openF hMe187
                                  have hv187_6 := hcc187 6 _ rfl
                                  rw [add_field _ _ 6 (by omega)] at hv187_6
                                  replace hv187_6 := Option.some.inj (hv187_6.symm.trans hx187_6)
                                  injection hv187_6 with hva_ hvn_ hvc_
                                  rw [hva_] at ge187_6
                                  rw [hvc_] at ul187_6
                                  have HL187_6 := Aside0.mk (show Kd.V k26 26 _ w.heap.size _ _ ((rd_T26 t175 x15_1).f3) from Kd.V_mk ul187_6 ge187_6)
                                  clear hva_ hvn_ hvc_ ge187_6 ul187_6
                                  clear hcc187 hce187
                                  have HR187_6 := Aside0.mk hi187_6
                                  have HC187_6 := Aside0.mk hl187_6
                                  clear hi187_6 hl187_6
                                  replace p187 := eq_true p187
                                  replace q187 := eq_true q187
                                  have ea_ := Option.some.inj (hx182_6.symm.trans hx187_6)
                                  injection ea_ with ea_ en_ ec_
                                  subst ea_
                                  subst ec_
                                  clear en_
                                  have p188 : 0 ≤ (x15_1 : Int) := of_decide_eq_true (by first | (with_reducible assumption) | assumption)
                                  have q188 : x15_1 < (t175.length : Int) := of_decide_eq_true (by first | (with_reducible assumption) | assumption)
                                  obtain ⟨ad188, A188_6, c188_6, e188, hx188_0, hx188_1, hx188_2, hx188_3, hx188_4, hx188_5, hx188_6, hl188_6, hi188_6⟩ := at_T26 (Kd.N_reads' HO_3.out).2.2 x15_1 p188 q188
                                  obtain rfl : ad182 = ad188 := (by injection e188)
                                  obtain ⟨ce188, hce188, hMe188, hcc188⟩ := Kd.N_get HO_3.out z26 x15_1 p188 (by first | exact q188 | exact of_decide_eq_true (by first | (with_reducible assumption) | assumption) | (have e_ := (Kd.N_reads' HO_3.out).1; omega))
                                  obtain ⟨ua188_6, uc188_6, rfl, ul188_6, ge188_6⟩ := k26_openF hMe188
                                  have hv188_6 := hcc188 6 _ rfl
                                  rw [add_field _ _ 6 (by omega)] at hv188_6
                                  replace hv188_6 := Option.some.inj (hv188_6.symm.trans hx188_6)
                                  injection hv188_6 with hva_ hvn_ hvc_
                                  rw [hva_] at ge188_6
                                  rw [hvc_] at ul188_6
                                  have HL188_6 := Aside0.mk (show Kd.V k26 26 _ w.heap.size _ _ ((rd_T26 t175 x15_1).f3) from Kd.V_mk ul188_6 ge188_6)
                                  clear hva_ hvn_ hvc_ ge188_6 ul188_6
                                  clear hcc188 hce188
                                  have HR188_6 := Aside0.mk hi188_6
                                  have HC188_6 := Aside0.mk hl188_6
                                  clear hi188_6 hl188_6
                                  replace p188 := eq_true p188
                                  replace q188 := eq_true q188
                                  have ea_ := Option.some.inj (hx182_6.symm.trans hx188_6)
                                  injection ea_ with ea_ en_ ec_
                                  subst ea_
                                  subst ec_
                                  clear en_
                                  go_wp2
                                  repeat (go_quiet (fail); try go_wp2)
                                  go_ret
                                  exact ⟨by first | rfl | (simp [errW_none, errW_some] <;> rfl) | (simp [*, errW_none, errW_some] <;> rfl), by repeat (first | (with_reducible first | exact HB.out | apply below_alloc | apply pw_below_drewN | apply below_drew1 | refine below_set ?_ GE174.out) | exact HB.out)⟩
                            · rw [if_neg c29] at H
                              have c29b0 : decide (1 < ((rd_T26 t175 x15_1).f0)) = false := decide_eq_false c29
                              clear c29
                              have H' := Aside0.mk H
                              clear H
                              have p182 : 0 ≤ (x15_1 : Int) := of_decide_eq_true (by first | (with_reducible assumption) | assumption)
                              have q182 : x15_1 < (t175.length : Int) := of_decide_eq_true (by first | (with_reducible assumption) | assumption)
                              obtain ⟨ad182, A182_6, c182_6, e182, hx182_0, hx182_1, hx182_2, hx182_3, hx182_4, hx182_5, hx182_6, hl182_6, hi182_6⟩ := at_T26 (Kd.N_reads' HO_3.out).2.2 x15_1 p182 q182
                              cases e182
                              obtain ⟨ce182, hce182, hMe182, hcc182⟩ := Kd.N_get HO_3.out z26 x15_1 p182 (by first | exact q182 | exact of_decide_eq_true (by first | (with_reducible assumption) | assumption) | (have e_ := (Kd.N_reads' HO_3.out).1; omega))
                              obtain ⟨ua182_6, uc182_6, rfl, ul182_6, ge182_6⟩ := k26_openF hMe182
                              have hv182_6 := hcc182 6 _ rfl
                              rw [add_field _ _ 6 (by omega)] at hv182_6
                              replace hv182_6 := Option.some.inj (hv182_6.symm.trans hx182_6)
                              injection hv182_6 with hva_ hvn_ hvc_
                              rw [hva_] at ge182_6
                              rw [hvc_] at ul182_6
                              have HL182_6 := Aside0.mk (show Kd.V k26 26 _ w.heap.size _ _ ((rd_T26 t175 x15_1).f3) from Kd.V_mk ul182_6 ge182_6)
                              clear hva_ hvn_ hvc_ ge182_6 ul182_6
                              clear hcc182 hce182
                              have HR182_6 := Aside0.mk hi182_6
                              have HC182_6 := Aside0.mk hl182_6
                              clear hi182_6 hl182_6
                              replace p182 := eq_true p182
                              replace q182 := eq_true q182
                              have p183 : 0 ≤ (x15_1 : Int) := of_decide_eq_true (by first | (with_reducible assumption) | assumption)
                              have q183 : x15_1 < (t175.length : Int) := of_decide_eq_true (by first | (with_reducible assumption) | assumption)
                              obtain ⟨ad183, A183_6, c183_6, e183, hx183_0, hx183_1, hx183_2, hx183_3, hx183_4, hx183_5, hx183_6, hl183_6, hi183_6⟩ := at_T26 (Kd.N_reads' HO_3.out).2.2 x15_1 p183 q183
                              obtain rfl : ad182 = ad183 := (by injection e183)
                              obtain ⟨ce183, hce183, hMe183, hcc183⟩ := Kd.N_get HO_3.out z26 x15_1 p183 (by first | exact q183 | exact of_decide_eq_true (by first | (with_reducible assumption) | assumption) | (have e_ := (Kd.N_reads' HO_3.out).1; omega))
                              obtain ⟨ua183_6, uc183_6, rfl, ul183_6, ge183_6⟩ := k26_openF hMe183
                              have hv183_6 := hcc183 6 _ rfl
                              rw [add_field _ _ 6 (by omega)] at hv183_6
                              replace hv183_6 := Option.some.inj (hv183_6.symm.trans hx183_6)
                              injection hv183_6 with hva_ hvn_ hvc_
                              rw [hva_] at ge183_6
                              rw [hvc_] at ul183_6
                              have HL183_6 := Aside0.mk (show Kd.V k26 26 _ w.heap.size _ _ ((rd_T26 t175 x15_1).f3) from Kd.V_mk ul183_6 ge183_6)
                              clear hva_ hvn_ hvc_ ge183_6 ul183_6
                              clear hcc183 hce183
                              have HR183_6 := Aside0.mk hi183_6
                              have HC183_6 := Aside0.mk hl183_6
                              clear hi183_6 hl183_6
                              replace p183 := eq_true p183
                              replace q183 := eq_true q183
                              have ea_ := Option.some.inj (hx182_6.symm.trans hx183_6)
                              injection ea_ with ea_ en_ ec_
                              subst ea_
                              subst ec_
                              clear en_
                              have p184 : 0 ≤ (x15_1 : Int) := of_decide_eq_true (by first | (with_reducible assumption) | assumption)
                              have q184 : x15_1 < (t175.length : Int) := of_decide_eq_true (by first | (with_reducible assumption) | assumption)
                              obtain ⟨ad184, A184_6, c184_6, e184, hx184_0, hx184_1, hx184_2, hx184_3, hx184_4, hx184_5, hx184_6, hl184_6, hi184_6⟩ := at_T26 (Kd.N_reads' HO_3.out).2.2 x15_1 p184 q184
                              obtain rfl : ad182 = ad184 := (by injection e184)
                              obtain ⟨ce184, hce184, hMe184, hcc184⟩ := Kd.N_get HO_3.out z26 x15_1 p184 (by first | exact q184 | exact of_decide_eq_true (by first | (with_reducible assumption) | assumption) | (have e_ := (Kd.N_reads' HO_3.out).1; omega))
                              obtain ⟨ua184_6, uc184_6, rfl, ul184_6, ge184_6⟩ := k26_openF hMe184
                              have hv184_6 := hcc184 6 _ rfl
                              rw [add_field _ _ 6 (by omega)] at hv184_6
                              replace hv184_6 := Option.some.inj (hv184_6.symm.trans hx184_6)
                              injection hv184_6 with hva_ hvn_ hvc_
                              rw [hva_] at ge184_6
                              rw [hvc_] at ul184_6
                              have HL184_6 := Aside0.mk (show Kd.V k26 26 _ w.heap.size _ _ ((rd_T26 t175 x15_1).f3) from Kd.V_mk ul184_6 ge184_6)
                              clear hva_ hvn_ hvc_ ge184_6 ul184_6
                              clear hcc184 hce184
                              have HR184_6 := Aside0.mk hi184_6
                              have HC184_6 := Aside0.mk hl184_6
                              clear hi184_6 hl184_6
                              replace p184 := eq_true p184
                              replace q184 := eq_true q184
                              have ea_ := Option.some.inj (hx182_6.symm.trans hx184_6)
                              injection ea_ with ea_ en_ ec_
                              subst ea_
                              subst ec_
                              clear en_
                              have p185 : 0 ≤ (x15_1 : Int) := of_decide_eq_true (by first | (with_reducible assumption) | assumption)
                              have q185 : x15_1 < (t175.length : Int) := of_decide_eq_true (by first | (with_reducible assumption) | assumption)
                              obtain ⟨ad185, A185_6, c185_6, e185, hx185_0, hx185_1, hx185_2, hx185_3, hx185_4, hx185_5, hx185_6, hl185_6, hi185_6⟩ := at_T26 (Kd.N_reads' HO_3.out).2.2 x15_1 p185 q185
                              obtain rfl : ad182 = ad185 := (by injection e185)
                              obtain ⟨ce185, hce185, hMe185, hcc185⟩ := Kd.N_get HO_3.out z26 x15_1 p185 (by first | exact q185 | exact of_decide_eq_true (by first | (with_reducible assumption) | assumption) | (have e_ := (Kd.N_reads' HO_3.out).1; omega))
                              obtain ⟨ua185_6, uc185_6, rfl, ul185_6, ge185_6⟩ := k26_openF hMe185
                              have hv185_6 := hcc185 6 _ rfl
                              rw [add_field _ _ 6 (by omega)] at hv185_6
                              replace hv185_6 := Option.some.inj (hv185_6.symm.trans hx185_6)
                              injection hv185_6 with hva_ hvn_ hvc_
                              rw [hva_] at ge185_6
                              rw [hvc_] at ul185_6
                              have HL185_6 := Aside0.mk (show Kd.V k26 26 _ w.heap.size _ _ ((rd_T26 t175 x15_1).f3) from Kd.V_mk ul185_6 ge185_6)
                              clear hva_ hvn_ hvc_ ge185_6 ul185_6
                              clear hcc185 hce185
                              have HR185_6 := Aside0.mk hi185_6
                              have HC185_6 := Aside0.mk hl185_6
                              clear hi185_6 hl185_6
                              replace p185 := eq_true p185
                              replace q185 := eq_true q185
                              have ea_ := Option.some.inj (hx182_6.symm.trans hx185_6)
                              injection ea_ with ea_ en_ ec_
                              subst ea_
                              subst ec_
                              clear en_
                              have p186 : 0 ≤ (x15_1 : Int) := of_decide_eq_true (by first | (with_reducible assumption) | assumption)
                              have q186 : x15_1 < (t175.length : Int) := of_decide_eq_true (by first | (with_reducible assumption) | assumption)
                              obtain ⟨ad186, A186_6, c186_6, e186, hx186_0, hx186_1, hx186_2, hx186_3, hx186_4, hx186_5, hx186_6, hl186_6, hi186_6⟩ := at_T26 (Kd.N_reads' HO_3.out).2.2 x15_1 p186 q186
                              obtain rfl : ad182 = ad186 := (by injection e186)
                              obtain ⟨ce186, hce186, hMe186, hcc186⟩ := Kd.N_get HO_3.out z26 x15_1 p186 (by first | exact q186 | exact of_decide_eq_true (by first | (with_reducible assumption) | assumption) | (have e_ := (Kd.N_reads' HO_3.out).1; omega))
                              obtain ⟨ua186_6, uc186_6, rfl, ul186_6, ge186_6⟩ := k26_openF hMe186
                              have hv186_6 := hcc186 6 _ rfl
                              rw [add_field _ _ 6 (by omega)] at hv186_6
                              replace hv186_6 := Option.some.inj (hv186_6.symm.trans hx186_6)
                              injection hv186_6 with hva_ hvn_ hvc_
                              rw [hva_] at ge186_6
                              rw [hvc_] at ul186_6
                              have HL186_6 := Aside0.mk (show Kd.V k26 26 _ w.heap.size _ _ ((rd_T26 t175 x15_1).f3) from Kd.V_mk ul186_6 ge186_6)
                              clear hva_ hvn_ hvc_ ge186_6 ul186_6
                              clear hcc186 hce186
                              have HR186_6 := Aside0.mk hi186_6
                              have HC186_6 := Aside0.mk hl186_6
                              clear hi186_6 hl186_6
                              replace p186 := eq_true p186
                              replace q186 := eq_true q186
                              have ea_ := Option.some.inj (hx182_6.symm.trans hx186_6)
                              injection ea_ with ea_ en_ ec_
                              subst ea_
                              subst ec_
                              clear en_
                              go_wp2
                              repeat (go_quiet (fail); try go_wp2)
                              go_roundg kj12
                              case measure => have := HK1.out; have := HJ12.out; omega
                              case rel => exact ⟨(wrap64 (x15_1 + 1)), (by first | rfl | (simp; done) | (simp [*]; done)), H', ⟨by have := HK1.out; have := HJ12.out; omega⟩, ⟨by (with_reducible repeat (first | apply Kd.N_alloc | apply Kd.N_drewN | apply Kd.N_drew)); exact HO_3.out⟩, ⟨by (with_reducible repeat (first | refine blk_drewN ?_ _ | refine blk_drew ?_ | refine blk_alloc ?_ _)); exact BK174.out⟩, ⟨by repeat (first | (with_reducible first | exact HB.out | apply below_alloc | apply pw_below_drewN | apply below_drew1 | refine below_set ?_ GE174.out) | exact HB.out)⟩⟩
                    · rw [if_neg c25] at H
                      have c25b0 : (((rd_T26 t175 x15_1).f0) == 1) = false := beq_eq_false_iff_ne.mpr c25
                      have c25b1 : (((rd_T26 t175 x15_1).f0) != 1) = true := bne_iff_ne.mpr c25
                      by_cases c32 : ((rd_T26 t175 x15_1).f0) > 1
                      · rw [if_pos c32] at H
                        have c32b0 : decide (1 < ((rd_T26 t175 x15_1).f0)) = true := decide_eq_true c32
                        clear c32
                        by_cases c33 : (((rd_T26 t175 x15_1).f3).length : Int) < 2
                        · rw [if_pos c33] at H
                          have c33b0 : decide ((((rd_T26 t175 x15_1).f3).length : Int) < 2) = true := decide_eq_true c33
                          have c33b1 : decide (((rd_T26 t175 x15_1).f3).length < 2) = true := decide_eq_true (by omega)
                          clear c33
                          obtain rfl := Option.some.inj H
                          have p182 : 0 ≤ (x15_1 : Int) := of_decide_eq_true (by first | (with_reducible assumption) | assumption)
                          have q182 : x15_1 < (t175.length : Int) := of_decide_eq_true (by first | (with_reducible assumption) | assumption)
                          obtain ⟨ad182, A182_6, c182_6, e182, hx182_0, hx182_1, hx182_2, hx182_3, hx182_4, hx182_5, hx182_6, hl182_6, hi182_6⟩ := at_T26 (Kd.N_reads' HO_3.out).2.2 x15_1 p182 q182
                          cases e182
                          obtain ⟨ce182, hce182, hMe182, hcc182⟩ := Kd.N_get HO_3.out z26 x15_1 p182 (by first | exact q182 | exact of_decide_eq_true (by first | (with_reducible assumption) | assumption) | (have e_ := (Kd.N_reads' HO_3.out).1; omega))
                          obtain ⟨ua182_6, uc182_6, rfl, ul182_6, ge182_6⟩ := k26_openF hMe182
                          have hv182_6 := hcc182 6 _ rfl
                          rw [add_field _ _ 6 (by omega)] at hv182_6
                          replace hv182_6 := Option.some.inj (hv182_6.symm.trans hx182_6)
                          injection hv182_6 with hva_ hvn_ hvc_
                          rw [hva_] at ge182_6
                          rw [hvc_] at ul182_6
                          have HL182_6 := Aside0.mk (show Kd.V k26 26 _ w.heap.size _ _ ((rd_T26 t175 x15_1).f3) from Kd.V_mk ul182_6 ge182_6)
                          clear hva_ hvn_ hvc_ ge182_6 ul182_6
                          clear hcc182 hce182
                          have HR182_6 := Aside0.mk hi182_6
                          have HC182_6 := Aside0.mk hl182_6
                          clear hi182_6 hl182_6
                          replace p182 := eq_true p182
                          replace q182 := eq_true q182
                          have p189 : 0 ≤ (x15_1 : Int) := of_decide_eq_true (by first | (with_reducible assumption) | assumption)
                          have q189 : x15_1 < (t175.length : Int) := of_decide_eq_true (by first | (with_reducible assumption) | assumption)
                          obtain ⟨ad189, A189_6, c189_6, e189, hx189_0, hx189_1, hx189_2, hx189_3, hx189_4, hx189_5, hx189_6, hl189_6, hi189_6⟩ := at_T26 (Kd.N_reads' HO_3.out).2.2 x15_1 p189 q189
                          obtain rfl : ad182 = ad189 := (by injection e189)
                          obtain ⟨ce189, hce189, hMe189, hcc189⟩ := Kd.N_get HO_3.out z26 x15_1 p189 (by first | exact q189 | exact of_decide_eq_true (by first | (with_reducible assumption) | assumption) | (have e_ := (Kd.N_reads' HO_3.out).1; omega))
                          obtain ⟨ua189_6, uc189_6, rfl, ul189_6, ge189_6⟩ := k26_openF hMe189
                          have hv189_6 := hcc189 6 _ rfl
                          rw [add_field _ _ 6 (by omega)] at hv189_6
                          replace hv189_6 := Option.some.inj (hv189_6.symm.trans hx189_6)
                          injection hv189_6 with hva_ hvn_ hvc_
                          rw [hva_] at ge189_6
                          rw [hvc_] at ul189_6
                          have HL189_6 := Aside0.mk (show Kd.V k26 26 _ w.heap.size _ _ ((rd_T26 t175 x15_1).f3) from Kd.V_mk ul189_6 ge189_6)
                          clear hva_ hvn_ hvc_ ge189_6 ul189_6
                          clear hcc189 hce189
                          have HR189_6 := Aside0.mk hi189_6
                          have HC189_6 := Aside0.mk hl189_6
                          clear hi189_6 hl189_6
                          replace p189 := eq_true p189
                          replace q189 := eq_true q189
                          have ea_ := Option.some.inj (hx182_6.symm.trans hx189_6)
                          injection ea_ with ea_ en_ ec_
                          subst ea_
                          subst ec_
                          clear en_
                          have p190 : 0 ≤ (x15_1 : Int) := of_decide_eq_true (by first | (with_reducible assumption) | assumption)
                          have q190 : x15_1 < (t175.length : Int) := of_decide_eq_true (by first | (with_reducible assumption) | assumption)
                          obtain ⟨ad190, A190_6, c190_6, e190, hx190_0, hx190_1, hx190_2, hx190_3, hx190_4, hx190_5, hx190_6, hl190_6, hi190_6⟩ := at_T26 (Kd.N_reads' HO_3.out).2.2 x15_1 p190 q190
                          obtain rfl : ad182 = ad190 := (by injection e190)
                          obtain ⟨ce190, hce190, hMe190, hcc190⟩ := Kd.N_get HO_3.out z26 x15_1 p190 (by first | exact q190 | exact of_decide_eq_true (by first | (with_reducible assumption) | assumption) | (have e_ := (Kd.N_reads' HO_3.out).1; omega))
                          obtain ⟨ua190_6, uc190_6, rfl, ul190_6, ge190_6⟩ := k26_openF hMe190
                          have hv190_6 := hcc190 6 _ rfl
                          rw [add_field _ _ 6 (by omega)] at hv190_6
                          replace hv190_6 := Option.some.inj (hv190_6.symm.trans hx190_6)
                          injection hv190_6 with hva_ hvn_ hvc_
                          rw [hva_] at ge190_6
                          rw [hvc_] at ul190_6
                          have HL190_6 := Aside0.mk (show Kd.V k26 26 _ w.heap.size _ _ ((rd_T26 t175 x15_1).f3) from Kd.V_mk ul190_6 ge190_6)
                          clear hva_ hvn_ hvc_ ge190_6 ul190_6
                          clear hcc190 hce190
                          have HR190_6 := Aside0.mk hi190_6
                          have HC190_6 := Aside0.mk hl190_6
                          clear hi190_6 hl190_6
                          replace p190 := eq_true p190
                          replace q190 := eq_true q190
                          have ea_ := Option.some.inj (hx182_6.symm.trans hx190_6)
                          injection ea_ with ea_ en_ ec_
                          subst ea_
                          subst ec_
                          clear en_
                          go_wp2
                          repeat (go_quiet (fail); try go_wp2)
                          go_ret
                          exact ⟨by first | rfl | (simp [errW_none, errW_some] <;> rfl) | (simp [*, errW_none, errW_some] <;> rfl), by repeat (first | (with_reducible first | exact HB.out | apply below_alloc | apply pw_below_drewN | apply below_drew1 | refine below_set ?_ GE174.out) | exact HB.out)⟩
                        · rw [if_neg c33] at H
                          have c33b0 : decide ((((rd_T26 t175 x15_1).f3).length : Int) < 2) = false := decide_eq_false c33
                          have c33b1 : decide (((rd_T26 t175 x15_1).f3).length < 2) = false := decide_eq_false (by omega)
                          clear c33
                          by_cases c34 : ((rd_T26 t175 x15_1).f2) = 0
                          · rw [if_pos c34] at H
                            have c34b0 : (((rd_T26 t175 x15_1).f2) == 0) = true := beq_iff_eq.mpr c34
                            have c34b1 : (((rd_T26 t175 x15_1).f2) != 0) = false := bne_eq_false_iff_eq.mpr c34
                            clear c34
                            have H' := Aside0.mk H
                            clear H
                            have p182 : 0 ≤ (x15_1 : Int) := of_decide_eq_true (by first | (with_reducible assumption) | assumption)
                            have q182 : x15_1 < (t175.length : Int) := of_decide_eq_true (by first | (with_reducible assumption) | assumption)
                            obtain ⟨ad182, A182_6, c182_6, e182, hx182_0, hx182_1, hx182_2, hx182_3, hx182_4, hx182_5, hx182_6, hl182_6, hi182_6⟩ := at_T26 (Kd.N_reads' HO_3.out).2.2 x15_1 p182 q182
                            cases e182
                            obtain ⟨ce182, hce182, hMe182, hcc182⟩ := Kd.N_get HO_3.out z26 x15_1 p182 (by first | exact q182 | exact of_decide_eq_true (by first | (with_reducible assumption) | assumption) | (have e_ := (Kd.N_reads' HO_3.out).1; omega))
                            obtain ⟨ua182_6, uc182_6, rfl, ul182_6, ge182_6⟩ := k26_openF hMe182
                            have hv182_6 := hcc182 6 _ rfl
                            rw [add_field _ _ 6 (by omega)] at hv182_6
                            replace hv182_6 := Option.some.inj (hv182_6.symm.trans hx182_6)
                            injection hv182_6 with hva_ hvn_ hvc_
                            rw [hva_] at ge182_6
                            rw [hvc_] at ul182_6
                            have HL182_6 := Aside0.mk (show Kd.V k26 26 _ w.heap.size _ _ ((rd_T26 t175 x15_1).f3) from Kd.V_mk ul182_6 ge182_6)
                            clear hva_ hvn_ hvc_ ge182_6 ul182_6
                            clear hcc182 hce182
                            have HR182_6 := Aside0.mk hi182_6
                            have HC182_6 := Aside0.mk hl182_6
                            clear hi182_6 hl182_6
                            replace p182 := eq_true p182
                            replace q182 := eq_true q182
                            have p189 : 0 ≤ (x15_1 : Int) := of_decide_eq_true (by first | (with_reducible assumption) | assumption)
                            have q189 : x15_1 < (t175.length : Int) := of_decide_eq_true (by first | (with_reducible assumption) | assumption)
                            obtain ⟨ad189, A189_6, c189_6, e189, hx189_0, hx189_1, hx189_2, hx189_3, hx189_4, hx189_5, hx189_6, hl189_6, hi189_6⟩ := at_T26 (Kd.N_reads' HO_3.out).2.2 x15_1 p189 q189
                            obtain rfl : ad182 = ad189 := (by injection e189)
                            obtain ⟨ce189, hce189, hMe189, hcc189⟩ := Kd.N_get HO_3.out z26 x15_1 p189 (by first | exact q189 | exact of_decide_eq_true (by first | (with_reducible assumption) | assumption) | (have e_ := (Kd.N_reads' HO_3.out).1; omega))
                            obtain ⟨ua189_6, uc189_6, rfl, ul189_6, ge189_6⟩ := k26_openF hMe189
                            have hv189_6 := hcc189 6 _ rfl
                            rw [add_field _ _ 6 (by omega)] at hv189_6
                            replace hv189_6 := Option.some.inj (hv189_6.symm.trans hx189_6)
                            injection hv189_6 with hva_ hvn_ hvc_
                            rw [hva_] at ge189_6
                            rw [hvc_] at ul189_6
                            have HL189_6 := Aside0.mk (show Kd.V k26 26 _ w.heap.size _ _ ((rd_T26 t175 x15_1).f3) from Kd.V_mk ul189_6 ge189_6)
                            clear hva_ hvn_ hvc_ ge189_6 ul189_6
                            clear hcc189 hce189
                            have HR189_6 := Aside0.mk hi189_6
                            have HC189_6 := Aside0.mk hl189_6
                            clear hi189_6 hl189_6
                            replace p189 := eq_true p189
                            replace q189 := eq_true q189
                            have ea_ := Option.some.inj (hx182_6.symm.trans hx189_6)
                            injection ea_ with ea_ en_ ec_
                            subst ea_
                            subst ec_
                            clear en_
                            have p190 : 0 ≤ (x15_1 : Int) := of_decide_eq_true (by first | (with_reducible assumption) | assumption)
                            have q190 : x15_1 < (t175.length : Int) := of_decide_eq_true (by first | (with_reducible assumption) | assumption)
                            obtain ⟨ad190, A190_6, c190_6, e190, hx190_0, hx190_1, hx190_2, hx190_3, hx190_4, hx190_5, hx190_6, hl190_6, hi190_6⟩ := at_T26 (Kd.N_reads' HO_3.out).2.2 x15_1 p190 q190
                            obtain rfl : ad182 = ad190 := (by injection e190)
                            obtain ⟨ce190, hce190, hMe190, hcc190⟩ := Kd.N_get HO_3.out z26 x15_1 p190 (by first | exact q190 | exact of_decide_eq_true (by first | (with_reducible assumption) | assumption) | (have e_ := (Kd.N_reads' HO_3.out).1; omega))
                            obtain ⟨ua190_6, uc190_6, rfl, ul190_6, ge190_6⟩ := k26_openF hMe190
                            have hv190_6 := hcc190 6 _ rfl
                            rw [add_field _ _ 6 (by omega)] at hv190_6
                            replace hv190_6 := Option.some.inj (hv190_6.symm.trans hx190_6)
                            injection hv190_6 with hva_ hvn_ hvc_
                            rw [hva_] at ge190_6
                            rw [hvc_] at ul190_6
                            have HL190_6 := Aside0.mk (show Kd.V k26 26 _ w.heap.size _ _ ((rd_T26 t175 x15_1).f3) from Kd.V_mk ul190_6 ge190_6)
                            clear hva_ hvn_ hvc_ ge190_6 ul190_6
                            clear hcc190 hce190
                            have HR190_6 := Aside0.mk hi190_6
                            have HC190_6 := Aside0.mk hl190_6
                            clear hi190_6 hl190_6
                            replace p190 := eq_true p190
                            replace q190 := eq_true q190
                            have ea_ := Option.some.inj (hx182_6.symm.trans hx190_6)
                            injection ea_ with ea_ en_ ec_
                            subst ea_
                            subst ec_
                            clear en_
                            have p191 : 0 ≤ (x15_1 : Int) := of_decide_eq_true (by first | (with_reducible assumption) | assumption)
                            have q191 : x15_1 < (t175.length : Int) := of_decide_eq_true (by first | (with_reducible assumption) | assumption)
                            obtain ⟨ad191, A191_6, c191_6, e191, hx191_0, hx191_1, hx191_2, hx191_3, hx191_4, hx191_5, hx191_6, hl191_6, hi191_6⟩ := at_T26 (Kd.N_reads' HO_3.out).2.2 x15_1 p191 q191
                            obtain rfl : ad182 = ad191 := (by injection e191)
                            obtain ⟨ce191, hce191, hMe191, hcc191⟩ := Kd.N_get HO_3.out z26 x15_1 p191 (by first | exact q191 | exact of_decide_eq_true (by first | (with_reducible assumption) | assumption) | (have e_ := (Kd.N_reads' HO_3.out).1; omega))
                            obtain ⟨ua191_6, uc191_6, rfl, ul191_6, ge191_6⟩ := k26_openF hMe191
                            have hv191_6 := hcc191 6 _ rfl
                            rw [add_field _ _ 6 (by omega)] at hv191_6
                            replace hv191_6 := Option.some.inj (hv191_6.symm.trans hx191_6)
                            injection hv191_6 with hva_ hvn_ hvc_
                            rw [hva_] at ge191_6
                            rw [hvc_] at ul191_6
                            have HL191_6 := Aside0.mk (show Kd.V k26 26 _ w.heap.size _ _ ((rd_T26 t175 x15_1).f3) from Kd.V_mk ul191_6 ge191_6)
                            clear hva_ hvn_ hvc_ ge191_6 ul191_6
                            clear hcc191 hce191
                            have HR191_6 := Aside0.mk hi191_6
                            have HC191_6 := Aside0.mk hl191_6
                            clear hi191_6 hl191_6
                            replace p191 := eq_true p191
                            replace q191 := eq_true q191
                            have ea_ := Option.some.inj (hx182_6.symm.trans hx191_6)
                            injection ea_ with ea_ en_ ec_
                            subst ea_
                            subst ec_
                            clear en_
                            go_wp2
                            repeat (go_quiet (fail); try go_wp2)
                            go_roundg kj12
                            case measure => have := HK1.out; have := HJ12.out; omega
                            case rel => exact ⟨(wrap64 (x15_1 + 1)), (by first | rfl | (simp; done) | (simp [*]; done)), H', ⟨by have := HK1.out; have := HJ12.out; omega⟩, ⟨by (with_reducible repeat (first | apply Kd.N_alloc | apply Kd.N_drewN | apply Kd.N_drew)); exact HO_3.out⟩, ⟨by (with_reducible repeat (first | refine blk_drewN ?_ _ | refine blk_drew ?_ | refine blk_alloc ?_ _)); exact BK174.out⟩, ⟨by repeat (first | (with_reducible first | exact HB.out | apply below_alloc | apply pw_below_drewN | apply below_drew1 | refine below_set ?_ GE174.out) | exact HB.out)⟩⟩
                          · rw [if_neg c34] at H
                            have c34b0 : (((rd_T26 t175 x15_1).f2) == 0) = false := beq_eq_false_iff_ne.mpr c34
                            have c34b1 : (((rd_T26 t175 x15_1).f2) != 0) = true := bne_iff_ne.mpr c34
                            obtain rfl := Option.some.inj H
                            have p182 : 0 ≤ (x15_1 : Int) := of_decide_eq_true (by first | (with_reducible assumption) | assumption)
                            have q182 : x15_1 < (t175.length : Int) := of_decide_eq_true (by first | (with_reducible assumption) | assumption)
                            obtain ⟨ad182, A182_6, c182_6, e182, hx182_0, hx182_1, hx182_2, hx182_3, hx182_4, hx182_5, hx182_6, hl182_6, hi182_6⟩ := at_T26 (Kd.N_reads' HO_3.out).2.2 x15_1 p182 q182
                            cases e182
                            obtain ⟨ce182, hce182, hMe182, hcc182⟩ := Kd.N_get HO_3.out z26 x15_1 p182 (by first | exact q182 | exact of_decide_eq_true (by first | (with_reducible assumption) | assumption) | (have e_ := (Kd.N_reads' HO_3.out).1; omega))
                            obtain ⟨ua182_6, uc182_6, rfl, ul182_6, ge182_6⟩ := k26_openF hMe182
                            have hv182_6 := hcc182 6 _ rfl
                            rw [add_field _ _ 6 (by omega)] at hv182_6
                            replace hv182_6 := Option.some.inj (hv182_6.symm.trans hx182_6)
                            injection hv182_6 with hva_ hvn_ hvc_
                            rw [hva_] at ge182_6
                            rw [hvc_] at ul182_6
                            have HL182_6 := Aside0.mk (show Kd.V k26 26 _ w.heap.size _ _ ((rd_T26 t175 x15_1).f3) from Kd.V_mk ul182_6 ge182_6)
                            clear hva_ hvn_ hvc_ ge182_6 ul182_6
                            clear hcc182 hce182
                            have HR182_6 := Aside0.mk hi182_6
                            have HC182_6 := Aside0.mk hl182_6
                            clear hi182_6 hl182_6
                            replace p182 := eq_true p182
                            replace q182 := eq_true q182
                            have p189 : 0 ≤ (x15_1 : Int) := of_decide_eq_true (by first | (with_reducible assumption) | assumption)
                            have q189 : x15_1 < (t175.length : Int) := of_decide_eq_true (by first | (with_reducible assumption) | assumption)
                            obtain ⟨ad189, A189_6, c189_6, e189, hx189_0, hx189_1, hx189_2, hx189_3, hx189_4, hx189_5, hx189_6, hl189_6, hi189_6⟩ := at_T26 (Kd.N_reads' HO_3.out).2.2 x15_1 p189 q189
                            obtain rfl : ad182 = ad189 := (by injection e189)
                            obtain ⟨ce189, hce189, hMe189, hcc189⟩ := Kd.N_get HO_3.out z26 x15_1 p189 (by first | exact q189 | exact of_decide_eq_true (by first | (with_reducible assumption) | assumption) | (have e_ := (Kd.N_reads' HO_3.out).1; omega))
                            obtain ⟨ua189_6, uc189_6, rfl, ul189_6, ge189_6⟩ := k26_openF hMe189
                            have hv189_6 := hcc189 6 _ rfl
                            rw [add_field _ _ 6 (by omega)] at hv189_6
                            replace hv189_6 := Option.some.inj (hv189_6.symm.trans hx189_6)
                            injection hv189_6 with hva_ hvn_ hvc_
                            rw [hva_] at ge189_6
                            rw [hvc_] at ul189_6
                            have HL189_6 := Aside0.mk (show Kd.V k26 26 _ w.heap.size _ _ ((rd_T26 t175 x15_1).f3) from Kd.V_mk ul189_6 ge189_6)
                            clear hva_ hvn_ hvc_ ge189_6 ul189_6
                            clear hcc189 hce189
                            have HR189_6 := Aside0.mk hi189_6
                            have HC189_6 := Aside0.mk hl189_6
                            clear hi189_6 hl189_6
                            replace p189 := eq_true p189
                            replace q189 := eq_true q189
                            have ea_ := Option.some.inj (hx182_6.symm.trans hx189_6)
                            injection ea_ with ea_ en_ ec_
                            subst ea_
                            subst ec_
                            clear en_
                            have p190 : 0 ≤ (x15_1 : Int) := of_decide_eq_true (by first | (with_reducible assumption) | assumption)
                            have q190 : x15_1 < (t175.length : Int) := of_decide_eq_true (by first | (with_reducible assumption) | assumption)
                            obtain ⟨ad190, A190_6, c190_6, e190, hx190_0, hx190_1, hx190_2, hx190_3, hx190_4, hx190_5, hx190_6, hl190_6, hi190_6⟩ := at_T26 (Kd.N_reads' HO_3.out).2.2 x15_1 p190 q190
                            obtain rfl : ad182 = ad190 := (by injection e190)
                            obtain ⟨ce190, hce190, hMe190, hcc190⟩ := Kd.N_get HO_3.out z26 x15_1 p190 (by first | exact q190 | exact of_decide_eq_true (by first | (with_reducible assumption) | assumption) | (have e_ := (Kd.N_reads' HO_3.out).1; omega))
                            obtain ⟨ua190_6, uc190_6, rfl, ul190_6, ge190_6⟩ := k26_openF hMe190
                            have hv190_6 := hcc190 6 _ rfl
                            rw [add_field _ _ 6 (by omega)] at hv190_6
                            replace hv190_6 := Option.some.inj (hv190_6.symm.trans hx190_6)
                            injection hv190_6 with hva_ hvn_ hvc_
                            rw [hva_] at ge190_6
                            rw [hvc_] at ul190_6
                            have HL190_6 := Aside0.mk (show Kd.V k26 26 _ w.heap.size _ _ ((rd_T26 t175 x15_1).f3) from Kd.V_mk ul190_6 ge190_6)
                            clear hva_ hvn_ hvc_ ge190_6 ul190_6
                            clear hcc190 hce190
                            have HR190_6 := Aside0.mk hi190_6
                            have HC190_6 := Aside0.mk hl190_6
                            clear hi190_6 hl190_6
                            replace p190 := eq_true p190
                            replace q190 := eq_true q190
                            have ea_ := Option.some.inj (hx182_6.symm.trans hx190_6)
                            injection ea_ with ea_ en_ ec_
                            subst ea_
                            subst ec_
                            clear en_
                            have p191 : 0 ≤ (x15_1 : Int) := of_decide_eq_true (by first | (with_reducible assumption) | assumption)
                            have q191 : x15_1 < (t175.length : Int) := of_decide_eq_true (by first | (with_reducible assumption) | assumption)
                            obtain ⟨ad191, A191_6, c191_6, e191, hx191_0, hx191_1, hx191_2, hx191_3, hx191_4, hx191_5, hx191_6, hl191_6, hi191_6⟩ := at_T26 (Kd.N_reads' HO_3.out).2.2 x15_1 p191 q191
                            obtain rfl : ad182 = ad191 := (by injection e191)
                            obtain ⟨ce191, hce191, hMe191, hcc191⟩ := Kd.N_get HO_3.out z26 x15_1 p191 (by first | exact q191 | exact of_decide_eq_true (by first | (with_reducible assumption) | assumption) | (have e_ := (Kd.N_reads' HO_3.out).1; omega))
                            obtain ⟨ua191_6, uc191_6, rfl, ul191_6, ge191_6⟩ := k26_openF hMe191
                            have hv191_6 := hcc191 6 _ rfl
                            rw [add_field _ _ 6 (by omega)] at hv191_6
                            replace hv191_6 := Option.some.inj (hv191_6.symm.trans hx191_6)
                            injection hv191_6 with hva_ hvn_ hvc_
                            rw [hva_] at ge191_6
                            rw [hvc_] at ul191_6
                            have HL191_6 := Aside0.mk (show Kd.V k26 26 _ w.heap.size _ _ ((rd_T26 t175 x15_1).f3) from Kd.V_mk ul191_6 ge191_6)
                            clear hva_ hvn_ hvc_ ge191_6 ul191_6
                            clear hcc191 hce191
                            have HR191_6 := Aside0.mk hi191_6
                            have HC191_6 := Aside0.mk hl191_6
                            clear hi191_6 hl191_6
                            replace p191 := eq_true p191
                            replace q191 := eq_true q191
                            have ea_ := Option.some.inj (hx182_6.symm.trans hx191_6)
                            injection ea_ with ea_ en_ ec_
                            subst ea_
                            subst ec_
                            clear en_
                            go_wp2
                            repeat (go_quiet (fail); try go_wp2)
                            go_ret
                            exact ⟨by first | rfl | (simp [errW_none, errW_some] <;> rfl) | (simp [*, errW_none, errW_some] <;> rfl), by repeat (first | (with_reducible first | exact HB.out | apply below_alloc | apply pw_below_drewN | apply below_drew1 | refine below_set ?_ GE174.out) | exact HB.out)⟩
                      · rw [if_neg c32] at H
                        have c32b0 : decide (1 < ((rd_T26 t175 x15_1).f0)) = false := decide_eq_false c32
                        clear c32
                        have H' := Aside0.mk H
                        clear H
                        have p182 : 0 ≤ (x15_1 : Int) := of_decide_eq_true (by first | (with_reducible assumption) | assumption)
                        have q182 : x15_1 < (t175.length : Int) := of_decide_eq_true (by first | (with_reducible assumption) | assumption)
                        obtain ⟨ad182, A182_6, c182_6, e182, hx182_0, hx182_1, hx182_2, hx182_3, hx182_4, hx182_5, hx182_6, hl182_6, hi182_6⟩ := at_T26 (Kd.N_reads' HO_3.out).2.2 x15_1 p182 q182
                        cases e182
                        obtain ⟨ce182, hce182, hMe182, hcc182⟩ := Kd.N_get HO_3.out z26 x15_1 p182 (by first | exact q182 | exact of_decide_eq_true (by first | (with_reducible assumption) | assumption) | (have e_ := (Kd.N_reads' HO_3.out).1; omega))
                        obtain ⟨ua182_6, uc182_6, rfl, ul182_6, ge182_6⟩ := k26_openF hMe182
                        have hv182_6 := hcc182 6 _ rfl
                        rw [add_field _ _ 6 (by omega)] at hv182_6
                        replace hv182_6 := Option.some.inj (hv182_6.symm.trans hx182_6)
                        injection hv182_6 with hva_ hvn_ hvc_
                        rw [hva_] at ge182_6
                        rw [hvc_] at ul182_6
                        have HL182_6 := Aside0.mk (show Kd.V k26 26 _ w.heap.size _ _ ((rd_T26 t175 x15_1).f3) from Kd.V_mk ul182_6 ge182_6)
                        clear hva_ hvn_ hvc_ ge182_6 ul182_6
                        clear hcc182 hce182
                        have HR182_6 := Aside0.mk hi182_6
                        have HC182_6 := Aside0.mk hl182_6
                        clear hi182_6 hl182_6
                        replace p182 := eq_true p182
                        replace q182 := eq_true q182
                        have p189 : 0 ≤ (x15_1 : Int) := of_decide_eq_true (by first | (with_reducible assumption) | assumption)
                        have q189 : x15_1 < (t175.length : Int) := of_decide_eq_true (by first | (with_reducible assumption) | assumption)
                        obtain ⟨ad189, A189_6, c189_6, e189, hx189_0, hx189_1, hx189_2, hx189_3, hx189_4, hx189_5, hx189_6, hl189_6, hi189_6⟩ := at_T26 (Kd.N_reads' HO_3.out).2.2 x15_1 p189 q189
                        obtain rfl : ad182 = ad189 := (by injection e189)
                        obtain ⟨ce189, hce189, hMe189, hcc189⟩ := Kd.N_get HO_3.out z26 x15_1 p189 (by first | exact q189 | exact of_decide_eq_true (by first | (with_reducible assumption) | assumption) | (have e_ := (Kd.N_reads' HO_3.out).1; omega))
                        obtain ⟨ua189_6, uc189_6, rfl, ul189_6, ge189_6⟩ := k26_openF hMe189
                        have hv189_6 := hcc189 6 _ rfl
                        rw [add_field _ _ 6 (by omega)] at hv189_6
                        replace hv189_6 := Option.some.inj (hv189_6.symm.trans hx189_6)
                        injection hv189_6 with hva_ hvn_ hvc_
                        rw [hva_] at ge189_6
                        rw [hvc_] at ul189_6
                        have HL189_6 := Aside0.mk (show Kd.V k26 26 _ w.heap.size _ _ ((rd_T26 t175 x15_1).f3) from Kd.V_mk ul189_6 ge189_6)
                        clear hva_ hvn_ hvc_ ge189_6 ul189_6
                        clear hcc189 hce189
                        have HR189_6 := Aside0.mk hi189_6
                        have HC189_6 := Aside0.mk hl189_6
                        clear hi189_6 hl189_6
                        replace p189 := eq_true p189
                        replace q189 := eq_true q189
                        have ea_ := Option.some.inj (hx182_6.symm.trans hx189_6)
                        injection ea_ with ea_ en_ ec_
                        subst ea_
                        subst ec_
                        clear en_
                        go_wp2
                        repeat (go_quiet (fail); try go_wp2)
                        go_roundg kj12
                        case measure => have := HK1.out; have := HJ12.out; omega
                        case rel => exact ⟨(wrap64 (x15_1 + 1)), (by first | rfl | (simp; done) | (simp [*]; done)), H', ⟨by have := HK1.out; have := HJ12.out; omega⟩, ⟨by (with_reducible repeat (first | apply Kd.N_alloc | apply Kd.N_drewN | apply Kd.N_drew)); exact HO_3.out⟩, ⟨by (with_reducible repeat (first | refine blk_drewN ?_ _ | refine blk_drew ?_ | refine blk_alloc ?_ _)); exact BK174.out⟩, ⟨by repeat (first | (with_reducible first | exact HB.out | apply below_alloc | apply pw_below_drewN | apply below_drew1 | refine below_set ?_ GE174.out) | exact HB.out)⟩⟩
                  · rw [if_neg c24] at H
                    exact absurd H (by simp)
                · rw [if_neg c23] at H
                  exact absurd H (by simp)
        · rw [if_neg c12] at H
          have c12b0 : decide (x15_1 < (t175.length : Int)) = false := decide_eq_false c12
          clear c12
          replace H := Option.bind_eq_some_iff.mp H
          obtain ⟨t192, A350, H⟩ := H
          replace H : (sashref05_May.l1 k1 t192 (t192.length : Int) 0) = some r := H
          have A35 := Aside0.mk A350
          clear A350
          have H' := Aside0.mk H
          clear H
          have hcz36_0 : wr.cell? ⟨gb174, 0, none⟩ = some (.int .u8 a0_0) := (blk_cell BK174.out 0).trans rfl
          have hcz36_1 : wr.cell? ⟨gb174, 1, none⟩ = some (.int .i64 a0_1) := (blk_cell BK174.out 1).trans rfl
          have hcz36_2 : wr.cell? ⟨gb174, 2, none⟩ = some (.int .i64 a0_2) := (blk_cell BK174.out 2).trans rfl
          have hcz36_3 : wr.cell? ⟨gb174, 3, none⟩ = some (.int .i64 a0_3) := (blk_cell BK174.out 3).trans rfl
          have hcz36_4 : wr.cell? ⟨gb174, 4, none⟩ = some (.int .i64 a0_4) := (blk_cell BK174.out 4).trans rfl
          have hcz36_5 : wr.cell? ⟨gb174, 5, none⟩ = some (.int .i64 a0_5) := (blk_cell BK174.out 5).trans rfl
          have hcz36_6 : wr.cell? ⟨gb174, 6, none⟩ = some (.slice A0_6 l0_6.length c0_6) := (blk_cell BK174.out 6).trans rfl
          have hfz36_0 := blk_frozen BK174.out 0
          have hfz36_1 := blk_frozen BK174.out 1
          have hfz36_2 := blk_frozen BK174.out 2
          have hfz36_3 := blk_frozen BK174.out 3
          have hfz36_4 := blk_frozen BK174.out 4
          have hfz36_5 := blk_frozen BK174.out 5
          have hfz36_6 := blk_frozen BK174.out 6
          go_wp2_with (first | (go_at_call 126; (with_reducible refine (sashref05_Leaves.calls k1 a0_0 a0_1 a0_2 a0_3 a0_4 a0_5 (fun k_ => k_ < w.heap.size) _ _ l0_6 t192 _ ?side1 A35.out).mono ?_); (case side1 => exact Kd.V_mk HC0_6.out (Kd.F_below (Kd.C_F k26_heap HR0_6.out) (by repeat (first | (with_reducible first | exact HB.out | apply below_alloc | apply pw_below_drewN | apply below_drew1 | refine below_set ?_ GE174.out) | exact HB.out)))); rintro e w37 ⟨v193, rfl, ho0, hb⟩; have n0_ := Aside0.mk (Kd.N_elder' (by (with_reducible repeat (first | apply Kd.N_alloc | apply Kd.N_drewN | apply Kd.N_drew)); exact HO_3.out) (Kd.N_base ho0) hb); have n1_ := Aside0.mk (Kd.N_lower (Kd.N_mono (ok' := fun k_ => some k_ ≠ (.slice Ao11 t175.length co11 : Value).ownBlock ∧ k_ ≠ gb174) ho0 (fun k_ hk_ => ⟨Or.elim hk_ (fun hs_ => fun e_ => Nat.not_le.2 hs_ (Kd.N_base HO_3.out k_ e_.symm)) (fun hn_ => (Kd.fresh' (Kd.N_lt (by (with_reducible repeat (first | apply Kd.N_alloc | apply Kd.N_drewN | apply Kd.N_drew)); exact HO_3.out)) k_ hn_)), Or.elim hk_ (fun hs_ => fun e_ => Nat.not_le.2 hs_ (by rw [e_]; exact GW174.out)) (fun hn_ => (Kd.freshB (g := gb174) (o := .cells #[.int .u8 a0_0, .int .i64 a0_1, .int .i64 a0_2, .int .i64 a0_3, .int .i64 a0_4, .int .i64 a0_5, .slice A0_6 l0_6.length c0_6] 26 (0, 0)) (by (with_reducible repeat (first | refine blk_drewN ?_ _ | refine blk_drew ?_ | refine blk_alloc ?_ _)); exact BK174.out) k_ hn_))⟩)) (below_size (by repeat (first | (with_reducible first | exact HB.out | apply below_alloc | apply pw_below_drewN | apply below_drew1 | refine below_set ?_ GE174.out) | exact HB.out)))); have n2_ := Aside0.mk (blk_below (g := gb174) (o := .cells #[.int .u8 a0_0, .int .i64 a0_1, .int .i64 a0_2, .int .i64 a0_3, .int .i64 a0_4, .int .i64 a0_5, .slice A0_6 l0_6.length c0_6] 26 (0, 0)) (by (with_reducible repeat (first | refine blk_drewN ?_ _ | refine blk_drew ?_ | refine blk_alloc ?_ _)); exact BK174.out) hb); have n3_ := Aside0.mk (below_step (by repeat (first | (with_reducible first | exact HB.out | apply below_alloc | apply pw_below_drewN | apply below_drew1 | refine below_set ?_ GE174.out) | exact HB.out)) hb); clear HO_3; clear BK174; clear HB; have HO_3 := n0_; have HO194 := n1_; have BK174 := n2_; have HB := n3_; clear n0_ n1_ n2_ n3_; (try clear hb); (try clear hb2); (try clear hk); (try clear hi); (try clear ho0); obtain ⟨Ao38, co38, eo38⟩ := Kd.N_slice HO194.out; subst eo38))
          repeat (go_quiet (first | (go_at_call 126; (with_reducible refine (sashref05_Leaves.calls k1 a0_0 a0_1 a0_2 a0_3 a0_4 a0_5 (fun k_ => k_ < w.heap.size) _ _ l0_6 t192 _ ?side1 A35.out).mono ?_); (case side1 => exact Kd.V_mk HC0_6.out (Kd.F_below (Kd.C_F k26_heap HR0_6.out) (by repeat (first | (with_reducible first | exact HB.out | apply below_alloc | apply pw_below_drewN | apply below_drew1 | refine below_set ?_ GE174.out) | exact HB.out)))); rintro e w37 ⟨v193, rfl, ho0, hb⟩; have n0_ := Aside0.mk (Kd.N_elder' (by (with_reducible repeat (first | apply Kd.N_alloc | apply Kd.N_drewN | apply Kd.N_drew)); exact HO_3.out) (Kd.N_base ho0) hb); have n1_ := Aside0.mk (Kd.N_lower (Kd.N_mono (ok' := fun k_ => some k_ ≠ (.slice Ao11 t175.length co11 : Value).ownBlock ∧ k_ ≠ gb174) ho0 (fun k_ hk_ => ⟨Or.elim hk_ (fun hs_ => fun e_ => Nat.not_le.2 hs_ (Kd.N_base HO_3.out k_ e_.symm)) (fun hn_ => (Kd.fresh' (Kd.N_lt (by (with_reducible repeat (first | apply Kd.N_alloc | apply Kd.N_drewN | apply Kd.N_drew)); exact HO_3.out)) k_ hn_)), Or.elim hk_ (fun hs_ => fun e_ => Nat.not_le.2 hs_ (by rw [e_]; exact GW174.out)) (fun hn_ => (Kd.freshB (g := gb174) (o := .cells #[.int .u8 a0_0, .int .i64 a0_1, .int .i64 a0_2, .int .i64 a0_3, .int .i64 a0_4, .int .i64 a0_5, .slice A0_6 l0_6.length c0_6] 26 (0, 0)) (by (with_reducible repeat (first | refine blk_drewN ?_ _ | refine blk_drew ?_ | refine blk_alloc ?_ _)); exact BK174.out) k_ hn_))⟩)) (below_size (by repeat (first | (with_reducible first | exact HB.out | apply below_alloc | apply pw_below_drewN | apply below_drew1 | refine below_set ?_ GE174.out) | exact HB.out)))); have n2_ := Aside0.mk (blk_below (g := gb174) (o := .cells #[.int .u8 a0_0, .int .i64 a0_1, .int .i64 a0_2, .int .i64 a0_3, .int .i64 a0_4, .int .i64 a0_5, .slice A0_6 l0_6.length c0_6] 26 (0, 0)) (by (with_reducible repeat (first | refine blk_drewN ?_ _ | refine blk_drew ?_ | refine blk_alloc ?_ _)); exact BK174.out) hb); have n3_ := Aside0.mk (below_step (by repeat (first | (with_reducible first | exact HB.out | apply below_alloc | apply pw_below_drewN | apply below_drew1 | refine below_set ?_ GE174.out) | exact HB.out)) hb); clear HO_3; clear BK174; clear HB; have HO_3 := n0_; have HO194 := n1_; have BK174 := n2_; have HB := n3_; clear n0_ n1_ n2_ n3_; (try clear hb); (try clear hb2); (try clear hk); (try clear hi); (try clear ho0); obtain ⟨Ao38, co38, eo38⟩ := Kd.N_slice HO194.out; subst eo38)); try go_wp2_with (first | (go_at_call 126; (with_reducible refine (sashref05_Leaves.calls k1 a0_0 a0_1 a0_2 a0_3 a0_4 a0_5 (fun k_ => k_ < w.heap.size) _ _ l0_6 t192 _ ?side1 A35.out).mono ?_); (case side1 => exact Kd.V_mk HC0_6.out (Kd.F_below (Kd.C_F k26_heap HR0_6.out) (by repeat (first | (with_reducible first | exact HB.out | apply below_alloc | apply pw_below_drewN | apply below_drew1 | refine below_set ?_ GE174.out) | exact HB.out)))); rintro e w37 ⟨v193, rfl, ho0, hb⟩; have n0_ := Aside0.mk (Kd.N_elder' (by (with_reducible repeat (first | apply Kd.N_alloc | apply Kd.N_drewN | apply Kd.N_drew)); exact HO_3.out) (Kd.N_base ho0) hb); have n1_ := Aside0.mk (Kd.N_lower (Kd.N_mono (ok' := fun k_ => some k_ ≠ (.slice Ao11 t175.length co11 : Value).ownBlock ∧ k_ ≠ gb174) ho0 (fun k_ hk_ => ⟨Or.elim hk_ (fun hs_ => fun e_ => Nat.not_le.2 hs_ (Kd.N_base HO_3.out k_ e_.symm)) (fun hn_ => (Kd.fresh' (Kd.N_lt (by (with_reducible repeat (first | apply Kd.N_alloc | apply Kd.N_drewN | apply Kd.N_drew)); exact HO_3.out)) k_ hn_)), Or.elim hk_ (fun hs_ => fun e_ => Nat.not_le.2 hs_ (by rw [e_]; exact GW174.out)) (fun hn_ => (Kd.freshB (g := gb174) (o := .cells #[.int .u8 a0_0, .int .i64 a0_1, .int .i64 a0_2, .int .i64 a0_3, .int .i64 a0_4, .int .i64 a0_5, .slice A0_6 l0_6.length c0_6] 26 (0, 0)) (by (with_reducible repeat (first | refine blk_drewN ?_ _ | refine blk_drew ?_ | refine blk_alloc ?_ _)); exact BK174.out) k_ hn_))⟩)) (below_size (by repeat (first | (with_reducible first | exact HB.out | apply below_alloc | apply pw_below_drewN | apply below_drew1 | refine below_set ?_ GE174.out) | exact HB.out)))); have n2_ := Aside0.mk (blk_below (g := gb174) (o := .cells #[.int .u8 a0_0, .int .i64 a0_1, .int .i64 a0_2, .int .i64 a0_3, .int .i64 a0_4, .int .i64 a0_5, .slice A0_6 l0_6.length c0_6] 26 (0, 0)) (by (with_reducible repeat (first | refine blk_drewN ?_ _ | refine blk_drew ?_ | refine blk_alloc ?_ _)); exact BK174.out) hb); have n3_ := Aside0.mk (below_step (by repeat (first | (with_reducible first | exact HB.out | apply below_alloc | apply pw_below_drewN | apply below_drew1 | refine below_set ?_ GE174.out) | exact HB.out)) hb); clear HO_3; clear BK174; clear HB; have HO_3 := n0_; have HO194 := n1_; have BK174 := n2_; have HB := n3_; clear n0_ n1_ n2_ n3_; (try clear hb); (try clear hb2); (try clear hk); (try clear hi); (try clear ho0); obtain ⟨Ao38, co38, eo38⟩ := Kd.N_slice HO194.out; subst eo38)))
          go_loopg [102] k1 (fun kq v102 w' => ∃ (x102_2 : Int), v102 = .int .i64 x102_2 ∧ Aside0 (sashref05_May.l1 kq t192 (t192.length : Int) x102_2 = some r) ∧ Aside0 (kq ≤ k1) ∧ Aside0 (Kd.N k26 26 w' w.heap.size (fun k_ => k_ ≠ gb174) (.slice Ao38 t192.length co38) t192) ∧ Aside0 (w'.heap[gb174]? = some (.cells #[.int .u8 a0_0, .int .i64 a0_1, .int .i64 a0_2, .int .i64 a0_3, .int .i64 a0_4, .int .i64 a0_5, (.slice A0_6 l0_6.length c0_6)] 26 (0, 0))) ∧ Aside0 (Below w.heap.size w w'))
          case atStart => exact ⟨(0), (by first | rfl | (simp; done) | (simp [*]; done)), H', ⟨Nat.le_refl _⟩, ⟨by (with_reducible repeat (first | apply Kd.N_alloc | apply Kd.N_drewN | apply Kd.N_drew)); exact Kd.N_mono HO194.out (fun _ hk => hk.2)⟩, ⟨by (with_reducible repeat (first | refine blk_drewN ?_ _ | refine blk_drew ?_ | refine blk_alloc ?_ _)); exact BK174.out⟩, ⟨by repeat (first | (with_reducible first | exact HB.out | apply below_alloc | apply pw_below_drewN | apply below_drew1 | refine below_set ?_ GE174.out) | exact HB.out)⟩⟩
          case round =>
            clear H'
            try clear c1
            try clear p1
            try clear q1
            try clear hx1
            try clear c2
            try clear p2
            try clear c3
            try clear p6
            try clear c12
            try clear c12b0
            try clear c18
            try clear p18
            try clear q18
            try clear hx18
            try clear c19
            try clear p19
            try clear q19
            try clear hx19
            try clear c23
            try clear c24
            try clear c25
            try clear c25b0
            try clear c25b1
            try clear c29
            try clear c29b0
            try clear c32
            try clear c32b0
            try clear c33
            try clear c33b0
            try clear c33b1
            try clear c34
            try clear c34b0
            try clear c34b1
            try clear hcz36_0
            try clear hcz36_1
            try clear hcz36_2
            try clear hcz36_3
            try clear hcz36_4
            try clear hcz36_5
            try clear hcz36_6
            try clear hfz36_0
            try clear hfz36_1
            try clear hfz36_2
            try clear hfz36_3
            try clear hfz36_4
            try clear hfz36_5
            try clear hfz36_6
            try clear hx182_0
            try clear hx182_1
            try clear hx182_2
            try clear hx182_3
            try clear hx182_4
            try clear hx182_5
            try clear hx182_6
            try clear hx183_0
            try clear hx183_1
            try clear hx183_2
            try clear hx183_3
            try clear hx183_4
            try clear hx183_5
            try clear hx183_6
            try clear hx184_0
            try clear hx184_1
            try clear hx184_2
            try clear hx184_3
            try clear hx184_4
            try clear hx184_5
            try clear hx184_6
            try clear hx185_0
            try clear hx185_1
            try clear hx185_2
            try clear hx185_3
            try clear hx185_4
            try clear hx185_5
            try clear hx185_6
            try clear hx186_0
            try clear hx186_1
            try clear hx186_2
            try clear hx186_3
            try clear hx186_4
            try clear hx186_5
            try clear hx186_6
            try clear hx187_0
            try clear hx187_1
            try clear hx187_2
            try clear hx187_3
            try clear hx187_4
            try clear hx187_5
            try clear hx187_6
            try clear hx188_0
            try clear hx188_1
            try clear hx188_2
            try clear hx188_3
            try clear hx188_4
            try clear hx188_5
            try clear hx188_6
            try clear hx189_0
            try clear hx189_1
            try clear hx189_2
            try clear hx189_3
            try clear hx189_4
            try clear hx189_5
            try clear hx189_6
            try clear hx190_0
            try clear hx190_1
            try clear hx190_2
            try clear hx190_3
            try clear hx190_4
            try clear hx190_5
            try clear hx190_6
            try clear hx191_0
            try clear hx191_1
            try clear hx191_2
            try clear hx191_3
            try clear hx191_4
            try clear hx191_5
            try clear hx191_6
            try clear p182
            try clear p183
            try clear p184
            try clear p185
            try clear p186
            try clear p187
            try clear p188
            try clear p189
            try clear p190
            try clear p191
            try clear q182
            try clear q183
            try clear q184
            try clear q185
            try clear q186
            try clear q187
            try clear q188
            try clear q189
            try clear q190
            try clear q191
            obtain ⟨x102_2, rfl, HA, HK2, HO_5, BK174, HB⟩ := hrel
            cases gk with
            | zero => exact absurd HA.out (by simp [sashref05_May.l1])
            | succ k2 =>
              have H := HA.out
              clear HA
              simp only [sashref05_May.l1] at H
              by_cases c39 : x102_2 < (t192.length : Int)
              · rw [if_pos c39] at H
                have c39b0 : decide (x102_2 < (t192.length : Int)) = true := decide_eq_true c39
                clear c39
                have H' := Aside0.mk H
                clear H
                go_wp2
                repeat (go_quiet (fail); try go_wp2)
                go_loopg [7] k2 (fun kq v7 w' => ∃ (x7_3 : Int), v7 = .int .i64 x7_3 ∧ Aside0 (sashref05_May.l2 kq t192 x102_2 x7_3 (t192.length : Int) x102_2 = some r) ∧ Aside0 (kq ≤ k2) ∧ Aside0 (Kd.N k26 26 w' w.heap.size (fun k_ => k_ ≠ gb174) (.slice Ao38 t192.length co38) t192) ∧ Aside0 (w'.heap[gb174]? = some (.cells #[.int .u8 a0_0, .int .i64 a0_1, .int .i64 a0_2, .int .i64 a0_3, .int .i64 a0_4, .int .i64 a0_5, (.slice A0_6 l0_6.length c0_6)] 26 (0, 0))) ∧ Aside0 (Below w.heap.size w w'))
                case atStart => exact ⟨(0), (by first | rfl | (simp; done) | (simp [*]; done)), H', ⟨Nat.le_refl _⟩, ⟨by (with_reducible repeat (first | apply Kd.N_alloc | apply Kd.N_drewN | apply Kd.N_drew)); exact HO_5.out⟩, ⟨by (with_reducible repeat (first | refine blk_drewN ?_ _ | refine blk_drew ?_ | refine blk_alloc ?_ _)); exact BK174.out⟩, ⟨by repeat (first | (with_reducible first | exact HB.out | apply below_alloc | apply pw_below_drewN | apply below_drew1 | refine below_set ?_ GE174.out) | exact HB.out)⟩⟩
                case round =>
                  clear H'
                  try clear c1
                  try clear p1
                  try clear q1
                  try clear hx1
                  try clear c2
                  try clear p2
                  try clear c3
                  try clear p6
                  try clear c12
                  try clear c12b0
                  try clear c18
                  try clear p18
                  try clear q18
                  try clear hx18
                  try clear c19
                  try clear p19
                  try clear q19
                  try clear hx19
                  try clear c23
                  try clear c24
                  try clear c25
                  try clear c25b0
                  try clear c25b1
                  try clear c29
                  try clear c29b0
                  try clear c32
                  try clear c32b0
                  try clear c33
                  try clear c33b0
                  try clear c33b1
                  try clear c34
                  try clear c34b0
                  try clear c34b1
                  try clear c39
                  try clear c39b0
                  try clear hcz36_0
                  try clear hcz36_1
                  try clear hcz36_2
                  try clear hcz36_3
                  try clear hcz36_4
                  try clear hcz36_5
                  try clear hcz36_6
                  try clear hfz36_0
                  try clear hfz36_1
                  try clear hfz36_2
                  try clear hfz36_3
                  try clear hfz36_4
                  try clear hfz36_5
                  try clear hfz36_6
                  try clear hx182_0
                  try clear hx182_1
                  try clear hx182_2
                  try clear hx182_3
                  try clear hx182_4
                  try clear hx182_5
                  try clear hx182_6
                  try clear hx183_0
                  try clear hx183_1
                  try clear hx183_2
                  try clear hx183_3
                  try clear hx183_4
                  try clear hx183_5
                  try clear hx183_6
                  try clear hx184_0
                  try clear hx184_1
                  try clear hx184_2
                  try clear hx184_3
                  try clear hx184_4
                  try clear hx184_5
                  try clear hx184_6
                  try clear hx185_0
                  try clear hx185_1
                  try clear hx185_2
                  try clear hx185_3
                  try clear hx185_4
                  try clear hx185_5
                  try clear hx185_6
                  try clear hx186_0
                  try clear hx186_1
                  try clear hx186_2
                  try clear hx186_3
                  try clear hx186_4
                  try clear hx186_5
                  try clear hx186_6
                  try clear hx187_0
                  try clear hx187_1
                  try clear hx187_2
                  try clear hx187_3
                  try clear hx187_4
                  try clear hx187_5
                  try clear hx187_6
                  try clear hx188_0
                  try clear hx188_1
                  try clear hx188_2
                  try clear hx188_3
                  try clear hx188_4
                  try clear hx188_5
                  try clear hx188_6
                  try clear hx189_0
                  try clear hx189_1
                  try clear hx189_2
                  try clear hx189_3
                  try clear hx189_4
                  try clear hx189_5
                  try clear hx189_6
                  try clear hx190_0
                  try clear hx190_1
                  try clear hx190_2
                  try clear hx190_3
                  try clear hx190_4
                  try clear hx190_5
                  try clear hx190_6
                  try clear hx191_0
                  try clear hx191_1
                  try clear hx191_2
                  try clear hx191_3
                  try clear hx191_4
                  try clear hx191_5
                  try clear hx191_6
                  try clear p1
                  try clear p18
                  try clear p182
                  try clear p183
                  try clear p184
                  try clear p185
                  try clear p186
                  try clear p187
                  try clear p188
                  try clear p189
                  try clear p19
                  try clear p190
                  try clear p191
                  try clear p2
                  try clear p6
                  try clear q1
                  try clear q18
                  try clear q182
                  try clear q183
                  try clear q184
                  try clear q185
                  try clear q186
                  try clear q187
                  try clear q188
                  try clear q189
                  try clear q19
                  try clear q190
                  try clear q191
                  obtain ⟨x7_3, rfl, HA, HK3, HO_5, BK174, HB⟩ := hrel
                  cases gk with
                  | zero => exact absurd HA.out (by simp [sashref05_May.l2])
                  | succ k3 =>
                    have H := HA.out
                    clear HA
                    simp only [sashref05_May.l2] at H
                    by_cases c40 : x7_3 < x102_2
                    · rw [if_pos c40] at H
                      have c40b0 : decide (x7_3 < x102_2) = true := decide_eq_true c40
                      clear c40
                      by_cases c41 : 0 ≤ x102_2
                      · rw [if_pos c41] at H
                        have c41b0 : decide (0 ≤ x102_2) = true := decide_eq_true c41
                        clear c41
                        by_cases c42 : x102_2 < (t192.length : Int)
                        · rw [if_pos c42] at H
                          have c42b0 : decide (x102_2 < (t192.length : Int)) = true := decide_eq_true c42
                          clear c42
                          by_cases c43 : 0 ≤ x7_3
                          · rw [if_pos c43] at H
                            have c43b0 : decide (0 ≤ x7_3) = true := decide_eq_true c43
                            clear c43
                            by_cases c44 : x7_3 < (t192.length : Int)
                            · rw [if_pos c44] at H
                              have c44b0 : decide (x7_3 < (t192.length : Int)) = true := decide_eq_true c44
                              clear c44
                              by_cases c45 : ((rd_T26 t192 x102_2).f2) = ((rd_T26 t192 x7_3).f2)
                              · rw [if_pos c45] at H
                                have c45b0 : (((rd_T26 t192 x102_2).f2) == ((rd_T26 t192 x7_3).f2)) = true := beq_iff_eq.mpr c45
                                have c45b1 : (((rd_T26 t192 x102_2).f2) != ((rd_T26 t192 x7_3).f2)) = false := bne_eq_false_iff_eq.mpr c45
                                clear c45
                                obtain rfl := Option.some.inj H
                                have p195 : 0 ≤ (x102_2 : Int) := of_decide_eq_true (by first | (with_reducible assumption) | assumption)
                                have q195 : x102_2 < (t192.length : Int) := of_decide_eq_true (by first | (with_reducible assumption) | assumption)
                                obtain ⟨ad195, A195_6, c195_6, e195, hx195_0, hx195_1, hx195_2, hx195_3, hx195_4, hx195_5, hx195_6, hl195_6, hi195_6⟩ := at_T26 (Kd.N_reads' HO_5.out).2.2 x102_2 p195 q195
                                cases e195
                                obtain ⟨ce195, hce195, hMe195, hcc195⟩ := Kd.N_get HO_5.out z26 x102_2 p195 (by first | exact q195 | exact of_decide_eq_true (by first | (with_reducible assumption) | assumption) | (have e_ := (Kd.N_reads' HO_5.out).1; omega))
                                obtain ⟨ua195_6, uc195_6, rfl, ul195_6, ge195_6⟩ := k26_openF hMe195
                                have hv195_6 := hcc195 6 _ rfl
                                rw [add_field _ _ 6 (by omega)] at hv195_6
                                replace hv195_6 := Option.some.inj (hv195_6.symm.trans hx195_6)
                                injection hv195_6 with hva_ hvn_ hvc_
                                rw [hva_] at ge195_6
                                rw [hvc_] at ul195_6
                                have HL195_6 := Aside0.mk (show Kd.V k26 26 _ w.heap.size _ _ ((rd_T26 t192 x102_2).f3) from Kd.V_mk ul195_6 ge195_6)
                                clear hva_ hvn_ hvc_ ge195_6 ul195_6
                                clear hcc195 hce195
                                have HR195_6 := Aside0.mk hi195_6
                                have HC195_6 := Aside0.mk hl195_6
                                clear hi195_6 hl195_6
                                replace p195 := eq_true p195
                                replace q195 := eq_true q195
                                have p196 : 0 ≤ (x7_3 : Int) := of_decide_eq_true (by first | (with_reducible assumption) | assumption)
                                have q196 : x7_3 < (t192.length : Int) := of_decide_eq_true (by first | (with_reducible assumption) | assumption)
                                obtain ⟨ad196, A196_6, c196_6, e196, hx196_0, hx196_1, hx196_2, hx196_3, hx196_4, hx196_5, hx196_6, hl196_6, hi196_6⟩ := at_T26 (Kd.N_reads' HO_5.out).2.2 x7_3 p196 q196
                                obtain rfl : ad195 = ad196 := (by injection e196)
                                obtain ⟨ce196, hce196, hMe196, hcc196⟩ := Kd.N_get HO_5.out z26 x7_3 p196 (by first | exact q196 | exact of_decide_eq_true (by first | (with_reducible assumption) | assumption) | (have e_ := (Kd.N_reads' HO_5.out).1; omega))
                                obtain ⟨ua196_6, uc196_6, rfl, ul196_6, ge196_6⟩ := k26_openF hMe196
                                have hv196_6 := hcc196 6 _ rfl
                                rw [add_field _ _ 6 (by omega)] at hv196_6
                                replace hv196_6 := Option.some.inj (hv196_6.symm.trans hx196_6)
                                injection hv196_6 with hva_ hvn_ hvc_
                                rw [hva_] at ge196_6
                                rw [hvc_] at ul196_6
                                have HL196_6 := Aside0.mk (show Kd.V k26 26 _ w.heap.size _ _ ((rd_T26 t192 x7_3).f3) from Kd.V_mk ul196_6 ge196_6)
                                clear hva_ hvn_ hvc_ ge196_6 ul196_6
                                clear hcc196 hce196
                                have HR196_6 := Aside0.mk hi196_6
                                have HC196_6 := Aside0.mk hl196_6
                                clear hi196_6 hl196_6
                                replace p196 := eq_true p196
                                replace q196 := eq_true q196
                                go_wp2
                                repeat (go_quiet (fail); try go_wp2)
                                go_ret
                                exact ⟨by first | rfl | (simp [errW_none, errW_some] <;> rfl) | (simp [*, errW_none, errW_some] <;> rfl), by repeat (first | (with_reducible first | exact HB.out | apply below_alloc | apply pw_below_drewN | apply below_drew1 | refine below_set ?_ GE174.out) | exact HB.out)⟩
                              · rw [if_neg c45] at H
                                have c45b0 : (((rd_T26 t192 x102_2).f2) == ((rd_T26 t192 x7_3).f2)) = false := beq_eq_false_iff_ne.mpr c45
                                have c45b1 : (((rd_T26 t192 x102_2).f2) != ((rd_T26 t192 x7_3).f2)) = true := bne_iff_ne.mpr c45
                                have H' := Aside0.mk H
                                clear H
                                have p195 : 0 ≤ (x102_2 : Int) := of_decide_eq_true (by first | (with_reducible assumption) | assumption)
                                have q195 : x102_2 < (t192.length : Int) := of_decide_eq_true (by first | (with_reducible assumption) | assumption)
                                obtain ⟨ad195, A195_6, c195_6, e195, hx195_0, hx195_1, hx195_2, hx195_3, hx195_4, hx195_5, hx195_6, hl195_6, hi195_6⟩ := at_T26 (Kd.N_reads' HO_5.out).2.2 x102_2 p195 q195
                                cases e195
                                obtain ⟨ce195, hce195, hMe195, hcc195⟩ := Kd.N_get HO_5.out z26 x102_2 p195 (by first | exact q195 | exact of_decide_eq_true (by first | (with_reducible assumption) | assumption) | (have e_ := (Kd.N_reads' HO_5.out).1; omega))
                                obtain ⟨ua195_6, uc195_6, rfl, ul195_6, ge195_6⟩ := k26_openF hMe195
                                have hv195_6 := hcc195 6 _ rfl
                                rw [add_field _ _ 6 (by omega)] at hv195_6
                                replace hv195_6 := Option.some.inj (hv195_6.symm.trans hx195_6)
                                injection hv195_6 with hva_ hvn_ hvc_
                                rw [hva_] at ge195_6
                                rw [hvc_] at ul195_6
                                have HL195_6 := Aside0.mk (show Kd.V k26 26 _ w.heap.size _ _ ((rd_T26 t192 x102_2).f3) from Kd.V_mk ul195_6 ge195_6)
                                clear hva_ hvn_ hvc_ ge195_6 ul195_6
                                clear hcc195 hce195
                                have HR195_6 := Aside0.mk hi195_6
                                have HC195_6 := Aside0.mk hl195_6
                                clear hi195_6 hl195_6
                                replace p195 := eq_true p195
                                replace q195 := eq_true q195
                                have p196 : 0 ≤ (x7_3 : Int) := of_decide_eq_true (by first | (with_reducible assumption) | assumption)
                                have q196 : x7_3 < (t192.length : Int) := of_decide_eq_true (by first | (with_reducible assumption) | assumption)
                                obtain ⟨ad196, A196_6, c196_6, e196, hx196_0, hx196_1, hx196_2, hx196_3, hx196_4, hx196_5, hx196_6, hl196_6, hi196_6⟩ := at_T26 (Kd.N_reads' HO_5.out).2.2 x7_3 p196 q196
                                obtain rfl : ad195 = ad196 := (by injection e196)
                                obtain ⟨ce196, hce196, hMe196, hcc196⟩ := Kd.N_get HO_5.out z26 x7_3 p196 (by first | exact q196 | exact of_decide_eq_true (by first | (with_reducible assumption) | assumption) | (have e_ := (Kd.N_reads' HO_5.out).1; omega))
                                obtain ⟨ua196_6, uc196_6, rfl, ul196_6, ge196_6⟩ := k26_openF hMe196
                                have hv196_6 := hcc196 6 _ rfl
                                rw [add_field _ _ 6 (by omega)] at hv196_6
                                replace hv196_6 := Option.some.inj (hv196_6.symm.trans hx196_6)
                                injection hv196_6 with hva_ hvn_ hvc_
                                rw [hva_] at ge196_6
                                rw [hvc_] at ul196_6
                                have HL196_6 := Aside0.mk (show Kd.V k26 26 _ w.heap.size _ _ ((rd_T26 t192 x7_3).f3) from Kd.V_mk ul196_6 ge196_6)
                                clear hva_ hvn_ hvc_ ge196_6 ul196_6
                                clear hcc196 hce196
                                have HR196_6 := Aside0.mk hi196_6
                                have HC196_6 := Aside0.mk hl196_6
                                clear hi196_6 hl196_6
                                replace p196 := eq_true p196
                                replace q196 := eq_true q196
                                go_wp2
                                repeat (go_quiet (fail); try go_wp2)
                                go_roundg k3
                                case measure => have := HK1.out; have := HK2.out; have := HK3.out; omega
                                case rel => exact ⟨(wrap64 (x7_3 + 1)), (by first | rfl | (simp; done) | (simp [*]; done)), H', ⟨by have := HK1.out; have := HK2.out; have := HK3.out; omega⟩, ⟨by (with_reducible repeat (first | apply Kd.N_alloc | apply Kd.N_drewN | apply Kd.N_drew)); exact HO_5.out⟩, ⟨by (with_reducible repeat (first | refine blk_drewN ?_ _ | refine blk_drew ?_ | refine blk_alloc ?_ _)); exact BK174.out⟩, ⟨by repeat (first | (with_reducible first | exact HB.out | apply below_alloc | apply pw_below_drewN | apply below_drew1 | refine below_set ?_ GE174.out) | exact HB.out)⟩⟩
                            · rw [if_neg c44] at H
                              exact absurd H (by simp)
                          · rw [if_neg c43] at H
                            exact absurd H (by simp)
                        · rw [if_neg c42] at H
                          exact absurd H (by simp)
                      · rw [if_neg c41] at H
                        exact absurd H (by simp)
                    · rw [if_neg c40] at H
                      have c40b0 : decide (x7_3 < x102_2) = false := decide_eq_false c40
                      clear c40
                      have H' := Aside0.mk H
                      clear H
                      go_wp2
                      repeat (go_quiet (fail); try go_wp2)
                      go_roundg k3
                      case measure => have := HK1.out; have := HK2.out; have := HK3.out; omega
                      case rel => exact ⟨(wrap64 (x102_2 + 1)), (by first | rfl | (simp; done) | (simp [*]; done)), H', ⟨by have := HK1.out; have := HK2.out; have := HK3.out; omega⟩, ⟨by (with_reducible repeat (first | apply Kd.N_alloc | apply Kd.N_drewN | apply Kd.N_drew)); exact HO_5.out⟩, ⟨by (with_reducible repeat (first | refine blk_drewN ?_ _ | refine blk_drew ?_ | refine blk_alloc ?_ _)); exact BK174.out⟩, ⟨by repeat (first | (with_reducible first | exact HB.out | apply below_alloc | apply pw_below_drewN | apply below_drew1 | refine below_set ?_ GE174.out) | exact HB.out)⟩⟩
              · rw [if_neg c39] at H
                have c39b0 : decide (x102_2 < (t192.length : Int)) = false := decide_eq_false c39
                clear c39
                obtain rfl := Option.some.inj H
                go_wp2
                repeat (go_quiet (fail); try go_wp2)
                go_ret
                exact ⟨by first | rfl | (simp [errW_none, errW_some] <;> rfl) | (simp [*, errW_none, errW_some] <;> rfl), by repeat (first | (with_reducible first | exact HB.out | apply below_alloc | apply pw_below_drewN | apply below_drew1 | refine below_set ?_ GE174.out) | exact HB.out)⟩

end Go.Proofs.Ytfdmfgaiblfbhaa.P
namespace Go.Proofs.Ytfdmfgaiblfbhaa.P
open Go.RowKit Go.Proofs.YtfdmfgaiblfbhaaW.PrintWords Go.Proofs.YtfdmfgaiblfbhaaW.PrintLast Go.Proofs.YtfdmfgaiblfbhaaW.PrintMore
attribute [local go_sem] max2_int min2_int max_two min_two max_three min_three max_four min_four   -- for this text's walks alone
set_option linter.unusedVariables false
set_option linter.unusedSimpArgs false

/-! ### sashref05_count: function 124 -/
mutual
def sashref05_count.l0 : Nat → Int → Int → Int → Int → Int → Int → Int → Int → Int → Int → List (S26) → Option (Int)
  | 0, _, _, _, _, _, _, _, _, _, _, _ => none
  | k + 1, x1, x5, x9, x10, x102000, x102001, x102002, x102003, x102004, x102005, x102006 => if x10 < x9 then (if x5 > x1 then (some x5) else (if 0 ≤ x10 then (if x10 < (x102006.length : Int) then ((sashref05_count.f k ((rd_T26 x102006 x10).f0) ((rd_T26 x102006 x10).f1.f0) ((rd_T26 x102006 x10).f1.f1) ((rd_T26 x102006 x10).f1.f2) ((rd_T26 x102006 x10).f1.f3) ((rd_T26 x102006 x10).f2) ((rd_T26 x102006 x10).f3) x1).bind fun t103 => (sashref05_count.l0 k x1 (wrap64 (x5 + t103)) x9 (wrap64 (x10 + 1)) x102000 x102001 x102002 x102003 x102004 x102005 x102006)) else (none)) else (none))) else (some x5)
def sashref05_count.f : Nat → Int → Int → Int → Int → Int → Int → List (S26) → Int → Option (Int)
  | 0, _, _, _, _, _, _, _, _ => none
  | k + 1, a0_0, a0_1, a0_2, a0_3, a0_4, a0_5, l0_6, a1 => sashref05_count.l0 k a1 1 (l0_6.length : Int) 0 a0_0 a0_1 a0_2 a0_3 a0_4 a0_5 l0_6
end
theorem sashref05_count.mono_l : ∀ k, (∀ y0 y1 y2 y3 y4 y5 y6 y7, LeO (sashref05_count.f k y0 y1 y2 y3 y4 y5 y6 y7) (sashref05_count.f (k + 1) y0 y1 y2 y3 y4 y5 y6 y7)) ∧ (∀ y0 y1 y2 y3 y4 y5 y6 y7 y8 y9 y10, LeO (sashref05_count.l0 k y0 y1 y2 y3 y4 y5 y6 y7 y8 y9 y10) (sashref05_count.l0 (k + 1) y0 y1 y2 y3 y4 y5 y6 y7 y8 y9 y10))
  | 0 => ⟨fun _ _ _ _ _ _ _ _ r h => by simp [sashref05_count.f] at h, fun _ _ _ _ _ _ _ _ _ _ _ r h => by simp [sashref05_count.l0] at h⟩
  | k + 1 => by
    obtain ⟨ih0, ih1⟩ := sashref05_count.mono_l k
    refine ⟨?_, ?_⟩
    · intro y0 y1 y2 y3 y4 y5 y6 y7
      unfold sashref05_count.f
      repeat' first
      | (with_reducible exact ih0 _ _ _ _ _ _ _ _)
      | (with_reducible exact ih1 _ _ _ _ _ _ _ _ _ _ _)
      | (with_reducible exact LeO.refl _)
      | (with_reducible exact LeO.none _)
      | (with_reducible refine LeO.ite ?_ ?_)
      | (with_reducible refine LeO.bind ?_ (fun _ => ?_))
      | exact ih0 _ _ _ _ _ _ _ _
      | exact ih1 _ _ _ _ _ _ _ _ _ _ _
      | exact LeO.none _
      | refine LeO.ite ?_ ?_
      | refine LeO.bind ?_ (fun _ => ?_)
    · intro y0 y1 y2 y3 y4 y5 y6 y7 y8 y9 y10
      unfold sashref05_count.l0
      repeat' first
      | (with_reducible exact ih0 _ _ _ _ _ _ _ _)
      | (with_reducible exact ih1 _ _ _ _ _ _ _ _ _ _ _)
      | (with_reducible exact LeO.refl _)
      | (with_reducible exact LeO.none _)
      | (with_reducible refine LeO.ite ?_ ?_)
      | (with_reducible refine LeO.bind ?_ (fun _ => ?_))
      | exact ih0 _ _ _ _ _ _ _ _
      | exact ih1 _ _ _ _ _ _ _ _ _ _ _
      | exact LeO.none _
      | refine LeO.ite ?_ ?_
      | refine LeO.bind ?_ (fun _ => ?_)
theorem sashref05_count.mono : ∀ a0 a1 a2 a3 a4 a5 a6 a7 k, LeO (sashref05_count.f k a0 a1 a2 a3 a4 a5 a6 a7) (sashref05_count.f (k + 1) a0 a1 a2 a3 a4 a5 a6 a7) := by
  intro a0 a1 a2 a3 a4 a5 a6 a7 k
  obtain ⟨ih0, ih1⟩ := sashref05_count.mono_l k
  exact ih0 a0 a1 a2 a3 a4 a5 a6 a7
set_option maxHeartbeats 8000000 in
set_option maxRecDepth 100000 in
theorem sashref05_count.calls (k : Nat) : ∀ (a0_0 : Int) (a0_1 : Int) (a0_2 : Int) (a0_3 : Int) (a0_4 : Int) (a0_5 : Int) (A0_6 : Option Addr) (c0_6 : Nat) (l0_6 : List (S26)) (a1 : Int) (r : Int) (w : World) (hr0_6 : Kd.C k26 w A0_6 l0_6.length l0_6) (hc0_6 : l0_6.length ≤ c0_6) (h : sashref05_count.f k a0_0 a0_1 a0_2 a0_3 a0_4 a0_5 l0_6 a1 = some r),
    Calls Try.prog 124 #[.agg #[.int .u8 a0_0, .int .i64 a0_1, .int .i64 a0_2, .int .i64 a0_3, .int .i64 a0_4, .int .i64 a0_5, .slice A0_6 l0_6.length c0_6], .int .i64 a1] w fun e w' => e = .returned (.int .i64 r) ∧ Below w.heap.size w w' := by
  induction k using Nat.strongRecOn with
  | _ k ih =>
  intro a0_0 a0_1 a0_2 a0_3 a0_4 a0_5 A0_6 c0_6 l0_6 a1 r w hr0_6 hc0_6 h
  cases k with
  | zero => exact absurd h (by simp [sashref05_count.f])
  | succ k =>
  simp only [sashref05_count.f] at h
  have hu26 := Try.underlying26
  have HR0_6 := Aside0.mk hr0_6
  have HC0_6 := Aside0.mk hc0_6
  clear hr0_6 hc0_6
  have HB := Aside0.mk (Below.refl w.heap.size w)
  have H : (sashref05_count.l0 k a1 1 (l0_6.length : Int) 0 a0_0 a0_1 a0_2 a0_3 a0_4 a0_5 l0_6) = some r := h
  clear h
  have H' := Aside0.mk H
  clear H
  go_enter Try.func124, Try.ntmps124
  go_wp2_with (first | ((with_reducible refine gate_dst (N := 2) rfl ?_); refine box_event ?hg (N := 2) ?hd (cs := #[.int .u8 a0_0, .int .i64 a0_1, .int .i64 a0_2, .int .i64 a0_3, .int .i64 a0_4, .int .i64 a0_5, .slice A0_6 l0_6.length c0_6]) (t := 26) ?hr ?_; (case hd => rfl); (case hg => rfl); (case hr => first | (go_simp; done) | (go_simp; rfl)); intro gb101 hg w3 hbox hb; have n0_ := Aside0.mk (below_step (by repeat (first | (with_reducible first | exact HB.out | apply below_alloc | apply pw_below_drewN | apply below_drew1) | exact HB.out)) hb); have n1_ := Aside0.mk (hbox); have n2_ := Aside0.mk ((by rw [hg]; exact (below_size (by repeat (first | (with_reducible first | exact HB.out | apply below_alloc | apply pw_below_drewN | apply below_drew1) | exact HB.out))) : w.heap.size ≤ gb101)); have n3_ := Aside0.mk ((by rw [hg]; exact (below_size (by repeat (first | (with_reducible first | exact HB.out | apply below_alloc | apply pw_below_drewN | apply below_drew1) | exact HB.out))) : w.heap.size ≤ gb101)); clear HB; have HB := n0_; have BK101 := n1_; have GW101 := n2_; have GE101 := n3_; clear n0_ n1_ n2_ n3_; clear hb hbox hg; have hcz4_0 : w3.cell? ⟨gb101, 0, none⟩ = some (.int .u8 a0_0) := (blk_cell BK101.out 0).trans rfl; have hcz4_1 : w3.cell? ⟨gb101, 1, none⟩ = some (.int .i64 a0_1) := (blk_cell BK101.out 1).trans rfl; have hcz4_2 : w3.cell? ⟨gb101, 2, none⟩ = some (.int .i64 a0_2) := (blk_cell BK101.out 2).trans rfl; have hcz4_3 : w3.cell? ⟨gb101, 3, none⟩ = some (.int .i64 a0_3) := (blk_cell BK101.out 3).trans rfl; have hcz4_4 : w3.cell? ⟨gb101, 4, none⟩ = some (.int .i64 a0_4) := (blk_cell BK101.out 4).trans rfl; have hcz4_5 : w3.cell? ⟨gb101, 5, none⟩ = some (.int .i64 a0_5) := (blk_cell BK101.out 5).trans rfl; have hcz4_6 : w3.cell? ⟨gb101, 6, none⟩ = some (.slice A0_6 l0_6.length c0_6) := (blk_cell BK101.out 6).trans rfl; have hfz4_0 := blk_frozen BK101.out 0; have hfz4_1 := blk_frozen BK101.out 1; have hfz4_2 := blk_frozen BK101.out 2; have hfz4_3 := blk_frozen BK101.out 3; have hfz4_4 := blk_frozen BK101.out 4; have hfz4_5 := blk_frozen BK101.out 5; have hfz4_6 := blk_frozen BK101.out 6))
  go_loopg [5, 10] k (fun kq v5 v10 w' => ∃ (x5_1 : Int) (x10_1 : Int), v5 = .int .i64 x5_1 ∧ v10 = .int .i64 x10_1 ∧ Aside0 (sashref05_count.l0 kq a1 x5_1 (l0_6.length : Int) x10_1 a0_0 a0_1 a0_2 a0_3 a0_4 a0_5 l0_6 = some r) ∧ Aside0 (kq ≤ k) ∧ Aside0 (w'.heap[gb101]? = some (.cells #[.int .u8 a0_0, .int .i64 a0_1, .int .i64 a0_2, .int .i64 a0_3, .int .i64 a0_4, .int .i64 a0_5, (.slice A0_6 l0_6.length c0_6)] 26 (0, 0))) ∧ Aside0 (Below w.heap.size w w'))
  case atStart => exact ⟨(1), (0), (by first | rfl | (simp; done) | (simp [*]; done)), (by first | rfl | (simp; done) | (simp [*]; done)), H', ⟨Nat.le_refl _⟩, ⟨by (with_reducible repeat (first | refine blk_drewN ?_ _ | refine blk_drew ?_ | refine blk_alloc ?_ _)); exact BK101.out⟩, ⟨by repeat (first | (with_reducible first | exact HB.out | apply below_alloc | apply pw_below_drewN | apply below_drew1 | refine below_set ?_ GE101.out) | exact HB.out)⟩⟩
  case round =>
    clear H'
    try clear c1
    try clear p2
    try clear hcz4_0
    try clear hcz4_1
    try clear hcz4_2
    try clear hcz4_3
    try clear hcz4_4
    try clear hcz4_5
    try clear hcz4_6
    try clear hfz4_0
    try clear hfz4_1
    try clear hfz4_2
    try clear hfz4_3
    try clear hfz4_4
    try clear hfz4_5
    try clear hfz4_6
    obtain ⟨x5_1, x10_1, rfl, rfl, HA, HK1, BK101, HB⟩ := hrel
    cases gk with
    | zero => exact absurd HA.out (by simp [sashref05_count.l0])
    | succ k1 =>
      have H := HA.out
      clear HA
      simp only [sashref05_count.l0] at H
      by_cases c5 : x10_1 < (l0_6.length : Int)
      · rw [if_pos c5] at H
        have c5b0 : decide (x10_1 < (l0_6.length : Int)) = true := decide_eq_true c5
        clear c5
        by_cases c6 : x5_1 > a1
        · rw [if_pos c6] at H
          have c6b0 : decide (a1 < x5_1) = true := decide_eq_true c6
          clear c6
          obtain rfl := Option.some.inj H
          go_wp2
          go_ret
          exact ⟨by first | rfl | (simp [errW_none, errW_some] <;> rfl) | (simp [*, errW_none, errW_some] <;> rfl), by repeat (first | (with_reducible first | exact HB.out | apply below_alloc | apply pw_below_drewN | apply below_drew1 | refine below_set ?_ GE101.out) | exact HB.out)⟩
        · rw [if_neg c6] at H
          have c6b0 : decide (a1 < x5_1) = false := decide_eq_false c6
          clear c6
          by_cases c7 : 0 ≤ x10_1
          · rw [if_pos c7] at H
            have c7b0 : decide (0 ≤ x10_1) = true := decide_eq_true c7
            clear c7
            by_cases c8 : x10_1 < (l0_6.length : Int)
            · rw [if_pos c8] at H
              have c8b0 : decide (x10_1 < (l0_6.length : Int)) = true := decide_eq_true c8
              clear c8
              replace H := Option.bind_eq_some_iff.mp H
              obtain ⟨t103, A90, H⟩ := H
              replace H : (sashref05_count.l0 k1 a1 (wrap64 (x5_1 + t103)) (l0_6.length : Int) (wrap64 (x10_1 + 1)) a0_0 a0_1 a0_2 a0_3 a0_4 a0_5 l0_6) = some r := H
              have A9 := Aside0.mk A90
              clear A90
              have H' := Aside0.mk H
              clear H
              have hcz10_0 : wr.cell? ⟨gb101, 0, none⟩ = some (.int .u8 a0_0) := (blk_cell BK101.out 0).trans rfl
              have hcz10_1 : wr.cell? ⟨gb101, 1, none⟩ = some (.int .i64 a0_1) := (blk_cell BK101.out 1).trans rfl
              have hcz10_2 : wr.cell? ⟨gb101, 2, none⟩ = some (.int .i64 a0_2) := (blk_cell BK101.out 2).trans rfl
              have hcz10_3 : wr.cell? ⟨gb101, 3, none⟩ = some (.int .i64 a0_3) := (blk_cell BK101.out 3).trans rfl
              have hcz10_4 : wr.cell? ⟨gb101, 4, none⟩ = some (.int .i64 a0_4) := (blk_cell BK101.out 4).trans rfl
              have hcz10_5 : wr.cell? ⟨gb101, 5, none⟩ = some (.int .i64 a0_5) := (blk_cell BK101.out 5).trans rfl
              have hcz10_6 : wr.cell? ⟨gb101, 6, none⟩ = some (.slice A0_6 l0_6.length c0_6) := (blk_cell BK101.out 6).trans rfl
              have hfz10_0 := blk_frozen BK101.out 0
              have hfz10_1 := blk_frozen BK101.out 1
              have hfz10_2 := blk_frozen BK101.out 2
              have hfz10_3 := blk_frozen BK101.out 3
              have hfz10_4 := blk_frozen BK101.out 4
              have hfz10_5 := blk_frozen BK101.out 5
              have hfz10_6 := blk_frozen BK101.out 6
              have p102 : 0 ≤ (x10_1 : Int) := of_decide_eq_true (by first | (with_reducible assumption) | assumption)
              have q102 : x10_1 < (l0_6.length : Int) := of_decide_eq_true (by first | (with_reducible assumption) | assumption)
              obtain ⟨ad102, A102_6, c102_6, e102, hx102_0, hx102_1, hx102_2, hx102_3, hx102_4, hx102_5, hx102_6, hl102_6, hi102_6⟩ := at_T26 HR0_6.out x10_1 p102 q102
              cases e102
              replace hx102_0 := (HB.out.cell (World.block_lt_of_cell? w _ hx102_0)).trans hx102_0
              replace hx102_1 := (HB.out.cell (World.block_lt_of_cell? w _ hx102_1)).trans hx102_1
              replace hx102_2 := (HB.out.cell (World.block_lt_of_cell? w _ hx102_2)).trans hx102_2
              replace hx102_3 := (HB.out.cell (World.block_lt_of_cell? w _ hx102_3)).trans hx102_3
              replace hx102_4 := (HB.out.cell (World.block_lt_of_cell? w _ hx102_4)).trans hx102_4
              replace hx102_5 := (HB.out.cell (World.block_lt_of_cell? w _ hx102_5)).trans hx102_5
              replace hx102_6 := (HB.out.cell (World.block_lt_of_cell? w _ hx102_6)).trans hx102_6
              have HR102_6 := Aside0.mk hi102_6
              have HC102_6 := Aside0.mk hl102_6
              clear hi102_6 hl102_6
              replace p102 := eq_true p102
              replace q102 := eq_true q102
              go_wp2_with (first | ((with_reducible refine gate_callee (f := 124) rfl ?_); refine goesL_ (some 24) rfl rfl Try.func124 (by kernel_rfl) rfl #[.agg #[.int .u8 ((rd_T26 l0_6 x10_1).f0), .int .i64 ((rd_T26 l0_6 x10_1).f1.f0), .int .i64 ((rd_T26 l0_6 x10_1).f1.f1), .int .i64 ((rd_T26 l0_6 x10_1).f1.f2), .int .i64 ((rd_T26 l0_6 x10_1).f1.f3), .int .i64 ((rd_T26 l0_6 x10_1).f2), .slice A102_6 ((rd_T26 l0_6 x10_1).f3).length c102_6], .int .i64 a1] rfl (by (try simp only [List.map_toArray, List.map_cons, List.map_nil]); first | done | rfl | (simp only [List.length_drop, List.length_take]; rfl)) ?_; (with_reducible refine (ih k1 (by have := HK1.out; omega) ((rd_T26 l0_6 x10_1).f0) ((rd_T26 l0_6 x10_1).f1.f0) ((rd_T26 l0_6 x10_1).f1.f1) ((rd_T26 l0_6 x10_1).f1.f2) ((rd_T26 l0_6 x10_1).f1.f3) ((rd_T26 l0_6 x10_1).f2) _ _ ((rd_T26 l0_6 x10_1).f3) a1 t103 _ ?side1 ?side2 A9.out).mono ?_); (case side1 => repeat (first | exact (Kd.C_below HR102_6.out HB.out) | (with_reducible refine Kd.C_alloc ?_ _) | (with_reducible refine Kd.C_drewN ?_ _) | (with_reducible refine Kd.C_drew ?_))); (case side2 => exact HC102_6.out); rintro e w11 ⟨rfl, hb⟩; refine ⟨_, rfl, ?_⟩; have n0_ := Aside0.mk (blk_below (g := gb101) (o := .cells #[.int .u8 a0_0, .int .i64 a0_1, .int .i64 a0_2, .int .i64 a0_3, .int .i64 a0_4, .int .i64 a0_5, .slice (some ad102) l0_6.length c0_6] 26 (0, 0)) (by (with_reducible repeat (first | refine blk_drewN ?_ _ | refine blk_drew ?_ | refine blk_alloc ?_ _)); exact BK101.out) hb); have n1_ := Aside0.mk (below_step (by repeat (first | (with_reducible first | exact HB.out | apply below_alloc | apply pw_below_drewN | apply below_drew1 | refine below_set ?_ GE101.out) | exact HB.out)) hb); clear BK101; clear HB; have BK101 := n0_; have HB := n1_; clear n0_ n1_; (try clear hb); (try clear hb2); (try clear hk); (try clear hi)))
              go_roundg k1
              case measure => have := HK1.out; omega
              case rel => exact ⟨(wrap64 (x5_1 + t103)), (wrap64 (x10_1 + 1)), (by first | rfl | (simp; done) | (simp [*]; done)), (by first | rfl | (simp; done) | (simp [*]; done)), H', ⟨by have := HK1.out; omega⟩, ⟨by (with_reducible repeat (first | refine blk_drewN ?_ _ | refine blk_drew ?_ | refine blk_alloc ?_ _)); exact BK101.out⟩, ⟨by repeat (first | (with_reducible first | exact HB.out | apply below_alloc | apply pw_below_drewN | apply below_drew1 | refine below_set ?_ GE101.out) | exact HB.out)⟩⟩
            · rw [if_neg c8] at H
              exact absurd H (by simp)
          · rw [if_neg c7] at H
            exact absurd H (by simp)
      · rw [if_neg c5] at H
        have c5b0 : decide (x10_1 < (l0_6.length : Int)) = false := decide_eq_false c5
        clear c5
        obtain rfl := Option.some.inj H
        go_wp2
        go_ret
        exact ⟨by first | rfl | (simp [errW_none, errW_some] <;> rfl) | (simp [*, errW_none, errW_some] <;> rfl), by repeat (first | (with_reducible first | exact HB.out | apply below_alloc | apply pw_below_drewN | apply below_drew1 | refine below_set ?_ GE101.out) | exact HB.out)⟩

end Go.Proofs.Ytfdmfgaiblfbhaa.P
namespace Go.Proofs.Ytfdmfgaiblfbhaa.P
open Go.RowKit Go.Proofs.YtfdmfgaiblfbhaaW.PrintWords Go.Proofs.YtfdmfgaiblfbhaaW.PrintLast Go.Proofs.YtfdmfgaiblfbhaaW.PrintMore
attribute [local go_sem] max2_int min2_int max_two min_two max_three min_three max_four min_four   -- for this text's walks alone
set_option linter.unusedVariables false
set_option linter.unusedSimpArgs false

/-! ### sashref05_Great: function 34 -/
def sashref05_Great.f (k : Nat) (a0_0 : Int) (a0_1 : Int) (a0_2 : Int) (a0_3 : Int) (a0_4 : Int) (a0_5 : Int) (l0_6 : List (S26)) : Option (Bool) := (sashref05_count.f k a0_0 a0_1 a0_2 a0_3 a0_4 a0_5 l0_6 200).bind fun t105 => (some (decide (t105 > 200)))
theorem sashref05_Great.mono : ∀ a0 a1 a2 a3 a4 a5 a6 k, LeO (sashref05_Great.f k a0 a1 a2 a3 a4 a5 a6) (sashref05_Great.f (k + 1) a0 a1 a2 a3 a4 a5 a6) := by
  intro a0 a1 a2 a3 a4 a5 a6 k
  unfold sashref05_Great.f
  repeat' first
      | (with_reducible exact sashref05_count.mono _ _ _ _ _ _ _ _ _)
      | (with_reducible exact LeO.refl _)
      | (with_reducible exact LeO.none _)
      | (with_reducible refine LeO.ite ?_ ?_)
      | (with_reducible refine LeO.bind ?_ (fun _ => ?_))
      | exact sashref05_count.mono _ _ _ _ _ _ _ _ _
      | exact LeO.none _
      | refine LeO.ite ?_ ?_
      | refine LeO.bind ?_ (fun _ => ?_)
set_option maxHeartbeats 8000000 in
set_option maxRecDepth 100000 in
theorem sashref05_Great.calls (k : Nat) (a0_0 : Int) (a0_1 : Int) (a0_2 : Int) (a0_3 : Int) (a0_4 : Int) (a0_5 : Int) (A0_6 : Option Addr) (c0_6 : Nat) (l0_6 : List (S26)) (r : Bool) (w : World) (hr0_6 : Kd.C k26 w A0_6 l0_6.length l0_6) (hc0_6 : l0_6.length ≤ c0_6) (h : sashref05_Great.f k a0_0 a0_1 a0_2 a0_3 a0_4 a0_5 l0_6 = some r) :
    Calls Try.prog 34 #[.agg #[.int .u8 a0_0, .int .i64 a0_1, .int .i64 a0_2, .int .i64 a0_3, .int .i64 a0_4, .int .i64 a0_5, .slice A0_6 l0_6.length c0_6]] w fun e w' => e = .returned (.bool r) ∧ Below w.heap.size w w' := by
  have hu26 := Try.underlying26
  have HR0_6 := Aside0.mk hr0_6
  have HC0_6 := Aside0.mk hc0_6
  clear hr0_6 hc0_6
  have HB := Aside0.mk (Below.refl w.heap.size w)
  have H : ((sashref05_count.f k a0_0 a0_1 a0_2 a0_3 a0_4 a0_5 l0_6 200).bind fun t105 => (some (decide (t105 > 200)))) = some r := h
  clear h
  replace H := Option.bind_eq_some_iff.mp H
  obtain ⟨t105, A20, H⟩ := H
  replace H : (some (decide (t105 > 200))) = some r := H
  have A2 := Aside0.mk A20
  clear A20
  obtain rfl := Option.some.inj H
  go_enter Try.func34, Try.ntmps34
  go_wp2_with (first | ((with_reducible refine gate_dst (N := 1) rfl ?_); refine box_event ?hg (N := 1) ?hd (cs := #[.int .u8 a0_0, .int .i64 a0_1, .int .i64 a0_2, .int .i64 a0_3, .int .i64 a0_4, .int .i64 a0_5, .slice A0_6 l0_6.length c0_6]) (t := 26) ?hr ?_; (case hd => rfl); (case hg => rfl); (case hr => first | (go_simp; done) | (go_simp; rfl)); intro gb104 hg w3 hbox hb; have n0_ := Aside0.mk (below_step (by repeat (first | (with_reducible first | exact HB.out | apply below_alloc | apply pw_below_drewN | apply below_drew1) | exact HB.out)) hb); have n1_ := Aside0.mk (hbox); have n2_ := Aside0.mk ((by rw [hg]; exact (below_size (by repeat (first | (with_reducible first | exact HB.out | apply below_alloc | apply pw_below_drewN | apply below_drew1) | exact HB.out))) : w.heap.size ≤ gb104)); have n3_ := Aside0.mk ((by rw [hg]; exact (below_size (by repeat (first | (with_reducible first | exact HB.out | apply below_alloc | apply pw_below_drewN | apply below_drew1) | exact HB.out))) : w.heap.size ≤ gb104)); clear HB; have HB := n0_; have BK104 := n1_; have GW104 := n2_; have GE104 := n3_; clear n0_ n1_ n2_ n3_; clear hb hbox hg; have hcz4_0 : w3.cell? ⟨gb104, 0, none⟩ = some (.int .u8 a0_0) := (blk_cell BK104.out 0).trans rfl; have hcz4_1 : w3.cell? ⟨gb104, 1, none⟩ = some (.int .i64 a0_1) := (blk_cell BK104.out 1).trans rfl; have hcz4_2 : w3.cell? ⟨gb104, 2, none⟩ = some (.int .i64 a0_2) := (blk_cell BK104.out 2).trans rfl; have hcz4_3 : w3.cell? ⟨gb104, 3, none⟩ = some (.int .i64 a0_3) := (blk_cell BK104.out 3).trans rfl; have hcz4_4 : w3.cell? ⟨gb104, 4, none⟩ = some (.int .i64 a0_4) := (blk_cell BK104.out 4).trans rfl; have hcz4_5 : w3.cell? ⟨gb104, 5, none⟩ = some (.int .i64 a0_5) := (blk_cell BK104.out 5).trans rfl; have hcz4_6 : w3.cell? ⟨gb104, 6, none⟩ = some (.slice A0_6 l0_6.length c0_6) := (blk_cell BK104.out 6).trans rfl; have hfz4_0 := blk_frozen BK104.out 0; have hfz4_1 := blk_frozen BK104.out 1; have hfz4_2 := blk_frozen BK104.out 2; have hfz4_3 := blk_frozen BK104.out 3; have hfz4_4 := blk_frozen BK104.out 4; have hfz4_5 := blk_frozen BK104.out 5; have hfz4_6 := blk_frozen BK104.out 6) | ((with_reducible refine gate_callee (f := 124) rfl ?_); refine goesL_ (some 4) rfl rfl Try.func124 (by kernel_rfl) rfl #[.agg #[.int .u8 a0_0, .int .i64 a0_1, .int .i64 a0_2, .int .i64 a0_3, .int .i64 a0_4, .int .i64 a0_5, .slice A0_6 l0_6.length c0_6], .int .i64 200] rfl (by (try simp only [List.map_toArray, List.map_cons, List.map_nil]); first | done | rfl | (simp only [List.length_drop, List.length_take]; rfl)) ?_; (with_reducible refine (sashref05_count.calls k a0_0 a0_1 a0_2 a0_3 a0_4 a0_5 _ _ l0_6 200 t105 _ ?side1 ?side2 A2.out).mono ?_); (case side1 => repeat (first | exact (Kd.C_below HR0_6.out HB.out) | (with_reducible refine Kd.C_alloc ?_ _) | (with_reducible refine Kd.C_drewN ?_ _) | (with_reducible refine Kd.C_drew ?_))); (case side2 => exact HC0_6.out); rintro e w5 ⟨rfl, hb⟩; refine ⟨_, rfl, ?_⟩; have n0_ := Aside0.mk (blk_below (g := gb104) (o := .cells #[.int .u8 a0_0, .int .i64 a0_1, .int .i64 a0_2, .int .i64 a0_3, .int .i64 a0_4, .int .i64 a0_5, .slice A0_6 l0_6.length c0_6] 26 (0, 0)) (by (with_reducible repeat (first | refine blk_drewN ?_ _ | refine blk_drew ?_ | refine blk_alloc ?_ _)); exact BK104.out) hb); have n1_ := Aside0.mk (below_step (by repeat (first | (with_reducible first | exact HB.out | apply below_alloc | apply pw_below_drewN | apply below_drew1 | refine below_set ?_ GE104.out) | exact HB.out)) hb); clear BK104; clear HB; have BK104 := n0_; have HB := n1_; clear n0_ n1_; (try clear hb); (try clear hb2); (try clear hk); (try clear hi)))
  go_ret
  exact ⟨by first | rfl | (simp [errW_none, errW_some] <;> rfl) | (simp [*, errW_none, errW_some] <;> rfl), by repeat (first | (with_reducible first | exact HB.out | apply below_alloc | apply pw_below_drewN | apply below_drew1 | refine below_set ?_ GE104.out) | exact HB.out)⟩

end Go.Proofs.Ytfdmfgaiblfbhaa.P
namespace Go.Proofs.Ytfdmfgaiblfbhaa.P
open Go.RowKit Go.Proofs.YtfdmfgaiblfbhaaW.PrintWords Go.Proofs.YtfdmfgaiblfbhaaW.PrintLast Go.Proofs.YtfdmfgaiblfbhaaW.PrintMore
attribute [local go_sem] max2_int min2_int max_two min_two max_three min_three max_four min_four   -- for this text's walks alone
set_option linter.unusedVariables false
set_option linter.unusedSimpArgs false

/-! ### sashref05_GreatAll: function 74 -/
def sashref05_GreatAll.l0 : Nat → List (S26) → Int → Int → Option (Bool)
  | 0, _, _, _ => none
  | k + 1, x0, x8, x9 => if x9 < x8 then (if 0 ≤ x9 then (if x9 < (x0.length : Int) then ((sashref05_Great.f k ((rd_T26 x0 x9).f0) ((rd_T26 x0 x9).f1.f0) ((rd_T26 x0 x9).f1.f1) ((rd_T26 x0 x9).f1.f2) ((rd_T26 x0 x9).f1.f3) ((rd_T26 x0 x9).f2) ((rd_T26 x0 x9).f3)).bind fun t825 => (if t825 = true then (some true) else (sashref05_GreatAll.l0 k x0 x8 (wrap64 (x9 + 1))))) else (none)) else (none)) else (some false)
def sashref05_GreatAll.f (k : Nat) (l0 : List (S26)) : Option (Bool) := if (l0.length : Int) > 20 then (some true) else (sashref05_GreatAll.l0 k l0 (l0.length : Int) 0)
theorem sashref05_GreatAll.mono_l : ∀ k, (∀ y0 y1 y2, LeO (sashref05_GreatAll.l0 k y0 y1 y2) (sashref05_GreatAll.l0 (k + 1) y0 y1 y2))
  | 0 => fun _ _ _ r h => by simp [sashref05_GreatAll.l0] at h
  | k + 1 => by
    have ih0 := sashref05_GreatAll.mono_l k
    · intro y0 y1 y2
      unfold sashref05_GreatAll.l0
      repeat' first
      | (with_reducible exact ih0 _ _ _)
      | (with_reducible exact sashref05_Great.mono _ _ _ _ _ _ _ _)
      | (with_reducible exact LeO.refl _)
      | (with_reducible exact LeO.none _)
      | (with_reducible refine LeO.ite ?_ ?_)
      | (with_reducible refine LeO.bind ?_ (fun _ => ?_))
      | exact ih0 _ _ _
      | exact sashref05_Great.mono _ _ _ _ _ _ _ _
      | exact LeO.none _
      | refine LeO.ite ?_ ?_
      | refine LeO.bind ?_ (fun _ => ?_)
theorem sashref05_GreatAll.mono : ∀ a0 k, LeO (sashref05_GreatAll.f k a0) (sashref05_GreatAll.f (k + 1) a0) := by
  intro a0 k
  have ih0 := sashref05_GreatAll.mono_l k
  unfold sashref05_GreatAll.f
  repeat' first
      | (with_reducible exact ih0 _ _ _)
      | (with_reducible exact sashref05_Great.mono _ _ _ _ _ _ _ _)
      | (with_reducible exact LeO.refl _)
      | (with_reducible exact LeO.none _)
      | (with_reducible refine LeO.ite ?_ ?_)
      | (with_reducible refine LeO.bind ?_ (fun _ => ?_))
      | exact ih0 _ _ _
      | exact sashref05_Great.mono _ _ _ _ _ _ _ _
      | exact LeO.none _
      | refine LeO.ite ?_ ?_
      | refine LeO.bind ?_ (fun _ => ?_)
set_option maxHeartbeats 8000000 in
set_option maxRecDepth 100000 in
theorem sashref05_GreatAll.calls (k : Nat) (A0 : Option Addr) (c0 : Nat) (l0 : List (S26)) (r : Bool) (w : World) (hr0 : Kd.C k26 w A0 l0.length l0) (hc0 : l0.length ≤ c0) (h : sashref05_GreatAll.f k l0 = some r) :
    Calls Try.prog 74 #[.slice A0 l0.length c0] w fun e w' => e = .returned (.bool r) ∧ Below w.heap.size w w' := by
  have hu26 := Try.underlying26
  have HR0 := Aside0.mk hr0
  have HC0 := Aside0.mk hc0
  clear hr0 hc0
  have HB := Aside0.mk (Below.refl w.heap.size w)
  have H : (if (l0.length : Int) > 20 then (some true) else (sashref05_GreatAll.l0 k l0 (l0.length : Int) 0)) = some r := h
  clear h
  by_cases c2 : (l0.length : Int) > 20
  · rw [if_pos c2] at H
    have c2b0 : decide (20 < (l0.length : Int)) = true := decide_eq_true c2
    have c2b1 : decide (20 < l0.length) = true := decide_eq_true (by omega)
    clear c2
    obtain rfl := Option.some.inj H
    go_enter Try.func74, Try.ntmps74
    go_wp2
    go_ret
    exact ⟨by first | rfl | (simp [errW_none, errW_some] <;> rfl) | (simp [*, errW_none, errW_some] <;> rfl), by repeat (first | (with_reducible first | exact HB.out | apply below_alloc | apply pw_below_drewN | apply below_drew1) | exact HB.out)⟩
  · rw [if_neg c2] at H
    have c2b0 : decide (20 < (l0.length : Int)) = false := decide_eq_false c2
    have c2b1 : decide (20 < l0.length) = false := decide_eq_false (by omega)
    clear c2
    have H' := Aside0.mk H
    clear H
    go_enter Try.func74, Try.ntmps74
    go_wp2
    go_loopg [9] k (fun kq v9 w' => ∃ (x9_1 : Int), v9 = .int .i64 x9_1 ∧ Aside0 (sashref05_GreatAll.l0 kq l0 (l0.length : Int) x9_1 = some r) ∧ Aside0 (kq ≤ k) ∧ Aside0 (Below w.heap.size w w'))
    case atStart => exact ⟨(0), (by first | rfl | (simp; done) | (simp [*]; done)), H', ⟨Nat.le_refl _⟩, ⟨by repeat (first | (with_reducible first | exact HB.out | apply below_alloc | apply pw_below_drewN | apply below_drew1) | exact HB.out)⟩⟩
    case round =>
      clear H'
      try clear c2
      try clear c2b0
      try clear c2b1
      try clear p2
      obtain ⟨x9_1, rfl, HA, HK1, HB⟩ := hrel
      cases gk with
      | zero => exact absurd HA.out (by simp [sashref05_GreatAll.l0])
      | succ k1 =>
        have H := HA.out
        clear HA
        simp only [sashref05_GreatAll.l0] at H
        by_cases c3 : x9_1 < (l0.length : Int)
        · rw [if_pos c3] at H
          have c3b0 : decide (x9_1 < (l0.length : Int)) = true := decide_eq_true c3
          clear c3
          by_cases c4 : 0 ≤ x9_1
          · rw [if_pos c4] at H
            have c4b0 : decide (0 ≤ x9_1) = true := decide_eq_true c4
            clear c4
            by_cases c5 : x9_1 < (l0.length : Int)
            · rw [if_pos c5] at H
              have c5b0 : decide (x9_1 < (l0.length : Int)) = true := decide_eq_true c5
              clear c5
              replace H := Option.bind_eq_some_iff.mp H
              obtain ⟨t825, A60, H⟩ := H
              replace H : (if t825 = true then (some true) else (sashref05_GreatAll.l0 k1 l0 (l0.length : Int) (wrap64 (x9_1 + 1)))) = some r := H
              have A6 := Aside0.mk A60
              clear A60
              by_cases c7 : t825 = true
              · subst c7
                have H1 : (some true) = some r := by rw [if_pos rfl] at H; exact H
                clear H
                have H := H1
                clear H1
                obtain rfl := Option.some.inj H
                have p824 : 0 ≤ (x9_1 : Int) := of_decide_eq_true (by first | (with_reducible assumption) | assumption)
                have q824 : x9_1 < (l0.length : Int) := of_decide_eq_true (by first | (with_reducible assumption) | assumption)
                obtain ⟨ad824, A824_6, c824_6, e824, hx824_0, hx824_1, hx824_2, hx824_3, hx824_4, hx824_5, hx824_6, hl824_6, hi824_6⟩ := at_T26 HR0.out x9_1 p824 q824
                cases e824
                replace hx824_0 := (HB.out.cell (World.block_lt_of_cell? w _ hx824_0)).trans hx824_0
                replace hx824_1 := (HB.out.cell (World.block_lt_of_cell? w _ hx824_1)).trans hx824_1
                replace hx824_2 := (HB.out.cell (World.block_lt_of_cell? w _ hx824_2)).trans hx824_2
                replace hx824_3 := (HB.out.cell (World.block_lt_of_cell? w _ hx824_3)).trans hx824_3
                replace hx824_4 := (HB.out.cell (World.block_lt_of_cell? w _ hx824_4)).trans hx824_4
                replace hx824_5 := (HB.out.cell (World.block_lt_of_cell? w _ hx824_5)).trans hx824_5
                replace hx824_6 := (HB.out.cell (World.block_lt_of_cell? w _ hx824_6)).trans hx824_6
                have HR824_6 := Aside0.mk hi824_6
                have HC824_6 := Aside0.mk hl824_6
                clear hi824_6 hl824_6
                replace p824 := eq_true p824
                replace q824 := eq_true q824
                go_wp2_with (first | ((with_reducible refine gate_callee (f := 34) rfl ?_); refine goesL_ (some 16) rfl rfl Try.func34 (by kernel_rfl) rfl #[.agg #[.int .u8 ((rd_T26 l0 x9_1).f0), .int .i64 ((rd_T26 l0 x9_1).f1.f0), .int .i64 ((rd_T26 l0 x9_1).f1.f1), .int .i64 ((rd_T26 l0 x9_1).f1.f2), .int .i64 ((rd_T26 l0 x9_1).f1.f3), .int .i64 ((rd_T26 l0 x9_1).f2), .slice A824_6 ((rd_T26 l0 x9_1).f3).length c824_6]] rfl (by (try simp only [List.map_toArray, List.map_cons, List.map_nil]); first | done | rfl | (simp only [List.length_drop, List.length_take]; rfl)) ?_; (with_reducible refine (sashref05_Great.calls k1 ((rd_T26 l0 x9_1).f0) ((rd_T26 l0 x9_1).f1.f0) ((rd_T26 l0 x9_1).f1.f1) ((rd_T26 l0 x9_1).f1.f2) ((rd_T26 l0 x9_1).f1.f3) ((rd_T26 l0 x9_1).f2) _ _ ((rd_T26 l0 x9_1).f3) true _ ?side1 ?side2 A6.out).mono ?_); (case side1 => repeat (first | exact (Kd.C_below HR824_6.out HB.out) | (with_reducible refine Kd.C_alloc ?_ _) | (with_reducible refine Kd.C_drewN ?_ _) | (with_reducible refine Kd.C_drew ?_))); (case side2 => exact HC824_6.out); rintro e w8 ⟨rfl, hb⟩; refine ⟨_, rfl, ?_⟩; have n0_ := Aside0.mk (below_step (by repeat (first | (with_reducible first | exact HB.out | apply below_alloc | apply pw_below_drewN | apply below_drew1) | exact HB.out)) hb); clear HB; have HB := n0_; clear n0_; (try clear hb); (try clear hb2); (try clear hk); (try clear hi)))
                go_ret
                exact ⟨by first | rfl | (simp [errW_none, errW_some] <;> rfl) | (simp [*, errW_none, errW_some] <;> rfl), by repeat (first | (with_reducible first | exact HB.out | apply below_alloc | apply pw_below_drewN | apply below_drew1) | exact HB.out)⟩
              · replace c7 := Bool.eq_false_iff.mpr c7
                subst c7
                have H1 : (sashref05_GreatAll.l0 k1 l0 (l0.length : Int) (wrap64 (x9_1 + 1))) = some r := by rw [if_neg (show ¬ (false = true) by decide)] at H; exact H
                clear H
                have H := H1
                clear H1
                have H' := Aside0.mk H
                clear H
                have p824 : 0 ≤ (x9_1 : Int) := of_decide_eq_true (by first | (with_reducible assumption) | assumption)
                have q824 : x9_1 < (l0.length : Int) := of_decide_eq_true (by first | (with_reducible assumption) | assumption)
                obtain ⟨ad824, A824_6, c824_6, e824, hx824_0, hx824_1, hx824_2, hx824_3, hx824_4, hx824_5, hx824_6, hl824_6, hi824_6⟩ := at_T26 HR0.out x9_1 p824 q824
                cases e824
                replace hx824_0 := (HB.out.cell (World.block_lt_of_cell? w _ hx824_0)).trans hx824_0
                replace hx824_1 := (HB.out.cell (World.block_lt_of_cell? w _ hx824_1)).trans hx824_1
                replace hx824_2 := (HB.out.cell (World.block_lt_of_cell? w _ hx824_2)).trans hx824_2
                replace hx824_3 := (HB.out.cell (World.block_lt_of_cell? w _ hx824_3)).trans hx824_3
                replace hx824_4 := (HB.out.cell (World.block_lt_of_cell? w _ hx824_4)).trans hx824_4
                replace hx824_5 := (HB.out.cell (World.block_lt_of_cell? w _ hx824_5)).trans hx824_5
                replace hx824_6 := (HB.out.cell (World.block_lt_of_cell? w _ hx824_6)).trans hx824_6
                have HR824_6 := Aside0.mk hi824_6
                have HC824_6 := Aside0.mk hl824_6
                clear hi824_6 hl824_6
                replace p824 := eq_true p824
                replace q824 := eq_true q824
                go_wp2_with (first | ((with_reducible refine gate_callee (f := 34) rfl ?_); refine goesL_ (some 16) rfl rfl Try.func34 (by kernel_rfl) rfl #[.agg #[.int .u8 ((rd_T26 l0 x9_1).f0), .int .i64 ((rd_T26 l0 x9_1).f1.f0), .int .i64 ((rd_T26 l0 x9_1).f1.f1), .int .i64 ((rd_T26 l0 x9_1).f1.f2), .int .i64 ((rd_T26 l0 x9_1).f1.f3), .int .i64 ((rd_T26 l0 x9_1).f2), .slice A824_6 ((rd_T26 l0 x9_1).f3).length c824_6]] rfl (by (try simp only [List.map_toArray, List.map_cons, List.map_nil]); first | done | rfl | (simp only [List.length_drop, List.length_take]; rfl)) ?_; (with_reducible refine (sashref05_Great.calls k1 ((rd_T26 l0 x9_1).f0) ((rd_T26 l0 x9_1).f1.f0) ((rd_T26 l0 x9_1).f1.f1) ((rd_T26 l0 x9_1).f1.f2) ((rd_T26 l0 x9_1).f1.f3) ((rd_T26 l0 x9_1).f2) _ _ ((rd_T26 l0 x9_1).f3) false _ ?side1 ?side2 A6.out).mono ?_); (case side1 => repeat (first | exact (Kd.C_below HR824_6.out HB.out) | (with_reducible refine Kd.C_alloc ?_ _) | (with_reducible refine Kd.C_drewN ?_ _) | (with_reducible refine Kd.C_drew ?_))); (case side2 => exact HC824_6.out); rintro e w9 ⟨rfl, hb⟩; refine ⟨_, rfl, ?_⟩; have n0_ := Aside0.mk (below_step (by repeat (first | (with_reducible first | exact HB.out | apply below_alloc | apply pw_below_drewN | apply below_drew1) | exact HB.out)) hb); clear HB; have HB := n0_; clear n0_; (try clear hb); (try clear hb2); (try clear hk); (try clear hi)))
                go_roundg k1
                case measure => have := HK1.out; omega
                case rel => exact ⟨(wrap64 (x9_1 + 1)), (by first | rfl | (simp; done) | (simp [*]; done)), H', ⟨by have := HK1.out; omega⟩, ⟨by repeat (first | (with_reducible first | exact HB.out | apply below_alloc | apply pw_below_drewN | apply below_drew1) | exact HB.out)⟩⟩
            · rw [if_neg c5] at H
              exact absurd H (by simp)
          · rw [if_neg c4] at H
            exact absurd H (by simp)
        · rw [if_neg c3] at H
          have c3b0 : decide (x9_1 < (l0.length : Int)) = false := decide_eq_false c3
          clear c3
          obtain rfl := Option.some.inj H
          go_wp2
          go_ret
          exact ⟨by first | rfl | (simp [errW_none, errW_some] <;> rfl) | (simp [*, errW_none, errW_some] <;> rfl), by repeat (first | (with_reducible first | exact HB.out | apply below_alloc | apply pw_below_drewN | apply below_drew1) | exact HB.out)⟩

end Go.Proofs.Ytfdmfgaiblfbhaa.P
/- The layout of slices.Insert at []int in this program, for the library's contract. -/
namespace Go.Proofs.Ytfdmfgaiblfbhaa.P
open Go.Shelf
def ren21 : Ren := ⟨fun f => match f with | 21 => 150 | 27 => 181 | 28 => 182 | 35 => 198 | 39 => 208 | n => n, fun t => match t with | 22 => 41 | n => n, fun g => g⟩
theorem lay21 : Lays2.n21 Try.prog ren21 where
  mixed := by kernel_rfl
  f21 := Try.func150
  f27 := Try.func181
  f28 := Try.func182
  f35 := Try.func198
  f39 := Try.func208
  t0 := Try.underlying0
  a0 := fun w => by kernel_rfl
  z0 := fun w => by kernel_rfl
  v0 := fun w => by kernel_rfl
  t3 := Try.underlying3
  a3 := fun w => by kernel_rfl
  z3 := fun w => by kernel_rfl
  v3 := fun w => by kernel_rfl
  t4 := Try.underlying4
  a4 := fun w => by kernel_rfl
  z4 := fun w => by kernel_rfl
  v4 := fun w => by kernel_rfl
  t22 := Try.underlying41
  a22 := fun w => by kernel_rfl
  z22 := fun w => by kernel_rfl
  v22 := fun w => by kernel_rfl
  i3 := by kernel_rfl
end Go.Proofs.Ytfdmfgaiblfbhaa.P
/- A store into a block of one's own, as an event: the world behind it is a letter. -/
namespace Go.Proofs.Ytfdmfgaiblfbhaa.P
open Go.RowKit Go.Proofs.YtfdmfgaiblfbhaaW.PrintWords Go.Proofs.YtfdmfgaiblfbhaaW.PrintLast Go.Proofs.YtfdmfgaiblfbhaaW.PrintMore
section
variable {P : Program} {ops : Array Oper} {rest : List Oper} {o : Oper} {a : Act} {Q : Exit → Act → World → Prop}
theorem grown_below {w0 W w1 : World} {g base : Nat} (HB : Below base w0 W) (hg : W.grownBy w1 (some g)) (hbg : base ≤ g) (hs : base ≤ W.heap.size) : Below base w0 w1 := HB.trans ⟨hg.os, hg.tape, hg.output, hg.size, fun k hk => hg.block k (by omega) (fun he => by injection he with he; omega)⟩
/-- What a store into block g leaves. -/
theorem box_cells {W : World} {g j : Nat} {cs cs' : Array Value} {t0 : TypeId} {seg : List Value} (hb : W.heap[g]? = some (.cells cs t0 (0, 0))) (hj : j + seg.length ≤ cs.size) (he : cs.toList.take j ++ seg ++ cs.toList.drop (j + seg.length) = cs'.toList) :
    (W.setCells g j seg).heap[g]? = some (.cells cs' t0 (0, 0)) ∧ W.grownBy (W.setCells g j seg) (some g) := by
  obtain ⟨cur', h3, h4, h5⟩ := setCells_row seg j W cs hb hj
  obtain ⟨s1, s2, s3, s4⟩ := setCells_same g seg j W
  have hc : cur' = cs' := Array.toList_inj.1 (h5.trans he)
  subst hc
  exact ⟨h3, ⟨s1, s2, s3, by rw [s4]; exact Nat.le_refl _, fun k _ hk => setCells_far seg _ k (fun e => hk (by rw [e]))⟩⟩
theorem box_store {W w0 : World} (hN : o.dst = none) (hgd : o.guard = none) (t : TypeId) (p x : Operand) (ho : o.op = .store t p x) {g j base : Nat} {cs : Array Value} (cs' : Array Value) {t0 : TypeId} {u : Value} {seg : List Value}
    (haddr : a.eval p = .pointer (some ⟨g, j, none⟩)) (hx : a.eval x = u) (hu : u.cells.toList = seg) (ht : (P.info? t).map (·.size) = some seg.length) (h1 : ∀ q ∈ seg, q.oneCell' = true)
    (hb : W.heap[g]? = some (.cells cs t0 (0, 0))) (hj : j + seg.length ≤ cs.size) (he : cs.toList.take j ++ seg ++ cs.toList.drop (j + seg.length) = cs'.toList) (HB : Below base w0 W) (hbs : base ≤ W.heap.size) (hbg : base ≤ g)
    (h : ∀ w1, w1.heap[g]? = some (.cells cs' t0 (0, 0)) → Below base w0 w1 → W.grownBy w1 (some g) → wpList P ops Q rest a w1) : wpList P ops Q (o :: rest) a W := by
  obtain ⟨h2, h3⟩ := box_cells hb hj he
  refine wpList_plain hgd fun K hK => ?_
  have hrun := run_store_run (P := P) t u seg hb hu ht hj h1
  unfold Oper.wp execOp
  simp only [ho, haddr, hx, Sem.run_bind, Sem.run_pure, Result.andThen_ok, hrun]
  show K (a.put o.dst undef) _
  rw [hN]
  exact hK a _ (h _ h2 (grown_below HB h3 hbg hbs) h3)
theorem store_exec {W : World} (t : TypeId) (p x : Operand) (ho : o.op = .store t p x) {g j : Nat} {cs : Array Value} {t0 : TypeId} {u : Value} {seg : List Value}
    (haddr : a.eval p = .pointer (some ⟨g, j, none⟩)) (hx : a.eval x = u) (hu : u.cells.toList = seg) (ht : (P.info? t).map (·.size) = some seg.length) (h1 : ∀ q ∈ seg, q.oneCell' = true)
    (hb : W.heap[g]? = some (.cells cs t0 (0, 0))) (hj : j + seg.length ≤ cs.size) : (execOp a.eval o).run P W = .ok .skip (W.setCells g j seg) := by
  have hrun := run_store_run (P := P) t u seg hb hu ht hj h1
  unfold execOp
  simp only [ho, haddr, hx, Sem.run_bind, Sem.run_pure, Result.andThen_ok, hrun]
end
end Go.Proofs.Ytfdmfgaiblfbhaa.P
/- The contract of slices.Insert at []int, of one number ahead of a row of the call's own, by the library's own contract. Condition: at most 1000000 numbers. -/
namespace Go.Proofs.Ytfdmfgaiblfbhaa.P
open Go.RowKit Go.Shelf Go.Proofs.YtfdmfgaiblfbhaaW.PrintWords Go.Proofs.YtfdmfgaiblfbhaaW.PrintLast Go.Proofs.YtfdmfgaiblfbhaaW.PrintMore

theorem zc_size (n : Nat) : (Builtin.zeroCells (Value.int .i64 0).cells n).size = n := by simp [Builtin.zeroCells, Value.cells]
theorem drew_below {w w1 : World} {B : Nat} (h : Below B w.drew w1) : Below B w w1 := ⟨h.os, h.tape.trans rfl, h.output, h.size, h.block⟩
set_option maxHeartbeats 1000000 in
theorem ins150 (w : World) (base : Nat) (hbase : base ≤ w.heap.size) (v : Value) (xs : List Int) (x : Int) (vb vc : Nat) (hs : w.ownsRow base 3 1 v xs.length (encs (Value.int .i64) xs)) (hv : w.heap[vb]? = some (.cells #[.int .i64 x] 3 (0, 0))) (hne : v.ownBlock ≠ some vb) (hlen : xs.length ≤ 1000000) :
    Calls Try.prog 150 #[v, .int .i64 0, .slice (some ⟨vb, 0, none⟩) 1 vc] w fun e w' => ∃ v', e = .returned v' ∧ w'.ownsRow base 3 1 v' (x :: xs).length (encs (Value.int .i64) (x :: xs)) ∧ Below base w w' := by
  have hvs : ∀ j u, [Value.int .i64 x][j]? = some u → w.cell? ⟨vb, 0 + j, none⟩ = some u := by
    intro j u hj
    cases j with
    | zero => rw [blk_cell hv 0]; exact hj
    | succ j => simp at hj
  have h1v : ∀ u ∈ [Value.int .i64 x], u.oneCell' = true := by simp [Value.oneCell']
  have h1c : ∀ u ∈ encs (Value.int .i64) xs, u.oneCell' = true := by
    intro u hu
    obtain ⟨i, _, rfl⟩ := List.mem_map.1 hu
    rfl
  obtain ⟨hl, hcase⟩ := hs
  rcases hcase with ⟨rfl, h0⟩ | ⟨g, cap, cur, rfl, hbg, hh, hnc, hcm, hcs, htk⟩
  · obtain rfl : xs = [] := List.eq_nil_of_length_eq_zero h0
    refine (Any2.slices_Insert_int_end_grow lay21 none 0 0 vb 0 1 vc [] [.int .i64 x] w (by omega) (by omega) (by omega) (by omega) rfl rfl (fun _ => rfl) (fun a h => by cases h) hvs h1v).mono ?_
    rintro e w' ⟨rfl, rfl⟩
    have hg := grownCap_ge w (0 + 1) 0 3
    have hg2 := grownCap_le_maxLen w (0 + 1) 0 3 (by unfold maxLen; omega)
    refine ⟨_, rfl, ⟨rfl, .inr ⟨w.heap.size, _, _, rfl, hbase, heap_alloc_new w.drew _, hg, hg2, ?_, ?_⟩⟩, drew_below ((Below.refl base w.drew).alloc hbase _)⟩
    · rw [Array.size_append, zc_size]
      show 1 + (grownCap w (0 + 1) 0 3 - (0 + 1)) = grownCap w (0 + 1) 0 3 * 1
      omega
    · simp [encs]
  · have hcl : (encs (Value.int .i64) xs).length = xs.length := encs_length xs
    have hlt := blk_lt hh
    have hgv : vb ≠ g := fun e => hne (by rw [e]; rfl)
    have hcells : ∀ j u, (encs (Value.int .i64) xs)[j]? = some u → w.cell? ⟨g, 0 + j, none⟩ = some u := by
      intro j u hj
      rw [blk_cell hh, Nat.zero_add, ← Array.getElem?_toList]
      rw [← htk, Nat.mul_one, List.getElem?_take] at hj
      split at hj
      · exact hj
      · cases hj
    have hsp : ∀ j, j < cap → (w.cell? ⟨g, 0 + j, none⟩).isSome = true := by
      intro j hj
      rw [blk_cell hh, Nat.zero_add, Array.getElem?_eq_getElem (by omega)]
      rfl
    have hfz : ∀ j, w.frozen? ⟨g, 0 + j, none⟩ = false := fun j => blk_frozen hh _
    by_cases h0 : xs.length = 0
    · obtain rfl : xs = [] := List.eq_nil_of_length_eq_zero h0
      by_cases hr : 0 + 1 ≤ cap
      · refine (Any2.slices_Insert_int_end_room lay21 g 0 0 cap vb 0 1 vc [.int .i64 x] w (by omega) hr (by unfold maxLen at hcm; omega) rfl (fun j hj => by rw [Nat.add_assoc]; exact hsp (0 + j) (by omega)) (fun j _ => by rw [Nat.add_assoc]; exact hfz (0 + j)) hvs h1v).mono ?_
        rintro e w' ⟨rfl, rfl⟩
        obtain ⟨cur', h3, h4, h5⟩ := setCells_row [Value.int .i64 x] (0 + 0) w cur hh (by simp; omega)
        obtain ⟨_, hgr⟩ := box_cells hh (show (0 + 0) + [Value.int .i64 x].length ≤ cur.size by simp; omega) (cs' := cur') h5.symm
        refine ⟨_, rfl, ⟨rfl, .inr ⟨g, cap, cur', rfl, hbg, h3, hr, hcm, by rw [h4, hcs], ?_⟩⟩, grown_below (Below.refl base w) hgr hbg hbase⟩
        rw [h5]
        simp [encs]
      · refine (Any2.slices_Insert_int_end_grow lay21 (some ⟨g, 0, none⟩) 0 cap vb 0 1 vc [] [.int .i64 x] w (by omega) (by omega) (by omega) (by omega) rfl rfl (fun h => by cases h) (fun a h j u hj => by simp at hj) hvs h1v).mono ?_
        rintro e w' ⟨rfl, rfl⟩
        have hg := grownCap_ge w (0 + 1) cap 3
        have hg2 := grownCap_le_maxLen w (0 + 1) cap 3 (by unfold maxLen; omega)
        refine ⟨_, rfl, ⟨rfl, .inr ⟨w.heap.size, _, _, rfl, hbase, heap_alloc_new w.drew _, hg, hg2, ?_, ?_⟩⟩, drew_below ((Below.refl base w.drew).alloc hbase _)⟩
        · rw [Array.size_append, zc_size]
          show 1 + (grownCap w (0 + 1) cap 3 - (0 + 1)) = grownCap w (0 + 1) cap 3 * 1
          omega
        · simp [encs]
    · by_cases hr : xs.length + 1 ≤ cap
      · refine (Any2.slices_Insert_int_shift lay21 g 0 xs.length cap 0 vb 0 1 vc (encs (Value.int .i64) xs) [.int .i64 x] w (by omega) (by omega) hr (by unfold maxLen at hcm; omega) hgv hcl rfl hcells (fun j hj => hsp j (by omega)) (fun j _ => hfz j) hvs h1c h1v
          3 3 1 cap (by simp [World.shape?, hv]) (by simp [World.shape?, hh, hcs]) (by omega) (blk_frozen hv 0) (blk_frozen hv 1)).mono ?_
        rintro e w' ⟨rfl, rfl⟩
        have hh' : w.drew.heap[g]? = some (.cells cur 3 (0, 0)) := hh
        have e1 : 0 + (0 + 1) + ((encs (Value.int .i64) xs).drop 0).length ≤ cur.size := by rw [List.drop_zero, hcl]; omega
        obtain ⟨c1, h3, h4, h5⟩ := setCells_row ((encs (Value.int .i64) xs).drop 0) (0 + (0 + 1)) w.drew cur hh' e1
        obtain ⟨_, hgr1⟩ := box_cells hh' e1 (cs' := c1) h5.symm
        have e2 : (0 + 0) + [Value.int .i64 x].length ≤ c1.size := by simp; omega
        obtain ⟨c2, h6, h7, h8⟩ := setCells_row [Value.int .i64 x] (0 + 0) _ c1 h3 e2
        obtain ⟨_, hgr2⟩ := box_cells h3 e2 (cs' := c2) h8.symm
        refine ⟨_, rfl, ⟨by rw [encs_length, Nat.mul_one], .inr ⟨g, cap, c2, rfl, hbg, h6, hr, hcm, by rw [h7, h4, hcs], ?_⟩⟩, drew_below (grown_below (grown_below (Below.refl base w.drew) hgr1 hbg hbase) hgr2 hbg (Nat.le_trans hbase hgr1.size))⟩
        rw [h8, h5]
        have hc1 : cur.toList.length = cap := by rw [Array.length_toList]; omega
        simp only [List.drop_zero, Nat.zero_add, List.take_zero, List.nil_append, List.length_singleton, List.length_cons, List.length_nil]
        have ht : (cur.toList.take 1).length = 1 := by rw [List.length_take]; omega
        rw [List.append_assoc, List.drop_left' ht, Nat.mul_one]
        show (Value.int .i64 x :: (encs (Value.int .i64) xs ++ cur.toList.drop (1 + (encs (Value.int .i64) xs).length))).take (xs.length + 1) = encs (Value.int .i64) (x :: xs)
        rw [List.take_succ_cons, List.take_append_of_le_length (by omega), List.take_of_length_le (by omega)]
        rfl
      · refine (Any2.slices_Insert_int_grow lay21 g 0 xs.length cap 0 vb 0 1 vc (encs (Value.int .i64) xs) [.int .i64 x] w (by omega) (by omega) hnc (by omega) (by omega) hcl rfl hcells hvs h1c h1v).mono ?_
        rintro e w' ⟨rfl, rfl⟩
        have hg := grownCap_ge w (xs.length + 1) cap 3
        have hg2 := grownCap_le_maxLen w (xs.length + 1) cap 3 (by unfold maxLen; omega)
        have hh0 := heap_alloc_new w (.cells (((encs (Value.int .i64) xs).take 0).toArray ++ Builtin.zeroCells (Value.int .i64 0).cells (xs.length + 1 - 0) ++ Builtin.zeroCells (Value.int .i64 0).cells (grownCap w (xs.length + 1) cap (ren21.t 3) - (xs.length + 1))) (ren21.t 3))
        generalize hcur : ((((encs (Value.int .i64) xs).take 0).toArray ++ Builtin.zeroCells (Value.int .i64 0).cells (xs.length + 1 - 0) ++ Builtin.zeroCells (Value.int .i64 0).cells (grownCap w (xs.length + 1) cap (ren21.t 3) - (xs.length + 1)))) = cur0 at hh0 ⊢
        have hsz0 : cur0.size = grownCap w (xs.length + 1) cap 3 := by
          rw [← hcur, Array.size_append, Array.size_append, zc_size, zc_size]
          show 0 + (xs.length + 1 - 0) + (grownCap w (xs.length + 1) cap 3 - (xs.length + 1)) = _
          omega
        have hal : Below base w (w.alloc (.cells cur0 (ren21.t 3))) := (Below.refl base w).alloc hbase _
        generalize w.alloc (.cells cur0 (ren21.t 3)) = wa at hh0 hal ⊢
        have hh1 : wa.drew.heap[w.heap.size]? = some (.cells cur0 3 (0, 0)) := hh0
        have e1 : 0 + [Value.int .i64 x].length ≤ cur0.size := by rw [hsz0]; simp; omega
        obtain ⟨c1, h3, h4, h5⟩ := setCells_row [Value.int .i64 x] 0 wa.drew cur0 hh1 e1
        obtain ⟨_, hgr1⟩ := box_cells hh1 e1 (cs' := c1) h5.symm
        generalize wa.drew.setCells w.heap.size 0 [Value.int .i64 x] = wb at h3 hgr1 ⊢
        have hh2 : wb.drew.heap[w.heap.size]? = some (.cells c1 3 (0, 0)) := h3
        have e2 : (0 + 1) + ((encs (Value.int .i64) xs).drop 0).length ≤ c1.size := by rw [List.drop_zero, hcl, h4, hsz0]; omega
        obtain ⟨c2, h6, h7, h8⟩ := setCells_row ((encs (Value.int .i64) xs).drop 0) (0 + 1) wb.drew c1 hh2 e2
        obtain ⟨_, hgr2⟩ := box_cells hh2 e2 (cs' := c2) h8.symm
        have hB1 : Below base w wa.drew := below_drew1 hal
        have hB2 : Below base w wb := grown_below hB1 hgr1 hbase (Nat.le_trans hbase hB1.size)
        refine ⟨_, rfl, ⟨by rw [encs_length, Nat.mul_one], .inr ⟨w.heap.size, _, c2, rfl, hbase, h6, hg, hg2, by rw [h7, h4, hsz0]; exact (Nat.mul_one _).symm, ?_⟩⟩, grown_below (below_drew1 hB2) hgr2 hbase (Nat.le_trans hbase hB2.size)⟩
        rw [h8, h5]
        simp only [List.drop_zero, Nat.zero_add, List.take_zero, List.nil_append, List.length_singleton, List.length_cons]
        rw [List.singleton_append, List.take_succ_cons, List.take_zero, Nat.mul_one, List.append_assoc]
        show (Value.int .i64 x :: (encs (Value.int .i64) xs ++ _)).take (xs.length + 1) = encs (Value.int .i64) (x :: xs)
        rw [List.take_succ_cons, List.take_append_of_le_length (by omega), List.take_of_length_le (by omega)]
        rfl
end Go.Proofs.Ytfdmfgaiblfbhaa.P
/- A tree's cells and their number: plain data. -/
namespace Go.Proofs.Ytfdmfgaiblfbhaa.P
open Go.RowKit Go.Proofs.YtfdmfgaiblfbhaaW.PrintWords Go.Proofs.YtfdmfgaiblfbhaaW.PrintLast Go.Proofs.YtfdmfgaiblfbhaaW.PrintMore

mutual
def allC : S26 → List S26
  | ⟨a, b, d, l⟩ => ⟨a, b, d, l⟩ :: allL l
def allL : List S26 → List S26
  | [] => []
  | c :: cs => allC c ++ allL cs
end
theorem allC_eq (c : S26) : allC c = c :: allL c.f3 := by cases c; simp [allC]
theorem allL_nil : allL [] = [] := by simp [allL]
theorem allL_cons (c : S26) (cs : List S26) : allL (c :: cs) = allC c ++ allL cs := by simp [allL]
theorem allL_app (a b : List S26) : allL (a ++ b) = allL a ++ allL b := by
  induction a with
  | nil => simp [allL_nil]
  | cons x xs ih => rw [List.cons_append, allL_cons, allL_cons, ih, List.append_assoc]
def sz (c : S26) : Nat := (allC c).length
def szL (l : List S26) : Nat := (allL l).length
theorem sz_eq (c : S26) : sz c = 1 + szL c.f3 := by unfold sz szL; rw [allC_eq, List.length_cons]; omega
theorem szL_nil : szL [] = 0 := by unfold szL; rw [allL_nil]; rfl
theorem szL_cons (c : S26) (cs : List S26) : szL (c :: cs) = sz c + szL cs := by unfold szL sz; rw [allL_cons, List.length_append]
theorem szL_app (a b : List S26) : szL (a ++ b) = szL a + szL b := by unfold szL; rw [allL_app, List.length_append]
theorem szL_len (l : List S26) : l.length ≤ szL l := by
  induction l with
  | nil => simp
  | cons x xs ih => rw [szL_cons, List.length_cons, sz_eq]; omega
theorem eta26 (c : S26) : (⟨c.f0, ⟨c.f1.f0, c.f1.f1, c.f1.f2, c.f1.f3⟩, c.f2, c.f3⟩ : S26) = c := by cases c; rfl
theorem szL_sum (l : List S26) : szL l = (l.map sz).sum := by
  induction l with
  | nil => rw [szL_nil]; rfl
  | cons x xs ih => rw [szL_cons, List.map_cons, List.sum_cons, ih]
end Go.Proofs.Ytfdmfgaiblfbhaa.P
