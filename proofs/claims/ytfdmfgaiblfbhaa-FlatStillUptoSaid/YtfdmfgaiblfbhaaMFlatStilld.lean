/- FlatStill: part 4 of 7 of this claim's texts, one behind the other. The words of the kit's printer stand in it cut down, by a program, to those that are used. -/
import Derived.Test.YtfdmfgaiblfbhaaMFlatStillc
import Derived.WalkSpells
namespace Go.Proofs.Ytfdmfgaiblfbhaa.P
open Go.RowKit Go.Proofs.YtfdmfgaiblfbhaaW.PrintWords Go.Proofs.YtfdmfgaiblfbhaaW.PrintLast Go.Proofs.YtfdmfgaiblfbhaaW.PrintMore
attribute [local go_sem] max2_int min2_int max_two min_two max_three min_three max_four min_four   -- for this text's walks alone
set_option linter.unusedVariables false
set_option linter.unusedSimpArgs false

/-! ### sashref05_May: function 38 -/
mutual
def sashref05_May.l0 : Nat → List (S26) → Int → Int → Int → Int → Int → Int → Int → Int → List (S26) → Option (Bool)
  | 0, _, _, _, _, _, _, _, _, _, _ => none
  | k + 1, x3, x14, x15, x175000, x175001, x175002, x175003, x175004, x175005, x175006 => if x15 < x14 then (if 0 ≤ x15 then (if x15 < (x3.length : Int) then ((sashref04_May.f ((rd_T26 x3 x15).f1.f0) ((rd_T26 x3 x15).f1.f1) ((rd_T26 x3 x15).f1.f2) ((rd_T26 x3 x15).f1.f3)).bind fun t179 => (if t179 = true then (if ((rd_T26 x3 x15).f0) < 1 then (sashref05_May.j1 k x3 x15 x14 x15 true x175000 x175001 x175002 x175003 x175004 x175005 x175006) else (sashref05_May.j1 k x3 x15 x14 x15 (decide (((rd_T26 x3 x15).f0) > 3)) x175000 x175001 x175002 x175003 x175004 x175005 x175006)) else (sashref05_May.j1 k x3 x15 x14 x15 true x175000 x175001 x175002 x175003 x175004 x175005 x175006))) else (none)) else (none)) else ((sashref05_Leaves.f k x175000 x175001 x175002 x175003 x175004 x175005 x175006).bind fun t192 => (sashref05_May.l1 k t192 (t192.length : Int) 0))
def sashref05_May.j1 : Nat → List (S26) → Int → Int → Int → Bool → Int → Int → Int → Int → Int → Int → List (S26) → Option (Bool)
  | 0, _, _, _, _, _, _, _, _, _, _, _, _ => none
  | k + 1, x3, x4, x14, x15, x40, x175000, x175001, x175002, x175003, x175004, x175005, x175006 => if x40 = true then (some false) else (if 0 ≤ x4 then (if x4 < (x3.length : Int) then (if ((rd_T26 x3 x4).f0) = 1 then (if (((rd_T26 x3 x4).f3).length : Int) > 0 then (some false) else (if ((rd_T26 x3 x4).f2) < 0 then (some false) else (if ((rd_T26 x3 x4).f2) > 2147483647 then (some false) else (if ((rd_T26 x3 x4).f0) > 1 then (if (((rd_T26 x3 x4).f3).length : Int) < 2 then (some false) else (if ((rd_T26 x3 x4).f2) = 0 then (sashref05_May.l0 k x3 x14 (wrap64 (x15 + 1)) x175000 x175001 x175002 x175003 x175004 x175005 x175006) else (some false))) else (sashref05_May.l0 k x3 x14 (wrap64 (x15 + 1)) x175000 x175001 x175002 x175003 x175004 x175005 x175006))))) else (if ((rd_T26 x3 x4).f0) > 1 then (if (((rd_T26 x3 x4).f3).length : Int) < 2 then (some false) else (if ((rd_T26 x3 x4).f2) = 0 then (sashref05_May.l0 k x3 x14 (wrap64 (x15 + 1)) x175000 x175001 x175002 x175003 x175004 x175005 x175006) else (some false))) else (sashref05_May.l0 k x3 x14 (wrap64 (x15 + 1)) x175000 x175001 x175002 x175003 x175004 x175005 x175006))) else (none)) else (none))
def sashref05_May.l1 : Nat → List (S26) → Int → Int → Option (Bool)
  | 0, _, _, _ => none
  | k + 1, x5, x101, x102 => if x102 < x101 then (sashref05_May.l2 k x5 x102 0 x101 x102) else (some true)
def sashref05_May.l2 : Nat → List (S26) → Int → Int → Int → Int → Option (Bool)
  | 0, _, _, _, _, _ => none
  | k + 1, x5, x6, x7, x101, x102 => if x7 < x6 then (if 0 ≤ x6 then (if x6 < (x5.length : Int) then (if 0 ≤ x7 then (if x7 < (x5.length : Int) then (if ((rd_T26 x5 x6).f2) = ((rd_T26 x5 x7).f2) then (some false) else (sashref05_May.l2 k x5 x6 (wrap64 (x7 + 1)) x101 x102)) else (none)) else (none)) else (none)) else (none)) else (sashref05_May.l1 k x5 x101 (wrap64 (x102 + 1)))
end
def sashref05_May.f (k : Nat) (a0_0 : Int) (a0_1 : Int) (a0_2 : Int) (a0_3 : Int) (a0_4 : Int) (a0_5 : Int) (l0_6 : List (S26)) : Option (Bool) := (sashref05_All.f k a0_0 a0_1 a0_2 a0_3 a0_4 a0_5 l0_6).bind fun t175 => (if (t175.length : Int) > 20000 then (some false) else (sashref05_May.l0 k t175 (t175.length : Int) 0 a0_0 a0_1 a0_2 a0_3 a0_4 a0_5 l0_6))
theorem sashref05_May.mono_l : ∀ k, (∀ y0 y1 y2 y3 y4 y5 y6 y7 y8 y9, LeO (sashref05_May.l0 k y0 y1 y2 y3 y4 y5 y6 y7 y8 y9) (sashref05_May.l0 (k + 1) y0 y1 y2 y3 y4 y5 y6 y7 y8 y9)) ∧ (∀ y0 y1 y2 y3 y4 y5 y6 y7 y8 y9 y10 y11, LeO (sashref05_May.j1 k y0 y1 y2 y3 y4 y5 y6 y7 y8 y9 y10 y11) (sashref05_May.j1 (k + 1) y0 y1 y2 y3 y4 y5 y6 y7 y8 y9 y10 y11)) ∧ (∀ y0 y1 y2, LeO (sashref05_May.l1 k y0 y1 y2) (sashref05_May.l1 (k + 1) y0 y1 y2)) ∧ (∀ y0 y1 y2 y3 y4, LeO (sashref05_May.l2 k y0 y1 y2 y3 y4) (sashref05_May.l2 (k + 1) y0 y1 y2 y3 y4))
  | 0 => ⟨fun _ _ _ _ _ _ _ _ _ _ r h => by simp [sashref05_May.l0] at h, fun _ _ _ _ _ _ _ _ _ _ _ _ r h => by simp [sashref05_May.j1] at h, fun _ _ _ r h => by simp [sashref05_May.l1] at h, fun _ _ _ _ _ r h => by simp [sashref05_May.l2] at h⟩
  | k + 1 => by
    obtain ⟨ih0, ih1, ih2, ih3⟩ := sashref05_May.mono_l k
    refine ⟨?_, ?_, ?_, ?_⟩
    · intro y0 y1 y2 y3 y4 y5 y6 y7 y8 y9
      unfold sashref05_May.l0
      repeat' first
      | (with_reducible exact ih0 _ _ _ _ _ _ _ _ _ _)
      | (with_reducible exact ih1 _ _ _ _ _ _ _ _ _ _ _ _)
      | (with_reducible exact ih2 _ _ _)
      | (with_reducible exact ih3 _ _ _ _ _)
      | (with_reducible exact sashref05_All.mono _ _ _ _ _ _ _ _)
      | (with_reducible exact sashref05_Leaves.mono _ _ _ _ _ _ _ _)
      | (with_reducible exact LeO.refl _)
      | (with_reducible exact LeO.none _)
      | (with_reducible refine LeO.ite ?_ ?_)
      | (with_reducible refine LeO.bind ?_ (fun _ => ?_))
      | exact ih0 _ _ _ _ _ _ _ _ _ _
      | exact ih1 _ _ _ _ _ _ _ _ _ _ _ _
      | exact ih2 _ _ _
      | exact ih3 _ _ _ _ _
      | exact sashref05_All.mono _ _ _ _ _ _ _ _
      | exact sashref05_Leaves.mono _ _ _ _ _ _ _ _
      | exact LeO.none _
      | refine LeO.ite ?_ ?_
      | refine LeO.bind ?_ (fun _ => ?_)
    · intro y0 y1 y2 y3 y4 y5 y6 y7 y8 y9 y10 y11
      unfold sashref05_May.j1
      repeat' first
      | (with_reducible exact ih0 _ _ _ _ _ _ _ _ _ _)
      | (with_reducible exact ih1 _ _ _ _ _ _ _ _ _ _ _ _)
      | (with_reducible exact ih2 _ _ _)
      | (with_reducible exact ih3 _ _ _ _ _)
      | (with_reducible exact sashref05_All.mono _ _ _ _ _ _ _ _)
      | (with_reducible exact sashref05_Leaves.mono _ _ _ _ _ _ _ _)
      | (with_reducible exact LeO.refl _)
      | (with_reducible exact LeO.none _)
      | (with_reducible refine LeO.ite ?_ ?_)
      | (with_reducible refine LeO.bind ?_ (fun _ => ?_))
      | exact ih0 _ _ _ _ _ _ _ _ _ _
      | exact ih1 _ _ _ _ _ _ _ _ _ _ _ _
      | exact ih2 _ _ _
      | exact ih3 _ _ _ _ _
      | exact sashref05_All.mono _ _ _ _ _ _ _ _
      | exact sashref05_Leaves.mono _ _ _ _ _ _ _ _
      | exact LeO.none _
      | refine LeO.ite ?_ ?_
      | refine LeO.bind ?_ (fun _ => ?_)
    · intro y0 y1 y2
      unfold sashref05_May.l1
      repeat' first
      | (with_reducible exact ih0 _ _ _ _ _ _ _ _ _ _)
      | (with_reducible exact ih1 _ _ _ _ _ _ _ _ _ _ _ _)
      | (with_reducible exact ih2 _ _ _)
      | (with_reducible exact ih3 _ _ _ _ _)
      | (with_reducible exact sashref05_All.mono _ _ _ _ _ _ _ _)
      | (with_reducible exact sashref05_Leaves.mono _ _ _ _ _ _ _ _)
      | (with_reducible exact LeO.refl _)
      | (with_reducible exact LeO.none _)
      | (with_reducible refine LeO.ite ?_ ?_)
      | (with_reducible refine LeO.bind ?_ (fun _ => ?_))
      | exact ih0 _ _ _ _ _ _ _ _ _ _
      | exact ih1 _ _ _ _ _ _ _ _ _ _ _ _
      | exact ih2 _ _ _
      | exact ih3 _ _ _ _ _
      | exact sashref05_All.mono _ _ _ _ _ _ _ _
      | exact sashref05_Leaves.mono _ _ _ _ _ _ _ _
      | exact LeO.none _
      | refine LeO.ite ?_ ?_
      | refine LeO.bind ?_ (fun _ => ?_)
    · intro y0 y1 y2 y3 y4
      unfold sashref05_May.l2
      repeat' first
      | (with_reducible exact ih0 _ _ _ _ _ _ _ _ _ _)
      | (with_reducible exact ih1 _ _ _ _ _ _ _ _ _ _ _ _)
      | (with_reducible exact ih2 _ _ _)
      | (with_reducible exact ih3 _ _ _ _ _)
      | (with_reducible exact sashref05_All.mono _ _ _ _ _ _ _ _)
      | (with_reducible exact sashref05_Leaves.mono _ _ _ _ _ _ _ _)
      | (with_reducible exact LeO.refl _)
      | (with_reducible exact LeO.none _)
      | (with_reducible refine LeO.ite ?_ ?_)
      | (with_reducible refine LeO.bind ?_ (fun _ => ?_))
      | exact ih0 _ _ _ _ _ _ _ _ _ _
      | exact ih1 _ _ _ _ _ _ _ _ _ _ _ _
      | exact ih2 _ _ _
      | exact ih3 _ _ _ _ _
      | exact sashref05_All.mono _ _ _ _ _ _ _ _
      | exact sashref05_Leaves.mono _ _ _ _ _ _ _ _
      | exact LeO.none _
      | refine LeO.ite ?_ ?_
      | refine LeO.bind ?_ (fun _ => ?_)
theorem sashref05_May.mono : ∀ a0 a1 a2 a3 a4 a5 a6 k, LeO (sashref05_May.f k a0 a1 a2 a3 a4 a5 a6) (sashref05_May.f (k + 1) a0 a1 a2 a3 a4 a5 a6) := by
  intro a0 a1 a2 a3 a4 a5 a6 k
  obtain ⟨ih0, ih1, ih2, ih3⟩ := sashref05_May.mono_l k
  unfold sashref05_May.f
  repeat' first
      | (with_reducible exact ih0 _ _ _ _ _ _ _ _ _ _)
      | (with_reducible exact ih1 _ _ _ _ _ _ _ _ _ _ _ _)
      | (with_reducible exact ih2 _ _ _)
      | (with_reducible exact ih3 _ _ _ _ _)
      | (with_reducible exact sashref05_All.mono _ _ _ _ _ _ _ _)
      | (with_reducible exact sashref05_Leaves.mono _ _ _ _ _ _ _ _)
      | (with_reducible exact LeO.refl _)
      | (with_reducible exact LeO.none _)
      | (with_reducible refine LeO.ite ?_ ?_)
      | (with_reducible refine LeO.bind ?_ (fun _ => ?_))
      | exact ih0 _ _ _ _ _ _ _ _ _ _
      | exact ih1 _ _ _ _ _ _ _ _ _ _ _ _
      | exact ih2 _ _ _
      | exact ih3 _ _ _ _ _
      | exact sashref05_All.mono _ _ _ _ _ _ _ _
      | exact sashref05_Leaves.mono _ _ _ _ _ _ _ _
      | exact LeO.none _
      | refine LeO.ite ?_ ?_
      | refine LeO.bind ?_ (fun _ => ?_)
set_option maxHeartbeats 8000000 in
set_option maxRecDepth 100000 in
theorem sashref05_May.calls (k : Nat) (a0_0 : Int) (a0_1 : Int) (a0_2 : Int) (a0_3 : Int) (a0_4 : Int) (a0_5 : Int) (A0_6 : Option Addr) (c0_6 : Nat) (l0_6 : List (S26)) (r : Bool) (w : World) (hr0_6 : Kd.C k26 w A0_6 l0_6.length l0_6) (hc0_6 : l0_6.length ≤ c0_6) (h : sashref05_May.f k a0_0 a0_1 a0_2 a0_3 a0_4 a0_5 l0_6 = some r) :
    Calls Try.prog 38 #[.agg #[.int .u8 a0_0, .int .i64 a0_1, .int .i64 a0_2, .int .i64 a0_3, .int .i64 a0_4, .int .i64 a0_5, .slice A0_6 l0_6.length c0_6]] w fun e w' => e = .returned (.bool r) ∧ Below w.heap.size w w' := by
  have hu26 := Try.underlying26
  have hu23 := Try.underlying23
  have HR0_6 := Aside0.mk hr0_6
  have HC0_6 := Aside0.mk hc0_6
  clear hr0_6 hc0_6
  have HB := Aside0.mk (Below.refl w.heap.size w)
  have H : ((sashref05_All.f k a0_0 a0_1 a0_2 a0_3 a0_4 a0_5 l0_6).bind fun t175 => (if (t175.length : Int) > 20000 then (some false) else (sashref05_May.l0 k t175 (t175.length : Int) 0 a0_0 a0_1 a0_2 a0_3 a0_4 a0_5 l0_6))) = some r := h
  clear h
  replace H := Option.bind_eq_some_iff.mp H
  obtain ⟨t175, A20, H⟩ := H
  replace H : (if (t175.length : Int) > 20000 then (some false) else (sashref05_May.l0 k t175 (t175.length : Int) 0 a0_0 a0_1 a0_2 a0_3 a0_4 a0_5 l0_6)) = some r := H
  have A2 := Aside0.mk A20
  clear A20
  by_cases c3 : (t175.length : Int) > 20000
  · rw [if_pos c3] at H
    have c3b0 : decide (20000 < (t175.length : Int)) = true := decide_eq_true c3
    have c3b1 : decide (20000 < t175.length) = true := decide_eq_true (by omega)
    clear c3
    obtain rfl := Option.some.inj H
    go_enter Try.func38, Try.ntmps38
    go_wp2_with (first | ((with_reducible refine gate_dst (N := 1) rfl ?_); (try (refine gate_guard (by rfl) ?_; dsimp only)); refine box_event ?hg (N := 1) ?hd (cs := #[.int .u8 a0_0, .int .i64 a0_1, .int .i64 a0_2, .int .i64 a0_3, .int .i64 a0_4, .int .i64 a0_5, .slice A0_6 l0_6.length c0_6]) (t := 26) ?hr ?_; (case hd => rfl); (case hg => rfl); (case hr => first | (go_simp; done) | (go_simp; rfl)); intro gb174 hg w4 hbox hb; have n0_ := Aside0.mk (below_step (by repeat (first | (with_reducible first | exact HB.out | apply below_alloc | apply pw_below_drewN | apply below_drew1) | exact HB.out)) hb); have n1_ := Aside0.mk (hbox); have n2_ := Aside0.mk ((by rw [hg]; exact (below_size (by repeat (first | (with_reducible first | exact HB.out | apply below_alloc | apply pw_below_drewN | apply below_drew1) | exact HB.out))) : w.heap.size ≤ gb174)); have n3_ := Aside0.mk ((by rw [hg]; exact (below_size (by repeat (first | (with_reducible first | exact HB.out | apply below_alloc | apply pw_below_drewN | apply below_drew1) | exact HB.out))) : w.heap.size ≤ gb174)); clear HB; have HB := n0_; have BK174 := n1_; have GW174 := n2_; have GE174 := n3_; clear n0_ n1_ n2_ n3_; clear hb hbox hg; have hcz5_0 : w4.cell? ⟨gb174, 0, none⟩ = some (.int .u8 a0_0) := (blk_cell BK174.out 0).trans rfl; have hcz5_1 : w4.cell? ⟨gb174, 1, none⟩ = some (.int .i64 a0_1) := (blk_cell BK174.out 1).trans rfl; have hcz5_2 : w4.cell? ⟨gb174, 2, none⟩ = some (.int .i64 a0_2) := (blk_cell BK174.out 2).trans rfl; have hcz5_3 : w4.cell? ⟨gb174, 3, none⟩ = some (.int .i64 a0_3) := (blk_cell BK174.out 3).trans rfl; have hcz5_4 : w4.cell? ⟨gb174, 4, none⟩ = some (.int .i64 a0_4) := (blk_cell BK174.out 4).trans rfl; have hcz5_5 : w4.cell? ⟨gb174, 5, none⟩ = some (.int .i64 a0_5) := (blk_cell BK174.out 5).trans rfl; have hcz5_6 : w4.cell? ⟨gb174, 6, none⟩ = some (.slice A0_6 l0_6.length c0_6) := (blk_cell BK174.out 6).trans rfl; have hfz5_0 := blk_frozen BK174.out 0; have hfz5_1 := blk_frozen BK174.out 1; have hfz5_2 := blk_frozen BK174.out 2; have hfz5_3 := blk_frozen BK174.out 3; have hfz5_4 := blk_frozen BK174.out 4; have hfz5_5 := blk_frozen BK174.out 5; have hfz5_6 := blk_frozen BK174.out 6) | (go_at_call 79; (with_reducible refine (sashref05_All.calls k a0_0 a0_1 a0_2 a0_3 a0_4 a0_5 (fun k_ => k_ < w.heap.size) _ _ l0_6 t175 _ ?side1 A2.out).mono ?_); (case side1 => exact Kd.V_mk HC0_6.out (Kd.F_below (Kd.C_F k26_heap HR0_6.out) (by repeat (first | (with_reducible first | exact HB.out | apply below_alloc | apply pw_below_drewN | apply below_drew1 | refine below_set ?_ GE174.out) | exact HB.out)))); rintro e w6 ⟨v176, rfl, ho0, hb⟩; have n0_ := Aside0.mk (Kd.N_lower (Kd.N_mono (ok' := fun k_ => k_ ≠ gb174) ho0 (fun k_ hk_ => Or.elim hk_ (fun hs_ => fun e_ => Nat.not_le.2 hs_ (by rw [e_]; exact GW174.out)) (fun hn_ => (Kd.freshB (g := gb174) (o := .cells #[.int .u8 a0_0, .int .i64 a0_1, .int .i64 a0_2, .int .i64 a0_3, .int .i64 a0_4, .int .i64 a0_5, .slice A0_6 l0_6.length c0_6] 26 (0, 0)) (by (with_reducible repeat (first | refine blk_drewN ?_ _ | refine blk_drew ?_ | refine blk_alloc ?_ _)); exact BK174.out) k_ hn_)))) (below_size (by repeat (first | (with_reducible first | exact HB.out | apply below_alloc | apply pw_below_drewN | apply below_drew1 | refine below_set ?_ GE174.out) | exact HB.out)))); have n1_ := Aside0.mk (blk_below (g := gb174) (o := .cells #[.int .u8 a0_0, .int .i64 a0_1, .int .i64 a0_2, .int .i64 a0_3, .int .i64 a0_4, .int .i64 a0_5, .slice A0_6 l0_6.length c0_6] 26 (0, 0)) (by (with_reducible repeat (first | refine blk_drewN ?_ _ | refine blk_drew ?_ | refine blk_alloc ?_ _)); exact BK174.out) hb); have n2_ := Aside0.mk (below_step (by repeat (first | (with_reducible first | exact HB.out | apply below_alloc | apply pw_below_drewN | apply below_drew1 | refine below_set ?_ GE174.out) | exact HB.out)) hb); clear BK174; clear HB; have HO177 := n0_; have BK174 := n1_; have HB := n2_; clear n0_ n1_ n2_; (try clear hb); (try clear hb2); (try clear hk); (try clear hi); (try clear ho0); obtain ⟨Ao7, co7, eo7⟩ := Kd.N_slice HO177.out; subst eo7))
    repeat (go_quiet (first | ((with_reducible refine gate_dst (N := 1) rfl ?_); (try (refine gate_guard (by rfl) ?_; dsimp only)); refine box_event ?hg (N := 1) ?hd (cs := #[.int .u8 a0_0, .int .i64 a0_1, .int .i64 a0_2, .int .i64 a0_3, .int .i64 a0_4, .int .i64 a0_5, .slice A0_6 l0_6.length c0_6]) (t := 26) ?hr ?_; (case hd => rfl); (case hg => rfl); (case hr => first | (go_simp; done) | (go_simp; rfl)); intro gb174 hg w4 hbox hb; have n0_ := Aside0.mk (below_step (by repeat (first | (with_reducible first | exact HB.out | apply below_alloc | apply pw_below_drewN | apply below_drew1) | exact HB.out)) hb); have n1_ := Aside0.mk (hbox); have n2_ := Aside0.mk ((by rw [hg]; exact (below_size (by repeat (first | (with_reducible first | exact HB.out | apply below_alloc | apply pw_below_drewN | apply below_drew1) | exact HB.out))) : w.heap.size ≤ gb174)); have n3_ := Aside0.mk ((by rw [hg]; exact (below_size (by repeat (first | (with_reducible first | exact HB.out | apply below_alloc | apply pw_below_drewN | apply below_drew1) | exact HB.out))) : w.heap.size ≤ gb174)); clear HB; have HB := n0_; have BK174 := n1_; have GW174 := n2_; have GE174 := n3_; clear n0_ n1_ n2_ n3_; clear hb hbox hg; have hcz5_0 : w4.cell? ⟨gb174, 0, none⟩ = some (.int .u8 a0_0) := (blk_cell BK174.out 0).trans rfl; have hcz5_1 : w4.cell? ⟨gb174, 1, none⟩ = some (.int .i64 a0_1) := (blk_cell BK174.out 1).trans rfl; have hcz5_2 : w4.cell? ⟨gb174, 2, none⟩ = some (.int .i64 a0_2) := (blk_cell BK174.out 2).trans rfl; have hcz5_3 : w4.cell? ⟨gb174, 3, none⟩ = some (.int .i64 a0_3) := (blk_cell BK174.out 3).trans rfl; have hcz5_4 : w4.cell? ⟨gb174, 4, none⟩ = some (.int .i64 a0_4) := (blk_cell BK174.out 4).trans rfl; have hcz5_5 : w4.cell? ⟨gb174, 5, none⟩ = some (.int .i64 a0_5) := (blk_cell BK174.out 5).trans rfl; have hcz5_6 : w4.cell? ⟨gb174, 6, none⟩ = some (.slice A0_6 l0_6.length c0_6) := (blk_cell BK174.out 6).trans rfl; have hfz5_0 := blk_frozen BK174.out 0; have hfz5_1 := blk_frozen BK174.out 1; have hfz5_2 := blk_frozen BK174.out 2; have hfz5_3 := blk_frozen BK174.out 3; have hfz5_4 := blk_frozen BK174.out 4; have hfz5_5 := blk_frozen BK174.out 5; have hfz5_6 := blk_frozen BK174.out 6) | (go_at_call 79; (with_reducible refine (sashref05_All.calls k a0_0 a0_1 a0_2 a0_3 a0_4 a0_5 (fun k_ => k_ < w.heap.size) _ _ l0_6 t175 _ ?side1 A2.out).mono ?_); (case side1 => exact Kd.V_mk HC0_6.out (Kd.F_below (Kd.C_F k26_heap HR0_6.out) (by repeat (first | (with_reducible first | exact HB.out | apply below_alloc | apply pw_below_drewN | apply below_drew1 | refine below_set ?_ GE174.out) | exact HB.out)))); rintro e w6 ⟨v176, rfl, ho0, hb⟩; have n0_ := Aside0.mk (Kd.N_lower (Kd.N_mono (ok' := fun k_ => k_ ≠ gb174) ho0 (fun k_ hk_ => Or.elim hk_ (fun hs_ => fun e_ => Nat.not_le.2 hs_ (by rw [e_]; exact GW174.out)) (fun hn_ => (Kd.freshB (g := gb174) (o := .cells #[.int .u8 a0_0, .int .i64 a0_1, .int .i64 a0_2, .int .i64 a0_3, .int .i64 a0_4, .int .i64 a0_5, .slice A0_6 l0_6.length c0_6] 26 (0, 0)) (by (with_reducible repeat (first | refine blk_drewN ?_ _ | refine blk_drew ?_ | refine blk_alloc ?_ _)); exact BK174.out) k_ hn_)))) (below_size (by repeat (first | (with_reducible first | exact HB.out | apply below_alloc | apply pw_below_drewN | apply below_drew1 | refine below_set ?_ GE174.out) | exact HB.out)))); have n1_ := Aside0.mk (blk_below (g := gb174) (o := .cells #[.int .u8 a0_0, .int .i64 a0_1, .int .i64 a0_2, .int .i64 a0_3, .int .i64 a0_4, .int .i64 a0_5, .slice A0_6 l0_6.length c0_6] 26 (0, 0)) (by (with_reducible repeat (first | refine blk_drewN ?_ _ | refine blk_drew ?_ | refine blk_alloc ?_ _)); exact BK174.out) hb); have n2_ := Aside0.mk (below_step (by repeat (first | (with_reducible first | exact HB.out | apply below_alloc | apply pw_below_drewN | apply below_drew1 | refine below_set ?_ GE174.out) | exact HB.out)) hb); clear BK174; clear HB; have HO177 := n0_; have BK174 := n1_; have HB := n2_; clear n0_ n1_ n2_; (try clear hb); (try clear hb2); (try clear hk); (try clear hi); (try clear ho0); obtain ⟨Ao7, co7, eo7⟩ := Kd.N_slice HO177.out; subst eo7)); try go_wp2_with (first | ((with_reducible refine gate_dst (N := 1) rfl ?_); (try (refine gate_guard (by rfl) ?_; dsimp only)); refine box_event ?hg (N := 1) ?hd (cs := #[.int .u8 a0_0, .int .i64 a0_1, .int .i64 a0_2, .int .i64 a0_3, .int .i64 a0_4, .int .i64 a0_5, .slice A0_6 l0_6.length c0_6]) (t := 26) ?hr ?_; (case hd => rfl); (case hg => rfl); (case hr => first | (go_simp; done) | (go_simp; rfl)); intro gb174 hg w4 hbox hb; have n0_ := Aside0.mk (below_step (by repeat (first | (with_reducible first | exact HB.out | apply below_alloc | apply pw_below_drewN | apply below_drew1) | exact HB.out)) hb); have n1_ := Aside0.mk (hbox); have n2_ := Aside0.mk ((by rw [hg]; exact (below_size (by repeat (first | (with_reducible first | exact HB.out | apply below_alloc | apply pw_below_drewN | apply below_drew1) | exact HB.out))) : w.heap.size ≤ gb174)); have n3_ := Aside0.mk ((by rw [hg]; exact (below_size (by repeat (first | (with_reducible first | exact HB.out | apply below_alloc | apply pw_below_drewN | apply below_drew1) | exact HB.out))) : w.heap.size ≤ gb174)); clear HB; have HB := n0_; have BK174 := n1_; have GW174 := n2_; have GE174 := n3_; clear n0_ n1_ n2_ n3_; clear hb hbox hg; have hcz5_0 : w4.cell? ⟨gb174, 0, none⟩ = some (.int .u8 a0_0) := (blk_cell BK174.out 0).trans rfl; have hcz5_1 : w4.cell? ⟨gb174, 1, none⟩ = some (.int .i64 a0_1) := (blk_cell BK174.out 1).trans rfl; have hcz5_2 : w4.cell? ⟨gb174, 2, none⟩ = some (.int .i64 a0_2) := (blk_cell BK174.out 2).trans rfl; have hcz5_3 : w4.cell? ⟨gb174, 3, none⟩ = some (.int .i64 a0_3) := (blk_cell BK174.out 3).trans rfl; have hcz5_4 : w4.cell? ⟨gb174, 4, none⟩ = some (.int .i64 a0_4) := (blk_cell BK174.out 4).trans rfl; have hcz5_5 : w4.cell? ⟨gb174, 5, none⟩ = some (.int .i64 a0_5) := (blk_cell BK174.out 5).trans rfl; have hcz5_6 : w4.cell? ⟨gb174, 6, none⟩ = some (.slice A0_6 l0_6.length c0_6) := (blk_cell BK174.out 6).trans rfl; have hfz5_0 := blk_frozen BK174.out 0; have hfz5_1 := blk_frozen BK174.out 1; have hfz5_2 := blk_frozen BK174.out 2; have hfz5_3 := blk_frozen BK174.out 3; have hfz5_4 := blk_frozen BK174.out 4; have hfz5_5 := blk_frozen BK174.out 5; have hfz5_6 := blk_frozen BK174.out 6) | (go_at_call 79; (with_reducible refine (sashref05_All.calls k a0_0 a0_1 a0_2 a0_3 a0_4 a0_5 (fun k_ => k_ < w.heap.size) _ _ l0_6 t175 _ ?side1 A2.out).mono ?_); (case side1 => exact Kd.V_mk HC0_6.out (Kd.F_below (Kd.C_F k26_heap HR0_6.out) (by repeat (first | (with_reducible first | exact HB.out | apply below_alloc | apply pw_below_drewN | apply below_drew1 | refine below_set ?_ GE174.out) | exact HB.out)))); rintro e w6 ⟨v176, rfl, ho0, hb⟩; have n0_ := Aside0.mk (Kd.N_lower (Kd.N_mono (ok' := fun k_ => k_ ≠ gb174) ho0 (fun k_ hk_ => Or.elim hk_ (fun hs_ => fun e_ => Nat.not_le.2 hs_ (by rw [e_]; exact GW174.out)) (fun hn_ => (Kd.freshB (g := gb174) (o := .cells #[.int .u8 a0_0, .int .i64 a0_1, .int .i64 a0_2, .int .i64 a0_3, .int .i64 a0_4, .int .i64 a0_5, .slice A0_6 l0_6.length c0_6] 26 (0, 0)) (by (with_reducible repeat (first | refine blk_drewN ?_ _ | refine blk_drew ?_ | refine blk_alloc ?_ _)); exact BK174.out) k_ hn_)))) (below_size (by repeat (first | (with_reducible first | exact HB.out | apply below_alloc | apply pw_below_drewN | apply below_drew1 | refine below_set ?_ GE174.out) | exact HB.out)))); have n1_ := Aside0.mk (blk_below (g := gb174) (o := .cells #[.int .u8 a0_0, .int .i64 a0_1, .int .i64 a0_2, .int .i64 a0_3, .int .i64 a0_4, .int .i64 a0_5, .slice A0_6 l0_6.length c0_6] 26 (0, 0)) (by (with_reducible repeat (first | refine blk_drewN ?_ _ | refine blk_drew ?_ | refine blk_alloc ?_ _)); exact BK174.out) hb); have n2_ := Aside0.mk (below_step (by repeat (first | (with_reducible first | exact HB.out | apply below_alloc | apply pw_below_drewN | apply below_drew1 | refine below_set ?_ GE174.out) | exact HB.out)) hb); clear BK174; clear HB; have HO177 := n0_; have BK174 := n1_; have HB := n2_; clear n0_ n1_ n2_; (try clear hb); (try clear hb2); (try clear hk); (try clear hi); (try clear ho0); obtain ⟨Ao7, co7, eo7⟩ := Kd.N_slice HO177.out; subst eo7)))
    go_ret
    exact ⟨by first | rfl | (simp [errW_none, errW_some] <;> rfl) | (simp [*, errW_none, errW_some] <;> rfl), by repeat (first | (with_reducible first | exact HB.out | apply below_alloc | apply pw_below_drewN | apply below_drew1 | refine below_set ?_ GE174.out) | exact HB.out)⟩
  · rw [if_neg c3] at H
    have c3b0 : decide (20000 < (t175.length : Int)) = false := decide_eq_false c3
    have c3b1 : decide (20000 < t175.length) = false := decide_eq_false (by omega)
    clear c3
    have H' := Aside0.mk H
    clear H
    go_enter Try.func38, Try.ntmps38
    go_wp2_with (first | ((with_reducible refine gate_dst (N := 1) rfl ?_); (try (refine gate_guard (by rfl) ?_; dsimp only)); refine box_event ?hg (N := 1) ?hd (cs := #[.int .u8 a0_0, .int .i64 a0_1, .int .i64 a0_2, .int .i64 a0_3, .int .i64 a0_4, .int .i64 a0_5, .slice A0_6 l0_6.length c0_6]) (t := 26) ?hr ?_; (case hd => rfl); (case hg => rfl); (case hr => first | (go_simp; done) | (go_simp; rfl)); intro gb174 hg w8 hbox hb; have n0_ := Aside0.mk (below_step (by repeat (first | (with_reducible first | exact HB.out | apply below_alloc | apply pw_below_drewN | apply below_drew1) | exact HB.out)) hb); have n1_ := Aside0.mk (hbox); have n2_ := Aside0.mk ((by rw [hg]; exact (below_size (by repeat (first | (with_reducible first | exact HB.out | apply below_alloc | apply pw_below_drewN | apply below_drew1) | exact HB.out))) : w.heap.size ≤ gb174)); have n3_ := Aside0.mk ((by rw [hg]; exact (below_size (by repeat (first | (with_reducible first | exact HB.out | apply below_alloc | apply pw_below_drewN | apply below_drew1) | exact HB.out))) : w.heap.size ≤ gb174)); clear HB; have HB := n0_; have BK174 := n1_; have GW174 := n2_; have GE174 := n3_; clear n0_ n1_ n2_ n3_; clear hb hbox hg; have hcz9_0 : w8.cell? ⟨gb174, 0, none⟩ = some (.int .u8 a0_0) := (blk_cell BK174.out 0).trans rfl; have hcz9_1 : w8.cell? ⟨gb174, 1, none⟩ = some (.int .i64 a0_1) := (blk_cell BK174.out 1).trans rfl; have hcz9_2 : w8.cell? ⟨gb174, 2, none⟩ = some (.int .i64 a0_2) := (blk_cell BK174.out 2).trans rfl; have hcz9_3 : w8.cell? ⟨gb174, 3, none⟩ = some (.int .i64 a0_3) := (blk_cell BK174.out 3).trans rfl; have hcz9_4 : w8.cell? ⟨gb174, 4, none⟩ = some (.int .i64 a0_4) := (blk_cell BK174.out 4).trans rfl; have hcz9_5 : w8.cell? ⟨gb174, 5, none⟩ = some (.int .i64 a0_5) := (blk_cell BK174.out 5).trans rfl; have hcz9_6 : w8.cell? ⟨gb174, 6, none⟩ = some (.slice A0_6 l0_6.length c0_6) := (blk_cell BK174.out 6).trans rfl; have hfz9_0 := blk_frozen BK174.out 0; have hfz9_1 := blk_frozen BK174.out 1; have hfz9_2 := blk_frozen BK174.out 2; have hfz9_3 := blk_frozen BK174.out 3; have hfz9_4 := blk_frozen BK174.out 4; have hfz9_5 := blk_frozen BK174.out 5; have hfz9_6 := blk_frozen BK174.out 6) | (go_at_call 79; (with_reducible refine (sashref05_All.calls k a0_0 a0_1 a0_2 a0_3 a0_4 a0_5 (fun k_ => k_ < w.heap.size) _ _ l0_6 t175 _ ?side1 A2.out).mono ?_); (case side1 => exact Kd.V_mk HC0_6.out (Kd.F_below (Kd.C_F k26_heap HR0_6.out) (by repeat (first | (with_reducible first | exact HB.out | apply below_alloc | apply pw_below_drewN | apply below_drew1 | refine below_set ?_ GE174.out) | exact HB.out)))); rintro e w10 ⟨v176, rfl, ho0, hb⟩; have n0_ := Aside0.mk (Kd.N_lower (Kd.N_mono (ok' := fun k_ => k_ ≠ gb174) ho0 (fun k_ hk_ => Or.elim hk_ (fun hs_ => fun e_ => Nat.not_le.2 hs_ (by rw [e_]; exact GW174.out)) (fun hn_ => (Kd.freshB (g := gb174) (o := .cells #[.int .u8 a0_0, .int .i64 a0_1, .int .i64 a0_2, .int .i64 a0_3, .int .i64 a0_4, .int .i64 a0_5, .slice A0_6 l0_6.length c0_6] 26 (0, 0)) (by (with_reducible repeat (first | refine blk_drewN ?_ _ | refine blk_drew ?_ | refine blk_alloc ?_ _)); exact BK174.out) k_ hn_)))) (below_size (by repeat (first | (with_reducible first | exact HB.out | apply below_alloc | apply pw_below_drewN | apply below_drew1 | refine below_set ?_ GE174.out) | exact HB.out)))); have n1_ := Aside0.mk (blk_below (g := gb174) (o := .cells #[.int .u8 a0_0, .int .i64 a0_1, .int .i64 a0_2, .int .i64 a0_3, .int .i64 a0_4, .int .i64 a0_5, .slice A0_6 l0_6.length c0_6] 26 (0, 0)) (by (with_reducible repeat (first | refine blk_drewN ?_ _ | refine blk_drew ?_ | refine blk_alloc ?_ _)); exact BK174.out) hb); have n2_ := Aside0.mk (below_step (by repeat (first | (with_reducible first | exact HB.out | apply below_alloc | apply pw_below_drewN | apply below_drew1 | refine below_set ?_ GE174.out) | exact HB.out)) hb); clear BK174; clear HB; have HO177 := n0_; have BK174 := n1_; have HB := n2_; clear n0_ n1_ n2_; (try clear hb); (try clear hb2); (try clear hk); (try clear hi); (try clear ho0); obtain ⟨Ao11, co11, eo11⟩ := Kd.N_slice HO177.out; subst eo11))
    repeat (go_quiet (first | ((with_reducible refine gate_dst (N := 1) rfl ?_); (try (refine gate_guard (by rfl) ?_; dsimp only)); refine box_event ?hg (N := 1) ?hd (cs := #[.int .u8 a0_0, .int .i64 a0_1, .int .i64 a0_2, .int .i64 a0_3, .int .i64 a0_4, .int .i64 a0_5, .slice A0_6 l0_6.length c0_6]) (t := 26) ?hr ?_; (case hd => rfl); (case hg => rfl); (case hr => first | (go_simp; done) | (go_simp; rfl)); intro gb174 hg w8 hbox hb; have n0_ := Aside0.mk (below_step (by repeat (first | (with_reducible first | exact HB.out | apply below_alloc | apply pw_below_drewN | apply below_drew1) | exact HB.out)) hb); have n1_ := Aside0.mk (hbox); have n2_ := Aside0.mk ((by rw [hg]; exact (below_size (by repeat (first | (with_reducible first | exact HB.out | apply below_alloc | apply pw_below_drewN | apply below_drew1) | exact HB.out))) : w.heap.size ≤ gb174)); have n3_ := Aside0.mk ((by rw [hg]; exact (below_size (by repeat (first | (with_reducible first | exact HB.out | apply below_alloc | apply pw_below_drewN | apply below_drew1) | exact HB.out))) : w.heap.size ≤ gb174)); clear HB; have HB := n0_; have BK174 := n1_; have GW174 := n2_; have GE174 := n3_; clear n0_ n1_ n2_ n3_; clear hb hbox hg; have hcz9_0 : w8.cell? ⟨gb174, 0, none⟩ = some (.int .u8 a0_0) := (blk_cell BK174.out 0).trans rfl; have hcz9_1 : w8.cell? ⟨gb174, 1, none⟩ = some (.int .i64 a0_1) := (blk_cell BK174.out 1).trans rfl; have hcz9_2 : w8.cell? ⟨gb174, 2, none⟩ = some (.int .i64 a0_2) := (blk_cell BK174.out 2).trans rfl; have hcz9_3 : w8.cell? ⟨gb174, 3, none⟩ = some (.int .i64 a0_3) := (blk_cell BK174.out 3).trans rfl; have hcz9_4 : w8.cell? ⟨gb174, 4, none⟩ = some (.int .i64 a0_4) := (blk_cell BK174.out 4).trans rfl; have hcz9_5 : w8.cell? ⟨gb174, 5, none⟩ = some (.int .i64 a0_5) := (blk_cell BK174.out 5).trans rfl; have hcz9_6 : w8.cell? ⟨gb174, 6, none⟩ = some (.slice A0_6 l0_6.length c0_6) := (blk_cell BK174.out 6).trans rfl; have hfz9_0 := blk_frozen BK174.out 0; have hfz9_1 := blk_frozen BK174.out 1; have hfz9_2 := blk_frozen BK174.out 2; have hfz9_3 := blk_frozen BK174.out 3; have hfz9_4 := blk_frozen BK174.out 4; have hfz9_5 := blk_frozen BK174.out 5; have hfz9_6 := blk_frozen BK174.out 6) | (go_at_call 79; (with_reducible refine (sashref05_All.calls k a0_0 a0_1 a0_2 a0_3 a0_4 a0_5 (fun k_ => k_ < w.heap.size) _ _ l0_6 t175 _ ?side1 A2.out).mono ?_); (case side1 => exact Kd.V_mk HC0_6.out (Kd.F_below (Kd.C_F k26_heap HR0_6.out) (by repeat (first | (with_reducible first | exact HB.out | apply below_alloc | apply pw_below_drewN | apply below_drew1 | refine below_set ?_ GE174.out) | exact HB.out)))); rintro e w10 ⟨v176, rfl, ho0, hb⟩; have n0_ := Aside0.mk (Kd.N_lower (Kd.N_mono (ok' := fun k_ => k_ ≠ gb174) ho0 (fun k_ hk_ => Or.elim hk_ (fun hs_ => fun e_ => Nat.not_le.2 hs_ (by rw [e_]; exact GW174.out)) (fun hn_ => (Kd.freshB (g := gb174) (o := .cells #[.int .u8 a0_0, .int .i64 a0_1, .int .i64 a0_2, .int .i64 a0_3, .int .i64 a0_4, .int .i64 a0_5, .slice A0_6 l0_6.length c0_6] 26 (0, 0)) (by (with_reducible repeat (first | refine blk_drewN ?_ _ | refine blk_drew ?_ | refine blk_alloc ?_ _)); exact BK174.out) k_ hn_)))) (below_size (by repeat (first | (with_reducible first | exact HB.out | apply below_alloc | apply pw_below_drewN | apply below_drew1 | refine below_set ?_ GE174.out) | exact HB.out)))); have n1_ := Aside0.mk (blk_below (g := gb174) (o := .cells #[.int .u8 a0_0, .int .i64 a0_1, .int .i64 a0_2, .int .i64 a0_3, .int .i64 a0_4, .int .i64 a0_5, .slice A0_6 l0_6.length c0_6] 26 (0, 0)) (by (with_reducible repeat (first | refine blk_drewN ?_ _ | refine blk_drew ?_ | refine blk_alloc ?_ _)); exact BK174.out) hb); have n2_ := Aside0.mk (below_step (by repeat (first | (with_reducible first | exact HB.out | apply below_alloc | apply pw_below_drewN | apply below_drew1 | refine below_set ?_ GE174.out) | exact HB.out)) hb); clear BK174; clear HB; have HO177 := n0_; have BK174 := n1_; have HB := n2_; clear n0_ n1_ n2_; (try clear hb); (try clear hb2); (try clear hk); (try clear hi); (try clear ho0); obtain ⟨Ao11, co11, eo11⟩ := Kd.N_slice HO177.out; subst eo11)); try go_wp2_with (first | ((with_reducible refine gate_dst (N := 1) rfl ?_); (try (refine gate_guard (by rfl) ?_; dsimp only)); refine box_event ?hg (N := 1) ?hd (cs := #[.int .u8 a0_0, .int .i64 a0_1, .int .i64 a0_2, .int .i64 a0_3, .int .i64 a0_4, .int .i64 a0_5, .slice A0_6 l0_6.length c0_6]) (t := 26) ?hr ?_; (case hd => rfl); (case hg => rfl); (case hr => first | (go_simp; done) | (go_simp; rfl)); intro gb174 hg w8 hbox hb; have n0_ := Aside0.mk (below_step (by repeat (first | (with_reducible first | exact HB.out | apply below_alloc | apply pw_below_drewN | apply below_drew1) | exact HB.out)) hb); have n1_ := Aside0.mk (hbox); have n2_ := Aside0.mk ((by rw [hg]; exact (below_size (by repeat (first | (with_reducible first | exact HB.out | apply below_alloc | apply pw_below_drewN | apply below_drew1) | exact HB.out))) : w.heap.size ≤ gb174)); have n3_ := Aside0.mk ((by rw [hg]; exact (below_size (by repeat (first | (with_reducible first | exact HB.out | apply below_alloc | apply pw_below_drewN | apply below_drew1) | exact HB.out))) : w.heap.size ≤ gb174)); clear HB; have HB := n0_; have BK174 := n1_; have GW174 := n2_; have GE174 := n3_; clear n0_ n1_ n2_ n3_; clear hb hbox hg; have hcz9_0 : w8.cell? ⟨gb174, 0, none⟩ = some (.int .u8 a0_0) := (blk_cell BK174.out 0).trans rfl; have hcz9_1 : w8.cell? ⟨gb174, 1, none⟩ = some (.int .i64 a0_1) := (blk_cell BK174.out 1).trans rfl; have hcz9_2 : w8.cell? ⟨gb174, 2, none⟩ = some (.int .i64 a0_2) := (blk_cell BK174.out 2).trans rfl; have hcz9_3 : w8.cell? ⟨gb174, 3, none⟩ = some (.int .i64 a0_3) := (blk_cell BK174.out 3).trans rfl; have hcz9_4 : w8.cell? ⟨gb174, 4, none⟩ = some (.int .i64 a0_4) := (blk_cell BK174.out 4).trans rfl; have hcz9_5 : w8.cell? ⟨gb174, 5, none⟩ = some (.int .i64 a0_5) := (blk_cell BK174.out 5).trans rfl; have hcz9_6 : w8.cell? ⟨gb174, 6, none⟩ = some (.slice A0_6 l0_6.length c0_6) := (blk_cell BK174.out 6).trans rfl; have hfz9_0 := blk_frozen BK174.out 0; have hfz9_1 := blk_frozen BK174.out 1; have hfz9_2 := blk_frozen BK174.out 2; have hfz9_3 := blk_frozen BK174.out 3; have hfz9_4 := blk_frozen BK174.out 4; have hfz9_5 := blk_frozen BK174.out 5; have hfz9_6 := blk_frozen BK174.out 6) | (go_at_call 79; (with_reducible refine (sashref05_All.calls k a0_0 a0_1 a0_2 a0_3 a0_4 a0_5 (fun k_ => k_ < w.heap.size) _ _ l0_6 t175 _ ?side1 A2.out).mono ?_); (case side1 => exact Kd.V_mk HC0_6.out (Kd.F_below (Kd.C_F k26_heap HR0_6.out) (by repeat (first | (with_reducible first | exact HB.out | apply below_alloc | apply pw_below_drewN | apply below_drew1 | refine below_set ?_ GE174.out) | exact HB.out)))); rintro e w10 ⟨v176, rfl, ho0, hb⟩; have n0_ := Aside0.mk (Kd.N_lower (Kd.N_mono (ok' := fun k_ => k_ ≠ gb174) ho0 (fun k_ hk_ => Or.elim hk_ (fun hs_ => fun e_ => Nat.not_le.2 hs_ (by rw [e_]; exact GW174.out)) (fun hn_ => (Kd.freshB (g := gb174) (o := .cells #[.int .u8 a0_0, .int .i64 a0_1, .int .i64 a0_2, .int .i64 a0_3, .int .i64 a0_4, .int .i64 a0_5, .slice A0_6 l0_6.length c0_6] 26 (0, 0)) (by (with_reducible repeat (first | refine blk_drewN ?_ _ | refine blk_drew ?_ | refine blk_alloc ?_ _)); exact BK174.out) k_ hn_)))) (below_size (by repeat (first | (with_reducible first | exact HB.out | apply below_alloc | apply pw_below_drewN | apply below_drew1 | refine below_set ?_ GE174.out) | exact HB.out)))); have n1_ := Aside0.mk (blk_below (g := gb174) (o := .cells #[.int .u8 a0_0, .int .i64 a0_1, .int .i64 a0_2, .int .i64 a0_3, .int .i64 a0_4, .int .i64 a0_5, .slice A0_6 l0_6.length c0_6] 26 (0, 0)) (by (with_reducible repeat (first | refine blk_drewN ?_ _ | refine blk_drew ?_ | refine blk_alloc ?_ _)); exact BK174.out) hb); have n2_ := Aside0.mk (below_step (by repeat (first | (with_reducible first | exact HB.out | apply below_alloc | apply pw_below_drewN | apply below_drew1 | refine below_set ?_ GE174.out) | exact HB.out)) hb); clear BK174; clear HB; have HO177 := n0_; have BK174 := n1_; have HB := n2_; clear n0_ n1_ n2_; (try clear hb); (try clear hb2); (try clear hk); (try clear hi); (try clear ho0); obtain ⟨Ao11, co11, eo11⟩ := Kd.N_slice HO177.out; subst eo11)))
    go_loopg [15] k (fun kq v15 w' => ∃ (x15_1 : Int), v15 = .int .i64 x15_1 ∧ Aside0 (sashref05_May.l0 kq t175 (t175.length : Int) x15_1 a0_0 a0_1 a0_2 a0_3 a0_4 a0_5 l0_6 = some r) ∧ Aside0 (kq ≤ k) ∧ Aside0 (Kd.N k26 26 w' w.heap.size (fun k_ => k_ ≠ gb174) (.slice Ao11 t175.length co11) t175) ∧ Aside0 (w'.heap[gb174]? = some (.cells #[.int .u8 a0_0, .int .i64 a0_1, .int .i64 a0_2, .int .i64 a0_3, .int .i64 a0_4, .int .i64 a0_5, (.slice A0_6 l0_6.length c0_6)] 26 (0, 0))) ∧ Aside0 (Below w.heap.size w w'))
    case atStart => exact ⟨(0), (by first | rfl | (simp; done) | (simp [*]; done)), H', ⟨Nat.le_refl _⟩, ⟨by (with_reducible repeat (first | apply Kd.N_alloc | apply Kd.N_drewN | apply Kd.N_drew)); exact HO177.out⟩, ⟨by (with_reducible repeat (first | refine blk_drewN ?_ _ | refine blk_drew ?_ | refine blk_alloc ?_ _)); exact BK174.out⟩, ⟨by repeat (first | (with_reducible first | exact HB.out | apply below_alloc | apply pw_below_drewN | apply below_drew1 | refine below_set ?_ GE174.out) | exact HB.out)⟩⟩
    case round =>
      clear H'
      try clear p2
      try clear c3
      try clear c3b0
      try clear c3b1
      try clear hcz5_0
      try clear hcz5_1
      try clear hcz5_2
      try clear hcz5_3
      try clear hcz5_4
      try clear hcz5_5
      try clear hcz5_6
      try clear hcz9_0
      try clear hcz9_1
      try clear hcz9_2
      try clear hcz9_3
      try clear hcz9_4
      try clear hcz9_5
      try clear hcz9_6
      try clear hfz5_0
      try clear hfz5_1
      try clear hfz5_2
      try clear hfz5_3
      try clear hfz5_4
      try clear hfz5_5
      try clear hfz5_6
      try clear hfz9_0
      try clear hfz9_1
      try clear hfz9_2
      try clear hfz9_3
      try clear hfz9_4
      try clear hfz9_5
      try clear hfz9_6
      obtain ⟨x15_1, rfl, HA, HK1, HO_3, BK174, HB⟩ := hrel
      cases gk with
      | zero => exact absurd HA.out (by simp [sashref05_May.l0])
      | succ k1 =>
        have H := HA.out
        clear HA
        simp only [sashref05_May.l0] at H
        by_cases c12 : x15_1 < (t175.length : Int)
        · rw [if_pos c12] at H
          have c12b0 : decide (x15_1 < (t175.length : Int)) = true := decide_eq_true c12
          clear c12
          have HC13 := Aside0.mk H
          clear H
          go_upto_region 7 with (fail)
          repeat (go_quiet (fail); go_upto_region 7 with (fail))
          go_cut [40] (fun v40 wc => ∃ (kq : Nat) (x40_12 : Bool), v40 = .bool x40_12 ∧ Aside0 (sashref05_May.j1 kq t175 x15_1 (t175.length : Int) x15_1 x40_12 a0_0 a0_1 a0_2 a0_3 a0_4 a0_5 l0_6 = some r) ∧ Aside0 (kq ≤ k1) ∧ Aside0 (Kd.N k26 26 wc w.heap.size (fun k_ => k_ ≠ gb174) (.slice Ao11 t175.length co11) t175) ∧ Aside0 (wc.heap[gb174]? = some (.cells #[.int .u8 a0_0, .int .i64 a0_1, .int .i64 a0_2, .int .i64 a0_3, .int .i64 a0_4, .int .i64 a0_5, (.slice A0_6 l0_6.length c0_6)] 26 (0, 0))) ∧ Aside0 (Below w.heap.size w wc))
          case first =>
            have H := HC13.out
            clear HC13
            by_cases c14 : 0 ≤ x15_1
            · rw [if_pos c14] at H
              have c14b0 : decide (0 ≤ x15_1) = true := decide_eq_true c14
              clear c14
              (first | rw [c14b0] | (simp only [i64_w, i32_w]; rw [c14b0]) | skip)
              by_cases c15 : x15_1 < (t175.length : Int)
              · rw [if_pos c15] at H
                have c15b0 : decide (x15_1 < (t175.length : Int)) = true := decide_eq_true c15
                clear c15
                replace H := Option.bind_eq_some_iff.mp H
                obtain ⟨t179, A160, H⟩ := H
                replace H : (if t179 = true then (if ((rd_T26 t175 x15_1).f0) < 1 then (sashref05_May.j1 k1 t175 x15_1 (t175.length : Int) x15_1 true a0_0 a0_1 a0_2 a0_3 a0_4 a0_5 l0_6) else (sashref05_May.j1 k1 t175 x15_1 (t175.length : Int) x15_1 (decide (((rd_T26 t175 x15_1).f0) > 3)) a0_0 a0_1 a0_2 a0_3 a0_4 a0_5 l0_6)) else (sashref05_May.j1 k1 t175 x15_1 (t175.length : Int) x15_1 true a0_0 a0_1 a0_2 a0_3 a0_4 a0_5 l0_6)) = some r := H
                have A16 := Aside0.mk A160
                clear A160
                by_cases c17 : t179 = true
                · subst c17
                  have H1 : (if ((rd_T26 t175 x15_1).f0) < 1 then (sashref05_May.j1 k1 t175 x15_1 (t175.length : Int) x15_1 true a0_0 a0_1 a0_2 a0_3 a0_4 a0_5 l0_6) else (sashref05_May.j1 k1 t175 x15_1 (t175.length : Int) x15_1 (decide (((rd_T26 t175 x15_1).f0) > 3)) a0_0 a0_1 a0_2 a0_3 a0_4 a0_5 l0_6)) = some r := by rw [if_pos rfl] at H; exact H
                  clear H
                  have H := H1
                  clear H1
                  by_cases c18 : ((rd_T26 t175 x15_1).f0) < 1
                  · rw [if_pos c18] at H
                    have c18b0 : decide (((rd_T26 t175 x15_1).f0) < 1) = true := decide_eq_true c18
                    clear c18
                    have H' := Aside0.mk H
                    clear H
                    have p178 : 0 ≤ (x15_1 : Int) := of_decide_eq_true (by first | (with_reducible assumption) | assumption)
                    have q178 : x15_1 < (t175.length : Int) := of_decide_eq_true (by first | (with_reducible assumption) | assumption)
                    obtain ⟨ad178, A178_6, c178_6, e178, hx178_0, hx178_1, hx178_2, hx178_3, hx178_4, hx178_5, hx178_6, hl178_6, hi178_6⟩ := at_T26 (Kd.N_reads' HO_3.out).2.2 x15_1 p178 q178
                    cases e178
                    obtain ⟨ce178, hce178, hMe178, hcc178⟩ := Kd.N_get HO_3.out z26 x15_1 p178 (by first | exact q178 | exact of_decide_eq_true (by first | (with_reducible assumption) | assumption) | (have e_ := (Kd.N_reads' HO_3.out).1; omega))
                    obtain ⟨ua178_6, uc178_6, rfl, ul178_6, ge178_6⟩ := k26_openF hMe178
                    have hv178_6 := hcc178 6 _ rfl
                    rw [add_field _ _ 6 (by omega)] at hv178_6
                    replace hv178_6 := Option.some.inj (hv178_6.symm.trans hx178_6)
                    injection hv178_6 with hva_ hvn_ hvc_
                    rw [hva_] at ge178_6
                    rw [hvc_] at ul178_6
                    have HL178_6 := Aside0.mk (show Kd.V k26 26 _ w.heap.size _ _ ((rd_T26 t175 x15_1).f3) from Kd.V_mk ul178_6 ge178_6)
                    clear hva_ hvn_ hvc_ ge178_6 ul178_6
                    clear hcc178 hce178
                    have HR178_6 := Aside0.mk hi178_6
                    have HC178_6 := Aside0.mk hl178_6
                    clear hi178_6 hl178_6
                    replace p178 := eq_true p178
                    replace q178 := eq_true q178
                    go_wp2_with (first | (go_at_call 57; (with_reducible refine (sashref04_May.calls ((rd_T26 t175 x15_1).f1.f0) ((rd_T26 t175 x15_1).f1.f1) ((rd_T26 t175 x15_1).f1.f2) ((rd_T26 t175 x15_1).f1.f3) true _ A16.out).mono ?_); rintro e w19 ⟨rfl, hb⟩; have n0_ := Aside0.mk (Kd.N_below (by (with_reducible repeat (first | apply Kd.N_alloc | apply Kd.N_drewN | apply Kd.N_drew)); exact HO_3.out) hb); have n1_ := Aside0.mk (Kd.V_below (by (with_reducible repeat (first | apply Kd.V_alloc | apply Kd.V_drewN | apply Kd.V_drew)); exact HL178_6.out) hb); have n2_ := Aside0.mk (blk_below (g := gb174) (o := .cells #[.int .u8 a0_0, .int .i64 a0_1, .int .i64 a0_2, .int .i64 a0_3, .int .i64 a0_4, .int .i64 a0_5, .slice A0_6 l0_6.length c0_6] 26 (0, 0)) (by (with_reducible repeat (first | refine blk_drewN ?_ _ | refine blk_drew ?_ | refine blk_alloc ?_ _)); exact BK174.out) hb); have n3_ := Aside0.mk (Kd.C_below (by repeat (first | (with_reducible exact HR178_6.out) | (with_reducible refine Kd.C_alloc ?_ _) | (with_reducible refine Kd.C_drewN ?_ _) | (with_reducible refine Kd.C_drew ?_) | exact HR178_6.out)) hb); have n4_ := Aside0.mk (below_step (by repeat (first | (with_reducible first | exact HB.out | apply below_alloc | apply pw_below_drewN | apply below_drew1 | refine below_set ?_ GE174.out) | exact HB.out)) hb); clear HO_3; clear HL178_6; clear BK174; clear HR178_6; clear HB; have HO_3 := n0_; have HL178_6 := n1_; have BK174 := n2_; have HR178_6 := n3_; have HB := n4_; clear n0_ n1_ n2_ n3_ n4_; (try clear hb); (try clear hb2); (try clear hk); (try clear hi); have p180 : 0 ≤ (x15_1 : Int) := of_decide_eq_true (by first | (with_reducible assumption) | assumption); have q180 : x15_1 < (t175.length : Int) := of_decide_eq_true (by first | (with_reducible assumption) | assumption); obtain ⟨ad180, A180_6, c180_6, e180, hx180_0, hx180_1, hx180_2, hx180_3, hx180_4, hx180_5, hx180_6, hl180_6, hi180_6⟩ := at_T26 (Kd.N_reads' HO_3.out).2.2 x15_1 p180 q180; obtain rfl : ad178 = ad180 := (by injection e180); obtain ⟨ce180, hce180, hMe180, hcc180⟩ := Kd.N_get HO_3.out z26 x15_1 p180 (by first | exact q180 | exact of_decide_eq_true (by first | (with_reducible assumption) | assumption) | (have e_ := (Kd.N_reads' HO_3.out).1; omega)); obtain ⟨ua180_6, uc180_6, rfl, ul180_6, ge180_6⟩ := k26_openF hMe180; have hv180_6 := hcc180 6 _ rfl; rw [add_field _ _ 6 (by omega)] at hv180_6; replace hv180_6 := Option.some.inj (hv180_6.symm.trans hx180_6); injection hv180_6 with hva_ hvn_ hvc_; rw [hva_] at ge180_6; rw [hvc_] at ul180_6; have HL180_6 := Aside0.mk (show Kd.V k26 26 _ w.heap.size _ _ ((rd_T26 t175 x15_1).f3) from Kd.V_mk ul180_6 ge180_6); clear hva_ hvn_ hvc_ ge180_6 ul180_6; clear hcc180 hce180; have HR180_6 := Aside0.mk hi180_6; have HC180_6 := Aside0.mk hl180_6; clear hi180_6 hl180_6; replace p180 := eq_true p180; replace q180 := eq_true q180))
                    repeat (go_quiet (first | (go_at_call 57; (with_reducible refine (sashref04_May.calls ((rd_T26 t175 x15_1).f1.f0) ((rd_T26 t175 x15_1).f1.f1) ((rd_T26 t175 x15_1).f1.f2) ((rd_T26 t175 x15_1).f1.f3) true _ A16.out).mono ?_); rintro e w19 ⟨rfl, hb⟩; have n0_ := Aside0.mk (Kd.N_below (by (with_reducible repeat (first | apply Kd.N_alloc | apply Kd.N_drewN | apply Kd.N_drew)); exact HO_3.out) hb); have n1_ := Aside0.mk (Kd.V_below (by (with_reducible repeat (first | apply Kd.V_alloc | apply Kd.V_drewN | apply Kd.V_drew)); exact HL178_6.out) hb); have n2_ := Aside0.mk (blk_below (g := gb174) (o := .cells #[.int .u8 a0_0, .int .i64 a0_1, .int .i64 a0_2, .int .i64 a0_3, .int .i64 a0_4, .int .i64 a0_5, .slice A0_6 l0_6.length c0_6] 26 (0, 0)) (by (with_reducible repeat (first | refine blk_drewN ?_ _ | refine blk_drew ?_ | refine blk_alloc ?_ _)); exact BK174.out) hb); have n3_ := Aside0.mk (Kd.C_below (by repeat (first | (with_reducible exact HR178_6.out) | (with_reducible refine Kd.C_alloc ?_ _) | (with_reducible refine Kd.C_drewN ?_ _) | (with_reducible refine Kd.C_drew ?_) | exact HR178_6.out)) hb); have n4_ := Aside0.mk (below_step (by repeat (first | (with_reducible first | exact HB.out | apply below_alloc | apply pw_below_drewN | apply below_drew1 | refine below_set ?_ GE174.out) | exact HB.out)) hb); clear HO_3; clear HL178_6; clear BK174; clear HR178_6; clear HB; have HO_3 := n0_; have HL178_6 := n1_; have BK174 := n2_; have HR178_6 := n3_; have HB := n4_; clear n0_ n1_ n2_ n3_ n4_; (try clear hb); (try clear hb2); (try clear hk); (try clear hi); have p180 : 0 ≤ (x15_1 : Int) := of_decide_eq_true (by first | (with_reducible assumption) | assumption); have q180 : x15_1 < (t175.length : Int) := of_decide_eq_true (by first | (with_reducible assumption) | assumption); obtain ⟨ad180, A180_6, c180_6, e180, hx180_0, hx180_1, hx180_2, hx180_3, hx180_4, hx180_5, hx180_6, hl180_6, hi180_6⟩ := at_T26 (Kd.N_reads' HO_3.out).2.2 x15_1 p180 q180; obtain rfl : ad178 = ad180 := (by injection e180); obtain ⟨ce180, hce180, hMe180, hcc180⟩ := Kd.N_get HO_3.out z26 x15_1 p180 (by first | exact q180 | exact of_decide_eq_true (by first | (with_reducible assumption) | assumption) | (have e_ := (Kd.N_reads' HO_3.out).1; omega)); obtain ⟨ua180_6, uc180_6, rfl, ul180_6, ge180_6⟩ := k26_openF hMe180; have hv180_6 := hcc180 6 _ rfl; rw [add_field _ _ 6 (by omega)] at hv180_6; replace hv180_6 := Option.some.inj (hv180_6.symm.trans hx180_6); injection hv180_6 with hva_ hvn_ hvc_; rw [hva_] at ge180_6; rw [hvc_] at ul180_6; have HL180_6 := Aside0.mk (show Kd.V k26 26 _ w.heap.size _ _ ((rd_T26 t175 x15_1).f3) from Kd.V_mk ul180_6 ge180_6); clear hva_ hvn_ hvc_ ge180_6 ul180_6; clear hcc180 hce180; have HR180_6 := Aside0.mk hi180_6; have HC180_6 := Aside0.mk hl180_6; clear hi180_6 hl180_6; replace p180 := eq_true p180; replace q180 := eq_true q180)); try go_wp2_with (first | (go_at_call 57; (with_reducible refine (sashref04_May.calls ((rd_T26 t175 x15_1).f1.f0) ((rd_T26 t175 x15_1).f1.f1) ((rd_T26 t175 x15_1).f1.f2) ((rd_T26 t175 x15_1).f1.f3) true _ A16.out).mono ?_); rintro e w19 ⟨rfl, hb⟩; have n0_ := Aside0.mk (Kd.N_below (by (with_reducible repeat (first | apply Kd.N_alloc | apply Kd.N_drewN | apply Kd.N_drew)); exact HO_3.out) hb); have n1_ := Aside0.mk (Kd.V_below (by (with_reducible repeat (first | apply Kd.V_alloc | apply Kd.V_drewN | apply Kd.V_drew)); exact HL178_6.out) hb); have n2_ := Aside0.mk (blk_below (g := gb174) (o := .cells #[.int .u8 a0_0, .int .i64 a0_1, .int .i64 a0_2, .int .i64 a0_3, .int .i64 a0_4, .int .i64 a0_5, .slice A0_6 l0_6.length c0_6] 26 (0, 0)) (by (with_reducible repeat (first | refine blk_drewN ?_ _ | refine blk_drew ?_ | refine blk_alloc ?_ _)); exact BK174.out) hb); have n3_ := Aside0.mk (Kd.C_below (by repeat (first | (with_reducible exact HR178_6.out) | (with_reducible refine Kd.C_alloc ?_ _) | (with_reducible refine Kd.C_drewN ?_ _) | (with_reducible refine Kd.C_drew ?_) | exact HR178_6.out)) hb); have n4_ := Aside0.mk (below_step (by repeat (first | (with_reducible first | exact HB.out | apply below_alloc | apply pw_below_drewN | apply below_drew1 | refine below_set ?_ GE174.out) | exact HB.out)) hb); clear HO_3; clear HL178_6; clear BK174; clear HR178_6; clear HB; have HO_3 := n0_; have HL178_6 := n1_; have BK174 := n2_; have HR178_6 := n3_; have HB := n4_; clear n0_ n1_ n2_ n3_ n4_; (try clear hb); (try clear hb2); (try clear hk); (try clear hi); have p180 : 0 ≤ (x15_1 : Int) := of_decide_eq_true (by first | (with_reducible assumption) | assumption); have q180 : x15_1 < (t175.length : Int) := of_decide_eq_true (by first | (with_reducible assumption) | assumption); obtain ⟨ad180, A180_6, c180_6, e180, hx180_0, hx180_1, hx180_2, hx180_3, hx180_4, hx180_5, hx180_6, hl180_6, hi180_6⟩ := at_T26 (Kd.N_reads' HO_3.out).2.2 x15_1 p180 q180; obtain rfl : ad178 = ad180 := (by injection e180); obtain ⟨ce180, hce180, hMe180, hcc180⟩ := Kd.N_get HO_3.out z26 x15_1 p180 (by first | exact q180 | exact of_decide_eq_true (by first | (with_reducible assumption) | assumption) | (have e_ := (Kd.N_reads' HO_3.out).1; omega)); obtain ⟨ua180_6, uc180_6, rfl, ul180_6, ge180_6⟩ := k26_openF hMe180; have hv180_6 := hcc180 6 _ rfl; rw [add_field _ _ 6 (by omega)] at hv180_6; replace hv180_6 := Option.some.inj (hv180_6.symm.trans hx180_6); injection hv180_6 with hva_ hvn_ hvc_; rw [hva_] at ge180_6; rw [hvc_] at ul180_6; have HL180_6 := Aside0.mk (show Kd.V k26 26 _ w.heap.size _ _ ((rd_T26 t175 x15_1).f3) from Kd.V_mk ul180_6 ge180_6); clear hva_ hvn_ hvc_ ge180_6 ul180_6; clear hcc180 hce180; have HR180_6 := Aside0.mk hi180_6; have HC180_6 := Aside0.mk hl180_6; clear hi180_6 hl180_6; replace p180 := eq_true p180; replace q180 := eq_true q180)))
                    go_meet
                    case rel => exact ⟨_, (true), (by first | rfl | (simp; done) | (simp [*]; done)), H', ⟨by have := HK1.out; first | omega | exact Nat.le_refl _⟩, ⟨by (with_reducible repeat (first | apply Kd.N_alloc | apply Kd.N_drewN | apply Kd.N_drew)); exact HO_3.out⟩, ⟨by (with_reducible repeat (first | refine blk_drewN ?_ _ | refine blk_drew ?_ | refine blk_alloc ?_ _)); exact BK174.out⟩, ⟨by repeat (first | (with_reducible first | exact HB.out | apply below_alloc | apply pw_below_drewN | apply below_drew1 | refine below_set ?_ GE174.out) | exact HB.out)⟩⟩
                  · rw [if_neg c18] at H
                    have c18b0 : decide (((rd_T26 t175 x15_1).f0) < 1) = false := decide_eq_false c18
                    clear c18
                    have H' := Aside0.mk H
                    clear H
                    have p178 : 0 ≤ (x15_1 : Int) := of_decide_eq_true (by first | (with_reducible assumption) | assumption)
                    have q178 : x15_1 < (t175.length : Int) := of_decide_eq_true (by first | (with_reducible assumption) | assumption)
                    obtain ⟨ad178, A178_6, c178_6, e178, hx178_0, hx178_1, hx178_2, hx178_3, hx178_4, hx178_5, hx178_6, hl178_6, hi178_6⟩ := at_T26 (Kd.N_reads' HO_3.out).2.2 x15_1 p178 q178
                    cases e178
                    obtain ⟨ce178, hce178, hMe178, hcc178⟩ := Kd.N_get HO_3.out z26 x15_1 p178 (by first | exact q178 | exact of_decide_eq_true (by first | (with_reducible assumption) | assumption) | (have e_ := (Kd.N_reads' HO_3.out).1; omega))
                    obtain ⟨ua178_6, uc178_6, rfl, ul178_6, ge178_6⟩ := k26_openF hMe178
                    have hv178_6 := hcc178 6 _ rfl
                    rw [add_field _ _ 6 (by omega)] at hv178_6
                    replace hv178_6 := Option.some.inj (hv178_6.symm.trans hx178_6)
                    injection hv178_6 with hva_ hvn_ hvc_
                    rw [hva_] at ge178_6
                    rw [hvc_] at ul178_6
                    have HL178_6 := Aside0.mk (show Kd.V k26 26 _ w.heap.size _ _ ((rd_T26 t175 x15_1).f3) from Kd.V_mk ul178_6 ge178_6)
                    clear hva_ hvn_ hvc_ ge178_6 ul178_6
                    clear hcc178 hce178
                    have HR178_6 := Aside0.mk hi178_6
                    have HC178_6 := Aside0.mk hl178_6
                    clear hi178_6 hl178_6
                    replace p178 := eq_true p178
                    replace q178 := eq_true q178
                    go_wp2_with (first | (go_at_call 57; (with_reducible refine (sashref04_May.calls ((rd_T26 t175 x15_1).f1.f0) ((rd_T26 t175 x15_1).f1.f1) ((rd_T26 t175 x15_1).f1.f2) ((rd_T26 t175 x15_1).f1.f3) true _ A16.out).mono ?_); rintro e w20 ⟨rfl, hb⟩; have n0_ := Aside0.mk (Kd.N_below (by (with_reducible repeat (first | apply Kd.N_alloc | apply Kd.N_drewN | apply Kd.N_drew)); exact HO_3.out) hb); have n1_ := Aside0.mk (Kd.V_below (by (with_reducible repeat (first | apply Kd.V_alloc | apply Kd.V_drewN | apply Kd.V_drew)); exact HL178_6.out) hb); have n2_ := Aside0.mk (blk_below (g := gb174) (o := .cells #[.int .u8 a0_0, .int .i64 a0_1, .int .i64 a0_2, .int .i64 a0_3, .int .i64 a0_4, .int .i64 a0_5, .slice A0_6 l0_6.length c0_6] 26 (0, 0)) (by (with_reducible repeat (first | refine blk_drewN ?_ _ | refine blk_drew ?_ | refine blk_alloc ?_ _)); exact BK174.out) hb); have n3_ := Aside0.mk (Kd.C_below (by repeat (first | (with_reducible exact HR178_6.out) | (with_reducible refine Kd.C_alloc ?_ _) | (with_reducible refine Kd.C_drewN ?_ _) | (with_reducible refine Kd.C_drew ?_) | exact HR178_6.out)) hb); have n4_ := Aside0.mk (below_step (by repeat (first | (with_reducible first | exact HB.out | apply below_alloc | apply pw_below_drewN | apply below_drew1 | refine below_set ?_ GE174.out) | exact HB.out)) hb); clear HO_3; clear HL178_6; clear BK174; clear HR178_6; clear HB; have HO_3 := n0_; have HL178_6 := n1_; have BK174 := n2_; have HR178_6 := n3_; have HB := n4_; clear n0_ n1_ n2_ n3_ n4_; (try clear hb); (try clear hb2); (try clear hk); (try clear hi); have p180 : 0 ≤ (x15_1 : Int) := of_decide_eq_true (by first | (with_reducible assumption) | assumption); have q180 : x15_1 < (t175.length : Int) := of_decide_eq_true (by first | (with_reducible assumption) | assumption); obtain ⟨ad180, A180_6, c180_6, e180, hx180_0, hx180_1, hx180_2, hx180_3, hx180_4, hx180_5, hx180_6, hl180_6, hi180_6⟩ := at_T26 (Kd.N_reads' HO_3.out).2.2 x15_1 p180 q180; obtain rfl : ad178 = ad180 := (by injection e180); obtain ⟨ce180, hce180, hMe180, hcc180⟩ := Kd.N_get HO_3.out z26 x15_1 p180 (by first | exact q180 | exact of_decide_eq_true (by first | (with_reducible assumption) | assumption) | (have e_ := (Kd.N_reads' HO_3.out).1; omega)); obtain ⟨ua180_6, uc180_6, rfl, ul180_6, ge180_6⟩ := k26_openF hMe180; have hv180_6 := hcc180 6 _ rfl; rw [add_field _ _ 6 (by omega)] at hv180_6; replace hv180_6 := Option.some.inj (hv180_6.symm.trans hx180_6); injection hv180_6 with hva_ hvn_ hvc_; rw [hva_] at ge180_6; rw [hvc_] at ul180_6; have HL180_6 := Aside0.mk (show Kd.V k26 26 _ w.heap.size _ _ ((rd_T26 t175 x15_1).f3) from Kd.V_mk ul180_6 ge180_6); clear hva_ hvn_ hvc_ ge180_6 ul180_6; clear hcc180 hce180; have HR180_6 := Aside0.mk hi180_6; have HC180_6 := Aside0.mk hl180_6; clear hi180_6 hl180_6; replace p180 := eq_true p180; replace q180 := eq_true q180; have p181 : 0 ≤ (x15_1 : Int) := of_decide_eq_true (by first | (with_reducible assumption) | assumption); have q181 : x15_1 < (t175.length : Int) := of_decide_eq_true (by first | (with_reducible assumption) | assumption); obtain ⟨ad181, A181_6, c181_6, e181, hx181_0, hx181_1, hx181_2, hx181_3, hx181_4, hx181_5, hx181_6, hl181_6, hi181_6⟩ := at_T26 (Kd.N_reads' HO_3.out).2.2 x15_1 p181 q181; obtain rfl : ad178 = ad181 := (by injection e181); obtain ⟨ce181, hce181, hMe181, hcc181⟩ := Kd.N_get HO_3.out z26 x15_1 p181 (by first | exact q181 | exact of_decide_eq_true (by first | (with_reducible assumption) | assumption) | (have e_ := (Kd.N_reads' HO_3.out).1; omega)); obtain ⟨ua181_6, uc181_6, rfl, ul181_6, ge181_6⟩ := k26_openF hMe181; have hv181_6 := hcc181 6 _ rfl; rw [add_field _ _ 6 (by omega)] at hv181_6; replace hv181_6 := Option.some.inj (hv181_6.symm.trans hx181_6); injection hv181_6 with hva_ hvn_ hvc_; rw [hva_] at ge181_6; rw [hvc_] at ul181_6; have HL181_6 := Aside0.mk (show Kd.V k26 26 _ w.heap.size _ _ ((rd_T26 t175 x15_1).f3) from Kd.V_mk ul181_6 ge181_6); clear hva_ hvn_ hvc_ ge181_6 ul181_6; clear hcc181 hce181; have HR181_6 := Aside0.mk hi181_6; have HC181_6 := Aside0.mk hl181_6; clear hi181_6 hl181_6; replace p181 := eq_true p181; replace q181 := eq_true q181; have ea_ := Option.some.inj (hx180_6.symm.trans hx181_6); injection ea_ with ea_ en_ ec_; subst ea_; subst ec_; clear en_))
                    repeat (go_quiet (first | (go_at_call 57; (with_reducible refine (sashref04_May.calls ((rd_T26 t175 x15_1).f1.f0) ((rd_T26 t175 x15_1).f1.f1) ((rd_T26 t175 x15_1).f1.f2) ((rd_T26 t175 x15_1).f1.f3) true _ A16.out).mono ?_); rintro e w20 ⟨rfl, hb⟩; have n0_ := Aside0.mk (Kd.N_below (by (with_reducible repeat (first | apply Kd.N_alloc | apply Kd.N_drewN | apply Kd.N_drew)); exact HO_3.out) hb); have n1_ := Aside0.mk (Kd.V_below (by (with_reducible repeat (first | apply Kd.V_alloc | apply Kd.V_drewN | apply Kd.V_drew)); exact HL178_6.out) hb); have n2_ := Aside0.mk (blk_below (g := gb174) (o := .cells #[.int .u8 a0_0, .int .i64 a0_1, .int .i64 a0_2, .int .i64 a0_3, .int .i64 a0_4, .int .i64 a0_5, .slice A0_6 l0_6.length c0_6] 26 (0, 0)) (by (with_reducible repeat (first | refine blk_drewN ?_ _ | refine blk_drew ?_ | refine blk_alloc ?_ _)); exact BK174.out) hb); have n3_ := Aside0.mk (Kd.C_below (by repeat (first | (with_reducible exact HR178_6.out) | (with_reducible refine Kd.C_alloc ?_ _) | (with_reducible refine Kd.C_drewN ?_ _) | (with_reducible refine Kd.C_drew ?_) | exact HR178_6.out)) hb); have n4_ := Aside0.mk (below_step (by repeat (first | (with_reducible first | exact HB.out | apply below_alloc | apply pw_below_drewN | apply below_drew1 | refine below_set ?_ GE174.out) | exact HB.out)) hb); clear HO_3; clear HL178_6; clear BK174; clear HR178_6; clear HB; have HO_3 := n0_; have HL178_6 := n1_; have BK174 := n2_; have HR178_6 := n3_; have HB := n4_; clear n0_ n1_ n2_ n3_ n4_; (try clear hb); (try clear hb2); (try clear hk); (try clear hi); have p180 : 0 ≤ (x15_1 : Int) := of_decide_eq_true (by first | (with_reducible assumption) | assumption); have q180 : x15_1 < (t175.length : Int) := of_decide_eq_true (by first | (with_reducible assumption) | assumption); obtain ⟨ad180, A180_6, c180_6, e180, hx180_0, hx180_1, hx180_2, hx180_3, hx180_4, hx180_5, hx180_6, hl180_6, hi180_6⟩ := at_T26 (Kd.N_reads' HO_3.out).2.2 x15_1 p180 q180; obtain rfl : ad178 = ad180 := (by injection e180); obtain ⟨ce180, hce180, hMe180, hcc180⟩ := Kd.N_get HO_3.out z26 x15_1 p180 (by first | exact q180 | exact of_decide_eq_true (by first | (with_reducible assumption) | assumption) | (have e_ := (Kd.N_reads' HO_3.out).1; omega)); obtain ⟨ua180_6, uc180_6, rfl, ul180_6, ge180_6⟩ := k26_openF hMe180; have hv180_6 := hcc180 6 _ rfl; rw [add_field _ _ 6 (by omega)] at hv180_6; replace hv180_6 := Option.some.inj (hv180_6.symm.trans hx180_6); injection hv180_6 with hva_ hvn_ hvc_; rw [hva_] at ge180_6; rw [hvc_] at ul180_6; have HL180_6 := Aside0.mk (show Kd.V k26 26 _ w.heap.size _ _ ((rd_T26 t175 x15_1).f3) from Kd.V_mk ul180_6 ge180_6); clear hva_ hvn_ hvc_ ge180_6 ul180_6; clear hcc180 hce180; have HR180_6 := Aside0.mk hi180_6; have HC180_6 := Aside0.mk hl180_6; clear hi180_6 hl180_6; replace p180 := eq_true p180; replace q180 := eq_true q180; have p181 : 0 ≤ (x15_1 : Int) := of_decide_eq_true (by first | (with_reducible assumption) | assumption); have q181 : x15_1 < (t175.length : Int) := of_decide_eq_true (by first | (with_reducible assumption) | assumption); obtain ⟨ad181, A181_6, c181_6, e181, hx181_0, hx181_1, hx181_2, hx181_3, hx181_4, hx181_5, hx181_6, hl181_6, hi181_6⟩ := at_T26 (Kd.N_reads' HO_3.out).2.2 x15_1 p181 q181; obtain rfl : ad178 = ad181 := (by injection e181); obtain ⟨ce181, hce181, hMe181, hcc181⟩ := Kd.N_get HO_3.out z26 x15_1 p181 (by first | exact q181 | exact of_decide_eq_true (by first | (with_reducible assumption) | assumption) | (have e_ := (Kd.N_reads' HO_3.out).1; omega)); obtain ⟨ua181_6, uc181_6, rfl, ul181_6, ge181_6⟩ := k26_openF hMe181; have hv181_6 := hcc181 6 _ rfl; rw [add_field _ _ 6 (by omega)] at hv181_6; replace hv181_6 := Option.some.inj (hv181_6.symm.trans hx181_6); injection hv181_6 with hva_ hvn_ hvc_; rw [hva_] at ge181_6; rw [hvc_] at ul181_6; have HL181_6 := Aside0.mk (show Kd.V k26 26 _ w.heap.size _ _ ((rd_T26 t175 x15_1).f3) from Kd.V_mk ul181_6 ge181_6); clear hva_ hvn_ hvc_ ge181_6 ul181_6; clear hcc181 hce181; have HR181_6 := Aside0.mk hi181_6; have HC181_6 := Aside0.mk hl181_6; clear hi181_6 hl181_6; replace p181 := eq_true p181; replace q181 := eq_true q181; have ea_ := Option.some.inj (hx180_6.symm.trans hx181_6); injection ea_ with ea_ en_ ec_; subst ea_; subst ec_; clear en_)); try go_wp2_with (first | (go_at_call 57; (with_reducible refine (sashref04_May.calls ((rd_T26 t175 x15_1).f1.f0) ((rd_T26 t175 x15_1).f1.f1) ((rd_T26 t175 x15_1).f1.f2) ((rd_T26 t175 x15_1).f1.f3) true _ A16.out).mono ?_); rintro e w20 ⟨rfl, hb⟩; have n0_ := Aside0.mk (Kd.N_below (by (with_reducible repeat (first | apply Kd.N_alloc | apply Kd.N_drewN | apply Kd.N_drew)); exact HO_3.out) hb); have n1_ := Aside0.mk (Kd.V_below (by (with_reducible repeat (first | apply Kd.V_alloc | apply Kd.V_drewN | apply Kd.V_drew)); exact HL178_6.out) hb); have n2_ := Aside0.mk (blk_below (g := gb174) (o := .cells #[.int .u8 a0_0, .int .i64 a0_1, .int .i64 a0_2, .int .i64 a0_3, .int .i64 a0_4, .int .i64 a0_5, .slice A0_6 l0_6.length c0_6] 26 (0, 0)) (by (with_reducible repeat (first | refine blk_drewN ?_ _ | refine blk_drew ?_ | refine blk_alloc ?_ _)); exact BK174.out) hb); have n3_ := Aside0.mk (Kd.C_below (by repeat (first | (with_reducible exact HR178_6.out) | (with_reducible refine Kd.C_alloc ?_ _) | (with_reducible refine Kd.C_drewN ?_ _) | (with_reducible refine Kd.C_drew ?_) | exact HR178_6.out)) hb); have n4_ := Aside0.mk (below_step (by repeat (first | (with_reducible first | exact HB.out | apply below_alloc | apply pw_below_drewN | apply below_drew1 | refine below_set ?_ GE174.out) | exact HB.out)) hb); clear HO_3; clear HL178_6; clear BK174; clear HR178_6; clear HB; have HO_3 := n0_; have HL178_6 := n1_; have BK174 := n2_; have HR178_6 := n3_; have HB := n4_; clear n0_ n1_ n2_ n3_ n4_; (try clear hb); (try clear hb2); (try clear hk); (try clear hi); have p180 : 0 ≤ (x15_1 : Int) := of_decide_eq_true (by first | (with_reducible assumption) | assumption); have q180 : x15_1 < (t175.length : Int) := of_decide_eq_true (by first | (with_reducible assumption) | assumption); obtain ⟨ad180, A180_6, c180_6, e180, hx180_0, hx180_1, hx180_2, hx180_3, hx180_4, hx180_5, hx180_6, hl180_6, hi180_6⟩ := at_T26 (Kd.N_reads' HO_3.out).2.2 x15_1 p180 q180; obtain rfl : ad178 = ad180 := (by injection e180); obtain ⟨ce180, hce180, hMe180, hcc180⟩ := Kd.N_get HO_3.out z26 x15_1 p180 (by first | exact q180 | exact of_decide_eq_true (by first | (with_reducible assumption) | assumption) | (have e_ := (Kd.N_reads' HO_3.out).1; omega)); obtain ⟨ua180_6, uc180_6, rfl, ul180_6, ge180_6⟩ := k26_openF hMe180; have hv180_6 := hcc180 6 _ rfl; rw [add_field _ _ 6 (by omega)] at hv180_6; replace hv180_6 := Option.some.inj (hv180_6.symm.trans hx180_6); injection hv180_6 with hva_ hvn_ hvc_; rw [hva_] at ge180_6; rw [hvc_] at ul180_6; have HL180_6 := Aside0.mk (show Kd.V k26 26 _ w.heap.size _ _ ((rd_T26 t175 x15_1).f3) from Kd.V_mk ul180_6 ge180_6); clear hva_ hvn_ hvc_ ge180_6 ul180_6; clear hcc180 hce180; have HR180_6 := Aside0.mk hi180_6; have HC180_6 := Aside0.mk hl180_6; clear hi180_6 hl180_6; replace p180 := eq_true p180; replace q180 := eq_true q180; have p181 : 0 ≤ (x15_1 : Int) := of_decide_eq_true (by first | (with_reducible assumption) | assumption); have q181 : x15_1 < (t175.length : Int) := of_decide_eq_true (by first | (with_reducible assumption) | assumption); obtain ⟨ad181, A181_6, c181_6, e181, hx181_0, hx181_1, hx181_2, hx181_3, hx181_4, hx181_5, hx181_6, hl181_6, hi181_6⟩ := at_T26 (Kd.N_reads' HO_3.out).2.2 x15_1 p181 q181; obtain rfl : ad178 = ad181 := (by injection e181); obtain ⟨ce181, hce181, hMe181, hcc181⟩ := Kd.N_get HO_3.out z26 x15_1 p181 (by first | exact q181 | exact of_decide_eq_true (by first | (with_reducible assumption) | assumption) | (have e_ := (Kd.N_reads' HO_3.out).1; omega)); obtain ⟨ua181_6, uc181_6, rfl, ul181_6, ge181_6⟩ := k26_openF hMe181; have hv181_6 := hcc181 6 _ rfl; rw [add_field _ _ 6 (by omega)] at hv181_6; replace hv181_6 := Option.some.inj (hv181_6.symm.trans hx181_6); injection hv181_6 with hva_ hvn_ hvc_; rw [hva_] at ge181_6; rw [hvc_] at ul181_6; have HL181_6 := Aside0.mk (show Kd.V k26 26 _ w.heap.size _ _ ((rd_T26 t175 x15_1).f3) from Kd.V_mk ul181_6 ge181_6); clear hva_ hvn_ hvc_ ge181_6 ul181_6; clear hcc181 hce181; have HR181_6 := Aside0.mk hi181_6; have HC181_6 := Aside0.mk hl181_6; clear hi181_6 hl181_6; replace p181 := eq_true p181; replace q181 := eq_true q181; have ea_ := Option.some.inj (hx180_6.symm.trans hx181_6); injection ea_ with ea_ en_ ec_; subst ea_; subst ec_; clear en_)))
                    go_meet
                    case rel => exact ⟨_, (decide (((rd_T26 t175 x15_1).f0) > 3)), (by first | rfl | (simp; done) | (simp [*]; done)), H', ⟨by have := HK1.out; first | omega | exact Nat.le_refl _⟩, ⟨by (with_reducible repeat (first | apply Kd.N_alloc | apply Kd.N_drewN | apply Kd.N_drew)); exact HO_3.out⟩, ⟨by (with_reducible repeat (first | refine blk_drewN ?_ _ | refine blk_drew ?_ | refine blk_alloc ?_ _)); exact BK174.out⟩, ⟨by repeat (first | (with_reducible first | exact HB.out | apply below_alloc | apply pw_below_drewN | apply below_drew1 | refine below_set ?_ GE174.out) | exact HB.out)⟩⟩
                · replace c17 := Bool.eq_false_iff.mpr c17
                  subst c17
                  have H1 : (sashref05_May.j1 k1 t175 x15_1 (t175.length : Int) x15_1 true a0_0 a0_1 a0_2 a0_3 a0_4 a0_5 l0_6) = some r := by rw [if_neg (show ¬ (false = true) by decide)] at H; exact H
                  clear H
                  have H := H1
                  clear H1
                  have H' := Aside0.mk H
                  clear H
                  have p178 : 0 ≤ (x15_1 : Int) := of_decide_eq_true (by first | (with_reducible assumption) | assumption)
                  have q178 : x15_1 < (t175.length : Int) := of_decide_eq_true (by first | (with_reducible assumption) | assumption)
                  obtain ⟨ad178, A178_6, c178_6, e178, hx178_0, hx178_1, hx178_2, hx178_3, hx178_4, hx178_5, hx178_6, hl178_6, hi178_6⟩ := at_T26 (Kd.N_reads' HO_3.out).2.2 x15_1 p178 q178
                  cases e178
                  obtain ⟨ce178, hce178, hMe178, hcc178⟩ := Kd.N_get HO_3.out z26 x15_1 p178 (by first | exact q178 | exact of_decide_eq_true (by first | (with_reducible assumption) | assumption) | (have e_ := (Kd.N_reads' HO_3.out).1; omega))
                  obtain ⟨ua178_6, uc178_6, rfl, ul178_6, ge178_6⟩ := k26_openF hMe178
                  have hv178_6 := hcc178 6 _ rfl
                  rw [add_field _ _ 6 (by omega)] at hv178_6
                  replace hv178_6 := Option.some.inj (hv178_6.symm.trans hx178_6)
                  injection hv178_6 with hva_ hvn_ hvc_
                  rw [hva_] at ge178_6
                  rw [hvc_] at ul178_6
                  have HL178_6 := Aside0.mk (show Kd.V k26 26 _ w.heap.size _ _ ((rd_T26 t175 x15_1).f3) from Kd.V_mk ul178_6 ge178_6)
                  clear hva_ hvn_ hvc_ ge178_6 ul178_6
                  clear hcc178 hce178
                  have HR178_6 := Aside0.mk hi178_6
                  have HC178_6 := Aside0.mk hl178_6
                  clear hi178_6 hl178_6
                  replace p178 := eq_true p178
                  replace q178 := eq_true q178
                  go_wp2_with (first | (go_at_call 57; (with_reducible refine (sashref04_May.calls ((rd_T26 t175 x15_1).f1.f0) ((rd_T26 t175 x15_1).f1.f1) ((rd_T26 t175 x15_1).f1.f2) ((rd_T26 t175 x15_1).f1.f3) false _ A16.out).mono ?_); rintro e w21 ⟨rfl, hb⟩; have n0_ := Aside0.mk (Kd.N_below (by (with_reducible repeat (first | apply Kd.N_alloc | apply Kd.N_drewN | apply Kd.N_drew)); exact HO_3.out) hb); have n1_ := Aside0.mk (Kd.V_below (by (with_reducible repeat (first | apply Kd.V_alloc | apply Kd.V_drewN | apply Kd.V_drew)); exact HL178_6.out) hb); have n2_ := Aside0.mk (blk_below (g := gb174) (o := .cells #[.int .u8 a0_0, .int .i64 a0_1, .int .i64 a0_2, .int .i64 a0_3, .int .i64 a0_4, .int .i64 a0_5, .slice A0_6 l0_6.length c0_6] 26 (0, 0)) (by (with_reducible repeat (first | refine blk_drewN ?_ _ | refine blk_drew ?_ | refine blk_alloc ?_ _)); exact BK174.out) hb); have n3_ := Aside0.mk (Kd.C_below (by repeat (first | (with_reducible exact HR178_6.out) | (with_reducible refine Kd.C_alloc ?_ _) | (with_reducible refine Kd.C_drewN ?_ _) | (with_reducible refine Kd.C_drew ?_) | exact HR178_6.out)) hb); have n4_ := Aside0.mk (below_step (by repeat (first | (with_reducible first | exact HB.out | apply below_alloc | apply pw_below_drewN | apply below_drew1 | refine below_set ?_ GE174.out) | exact HB.out)) hb); clear HO_3; clear HL178_6; clear BK174; clear HR178_6; clear HB; have HO_3 := n0_; have HL178_6 := n1_; have BK174 := n2_; have HR178_6 := n3_; have HB := n4_; clear n0_ n1_ n2_ n3_ n4_; (try clear hb); (try clear hb2); (try clear hk); (try clear hi)))
                  repeat (go_quiet (first | (go_at_call 57; (with_reducible refine (sashref04_May.calls ((rd_T26 t175 x15_1).f1.f0) ((rd_T26 t175 x15_1).f1.f1) ((rd_T26 t175 x15_1).f1.f2) ((rd_T26 t175 x15_1).f1.f3) false _ A16.out).mono ?_); rintro e w21 ⟨rfl, hb⟩; have n0_ := Aside0.mk (Kd.N_below (by (with_reducible repeat (first | apply Kd.N_alloc | apply Kd.N_drewN | apply Kd.N_drew)); exact HO_3.out) hb); have n1_ := Aside0.mk (Kd.V_below (by (with_reducible repeat (first | apply Kd.V_alloc | apply Kd.V_drewN | apply Kd.V_drew)); exact HL178_6.out) hb); have n2_ := Aside0.mk (blk_below (g := gb174) (o := .cells #[.int .u8 a0_0, .int .i64 a0_1, .int .i64 a0_2, .int .i64 a0_3, .int .i64 a0_4, .int .i64 a0_5, .slice A0_6 l0_6.length c0_6] 26 (0, 0)) (by (with_reducible repeat (first | refine blk_drewN ?_ _ | refine blk_drew ?_ | refine blk_alloc ?_ _)); exact BK174.out) hb); have n3_ := Aside0.mk (Kd.C_below (by repeat (first | (with_reducible exact HR178_6.out) | (with_reducible refine Kd.C_alloc ?_ _) | (with_reducible refine Kd.C_drewN ?_ _) | (with_reducible refine Kd.C_drew ?_) | exact HR178_6.out)) hb); have n4_ := Aside0.mk (below_step (by repeat (first | (with_reducible first | exact HB.out | apply below_alloc | apply pw_below_drewN | apply below_drew1 | refine below_set ?_ GE174.out) | exact HB.out)) hb); clear HO_3; clear HL178_6; clear BK174; clear HR178_6; clear HB; have HO_3 := n0_; have HL178_6 := n1_; have BK174 := n2_; have HR178_6 := n3_; have HB := n4_; clear n0_ n1_ n2_ n3_ n4_; (try clear hb); (try clear hb2); (try clear hk); (try clear hi))); try go_wp2_with (first | (go_at_call 57; (with_reducible refine (sashref04_May.calls ((rd_T26 t175 x15_1).f1.f0) ((rd_T26 t175 x15_1).f1.f1) ((rd_T26 t175 x15_1).f1.f2) ((rd_T26 t175 x15_1).f1.f3) false _ A16.out).mono ?_); rintro e w21 ⟨rfl, hb⟩; have n0_ := Aside0.mk (Kd.N_below (by (with_reducible repeat (first | apply Kd.N_alloc | apply Kd.N_drewN | apply Kd.N_drew)); exact HO_3.out) hb); have n1_ := Aside0.mk (Kd.V_below (by (with_reducible repeat (first | apply Kd.V_alloc | apply Kd.V_drewN | apply Kd.V_drew)); exact HL178_6.out) hb); have n2_ := Aside0.mk (blk_below (g := gb174) (o := .cells #[.int .u8 a0_0, .int .i64 a0_1, .int .i64 a0_2, .int .i64 a0_3, .int .i64 a0_4, .int .i64 a0_5, .slice A0_6 l0_6.length c0_6] 26 (0, 0)) (by (with_reducible repeat (first | refine blk_drewN ?_ _ | refine blk_drew ?_ | refine blk_alloc ?_ _)); exact BK174.out) hb); have n3_ := Aside0.mk (Kd.C_below (by repeat (first | (with_reducible exact HR178_6.out) | (with_reducible refine Kd.C_alloc ?_ _) | (with_reducible refine Kd.C_drewN ?_ _) | (with_reducible refine Kd.C_drew ?_) | exact HR178_6.out)) hb); have n4_ := Aside0.mk (below_step (by repeat (first | (with_reducible first | exact HB.out | apply below_alloc | apply pw_below_drewN | apply below_drew1 | refine below_set ?_ GE174.out) | exact HB.out)) hb); clear HO_3; clear HL178_6; clear BK174; clear HR178_6; clear HB; have HO_3 := n0_; have HL178_6 := n1_; have BK174 := n2_; have HR178_6 := n3_; have HB := n4_; clear n0_ n1_ n2_ n3_ n4_; (try clear hb); (try clear hb2); (try clear hk); (try clear hi))))
                  go_meet
                  case rel => exact ⟨_, (true), (by first | rfl | (simp; done) | (simp [*]; done)), H', ⟨by have := HK1.out; first | omega | exact Nat.le_refl _⟩, ⟨by (with_reducible repeat (first | apply Kd.N_alloc | apply Kd.N_drewN | apply Kd.N_drew)); exact HO_3.out⟩, ⟨by (with_reducible repeat (first | refine blk_drewN ?_ _ | refine blk_drew ?_ | refine blk_alloc ?_ _)); exact BK174.out⟩, ⟨by repeat (first | (with_reducible first | exact HB.out | apply below_alloc | apply pw_below_drewN | apply below_drew1 | refine below_set ?_ GE174.out) | exact HB.out)⟩⟩
              · rw [if_neg c15] at H
                exact absurd H (by simp)
            · rw [if_neg c14] at H
              exact absurd H (by simp)
          case rest =>
            clear HC13
            try clear c1
            try clear p1
            try clear q1
            try clear hx1
            try clear p2
            try clear c3
            try clear c3b0
            try clear c3b1
            try clear c12
            try clear c12b0
            try clear c14
            try clear c14b0
            try clear c15
            try clear c15b0
            try clear c17
            try clear p17
            try clear q17
            try clear hx17
            try clear c18
            try clear c18b0
            try clear p18
            try clear q18
            try clear hx18
            try clear hcz5_0
            try clear hcz5_1
            try clear hcz5_2
            try clear hcz5_3
            try clear hcz5_4
            try clear hcz5_5
            try clear hcz5_6
            try clear hcz9_0
            try clear hcz9_1
            try clear hcz9_2
            try clear hcz9_3
            try clear hcz9_4
            try clear hcz9_5
            try clear hcz9_6
            try clear hfz5_0
            try clear hfz5_1
            try clear hfz5_2
            try clear hfz5_3
            try clear hfz5_4
            try clear hfz5_5
            try clear hfz5_6
            try clear hfz9_0
            try clear hfz9_1
            try clear hfz9_2
            try clear hfz9_3
            try clear hfz9_4
            try clear hfz9_5
            try clear hfz9_6
            try clear hx178_0
            try clear hx178_1
            try clear hx178_2
            try clear hx178_3
            try clear hx178_4
            try clear hx178_5
            try clear hx178_6
            try clear hx180_0
            try clear hx180_1
            try clear hx180_2
            try clear hx180_3
            try clear hx180_4
            try clear hx180_5
            try clear hx180_6
            try clear hx181_0
            try clear hx181_1
            try clear hx181_2
            try clear hx181_3
            try clear hx181_4
            try clear hx181_5
            try clear hx181_6
            try clear p178
            try clear p180
            try clear p181
            try clear p2
            try clear q178
            try clear q180
            try clear q181
            obtain ⟨kq, x40_12, rfl, HA, HJ12, HO_3, BK174, HB⟩ := hcut
            cases kq with
            | zero => exact absurd HA.out (by simp [sashref05_May.j1])
            | succ kj12 =>
              have H := HA.out
              clear HA
              simp only [sashref05_May.j1] at H
              by_cases c22 : x40_12 = true
              · subst c22
                have H1 : (some false) = some r := by rw [if_pos rfl] at H; exact H
                clear H
                have H := H1
                clear H1
                obtain rfl := Option.some.inj H
                go_wp2
                repeat (go_quiet (fail); try go_wp2)
                go_ret
                exact ⟨by first | rfl | (simp [errW_none, errW_some] <;> rfl) | (simp [*, errW_none, errW_some] <;> rfl), by repeat (first | (with_reducible first | exact HB.out | apply below_alloc | apply pw_below_drewN | apply below_drew1 | refine below_set ?_ GE174.out) | exact HB.out)⟩
              · replace c22 := Bool.eq_false_iff.mpr c22
                subst c22
                have H1 : (if 0 ≤ x15_1 then (if x15_1 < (t175.length : Int) then (if ((rd_T26 t175 x15_1).f0) = 1 then (if (((rd_T26 t175 x15_1).f3).length : Int) > 0 then (some false) else (if ((rd_T26 t175 x15_1).f2) < 0 then (some false) else (if ((rd_T26 t175 x15_1).f2) > 2147483647 then (some false) else (if ((rd_T26 t175 x15_1).f0) > 1 then (if (((rd_T26 t175 x15_1).f3).length : Int) < 2 then (some false) else (if ((rd_T26 t175 x15_1).f2) = 0 then (sashref05_May.l0 kj12 t175 (t175.length : Int) (wrap64 (x15_1 + 1)) a0_0 a0_1 a0_2 a0_3 a0_4 a0_5 l0_6) else (some false))) else (sashref05_May.l0 kj12 t175 (t175.length : Int) (wrap64 (x15_1 + 1)) a0_0 a0_1 a0_2 a0_3 a0_4 a0_5 l0_6))))) else (if ((rd_T26 t175 x15_1).f0) > 1 then (if (((rd_T26 t175 x15_1).f3).length : Int) < 2 then (some false) else (if ((rd_T26 t175 x15_1).f2) = 0 then (sashref05_May.l0 kj12 t175 (t175.length : Int) (wrap64 (x15_1 + 1)) a0_0 a0_1 a0_2 a0_3 a0_4 a0_5 l0_6) else (some false))) else (sashref05_May.l0 kj12 t175 (t175.length : Int) (wrap64 (x15_1 + 1)) a0_0 a0_1 a0_2 a0_3 a0_4 a0_5 l0_6))) else (none)) else (none)) = some r := by rw [if_neg (show ¬ (false = true) by decide)] at H; exact H
                clear H
                have H := H1
                clear H1
                by_cases c23 : 0 ≤ x15_1
                · rw [if_pos c23] at H
                  have c23b0 : decide (0 ≤ x15_1) = true := decide_eq_true c23
                  clear c23
                  by_cases c24 : x15_1 < (t175.length : Int)
                  · rw [if_pos c24] at H
                    have c24b0 : decide (x15_1 < (t175.length : Int)) = true := decide_eq_true c24
                    clear c24
                    by_cases c25 : ((rd_T26 t175 x15_1).f0) = 1
                    · rw [if_pos c25] at H
                      have c25b0 : (((rd_T26 t175 x15_1).f0) == 1) = true := beq_iff_eq.mpr c25
                      have c25b1 : (((rd_T26 t175 x15_1).f0) != 1) = false := bne_eq_false_iff_eq.mpr c25
                      clear c25
                      by_cases c26 : (((rd_T26 t175 x15_1).f3).length : Int) > 0
                      · rw [if_pos c26] at H
                        have c26b0 : decide (0 < (((rd_T26 t175 x15_1).f3).length : Int)) = true := decide_eq_true c26
                        have c26b1 : decide (0 < ((rd_T26 t175 x15_1).f3).length) = true := decide_eq_true (by omega)
                        clear c26
                        obtain rfl := Option.some.inj H
                        have p182 : 0 ≤ (x15_1 : Int) := of_decide_eq_true (by first | (with_reducible assumption) | assumption)
                        have q182 : x15_1 < (t175.length : Int) := of_decide_eq_true (by first | (with_reducible assumption) | assumption)
                        obtain ⟨ad182, A182_6, c182_6, e182, hx182_0, hx182_1, hx182_2, hx182_3, hx182_4, hx182_5, hx182_6, hl182_6, hi182_6⟩ := at_T26 (Kd.N_reads' HO_3.out).2.2 x15_1 p182 q182
                        cases e182
                        obtain ⟨ce182, hce182, hMe182, hcc182⟩ := Kd.N_get HO_3.out z26 x15_1 p182 (by first | exact q182 | exact of_decide_eq_true (by first | (with_reducible assumption) | assumption) | (have e_ := (Kd.N_reads' HO_3.out).1; omega))
                        obtain ⟨ua182_6, uc182_6, rfl, ul182_6, ge182_6⟩ := k26_openF hMe182
                        have hv182_6 := hcc182 6 _ rfl
                        rw [add_field _ _ 6 (by omega)] at hv182_6
                        replace hv182_6 := Option.some.inj (hv182_6.symm.trans hx182_6)
                        injection hv182_6 with hva_ hvn_ hvc_
                        rw [hva_] at ge182_6
                        rw [hvc_] at ul182_6
                        have HL182_6 := Aside0.mk (show Kd.V k26 26 _ w.heap.size _ _ ((rd_T26 t175 x15_1).f3) from Kd.V_mk ul182_6 ge182_6)
                        clear hva_ hvn_ hvc_ ge182_6 ul182_6
                        clear hcc182 hce182
                        have HR182_6 := Aside0.mk hi182_6
                        have HC182_6 := Aside0.mk hl182_6
                        clear hi182_6 hl182_6
                        replace p182 := eq_true p182
                        replace q182 := eq_true q182
                        have p183 : 0 ≤ (x15_1 : Int) := of_decide_eq_true (by first | (with_reducible assumption) | assumption)
                        have q183 : x15_1 < (t175.length : Int) := of_decide_eq_true (by first | (with_reducible assumption) | assumption)
                        obtain ⟨ad183, A183_6, c183_6, e183, hx183_0, hx183_1, hx183_2, hx183_3, hx183_4, hx183_5, hx183_6, hl183_6, hi183_6⟩ := at_T26 (Kd.N_reads' HO_3.out).2.2 x15_1 p183 q183
                        obtain rfl : ad182 = ad183 := (by injection e183)
                        obtain ⟨ce183, hce183, hMe183, hcc183⟩ := Kd.N_get HO_3.out z26 x15_1 p183 (by first | exact q183 | exact of_decide_eq_true (by first | (with_reducible assumption) | assumption) | (have e_ := (Kd.N_reads' HO_3.out).1; omega))
                        obtain ⟨ua183_6, uc183_6, rfl, ul183_6, ge183_6⟩ := k26_openF hMe183
                        have hv183_6 := hcc183 6 _ rfl
                        rw [add_field _ _ 6 (by omega)] at hv183_6
                        replace hv183_6 := Option.some.inj (hv183_6.symm.trans hx183_6)
                        injection hv183_6 with hva_ hvn_ hvc_
                        rw [hva_] at ge183_6
                        rw [hvc_] at ul183_6
                        have HL183_6 := Aside0.mk (show Kd.V k26 26 _ w.heap.size _ _ ((rd_T26 t175 x15_1).f3) from Kd.V_mk ul183_6 ge183_6)
                        clear hva_ hvn_ hvc_ ge183_6 ul183_6
                        clear hcc183 hce183
                        have HR183_6 := Aside0.mk hi183_6
                        have HC183_6 := Aside0.mk hl183_6
                        clear hi183_6 hl183_6
                        replace p183 := eq_true p183
                        replace q183 := eq_true q183
                        have ea_ := Option.some.inj (hx182_6.symm.trans hx183_6)
                        injection ea_ with ea_ en_ ec_
                        subst ea_
                        subst ec_
                        clear en_
                        go_wp2
                        repeat (go_quiet (fail); try go_wp2)
                        go_ret
                        exact ⟨by first | rfl | (simp [errW_none, errW_some] <;> rfl) | (simp [*, errW_none, errW_some] <;> rfl), by repeat (first | (with_reducible first | exact HB.out | apply below_alloc | apply pw_below_drewN | apply below_drew1 | refine below_set ?_ GE174.out) | exact HB.out)⟩
                      · rw [if_neg c26] at H
                        have c26b0 : decide (0 < (((rd_T26 t175 x15_1).f3).length : Int)) = false := decide_eq_false c26
                        have c26b1 : decide (0 < ((rd_T26 t175 x15_1).f3).length) = false := decide_eq_false (by omega)
                        clear c26
                        by_cases c27 : ((rd_T26 t175 x15_1).f2) < 0
                        · rw [if_pos c27] at H
                          have c27b0 : decide (((rd_T26 t175 x15_1).f2) < 0) = true := decide_eq_true c27
                          clear c27
                          obtain rfl := Option.some.inj H
                          have p182 : 0 ≤ (x15_1 : Int) := of_decide_eq_true (by first | (with_reducible assumption) | assumption)
                          have q182 : x15_1 < (t175.length : Int) := of_decide_eq_true (by first | (with_reducible assumption) | assumption)
                          obtain ⟨ad182, A182_6, c182_6, e182, hx182_0, hx182_1, hx182_2, hx182_3, hx182_4, hx182_5, hx182_6, hl182_6, hi182_6⟩ := at_T26 (Kd.N_reads' HO_3.out).2.2 x15_1 p182 q182
                          cases e182
                          obtain ⟨ce182, hce182, hMe182, hcc182⟩ := Kd.N_get HO_3.out z26 x15_1 p182 (by first | exact q182 | exact of_decide_eq_true (by first | (with_reducible assumption) | assumption) | (have e_ := (Kd.N_reads' HO_3.out).1; omega))
                          obtain ⟨ua182_6, uc182_6, rfl, ul182_6, ge182_6⟩ := k26_openF hMe182
                          have hv182_6 := hcc182 6 _ rfl
                          rw [add_field _ _ 6 (by omega)] at hv182_6
                          replace hv182_6 := Option.some.inj (hv182_6.symm.trans hx182_6)
                          injection hv182_6 with hva_ hvn_ hvc_
                          rw [hva_] at ge182_6
                          rw [hvc_] at ul182_6
                          have HL182_6 := Aside0.mk (show Kd.V k26 26 _ w.heap.size _ _ ((rd_T26 t175 x15_1).f3) from Kd.V_mk ul182_6 ge182_6)
                          clear hva_ hvn_ hvc_ ge182_6 ul182_6
                          clear hcc182 hce182
                          have HR182_6 := Aside0.mk hi182_6
                          have HC182_6 := Aside0.mk hl182_6
                          clear hi182_6 hl182_6
                          replace p182 := eq_true p182
                          replace q182 := eq_true q182
                          have p183 : 0 ≤ (x15_1 : Int) := of_decide_eq_true (by first | (with_reducible assumption) | assumption)
                          have q183 : x15_1 < (t175.length : Int) := of_decide_eq_true (by first | (with_reducible assumption) | assumption)
                          obtain ⟨ad183, A183_6, c183_6, e183, hx183_0, hx183_1, hx183_2, hx183_3, hx183_4, hx183_5, hx183_6, hl183_6, hi183_6⟩ := at_T26 (Kd.N_reads' HO_3.out).2.2 x15_1 p183 q183
                          obtain rfl : ad182 = ad183 := (by injection e183)
                          obtain ⟨ce183, hce183, hMe183, hcc183⟩ := Kd.N_get HO_3.out z26 x15_1 p183 (by first | exact q183 | exact of_decide_eq_true (by first | (with_reducible assumption) | assumption) | (have e_ := (Kd.N_reads' HO_3.out).1; omega))
                          obtain ⟨ua183_6, uc183_6, rfl, ul183_6, ge183_6⟩ := k26_openF hMe183
                          have hv183_6 := hcc183 6 _ rfl
                          rw [add_field _ _ 6 (by omega)] at hv183_6
                          replace hv183_6 := Option.some.inj (hv183_6.symm.trans hx183_6)
                          injection hv183_6 with hva_ hvn_ hvc_
                          rw [hva_] at ge183_6
                          rw [hvc_] at ul183_6
                          have HL183_6 := Aside0.mk (show Kd.V k26 26 _ w.heap.size _ _ ((rd_T26 t175 x15_1).f3) from Kd.V_mk ul183_6 ge183_6)
                          clear hva_ hvn_ hvc_ ge183_6 ul183_6
                          clear hcc183 hce183
                          have HR183_6 := Aside0.mk hi183_6
                          have HC183_6 := Aside0.mk hl183_6
                          clear hi183_6 hl183_6
                          replace p183 := eq_true p183
                          replace q183 := eq_true q183
                          have ea_ := Option.some.inj (hx182_6.symm.trans hx183_6)
                          injection ea_ with ea_ en_ ec_
                          subst ea_
                          subst ec_
                          clear en_
                          have p184 : 0 ≤ (x15_1 : Int) := of_decide_eq_true (by first | (with_reducible assumption) | assumption)
                          have q184 : x15_1 < (t175.length : Int) := of_decide_eq_true (by first | (with_reducible assumption) | assumption)
                          obtain ⟨ad184, A184_6, c184_6, e184, hx184_0, hx184_1, hx184_2, hx184_3, hx184_4, hx184_5, hx184_6, hl184_6, hi184_6⟩ := at_T26 (Kd.N_reads' HO_3.out).2.2 x15_1 p184 q184
                          obtain rfl : ad182 = ad184 := (by injection e184)
                          obtain ⟨ce184, hce184, hMe184, hcc184⟩ := Kd.N_get HO_3.out z26 x15_1 p184 (by first | exact q184 | exact of_decide_eq_true (by first | (with_reducible assumption) | assumption) | (have e_ := (Kd.N_reads' HO_3.out).1; omega))
                          obtain ⟨ua184_6, uc184_6, rfl, ul184_6, ge184_6⟩ := k26_openF hMe184
                          have hv184_6 := hcc184 6 _ rfl
                          rw [add_field _ _ 6 (by omega)] at hv184_6
                          replace hv184_6 := Option.some.inj (hv184_6.symm.trans hx184_6)
                          injection hv184_6 with hva_ hvn_ hvc_
                          rw [hva_] at ge184_6
                          rw [hvc_] at ul184_6
                          have HL184_6 := Aside0.mk (show Kd.V k26 26 _ w.heap.size _ _ ((rd_T26 t175 x15_1).f3) from Kd.V_mk ul184_6 ge184_6)
                          clear hva_ hvn_ hvc_ ge184_6 ul184_6
                          clear hcc184 hce184
                          have HR184_6 := Aside0.mk hi184_6
                          have HC184_6 := Aside0.mk hl184_6
                          clear hi184_6 hl184_6
                          replace p184 := eq_true p184
                          replace q184 := eq_true q184
                          have ea_ := Option.some.inj (hx182_6.symm.trans hx184_6)
                          injection ea_ with ea_ en_ ec_
                          subst ea_
                          subst ec_
                          clear en_
                          go_wp2
                          repeat (go_quiet (fail); try go_wp2)
                          go_ret
                          exact ⟨by first | rfl | (simp [errW_none, errW_some] <;> rfl) | (simp [*, errW_none, errW_some] <;> rfl), by repeat (first | (with_reducible first | exact HB.out | apply below_alloc | apply pw_below_drewN | apply below_drew1 | refine below_set ?_ GE174.out) | exact HB.out)⟩
                        · rw [if_neg c27] at H
                          have c27b0 : decide (((rd_T26 t175 x15_1).f2) < 0) = false := decide_eq_false c27
                          clear c27
                          by_cases c28 : ((rd_T26 t175 x15_1).f2) > 2147483647
                          · rw [if_pos c28] at H
                            have c28b0 : decide (2147483647 < ((rd_T26 t175 x15_1).f2)) = true := decide_eq_true c28
                            clear c28
                            obtain rfl := Option.some.inj H
                            have p182 : 0 ≤ (x15_1 : Int) := of_decide_eq_true (by first | (with_reducible assumption) | assumption)
                            have q182 : x15_1 < (t175.length : Int) := of_decide_eq_true (by first | (with_reducible assumption) | assumption)
                            obtain ⟨ad182, A182_6, c182_6, e182, hx182_0, hx182_1, hx182_2, hx182_3, hx182_4, hx182_5, hx182_6, hl182_6, hi182_6⟩ := at_T26 (Kd.N_reads' HO_3.out).2.2 x15_1 p182 q182
                            cases e182
                            obtain ⟨ce182, hce182, hMe182, hcc182⟩ := Kd.N_get HO_3.out z26 x15_1 p182 (by first | exact q182 | exact of_decide_eq_true (by first | (with_reducible assumption) | assumption) | (have e_ := (Kd.N_reads' HO_3.out).1; omega))
                            obtain ⟨ua182_6, uc182_6, rfl, ul182_6, ge182_6⟩ := k26_openF hMe182
                            have hv182_6 := hcc182 6 _ rfl
                            rw [add_field _ _ 6 (by omega)] at hv182_6
                            replace hv182_6 := Option.some.inj (hv182_6.symm.trans hx182_6)
                            injection hv182_6 with hva_ hvn_ hvc_
                            rw [hva_] at ge182_6
                            rw [hvc_] at ul182_6
                            have HL182_6 := Aside0.mk (show Kd.V k26 26 _ w.heap.size _ _ ((rd_T26 t175 x15_1).f3) from Kd.V_mk ul182_6 ge182_6)
                            clear hva_ hvn_ hvc_ ge182_6 ul182_6
                            clear hcc182 hce182
                            have HR182_6 := Aside0.mk hi182_6
                            have HC182_6 := Aside0.mk hl182_6
                            clear hi182_6 hl182_6
                            replace p182 := eq_true p182
                            replace q182 := eq_true q182
                            have p183 : 0 ≤ (x15_1 : Int) := of_decide_eq_true (by first | (with_reducible assumption) | assumption)
                            have q183 : x15_1 < (t175.length : Int) := of_decide_eq_true (by first | (with_reducible assumption) | assumption)
                            obtain ⟨ad183, A183_6, c183_6, e183, hx183_0, hx183_1, hx183_2, hx183_3, hx183_4, hx183_5, hx183_6, hl183_6, hi183_6⟩ := at_T26 (Kd.N_reads' HO_3.out).2.2 x15_1 p183 q183
                            obtain rfl : ad182 = ad183 := (by injection e183)
                            obtain ⟨ce183, hce183, hMe183, hcc183⟩ := Kd.N_get HO_3.out z26 x15_1 p183 (by first | exact q183 | exact of_decide_eq_true (by first | (with_reducible assumption) | assumption) | (have e_ := (Kd.N_reads' HO_3.out).1; omega))
                            obtain ⟨ua183_6, uc183_6, rfl, ul183_6, ge183_6⟩ := k26_openF hMe183
                            have hv183_6 := hcc183 6 _ rfl
                            rw [add_field _ _ 6 (by omega)] at hv183_6
                            replace hv183_6 := Option.some.inj (hv183_6.symm.trans hx183_6)
                            injection hv183_6 with hva_ hvn_ hvc_
                            rw [hva_] at ge183_6
                            rw [hvc_] at ul183_6
                            have HL183_6 := Aside0.mk (show Kd.V k26 26 _ w.heap.size _ _ ((rd_T26 t175 x15_1).f3) from Kd.V_mk ul183_6 ge183_6)
                            clear hva_ hvn_ hvc_ ge183_6 ul183_6
                            clear hcc183 hce183
                            have HR183_6 := Aside0.mk hi183_6
                            have HC183_6 := Aside0.mk hl183_6
                            clear hi183_6 hl183_6
                            replace p183 := eq_true p183
                            replace q183 := eq_true q183
                            have ea_ := Option.some.inj (hx182_6.symm.trans hx183_6)
                            injection ea_ with ea_ en_ ec_
                            subst ea_
                            subst ec_
                            clear en_
                            have p184 : 0 ≤ (x15_1 : Int) := of_decide_eq_true (by first | (with_reducible assumption) | assumption)
                            have q184 : x15_1 < (t175.length : Int) := of_decide_eq_true (by first | (with_reducible assumption) | assumption)
                            obtain ⟨ad184, A184_6, c184_6, e184, hx184_0, hx184_1, hx184_2, hx184_3, hx184_4, hx184_5, hx184_6, hl184_6, hi184_6⟩ := at_T26 (Kd.N_reads' HO_3.out).2.2 x15_1 p184 q184
                            obtain rfl : ad182 = ad184 := (by injection e184)
                            obtain ⟨ce184, hce184, hMe184, hcc184⟩ := Kd.N_get HO_3.out z26 x15_1 p184 (by first | exact q184 | exact of_decide_eq_true (by first | (with_reducible assumption) | assumption) | (have e_ := (Kd.N_reads' HO_3.out).1; omega))
                            obtain ⟨ua184_6, uc184_6, rfl, ul184_6, ge184_6⟩ := k26_openF hMe184
                            have hv184_6 := hcc184 6 _ rfl
                            rw [add_field _ _ 6 (by omega)] at hv184_6
                            replace hv184_6 := Option.some.inj (hv184_6.symm.trans hx184_6)
                            injection hv184_6 with hva_ hvn_ hvc_
                            rw [hva_] at ge184_6
                            rw [hvc_] at ul184_6
                            have HL184_6 := Aside0.mk (show Kd.V k26 26 _ w.heap.size _ _ ((rd_T26 t175 x15_1).f3) from Kd.V_mk ul184_6 ge184_6)
                            clear hva_ hvn_ hvc_ ge184_6 ul184_6
                            clear hcc184 hce184
                            have HR184_6 := Aside0.mk hi184_6
                            have HC184_6 := Aside0.mk hl184_6
                            clear hi184_6 hl184_6
                            replace p184 := eq_true p184
                            replace q184 := eq_true q184
                            have ea_ := Option.some.inj (hx182_6.symm.trans hx184_6)
                            injection ea_ with ea_ en_ ec_
                            subst ea_
                            subst ec_
                            clear en_
                            have p185 : 0 ≤ (x15_1 : Int) := of_decide_eq_true (by first | (with_reducible assumption) | assumption)
                            have q185 : x15_1 < (t175.length : Int) := of_decide_eq_true (by first | (with_reducible assumption) | assumption)
                            obtain ⟨ad185, A185_6, c185_6, e185, hx185_0, hx185_1, hx185_2, hx185_3, hx185_4, hx185_5, hx185_6, hl185_6, hi185_6⟩ := at_T26 (Kd.N_reads' HO_3.out).2.2 x15_1 p185 q185
                            obtain rfl : ad182 = ad185 := (by injection e185)
                            obtain ⟨ce185, hce185, hMe185, hcc185⟩ := Kd.N_get HO_3.out z26 x15_1 p185 (by first | exact q185 | exact of_decide_eq_true (by first | (with_reducible assumption) | assumption) | (have e_ := (Kd.N_reads' HO_3.out).1; omega))
                            obtain ⟨ua185_6, uc185_6, rfl, ul185_6, ge185_6⟩ := k26_openF hMe185
                            have hv185_6 := hcc185 6 _ rfl
                            rw [add_field _ _ 6 (by omega)] at hv185_6
                            replace hv185_6 := Option.some.inj (hv185_6.symm.trans hx185_6)
                            injection hv185_6 with hva_ hvn_ hvc_
                            rw [hva_] at ge185_6
                            rw [hvc_] at ul185_6
                            have HL185_6 := Aside0.mk (show Kd.V k26 26 _ w.heap.size _ _ ((rd_T26 t175 x15_1).f3) from Kd.V_mk ul185_6 ge185_6)
                            clear hva_ hvn_ hvc_ ge185_6 ul185_6
                            clear hcc185 hce185
                            have HR185_6 := Aside0.mk hi185_6
                            have HC185_6 := Aside0.mk hl185_6
                            clear hi185_6 hl185_6
                            replace p185 := eq_true p185
                            replace q185 := eq_true q185
                            have ea_ := Option.some.inj (hx182_6.symm.trans hx185_6)
                            injection ea_ with ea_ en_ ec_
                            subst ea_
                            subst ec_
                            clear en_
                            go_wp2
                            repeat (go_quiet (fail); try go_wp2)
                            go_ret
                            exact ⟨by first | rfl | (simp [errW_none, errW_some] <;> rfl) | (simp [*, errW_none, errW_some] <;> rfl), by repeat (first | (with_reducible first | exact HB.out | apply below_alloc | apply pw_below_drewN | apply below_drew1 | refine below_set ?_ GE174.out) | exact HB.out)⟩
                          · rw [if_neg c28] at H
                            have c28b0 : decide (2147483647 < ((rd_T26 t175 x15_1).f2)) = false := decide_eq_false c28
                            clear c28
                            by_cases c29 : ((rd_T26 t175 x15_1).f0) > 1
                            · rw [if_pos c29] at H
                              have c29b0 : decide (1 < ((rd_T26 t175 x15_1).f0)) = true := decide_eq_true c29
                              clear c29
                              by_cases c30 : (((rd_T26 t175 x15_1).f3).length : Int) < 2
                              · rw [if_pos c30] at H
                                have c30b0 : decide ((((rd_T26 t175 x15_1).f3).length : Int) < 2) = true := decide_eq_true c30
                                have c30b1 : decide (((rd_T26 t175 x15_1).f3).length < 2) = true := decide_eq_true (by omega)
                                clear c30
                                obtain rfl := Option.some.inj H
                                have p182 : 0 ≤ (x15_1 : Int) := of_decide_eq_true (by first | (with_reducible assumption) | assumption)
                                have q182 : x15_1 < (t175.length : Int) := of_decide_eq_true (by first | (with_reducible assumption) | assumption)
                                obtain ⟨ad182, A182_6, c182_6, e182, hx182_0, hx182_1, hx182_2, hx182_3, hx182_4, hx182_5, hx182_6, hl182_6, hi182_6⟩ := at_T26 (Kd.N_reads' HO_3.out).2.2 x15_1 p182 q182
                                cases e182
                                obtain ⟨ce182, hce182, hMe182, hcc182⟩ := Kd.N_get HO_3.out z26 x15_1 p182 (by first | exact q182 | exact of_decide_eq_true (by first | (with_reducible assumption) | assumption) | (have e_ := (Kd.N_reads' HO_3.out).1; omega))
                                obtain ⟨ua182_6, uc182_6, rfl, ul182_6, ge182_6⟩ := k26_openF hMe182
                                have hv182_6 := hcc182 6 _ rfl
                                rw [add_field _ _ 6 (by omega)] at hv182_6
                                replace hv182_6 := Option.some.inj (hv182_6.symm.trans hx182_6)
                                injection hv182_6 with hva_ hvn_ hvc_
                                rw [hva_] at ge182_6
                                rw [hvc_] at ul182_6
                                have HL182_6 := Aside0.mk (show Kd.V k26 26 _ w.heap.size _ _ ((rd_T26 t175 x15_1).f3) from Kd.V_mk ul182_6 ge182_6)
                                clear hva_ hvn_ hvc_ ge182_6 ul182_6
                                clear hcc182 hce182
                                have HR182_6 := Aside0.mk hi182_6
                                have HC182_6 := Aside0.mk hl182_6
                                clear hi182_6 hl182_6
                                replace p182 := eq_true p182
                                replace q182 := eq_true q182
                                have p183 : 0 ≤ (x15_1 : Int) := of_decide_eq_true (by first | (with_reducible assumption) | assumption)
                                have q183 : x15_1 < (t175.length : Int) := of_decide_eq_true (by first | (with_reducible assumption) | assumption)
                                obtain ⟨ad183, A183_6, c183_6, e183, hx183_0, hx183_1, hx183_2, hx183_3, hx183_4, hx183_5, hx183_6, hl183_6, hi183_6⟩ := at_T26 (Kd.N_reads' HO_3.out).2.2 x15_1 p183 q183
                                obtain rfl : ad182 = ad183 := (by injection e183)
                                obtain ⟨ce183, hce183, hMe183, hcc183⟩ := Kd.N_get HO_3.out z26 x15_1 p183 (by first | exact q183 | exact of_decide_eq_true (by first | (with_reducible assumption) | assumption) | (have e_ := (Kd.N_reads' HO_3.out).1; omega))
                                obtain ⟨ua183_6, uc183_6, rfl, ul183_6, ge183_6⟩ := k26_openF hMe183
                                have hv183_6 := hcc183 6 _ rfl
                                rw [add_field _ _ 6 (by omega)] at hv183_6
                                replace hv183_6 := Option.some.inj (hv183_6.symm.trans hx183_6)
                                injection hv183_6 with hva_ hvn_ hvc_
                                rw [hva_] at ge183_6
                                rw [hvc_] at ul183_6
                                have HL183_6 := Aside0.mk (show Kd.V k26 26 _ w.heap.size _ _ ((rd_T26 t175 x15_1).f3) from Kd.V_mk ul183_6 ge183_6)
                                clear hva_ hvn_ hvc_ ge183_6 ul183_6
                                clear hcc183 hce183
                                have HR183_6 := Aside0.mk hi183_6
                                have HC183_6 := Aside0.mk hl183_6
                                clear hi183_6 hl183_6
                                replace p183 := eq_true p183
                                replace q183 := eq_true q183
                                have ea_ := Option.some.inj (hx182_6.symm.trans hx183_6)
                                injection ea_ with ea_ en_ ec_
                                subst ea_
                                subst ec_
                                clear en_
                                have p184 : 0 ≤ (x15_1 : Int) := of_decide_eq_true (by first | (with_reducible assumption) | assumption)
                                have q184 : x15_1 < (t175.length : Int) := of_decide_eq_true (by first | (with_reducible assumption) | assumption)
                                obtain ⟨ad184, A184_6, c184_6, e184, hx184_0, hx184_1, hx184_2, hx184_3, hx184_4, hx184_5, hx184_6, hl184_6, hi184_6⟩ := at_T26 (Kd.N_reads' HO_3.out).2.2 x15_1 p184 q184
                                obtain rfl : ad182 = ad184 := (by injection e184)
                                obtain ⟨ce184, hce184, hMe184, hcc184⟩ := Kd.N_get HO_3.out z26 x15_1 p184 (by first | exact q184 | exact of_decide_eq_true (by first | (with_reducible assumption) | assumption) | (have e_ := (Kd.N_reads' HO_3.out).1; omega))
                                obtain ⟨ua184_6, uc184_6, rfl, ul184_6, ge184_6⟩ := k26_openF hMe184
                                have hv184_6 := hcc184 6 _ rfl
                                rw [add_field _ _ 6 (by omega)] at hv184_6
                                replace hv184_6 := Option.some.inj (hv184_6.symm.trans hx184_6)
                                injection hv184_6 with hva_ hvn_ hvc_
                                rw [hva_] at ge184_6
                                rw [hvc_] at ul184_6
                                have HL184_6 := Aside0.mk (show Kd.V k26 26 _ w.heap.size _ _ ((rd_T26 t175 x15_1).f3) from Kd.V_mk ul184_6 ge184_6)
                                clear hva_ hvn_ hvc_ ge184_6 ul184_6
                                clear hcc184 hce184
                                have HR184_6 := Aside0.mk hi184_6
                                have HC184_6 := Aside0.mk hl184_6
                                clear hi184_6 hl184_6
                                replace p184 := eq_true p184
                                replace q184 := eq_true q184
                                have ea_ := Option.some.inj (hx182_6.symm.trans hx184_6)
                                injection ea_ with ea_ en_ ec_
                                subst ea_
                                subst ec_
                                clear en_
                                have p185 : 0 ≤ (x15_1 : Int) := of_decide_eq_true (by first | (with_reducible assumption) | assumption)
                                have q185 : x15_1 < (t175.length : Int) := of_decide_eq_true (by first | (with_reducible assumption) | assumption)
                                obtain ⟨ad185, A185_6, c185_6, e185, hx185_0, hx185_1, hx185_2, hx185_3, hx185_4, hx185_5, hx185_6, hl185_6, hi185_6⟩ := at_T26 (Kd.N_reads' HO_3.out).2.2 x15_1 p185 q185
                                obtain rfl : ad182 = ad185 := (by injection e185)
                                obtain ⟨ce185, hce185, hMe185, hcc185⟩ := Kd.N_get HO_3.out z26 x15_1 p185 (by first | exact q185 | exact of_decide_eq_true (by first | (with_reducible assumption) | assumption) | (have e_ := (Kd.N_reads' HO_3.out).1; omega))
                                obtain ⟨ua185_6, uc185_6, rfl, ul185_6, ge185_6⟩ := k26_openF hMe185
                                have hv185_6 := hcc185 6 _ rfl
                                rw [add_field _ _ 6 (by omega)] at hv185_6
                                replace hv185_6 := Option.some.inj (hv185_6.symm.trans hx185_6)
                                injection hv185_6 with hva_ hvn_ hvc_
                                rw [hva_] at ge185_6
                                rw [hvc_] at ul185_6
                                have HL185_6 := Aside0.mk (show Kd.V k26 26 _ w.heap.size _ _ ((rd_T26 t175 x15_1).f3) from Kd.V_mk ul185_6 ge185_6)
                                clear hva_ hvn_ hvc_ ge185_6 ul185_6
                                clear hcc185 hce185
                                have HR185_6 := Aside0.mk hi185_6
                                have HC185_6 := Aside0.mk hl185_6
                                clear hi185_6 hl185_6
                                replace p185 := eq_true p185
                                replace q185 := eq_true q185
                                have ea_ := Option.some.inj (hx182_6.symm.trans hx185_6)
                                injection ea_ with ea_ en_ ec_
                                subst ea_
                                subst ec_
                                clear en_
                                have p186 : 0 ≤ (x15_1 : Int) := of_decide_eq_true (by first | (with_reducible assumption) | assumption)
                                have q186 : x15_1 < (t175.length : Int) := of_decide_eq_true (by first | (with_reducible assumption) | assumption)
                                obtain ⟨ad186, A186_6, c186_6, e186, hx186_0, hx186_1, hx186_2, hx186_3, hx186_4, hx186_5, hx186_6, hl186_6, hi186_6⟩ := at_T26 (Kd.N_reads' HO_3.out).2.2 x15_1 p186 q186
                                obtain rfl : ad182 = ad186 := (by injection e186)
                                obtain ⟨ce186, hce186, hMe186, hcc186⟩ := Kd.N_get HO_3.out z26 x15_1 p186 (by first | exact q186 | exact of_decide_eq_true (by first | (with_reducible assumption) | assumption) | (have e_ := (Kd.N_reads' HO_3.out).1; omega))
                                obtain ⟨ua186_6, uc186_6, rfl, ul186_6, ge186_6⟩ := k26_openF hMe186
                                have hv186_6 := hcc186 6 _ rfl
                                rw [add_field _ _ 6 (by omega)] at hv186_6
                                replace hv186_6 := Option.some.inj (hv186_6.symm.trans hx186_6)
                                injection hv186_6 with hva_ hvn_ hvc_
                                rw [hva_] at ge186_6
                                rw [hvc_] at ul186_6
                                have HL186_6 := Aside0.mk (show Kd.V k26 26 _ w.heap.size _ _ ((rd_T26 t175 x15_1).f3) from Kd.V_mk ul186_6 ge186_6)
                                clear hva_ hvn_ hvc_ ge186_6 ul186_6
                                clear hcc186 hce186
                                have HR186_6 := Aside0.mk hi186_6
                                have HC186_6 := Aside0.mk hl186_6
                                clear hi186_6 hl186_6
                                replace p186 := eq_true p186
                                replace q186 := eq_true q186
                                have ea_ := Option.some.inj (hx182_6.symm.trans hx186_6)
                                injection ea_ with ea_ en_ ec_
                                subst ea_
                                subst ec_
                                clear en_
                                have p187 : 0 ≤ (x15_1 : Int) := of_decide_eq_true (by first | (with_reducible assumption) | assumption)
                                have q187 : x15_1 < (t175.length : Int) := of_decide_eq_true (by first | (with_reducible assumption) | assumption)
                                obtain ⟨ad187, A187_6, c187_6, e187, hx187_0, hx187_1, hx187_2, hx187_3, hx187_4, hx187_5, hx187_6, hl187_6, hi187_6⟩ := at_T26 (Kd.N_reads' HO_3.out).2.2 x15_1 p187 q187
                                obtain rfl : ad182 = ad187 := (by injection e187)
                                obtain ⟨ce187, hce187, hMe187, hcc187⟩ := Kd.N_get HO_3.out z26 x15_1 p187 (by first | exact q187 | exact of_decide_eq_true (by first | (with_reducible assumption) | assumption) | (have e_ := (Kd.N_reads' HO_3.out).1; omega))
                                obtain ⟨ua187_6, uc187_6, rfl, ul187_6, ge187_6⟩ := k26_openF hMe187
                                have hv187_6 := hcc187 6 _ rfl
                                rw [add_field _ _ 6 (by omega)] at hv187_6
                                replace hv187_6 := Option.some.inj (hv187_6.symm.trans hx187_6)
                                injection hv187_6 with hva_ hvn_ hvc_
                                rw [hva_] at ge187_6
                                rw [hvc_] at ul187_6
                                have HL187_6 := Aside0.mk (show Kd.V k26 26 _ w.heap.size _ _ ((rd_T26 t175 x15_1).f3) from Kd.V_mk ul187_6 ge187_6)
                                clear hva_ hvn_ hvc_ ge187_6 ul187_6
                                clear hcc187 hce187
                                have HR187_6 := Aside0.mk hi187_6
                                have HC187_6 := Aside0.mk hl187_6
                                clear hi187_6 hl187_6
                                replace p187 := eq_true p187
                                replace q187 := eq_true q187
                                have ea_ := Option.some.inj (hx182_6.symm.trans hx187_6)
                                injection ea_ with ea_ en_ ec_
                                subst ea_
                                subst ec_
                                clear en_
                                go_wp2
                                repeat (go_quiet (fail); try go_wp2)
                                go_ret
                                exact ⟨by first | rfl | (simp [errW_none, errW_some] <;> rfl) | (simp [*, errW_none, errW_some] <;> rfl), by repeat (first | (with_reducible first | exact HB.out | apply below_alloc | apply pw_below_drewN | apply below_drew1 | refine below_set ?_ GE174.out) | exact HB.out)⟩
                              · rw [if_neg c30] at H
                                have c30b0 : decide ((((rd_T26 t175 x15_1).f3).length : Int) < 2) = false := decide_eq_false c30
                                have c30b1 : decide (((rd_T26 t175 x15_1).f3).length < 2) = false := decide_eq_false (by omega)
                                clear c30
                                by_cases c31 : ((rd_T26 t175 x15_1).f2) = 0
                                · rw [if_pos c31] at H
                                  have c31b0 : (((rd_T26 t175 x15_1).f2) == 0) = true := beq_iff_eq.mpr c31
                                  have c31b1 : (((rd_T26 t175 x15_1).f2) != 0) = false := bne_eq_false_iff_eq.mpr c31
                                  clear c31
                                  have H' := Aside0.mk H
                                  clear H
                                  have p182 : 0 ≤ (x15_1 : Int) := of_decide_eq_true (by first | (with_reducible assumption) | assumption)
                                  have q182 : x15_1 < (t175.length : Int) := of_decide_eq_true (by first | (with_reducible assumption) | assumption)
                                  obtain ⟨ad182, A182_6, c182_6, e182, hx182_0, hx182_1, hx182_2, hx182_3, hx182_4, hx182_5, hx182_6, hl182_6, hi182_6⟩ := at_T26 (Kd.N_reads' HO_3.out).2.2 x15_1 p182 q182
                                  cases e182
                                  obtain ⟨ce182, hce182, hMe182, hcc182⟩ := Kd.N_get HO_3.out z26 x15_1 p182 (by first | exact q182 | exact of_decide_eq_true (by first | (with_reducible assumption) | assumption) | (have e_ := (Kd.N_reads' HO_3.out).1; omega))
                                  obtain ⟨ua182_6, uc182_6, rfl, ul182_6, ge182_6⟩ := k26_openF hMe182
                                  have hv182_6 := hcc182 6 _ rfl
                                  rw [add_field _ _ 6 (by omega)] at hv182_6
                                  replace hv182_6 := Option.some.inj (hv182_6.symm.trans hx182_6)
                                  injection hv182_6 with hva_ hvn_ hvc_
                                  rw [hva_] at ge182_6
                                  rw [hvc_] at ul182_6
                                  have HL182_6 := Aside0.mk (show Kd.V k26 26 _ w.heap.size _ _ ((rd_T26 t175 x15_1).f3) from Kd.V_mk ul182_6 ge182_6)
                                  clear hva_ hvn_ hvc_ ge182_6 ul182_6
                                  clear hcc182 hce182
                                  have HR182_6 := Aside0.mk hi182_6
                                  have HC182_6 := Aside0.mk hl182_6
                                  clear hi182_6 hl182_6
                                  replace p182 := eq_true p182
                                  replace q182 := eq_true q182
                                  have p183 : 0 ≤ (x15_1 : Int) := of_decide_eq_true (by first | (with_reducible assumption) | assumption)
                                  have q183 : x15_1 < (t175.length : Int) := of_decide_eq_true (by first | (with_reducible assumption) | assumption)
                                  obtain ⟨ad183, A183_6, c183_6, e183, hx183_0, hx183_1, hx183_2, hx183_3, hx183_4, hx183_5, hx183_6, hl183_6, hi183_6⟩ := at_T26 (Kd.N_reads' HO_3.out).2.2 x15_1 p183 q183
                                  obtain rfl : ad182 = ad183 := (by injection e183)
                                  obtain ⟨ce183, hce183, hMe183, hcc183⟩ := Kd.N_get HO_3.out z26 x15_1 p183 (by first | exact q183 | exact of_decide_eq_true (by first | (with_reducible assumption) | assumption) | (have e_ := (Kd.N_reads' HO_3.out).1; omega))
                                  obtain ⟨ua183_6, uc183_6, rfl, ul183_6, ge183_6⟩ := k26_openF hMe183
                                  have hv183_6 := hcc183 6 _ rfl
                                  rw [add_field _ _ 6 (by omega)] at hv183_6
                                  replace hv183_6 := Option.some.inj (hv183_6.symm.trans hx183_6)
                                  injection hv183_6 with hva_ hvn_ hvc_
                                  rw [hva_] at ge183_6
                                  rw [hvc_] at ul183_6
                                  have HL183_6 := Aside0.mk (show Kd.V k26 26 _ w.heap.size _ _ ((rd_T26 t175 x15_1).f3) from Kd.V_mk ul183_6 ge183_6)
                                  clear hva_ hvn_ hvc_ ge183_6 ul183_6
                                  clear hcc183 hce183
                                  have HR183_6 := Aside0.mk hi183_6
                                  have HC183_6 := Aside0.mk hl183_6
                                  clear hi183_6 hl183_6
                                  replace p183 := eq_true p183
                                  replace q183 := eq_true q183
                                  have ea_ := Option.some.inj (hx182_6.symm.trans hx183_6)
                                  injection ea_ with ea_ en_ ec_
                                  subst ea_
                                  subst ec_
                                  clear en_
                                  have p184 : 0 ≤ (x15_1 : Int) := of_decide_eq_true (by first | (with_reducible assumption) | assumption)
                                  have q184 : x15_1 < (t175.length : Int) := of_decide_eq_true (by first | (with_reducible assumption) | assumption)
                                  obtain ⟨ad184, A184_6, c184_6, e184, hx184_0, hx184_1, hx184_2, hx184_3, hx184_4, hx184_5, hx184_6, hl184_6, hi184_6⟩ := at_T26 (Kd.N_reads' HO_3.out).2.2 x15_1 p184 q184
                                  obtain rfl : ad182 = ad184 := (by injection e184)
                                  obtain ⟨ce184, hce184, hMe184, hcc184⟩ := Kd.N_get HO_3.out z26 x15_1 p184 (by first | exact q184 | exact of_decide_eq_true (by first | (with_reducible assumption) | assumption) | (have e_ := (Kd.N_reads' HO_3.out).1; omega))
                                  obtain ⟨ua184_6, uc184_6, rfl, ul184_6, ge184_6⟩ := k26_openF hMe184
                                  have hv184_6 := hcc184 6 _ rfl
                                  rw [add_field _ _ 6 (by omega)] at hv184_6
                                  replace hv184_6 := Option.some.inj (hv184_6.symm.trans hx184_6)
                                  injection hv184_6 with hva_ hvn_ hvc_
                                  rw [hva_] at ge184_6
                                  rw [hvc_] at ul184_6
                                  have HL184_6 := Aside0.mk (show Kd.V k26 26 _ w.heap.size _ _ ((rd_T26 t175 x15_1).f3) from Kd.V_mk ul184_6 ge184_6)
                                  clear hva_ hvn_ hvc_ ge184_6 ul184_6
                                  clear hcc184 hce184
                                  have HR184_6 := Aside0.mk hi184_6
                                  have HC184_6 := Aside0.mk hl184_6
                                  clear hi184_6 hl184_6
                                  replace p184 := eq_true p184
                                  replace q184 := eq_true q184
                                  have ea_ := Option.some.inj (hx182_6.symm.trans hx184_6)
                                  injection ea_ with ea_ en_ ec_
                                  subst ea_
                                  subst ec_
                                  clear en_
                                  have p185 : 0 ≤ (x15_1 : Int) := of_decide_eq_true (by first | (with_reducible assumption) | assumption)
                                  have q185 : x15_1 < (t175.length : Int) := of_decide_eq_true (by first | (with_reducible assumption) | assumption)
                                  obtain ⟨ad185, A185_6, c185_6, e185, hx185_0, hx185_1, hx185_2, hx185_3, hx185_4, hx185_5, hx185_6, hl185_6, hi185_6⟩ := at_T26 (Kd.N_reads' HO_3.out).2.2 x15_1 p185 q185
                                  obtain rfl : ad182 = ad185 := (by injection e185)
                                  obtain ⟨ce185, hce185, hMe185, hcc185⟩ := Kd.N_get HO_3.out z26 x15_1 p185 (by first | exact q185 | exact of_decide_eq_true (by first | (with_reducible assumption) | assumption) | (have e_ := (Kd.N_reads' HO_3.out).1; omega))
                                  obtain ⟨ua185_6, uc185_6, rfl, ul185_6, ge185_6⟩ := k26_openF hMe185
                                  have hv185_6 := hcc185 6 _ rfl
                                  rw [add_field _ _ 6 (by omega)] at hv185_6
                                  replace hv185_6 := Option.some.inj (hv185_6.symm.trans hx185_6)
                                  injection hv185_6 with hva_ hvn_ hvc_
                                  rw [hva_] at ge185_6
                                  rw [hvc_] at ul185_6
                                  have HL185_6 := Aside0.mk (show Kd.V k26 26 _ w.heap.size _ _ ((rd_T26 t175 x15_1).f3) from Kd.V_mk ul185_6 ge185_6)
                                  clear hva_ hvn_ hvc_ ge185_6 ul185_6
                                  clear hcc185 hce185
                                  have HR185_6 := Aside0.mk hi185_6
                                  have HC185_6 := Aside0.mk hl185_6
                                  clear hi185_6 hl185_6
                                  replace p185 := eq_true p185
                                  replace q185 := eq_true q185
                                  have ea_ := Option.some.inj (hx182_6.symm.trans hx185_6)
                                  injection ea_ with ea_ en_ ec_
                                  subst ea_
                                  subst ec_
                                  clear en_
                                  have p186 : 0 ≤ (x15_1 : Int) := of_decide_eq_true (by first | (with_reducible assumption) | assumption)
                                  have q186 : x15_1 < (t175.length : Int) := of_decide_eq_true (by first | (with_reducible assumption) | assumption)
                                  obtain ⟨ad186, A186_6, c186_6, e186, hx186_0, hx186_1, hx186_2, hx186_3, hx186_4, hx186_5, hx186_6, hl186_6, hi186_6⟩ := at_T26 (Kd.N_reads' HO_3.out).2.2 x15_1 p186 q186
                                  obtain rfl : ad182 = ad186 := (by injection e186)
                                  obtain ⟨ce186, hce186, hMe186, hcc186⟩ := Kd.N_get HO_3.out z26 x15_1 p186 (by first | exact q186 | exact of_decide_eq_true (by first | (with_reducible assumption) | assumption) | (have e_ := (Kd.N_reads' HO_3.out).1; omega))
                                  obtain ⟨ua186_6, uc186_6, rfl, ul186_6, ge186_6⟩ := k26_openF hMe186
                                  have hv186_6 := hcc186 6 _ rfl
                                  rw [add_field _ _ 6 (by omega)] at hv186_6
                                  replace hv186_6 := Option.some.inj (hv186_6.symm.trans hx186_6)
                                  injection hv186_6 with hva_ hvn_ hvc_
                                  rw [hva_] at ge186_6
                                  rw [hvc_] at ul186_6
                                  have HL186_6 := Aside0.mk (show Kd.V k26 26 _ w.heap.size _ _ ((rd_T26 t175 x15_1).f3) from Kd.V_mk ul186_6 ge186_6)
                                  clear hva_ hvn_ hvc_ ge186_6 ul186_6
                                  clear hcc186 hce186
                                  have HR186_6 := Aside0.mk hi186_6
                                  have HC186_6 := Aside0.mk hl186_6
                                  clear hi186_6 hl186_6
                                  replace p186 := eq_true p186
                                  replace q186 := eq_true q186
                                  have ea_ := Option.some.inj (hx182_6.symm.trans hx186_6)
                                  injection ea_ with ea_ en_ ec_
                                  subst ea_
                                  subst ec_
                                  clear en_
                                  have p187 : 0 ≤ (x15_1 : Int) := of_decide_eq_true (by first | (with_reducible assumption) | assumption)
                                  have q187 : x15_1 < (t175.length : Int) := of_decide_eq_true (by first | (with_reducible assumption) | assumption)
                                  obtain ⟨ad187, A187_6, c187_6, e187, hx187_0, hx187_1, hx187_2, hx187_3, hx187_4, hx187_5, hx187_6, hl187_6, hi187_6⟩ := at_T26 (Kd.N_reads' HO_3.out).2.2 x15_1 p187 q187
                                  obtain rfl : ad182 = ad187 := (by injection e187)
                                  obtain ⟨ce187, hce187, hMe187, hcc187⟩ := Kd.N_get HO_3.out z26 x15_1 p187 (by first | exact q187 | exact of_decide_eq_true (by first | (with_reducible assumption) | assumption) | (have e_ := (Kd.N_reads' HO_3.out).1; omega))
                                  obtain ⟨ua187_6, uc187_6, rfl, ul187_6, ge187_6⟩ := k26_openF hMe187
                                  have hv187_6 := hcc187 6 _ rfl
                                  rw [add_field _ _ 6 (by omega)] at hv187_6
                                  replace hv187_6 := Option.some.inj (hv187_6.symm.trans hx187_6)
                                  injection hv187_6 with hva_ hvn_ hvc_
                                  rw [hva_] at ge187_6
                                  rw [hvc_] at ul187_6
                                  have HL187_6 := Aside0.mk (show Kd.V k26 26 _ w.heap.size _ _ ((rd_T26 t175 x15_1).f3) from Kd.V_mk ul187_6 ge187_6)
                                  clear hva_ hvn_ hvc_ ge187_6 ul187_6
                                  clear hcc187 hce187
                                  have HR187_6 := Aside0.mk hi187_6
                                  have HC187_6 := Aside0.mk hl187_6
                                  clear hi187_6 hl187_6
                                  replace p187 := eq_true p187
                                  replace q187 := eq_true q187
                                  have ea_ := Option.some.inj (hx182_6.symm.trans hx187_6)
                                  injection ea_ with ea_ en_ ec_
                                  subst ea_
                                  subst ec_
                                  clear en_
                                  have p188 : 0 ≤ (x15_1 : Int) := of_decide_eq_true (by first | (with_reducible assumption) | assumption)
                                  have q188 : x15_1 < (t175.length : Int) := of_decide_eq_true (by first | (with_reducible assumption) | assumption)
                                  obtain ⟨ad188, A188_6, c188_6, e188, hx188_0, hx188_1, hx188_2, hx188_3, hx188_4, hx188_5, hx188_6, hl188_6, hi188_6⟩ := at_T26 (Kd.N_reads' HO_3.out).2.2 x15_1 p188 q188
                                  obtain rfl : ad182 = ad188 := (by injection e188)
                                  obtain ⟨ce188, hce188, hMe188, hcc188⟩ := Kd.N_get HO_3.out z26 x15_1 p188 (by first | exact q188 | exact of_decide_eq_true (by first | (with_reducible assumption) | assumption) | (have e_ := (Kd.N_reads' HO_3.out).1; omega))
                                  obtain ⟨ua188_6, uc188_6, rfl, ul188_6, ge188_6⟩ := k26_openF hMe188
                                  have hv188_6 := hcc188 6 _ rfl
                                  rw [add_field _ _ 6 (by omega)] at hv188_6
                                  replace hv188_6 := Option.some.inj (hv188_6.symm.trans hx188_6)
                                  injection hv188_6 with hva_ hvn_ hvc_
                                  rw [hva_] at ge188_6
                                  rw [hvc_] at ul188_6
                                  have HL188_6 := Aside0.mk (show Kd.V k26 26 _ w.heap.size _ _ ((rd_T26 t175 x15_1).f3) from Kd.V_mk ul188_6 ge188_6)
                                  clear hva_ hvn_ hvc_ ge188_6 ul188_6
                                  clear hcc188 hce188
                                  have HR188_6 := Aside0.mk hi188_6
                                  have HC188_6 := Aside0.mk hl188_6
                                  clear hi188_6 hl188_6
                                  replace p188 := eq_true p188
                                  replace q188 := eq_true q188
                                  have ea_ := Option.some.inj (hx182_6.symm.trans hx188_6)
                                  injection ea_ with ea_ en_ ec_
                                  subst ea_
                                  subst ec_
                                  clear en_
                                  go_wp2
                                  repeat (go_quiet (fail); try go_wp2)
                                  go_roundg kj12
                                  case measure => have := HK1.out; have := HJ12.out; omega
                                  case rel => exact ⟨(wrap64 (x15_1 + 1)), (by first | rfl | (simp; done) | (simp [*]; done)), H', ⟨by have := HK1.out; have := HJ12.out; omega⟩, ⟨by (with_reducible repeat (first | apply Kd.N_alloc | apply Kd.N_drewN | apply Kd.N_drew)); exact HO_3.out⟩, ⟨by (with_reducible repeat (first | refine blk_drewN ?_ _ | refine blk_drew ?_ | refine blk_alloc ?_ _)); exact BK174.out⟩, ⟨by repeat (first | (with_reducible first | exact HB.out | apply below_alloc | apply pw_below_drewN | apply below_drew1 | refine below_set ?_ GE174.out) | exact HB.out)⟩⟩
                                · rw [if_neg c31] at H
                                  have c31b0 : (((rd_T26 t175 x15_1).f2) == 0) = false := beq_eq_false_iff_ne.mpr c31
                                  have c31b1 : (((rd_T26 t175 x15_1).f2) != 0) = true := bne_iff_ne.mpr c31
                                  obtain rfl := Option.some.inj H
                                  have p182 : 0 ≤ (x15_1 : Int) := of_decide_eq_true (by first | (with_reducible assumption) | assumption)
                                  have q182 : x15_1 < (t175.length : Int) := of_decide_eq_true (by first | (with_reducible assumption) | assumption)
                                  obtain ⟨ad182, A182_6, c182_6, e182, hx182_0, hx182_1, hx182_2, hx182_3, hx182_4, hx182_5, hx182_6, hl182_6, hi182_6⟩ := at_T26 (Kd.N_reads' HO_3.out).2.2 x15_1 p182 q182
                                  cases e182
                                  obtain ⟨ce182, hce182, hMe182, hcc182⟩ := Kd.N_get HO_3.out z26 x15_1 p182 (by first | exact q182 | exact of_decide_eq_true (by first | (with_reducible assumption) | assumption) | (have e_ := (Kd.N_reads' HO_3.out).1; omega))
                                  obtain ⟨ua182_6, uc182_6, rfl, ul182_6, ge182_6⟩ := k26_openF hMe182
                                  have hv182_6 := hcc182 6 _ rfl
                                  rw [add_field _ _ 6 (by omega)] at hv182_6
                                  replace hv182_6 := Option.some.inj (hv182_6.symm.trans hx182_6)
                                  injection hv182_6 with hva_ hvn_ hvc_
                                  rw [hva_] at ge182_6
                                  rw [hvc_] at ul182_6
                                  have HL182_6 := Aside0.mk (show Kd.V k26 26 _ w.heap.size _ _ ((rd_T26 t175 x15_1).f3) from Kd.V_mk ul182_6 ge182_6)
                                  clear hva_ hvn_ hvc_ ge182_6 ul182_6
                                  clear hcc182 hce182
                                  have HR182_6 := Aside0.mk hi182_6
                                  have HC182_6 := Aside0.mk hl182_6
                                  clear hi182_6 hl182_6
                                  replace p182 := eq_true p182
                                  replace q182 := eq_true q182
                                  have p183 : 0 ≤ (x15_1 : Int) := of_decide_eq_true (by first | (with_reducible assumption) | assumption)
                                  have q183 : x15_1 < (t175.length : Int) := of_decide_eq_true (by first | (with_reducible assumption) | assumption)
                                  obtain ⟨ad183, A183_6, c183_6, e183, hx183_0, hx183_1, hx183_2, hx183_3, hx183_4, hx183_5, hx183_6, hl183_6, hi183_6⟩ := at_T26 (Kd.N_reads' HO_3.out).2.2 x15_1 p183 q183
                                  obtain rfl : ad182 = ad183 := (by injection e183)
                                  obtain ⟨ce183, hce183, hMe183, hcc183⟩ := Kd.N_get HO_3.out z26 x15_1 p183 (by first | exact q183 | exact of_decide_eq_true (by first | (with_reducible assumption) | assumption) | (have e_ := (Kd.N_reads' HO_3.out).1; omega))
                                  obtain ⟨ua183_6, uc183_6, rfl, ul183_6, ge183_6⟩ := k26_openF hMe183
                                  have hv183_6 := hcc183 6 _ rfl
                                  rw [add_field _ _ 6 (by omega)] at hv183_6
                                  replace hv183_6 := Option.some.inj (hv183_6.symm.trans hx183_6)
                                  injection hv183_6 with hva_ hvn_ hvc_
                                  rw [hva_] at ge183_6
                                  rw [hvc_] at ul183_6
                                  have HL183_6 := Aside0.mk (show Kd.V k26 26 _ w.heap.size _ _ ((rd_T26 t175 x15_1).f3) from Kd.V_mk ul183_6 ge183_6)
                                  clear hva_ hvn_ hvc_ ge183_6 ul183_6
                                  clear hcc183 hce183
                                  have HR183_6 := Aside0.mk hi183_6
                                  have HC183_6 := Aside0.mk hl183_6
                                  clear hi183_6 hl183_6
                                  replace p183 := eq_true p183
                                  replace q183 := eq_true q183
                                  have ea_ := Option.some.inj (hx182_6.symm.trans hx183_6)
                                  injection ea_ with ea_ en_ ec_
                                  subst ea_
                                  subst ec_
                                  clear en_
                                  have p184 : 0 ≤ (x15_1 : Int) := of_decide_eq_true (by first | (with_reducible assumption) | assumption)
                                  have q184 : x15_1 < (t175.length : Int) := of_decide_eq_true (by first | (with_reducible assumption) | assumption)
                                  obtain ⟨ad184, A184_6, c184_6, e184, hx184_0, hx184_1, hx184_2, hx184_3, hx184_4, hx184_5, hx184_6, hl184_6, hi184_6⟩ := at_T26 (Kd.N_reads' HO_3.out).2.2 x15_1 p184 q184
                                  obtain rfl : ad182 = ad184 := (by injection e184)
                                  obtain ⟨ce184, hce184, hMe184, hcc184⟩ := Kd.N_get HO_3.out z26 x15_1 p184 (by first | exact q184 | exact of_decide_eq_true (by first | (with_reducible assumption) | assumption) | (have e_ := (Kd.N_reads' HO_3.out).1; omega))
                                  obtain ⟨ua184_6, uc184_6, rfl, ul184_6, ge184_6⟩ := k26_openF hMe184
                                  have hv184_6 := hcc184 6 _ rfl
                                  rw [add_field _ _ 6 (by omega)] at hv184_6
                                  replace hv184_6 := Option.some.inj (hv184_6.symm.trans hx184_6)
                                  injection hv184_6 with hva_ hvn_ hvc_
                                  rw [hva_] at ge184_6
                                  rw [hvc_] at ul184_6
                                  have HL184_6 := Aside0.mk (show Kd.V k26 26 _ w.heap.size _ _ ((rd_T26 t175 x15_1).f3) from Kd.V_mk ul184_6 ge184_6)
                                  clear hva_ hvn_ hvc_ ge184_6 ul184_6
                                  clear hcc184 hce184
                                  have HR184_6 := Aside0.mk hi184_6
                                  have HC184_6 := Aside0.mk hl184_6
                                  clear hi184_6 hl184_6
                                  replace p184 := eq_true p184
                                  replace q184 := eq_true q184
                                  have ea_ := Option.some.inj (hx182_6.symm.trans hx184_6)
                                  injection ea_ with ea_ en_ ec_
                                  subst ea_
                                  subst ec_
                                  clear en_
                                  have p185 : 0 ≤ (x15_1 : Int) := of_decide_eq_true (by first | (with_reducible assumption) | assumption)
                                  have q185 : x15_1 < (t175.length : Int) := of_decide_eq_true (by first | (with_reducible assumption) | assumption)
                                  obtain ⟨ad185, A185_6, c185_6, e185, hx185_0, hx185_1, hx185_2, hx185_3, hx185_4, hx185_5, hx185_6, hl185_6, hi185_6⟩ := at_T26 (Kd.N_reads' HO_3.out).2.2 x15_1 p185 q185
                                  obtain rfl : ad182 = ad185 := (by injection e185)
                                  obtain ⟨ce185, hce185, hMe185, hcc185⟩ := Kd.N_get HO_3.out z26 x15_1 p185 (by first | exact q185 | exact of_decide_eq_true (by first | (with_reducible assumption) | assumption) | (have e_ := (Kd.N_reads' HO_3.out).1; omega))
                                  obtain ⟨ua185_6, uc185_6, rfl, ul185_6, ge185_6⟩ := k26_openF hMe185
                                  have hv185_6 := hcc185 6 _ rfl
                                  rw [add_field _ _ 6 (by omega)] at hv185_6
                                  replace hv185_6 := Option.some.inj (hv185_6.symm.trans hx185_6)
                                  injection hv185_6 with hva_ hvn_ hvc_
                                  rw [hva_] at ge185_6
                                  rw [hvc_] at ul185_6
                                  have HL185_6 := Aside0.mk (show Kd.V k26 26 _ w.heap.size _ _ ((rd_T26 t175 x15_1).f3) from Kd.V_mk ul185_6 ge185_6)
                                  clear hva_ hvn_ hvc_ ge185_6 ul185_6
                                  clear hcc185 hce185
                                  have HR185_6 := Aside0.mk hi185_6
                                  have HC185_6 := Aside0.mk hl185_6
                                  clear hi185_6 hl185_6
                                  replace p185 := eq_true p185
                                  replace q185 := eq_true q185
                                  have ea_ := Option.some.inj (hx182_6.symm.trans hx185_6)
                                  injection ea_ with ea_ en_ ec_
                                  subst ea_
                                  subst ec_
                                  clear en_
                                  have p186 : 0 ≤ (x15_1 : Int) := of_decide_eq_true (by first | (with_reducible assumption) | assumption)
                                  have q186 : x15_1 < (t175.length : Int) := of_decide_eq_true (by first | (with_reducible assumption) | assumption)
                                  obtain ⟨ad186, A186_6, c186_6, e186, hx186_0, hx186_1, hx186_2, hx186_3, hx186_4, hx186_5, hx186_6, hl186_6, hi186_6⟩ := at_T26 (Kd.N_reads' HO_3.out).2.2 x15_1 p186 q186
                                  obtain rfl : ad182 = ad186 := (by injection e186)
                                  obtain ⟨ce186, hce186, hMe186, hcc186⟩ := Kd.N_get HO_3.out z26 x15_1 p186 (by first | exact q186 | exact of_decide_eq_true (by first | (with_reducible assumption) | assumption) | (have e_ := (Kd.N_reads' HO_3.out).1; omega))
                                  obtain ⟨ua186_6, uc186_6, rfl, ul186_6, ge186_6⟩ := k26_openF hMe186
                                  have hv186_6 := hcc186 6 _ rfl
                                  rw [add_field _ _ 6 (by omega)] at hv186_6
                                  replace hv186_6 := Option.some.inj (hv186_6.symm.trans hx186_6)
                                  injection hv186_6 with hva_ hvn_ hvc_
                                  rw [hva_] at ge186_6
                                  rw [hvc_] at ul186_6
                                  have HL186_6 := Aside0.mk (show Kd.V k26 26 _ w.heap.size _ _ ((rd_T26 t175 x15_1).f3) from Kd.V_mk ul186_6 ge186_6)
                                  clear hva_ hvn_ hvc_ ge186_6 ul186_6
                                  clear hcc186 hce186
                                  have HR186_6 := Aside0.mk hi186_6
                                  have HC186_6 := Aside0.mk hl186_6
                                  clear hi186_6 hl186_6
                                  replace p186 := eq_true p186
                                  replace q186 := eq_true q186
                                  have ea_ := Option.some.inj (hx182_6.symm.trans hx186_6)
                                  injection ea_ with ea_ en_ ec_
                                  subst ea_
                                  subst ec_
                                  clear en_
                                  have p187 : 0 ≤ (x15_1 : Int) := of_decide_eq_true (by first | (with_reducible assumption) | assumption)
                                  have q187 : x15_1 < (t175.length : Int) := of_decide_eq_true (by first | (with_reducible assumption) | assumption)
                                  obtain ⟨ad187, A187_6, c187_6, e187, hx187_0, hx187_1, hx187_2, hx187_3, hx187_4, hx187_5, hx187_6, hl187_6, hi187_6⟩ := at_T26 (Kd.N_reads' HO_3.out).2.2 x15_1 p187 q187
                                  obtain rfl : ad182 = ad187 := (by injection e187)
                                  obtain ⟨ce187, hce187, hMe187, hcc187⟩ := Kd.N_get HO_3.out z26 x15_1 p187 (by first | exact q187 | exact of_decide_eq_true (by first | (with_reducible assumption) | assumption) | (have e_ := (Kd.N_reads' HO_3.out).1; omega))
                                  obtain ⟨ua187_6, uc187_6, rfl, ul187_6, ge187_6⟩ := k26_openF hMe187
                                  have hv187_6 := hcc187 6 _ rfl
                                  rw [add_field _ _ 6 (by omega)] at hv187_6
                                  replace hv187_6 := Option.some.inj (hv187_6.symm.trans hx187_6)
                                  injection hv187_6 with hva_ hvn_ hvc_
                                  rw [hva_] at ge187_6
                                  rw [hvc_] at ul187_6
                                  have HL187_6 := Aside0.mk (show Kd.V k26 26 _ w.heap.size _ _ ((rd_T26 t175 x15_1).f3) from Kd.V_mk ul187_6 ge187_6)
                                  clear hva_ hvn_ hvc_ ge187_6 ul187_6
                                  clear hcc187 hce187
                                  have HR187_6 := Aside0.mk hi187_6
                                  have HC187_6 := Aside0.mk hl187_6
                                  clear hi187_6 hl187_6
                                  replace p187 := eq_true p187
                                  replace q187 := eq_true q187
                                  have ea_ := Option.some.inj (hx182_6.symm.trans hx187_6)
                                  injection ea_ with ea_ en_ ec_
                                  subst ea_
                                  subst ec_
                                  clear en_
                                  have p188 : 0 ≤ (x15_1 : Int) := of_decide_eq_true (by first | (with_reducible assumption) | assumption)
                                  have q188 : x15_1 < (t175.length : Int) := of_decide_eq_true (by first | (with_reducible assumption) | assumption)
                                  obtain ⟨ad188, A188_6, c188_6, e188, hx188_0, hx188_1, hx188_2, hx188_3, hx188_4, hx188_5, hx188_6, hl188_6, hi188_6⟩ := at_T26 (Kd.N_reads' HO_3.out).2.2 x15_1 p188 q188
                                  obtain rfl : ad182 = ad188 := (by injection e188)
                                  obtain ⟨ce188, hce188, hMe188, hcc188⟩ := Kd.N_get HO_3.out z26 x15_1 p188 (by first | exact q188 | exact of_decide_eq_true (by first | (with_reducible assumption) | assumption) | (have e_ := (Kd.N_reads' HO_3.out).1; omega))
                                  obtain ⟨ua188_6, uc188_6, rfl, ul188_6, ge188_6⟩ := k26_openF hMe188
                                  have hv188_6 := hcc188 6 _ rfl
                                  rw [add_field _ _ 6 (by omega)] at hv188_6
                                  replace hv188_6 := Option.some.inj (hv188_6.symm.trans hx188_6)
                                  injection hv188_6 with hva_ hvn_ hvc_
                                  rw [hva_] at ge188_6
                                  rw [hvc_] at ul188_6
                                  have HL188_6 := Aside0.mk (show Kd.V k26 26 _ w.heap.size _ _ ((rd_T26 t175 x15_1).f3) from Kd.V_mk ul188_6 ge188_6)
                                  clear hva_ hvn_ hvc_ ge188_6 ul188_6
                                  clear hcc188 hce188
                                  have HR188_6 := Aside0.mk hi188_6
                                  have HC188_6 := Aside0.mk hl188_6
                                  clear hi188_6 hl188_6
                                  replace p188 := eq_true p188
                                  replace q188 := eq_true q188
                                  have ea_ := Option.some.inj (hx182_6.symm.trans hx188_6)
                                  injection ea_ with ea_ en_ ec_
                                  subst ea_
                                  subst ec_
                                  clear en_
                                  go_wp2
                                  repeat (go_quiet (fail); try go_wp2)
                                  go_ret
                                  exact ⟨by first | rfl | (simp [errW_none, errW_some] <;> rfl) | (simp [*, errW_none, errW_some] <;> rfl), by repeat (first | (with_reducible first | exact HB.out | apply below_alloc | apply pw_below_drewN | apply below_drew1 | refine below_set ?_ GE174.out) | exact HB.out)⟩
                            · rw [if_neg c29] at H
                              have c29b0 : decide (1 < ((rd_T26 t175 x15_1).f0)) = false := decide_eq_false c29
                              clear c29
                              have H' := Aside0.mk H
                              clear H
                              have p182 : 0 ≤ (x15_1 : Int) := of_decide_eq_true (by first | (with_reducible assumption) | assumption)
                              have q182 : x15_1 < (t175.length : Int) := of_decide_eq_true (by first | (with_reducible assumption) | assumption)
                              obtain ⟨ad182, A182_6, c182_6, e182, hx182_0, hx182_1, hx182_2, hx182_3, hx182_4, hx182_5, hx182_6, hl182_6, hi182_6⟩ := at_T26 (Kd.N_reads' HO_3.out).2.2 x15_1 p182 q182
                              cases e182
                              obtain ⟨ce182, hce182, hMe182, hcc182⟩ := Kd.N_get HO_3.out z26 x15_1 p182 (by first | exact q182 | exact of_decide_eq_true (by first | (with_reducible assumption) | assumption) | (have e_ := (Kd.N_reads' HO_3.out).1; omega))
                              obtain ⟨ua182_6, uc182_6, rfl, ul182_6, ge182_6⟩ := k26_openF hMe182
                              have hv182_6 := hcc182 6 _ rfl
                              rw [add_field _ _ 6 (by omega)] at hv182_6
                              replace hv182_6 := Option.some.inj (hv182_6.symm.trans hx182_6)
                              injection hv182_6 with hva_ hvn_ hvc_
                              rw [hva_] at ge182_6
                              rw [hvc_] at ul182_6
                              have HL182_6 := Aside0.mk (show Kd.V k26 26 _ w.heap.size _ _ ((rd_T26 t175 x15_1).f3) from Kd.V_mk ul182_6 ge182_6)
                              clear hva_ hvn_ hvc_ ge182_6 ul182_6
                              clear hcc182 hce182
                              have HR182_6 := Aside0.mk hi182_6
                              have HC182_6 := Aside0.mk hl182_6
                              clear hi182_6 hl182_6
                              replace p182 := eq_true p182
                              replace q182 := eq_true q182
                              have p183 : 0 ≤ (x15_1 : Int) := of_decide_eq_true (by first | (with_reducible assumption) | assumption)
                              have q183 : x15_1 < (t175.length : Int) := of_decide_eq_true (by first | (with_reducible assumption) | assumption)
                              obtain ⟨ad183, A183_6, c183_6, e183, hx183_0, hx183_1, hx183_2, hx183_3, hx183_4, hx183_5, hx183_6, hl183_6, hi183_6⟩ := at_T26 (Kd.N_reads' HO_3.out).2.2 x15_1 p183 q183
                              obtain rfl : ad182 = ad183 := (by injection e183)
                              obtain ⟨ce183, hce183, hMe183, hcc183⟩ := Kd.N_get HO_3.out z26 x15_1 p183 (by first | exact q183 | exact of_decide_eq_true (by first | (with_reducible assumption) | assumption) | (have e_ := (Kd.N_reads' HO_3.out).1; omega))
                              obtain ⟨ua183_6, uc183_6, rfl, ul183_6, ge183_6⟩ := k26_openF hMe183
                              have hv183_6 := hcc183 6 _ rfl
                              rw [add_field _ _ 6 (by omega)] at hv183_6
                              replace hv183_6 := Option.some.inj (hv183_6.symm.trans hx183_6)
                              injection hv183_6 with hva_ hvn_ hvc_
                              rw [hva_] at ge183_6
                              rw [hvc_] at ul183_6
                              have HL183_6 := Aside0.mk (show Kd.V k26 26 _ w.heap.size _ _ ((rd_T26 t175 x15_1).f3) from Kd.V_mk ul183_6 ge183_6)
                              clear hva_ hvn_ hvc_ ge183_6 ul183_6
                              clear hcc183 hce183
                              have HR183_6 := Aside0.mk hi183_6
                              have HC183_6 := Aside0.mk hl183_6
                              clear hi183_6 hl183_6
                              replace p183 := eq_true p183
                              replace q183 := eq_true q183
                              have ea_ := Option.some.inj (hx182_6.symm.trans hx183_6)
                              injection ea_ with ea_ en_ ec_
                              subst ea_
                              subst ec_
                              clear en_
                              have p184 : 0 ≤ (x15_1 : Int) := of_decide_eq_true (by first | (with_reducible assumption) | assumption)
                              have q184 : x15_1 < (t175.length : Int) := of_decide_eq_true (by first | (with_reducible assumption) | assumption)
                              obtain ⟨ad184, A184_6, c184_6, e184, hx184_0, hx184_1, hx184_2, hx184_3, hx184_4, hx184_5, hx184_6, hl184_6, hi184_6⟩ := at_T26 (Kd.N_reads' HO_3.out).2.2 x15_1 p184 q184
                              obtain rfl : ad182 = ad184 := (by injection e184)
                              obtain ⟨ce184, hce184, hMe184, hcc184⟩ := Kd.N_get HO_3.out z26 x15_1 p184 (by first | exact q184 | exact of_decide_eq_true (by first | (with_reducible assumption) | assumption) | (have e_ := (Kd.N_reads' HO_3.out).1; omega))
                              obtain ⟨ua184_6, uc184_6, rfl, ul184_6, ge184_6⟩ := k26_openF hMe184
                              have hv184_6 := hcc184 6 _ rfl
                              rw [add_field _ _ 6 (by omega)] at hv184_6
                              replace hv184_6 := Option.some.inj (hv184_6.symm.trans hx184_6)
                              injection hv184_6 with hva_ hvn_ hvc_
                              rw [hva_] at ge184_6
                              rw [hvc_] at ul184_6
                              have HL184_6 := Aside0.mk (show Kd.V k26 26 _ w.heap.size _ _ ((rd_T26 t175 x15_1).f3) from Kd.V_mk ul184_6 ge184_6)
                              clear hva_ hvn_ hvc_ ge184_6 ul184_6
                              clear hcc184 hce184
                              have HR184_6 := Aside0.mk hi184_6
                              have HC184_6 := Aside0.mk hl184_6
                              clear hi184_6 hl184_6
                              replace p184 := eq_true p184
                              replace q184 := eq_true q184
                              have ea_ := Option.some.inj (hx182_6.symm.trans hx184_6)
                              injection ea_ with ea_ en_ ec_
                              subst ea_
                              subst ec_
                              clear en_
                              have p185 : 0 ≤ (x15_1 : Int) := of_decide_eq_true (by first | (with_reducible assumption) | assumption)
                              have q185 : x15_1 < (t175.length : Int) := of_decide_eq_true (by first | (with_reducible assumption) | assumption)
                              obtain ⟨ad185, A185_6, c185_6, e185, hx185_0, hx185_1, hx185_2, hx185_3, hx185_4, hx185_5, hx185_6, hl185_6, hi185_6⟩ := at_T26 (Kd.N_reads' HO_3.out).2.2 x15_1 p185 q185
                              obtain rfl : ad182 = ad185 := (by injection e185)
                              obtain ⟨ce185, hce185, hMe185, hcc185⟩ := Kd.N_get HO_3.out z26 x15_1 p185 (by first | exact q185 | exact of_decide_eq_true (by first | (with_reducible assumption) | assumption) | (have e_ := (Kd.N_reads' HO_3.out).1; omega))
                              obtain ⟨ua185_6, uc185_6, rfl, ul185_6, ge185_6⟩ := k26_openF hMe185
                              have hv185_6 := hcc185 6 _ rfl
                              rw [add_field _ _ 6 (by omega)] at hv185_6
                              replace hv185_6 := Option.some.inj (hv185_6.symm.trans hx185_6)
                              injection hv185_6 with hva_ hvn_ hvc_
                              rw [hva_] at ge185_6
                              rw [hvc_] at ul185_6
                              have HL185_6 := Aside0.mk (show Kd.V k26 26 _ w.heap.size _ _ ((rd_T26 t175 x15_1).f3) from Kd.V_mk ul185_6 ge185_6)
                              clear hva_ hvn_ hvc_ ge185_6 ul185_6
                              clear hcc185 hce185
                              have HR185_6 := Aside0.mk hi185_6
                              have HC185_6 := Aside0.mk hl185_6
                              clear hi185_6 hl185_6
                              replace p185 := eq_true p185
                              replace q185 := eq_true q185
                              have ea_ := Option.some.inj (hx182_6.symm.trans hx185_6)
                              injection ea_ with ea_ en_ ec_
                              subst ea_
                              subst ec_
                              clear en_
                              have p186 : 0 ≤ (x15_1 : Int) := of_decide_eq_true (by first | (with_reducible assumption) | assumption)
                              have q186 : x15_1 < (t175.length : Int) := of_decide_eq_true (by first | (with_reducible assumption) | assumption)
                              obtain ⟨ad186, A186_6, c186_6, e186, hx186_0, hx186_1, hx186_2, hx186_3, hx186_4, hx186_5, hx186_6, hl186_6, hi186_6⟩ := at_T26 (Kd.N_reads' HO_3.out).2.2 x15_1 p186 q186
                              obtain rfl : ad182 = ad186 := (by injection e186)
                              obtain ⟨ce186, hce186, hMe186, hcc186⟩ := Kd.N_get HO_3.out z26 x15_1 p186 (by first | exact q186 | exact of_decide_eq_true (by first | (with_reducible assumption) | assumption) | (have e_ := (Kd.N_reads' HO_3.out).1; omega))
                              obtain ⟨ua186_6, uc186_6, rfl, ul186_6, ge186_6⟩ := k26_openF hMe186
                              have hv186_6 := hcc186 6 _ rfl
                              rw [add_field _ _ 6 (by omega)] at hv186_6
                              replace hv186_6 := Option.some.inj (hv186_6.symm.trans hx186_6)
                              injection hv186_6 with hva_ hvn_ hvc_
                              rw [hva_] at ge186_6
                              rw [hvc_] at ul186_6
                              have HL186_6 := Aside0.mk (show Kd.V k26 26 _ w.heap.size _ _ ((rd_T26 t175 x15_1).f3) from Kd.V_mk ul186_6 ge186_6)
                              clear hva_ hvn_ hvc_ ge186_6 ul186_6
                              clear hcc186 hce186
                              have HR186_6 := Aside0.mk hi186_6
                              have HC186_6 := Aside0.mk hl186_6
                              clear hi186_6 hl186_6
                              replace p186 := eq_true p186
                              replace q186 := eq_true q186
                              have ea_ := Option.some.inj (hx182_6.symm.trans hx186_6)
                              injection ea_ with ea_ en_ ec_
                              subst ea_
                              subst ec_
                              clear en_
                              go_wp2
                              repeat (go_quiet (fail); try go_wp2)
                              go_roundg kj12
                              case measure => have := HK1.out; have := HJ12.out; omega
                              case rel => exact ⟨(wrap64 (x15_1 + 1)), (by first | rfl | (simp; done) | (simp [*]; done)), H', ⟨by have := HK1.out; have := HJ12.out; omega⟩, ⟨by (with_reducible repeat (first | apply Kd.N_alloc | apply Kd.N_drewN | apply Kd.N_drew)); exact HO_3.out⟩, ⟨by (with_reducible repeat (first | refine blk_drewN ?_ _ | refine blk_drew ?_ | refine blk_alloc ?_ _)); exact BK174.out⟩, ⟨by repeat (first | (with_reducible first | exact HB.out | apply below_alloc | apply pw_below_drewN | apply below_drew1 | refine below_set ?_ GE174.out) | exact HB.out)⟩⟩
                    · rw [if_neg c25] at H
                      have c25b0 : (((rd_T26 t175 x15_1).f0) == 1) = false := beq_eq_false_iff_ne.mpr c25
                      have c25b1 : (((rd_T26 t175 x15_1).f0) != 1) = true := bne_iff_ne.mpr c25
                      by_cases c32 : ((rd_T26 t175 x15_1).f0) > 1
                      · rw [if_pos c32] at H
                        have c32b0 : decide (1 < ((rd_T26 t175 x15_1).f0)) = true := decide_eq_true c32
                        clear c32
                        by_cases c33 : (((rd_T26 t175 x15_1).f3).length : Int) < 2
                        · rw [if_pos c33] at H
                          have c33b0 : decide ((((rd_T26 t175 x15_1).f3).length : Int) < 2) = true := decide_eq_true c33
                          have c33b1 : decide (((rd_T26 t175 x15_1).f3).length < 2) = true := decide_eq_true (by omega)
                          clear c33
                          obtain rfl := Option.some.inj H
                          have p182 : 0 ≤ (x15_1 : Int) := of_decide_eq_true (by first | (with_reducible assumption) | assumption)
                          have q182 : x15_1 < (t175.length : Int) := of_decide_eq_true (by first | (with_reducible assumption) | assumption)
                          obtain ⟨ad182, A182_6, c182_6, e182, hx182_0, hx182_1, hx182_2, hx182_3, hx182_4, hx182_5, hx182_6, hl182_6, hi182_6⟩ := at_T26 (Kd.N_reads' HO_3.out).2.2 x15_1 p182 q182
                          cases e182
                          obtain ⟨ce182, hce182, hMe182, hcc182⟩ := Kd.N_get HO_3.out z26 x15_1 p182 (by first | exact q182 | exact of_decide_eq_true (by first | (with_reducible assumption) | assumption) | (have e_ := (Kd.N_reads' HO_3.out).1; omega))
                          obtain ⟨ua182_6, uc182_6, rfl, ul182_6, ge182_6⟩ := k26_openF hMe182
                          have hv182_6 := hcc182 6 _ rfl
                          rw [add_field _ _ 6 (by omega)] at hv182_6
                          replace hv182_6 := Option.some.inj (hv182_6.symm.trans hx182_6)
                          injection hv182_6 with hva_ hvn_ hvc_
                          rw [hva_] at ge182_6
                          rw [hvc_] at ul182_6
                          have HL182_6 := Aside0.mk (show Kd.V k26 26 _ w.heap.size _ _ ((rd_T26 t175 x15_1).f3) from Kd.V_mk ul182_6 ge182_6)
                          clear hva_ hvn_ hvc_ ge182_6 ul182_6
                          clear hcc182 hce182
                          have HR182_6 := Aside0.mk hi182_6
                          have HC182_6 := Aside0.mk hl182_6
                          clear hi182_6 hl182_6
                          replace p182 := eq_true p182
                          replace q182 := eq_true q182
                          have p189 : 0 ≤ (x15_1 : Int) := of_decide_eq_true (by first | (with_reducible assumption) | assumption)
                          have q189 : x15_1 < (t175.length : Int) := of_decide_eq_true (by first | (with_reducible assumption) | assumption)
                          obtain ⟨ad189, A189_6, c189_6, e189, hx189_0, hx189_1, hx189_2, hx189_3, hx189_4, hx189_5, hx189_6, hl189_6, hi189_6⟩ := at_T26 (Kd.N_reads' HO_3.out).2.2 x15_1 p189 q189
                          obtain rfl : ad182 = ad189 := (by injection e189)
                          obtain ⟨ce189, hce189, hMe189, hcc189⟩ := Kd.N_get HO_3.out z26 x15_1 p189 (by first | exact q189 | exact of_decide_eq_true (by first | (with_reducible assumption) | assumption) | (have e_ := (Kd.N_reads' HO_3.out).1; omega))
                          obtain ⟨ua189_6, uc189_6, rfl, ul189_6, ge189_6⟩ := k26_openF hMe189
                          have hv189_6 := hcc189 6 _ rfl
                          rw [add_field _ _ 6 (by omega)] at hv189_6
                          replace hv189_6 := Option.some.inj (hv189_6.symm.trans hx189_6)
                          injection hv189_6 with hva_ hvn_ hvc_
                          rw [hva_] at ge189_6
                          rw [hvc_] at ul189_6
                          have HL189_6 := Aside0.mk (show Kd.V k26 26 _ w.heap.size _ _ ((rd_T26 t175 x15_1).f3) from Kd.V_mk ul189_6 ge189_6)
                          clear hva_ hvn_ hvc_ ge189_6 ul189_6
                          clear hcc189 hce189
                          have HR189_6 := Aside0.mk hi189_6
                          have HC189_6 := Aside0.mk hl189_6
                          clear hi189_6 hl189_6
                          replace p189 := eq_true p189
                          replace q189 := eq_true q189
                          have ea_ := Option.some.inj (hx182_6.symm.trans hx189_6)
                          injection ea_ with ea_ en_ ec_
                          subst ea_
                          subst ec_
                          clear en_
                          have p190 : 0 ≤ (x15_1 : Int) := of_decide_eq_true (by first | (with_reducible assumption) | assumption)
                          have q190 : x15_1 < (t175.length : Int) := of_decide_eq_true (by first | (with_reducible assumption) | assumption)
                          obtain ⟨ad190, A190_6, c190_6, e190, hx190_0, hx190_1, hx190_2, hx190_3, hx190_4, hx190_5, hx190_6, hl190_6, hi190_6⟩ := at_T26 (Kd.N_reads' HO_3.out).2.2 x15_1 p190 q190
                          obtain rfl : ad182 = ad190 := (by injection e190)
                          obtain ⟨ce190, hce190, hMe190, hcc190⟩ := Kd.N_get HO_3.out z26 x15_1 p190 (by first | exact q190 | exact of_decide_eq_true (by first | (with_reducible assumption) | assumption) | (have e_ := (Kd.N_reads' HO_3.out).1; omega))
                          obtain ⟨ua190_6, uc190_6, rfl, ul190_6, ge190_6⟩ := k26_openF hMe190
                          have hv190_6 := hcc190 6 _ rfl
                          rw [add_field _ _ 6 (by omega)] at hv190_6
                          replace hv190_6 := Option.some.inj (hv190_6.symm.trans hx190_6)
                          injection hv190_6 with hva_ hvn_ hvc_
                          rw [hva_] at ge190_6
                          rw [hvc_] at ul190_6
                          have HL190_6 := Aside0.mk (show Kd.V k26 26 _ w.heap.size _ _ ((rd_T26 t175 x15_1).f3) from Kd.V_mk ul190_6 ge190_6)
                          clear hva_ hvn_ hvc_ ge190_6 ul190_6
                          clear hcc190 hce190
                          have HR190_6 := Aside0.mk hi190_6
                          have HC190_6 := Aside0.mk hl190_6
                          clear hi190_6 hl190_6
                          replace p190 := eq_true p190
                          replace q190 := eq_true q190
                          have ea_ := Option.some.inj (hx182_6.symm.trans hx190_6)
                          injection ea_ with ea_ en_ ec_
                          subst ea_
                          subst ec_
                          clear en_
                          go_wp2
                          repeat (go_quiet (fail); try go_wp2)
                          go_ret
                          exact ⟨by first | rfl | (simp [errW_none, errW_some] <;> rfl) | (simp [*, errW_none, errW_some] <;> rfl), by repeat (first | (with_reducible first | exact HB.out | apply below_alloc | apply pw_below_drewN | apply below_drew1 | refine below_set ?_ GE174.out) | exact HB.out)⟩
                        · rw [if_neg c33] at H
                          have c33b0 : decide ((((rd_T26 t175 x15_1).f3).length : Int) < 2) = false := decide_eq_false c33
                          have c33b1 : decide (((rd_T26 t175 x15_1).f3).length < 2) = false := decide_eq_false (by omega)
                          clear c33
                          by_cases c34 : ((rd_T26 t175 x15_1).f2) = 0
                          · rw [if_pos c34] at H
                            have c34b0 : (((rd_T26 t175 x15_1).f2) == 0) = true := beq_iff_eq.mpr c34
                            have c34b1 : (((rd_T26 t175 x15_1).f2) != 0) = false := bne_eq_false_iff_eq.mpr c34
                            clear c34
                            have H' := Aside0.mk H
                            clear H
                            have p182 : 0 ≤ (x15_1 : Int) := of_decide_eq_true (by first | (with_reducible assumption) | assumption)
                            have q182 : x15_1 < (t175.length : Int) := of_decide_eq_true (by first | (with_reducible assumption) | assumption)
                            obtain ⟨ad182, A182_6, c182_6, e182, hx182_0, hx182_1, hx182_2, hx182_3, hx182_4, hx182_5, hx182_6, hl182_6, hi182_6⟩ := at_T26 (Kd.N_reads' HO_3.out).2.2 x15_1 p182 q182
                            cases e182
                            obtain ⟨ce182, hce182, hMe182, hcc182⟩ := Kd.N_get HO_3.out z26 x15_1 p182 (by first | exact q182 | exact of_decide_eq_true (by first | (with_reducible assumption) | assumption) | (have e_ := (Kd.N_reads' HO_3.out).1; omega))
                            obtain ⟨ua182_6, uc182_6, rfl, ul182_6, ge182_6⟩ := k26_openF hMe182
                            have hv182_6 := hcc182 6 _ rfl
                            rw [add_field _ _ 6 (by omega)] at hv182_6
                            replace hv182_6 := Option.some.inj (hv182_6.symm.trans hx182_6)
                            injection hv182_6 with hva_ hvn_ hvc_
                            rw [hva_] at ge182_6
                            rw [hvc_] at ul182_6
                            have HL182_6 := Aside0.mk (show Kd.V k26 26 _ w.heap.size _ _ ((rd_T26 t175 x15_1).f3) from Kd.V_mk ul182_6 ge182_6)
                            clear hva_ hvn_ hvc_ ge182_6 ul182_6
                            clear hcc182 hce182
                            have HR182_6 := Aside0.mk hi182_6
                            have HC182_6 := Aside0.mk hl182_6
                            clear hi182_6 hl182_6
                            replace p182 := eq_true p182
                            replace q182 := eq_true q182
                            have p189 : 0 ≤ (x15_1 : Int) := of_decide_eq_true (by first | (with_reducible assumption) | assumption)
                            have q189 : x15_1 < (t175.length : Int) := of_decide_eq_true (by first | (with_reducible assumption) | assumption)
                            obtain ⟨ad189, A189_6, c189_6, e189, hx189_0, hx189_1, hx189_2, hx189_3, hx189_4, hx189_5, hx189_6, hl189_6, hi189_6⟩ := at_T26 (Kd.N_reads' HO_3.out).2.2 x15_1 p189 q189
                            obtain rfl : ad182 = ad189 := (by injection e189)
                            obtain ⟨ce189, hce189, hMe189, hcc189⟩ := Kd.N_get HO_3.out z26 x15_1 p189 (by first | exact q189 | exact of_decide_eq_true (by first | (with_reducible assumption) | assumption) | (have e_ := (Kd.N_reads' HO_3.out).1; omega))
                            obtain ⟨ua189_6, uc189_6, rfl, ul189_6, ge189_6⟩ := k26_openF hMe189
                            have hv189_6 := hcc189 6 _ rfl
                            rw [add_field _ _ 6 (by omega)] at hv189_6
                            replace hv189_6 := Option.some.inj (hv189_6.symm.trans hx189_6)
                            injection hv189_6 with hva_ hvn_ hvc_
                            rw [hva_] at ge189_6
                            rw [hvc_] at ul189_6
                            have HL189_6 := Aside0.mk (show Kd.V k26 26 _ w.heap.size _ _ ((rd_T26 t175 x15_1).f3) from Kd.V_mk ul189_6 ge189_6)
                            clear hva_ hvn_ hvc_ ge189_6 ul189_6
                            clear hcc189 hce189
                            have HR189_6 := Aside0.mk hi189_6
                            have HC189_6 := Aside0.mk hl189_6
                            clear hi189_6 hl189_6
                            replace p189 := eq_true p189
                            replace q189 := eq_true q189
                            have ea_ := Option.some.inj (hx182_6.symm.trans hx189_6)
                            injection ea_ with ea_ en_ ec_
                            subst ea_
                            subst ec_
                            clear en_
                            have p190 : 0 ≤ (x15_1 : Int) := of_decide_eq_true (by first | (with_reducible assumption) | assumption)
                            have q190 : x15_1 < (t175.length : Int) := of_decide_eq_true (by first | (with_reducible assumption) | assumption)
                            obtain ⟨ad190, A190_6, c190_6, e190, hx190_0, hx190_1, hx190_2, hx190_3, hx190_4, hx190_5, hx190_6, hl190_6, hi190_6⟩ := at_T26 (Kd.N_reads' HO_3.out).2.2 x15_1 p190 q190
                            obtain rfl : ad182 = ad190 := (by injection e190)
                            obtain ⟨ce190, hce190, hMe190, hcc190⟩ := Kd.N_get HO_3.out z26 x15_1 p190 (by first | exact q190 | exact of_decide_eq_true (by first | (with_reducible assumption) | assumption) | (have e_ := (Kd.N_reads' HO_3.out).1; omega))
                            obtain ⟨ua190_6, uc190_6, rfl, ul190_6, ge190_6⟩ := k26_openF hMe190
                            have hv190_6 := hcc190 6 _ rfl
                            rw [add_field _ _ 6 (by omega)] at hv190_6
                            replace hv190_6 := Option.some.inj (hv190_6.symm.trans hx190_6)
                            injection hv190_6 with hva_ hvn_ hvc_
                            rw [hva_] at ge190_6
                            rw [hvc_] at ul190_6
                            have HL190_6 := Aside0.mk (show Kd.V k26 26 _ w.heap.size _ _ ((rd_T26 t175 x15_1).f3) from Kd.V_mk ul190_6 ge190_6)
                            clear hva_ hvn_ hvc_ ge190_6 ul190_6
                            clear hcc190 hce190
                            have HR190_6 := Aside0.mk hi190_6
                            have HC190_6 := Aside0.mk hl190_6
                            clear hi190_6 hl190_6
                            replace p190 := eq_true p190
                            replace q190 := eq_true q190
                            have ea_ := Option.some.inj (hx182_6.symm.trans hx190_6)
                            injection ea_ with ea_ en_ ec_
                            subst ea_
                            subst ec_
                            clear en_
                            have p191 : 0 ≤ (x15_1 : Int) := of_decide_eq_true (by first | (with_reducible assumption) | assumption)
                            have q191 : x15_1 < (t175.length : Int) := of_decide_eq_true (by first | (with_reducible assumption) | assumption)
                            obtain ⟨ad191, A191_6, c191_6, e191, hx191_0, hx191_1, hx191_2, hx191_3, hx191_4, hx191_5, hx191_6, hl191_6, hi191_6⟩ := at_T26 (Kd.N_reads' HO_3.out).2.2 x15_1 p191 q191
                            obtain rfl : ad182 = ad191 := (by injection e191)
                            obtain ⟨ce191, hce191, hMe191, hcc191⟩ := Kd.N_get HO_3.out z26 x15_1 p191 (by first | exact q191 | exact of_decide_eq_true (by first | (with_reducible assumption) | assumption) | (have e_ := (Kd.N_reads' HO_3.out).1; omega))
                            obtain ⟨ua191_6, uc191_6, rfl, ul191_6, ge191_6⟩ := k26_openF hMe191
                            have hv191_6 := hcc191 6 _ rfl
                            rw [add_field _ _ 6 (by omega)] at hv191_6
                            replace hv191_6 := Option.some.inj (hv191_6.symm.trans hx191_6)
                            injection hv191_6 with hva_ hvn_ hvc_
                            rw [hva_] at ge191_6
                            rw [hvc_] at ul191_6
                            have HL191_6 := Aside0.mk (show Kd.V k26 26 _ w.heap.size _ _ ((rd_T26 t175 x15_1).f3) from Kd.V_mk ul191_6 ge191_6)
                            clear hva_ hvn_ hvc_ ge191_6 ul191_6
                            clear hcc191 hce191
                            have HR191_6 := Aside0.mk hi191_6
                            have HC191_6 := Aside0.mk hl191_6
                            clear hi191_6 hl191_6
                            replace p191 := eq_true p191
                            replace q191 := eq_true q191
                            have ea_ := Option.some.inj (hx182_6.symm.trans hx191_6)
                            injection ea_ with ea_ en_ ec_
                            subst ea_
                            subst ec_
                            clear en_
                            go_wp2
                            repeat (go_quiet (fail); try go_wp2)
                            go_roundg kj12
                            case measure => have := HK1.out; have := HJ12.out; omega
                            case rel => exact ⟨(wrap64 (x15_1 + 1)), (by first | rfl | (simp; done) | (simp [*]; done)), H', ⟨by have := HK1.out; have := HJ12.out; omega⟩, ⟨by (with_reducible repeat (first | apply Kd.N_alloc | apply Kd.N_drewN | apply Kd.N_drew)); exact HO_3.out⟩, ⟨by (with_reducible repeat (first | refine blk_drewN ?_ _ | refine blk_drew ?_ | refine blk_alloc ?_ _)); exact BK174.out⟩, ⟨by repeat (first | (with_reducible first | exact HB.out | apply below_alloc | apply pw_below_drewN | apply below_drew1 | refine below_set ?_ GE174.out) | exact HB.out)⟩⟩
                          · rw [if_neg c34] at H
                            have c34b0 : (((rd_T26 t175 x15_1).f2) == 0) = false := beq_eq_false_iff_ne.mpr c34
                            have c34b1 : (((rd_T26 t175 x15_1).f2) != 0) = true := bne_iff_ne.mpr c34
                            obtain rfl := Option.some.inj H
                            have p182 : 0 ≤ (x15_1 : Int) := of_decide_eq_true (by first | (with_reducible assumption) | assumption)
                            have q182 : x15_1 < (t175.length : Int) := of_decide_eq_true (by first | (with_reducible assumption) | assumption)
                            obtain ⟨ad182, A182_6, c182_6, e182, hx182_0, hx182_1, hx182_2, hx182_3, hx182_4, hx182_5, hx182_6, hl182_6, hi182_6⟩ := at_T26 (Kd.N_reads' HO_3.out).2.2 x15_1 p182 q182
                            cases e182
                            obtain ⟨ce182, hce182, hMe182, hcc182⟩ := Kd.N_get HO_3.out z26 x15_1 p182 (by first | exact q182 | exact of_decide_eq_true (by first | (with_reducible assumption) | assumption) | (have e_ := (Kd.N_reads' HO_3.out).1; omega))
                            obtain ⟨ua182_6, uc182_6, rfl, ul182_6, ge182_6⟩ := k26_openF hMe182
                            have hv182_6 := hcc182 6 _ rfl
                            rw [add_field _ _ 6 (by omega)] at hv182_6
                            replace hv182_6 := Option.some.inj (hv182_6.symm.trans hx182_6)
                            injection hv182_6 with hva_ hvn_ hvc_
                            rw [hva_] at ge182_6
                            rw [hvc_] at ul182_6
                            have HL182_6 := Aside0.mk (show Kd.V k26 26 _ w.heap.size _ _ ((rd_T26 t175 x15_1).f3) from Kd.V_mk ul182_6 ge182_6)
                            clear hva_ hvn_ hvc_ ge182_6 ul182_6
                            clear hcc182 hce182
                            have HR182_6 := Aside0.mk hi182_6
                            have HC182_6 := Aside0.mk hl182_6
                            clear hi182_6 hl182_6
                            replace p182 := eq_true p182
                            replace q182 := eq_true q182
                            have p189 : 0 ≤ (x15_1 : Int) := of_decide_eq_true (by first | (with_reducible assumption) | assumption)
                            have q189 : x15_1 < (t175.length : Int) := of_decide_eq_true (by first | (with_reducible assumption) | assumption)
                            obtain ⟨ad189, A189_6, c189_6, e189, hx189_0, hx189_1, hx189_2, hx189_3, hx189_4, hx189_5, hx189_6, hl189_6, hi189_6⟩ := at_T26 (Kd.N_reads' HO_3.out).2.2 x15_1 p189 q189
                            obtain rfl : ad182 = ad189 := (by injection e189)
                            obtain ⟨ce189, hce189, hMe189, hcc189⟩ := Kd.N_get HO_3.out z26 x15_1 p189 (by first | exact q189 | exact of_decide_eq_true (by first | (with_reducible assumption) | assumption) | (have e_ := (Kd.N_reads' HO_3.out).1; omega))
                            obtain ⟨ua189_6, uc189_6, rfl, ul189_6, ge189_6⟩ := k26_openF hMe189
                            have hv189_6 := hcc189 6 _ rfl
                            rw [add_field _ _ 6 (by omega)] at hv189_6
                            replace hv189_6 := Option.some.inj (hv189_6.symm.trans hx189_6)
                            injection hv189_6 with hva_ hvn_ hvc_
                            rw [hva_] at ge189_6
                            rw [hvc_] at ul189_6
                            have HL189_6 := Aside0.mk (show Kd.V k26 26 _ w.heap.size _ _ ((rd_T26 t175 x15_1).f3) from Kd.V_mk ul189_6 ge189_6)
                            clear hva_ hvn_ hvc_ ge189_6 ul189_6
                            clear hcc189 hce189
                            have HR189_6 := Aside0.mk hi189_6
                            have HC189_6 := Aside0.mk hl189_6
                            clear hi189_6 hl189_6
                            replace p189 := eq_true p189
                            replace q189 := eq_true q189
                            have ea_ := Option.some.inj (hx182_6.symm.trans hx189_6)
                            injection ea_ with ea_ en_ ec_
                            subst ea_
                            subst ec_
                            clear en_
                            have p190 : 0 ≤ (x15_1 : Int) := of_decide_eq_true (by first | (with_reducible assumption) | assumption)
                            have q190 : x15_1 < (t175.length : Int) := of_decide_eq_true (by first | (with_reducible assumption) | assumption)
                            obtain ⟨ad190, A190_6, c190_6, e190, hx190_0, hx190_1, hx190_2, hx190_3, hx190_4, hx190_5, hx190_6, hl190_6, hi190_6⟩ := at_T26 (Kd.N_reads' HO_3.out).2.2 x15_1 p190 q190
                            obtain rfl : ad182 = ad190 := (by injection e190)
                            obtain ⟨ce190, hce190, hMe190, hcc190⟩ := Kd.N_get HO_3.out z26 x15_1 p190 (by first | exact q190 | exact of_decide_eq_true (by first | (with_reducible assumption) | assumption) | (have e_ := (Kd.N_reads' HO_3.out).1; omega))
                            obtain ⟨ua190_6, uc190_6, rfl, ul190_6, ge190_6⟩ := k26_openF hMe190
                            have hv190_6 := hcc190 6 _ rfl
                            rw [add_field _ _ 6 (by omega)] at hv190_6
                            replace hv190_6 := Option.some.inj (hv190_6.symm.trans hx190_6)
                            injection hv190_6 with hva_ hvn_ hvc_
                            rw [hva_] at ge190_6
                            rw [hvc_] at ul190_6
                            have HL190_6 := Aside0.mk (show Kd.V k26 26 _ w.heap.size _ _ ((rd_T26 t175 x15_1).f3) from Kd.V_mk ul190_6 ge190_6)
                            clear hva_ hvn_ hvc_ ge190_6 ul190_6
                            clear hcc190 hce190
                            have HR190_6 := Aside0.mk hi190_6
                            have HC190_6 := Aside0.mk hl190_6
                            clear hi190_6 hl190_6
                            replace p190 := eq_true p190
                            replace q190 := eq_true q190
                            have ea_ := Option.some.inj (hx182_6.symm.trans hx190_6)
                            injection ea_ with ea_ en_ ec_
                            subst ea_
                            subst ec_
                            clear en_
                            have p191 : 0 ≤ (x15_1 : Int) := of_decide_eq_true (by first | (with_reducible assumption) | assumption)
                            have q191 : x15_1 < (t175.length : Int) := of_decide_eq_true (by first | (with_reducible assumption) | assumption)
                            obtain ⟨ad191, A191_6, c191_6, e191, hx191_0, hx191_1, hx191_2, hx191_3, hx191_4, hx191_5, hx191_6, hl191_6, hi191_6⟩ := at_T26 (Kd.N_reads' HO_3.out).2.2 x15_1 p191 q191
                            obtain rfl : ad182 = ad191 := (by injection e191)
                            obtain ⟨ce191, hce191, hMe191, hcc191⟩ := Kd.N_get HO_3.out z26 x15_1 p191 (by first | exact q191 | exact of_decide_eq_true (by first | (with_reducible assumption) | assumption) | (have e_ := (Kd.N_reads' HO_3.out).1; omega))
                            obtain ⟨ua191_6, uc191_6, rfl, ul191_6, ge191_6⟩ := k26_openF hMe191
                            have hv191_6 := hcc191 6 _ rfl
                            rw [add_field _ _ 6 (by omega)] at hv191_6
                            replace hv191_6 := Option.some.inj (hv191_6.symm.trans hx191_6)
                            injection hv191_6 with hva_ hvn_ hvc_
                            rw [hva_] at ge191_6
                            rw [hvc_] at ul191_6
                            have HL191_6 := Aside0.mk (show Kd.V k26 26 _ w.heap.size _ _ ((rd_T26 t175 x15_1).f3) from Kd.V_mk ul191_6 ge191_6)
                            clear hva_ hvn_ hvc_ ge191_6 ul191_6
                            clear hcc191 hce191
                            have HR191_6 := Aside0.mk hi191_6
                            have HC191_6 := Aside0.mk hl191_6
                            clear hi191_6 hl191_6
                            replace p191 := eq_true p191
                            replace q191 := eq_true q191
                            have ea_ := Option.some.inj (hx182_6.symm.trans hx191_6)
                            injection ea_ with ea_ en_ ec_
                            subst ea_
                            subst ec_
                            clear en_
                            go_wp2
                            repeat (go_quiet (fail); try go_wp2)
                            go_ret
                            exact ⟨by first | rfl | (simp [errW_none, errW_some] <;> rfl) | (simp [*, errW_none, errW_some] <;> rfl), by repeat (first | (with_reducible first | exact HB.out | apply below_alloc | apply pw_below_drewN | apply below_drew1 | refine below_set ?_ GE174.out) | exact HB.out)⟩
                      · rw [if_neg c32] at H
                        have c32b0 : decide (1 < ((rd_T26 t175 x15_1).f0)) = false := decide_eq_false c32
                        clear c32
                        have H' := Aside0.mk H
                        clear H
                        have p182 : 0 ≤ (x15_1 : Int) := of_decide_eq_true (by first | (with_reducible assumption) | assumption)
                        have q182 : x15_1 < (t175.length : Int) := of_decide_eq_true (by first | (with_reducible assumption) | assumption)
                        obtain ⟨ad182, A182_6, c182_6, e182, hx182_0, hx182_1, hx182_2, hx182_3, hx182_4, hx182_5, hx182_6, hl182_6, hi182_6⟩ := at_T26 (Kd.N_reads' HO_3.out).2.2 x15_1 p182 q182
                        cases e182
                        obtain ⟨ce182, hce182, hMe182, hcc182⟩ := Kd.N_get HO_3.out z26 x15_1 p182 (by first | exact q182 | exact of_decide_eq_true (by first | (with_reducible assumption) | assumption) | (have e_ := (Kd.N_reads' HO_3.out).1; omega))
                        obtain ⟨ua182_6, uc182_6, rfl, ul182_6, ge182_6⟩ := k26_openF hMe182
                        have hv182_6 := hcc182 6 _ rfl
                        rw [add_field _ _ 6 (by omega)] at hv182_6
                        replace hv182_6 := Option.some.inj (hv182_6.symm.trans hx182_6)
                        injection hv182_6 with hva_ hvn_ hvc_
                        rw [hva_] at ge182_6
                        rw [hvc_] at ul182_6
                        have HL182_6 := Aside0.mk (show Kd.V k26 26 _ w.heap.size _ _ ((rd_T26 t175 x15_1).f3) from Kd.V_mk ul182_6 ge182_6)
                        clear hva_ hvn_ hvc_ ge182_6 ul182_6
                        clear hcc182 hce182
                        have HR182_6 := Aside0.mk hi182_6
                        have HC182_6 := Aside0.mk hl182_6
                        clear hi182_6 hl182_6
                        replace p182 := eq_true p182
                        replace q182 := eq_true q182
                        have p189 : 0 ≤ (x15_1 : Int) := of_decide_eq_true (by first | (with_reducible assumption) | assumption)
                        have q189 : x15_1 < (t175.length : Int) := of_decide_eq_true (by first | (with_reducible assumption) | assumption)
                        obtain ⟨ad189, A189_6, c189_6, e189, hx189_0, hx189_1, hx189_2, hx189_3, hx189_4, hx189_5, hx189_6, hl189_6, hi189_6⟩ := at_T26 (Kd.N_reads' HO_3.out).2.2 x15_1 p189 q189
                        obtain rfl : ad182 = ad189 := (by injection e189)
                        obtain ⟨ce189, hce189, hMe189, hcc189⟩ := Kd.N_get HO_3.out z26 x15_1 p189 (by first | exact q189 | exact of_decide_eq_true (by first | (with_reducible assumption) | assumption) | (have e_ := (Kd.N_reads' HO_3.out).1; omega))
                        obtain ⟨ua189_6, uc189_6, rfl, ul189_6, ge189_6⟩ := k26_openF hMe189
                        have hv189_6 := hcc189 6 _ rfl
                        rw [add_field _ _ 6 (by omega)] at hv189_6
                        replace hv189_6 := Option.some.inj (hv189_6.symm.trans hx189_6)
                        injection hv189_6 with hva_ hvn_ hvc_
                        rw [hva_] at ge189_6
                        rw [hvc_] at ul189_6
                        have HL189_6 := Aside0.mk (show Kd.V k26 26 _ w.heap.size _ _ ((rd_T26 t175 x15_1).f3) from Kd.V_mk ul189_6 ge189_6)
                        clear hva_ hvn_ hvc_ ge189_6 ul189_6
                        clear hcc189 hce189
                        have HR189_6 := Aside0.mk hi189_6
                        have HC189_6 := Aside0.mk hl189_6
                        clear hi189_6 hl189_6
                        replace p189 := eq_true p189
                        replace q189 := eq_true q189
                        have ea_ := Option.some.inj (hx182_6.symm.trans hx189_6)
                        injection ea_ with ea_ en_ ec_
                        subst ea_
                        subst ec_
                        clear en_
                        go_wp2
                        repeat (go_quiet (fail); try go_wp2)
                        go_roundg kj12
                        case measure => have := HK1.out; have := HJ12.out; omega
                        case rel => exact ⟨(wrap64 (x15_1 + 1)), (by first | rfl | (simp; done) | (simp [*]; done)), H', ⟨by have := HK1.out; have := HJ12.out; omega⟩, ⟨by (with_reducible repeat (first | apply Kd.N_alloc | apply Kd.N_drewN | apply Kd.N_drew)); exact HO_3.out⟩, ⟨by (with_reducible repeat (first | refine blk_drewN ?_ _ | refine blk_drew ?_ | refine blk_alloc ?_ _)); exact BK174.out⟩, ⟨by repeat (first | (with_reducible first | exact HB.out | apply below_alloc | apply pw_below_drewN | apply below_drew1 | refine below_set ?_ GE174.out) | exact HB.out)⟩⟩
                  · rw [if_neg c24] at H
                    exact absurd H (by simp)
                · rw [if_neg c23] at H
                  exact absurd H (by simp)
        · rw [if_neg c12] at H
          have c12b0 : decide (x15_1 < (t175.length : Int)) = false := decide_eq_false c12
          clear c12
          replace H := Option.bind_eq_some_iff.mp H
          obtain ⟨t192, A350, H⟩ := H
          replace H : (sashref05_May.l1 k1 t192 (t192.length : Int) 0) = some r := H
          have A35 := Aside0.mk A350
          clear A350
          have H' := Aside0.mk H
          clear H
          have hcz36_0 : wr.cell? ⟨gb174, 0, none⟩ = some (.int .u8 a0_0) := (blk_cell BK174.out 0).trans rfl
          have hcz36_1 : wr.cell? ⟨gb174, 1, none⟩ = some (.int .i64 a0_1) := (blk_cell BK174.out 1).trans rfl
          have hcz36_2 : wr.cell? ⟨gb174, 2, none⟩ = some (.int .i64 a0_2) := (blk_cell BK174.out 2).trans rfl
          have hcz36_3 : wr.cell? ⟨gb174, 3, none⟩ = some (.int .i64 a0_3) := (blk_cell BK174.out 3).trans rfl
          have hcz36_4 : wr.cell? ⟨gb174, 4, none⟩ = some (.int .i64 a0_4) := (blk_cell BK174.out 4).trans rfl
          have hcz36_5 : wr.cell? ⟨gb174, 5, none⟩ = some (.int .i64 a0_5) := (blk_cell BK174.out 5).trans rfl
          have hcz36_6 : wr.cell? ⟨gb174, 6, none⟩ = some (.slice A0_6 l0_6.length c0_6) := (blk_cell BK174.out 6).trans rfl
          have hfz36_0 := blk_frozen BK174.out 0
          have hfz36_1 := blk_frozen BK174.out 1
          have hfz36_2 := blk_frozen BK174.out 2
          have hfz36_3 := blk_frozen BK174.out 3
          have hfz36_4 := blk_frozen BK174.out 4
          have hfz36_5 := blk_frozen BK174.out 5
          have hfz36_6 := blk_frozen BK174.out 6
          go_wp2_with (first | (go_at_call 126; (with_reducible refine (sashref05_Leaves.calls k1 a0_0 a0_1 a0_2 a0_3 a0_4 a0_5 (fun k_ => k_ < w.heap.size) _ _ l0_6 t192 _ ?side1 A35.out).mono ?_); (case side1 => exact Kd.V_mk HC0_6.out (Kd.F_below (Kd.C_F k26_heap HR0_6.out) (by repeat (first | (with_reducible first | exact HB.out | apply below_alloc | apply pw_below_drewN | apply below_drew1 | refine below_set ?_ GE174.out) | exact HB.out)))); rintro e w37 ⟨v193, rfl, ho0, hb⟩; have n0_ := Aside0.mk (Kd.N_elder' (by (with_reducible repeat (first | apply Kd.N_alloc | apply Kd.N_drewN | apply Kd.N_drew)); exact HO_3.out) (Kd.N_base ho0) hb); have n1_ := Aside0.mk (Kd.N_lower (Kd.N_mono (ok' := fun k_ => some k_ ≠ (.slice Ao11 t175.length co11 : Value).ownBlock ∧ k_ ≠ gb174) ho0 (fun k_ hk_ => ⟨Or.elim hk_ (fun hs_ => fun e_ => Nat.not_le.2 hs_ (Kd.N_base HO_3.out k_ e_.symm)) (fun hn_ => (Kd.fresh' (Kd.N_lt (by (with_reducible repeat (first | apply Kd.N_alloc | apply Kd.N_drewN | apply Kd.N_drew)); exact HO_3.out)) k_ hn_)), Or.elim hk_ (fun hs_ => fun e_ => Nat.not_le.2 hs_ (by rw [e_]; exact GW174.out)) (fun hn_ => (Kd.freshB (g := gb174) (o := .cells #[.int .u8 a0_0, .int .i64 a0_1, .int .i64 a0_2, .int .i64 a0_3, .int .i64 a0_4, .int .i64 a0_5, .slice A0_6 l0_6.length c0_6] 26 (0, 0)) (by (with_reducible repeat (first | refine blk_drewN ?_ _ | refine blk_drew ?_ | refine blk_alloc ?_ _)); exact BK174.out) k_ hn_))⟩)) (below_size (by repeat (first | (with_reducible first | exact HB.out | apply below_alloc | apply pw_below_drewN | apply below_drew1 | refine below_set ?_ GE174.out) | exact HB.out)))); have n2_ := Aside0.mk (blk_below (g := gb174) (o := .cells #[.int .u8 a0_0, .int .i64 a0_1, .int .i64 a0_2, .int .i64 a0_3, .int .i64 a0_4, .int .i64 a0_5, .slice A0_6 l0_6.length c0_6] 26 (0, 0)) (by (with_reducible repeat (first | refine blk_drewN ?_ _ | refine blk_drew ?_ | refine blk_alloc ?_ _)); exact BK174.out) hb); have n3_ := Aside0.mk (below_step (by repeat (first | (with_reducible first | exact HB.out | apply below_alloc | apply pw_below_drewN | apply below_drew1 | refine below_set ?_ GE174.out) | exact HB.out)) hb); clear HO_3; clear BK174; clear HB; have HO_3 := n0_; have HO194 := n1_; have BK174 := n2_; have HB := n3_; clear n0_ n1_ n2_ n3_; (try clear hb); (try clear hb2); (try clear hk); (try clear hi); (try clear ho0); obtain ⟨Ao38, co38, eo38⟩ := Kd.N_slice HO194.out; subst eo38))
          repeat (go_quiet (first | (go_at_call 126; (with_reducible refine (sashref05_Leaves.calls k1 a0_0 a0_1 a0_2 a0_3 a0_4 a0_5 (fun k_ => k_ < w.heap.size) _ _ l0_6 t192 _ ?side1 A35.out).mono ?_); (case side1 => exact Kd.V_mk HC0_6.out (Kd.F_below (Kd.C_F k26_heap HR0_6.out) (by repeat (first | (with_reducible first | exact HB.out | apply below_alloc | apply pw_below_drewN | apply below_drew1 | refine below_set ?_ GE174.out) | exact HB.out)))); rintro e w37 ⟨v193, rfl, ho0, hb⟩; have n0_ := Aside0.mk (Kd.N_elder' (by (with_reducible repeat (first | apply Kd.N_alloc | apply Kd.N_drewN | apply Kd.N_drew)); exact HO_3.out) (Kd.N_base ho0) hb); have n1_ := Aside0.mk (Kd.N_lower (Kd.N_mono (ok' := fun k_ => some k_ ≠ (.slice Ao11 t175.length co11 : Value).ownBlock ∧ k_ ≠ gb174) ho0 (fun k_ hk_ => ⟨Or.elim hk_ (fun hs_ => fun e_ => Nat.not_le.2 hs_ (Kd.N_base HO_3.out k_ e_.symm)) (fun hn_ => (Kd.fresh' (Kd.N_lt (by (with_reducible repeat (first | apply Kd.N_alloc | apply Kd.N_drewN | apply Kd.N_drew)); exact HO_3.out)) k_ hn_)), Or.elim hk_ (fun hs_ => fun e_ => Nat.not_le.2 hs_ (by rw [e_]; exact GW174.out)) (fun hn_ => (Kd.freshB (g := gb174) (o := .cells #[.int .u8 a0_0, .int .i64 a0_1, .int .i64 a0_2, .int .i64 a0_3, .int .i64 a0_4, .int .i64 a0_5, .slice A0_6 l0_6.length c0_6] 26 (0, 0)) (by (with_reducible repeat (first | refine blk_drewN ?_ _ | refine blk_drew ?_ | refine blk_alloc ?_ _)); exact BK174.out) k_ hn_))⟩)) (below_size (by repeat (first | (with_reducible first | exact HB.out | apply below_alloc | apply pw_below_drewN | apply below_drew1 | refine below_set ?_ GE174.out) | exact HB.out)))); have n2_ := Aside0.mk (blk_below (g := gb174) (o := .cells #[.int .u8 a0_0, .int .i64 a0_1, .int .i64 a0_2, .int .i64 a0_3, .int .i64 a0_4, .int .i64 a0_5, .slice A0_6 l0_6.length c0_6] 26 (0, 0)) (by (with_reducible repeat (first | refine blk_drewN ?_ _ | refine blk_drew ?_ | refine blk_alloc ?_ _)); exact BK174.out) hb); have n3_ := Aside0.mk (below_step (by repeat (first | (with_reducible first | exact HB.out | apply below_alloc | apply pw_below_drewN | apply below_drew1 | refine below_set ?_ GE174.out) | exact HB.out)) hb); clear HO_3; clear BK174; clear HB; have HO_3 := n0_; have HO194 := n1_; have BK174 := n2_; have HB := n3_; clear n0_ n1_ n2_ n3_; (try clear hb); (try clear hb2); (try clear hk); (try clear hi); (try clear ho0); obtain ⟨Ao38, co38, eo38⟩ := Kd.N_slice HO194.out; subst eo38)); try go_wp2_with (first | (go_at_call 126; (with_reducible refine (sashref05_Leaves.calls k1 a0_0 a0_1 a0_2 a0_3 a0_4 a0_5 (fun k_ => k_ < w.heap.size) _ _ l0_6 t192 _ ?side1 A35.out).mono ?_); (case side1 => exact Kd.V_mk HC0_6.out (Kd.F_below (Kd.C_F k26_heap HR0_6.out) (by repeat (first | (with_reducible first | exact HB.out | apply below_alloc | apply pw_below_drewN | apply below_drew1 | refine below_set ?_ GE174.out) | exact HB.out)))); rintro e w37 ⟨v193, rfl, ho0, hb⟩; have n0_ := Aside0.mk (Kd.N_elder' (by (with_reducible repeat (first | apply Kd.N_alloc | apply Kd.N_drewN | apply Kd.N_drew)); exact HO_3.out) (Kd.N_base ho0) hb); have n1_ := Aside0.mk (Kd.N_lower (Kd.N_mono (ok' := fun k_ => some k_ ≠ (.slice Ao11 t175.length co11 : Value).ownBlock ∧ k_ ≠ gb174) ho0 (fun k_ hk_ => ⟨Or.elim hk_ (fun hs_ => fun e_ => Nat.not_le.2 hs_ (Kd.N_base HO_3.out k_ e_.symm)) (fun hn_ => (Kd.fresh' (Kd.N_lt (by (with_reducible repeat (first | apply Kd.N_alloc | apply Kd.N_drewN | apply Kd.N_drew)); exact HO_3.out)) k_ hn_)), Or.elim hk_ (fun hs_ => fun e_ => Nat.not_le.2 hs_ (by rw [e_]; exact GW174.out)) (fun hn_ => (Kd.freshB (g := gb174) (o := .cells #[.int .u8 a0_0, .int .i64 a0_1, .int .i64 a0_2, .int .i64 a0_3, .int .i64 a0_4, .int .i64 a0_5, .slice A0_6 l0_6.length c0_6] 26 (0, 0)) (by (with_reducible repeat (first | refine blk_drewN ?_ _ | refine blk_drew ?_ | refine blk_alloc ?_ _)); exact BK174.out) k_ hn_))⟩)) (below_size (by repeat (first | (with_reducible first | exact HB.out | apply below_alloc | apply pw_below_drewN | apply below_drew1 | refine below_set ?_ GE174.out) | exact HB.out)))); have n2_ := Aside0.mk (blk_below (g := gb174) (o := .cells #[.int .u8 a0_0, .int .i64 a0_1, .int .i64 a0_2, .int .i64 a0_3, .int .i64 a0_4, .int .i64 a0_5, .slice A0_6 l0_6.length c0_6] 26 (0, 0)) (by (with_reducible repeat (first | refine blk_drewN ?_ _ | refine blk_drew ?_ | refine blk_alloc ?_ _)); exact BK174.out) hb); have n3_ := Aside0.mk (below_step (by repeat (first | (with_reducible first | exact HB.out | apply below_alloc | apply pw_below_drewN | apply below_drew1 | refine below_set ?_ GE174.out) | exact HB.out)) hb); clear HO_3; clear BK174; clear HB; have HO_3 := n0_; have HO194 := n1_; have BK174 := n2_; have HB := n3_; clear n0_ n1_ n2_ n3_; (try clear hb); (try clear hb2); (try clear hk); (try clear hi); (try clear ho0); obtain ⟨Ao38, co38, eo38⟩ := Kd.N_slice HO194.out; subst eo38)))
          go_loopg [102] k1 (fun kq v102 w' => ∃ (x102_2 : Int), v102 = .int .i64 x102_2 ∧ Aside0 (sashref05_May.l1 kq t192 (t192.length : Int) x102_2 = some r) ∧ Aside0 (kq ≤ k1) ∧ Aside0 (Kd.N k26 26 w' w.heap.size (fun k_ => k_ ≠ gb174) (.slice Ao38 t192.length co38) t192) ∧ Aside0 (w'.heap[gb174]? = some (.cells #[.int .u8 a0_0, .int .i64 a0_1, .int .i64 a0_2, .int .i64 a0_3, .int .i64 a0_4, .int .i64 a0_5, (.slice A0_6 l0_6.length c0_6)] 26 (0, 0))) ∧ Aside0 (Below w.heap.size w w'))
          case atStart => exact ⟨(0), (by first | rfl | (simp; done) | (simp [*]; done)), H', ⟨Nat.le_refl _⟩, ⟨by (with_reducible repeat (first | apply Kd.N_alloc | apply Kd.N_drewN | apply Kd.N_drew)); exact Kd.N_mono HO194.out (fun _ hk => hk.2)⟩, ⟨by (with_reducible repeat (first | refine blk_drewN ?_ _ | refine blk_drew ?_ | refine blk_alloc ?_ _)); exact BK174.out⟩, ⟨by repeat (first | (with_reducible first | exact HB.out | apply below_alloc | apply pw_below_drewN | apply below_drew1 | refine below_set ?_ GE174.out) | exact HB.out)⟩⟩
          case round =>
            clear H'
            try clear c1
            try clear p1
            try clear q1
            try clear hx1
            try clear c2
            try clear p2
            try clear c3
            try clear p6
            try clear c12
            try clear c12b0
            try clear c18
            try clear p18
            try clear q18
            try clear hx18
            try clear c19
            try clear p19
            try clear q19
            try clear hx19
            try clear c23
            try clear c24
            try clear c25
            try clear c25b0
            try clear c25b1
            try clear c29
            try clear c29b0
            try clear c32
            try clear c32b0
            try clear c33
            try clear c33b0
            try clear c33b1
            try clear c34
            try clear c34b0
            try clear c34b1
            try clear hcz36_0
            try clear hcz36_1
            try clear hcz36_2
            try clear hcz36_3
            try clear hcz36_4
            try clear hcz36_5
            try clear hcz36_6
            try clear hfz36_0
            try clear hfz36_1
            try clear hfz36_2
            try clear hfz36_3
            try clear hfz36_4
            try clear hfz36_5
            try clear hfz36_6
            try clear hx182_0
            try clear hx182_1
            try clear hx182_2
            try clear hx182_3
            try clear hx182_4
            try clear hx182_5
            try clear hx182_6
            try clear hx183_0
            try clear hx183_1
            try clear hx183_2
            try clear hx183_3
            try clear hx183_4
            try clear hx183_5
            try clear hx183_6
            try clear hx184_0
            try clear hx184_1
            try clear hx184_2
            try clear hx184_3
            try clear hx184_4
            try clear hx184_5
            try clear hx184_6
            try clear hx185_0
            try clear hx185_1
            try clear hx185_2
            try clear hx185_3
            try clear hx185_4
            try clear hx185_5
            try clear hx185_6
            try clear hx186_0
            try clear hx186_1
            try clear hx186_2
            try clear hx186_3
            try clear hx186_4
            try clear hx186_5
            try clear hx186_6
            try clear hx187_0
            try clear hx187_1
            try clear hx187_2
            try clear hx187_3
            try clear hx187_4
            try clear hx187_5
            try clear hx187_6
            try clear hx188_0
            try clear hx188_1
            try clear hx188_2
            try clear hx188_3
            try clear hx188_4
            try clear hx188_5
            try clear hx188_6
            try clear hx189_0
            try clear hx189_1
            try clear hx189_2
            try clear hx189_3
            try clear hx189_4
            try clear hx189_5
            try clear hx189_6
            try clear hx190_0
            try clear hx190_1
            try clear hx190_2
            try clear hx190_3
            try clear hx190_4
            try clear hx190_5
            try clear hx190_6
            try clear hx191_0
            try clear hx191_1
            try clear hx191_2
            try clear hx191_3
            try clear hx191_4
            try clear hx191_5
            try clear hx191_6
            try clear p182
            try clear p183
            try clear p184
            try clear p185
            try clear p186
            try clear p187
            try clear p188
            try clear p189
            try clear p190
            try clear p191
            try clear q182
            try clear q183
            try clear q184
            try clear q185
            try clear q186
            try clear q187
            try clear q188
            try clear q189
            try clear q190
            try clear q191
            obtain ⟨x102_2, rfl, HA, HK2, HO_5, BK174, HB⟩ := hrel
            cases gk with
            | zero => exact absurd HA.out (by simp [sashref05_May.l1])
            | succ k2 =>
              have H := HA.out
              clear HA
              simp only [sashref05_May.l1] at H
              by_cases c39 : x102_2 < (t192.length : Int)
              · rw [if_pos c39] at H
                have c39b0 : decide (x102_2 < (t192.length : Int)) = true := decide_eq_true c39
                clear c39
                have H' := Aside0.mk H
                clear H
                go_wp2
                repeat (go_quiet (fail); try go_wp2)
                go_loopg [7] k2 (fun kq v7 w' => ∃ (x7_3 : Int), v7 = .int .i64 x7_3 ∧ Aside0 (sashref05_May.l2 kq t192 x102_2 x7_3 (t192.length : Int) x102_2 = some r) ∧ Aside0 (kq ≤ k2) ∧ Aside0 (Kd.N k26 26 w' w.heap.size (fun k_ => k_ ≠ gb174) (.slice Ao38 t192.length co38) t192) ∧ Aside0 (w'.heap[gb174]? = some (.cells #[.int .u8 a0_0, .int .i64 a0_1, .int .i64 a0_2, .int .i64 a0_3, .int .i64 a0_4, .int .i64 a0_5, (.slice A0_6 l0_6.length c0_6)] 26 (0, 0))) ∧ Aside0 (Below w.heap.size w w'))
                case atStart => exact ⟨(0), (by first | rfl | (simp; done) | (simp [*]; done)), H', ⟨Nat.le_refl _⟩, ⟨by (with_reducible repeat (first | apply Kd.N_alloc | apply Kd.N_drewN | apply Kd.N_drew)); exact HO_5.out⟩, ⟨by (with_reducible repeat (first | refine blk_drewN ?_ _ | refine blk_drew ?_ | refine blk_alloc ?_ _)); exact BK174.out⟩, ⟨by repeat (first | (with_reducible first | exact HB.out | apply below_alloc | apply pw_below_drewN | apply below_drew1 | refine below_set ?_ GE174.out) | exact HB.out)⟩⟩
                case round =>
                  clear H'
                  try clear c1
                  try clear p1
                  try clear q1
                  try clear hx1
                  try clear c2
                  try clear p2
                  try clear c3
                  try clear p6
                  try clear c12
                  try clear c12b0
                  try clear c18
                  try clear p18
                  try clear q18
                  try clear hx18
                  try clear c19
                  try clear p19
                  try clear q19
                  try clear hx19
                  try clear c23
                  try clear c24
                  try clear c25
                  try clear c25b0
                  try clear c25b1
                  try clear c29
                  try clear c29b0
                  try clear c32
                  try clear c32b0
                  try clear c33
                  try clear c33b0
                  try clear c33b1
                  try clear c34
                  try clear c34b0
                  try clear c34b1
                  try clear c39
                  try clear c39b0
                  try clear hcz36_0
                  try clear hcz36_1
                  try clear hcz36_2
                  try clear hcz36_3
                  try clear hcz36_4
                  try clear hcz36_5
                  try clear hcz36_6
                  try clear hfz36_0
                  try clear hfz36_1
                  try clear hfz36_2
                  try clear hfz36_3
                  try clear hfz36_4
                  try clear hfz36_5
                  try clear hfz36_6
                  try clear hx182_0
                  try clear hx182_1
                  try clear hx182_2
                  try clear hx182_3
                  try clear hx182_4
                  try clear hx182_5
                  try clear hx182_6
                  try clear hx183_0
                  try clear hx183_1
                  try clear hx183_2
                  try clear hx183_3
                  try clear hx183_4
                  try clear hx183_5
                  try clear hx183_6
                  try clear hx184_0
                  try clear hx184_1
                  try clear hx184_2
                  try clear hx184_3
                  try clear hx184_4
                  try clear hx184_5
                  try clear hx184_6
                  try clear hx185_0
                  try clear hx185_1
                  try clear hx185_2
                  try clear hx185_3
                  try clear hx185_4
                  try clear hx185_5
                  try clear hx185_6
                  try clear hx186_0
                  try clear hx186_1
                  try clear hx186_2
                  try clear hx186_3
                  try clear hx186_4
                  try clear hx186_5
                  try clear hx186_6
                  try clear hx187_0
                  try clear hx187_1
                  try clear hx187_2
                  try clear hx187_3
                  try clear hx187_4
                  try clear hx187_5
                  try clear hx187_6
                  try clear hx188_0
                  try clear hx188_1
                  try clear hx188_2
                  try clear hx188_3
                  try clear hx188_4
                  try clear hx188_5
                  try clear hx188_6
                  try clear hx189_0
                  try clear hx189_1
                  try clear hx189_2
                  try clear hx189_3
                  try clear hx189_4
                  try clear hx189_5
                  try clear hx189_6
                  try clear hx190_0
                  try clear hx190_1
                  try clear hx190_2
                  try clear hx190_3
                  try clear hx190_4
                  try clear hx190_5
                  try clear hx190_6
                  try clear hx191_0
                  try clear hx191_1
                  try clear hx191_2
                  try clear hx191_3
                  try clear hx191_4
                  try clear hx191_5
                  try clear hx191_6
                  try clear p1
                  try clear p18
                  try clear p182
                  try clear p183
                  try clear p184
                  try clear p185
                  try clear p186
                  try clear p187
                  try clear p188
                  try clear p189
                  try clear p19
                  try clear p190
                  try clear p191
                  try clear p2
                  try clear p6
                  try clear q1
                  try clear q18
                  try clear q182
                  try clear q183
                  try clear q184
                  try clear q185
                  try clear q186
                  try clear q187
                  try clear q188
                  try clear q189
                  try clear q19
                  try clear q190
                  try clear q191
                  obtain ⟨x7_3, rfl, HA, HK3, HO_5, BK174, HB⟩ := hrel
                  cases gk with
                  | zero => exact absurd HA.out (by simp [sashref05_May.l2])
                  | succ k3 =>
                    have H := HA.out
                    clear HA
                    simp only [sashref05_May.l2] at H
                    by_cases c40 : x7_3 < x102_2
                    · rw [if_pos c40] at H
                      have c40b0 : decide (x7_3 < x102_2) = true := decide_eq_true c40
                      clear c40
                      by_cases c41 : 0 ≤ x102_2
                      · rw [if_pos c41] at H
                        have c41b0 : decide (0 ≤ x102_2) = true := decide_eq_true c41
                        clear c41
                        by_cases c42 : x102_2 < (t192.length : Int)
                        · rw [if_pos c42] at H
                          have c42b0 : decide (x102_2 < (t192.length : Int)) = true := decide_eq_true c42
                          clear c42
                          by_cases c43 : 0 ≤ x7_3
                          · rw [if_pos c43] at H
                            have c43b0 : decide (0 ≤ x7_3) = true := decide_eq_true c43
                            clear c43
                            by_cases c44 : x7_3 < (t192.length : Int)
                            · rw [if_pos c44] at H
                              have c44b0 : decide (x7_3 < (t192.length : Int)) = true := decide_eq_true c44
                              clear c44
                              by_cases c45 : ((rd_T26 t192 x102_2).f2) = ((rd_T26 t192 x7_3).f2)
                              · rw [if_pos c45] at H
                                have c45b0 : (((rd_T26 t192 x102_2).f2) == ((rd_T26 t192 x7_3).f2)) = true := beq_iff_eq.mpr c45
                                have c45b1 : (((rd_T26 t192 x102_2).f2) != ((rd_T26 t192 x7_3).f2)) = false := bne_eq_false_iff_eq.mpr c45
                                clear c45
                                obtain rfl := Option.some.inj H
                                have p195 : 0 ≤ (x102_2 : Int) := of_decide_eq_true (by first | (with_reducible assumption) | assumption)
                                have q195 : x102_2 < (t192.length : Int) := of_decide_eq_true (by first | (with_reducible assumption) | assumption)
                                obtain ⟨ad195, A195_6, c195_6, e195, hx195_0, hx195_1, hx195_2, hx195_3, hx195_4, hx195_5, hx195_6, hl195_6, hi195_6⟩ := at_T26 (Kd.N_reads' HO_5.out).2.2 x102_2 p195 q195
                                cases e195
                                obtain ⟨ce195, hce195, hMe195, hcc195⟩ := Kd.N_get HO_5.out z26 x102_2 p195 (by first | exact q195 | exact of_decide_eq_true (by first | (with_reducible assumption) | assumption) | (have e_ := (Kd.N_reads' HO_5.out).1; omega))
                                obtain ⟨ua195_6, uc195_6, rfl, ul195_6, ge195_6⟩ := k26_openF hMe195
                                have hv195_6 := hcc195 6 _ rfl
                                rw [add_field _ _ 6 (by omega)] at hv195_6
                                replace hv195_6 := Option.some.inj (hv195_6.symm.trans hx195_6)
                                injection hv195_6 with hva_ hvn_ hvc_
                                rw [hva_] at ge195_6
                                rw [hvc_] at ul195_6
                                have HL195_6 := Aside0.mk (show Kd.V k26 26 _ w.heap.size _ _ ((rd_T26 t192 x102_2).f3) from Kd.V_mk ul195_6 ge195_6)
                                clear hva_ hvn_ hvc_ ge195_6 ul195_6
                                clear hcc195 hce195
                                have HR195_6 := Aside0.mk hi195_6
                                have HC195_6 := Aside0.mk hl195_6
                                clear hi195_6 hl195_6
                                replace p195 := eq_true p195
                                replace q195 := eq_true q195
                                have p196 : 0 ≤ (x7_3 : Int) := of_decide_eq_true (by first | (with_reducible assumption) | assumption)
                                have q196 : x7_3 < (t192.length : Int) := of_decide_eq_true (by first | (with_reducible assumption) | assumption)
                                obtain ⟨ad196, A196_6, c196_6, e196, hx196_0, hx196_1, hx196_2, hx196_3, hx196_4, hx196_5, hx196_6, hl196_6, hi196_6⟩ := at_T26 (Kd.N_reads' HO_5.out).2.2 x7_3 p196 q196
                                obtain rfl : ad195 = ad196 := (by injection e196)
                                obtain ⟨ce196, hce196, hMe196, hcc196⟩ := Kd.N_get HO_5.out z26 x7_3 p196 (by first | exact q196 | exact of_decide_eq_true (by first | (with_reducible assumption) | assumption) | (have e_ := (Kd.N_reads' HO_5.out).1; omega))
                                obtain ⟨ua196_6, uc196_6, rfl, ul196_6, ge196_6⟩ := k26_openF hMe196
                                have hv196_6 := hcc196 6 _ rfl
                                rw [add_field _ _ 6 (by omega)] at hv196_6
                                replace hv196_6 := Option.some.inj (hv196_6.symm.trans hx196_6)
                                injection hv196_6 with hva_ hvn_ hvc_
                                rw [hva_] at ge196_6
                                rw [hvc_] at ul196_6
                                have HL196_6 := Aside0.mk (show Kd.V k26 26 _ w.heap.size _ _ ((rd_T26 t192 x7_3).f3) from Kd.V_mk ul196_6 ge196_6)
                                clear hva_ hvn_ hvc_ ge196_6 ul196_6
                                clear hcc196 hce196
                                have HR196_6 := Aside0.mk hi196_6
                                have HC196_6 := Aside0.mk hl196_6
                                clear hi196_6 hl196_6
                                replace p196 := eq_true p196
                                replace q196 := eq_true q196
                                go_wp2
                                repeat (go_quiet (fail); try go_wp2)
                                go_ret
                                exact ⟨by first | rfl | (simp [errW_none, errW_some] <;> rfl) | (simp [*, errW_none, errW_some] <;> rfl), by repeat (first | (with_reducible first | exact HB.out | apply below_alloc | apply pw_below_drewN | apply below_drew1 | refine below_set ?_ GE174.out) | exact HB.out)⟩
                              · rw [if_neg c45] at H
                                have c45b0 : (((rd_T26 t192 x102_2).f2) == ((rd_T26 t192 x7_3).f2)) = false := beq_eq_false_iff_ne.mpr c45
                                have c45b1 : (((rd_T26 t192 x102_2).f2) != ((rd_T26 t192 x7_3).f2)) = true := bne_iff_ne.mpr c45
                                have H' := Aside0.mk H
                                clear H
                                have p195 : 0 ≤ (x102_2 : Int) := of_decide_eq_true (by first | (with_reducible assumption) | assumption)
                                have q195 : x102_2 < (t192.length : Int) := of_decide_eq_true (by first | (with_reducible assumption) | assumption)
                                obtain ⟨ad195, A195_6, c195_6, e195, hx195_0, hx195_1, hx195_2, hx195_3, hx195_4, hx195_5, hx195_6, hl195_6, hi195_6⟩ := at_T26 (Kd.N_reads' HO_5.out).2.2 x102_2 p195 q195
                                cases e195
                                obtain ⟨ce195, hce195, hMe195, hcc195⟩ := Kd.N_get HO_5.out z26 x102_2 p195 (by first | exact q195 | exact of_decide_eq_true (by first | (with_reducible assumption) | assumption) | (have e_ := (Kd.N_reads' HO_5.out).1; omega))
                                obtain ⟨ua195_6, uc195_6, rfl, ul195_6, ge195_6⟩ := k26_openF hMe195
                                have hv195_6 := hcc195 6 _ rfl
                                rw [add_field _ _ 6 (by omega)] at hv195_6
                                replace hv195_6 := Option.some.inj (hv195_6.symm.trans hx195_6)
                                injection hv195_6 with hva_ hvn_ hvc_
                                rw [hva_] at ge195_6
                                rw [hvc_] at ul195_6
                                have HL195_6 := Aside0.mk (show Kd.V k26 26 _ w.heap.size _ _ ((rd_T26 t192 x102_2).f3) from Kd.V_mk ul195_6 ge195_6)
                                clear hva_ hvn_ hvc_ ge195_6 ul195_6
                                clear hcc195 hce195
                                have HR195_6 := Aside0.mk hi195_6
                                have HC195_6 := Aside0.mk hl195_6
                                clear hi195_6 hl195_6
                                replace p195 := eq_true p195
                                replace q195 := eq_true q195
                                have p196 : 0 ≤ (x7_3 : Int) := of_decide_eq_true (by first | (with_reducible assumption) | assumption)
                                have q196 : x7_3 < (t192.length : Int) := of_decide_eq_true (by first | (with_reducible assumption) | assumption)
                                obtain ⟨ad196, A196_6, c196_6, e196, hx196_0, hx196_1, hx196_2, hx196_3, hx196_4, hx196_5, hx196_6, hl196_6, hi196_6⟩ := at_T26 (Kd.N_reads' HO_5.out).2.2 x7_3 p196 q196
                                obtain rfl : ad195 = ad196 := (by injection e196)
                                obtain ⟨ce196, hce196, hMe196, hcc196⟩ := Kd.N_get HO_5.out z26 x7_3 p196 (by first | exact q196 | exact of_decide_eq_true (by first | (with_reducible assumption) | assumption) | (have e_ := (Kd.N_reads' HO_5.out).1; omega))
                                obtain ⟨ua196_6, uc196_6, rfl, ul196_6, ge196_6⟩ := k26_openF hMe196
                                have hv196_6 := hcc196 6 _ rfl
                                rw [add_field _ _ 6 (by omega)] at hv196_6
                                replace hv196_6 := Option.some.inj (hv196_6.symm.trans hx196_6)
                                injection hv196_6 with hva_ hvn_ hvc_
                                rw [hva_] at ge196_6
                                rw [hvc_] at ul196_6
                                have HL196_6 := Aside0.mk (show Kd.V k26 26 _ w.heap.size _ _ ((rd_T26 t192 x7_3).f3) from Kd.V_mk ul196_6 ge196_6)
                                clear hva_ hvn_ hvc_ ge196_6 ul196_6
                                clear hcc196 hce196
                                have HR196_6 := Aside0.mk hi196_6
                                have HC196_6 := Aside0.mk hl196_6
                                clear hi196_6 hl196_6
                                replace p196 := eq_true p196
                                replace q196 := eq_true q196
                                go_wp2
                                repeat (go_quiet (fail); try go_wp2)
                                go_roundg k3
                                case measure => have := HK1.out; have := HK2.out; have := HK3.out; omega
                                case rel => exact ⟨(wrap64 (x7_3 + 1)), (by first | rfl | (simp; done) | (simp [*]; done)), H', ⟨by have := HK1.out; have := HK2.out; have := HK3.out; omega⟩, ⟨by (with_reducible repeat (first | apply Kd.N_alloc | apply Kd.N_drewN | apply Kd.N_drew)); exact HO_5.out⟩, ⟨by (with_reducible repeat (first | refine blk_drewN ?_ _ | refine blk_drew ?_ | refine blk_alloc ?_ _)); exact BK174.out⟩, ⟨by repeat (first | (with_reducible first | exact HB.out | apply below_alloc | apply pw_below_drewN | apply below_drew1 | refine below_set ?_ GE174.out) | exact HB.out)⟩⟩
                            · rw [if_neg c44] at H
                              exact absurd H (by simp)
                          · rw [if_neg c43] at H
                            exact absurd H (by simp)
                        · rw [if_neg c42] at H
                          exact absurd H (by simp)
                      · rw [if_neg c41] at H
                        exact absurd H (by simp)
                    · rw [if_neg c40] at H
                      have c40b0 : decide (x7_3 < x102_2) = false := decide_eq_false c40
                      clear c40
                      have H' := Aside0.mk H
                      clear H
                      go_wp2
                      repeat (go_quiet (fail); try go_wp2)
                      go_roundg k3
                      case measure => have := HK1.out; have := HK2.out; have := HK3.out; omega
                      case rel => exact ⟨(wrap64 (x102_2 + 1)), (by first | rfl | (simp; done) | (simp [*]; done)), H', ⟨by have := HK1.out; have := HK2.out; have := HK3.out; omega⟩, ⟨by (with_reducible repeat (first | apply Kd.N_alloc | apply Kd.N_drewN | apply Kd.N_drew)); exact HO_5.out⟩, ⟨by (with_reducible repeat (first | refine blk_drewN ?_ _ | refine blk_drew ?_ | refine blk_alloc ?_ _)); exact BK174.out⟩, ⟨by repeat (first | (with_reducible first | exact HB.out | apply below_alloc | apply pw_below_drewN | apply below_drew1 | refine below_set ?_ GE174.out) | exact HB.out)⟩⟩
              · rw [if_neg c39] at H
                have c39b0 : decide (x102_2 < (t192.length : Int)) = false := decide_eq_false c39
                clear c39
                obtain rfl := Option.some.inj H
                go_wp2
                repeat (go_quiet (fail); try go_wp2)
                go_ret
                exact ⟨by first | rfl | (simp [errW_none, errW_some] <;> rfl) | (simp [*, errW_none, errW_some] <;> rfl), by repeat (first | (with_reducible first | exact HB.out | apply below_alloc | apply pw_below_drewN | apply below_drew1 | refine below_set ?_ GE174.out) | exact HB.out)⟩

end Go.Proofs.Ytfdmfgaiblfbhaa.P
namespace Go.Proofs.Ytfdmfgaiblfbhaa.P
open Go.RowKit Go.Proofs.YtfdmfgaiblfbhaaW.PrintWords Go.Proofs.YtfdmfgaiblfbhaaW.PrintLast Go.Proofs.YtfdmfgaiblfbhaaW.PrintMore
attribute [local go_sem] max2_int min2_int max_two min_two max_three min_three max_four min_four   -- for this text's walks alone
set_option linter.unusedVariables false
set_option linter.unusedSimpArgs false

attribute [local go_sem high] eqA35
/-! ### sashref07_Same: function 42 -/
def sashref07_Same.l0 : Nat → List (S35) → List (S35) → Int → Int → Option (Bool)
  | 0, _, _, _, _ => none
  | k + 1, x0, x1, x12, x13 => if x13 < x12 then (if 0 ≤ x13 then (if x13 < (x0.length : Int) then (if x13 < (x1.length : Int) then (if (!(((rd_T35 x0 x13).f0) == ((rd_T35 x1 x13).f0)) || ((!(((rd_T35 x0 x13).f1.f0) == ((rd_T35 x1 x13).f1.f0)) || (!(((rd_T35 x0 x13).f1.f1) == ((rd_T35 x1 x13).f1.f1)) || (!(((rd_T35 x0 x13).f1.f2) == ((rd_T35 x1 x13).f1.f2)) || (!(((rd_T35 x0 x13).f1.f3) == ((rd_T35 x1 x13).f1.f3)))))))) = true then (some false) else (sashref07_Same.l0 k x0 x1 x12 (wrap64 (x13 + 1)))) else (none)) else (none)) else (none)) else (some true)
def sashref07_Same.f (k : Nat) (l0 : List (S35)) (l1 : List (S35)) : Option (Bool) := if (l0.length : Int) = (l1.length : Int) then (sashref07_Same.l0 k l0 l1 (l0.length : Int) 0) else (some false)
theorem sashref07_Same.mono_l : ∀ k, (∀ y0 y1 y2 y3, LeO (sashref07_Same.l0 k y0 y1 y2 y3) (sashref07_Same.l0 (k + 1) y0 y1 y2 y3))
  | 0 => fun _ _ _ _ r h => by simp [sashref07_Same.l0] at h
  | k + 1 => by
    have ih0 := sashref07_Same.mono_l k
    · intro y0 y1 y2 y3
      unfold sashref07_Same.l0
      repeat' first
      | (with_reducible exact ih0 _ _ _ _)
      | (with_reducible exact LeO.refl _)
      | (with_reducible exact LeO.none _)
      | (with_reducible refine LeO.ite ?_ ?_)
      | (with_reducible refine LeO.bind ?_ (fun _ => ?_))
      | exact ih0 _ _ _ _
      | exact LeO.none _
      | refine LeO.ite ?_ ?_
      | refine LeO.bind ?_ (fun _ => ?_)
theorem sashref07_Same.mono : ∀ a0 a1 k, LeO (sashref07_Same.f k a0 a1) (sashref07_Same.f (k + 1) a0 a1) := by
  intro a0 a1 k
  have ih0 := sashref07_Same.mono_l k
  unfold sashref07_Same.f
  repeat' first
      | (with_reducible exact ih0 _ _ _ _)
      | (with_reducible exact LeO.refl _)
      | (with_reducible exact LeO.none _)
      | (with_reducible refine LeO.ite ?_ ?_)
      | (with_reducible refine LeO.bind ?_ (fun _ => ?_))
      | exact ih0 _ _ _ _
      | exact LeO.none _
      | refine LeO.ite ?_ ?_
      | refine LeO.bind ?_ (fun _ => ?_)
set_option maxHeartbeats 8000000 in
set_option maxRecDepth 100000 in
theorem sashref07_Same.calls (k : Nat) (A0 : Option Addr) (c0 : Nat) (l0 : List (S35)) (A1 : Option Addr) (c1 : Nat) (l1 : List (S35)) (r : Bool) (w : World) (hr0 : Kd.C k35 w A0 l0.length l0) (hc0 : l0.length ≤ c0) (hr1 : Kd.C k35 w A1 l1.length l1) (hc1 : l1.length ≤ c1) (h : sashref07_Same.f k l0 l1 = some r) :
    Calls Try.prog 42 #[.slice A0 l0.length c0, .slice A1 l1.length c1] w fun e w' => e = .returned (.bool r) ∧ Drawn0 w w' := by
  have hu35 := Try.underlying35
  have HR0 := Aside0.mk hr0
  have HC0 := Aside0.mk hc0
  clear hr0 hc0
  have HR1 := Aside0.mk hr1
  have HC1 := Aside0.mk hc1
  clear hr1 hc1
  have H : (if (l0.length : Int) = (l1.length : Int) then (sashref07_Same.l0 k l0 l1 (l0.length : Int) 0) else (some false)) = some r := h
  clear h
  by_cases c3 : (l0.length : Int) = (l1.length : Int)
  · rw [if_pos c3] at H
    have c3b0 : ((l0.length : Int) == (l1.length : Int)) = true := beq_iff_eq.mpr c3
    have c3b1 : ((l0.length : Int) != (l1.length : Int)) = false := bne_eq_false_iff_eq.mpr c3
    have c3b2 : (l0.length == l1.length) = true := by first | simpa using c3 | (simp at c3 ⊢; omega)
    clear c3
    have H' := Aside0.mk H
    clear H
    go_enter Try.func42, Try.ntmps42
    go_wp2
    repeat (go_quiet (fail); try go_wp2)
    go_loopg [13] k (fun kq v13 w' => ∃ (x13_1 : Int), v13 = .int .i64 x13_1 ∧ Aside0 (sashref07_Same.l0 kq l0 l1 (l0.length : Int) x13_1 = some r) ∧ Aside0 (kq ≤ k) ∧ Drawn0 w w')
    case atStart => exact ⟨(0), (by first | rfl | (simp; done) | (simp [*]; done)), H', ⟨Nat.le_refl _⟩, by repeat (first | exact Drawn0.refl _ | apply Drawn0.step)⟩
    case round =>
      clear H'
      try clear c1
      try clear p2
      try clear c3
      try clear c3b0
      try clear c3b1
      try clear c3b2
      obtain ⟨x13_1, rfl, HA, HK1, ⟨m1, rfl⟩⟩ := hrel
      cases gk with
      | zero => exact absurd HA.out (by simp [sashref07_Same.l0])
      | succ k1 =>
        have H := HA.out
        clear HA
        simp only [sashref07_Same.l0] at H
        by_cases c4 : x13_1 < (l0.length : Int)
        · rw [if_pos c4] at H
          have c4b0 : decide (x13_1 < (l0.length : Int)) = true := decide_eq_true c4
          clear c4
          by_cases c5 : 0 ≤ x13_1
          · rw [if_pos c5] at H
            have c5b0 : decide (0 ≤ x13_1) = true := decide_eq_true c5
            clear c5
            by_cases c6 : x13_1 < (l0.length : Int)
            · rw [if_pos c6] at H
              have c6b0 : decide (x13_1 < (l0.length : Int)) = true := decide_eq_true c6
              clear c6
              by_cases c7 : x13_1 < (l1.length : Int)
              · rw [if_pos c7] at H
                have c7b0 : decide (x13_1 < (l1.length : Int)) = true := decide_eq_true c7
                clear c7
                by_cases c8 : (!(((rd_T35 l0 x13_1).f0) == ((rd_T35 l1 x13_1).f0)) || ((!(((rd_T35 l0 x13_1).f1.f0) == ((rd_T35 l1 x13_1).f1.f0)) || (!(((rd_T35 l0 x13_1).f1.f1) == ((rd_T35 l1 x13_1).f1.f1)) || (!(((rd_T35 l0 x13_1).f1.f2) == ((rd_T35 l1 x13_1).f1.f2)) || (!(((rd_T35 l0 x13_1).f1.f3) == ((rd_T35 l1 x13_1).f1.f3)))))))) = true
                · rw [if_pos c8] at H
                  have c8b0 : (!(((rd_T35 l0 x13_1).f0) == ((rd_T35 l1 x13_1).f0)) || ((!(((rd_T35 l0 x13_1).f1.f0) == ((rd_T35 l1 x13_1).f1.f0)) || (!(((rd_T35 l0 x13_1).f1.f1) == ((rd_T35 l1 x13_1).f1.f1)) || (!(((rd_T35 l0 x13_1).f1.f2) == ((rd_T35 l1 x13_1).f1.f2)) || (!(((rd_T35 l0 x13_1).f1.f3) == ((rd_T35 l1 x13_1).f1.f3)))))))) = true := c8
                  clear c8
                  obtain rfl := Option.some.inj H
                  have p216 : 0 ≤ (x13_1 : Int) := of_decide_eq_true (by first | (with_reducible assumption) | assumption)
                  have q216 : x13_1 < (l0.length : Int) := of_decide_eq_true (by first | (with_reducible assumption) | assumption)
                  obtain ⟨ad216, e216, hx216_0, hx216_1, hx216_2, hx216_3, hx216_4⟩ := at_T35 HR0.out x13_1 p216 q216
                  cases e216
                  replace p216 := eq_true p216
                  replace q216 := eq_true q216
                  have p217 : 0 ≤ (x13_1 : Int) := of_decide_eq_true (by first | (with_reducible assumption) | assumption)
                  have q217 : x13_1 < (l1.length : Int) := of_decide_eq_true (by first | (with_reducible assumption) | assumption)
                  obtain ⟨ad217, e217, hx217_0, hx217_1, hx217_2, hx217_3, hx217_4⟩ := at_T35 HR1.out x13_1 p217 q217
                  cases e217
                  replace p217 := eq_true p217
                  replace q217 := eq_true q217
                  go_wp2
                  repeat (go_quiet (fail); try go_wp2)
                  go_ret
                  exact ⟨by first | rfl | (simp; done) | (simp [*]; done), by repeat (first | exact Drawn0.refl _ | apply Drawn0.step)⟩
                · rw [if_neg c8] at H
                  have c8b0 : (!(((rd_T35 l0 x13_1).f0) == ((rd_T35 l1 x13_1).f0)) || ((!(((rd_T35 l0 x13_1).f1.f0) == ((rd_T35 l1 x13_1).f1.f0)) || (!(((rd_T35 l0 x13_1).f1.f1) == ((rd_T35 l1 x13_1).f1.f1)) || (!(((rd_T35 l0 x13_1).f1.f2) == ((rd_T35 l1 x13_1).f1.f2)) || (!(((rd_T35 l0 x13_1).f1.f3) == ((rd_T35 l1 x13_1).f1.f3)))))))) = false := by simpa using c8
                  clear c8
                  have H' := Aside0.mk H
                  clear H
                  have p216 : 0 ≤ (x13_1 : Int) := of_decide_eq_true (by first | (with_reducible assumption) | assumption)
                  have q216 : x13_1 < (l0.length : Int) := of_decide_eq_true (by first | (with_reducible assumption) | assumption)
                  obtain ⟨ad216, e216, hx216_0, hx216_1, hx216_2, hx216_3, hx216_4⟩ := at_T35 HR0.out x13_1 p216 q216
                  cases e216
                  replace p216 := eq_true p216
                  replace q216 := eq_true q216
                  have p217 : 0 ≤ (x13_1 : Int) := of_decide_eq_true (by first | (with_reducible assumption) | assumption)
                  have q217 : x13_1 < (l1.length : Int) := of_decide_eq_true (by first | (with_reducible assumption) | assumption)
                  obtain ⟨ad217, e217, hx217_0, hx217_1, hx217_2, hx217_3, hx217_4⟩ := at_T35 HR1.out x13_1 p217 q217
                  cases e217
                  replace p217 := eq_true p217
                  replace q217 := eq_true q217
                  go_wp2
                  repeat (go_quiet (fail); try go_wp2)
                  go_roundg k1
                  case measure => have := HK1.out; omega
                  case rel => exact ⟨(wrap64 (x13_1 + 1)), (by first | rfl | (simp; done) | (simp [*]; done)), H', ⟨by have := HK1.out; omega⟩, by repeat (first | exact Drawn0.refl _ | apply Drawn0.step)⟩
              · rw [if_neg c7] at H
                exact absurd H (by simp)
            · rw [if_neg c6] at H
              exact absurd H (by simp)
          · rw [if_neg c5] at H
            exact absurd H (by simp)
        · rw [if_neg c4] at H
          have c4b0 : decide (x13_1 < (l0.length : Int)) = false := decide_eq_false c4
          clear c4
          obtain rfl := Option.some.inj H
          go_wp2
          repeat (go_quiet (fail); try go_wp2)
          go_ret
          exact ⟨by first | rfl | (simp; done) | (simp [*]; done), by repeat (first | exact Drawn0.refl _ | apply Drawn0.step)⟩
  · rw [if_neg c3] at H
    have c3b0 : ((l0.length : Int) == (l1.length : Int)) = false := beq_eq_false_iff_ne.mpr c3
    have c3b1 : ((l0.length : Int) != (l1.length : Int)) = true := bne_iff_ne.mpr c3
    have c3b2 : (l0.length == l1.length) = false := by first | simpa using c3 | (simp at c3 ⊢; omega)
    obtain rfl := Option.some.inj H
    go_enter Try.func42, Try.ntmps42
    go_wp2
    repeat (go_quiet (fail); try go_wp2)
    go_ret
    exact ⟨by first | rfl | (simp; done) | (simp [*]; done), by repeat (first | exact Drawn0.refl _ | apply Drawn0.step)⟩

end Go.Proofs.Ytfdmfgaiblfbhaa.P
namespace Go.Proofs.Ytfdmfgaiblfbhaa.P
open Go.RowKit Go.Proofs.YtfdmfgaiblfbhaaW.PrintWords Go.Proofs.YtfdmfgaiblfbhaaW.PrintLast Go.Proofs.YtfdmfgaiblfbhaaW.PrintMore
attribute [local go_sem] max2_int min2_int max_two min_two max_three min_three max_four min_four   -- for this text's walks alone
set_option linter.unusedVariables false
set_option linter.unusedSimpArgs false

/-! ### cell_Leaves: function 83 -/
mutual
def cell_Leaves.l0 : Nat → List Int → List (S26) → Int → Int → Option (List Int)
  | 0, _, _, _, _ => none
  | k + 1, x3, x6, x7, x8 => if x8 < x7 then (if 0 ≤ x8 then (if x8 < (x6.length : Int) then (if ((rd_T26 x6 x8).f0) = 1 then (if x3.length < 17592186044416 then ((some (x3 ++ [(rd_T26 x6 x8).f2] : List Int)).bind fun y528 => ((cell_Leaves.f k ((rd_T26 x6 x8).f3)).bind fun t531 => (if y528.length + t531.length < 17592186044416 then (cell_Leaves.l0 k (y528 ++ t531) x6 x7 (wrap64 (x8 + 1))) else (none)))) else (none)) else ((cell_Leaves.f k ((rd_T26 x6 x8).f3)).bind fun t537 => (if x3.length + t537.length < 17592186044416 then (cell_Leaves.l0 k (x3 ++ t537) x6 x7 (wrap64 (x8 + 1))) else (none)))) else (none)) else (none)) else (some x3)
def cell_Leaves.f : Nat → List (S26) → Option (List Int)
  | 0, _ => none
  | k + 1, l0 => cell_Leaves.l0 k ([] : List Int) l0 (l0.length : Int) 0
end
theorem cell_Leaves.mono_l : ∀ k, (∀ y0, LeO (cell_Leaves.f k y0) (cell_Leaves.f (k + 1) y0)) ∧ (∀ y0 y1 y2 y3, LeO (cell_Leaves.l0 k y0 y1 y2 y3) (cell_Leaves.l0 (k + 1) y0 y1 y2 y3))
  | 0 => ⟨fun _ r h => by simp [cell_Leaves.f] at h, fun _ _ _ _ r h => by simp [cell_Leaves.l0] at h⟩
  | k + 1 => by
    obtain ⟨ih0, ih1⟩ := cell_Leaves.mono_l k
    refine ⟨?_, ?_⟩
    · intro y0
      unfold cell_Leaves.f
      repeat' first
      | (with_reducible exact ih0 _)
      | (with_reducible exact ih1 _ _ _ _)
      | (with_reducible exact LeO.refl _)
      | (with_reducible exact LeO.none _)
      | (with_reducible refine LeO.ite ?_ ?_)
      | (with_reducible refine LeO.bind ?_ (fun _ => ?_))
      | exact ih0 _
      | exact ih1 _ _ _ _
      | exact LeO.none _
      | refine LeO.ite ?_ ?_
      | refine LeO.bind ?_ (fun _ => ?_)
    · intro y0 y1 y2 y3
      unfold cell_Leaves.l0
      repeat' first
      | (with_reducible exact ih0 _)
      | (with_reducible exact ih1 _ _ _ _)
      | (with_reducible exact LeO.refl _)
      | (with_reducible exact LeO.none _)
      | (with_reducible refine LeO.ite ?_ ?_)
      | (with_reducible refine LeO.bind ?_ (fun _ => ?_))
      | exact ih0 _
      | exact ih1 _ _ _ _
      | exact LeO.none _
      | refine LeO.ite ?_ ?_
      | refine LeO.bind ?_ (fun _ => ?_)
theorem cell_Leaves.mono : ∀ a0 k, LeO (cell_Leaves.f k a0) (cell_Leaves.f (k + 1) a0) := by
  intro a0 k
  obtain ⟨ih0, ih1⟩ := cell_Leaves.mono_l k
  exact ih0 a0
set_option maxHeartbeats 8000000 in
set_option maxRecDepth 100000 in
theorem cell_Leaves.calls (k : Nat) : ∀ (A0 : Option Addr) (c0 : Nat) (l0 : List (S26)) (r : List Int) (w : World) (hr0 : Kd.C k26 w A0 l0.length l0) (hc0 : l0.length ≤ c0) (h : cell_Leaves.f k l0 = some r),
    Calls Try.prog 83 #[.slice A0 l0.length c0] w fun e w' => ∃ v0_ : Value, e = .returned (v0_) ∧ Kd.R (Kd.int .i64) 3 w' w.heap.size (fun _ => True) v0_ r ∧ Below w.heap.size w w' := by
  induction k using Nat.strongRecOn with
  | _ k ih =>
  intro A0 c0 l0 r w hr0 hc0 h
  cases k with
  | zero => exact absurd h (by simp [cell_Leaves.f])
  | succ k =>
  simp only [cell_Leaves.f] at h
  have hu26 := Try.underlying26
  have HR0 := Aside0.mk hr0
  have HC0 := Aside0.mk hc0
  clear hr0 hc0
  have HB := Aside0.mk (Below.refl w.heap.size w)
  have H : (cell_Leaves.l0 k ([] : List Int) l0 (l0.length : Int) 0) = some r := h
  clear h
  have H' := Aside0.mk H
  clear H
  go_enter Try.func83, Try.ntmps83
  go_wp2
  go_loopg [3, 8] k (fun kq v3 v8 w' => ∃ (x3_1 : List Int) (x8_1 : Int), v8 = .int .i64 x8_1 ∧ Aside0 (cell_Leaves.l0 kq x3_1 l0 (l0.length : Int) x8_1 = some r) ∧ Aside0 (kq ≤ k) ∧ Aside0 (Kd.R (Kd.int .i64) 3 w' w.heap.size (fun _ => True) v3 x3_1) ∧ Aside0 (Below w.heap.size w w'))
  case atStart => exact ⟨(([] : List Int)), (0), (by first | rfl | (simp; done) | (simp [*]; done)), H', ⟨Nat.le_refl _⟩, ⟨by first | exact Kd.R_nil _ _ _ _ _ | exact Kd.N_nil _ _ _ _ _ | exact Kd.V_nil _ _ _ _ _ | exact Kd.Q_nil _ _ _ _ _ | exact Kd.S_nil _ _ _ _ _⟩, ⟨by repeat (first | (with_reducible first | exact HB.out | apply below_alloc | apply pw_below_drewN | apply below_drew1) | exact HB.out)⟩⟩
  case round =>
    clear H'
    obtain ⟨x3_1, x8_1, rfl, HA, HK1, HO_3, HB⟩ := hrel
    cases gk with
    | zero => exact absurd HA.out (by simp [cell_Leaves.l0])
    | succ k1 =>
      have H := HA.out
      clear HA
      simp only [cell_Leaves.l0] at H
      by_cases c2 : x8_1 < (l0.length : Int)
      · rw [if_pos c2] at H
        have c2b0 : decide (x8_1 < (l0.length : Int)) = true := decide_eq_true c2
        clear c2
        by_cases c3 : 0 ≤ x8_1
        · rw [if_pos c3] at H
          have c3b0 : decide (0 ≤ x8_1) = true := decide_eq_true c3
          clear c3
          by_cases c4 : x8_1 < (l0.length : Int)
          · rw [if_pos c4] at H
            have c4b0 : decide (x8_1 < (l0.length : Int)) = true := decide_eq_true c4
            clear c4
            by_cases c5 : ((rd_T26 l0 x8_1).f0) = 1
            · rw [if_pos c5] at H
              have c5b0 : (((rd_T26 l0 x8_1).f0) == 1) = true := beq_iff_eq.mpr c5
              have c5b1 : (((rd_T26 l0 x8_1).f0) != 1) = false := bne_eq_false_iff_eq.mpr c5
              clear c5
              by_cases c6 : x3_1.length < 17592186044416
              · rw [if_pos c6] at H
                have LMc6 := Aside0.mk c6
                clear c6
                obtain ⟨y528, hy528⟩ : ∃ y_ : List Int, y_ = (x3_1 ++ [(rd_T26 l0 x8_1).f2]) := ⟨_, rfl⟩
                replace H : ((cell_Leaves.f k1 ((rd_T26 l0 x8_1).f3)).bind fun t531 => (if y528.length + t531.length < 17592186044416 then (cell_Leaves.l0 k1 (y528 ++ t531) l0 (l0.length : Int) (wrap64 (x8_1 + 1))) else (none))) = some r := by first | (rw [hy528]; with_reducible exact H) | (have H2_ := (Option.bind_some _ _).symm.trans H; rw [hy528]; with_reducible exact H2_) | (have H2_ := (Option.bind_some _ _).symm.trans H; with_reducible exact H2_) | with_reducible exact H | (rw [hy528]; exact H) | exact H
                have Ny528 := Aside0.mk hy528
                clear hy528
                replace H := Option.bind_eq_some_iff.mp H
                obtain ⟨t531, A70, H⟩ := H
                replace H : (if y528.length + t531.length < 17592186044416 then (cell_Leaves.l0 k1 (y528 ++ t531) l0 (l0.length : Int) (wrap64 (x8_1 + 1))) else (none)) = some r := H
                have A7 := Aside0.mk A70
                clear A70
                by_cases c8 : y528.length + t531.length < 17592186044416
                · rw [if_pos c8] at H
                  have LMc8 := Aside0.mk c8
                  clear c8
                  obtain ⟨y534, hy534⟩ : ∃ y_ : List Int, y_ = (y528 ++ t531) := ⟨_, rfl⟩
                  replace H : (cell_Leaves.l0 k1 y534 l0 (l0.length : Int) (wrap64 (x8_1 + 1))) = some r := by first | (rw [hy534]; with_reducible exact H) | (have H2_ := (Option.bind_some _ _).symm.trans H; rw [hy534]; with_reducible exact H2_) | (have H2_ := (Option.bind_some _ _).symm.trans H; with_reducible exact H2_) | with_reducible exact H | (rw [hy534]; exact H) | exact H
                  have Ny534 := Aside0.mk hy534
                  clear hy534
                  have H' := Aside0.mk H
                  clear H
                  have p526 : 0 ≤ (x8_1 : Int) := of_decide_eq_true (by first | (with_reducible assumption) | assumption)
                  have q526 : x8_1 < (l0.length : Int) := of_decide_eq_true (by first | (with_reducible assumption) | assumption)
                  obtain ⟨ad526, A526_6, c526_6, e526, hx526_0, hx526_1, hx526_2, hx526_3, hx526_4, hx526_5, hx526_6, hl526_6, hi526_6⟩ := at_T26 HR0.out x8_1 p526 q526
                  cases e526
                  replace hx526_0 := (HB.out.cell (World.block_lt_of_cell? w _ hx526_0)).trans hx526_0
                  replace hx526_1 := (HB.out.cell (World.block_lt_of_cell? w _ hx526_1)).trans hx526_1
                  replace hx526_2 := (HB.out.cell (World.block_lt_of_cell? w _ hx526_2)).trans hx526_2
                  replace hx526_3 := (HB.out.cell (World.block_lt_of_cell? w _ hx526_3)).trans hx526_3
                  replace hx526_4 := (HB.out.cell (World.block_lt_of_cell? w _ hx526_4)).trans hx526_4
                  replace hx526_5 := (HB.out.cell (World.block_lt_of_cell? w _ hx526_5)).trans hx526_5
                  replace hx526_6 := (HB.out.cell (World.block_lt_of_cell? w _ hx526_6)).trans hx526_6
                  have HR526_6 := Aside0.mk hi526_6
                  have HC526_6 := Aside0.mk hl526_6
                  clear hi526_6 hl526_6
                  replace p526 := eq_true p526
                  replace q526 := eq_true q526
                  go_wp2_with (first | ((with_reducible refine gate_dst (N := 5) rfl ?_); refine box_event ?hg (N := 5) ?hd (cs := #[.int .u8 0, .int .i64 0, .int .i64 0, .int .i64 0, .int .i64 0, .int .i64 0, .slice none 0 0]) (t := 26) ?hr ?_; (case hd => rfl); (case hg => rfl); (case hr => first | (go_simp; done) | (go_simp; rfl)); intro gb527 hg w9 hbox hb; have n0_ := Aside0.mk (Kd.R_below (by (with_reducible repeat (first | apply Kd.R_alloc | apply Kd.R_drewN | apply Kd.R_drew)); exact HO_3.out) hb); have n1_ := Aside0.mk (below_step (by repeat (first | (with_reducible first | exact HB.out | apply below_alloc | apply pw_below_drewN | apply below_drew1) | exact HB.out)) hb); have n2_ := Aside0.mk (hbox); have n3_ := Aside0.mk ((by rw [hg]; exact (below_size (by repeat (first | (with_reducible first | exact HB.out | apply below_alloc | apply pw_below_drewN | apply below_drew1) | exact HB.out))) : w.heap.size ≤ gb527)); have n4_ := Aside0.mk ((by rw [hg]; exact (below_size (by repeat (first | (with_reducible first | exact HB.out | apply below_alloc | apply pw_below_drewN | apply below_drew1) | exact HB.out))) : w.heap.size ≤ gb527)); clear HO_3; clear HB; have HO_3 := n0_; have HB := n1_; have BK527 := n2_; have GW527 := n3_; have GE527 := n4_; clear n0_ n1_ n2_ n3_ n4_; clear hb hbox hg; have hcz10_0 : w9.cell? ⟨gb527, 0, none⟩ = some (.int .u8 0) := (blk_cell BK527.out 0).trans rfl; have hcz10_1 : w9.cell? ⟨gb527, 1, none⟩ = some (.int .i64 0) := (blk_cell BK527.out 1).trans rfl; have hcz10_2 : w9.cell? ⟨gb527, 2, none⟩ = some (.int .i64 0) := (blk_cell BK527.out 2).trans rfl; have hcz10_3 : w9.cell? ⟨gb527, 3, none⟩ = some (.int .i64 0) := (blk_cell BK527.out 3).trans rfl; have hcz10_4 : w9.cell? ⟨gb527, 4, none⟩ = some (.int .i64 0) := (blk_cell BK527.out 4).trans rfl; have hcz10_5 : w9.cell? ⟨gb527, 5, none⟩ = some (.int .i64 0) := (blk_cell BK527.out 5).trans rfl; have hcz10_6 : w9.cell? ⟨gb527, 6, none⟩ = some (.slice none 0 0) := (blk_cell BK527.out 6).trans rfl; have hfz10_0 := blk_frozen BK527.out 0; have hfz10_1 := blk_frozen BK527.out 1; have hfz10_2 := blk_frozen BK527.out 2; have hfz10_3 := blk_frozen BK527.out 3; have hfz10_4 := blk_frozen BK527.out 4; have hfz10_5 := blk_frozen BK527.out 5; have hfz10_6 := blk_frozen BK527.out 6) | ((with_reducible refine gate_builtin (b := .append) (xs := #[.tmp 15, .tmp 18]) rfl ?_); at_builtin; refine Kd.R_append (Kd.int .i64) (w0 := w) w.heap.size rfl (.tmp 15) (.tmp 18) 41 3 (.int .i64 0) 8 rfl Try.underlying41 info3 rfl (by decide) (by omega) u3 x3_1 ((rd_T26 l0 x8_1).f2) [.int .i64 ((rd_T26 l0 x8_1).f2)] (fun _ => True) (fun _ => False) rfl (by first | (go_simp; done) | (go_simp; rfl)) ?aP (fun _ hk => hk.elim) ?aF ?aO ?aB ?aS ?aL ?_; (case aP => exact rfl); (case aB => exact (by repeat (first | (with_reducible first | exact HB.out | apply below_alloc | apply pw_below_drewN | apply below_drew1 | refine below_set ?_ GE527.out) | exact HB.out))); (case aF => exact (fun _ _ => trivial)); (case aO => exact (by (with_reducible repeat (first | apply Kd.R_alloc | apply Kd.R_drewN | apply Kd.R_drew)); exact Kd.R_mono (Kd.R_far (p := ⟨gb527, 6, none⟩) (Kd.R_far (p := ⟨gb527, 5, none⟩) (Kd.R_far (p := ⟨gb527, 4, none⟩) (Kd.R_far (p := ⟨gb527, 3, none⟩) (Kd.R_far (p := ⟨gb527, 2, none⟩) (Kd.R_far (p := ⟨gb527, 1, none⟩) (Kd.R_far (p := ⟨gb527, 0, none⟩) (Kd.R_types HO_3.out BK527.out (by decide)) (fun _ hk => hk.2) (.int .u8 ((rd_T26 l0 x8_1).f0))) (fun _ hk => hk.2) (.int .i64 ((rd_T26 l0 x8_1).f1.f0))) (fun _ hk => hk.2) (.int .i64 ((rd_T26 l0 x8_1).f1.f1))) (fun _ hk => hk.2) (.int .i64 ((rd_T26 l0 x8_1).f1.f2))) (fun _ hk => hk.2) (.int .i64 ((rd_T26 l0 x8_1).f1.f3))) (fun _ hk => hk.2) (.int .i64 ((rd_T26 l0 x8_1).f2))) (fun _ hk => hk.2) (.slice A526_6 ((rd_T26 l0 x8_1).f3).length c526_6)) (fun _ hk => trivial))); (case aS => exact (below_size (by repeat (first | (with_reducible first | exact HB.out | apply below_alloc | apply pw_below_drewN | apply below_drew1 | refine below_set ?_ GE527.out) | exact HB.out)))); (case aL => have := LMc6.out; omega); intro v529 w11 ho hb hg hat; rw [← Ny528.out] at ho; have n0_ := Aside0.mk (blk_grown (g := gb527) (o := .cells #[.int .u8 ((rd_T26 l0 x8_1).f0), .int .i64 ((rd_T26 l0 x8_1).f1.f0), .int .i64 ((rd_T26 l0 x8_1).f1.f1), .int .i64 ((rd_T26 l0 x8_1).f1.f2), .int .i64 ((rd_T26 l0 x8_1).f1.f3), .int .i64 ((rd_T26 l0 x8_1).f2), .slice A526_6 ((rd_T26 l0 x8_1).f3).length c526_6] 26 (0, 0)) (by (with_reducible repeat (first | refine blk_drewN ?_ _ | refine blk_drew ?_ | refine blk_alloc ?_ _)); refine blk_put (cs := #[.int .u8 ((rd_T26 l0 x8_1).f0), .int .i64 ((rd_T26 l0 x8_1).f1.f0), .int .i64 ((rd_T26 l0 x8_1).f1.f1), .int .i64 ((rd_T26 l0 x8_1).f1.f2), .int .i64 ((rd_T26 l0 x8_1).f1.f3), .int .i64 ((rd_T26 l0 x8_1).f2), .slice none 0 0]) ?_ 6 _ rfl; (with_reducible repeat (first | refine blk_drewN ?_ _ | refine blk_drew ?_ | refine blk_alloc ?_ _)); refine blk_put (cs := #[.int .u8 ((rd_T26 l0 x8_1).f0), .int .i64 ((rd_T26 l0 x8_1).f1.f0), .int .i64 ((rd_T26 l0 x8_1).f1.f1), .int .i64 ((rd_T26 l0 x8_1).f1.f2), .int .i64 ((rd_T26 l0 x8_1).f1.f3), .int .i64 0, .slice none 0 0]) ?_ 5 _ rfl; (with_reducible repeat (first | refine blk_drewN ?_ _ | refine blk_drew ?_ | refine blk_alloc ?_ _)); refine blk_put (cs := #[.int .u8 ((rd_T26 l0 x8_1).f0), .int .i64 ((rd_T26 l0 x8_1).f1.f0), .int .i64 ((rd_T26 l0 x8_1).f1.f1), .int .i64 ((rd_T26 l0 x8_1).f1.f2), .int .i64 0, .int .i64 0, .slice none 0 0]) ?_ 4 _ rfl; (with_reducible repeat (first | refine blk_drewN ?_ _ | refine blk_drew ?_ | refine blk_alloc ?_ _)); refine blk_put (cs := #[.int .u8 ((rd_T26 l0 x8_1).f0), .int .i64 ((rd_T26 l0 x8_1).f1.f0), .int .i64 ((rd_T26 l0 x8_1).f1.f1), .int .i64 0, .int .i64 0, .int .i64 0, .slice none 0 0]) ?_ 3 _ rfl; (with_reducible repeat (first | refine blk_drewN ?_ _ | refine blk_drew ?_ | refine blk_alloc ?_ _)); refine blk_put (cs := #[.int .u8 ((rd_T26 l0 x8_1).f0), .int .i64 ((rd_T26 l0 x8_1).f1.f0), .int .i64 0, .int .i64 0, .int .i64 0, .int .i64 0, .slice none 0 0]) ?_ 2 _ rfl; (with_reducible repeat (first | refine blk_drewN ?_ _ | refine blk_drew ?_ | refine blk_alloc ?_ _)); refine blk_put (cs := #[.int .u8 ((rd_T26 l0 x8_1).f0), .int .i64 0, .int .i64 0, .int .i64 0, .int .i64 0, .int .i64 0, .slice none 0 0]) ?_ 1 _ rfl; (with_reducible repeat (first | refine blk_drewN ?_ _ | refine blk_drew ?_ | refine blk_alloc ?_ _)); refine blk_put (cs := #[.int .u8 0, .int .i64 0, .int .i64 0, .int .i64 0, .int .i64 0, .int .i64 0, .slice none 0 0]) ?_ 0 _ rfl; (with_reducible repeat (first | refine blk_drewN ?_ _ | refine blk_drew ?_ | refine blk_alloc ?_ _)); exact BK527.out) hg (Kd.R_ne HO_3.out BK527.out (by decide))); have n1_ := Aside0.mk (hb); have n2_ := Aside0.mk (ho); clear BK527; clear HB; clear HO_3; have BK527 := n0_; have HB := n1_; have HO530 := n2_; clear n0_ n1_ n2_; clear ho hb hg hat; have hcz12_0 : w11.cell? ⟨gb527, 0, none⟩ = some (.int .u8 ((rd_T26 l0 x8_1).f0)) := (blk_cell BK527.out 0).trans rfl; have hcz12_1 : w11.cell? ⟨gb527, 1, none⟩ = some (.int .i64 ((rd_T26 l0 x8_1).f1.f0)) := (blk_cell BK527.out 1).trans rfl; have hcz12_2 : w11.cell? ⟨gb527, 2, none⟩ = some (.int .i64 ((rd_T26 l0 x8_1).f1.f1)) := (blk_cell BK527.out 2).trans rfl; have hcz12_3 : w11.cell? ⟨gb527, 3, none⟩ = some (.int .i64 ((rd_T26 l0 x8_1).f1.f2)) := (blk_cell BK527.out 3).trans rfl; have hcz12_4 : w11.cell? ⟨gb527, 4, none⟩ = some (.int .i64 ((rd_T26 l0 x8_1).f1.f3)) := (blk_cell BK527.out 4).trans rfl; have hcz12_5 : w11.cell? ⟨gb527, 5, none⟩ = some (.int .i64 ((rd_T26 l0 x8_1).f2)) := (blk_cell BK527.out 5).trans rfl; have hcz12_6 : w11.cell? ⟨gb527, 6, none⟩ = some (.slice A526_6 ((rd_T26 l0 x8_1).f3).length c526_6) := (blk_cell BK527.out 6).trans rfl; have hfz12_0 := blk_frozen BK527.out 0; have hfz12_1 := blk_frozen BK527.out 1; have hfz12_2 := blk_frozen BK527.out 2; have hfz12_3 := blk_frozen BK527.out 3; have hfz12_4 := blk_frozen BK527.out 4; have hfz12_5 := blk_frozen BK527.out 5; have hfz12_6 := blk_frozen BK527.out 6) | ((with_reducible refine gate_callee (f := 83) rfl ?_); refine goesL_ (some 23) rfl rfl Try.func83 (by kernel_rfl) rfl #[.slice A526_6 ((rd_T26 l0 x8_1).f3).length c526_6] rfl (by (try simp only [List.map_toArray, List.map_cons, List.map_nil]); first | done | rfl | (simp only [List.length_drop, List.length_take]; rfl)) ?_; (with_reducible refine (ih k1 (by have := HK1.out; omega) _ _ ((rd_T26 l0 x8_1).f3) t531 _ ?side1 ?side2 A7.out).mono ?_); (case side1 => repeat (first | exact (Kd.C_below HR526_6.out HB.out) | (with_reducible refine Kd.C_alloc ?_ _) | (with_reducible refine Kd.C_drewN ?_ _) | (with_reducible refine Kd.C_drew ?_))); (case side2 => exact HC526_6.out); rintro e w13 ⟨v532, rfl, ho0, hb⟩; refine ⟨_, rfl, ?_⟩; have n0_ := Aside0.mk (Kd.R_elder' (by (with_reducible repeat (first | apply Kd.R_alloc | apply Kd.R_drewN | apply Kd.R_drew)); exact HO530.out) (Kd.R_base ho0) hb); have n1_ := Aside0.mk (Kd.R_lower (Kd.R_new' ho0 (Kd.R_lt (by (with_reducible repeat (first | apply Kd.R_alloc | apply Kd.R_drewN | apply Kd.R_drew)); exact HO530.out))) (below_size (by repeat (first | (with_reducible first | exact HB.out | apply below_alloc | apply pw_below_drewN | apply below_drew1 | refine below_set ?_ GE527.out) | exact HB.out)))); have n2_ := Aside0.mk (blk_below (g := gb527) (o := .cells #[.int .u8 ((rd_T26 l0 x8_1).f0), .int .i64 ((rd_T26 l0 x8_1).f1.f0), .int .i64 ((rd_T26 l0 x8_1).f1.f1), .int .i64 ((rd_T26 l0 x8_1).f1.f2), .int .i64 ((rd_T26 l0 x8_1).f1.f3), .int .i64 ((rd_T26 l0 x8_1).f2), .slice A526_6 ((rd_T26 l0 x8_1).f3).length c526_6] 26 (0, 0)) (by (with_reducible repeat (first | refine blk_drewN ?_ _ | refine blk_drew ?_ | refine blk_alloc ?_ _)); exact BK527.out) hb); have n3_ := Aside0.mk (below_step (by repeat (first | (with_reducible first | exact HB.out | apply below_alloc | apply pw_below_drewN | apply below_drew1 | refine below_set ?_ GE527.out) | exact HB.out)) hb); clear HO530; clear BK527; clear HB; have HO530 := n0_; have HO533 := n1_; have BK527 := n2_; have HB := n3_; clear n0_ n1_ n2_ n3_; (try clear hb); (try clear hb2); (try clear hk); (try clear hi); (try clear ho0); obtain ⟨Ao15, co15, eo15⟩ := Kd.R_slice HO533.out; subst eo15) | ((with_reducible refine gate_builtin (b := .append) (xs := #[.tmp 20, .tmp 23]) rfl ?_); at_builtin; refine Kd.R_append_rows (Kd.int .i64) (w0 := w) w.heap.size rfl (.tmp 20) (.tmp 23) 41 3 (.int .i64 0) 8 rfl Try.underlying41 info3 rfl (by decide) (by omega) v529 y528 t531 _ _ _ (fun k_ => some k_ ≠ (.slice Ao15 t531.length co15 : Value).ownBlock) (fun _ => False) rfl rfl ?aO ?aR (fun _ _ h => h) (fun _ h => h.elim) ?aF ?aB ?aS ?aL ?_; (case aR => repeat (first | exact (Kd.R_reads' HO533.out).2.2 | (with_reducible refine Kd.C_alloc ?_ _) | (with_reducible refine Kd.C_drewN ?_ _) | (with_reducible refine Kd.C_drew ?_))); (case aB => exact (by repeat (first | (with_reducible first | exact HB.out | apply below_alloc | apply pw_below_drewN | apply below_drew1 | refine below_set ?_ GE527.out) | exact HB.out))); (case aF => exact (fun k_ hk => Kd.fresh' (Kd.R_lt (by (with_reducible repeat (first | apply Kd.R_alloc | apply Kd.R_drewN | apply Kd.R_drew)); exact HO533.out)) k_ hk)); (case aO => exact (by (with_reducible repeat (first | apply Kd.R_alloc | apply Kd.R_drewN | apply Kd.R_drew)); exact Kd.R_mono HO530.out (fun _ hk => hk.2))); (case aS => exact (below_size (by repeat (first | (with_reducible first | exact HB.out | apply below_alloc | apply pw_below_drewN | apply below_drew1 | refine below_set ?_ GE527.out) | exact HB.out)))); (case aL => have := LMc8.out; omega); intro v535 w14 ho hb hg hat; rw [← Ny534.out] at ho; have n0_ := Aside0.mk (blk_grown (g := gb527) (o := .cells #[.int .u8 ((rd_T26 l0 x8_1).f0), .int .i64 ((rd_T26 l0 x8_1).f1.f0), .int .i64 ((rd_T26 l0 x8_1).f1.f1), .int .i64 ((rd_T26 l0 x8_1).f1.f2), .int .i64 ((rd_T26 l0 x8_1).f1.f3), .int .i64 ((rd_T26 l0 x8_1).f2), .slice A526_6 ((rd_T26 l0 x8_1).f3).length c526_6] 26 (0, 0)) (by (with_reducible repeat (first | refine blk_drewN ?_ _ | refine blk_drew ?_ | refine blk_alloc ?_ _)); exact BK527.out) hg (Kd.R_ne HO530.out BK527.out (by decide))); have n1_ := Aside0.mk (Kd.R_after (ok := (fun _ => True)) (by (with_reducible repeat (first | apply Kd.R_alloc | apply Kd.R_drewN | apply Kd.R_drew)); exact HO533.out) hg hat); have n2_ := Aside0.mk (hb); have n3_ := Aside0.mk (ho); clear BK527; clear HO533; clear HB; clear HO530; have BK527 := n0_; have HO533 := n1_; have HB := n2_; have HO536 := n3_; clear n0_ n1_ n2_ n3_; clear ho hb hg hat))
                  go_roundg k1
                  case measure => have := HK1.out; omega
                  case rel => exact ⟨(y534), (wrap64 (x8_1 + 1)), (by first | rfl | (simp; done) | (simp [*]; done)), H', ⟨by have := HK1.out; omega⟩, ⟨by (with_reducible repeat (first | apply Kd.R_alloc | apply Kd.R_drewN | apply Kd.R_drew)); exact Kd.R_mono HO536.out (fun _ hk => trivial)⟩, ⟨by repeat (first | (with_reducible first | exact HB.out | apply below_alloc | apply pw_below_drewN | apply below_drew1 | refine below_set ?_ GE527.out) | exact HB.out)⟩⟩
                · rw [if_neg c8] at H
                  exact absurd H (by simp)
              · rw [if_neg c6] at H
                exact absurd H (by simp)
            · rw [if_neg c5] at H
              have c5b0 : (((rd_T26 l0 x8_1).f0) == 1) = false := beq_eq_false_iff_ne.mpr c5
              have c5b1 : (((rd_T26 l0 x8_1).f0) != 1) = true := bne_iff_ne.mpr c5
              replace H := Option.bind_eq_some_iff.mp H
              obtain ⟨t537, A160, H⟩ := H
              replace H : (if x3_1.length + t537.length < 17592186044416 then (cell_Leaves.l0 k1 (x3_1 ++ t537) l0 (l0.length : Int) (wrap64 (x8_1 + 1))) else (none)) = some r := H
              have A16 := Aside0.mk A160
              clear A160
              by_cases c17 : x3_1.length + t537.length < 17592186044416
              · rw [if_pos c17] at H
                have LMc17 := Aside0.mk c17
                clear c17
                obtain ⟨y540, hy540⟩ : ∃ y_ : List Int, y_ = (x3_1 ++ t537) := ⟨_, rfl⟩
                replace H : (cell_Leaves.l0 k1 y540 l0 (l0.length : Int) (wrap64 (x8_1 + 1))) = some r := by first | (rw [hy540]; with_reducible exact H) | (have H2_ := (Option.bind_some _ _).symm.trans H; rw [hy540]; with_reducible exact H2_) | (have H2_ := (Option.bind_some _ _).symm.trans H; with_reducible exact H2_) | with_reducible exact H | (rw [hy540]; exact H) | exact H
                have Ny540 := Aside0.mk hy540
                clear hy540
                have H' := Aside0.mk H
                clear H
                have p526 : 0 ≤ (x8_1 : Int) := of_decide_eq_true (by first | (with_reducible assumption) | assumption)
                have q526 : x8_1 < (l0.length : Int) := of_decide_eq_true (by first | (with_reducible assumption) | assumption)
                obtain ⟨ad526, A526_6, c526_6, e526, hx526_0, hx526_1, hx526_2, hx526_3, hx526_4, hx526_5, hx526_6, hl526_6, hi526_6⟩ := at_T26 HR0.out x8_1 p526 q526
                cases e526
                replace hx526_0 := (HB.out.cell (World.block_lt_of_cell? w _ hx526_0)).trans hx526_0
                replace hx526_1 := (HB.out.cell (World.block_lt_of_cell? w _ hx526_1)).trans hx526_1
                replace hx526_2 := (HB.out.cell (World.block_lt_of_cell? w _ hx526_2)).trans hx526_2
                replace hx526_3 := (HB.out.cell (World.block_lt_of_cell? w _ hx526_3)).trans hx526_3
                replace hx526_4 := (HB.out.cell (World.block_lt_of_cell? w _ hx526_4)).trans hx526_4
                replace hx526_5 := (HB.out.cell (World.block_lt_of_cell? w _ hx526_5)).trans hx526_5
                replace hx526_6 := (HB.out.cell (World.block_lt_of_cell? w _ hx526_6)).trans hx526_6
                have HR526_6 := Aside0.mk hi526_6
                have HC526_6 := Aside0.mk hl526_6
                clear hi526_6 hl526_6
                replace p526 := eq_true p526
                replace q526 := eq_true q526
                go_wp2_with (first | ((with_reducible refine gate_dst (N := 5) rfl ?_); refine box_event ?hg (N := 5) ?hd (cs := #[.int .u8 0, .int .i64 0, .int .i64 0, .int .i64 0, .int .i64 0, .int .i64 0, .slice none 0 0]) (t := 26) ?hr ?_; (case hd => rfl); (case hg => rfl); (case hr => first | (go_simp; done) | (go_simp; rfl)); intro gb527 hg w18 hbox hb; have n0_ := Aside0.mk (Kd.R_below (by (with_reducible repeat (first | apply Kd.R_alloc | apply Kd.R_drewN | apply Kd.R_drew)); exact HO_3.out) hb); have n1_ := Aside0.mk (below_step (by repeat (first | (with_reducible first | exact HB.out | apply below_alloc | apply pw_below_drewN | apply below_drew1) | exact HB.out)) hb); have n2_ := Aside0.mk (hbox); have n3_ := Aside0.mk ((by rw [hg]; exact (below_size (by repeat (first | (with_reducible first | exact HB.out | apply below_alloc | apply pw_below_drewN | apply below_drew1) | exact HB.out))) : w.heap.size ≤ gb527)); have n4_ := Aside0.mk ((by rw [hg]; exact (below_size (by repeat (first | (with_reducible first | exact HB.out | apply below_alloc | apply pw_below_drewN | apply below_drew1) | exact HB.out))) : w.heap.size ≤ gb527)); clear HO_3; clear HB; have HO_3 := n0_; have HB := n1_; have BK527 := n2_; have GW527 := n3_; have GE527 := n4_; clear n0_ n1_ n2_ n3_ n4_; clear hb hbox hg; have hcz19_0 : w18.cell? ⟨gb527, 0, none⟩ = some (.int .u8 0) := (blk_cell BK527.out 0).trans rfl; have hcz19_1 : w18.cell? ⟨gb527, 1, none⟩ = some (.int .i64 0) := (blk_cell BK527.out 1).trans rfl; have hcz19_2 : w18.cell? ⟨gb527, 2, none⟩ = some (.int .i64 0) := (blk_cell BK527.out 2).trans rfl; have hcz19_3 : w18.cell? ⟨gb527, 3, none⟩ = some (.int .i64 0) := (blk_cell BK527.out 3).trans rfl; have hcz19_4 : w18.cell? ⟨gb527, 4, none⟩ = some (.int .i64 0) := (blk_cell BK527.out 4).trans rfl; have hcz19_5 : w18.cell? ⟨gb527, 5, none⟩ = some (.int .i64 0) := (blk_cell BK527.out 5).trans rfl; have hcz19_6 : w18.cell? ⟨gb527, 6, none⟩ = some (.slice none 0 0) := (blk_cell BK527.out 6).trans rfl; have hfz19_0 := blk_frozen BK527.out 0; have hfz19_1 := blk_frozen BK527.out 1; have hfz19_2 := blk_frozen BK527.out 2; have hfz19_3 := blk_frozen BK527.out 3; have hfz19_4 := blk_frozen BK527.out 4; have hfz19_5 := blk_frozen BK527.out 5; have hfz19_6 := blk_frozen BK527.out 6) | ((with_reducible refine gate_callee (f := 83) rfl ?_); refine goesL_ (some 23) rfl rfl Try.func83 (by kernel_rfl) rfl #[.slice A526_6 ((rd_T26 l0 x8_1).f3).length c526_6] rfl (by (try simp only [List.map_toArray, List.map_cons, List.map_nil]); first | done | rfl | (simp only [List.length_drop, List.length_take]; rfl)) ?_; (with_reducible refine (ih k1 (by have := HK1.out; omega) _ _ ((rd_T26 l0 x8_1).f3) t537 _ ?side1 ?side2 A16.out).mono ?_); (case side1 => exact Kd.C_below HR526_6.out (by repeat (first | (with_reducible first | exact HB.out | apply below_alloc | apply pw_below_drewN | apply below_drew1 | refine below_set ?_ GE527.out) | exact HB.out))); (case side2 => exact HC526_6.out); rintro e w20 ⟨v538, rfl, ho0, hb⟩; refine ⟨_, rfl, ?_⟩; have n0_ := Aside0.mk (Kd.R_elder' (by (with_reducible repeat (first | apply Kd.R_alloc | apply Kd.R_drewN | apply Kd.R_drew)); exact (Kd.R_mono (Kd.R_far (p := ⟨gb527, 6, none⟩) (Kd.R_far (p := ⟨gb527, 5, none⟩) (Kd.R_far (p := ⟨gb527, 4, none⟩) (Kd.R_far (p := ⟨gb527, 3, none⟩) (Kd.R_far (p := ⟨gb527, 2, none⟩) (Kd.R_far (p := ⟨gb527, 1, none⟩) (Kd.R_far (p := ⟨gb527, 0, none⟩) (Kd.R_types HO_3.out BK527.out (by decide)) (fun _ hk => hk.2) (.int .u8 ((rd_T26 l0 x8_1).f0))) (fun _ hk => hk.2) (.int .i64 ((rd_T26 l0 x8_1).f1.f0))) (fun _ hk => hk.2) (.int .i64 ((rd_T26 l0 x8_1).f1.f1))) (fun _ hk => hk.2) (.int .i64 ((rd_T26 l0 x8_1).f1.f2))) (fun _ hk => hk.2) (.int .i64 ((rd_T26 l0 x8_1).f1.f3))) (fun _ hk => hk.2) (.int .i64 ((rd_T26 l0 x8_1).f2))) (fun _ hk => hk.2) (.slice A526_6 ((rd_T26 l0 x8_1).f3).length c526_6)) (fun _ h_ => h_.1))) (Kd.R_base ho0) hb); have n1_ := Aside0.mk (Kd.R_lower (Kd.R_new' ho0 (Kd.R_lt (by (with_reducible repeat (first | apply Kd.R_alloc | apply Kd.R_drewN | apply Kd.R_drew)); exact (Kd.R_mono (Kd.R_far (p := ⟨gb527, 6, none⟩) (Kd.R_far (p := ⟨gb527, 5, none⟩) (Kd.R_far (p := ⟨gb527, 4, none⟩) (Kd.R_far (p := ⟨gb527, 3, none⟩) (Kd.R_far (p := ⟨gb527, 2, none⟩) (Kd.R_far (p := ⟨gb527, 1, none⟩) (Kd.R_far (p := ⟨gb527, 0, none⟩) (Kd.R_types HO_3.out BK527.out (by decide)) (fun _ hk => hk.2) (.int .u8 ((rd_T26 l0 x8_1).f0))) (fun _ hk => hk.2) (.int .i64 ((rd_T26 l0 x8_1).f1.f0))) (fun _ hk => hk.2) (.int .i64 ((rd_T26 l0 x8_1).f1.f1))) (fun _ hk => hk.2) (.int .i64 ((rd_T26 l0 x8_1).f1.f2))) (fun _ hk => hk.2) (.int .i64 ((rd_T26 l0 x8_1).f1.f3))) (fun _ hk => hk.2) (.int .i64 ((rd_T26 l0 x8_1).f2))) (fun _ hk => hk.2) (.slice A526_6 ((rd_T26 l0 x8_1).f3).length c526_6)) (fun _ h_ => h_.1))))) (below_size (by repeat (first | (with_reducible first | exact HB.out | apply below_alloc | apply pw_below_drewN | apply below_drew1 | refine below_set ?_ GE527.out) | exact HB.out)))); have n2_ := Aside0.mk (blk_below (g := gb527) (o := .cells #[.int .u8 ((rd_T26 l0 x8_1).f0), .int .i64 ((rd_T26 l0 x8_1).f1.f0), .int .i64 ((rd_T26 l0 x8_1).f1.f1), .int .i64 ((rd_T26 l0 x8_1).f1.f2), .int .i64 ((rd_T26 l0 x8_1).f1.f3), .int .i64 ((rd_T26 l0 x8_1).f2), .slice A526_6 ((rd_T26 l0 x8_1).f3).length c526_6] 26 (0, 0)) (by (with_reducible repeat (first | refine blk_drewN ?_ _ | refine blk_drew ?_ | refine blk_alloc ?_ _)); refine blk_put (cs := #[.int .u8 ((rd_T26 l0 x8_1).f0), .int .i64 ((rd_T26 l0 x8_1).f1.f0), .int .i64 ((rd_T26 l0 x8_1).f1.f1), .int .i64 ((rd_T26 l0 x8_1).f1.f2), .int .i64 ((rd_T26 l0 x8_1).f1.f3), .int .i64 ((rd_T26 l0 x8_1).f2), .slice none 0 0]) ?_ 6 _ rfl; (with_reducible repeat (first | refine blk_drewN ?_ _ | refine blk_drew ?_ | refine blk_alloc ?_ _)); refine blk_put (cs := #[.int .u8 ((rd_T26 l0 x8_1).f0), .int .i64 ((rd_T26 l0 x8_1).f1.f0), .int .i64 ((rd_T26 l0 x8_1).f1.f1), .int .i64 ((rd_T26 l0 x8_1).f1.f2), .int .i64 ((rd_T26 l0 x8_1).f1.f3), .int .i64 0, .slice none 0 0]) ?_ 5 _ rfl; (with_reducible repeat (first | refine blk_drewN ?_ _ | refine blk_drew ?_ | refine blk_alloc ?_ _)); refine blk_put (cs := #[.int .u8 ((rd_T26 l0 x8_1).f0), .int .i64 ((rd_T26 l0 x8_1).f1.f0), .int .i64 ((rd_T26 l0 x8_1).f1.f1), .int .i64 ((rd_T26 l0 x8_1).f1.f2), .int .i64 0, .int .i64 0, .slice none 0 0]) ?_ 4 _ rfl; (with_reducible repeat (first | refine blk_drewN ?_ _ | refine blk_drew ?_ | refine blk_alloc ?_ _)); refine blk_put (cs := #[.int .u8 ((rd_T26 l0 x8_1).f0), .int .i64 ((rd_T26 l0 x8_1).f1.f0), .int .i64 ((rd_T26 l0 x8_1).f1.f1), .int .i64 0, .int .i64 0, .int .i64 0, .slice none 0 0]) ?_ 3 _ rfl; (with_reducible repeat (first | refine blk_drewN ?_ _ | refine blk_drew ?_ | refine blk_alloc ?_ _)); refine blk_put (cs := #[.int .u8 ((rd_T26 l0 x8_1).f0), .int .i64 ((rd_T26 l0 x8_1).f1.f0), .int .i64 0, .int .i64 0, .int .i64 0, .int .i64 0, .slice none 0 0]) ?_ 2 _ rfl; (with_reducible repeat (first | refine blk_drewN ?_ _ | refine blk_drew ?_ | refine blk_alloc ?_ _)); refine blk_put (cs := #[.int .u8 ((rd_T26 l0 x8_1).f0), .int .i64 0, .int .i64 0, .int .i64 0, .int .i64 0, .int .i64 0, .slice none 0 0]) ?_ 1 _ rfl; (with_reducible repeat (first | refine blk_drewN ?_ _ | refine blk_drew ?_ | refine blk_alloc ?_ _)); refine blk_put (cs := #[.int .u8 0, .int .i64 0, .int .i64 0, .int .i64 0, .int .i64 0, .int .i64 0, .slice none 0 0]) ?_ 0 _ rfl; (with_reducible repeat (first | refine blk_drewN ?_ _ | refine blk_drew ?_ | refine blk_alloc ?_ _)); exact BK527.out) hb); have n3_ := Aside0.mk (below_step (by repeat (first | (with_reducible first | exact HB.out | apply below_alloc | apply pw_below_drewN | apply below_drew1 | refine below_set ?_ GE527.out) | exact HB.out)) hb); clear HO_3; clear BK527; clear HB; have HO_3 := n0_; have HO539 := n1_; have BK527 := n2_; have HB := n3_; clear n0_ n1_ n2_ n3_; (try clear hb); (try clear hb2); (try clear hk); (try clear hi); (try clear ho0); obtain ⟨Ao22, co22, eo22⟩ := Kd.R_slice HO539.out; subst eo22) | ((with_reducible refine gate_builtin (b := .append) (xs := #[.tmp 20, .tmp 23]) rfl ?_); at_builtin; refine Kd.R_append_rows (Kd.int .i64) (w0 := w) w.heap.size rfl (.tmp 20) (.tmp 23) 41 3 (.int .i64 0) 8 rfl Try.underlying41 info3 rfl (by decide) (by omega) u3 x3_1 t537 _ _ _ (fun k_ => some k_ ≠ (.slice Ao22 t537.length co22 : Value).ownBlock) (fun _ => False) rfl rfl ?aO ?aR (fun _ _ h => h) (fun _ h => h.elim) ?aF ?aB ?aS ?aL ?_; (case aR => repeat (first | exact (Kd.R_reads' HO539.out).2.2 | (with_reducible refine Kd.C_alloc ?_ _) | (with_reducible refine Kd.C_drewN ?_ _) | (with_reducible refine Kd.C_drew ?_))); (case aB => exact (by repeat (first | (with_reducible first | exact HB.out | apply below_alloc | apply pw_below_drewN | apply below_drew1 | refine below_set ?_ GE527.out) | exact HB.out))); (case aF => exact (fun k_ hk => Kd.fresh' (Kd.R_lt (by (with_reducible repeat (first | apply Kd.R_alloc | apply Kd.R_drewN | apply Kd.R_drew)); exact HO539.out)) k_ hk)); (case aO => exact (by (with_reducible repeat (first | apply Kd.R_alloc | apply Kd.R_drewN | apply Kd.R_drew)); exact Kd.R_mono HO_3.out (fun _ hk => hk.2))); (case aS => exact (below_size (by repeat (first | (with_reducible first | exact HB.out | apply below_alloc | apply pw_below_drewN | apply below_drew1 | refine below_set ?_ GE527.out) | exact HB.out)))); (case aL => have := LMc17.out; omega); intro v541 w21 ho hb hg hat; rw [← Ny540.out] at ho; have n0_ := Aside0.mk (blk_grown (g := gb527) (o := .cells #[.int .u8 ((rd_T26 l0 x8_1).f0), .int .i64 ((rd_T26 l0 x8_1).f1.f0), .int .i64 ((rd_T26 l0 x8_1).f1.f1), .int .i64 ((rd_T26 l0 x8_1).f1.f2), .int .i64 ((rd_T26 l0 x8_1).f1.f3), .int .i64 ((rd_T26 l0 x8_1).f2), .slice A526_6 ((rd_T26 l0 x8_1).f3).length c526_6] 26 (0, 0)) (by (with_reducible repeat (first | refine blk_drewN ?_ _ | refine blk_drew ?_ | refine blk_alloc ?_ _)); exact BK527.out) hg (Kd.R_ne HO_3.out BK527.out (by decide))); have n1_ := Aside0.mk (Kd.R_after (ok := (fun _ => True)) (by (with_reducible repeat (first | apply Kd.R_alloc | apply Kd.R_drewN | apply Kd.R_drew)); exact HO539.out) hg hat); have n2_ := Aside0.mk (hb); have n3_ := Aside0.mk (ho); clear BK527; clear HO539; clear HB; clear HO_3; have BK527 := n0_; have HO539 := n1_; have HB := n2_; have HO542 := n3_; clear n0_ n1_ n2_ n3_; clear ho hb hg hat))
                go_roundg k1
                case measure => have := HK1.out; omega
                case rel => exact ⟨(y540), (wrap64 (x8_1 + 1)), (by first | rfl | (simp; done) | (simp [*]; done)), H', ⟨by have := HK1.out; omega⟩, ⟨by (with_reducible repeat (first | apply Kd.R_alloc | apply Kd.R_drewN | apply Kd.R_drew)); exact Kd.R_mono HO542.out (fun _ hk => trivial)⟩, ⟨by repeat (first | (with_reducible first | exact HB.out | apply below_alloc | apply pw_below_drewN | apply below_drew1 | refine below_set ?_ GE527.out) | exact HB.out)⟩⟩
              · rw [if_neg c17] at H
                exact absurd H (by simp)
          · rw [if_neg c4] at H
            exact absurd H (by simp)
        · rw [if_neg c3] at H
          exact absurd H (by simp)
      · rw [if_neg c2] at H
        have c2b0 : decide (x8_1 < (l0.length : Int)) = false := decide_eq_false c2
        clear c2
        obtain rfl := Option.some.inj H
        go_wp2
        go_ret
        exact ⟨_, by first | rfl | (simp [errW_none, errW_some] <;> rfl) | (simp [*, errW_none, errW_some] <;> rfl), by (with_reducible repeat (first | apply Kd.R_alloc | apply Kd.R_drewN | apply Kd.R_drew)); exact HO_3.out, by repeat (first | (with_reducible first | exact HB.out | apply below_alloc | apply pw_below_drewN | apply below_drew1) | exact HB.out)⟩

end Go.Proofs.Ytfdmfgaiblfbhaa.P
/- The contract of slices.Clone at api.Cell: the same cells, in a row of the call's own; what they lead to is shared. -/
namespace Go.Proofs.Ytfdmfgaiblfbhaa.P
open Go.RowKit Go.Proofs.YtfdmfgaiblfbhaaW.PrintWords Go.Proofs.YtfdmfgaiblfbhaaW.PrintLast Go.Proofs.YtfdmfgaiblfbhaaW.PrintMore

theorem V_away1 {α : Type} {d : Kd α} {e base n c g : Nat} {ok : Nat → Prop} {W : World} {ad : Addr} {xs : List α} (h : Kd.V d e W base ok (.slice (some ad) n c) xs) (hs : 0 < d.sz) (hp : 0 < n) (hok : ∀ k, ok k → k ≠ g) : some g ≠ (Value.slice (some ad) n c).ownBlock := by
  intro he
  have hf := Kd.V_F h
  cases xs with
  | nil => have := Kd.F_len hf; simp at this; omega
  | cons x xs =>
    obtain ⟨ad', _, h1, _, _, _, h2⟩ := Kd.F_get hf x 0 (Int.le_refl _) (by omega)
    injection h1 with h1
    subst h1
    have := hok _ (h2 hs)
    simp only [Value.ownBlock, Option.some.injEq] at he
    exact this he.symm

def api_Cell_137.f (l0 : List (S26)) : Option (List S26) := if l0.length ≤ 1000000 then some l0 else none
set_option maxHeartbeats 2000000 in
set_option maxRecDepth 100000 in
theorem api_Cell_137.calls (P0_ : Nat → Prop) (A0 : Option Addr) (c0 : Nat) (l0 : List (S26)) (r : List S26) (w : World) (hs0 : Kd.V k26 26 w w.heap.size (fun k_ => P0_ k_) (.slice A0 l0.length c0) l0) (h : api_Cell_137.f l0 = some r) :
    Calls Try.prog 137 #[.slice A0 l0.length c0] w fun e w' => ∃ v0_ : Value, e = .returned (v0_) ∧ Kd.N k26 26 w' w.heap.size (fun k_ => (P0_ k_ ∨ w.heap.size ≤ k_)) v0_ r ∧ Below w.heap.size w w' := by
  unfold api_Cell_137.f at h
  split at h
  · rename_i hl
    injection h with h
    subst h
    have HR := Aside0.mk (Kd.V_F hs0)
    have HL := Aside0.mk hl
    clear hl
    cases A0 with
    | none =>
      have heq : ∀ W : World, (binOp .eql 24 (.slice none l0.length c0) (.slice none 0 0)).run Try.prog W = .ok (.bool true) W := fun W => Lib.run_eql_slice_nil W 24 26 none l0.length c0 0 0 Try.underlying24
      have e0 : l0 = [] := by
        cases l0 with
        | nil => rfl
        | cons x xs =>
          obtain ⟨ad, h1, _⟩ := (Kd.F_now HR.out).2.2 (by simp)
          cases h1
      have E0 := Aside0.mk e0
      clear hs0 e0
      go_enter Try.func137, Try.ntmps137
      go_wp2
      go_ret
      exact ⟨_, rfl, by rw [E0.out]; exact Kd.N_nil _ _ _ _ _, Below.refl _ _⟩
    | some ad =>
      have heq : ∀ W : World, (binOp .eql 24 (.slice (some ad) l0.length c0) (.slice none 0 0)).run Try.prog W = .ok (.bool false) W := fun W => Lib.run_eql_slice_nil W 24 26 (some ad) l0.length c0 0 0 Try.underlying24
      clear hs0
      go_enter Try.func137, Try.ntmps137
      go_wp2_with (first | ((with_reducible refine gate_dst (N := 5) rfl ?_); refine Kd.N_lit k26 w.heap.size 26 ?hg (N' := 5) ?hd (xs := ([] : List S26)) (inner := []) (ok := fun k_ => (P0_ k_ ∨ w.heap.size ≤ k_)) (okp := fun _ => False) ?hr ?hp (fun _ hk => hk.elim) (.inr (Nat.le_refl _)) (Below.refl _ _) (Nat.le_refl _) (by simp) ?_; (case hd => rfl); (case hg => rfl); (case hr => first | (go_simp; done) | (go_simp; rfl)); (case hp => exact Reps.none _ _); intro v5 w5 ho hb hg_ hnew_; clear hg_; have HO := Aside0.mk ho; have HB := Aside0.mk hb; have HF := Aside0.mk (Kd.F_mono (Kd.F_elder' (v := v5) HR.out (fun k hk => by obtain ⟨b, h1, h2⟩ := hnew_; rw [h1] at hk; cases hk; exact h2) hb) (fun k hk => hk)); clear ho hb hnew_; obtain ⟨Ao, co, eo⟩ := Kd.N_slice HO.out; subst eo) | ((with_reducible refine gate_builtin (b := .append) (xs := #[.tmp 5, .tmp 6]) rfl ?_); at_builtin; refine Kd.N_append_rows k26 (w0 := w) w.heap.size rfl (.tmp 5) (.tmp 6) 24 26 (.agg #[(.int .u8 0), (.int .i64 0), (.int .i64 0), (.int .i64 0), (.int .i64 0), (.int .i64 0), (.slice none 0 0)]) 72 rfl Try.underlying24 info26 rfl (by decide) (by omega) (.slice Ao ([] : List S26).length co) [] l0 _ _ _ (fun k_ => (P0_ k_ ∨ w.heap.size ≤ k_)) (fun k_ => P0_ k_ ∧ some k_ ≠ (Value.slice Ao ([] : List S26).length co).ownBlock) rfl rfl ?aO ?aR (fun _ h => ⟨.inl h.1, h.2⟩) (fun k hk => .inr (Nat.le_trans (below_size HB.out) hk)) ?aB ?aS ?aL ?_; (case aO => exact HO.out); (case aR => exact HF.out); (case aB => exact HB.out); (case aS => exact below_size HB.out); (case aL => (have := HL.out; simp only [List.length_nil]; omega)); intro v7 w7 h1 h2 h3_ h4_; clear h3_ h4_; have HO7 := Aside0.mk h1; have HB7 := Aside0.mk h2; clear h1 h2 HO HB HF))
      go_wp2
      go_ret
      exact ⟨_, rfl, HO7.out, HB7.out⟩
  · exact absurd h (by simp)
end Go.Proofs.Ytfdmfgaiblfbhaa.P
