/- LeastPaths: part 6 of 7 of this claim's texts, one behind the other. The words of the kit's printer stand in it cut down, by a program, to those that are used. -/
import Derived.Test.YtfdmfgaiblfbhaaMLeastPathsc
import Derived.Test.YtfdmfgaiblfbhaaMLeastPathse
namespace Go.Proofs.Ytfdmfgaiblfbhaa.P
open Go.RowKit Go.Proofs.YtfdmfgaiblfbhaaW.PrintWords Go.Proofs.YtfdmfgaiblfbhaaW.PrintLast Go.Proofs.YtfdmfgaiblfbhaaW.PrintMore
attribute [local go_sem] max2_int min2_int max_two min_two max_three min_three max_four min_four   -- for this text's walks alone
set_option linter.unusedVariables false
set_option linter.unusedSimpArgs false

/-! ### sashref08_Path: function 101 -/
def sashref08_Path.f : Nat → Int → Int → Int → Int → Int → Int → List (S26) → Int → List Int → Option (Int)
 | 0, _, _, _, _, _, _, _, _, _ => none
 | k + 1, a0_0, a0_1, a0_2, a0_3, a0_4, a0_5, l0_6, a1, l2 => if (l2.length : Int) = 0 then (some 0) else ((sashref08_Along.f a0_0 a0_1 a0_2 a0_3 a0_4 a0_5 l0_6 a1).bind fun t1066 => (if t1066 = true then (if 0 < (l2.length : Int) then (if (rd l2 0) < 0 then (some 1) else (if (rd l2 0) ≥ (l0_6.length : Int) then (some 1) else (if 0 ≤ (rd l2 0) then (if (rd l2 0) < (l0_6.length : Int) then (if 1 ≤ (l2.length : Int) then ((sashref08_Path.f k ((rd_T26 l0_6 (rd l2 0)).f0) ((rd_T26 l0_6 (rd l2 0)).f1.f0) ((rd_T26 l0_6 (rd l2 0)).f1.f1) ((rd_T26 l0_6 (rd l2 0)).f1.f2) ((rd_T26 l0_6 (rd l2 0)).f1.f3) ((rd_T26 l0_6 (rd l2 0)).f2) ((rd_T26 l0_6 (rd l2 0)).f3) a1 (l2.drop 1)).bind fun t1072 => (some (wrap64 (1 + t1072)))) else (none)) else (none)) else (none)))) else (none)) else (if 0 < (l2.length : Int) then (if (rd l2 0) < 0 then (some 0) else (if (rd l2 0) ≥ (l0_6.length : Int) then (some 0) else (if 0 ≤ (rd l2 0) then (if (rd l2 0) < (l0_6.length : Int) then (if 1 ≤ (l2.length : Int) then ((sashref08_Path.f k ((rd_T26 l0_6 (rd l2 0)).f0) ((rd_T26 l0_6 (rd l2 0)).f1.f0) ((rd_T26 l0_6 (rd l2 0)).f1.f1) ((rd_T26 l0_6 (rd l2 0)).f1.f2) ((rd_T26 l0_6 (rd l2 0)).f1.f3) ((rd_T26 l0_6 (rd l2 0)).f2) ((rd_T26 l0_6 (rd l2 0)).f3) a1 (l2.drop 1)).bind fun t1078 => (some (wrap64 (0 + t1078)))) else (none)) else (none)) else (none)))) else (none))))
def sashref08_Path.T6 : Bool × List (List Nat × List Nat) := (true, [([], []), ([0], [0]), ([1], [1]), ([2], [2]), ([3], [3]), ([4], [4]), ([5, 4], [4, 5]), ([6, 4], [4, 6]), ([4], [4]), ([8, 4], [4, 8]), ([9, 4], [4, 9]), ([7, 10, 4], [4, 7, 10]), ([4, 11], [4, 11])])
def sashref08_Path.B6 : List Nat := [0, 1, 3, 7, 15, 31, 63, 127, 31, 287, 799, 2047, 4095]
theorem sashref08_Path.tab6 : rtab .any (opsOf Try.f101 6) = sashref08_Path.T6 := by kernel_rfl
theorem sashref08_Path.bits6 : waitsOk sashref08_Path.T6.2 sashref08_Path.B6 = true := by kernel_rfl
def sashref08_Path.T8 : Bool × List (List Nat × List Nat) := (true, [([], []), ([], []), ([1], [1]), ([], []), ([3], [3]), ([4], [4]), ([2, 5], [2, 5]), ([6], [6]), ([], []), ([], []), ([9], [9]), ([7, 8, 10], [7, 8, 10]), ([0, 11], [0, 11]), ([12, 11, 0, 1, 2, 3, 4, 5, 6, 7, 8, 9, 10, 11, 12], [12])])
def sashref08_Path.B8 : List Nat := [0, 0, 2, 0, 8, 24, 62, 126, 0, 0, 512, 2046, 4095, 8191]
theorem sashref08_Path.tab8 : rtab .any (opsOf Try.f101 8) = sashref08_Path.T8 := by kernel_rfl
theorem sashref08_Path.bits8 : waitsOk sashref08_Path.T8.2 sashref08_Path.B8 = true := by kernel_rfl
set_option maxHeartbeats 8000000 in
set_option maxRecDepth 100000 in
theorem sashref08_Path.calls (k : Nat) : ∀ (a0_0 : Int) (a0_1 : Int) (a0_2 : Int) (a0_3 : Int) (a0_4 : Int) (a0_5 : Int) (A0_6 : Option Addr) (c0_6 : Nat) (l0_6 : List (S26)) (a1 : Int) (A2 : Option Addr) (c2 : Nat) (l2 : List Int) (r : Int) (w : World) (hr0_6 : Kd.C k26 w A0_6 l0_6.length l0_6) (hc0_6 : l0_6.length ≤ c0_6) (hr2 : Kd.C (Kd.int .i64) w A2 l2.length l2) (hc2 : l2.length ≤ c2) (h : sashref08_Path.f k a0_0 a0_1 a0_2 a0_3 a0_4 a0_5 l0_6 a1 l2 = some r),
  Calls Try.prog 101 #[.agg #[.int .u8 a0_0, .int .i64 a0_1, .int .i64 a0_2, .int .i64 a0_3, .int .i64 a0_4, .int .i64 a0_5, .slice A0_6 l0_6.length c0_6], .int .u8 a1, .slice A2 l2.length c2] w fun e w' => e = .returned (.int .i64 r) ∧ Below w.heap.size w w' := by
 induction k using Nat.strongRecOn with
 | _ k ih =>
 intro a0_0 a0_1 a0_2 a0_3 a0_4 a0_5 A0_6 c0_6 l0_6 a1 A2 c2 l2 r w hr0_6 hc0_6 hr2 hc2 h
 cases k with
 | zero => exact absurd h (by simp [sashref08_Path.f])
 | succ k =>
 simp only [sashref08_Path.f] at h
 have hu26 := Try.underlying26
 have HR0_6 := Aside0.mk hr0_6
 have HC0_6 := Aside0.mk hc0_6
 clear hr0_6 hc0_6
 have HR2 := Aside0.mk hr2
 have HC2 := Aside0.mk hc2
 clear hr2 hc2
 have HB := Aside0.mk (Below.refl w.heap.size w)
 have H : (if (l2.length : Int) = 0 then (some 0) else ((sashref08_Along.f a0_0 a0_1 a0_2 a0_3 a0_4 a0_5 l0_6 a1).bind fun t1066 => (if t1066 = true then (if 0 < (l2.length : Int) then (if (rd l2 0) < 0 then (some 1) else (if (rd l2 0) ≥ (l0_6.length : Int) then (some 1) else (if 0 ≤ (rd l2 0) then (if (rd l2 0) < (l0_6.length : Int) then (if 1 ≤ (l2.length : Int) then ((sashref08_Path.f k ((rd_T26 l0_6 (rd l2 0)).f0) ((rd_T26 l0_6 (rd l2 0)).f1.f0) ((rd_T26 l0_6 (rd l2 0)).f1.f1) ((rd_T26 l0_6 (rd l2 0)).f1.f2) ((rd_T26 l0_6 (rd l2 0)).f1.f3) ((rd_T26 l0_6 (rd l2 0)).f2) ((rd_T26 l0_6 (rd l2 0)).f3) a1 (l2.drop 1)).bind fun t1072 => (some (wrap64 (1 + t1072)))) else (none)) else (none)) else (none)))) else (none)) else (if 0 < (l2.length : Int) then (if (rd l2 0) < 0 then (some 0) else (if (rd l2 0) ≥ (l0_6.length : Int) then (some 0) else (if 0 ≤ (rd l2 0) then (if (rd l2 0) < (l0_6.length : Int) then (if 1 ≤ (l2.length : Int) then ((sashref08_Path.f k ((rd_T26 l0_6 (rd l2 0)).f0) ((rd_T26 l0_6 (rd l2 0)).f1.f0) ((rd_T26 l0_6 (rd l2 0)).f1.f1) ((rd_T26 l0_6 (rd l2 0)).f1.f2) ((rd_T26 l0_6 (rd l2 0)).f1.f3) ((rd_T26 l0_6 (rd l2 0)).f2) ((rd_T26 l0_6 (rd l2 0)).f3) a1 (l2.drop 1)).bind fun t1078 => (some (wrap64 (0 + t1078)))) else (none)) else (none)) else (none)))) else (none))))) = some r := h
 clear h
 by_cases c4 : (l2.length : Int) = 0
 ·rw [if_pos c4] at H
  have c4b0 : ((l2.length : Int) == 0) = true := beq_iff_eq.mpr c4
  have c4b1 : ((l2.length : Int) != 0) = false := bne_eq_false_iff_eq.mpr c4
  clear c4
  obtain rfl := Option.some.inj H
  go_enter Try.func101, Try.ntmps101
  go_wp2_with (first | ((with_reducible refine gate_dst (N := 3) rfl ?_); (try (refine gate_guard (by rfl) ?_; dsimp only)); refine box_event ?hg (N := 3) ?hd (cs := #[.int .u8 a0_0, .int .i64 a0_1, .int .i64 a0_2, .int .i64 a0_3, .int .i64 a0_4, .int .i64 a0_5, .slice A0_6 l0_6.length c0_6]) (t := 26) ?hr ?_; (case hd => rfl); (case hg => rfl); (case hr => first | (go_simp; done) | (go_simp; rfl)); intro gb1065 hg w5 hbox hb; have n0_ := Aside0.mk (below_step (by repeat (first | (with_reducible first | exact HB.out | apply below_alloc | apply pw_below_drewN | apply below_drew1) | exact HB.out)) hb); have n1_ := Aside0.mk (hbox); have n2_ := Aside0.mk ((by rw [hg]; exact (below_size (by repeat (first | (with_reducible first | exact HB.out | apply below_alloc | apply pw_below_drewN | apply below_drew1) | exact HB.out))) : w.heap.size ≤ gb1065)); have n3_ := Aside0.mk ((by rw [hg]; exact (below_size (by repeat (first | (with_reducible first | exact HB.out | apply below_alloc | apply pw_below_drewN | apply below_drew1) | exact HB.out))) : w.heap.size ≤ gb1065)); clear HB; have HB := n0_; have BK1065 := n1_; have GW1065 := n2_; have GE1065 := n3_; clear n0_ n1_ n2_ n3_; clear hb hbox hg))
  go_ret
  exact ⟨by first | rfl | (simp [errW_none, errW_some] <;> rfl) | (simp [*, errW_none, errW_some] <;> rfl), by repeat (first | (with_reducible first | exact HB.out | apply below_alloc | apply pw_below_drewN | apply below_drew1 | refine below_set ?_ GE1065.out) | exact HB.out)⟩
 ·rw [if_neg c4] at H
  have c4b0 : ((l2.length : Int) == 0) = false := beq_eq_false_iff_ne.mpr c4
  have c4b1 : ((l2.length : Int) != 0) = true := bne_iff_ne.mpr c4
  have c4b2 : ¬ (l2 = []) := fun h_ => c4 (by rw [h_]; rfl)
  replace H := Option.bind_eq_some_iff.mp H
  obtain ⟨t1066, A60, H⟩ := H
  replace H : (if t1066 = true then (if 0 < (l2.length : Int) then (if (rd l2 0) < 0 then (some 1) else (if (rd l2 0) ≥ (l0_6.length : Int) then (some 1) else (if 0 ≤ (rd l2 0) then (if (rd l2 0) < (l0_6.length : Int) then (if 1 ≤ (l2.length : Int) then ((sashref08_Path.f k ((rd_T26 l0_6 (rd l2 0)).f0) ((rd_T26 l0_6 (rd l2 0)).f1.f0) ((rd_T26 l0_6 (rd l2 0)).f1.f1) ((rd_T26 l0_6 (rd l2 0)).f1.f2) ((rd_T26 l0_6 (rd l2 0)).f1.f3) ((rd_T26 l0_6 (rd l2 0)).f2) ((rd_T26 l0_6 (rd l2 0)).f3) a1 (l2.drop 1)).bind fun t1072 => (some (wrap64 (1 + t1072)))) else (none)) else (none)) else (none)))) else (none)) else (if 0 < (l2.length : Int) then (if (rd l2 0) < 0 then (some 0) else (if (rd l2 0) ≥ (l0_6.length : Int) then (some 0) else (if 0 ≤ (rd l2 0) then (if (rd l2 0) < (l0_6.length : Int) then (if 1 ≤ (l2.length : Int) then ((sashref08_Path.f k ((rd_T26 l0_6 (rd l2 0)).f0) ((rd_T26 l0_6 (rd l2 0)).f1.f0) ((rd_T26 l0_6 (rd l2 0)).f1.f1) ((rd_T26 l0_6 (rd l2 0)).f1.f2) ((rd_T26 l0_6 (rd l2 0)).f1.f3) ((rd_T26 l0_6 (rd l2 0)).f2) ((rd_T26 l0_6 (rd l2 0)).f3) a1 (l2.drop 1)).bind fun t1078 => (some (wrap64 (0 + t1078)))) else (none)) else (none)) else (none)))) else (none))) = some r := H
  have A6 := Aside0.mk A60
  clear A60
  by_cases c7 : t1066 = true
  ·subst c7
   have H1 : (if 0 < (l2.length : Int) then (if (rd l2 0) < 0 then (some 1) else (if (rd l2 0) ≥ (l0_6.length : Int) then (some 1) else (if 0 ≤ (rd l2 0) then (if (rd l2 0) < (l0_6.length : Int) then (if 1 ≤ (l2.length : Int) then ((sashref08_Path.f k ((rd_T26 l0_6 (rd l2 0)).f0) ((rd_T26 l0_6 (rd l2 0)).f1.f0) ((rd_T26 l0_6 (rd l2 0)).f1.f1) ((rd_T26 l0_6 (rd l2 0)).f1.f2) ((rd_T26 l0_6 (rd l2 0)).f1.f3) ((rd_T26 l0_6 (rd l2 0)).f2) ((rd_T26 l0_6 (rd l2 0)).f3) a1 (l2.drop 1)).bind fun t1072 => (some (wrap64 (1 + t1072)))) else (none)) else (none)) else (none)))) else (none)) = some r := by rw [if_pos rfl] at H; exact H
   clear H
   have H := H1
   clear H1
   by_cases c8 : 0 < (l2.length : Int)
   ·rw [if_pos c8] at H
    have c8b0 : decide (0 < (l2.length : Int)) = true := decide_eq_true c8
    have c8b1 : decide (0 < l2.length) = true := decide_eq_true (by omega)
    clear c8
    by_cases c9 : (rd l2 0) < 0
    ·rw [if_pos c9] at H
     have c9b0 : decide ((rd l2 0) < 0) = true := decide_eq_true c9
     clear c9
     obtain rfl := Option.some.inj H
     go_enter Try.func101, Try.ntmps101
     try go_wp2_with (first | ((with_reducible refine gate_dst (N := 3) rfl ?_); (try (refine gate_guard (by rfl) ?_; dsimp only)); refine box_event ?hg (N := 3) ?hd (cs := #[.int .u8 a0_0, .int .i64 a0_1, .int .i64 a0_2, .int .i64 a0_3, .int .i64 a0_4, .int .i64 a0_5, .slice A0_6 l0_6.length c0_6]) (t := 26) ?hr ?_; (case hd => rfl); (case hg => rfl); (case hr => first | (go_simp; done) | (go_simp; rfl)); intro gb1065 hg w10 hbox hb; have n0_ := Aside0.mk (below_step (by repeat (first | (with_reducible first | exact HB.out | apply below_alloc | apply pw_below_drewN | apply below_drew1) | exact HB.out)) hb); have n1_ := Aside0.mk (hbox); have n2_ := Aside0.mk ((by rw [hg]; exact (below_size (by repeat (first | (with_reducible first | exact HB.out | apply below_alloc | apply pw_below_drewN | apply below_drew1) | exact HB.out))) : w.heap.size ≤ gb1065)); have n3_ := Aside0.mk ((by rw [hg]; exact (below_size (by repeat (first | (with_reducible first | exact HB.out | apply below_alloc | apply pw_below_drewN | apply below_drew1) | exact HB.out))) : w.heap.size ≤ gb1065)); clear HB; have HB := n0_; have BK1065 := n1_; have GW1065 := n2_; have GE1065 := n3_; clear n0_ n1_ n2_ n3_; clear hb hbox hg; have hcz11_0 : w10.cell? ⟨gb1065, 0, none⟩ = some (.int .u8 a0_0) := (blk_cell BK1065.out 0).trans rfl; have hcz11_1 : w10.cell? ⟨gb1065, 1, none⟩ = some (.int .i64 a0_1) := (blk_cell BK1065.out 1).trans rfl; have hcz11_2 : w10.cell? ⟨gb1065, 2, none⟩ = some (.int .i64 a0_2) := (blk_cell BK1065.out 2).trans rfl; have hcz11_3 : w10.cell? ⟨gb1065, 3, none⟩ = some (.int .i64 a0_3) := (blk_cell BK1065.out 3).trans rfl; have hcz11_4 : w10.cell? ⟨gb1065, 4, none⟩ = some (.int .i64 a0_4) := (blk_cell BK1065.out 4).trans rfl; have hcz11_5 : w10.cell? ⟨gb1065, 5, none⟩ = some (.int .i64 a0_5) := (blk_cell BK1065.out 5).trans rfl; have hcz11_6 : w10.cell? ⟨gb1065, 6, none⟩ = some (.slice A0_6 l0_6.length c0_6) := (blk_cell BK1065.out 6).trans rfl; have hfz11_0 := blk_frozen BK1065.out 0; have hfz11_1 := blk_frozen BK1065.out 1; have hfz11_2 := blk_frozen BK1065.out 2; have hfz11_3 := blk_frozen BK1065.out 3; have hfz11_4 := blk_frozen BK1065.out 4; have hfz11_5 := blk_frozen BK1065.out 5; have hfz11_6 := blk_frozen BK1065.out 6) | ((with_reducible refine gate_callee (f := 88) rfl ?_); refine goesL_ (some 13) rfl rfl Try.func88 (by kernel_rfl) rfl #[.agg #[.int .u8 a0_0, .int .i64 a0_1, .int .i64 a0_2, .int .i64 a0_3, .int .i64 a0_4, .int .i64 a0_5, .slice A0_6 l0_6.length c0_6], .int .u8 a1] rfl (by (try simp only [List.map_toArray, List.map_cons, List.map_nil]); first | done | rfl | (simp only [List.length_drop, List.length_take]; rfl)) ?_; (with_reducible refine (sashref08_Along.calls a0_0 a0_1 a0_2 a0_3 a0_4 a0_5 _ _ l0_6 a1 true _ ?side1 ?side2 A6.out).mono ?_); (case side1 => repeat (first | exact (Kd.C_below HR0_6.out HB.out) | (with_reducible refine Kd.C_alloc ?_ _) | (with_reducible refine Kd.C_drewN ?_ _) | (with_reducible refine Kd.C_drew ?_))); (case side2 => exact HC0_6.out); rintro e w12 ⟨rfl, hb⟩; refine ⟨_, rfl, ?_⟩; have n0_ := Aside0.mk (blk_below (g := gb1065) (o := .cells #[.int .u8 a0_0, .int .i64 a0_1, .int .i64 a0_2, .int .i64 a0_3, .int .i64 a0_4, .int .i64 a0_5, .slice A0_6 l0_6.length c0_6] 26 (0, 0)) (by (with_reducible repeat (first | refine blk_drewN ?_ _ | refine blk_drew ?_ | refine blk_alloc ?_ _)); exact BK1065.out) hb); have n1_ := Aside0.mk (below_step (by repeat (first | (with_reducible first | exact HB.out | apply below_alloc | apply pw_below_drewN | apply below_drew1 | refine below_set ?_ GE1065.out) | exact HB.out)) hb); clear BK1065; clear HB; have BK1065 := n0_; have HB := n1_; clear n0_ n1_; (try clear hb); (try clear hb2); (try clear hk); (try clear hi)))
     have n0_ := Aside0.mk (blk_drew BK1065.out)
     have n1_ := Aside0.mk (below_drew1 HB.out)
     clear BK1065
     clear HB
     have BK1065 := n0_
     have HB := n1_
     clear n0_ n1_
     have p1067 : 0 ≤ (0 : Int) := (by omega)
     have q1067 : 0 < (l2.length : Int) := of_decide_eq_true (by first | (with_reducible assumption) | assumption)
     obtain ⟨ad1067, e1067, hx1067_0⟩ := Kd.at_int HR2.out 0 p1067 q1067
     have hw1067_0 := hx1067_0
     (try rw [show ((0 : Int)).toNat = 0 from rfl] at hw1067_0)
     (try rw [show 0 * 1 = 0 from rfl] at hw1067_0)
     (try rw [Addr.add_zero'] at hw1067_0)
     cases e1067
     have qi1067 : (0 < l2.length) = True := eq_true (by omega)
     (try rw [show ((0 : Int)).toNat = 0 from rfl] at hx1067_0)
     (try rw [Addr.add_zero'] at hx1067_0)
     replace hx1067_0 := (HB.out.cell (World.block_lt_of_cell? w _ hx1067_0)).trans hx1067_0
     replace p1067 := eq_true p1067
     replace q1067 := eq_true q1067
     refine start_ (n := 13) (S := fun w' => w'.cell? ad1067 = some (.int .i64 (rd l2 0))) (ds := []) #[false, false, false, false, false, false, false, false, false, false, false, false, false] (by kernel_rfl) rfl rfl (((HB.out.cell (World.block_lt_of_cell? w _ hw1067_0)).trans hw1067_0)) (fun hHeld => ?_); refine with_tabW sashref08_Path.tab6 sashref08_Path.bits6 (fun HT_ HW_ => ?_)
     generalize w12.drew = w13 at BK1065 HB hx1067_0 hHeld ⊢
     refine pure_ (i := 0) (N := some 14) (v := ?_) (a' := ?_) #[true, false, false, false, false, false, false, false, false, false, false, false, false] rfl rfl (any_of HT_.out (by kernel_rfl)) (fun _ _ _ h => h) (Or.inl ⟨by rfl, ?_⟩) ?_ ?_
     rotate_left
     ·intro w'
      go_simp
      with_reducible rfl
     rotate_left
     ·simp only [Act.put, List.setIfInBounds_toArray, List.set_cons_zero, List.set_cons_succ, i64_w, i32_w]
      rfl
     refine pure_ (i := 1) (N := some 15) (v := ?_) (a' := ?_) #[true, true, false, false, false, false, false, false, false, false, false, false, false] rfl rfl (any_of HT_.out (by kernel_rfl)) (fun _ _ _ h => h) (Or.inl ⟨by rfl, ?_⟩) ?_ ?_
     rotate_left
     ·intro w'
      go_simp
      with_reducible rfl
     rotate_left
     ·simp only [Act.put, List.setIfInBounds_toArray, List.set_cons_zero, List.set_cons_succ, i64_w, i32_w]
      rfl
     refine take_ (i := 2) (N := some 16) (v := ?_) (a' := ?_) #[true, true, true, false, false, false, false, false, false, false, false, false, false] rfl rfl (take_ofW HT_.out HW_.out (by kernel_rfl)) (fun _ _ _ h => h) (Or.inl ⟨by rfl, ?_⟩) hHeld ?_ ?_
     rotate_left
     ·intro w' s0
      go_simp
      with_reducible rfl
     rotate_left
     ·simp only [Act.put, List.setIfInBounds_toArray, List.set_cons_zero, List.set_cons_succ, i64_w, i32_w]
      rfl
     refine pure_ (i := 3) (N := some 17) (v := ?_) (a' := ?_) #[true, true, true, true, false, false, false, false, false, false, false, false, false] rfl rfl (any_of HT_.out (by kernel_rfl)) (fun _ _ _ h => h) (Or.inl ⟨by rfl, ?_⟩) ?_ ?_
     rotate_left
     ·intro w'
      go_simp
      with_reducible rfl
     rotate_left
     ·simp only [Act.put, List.setIfInBounds_toArray, List.set_cons_zero, List.set_cons_succ, i64_w, i32_w]
      rfl
     refine pure_ (i := 4) (N := some 18) (v := ?_) (a' := ?_) #[true, true, true, true, true, false, false, false, false, false, false, false, false] rfl rfl (any_of HT_.out (by kernel_rfl)) (fun _ _ _ h => h) (Or.inl ⟨by rfl, ?_⟩) ?_ ?_
     rotate_left
     ·intro w'
      go_simp
      with_reducible rfl
     rotate_left
     ·simp only [Act.put, List.setIfInBounds_toArray, List.set_cons_zero, List.set_cons_succ, i64_w, i32_w]
      rfl
     refine pure_ (i := 5) (N := some 19) (v := undef) (a' := ?_) #[true, true, true, true, true, true, false, false, false, false, false, false, false] rfl rfl (any_of HT_.out (by kernel_rfl)) (fun _ _ _ h => h) (Or.inr ⟨by rfl, rfl⟩) ?_ ?_
     rotate_left
     ·simp only [Act.put, List.setIfInBounds_toArray, List.set_cons_zero, List.set_cons_succ, i64_w, i32_w]
      rfl
     refine pure_ (i := 6) (N := some 20) (v := undef) (a' := ?_) #[true, true, true, true, true, true, true, false, false, false, false, false, false] rfl rfl (any_of HT_.out (by kernel_rfl)) (fun _ _ _ h => h) (Or.inr ⟨by rfl, rfl⟩) ?_ ?_
     rotate_left
     ·simp only [Act.put, List.setIfInBounds_toArray, List.set_cons_zero, List.set_cons_succ, i64_w, i32_w]
      rfl
     refine pure_ (i := 7) (N := some 21) (v := undef) (a' := ?_) #[true, true, true, true, true, true, true, true, false, false, false, false, false] rfl rfl (any_of HT_.out (by kernel_rfl)) (fun _ _ _ h => h) (Or.inr ⟨by rfl, rfl⟩) ?_ ?_
     rotate_left
     ·simp only [Act.put, List.setIfInBounds_toArray, List.set_cons_zero, List.set_cons_succ, i64_w, i32_w]
      rfl
     refine pure_ (i := 8) (N := some 22) (v := undef) (a' := ?_) #[true, true, true, true, true, true, true, true, true, false, false, false, false] rfl rfl (any_of HT_.out (by kernel_rfl)) (fun _ _ _ h => h) (Or.inr ⟨by rfl, rfl⟩) ?_ ?_
     rotate_left
     ·simp only [Act.put, List.setIfInBounds_toArray, List.set_cons_zero, List.set_cons_succ, i64_w, i32_w]
      rfl
     refine pure_ (i := 9) (N := some 23) (v := undef) (a' := ?_) #[true, true, true, true, true, true, true, true, true, true, false, false, false] rfl rfl (any_of HT_.out (by kernel_rfl)) (fun _ _ _ h => h) (Or.inr ⟨by rfl, rfl⟩) ?_ ?_
     rotate_left
     ·simp only [Act.put, List.setIfInBounds_toArray, List.set_cons_zero, List.set_cons_succ, i64_w, i32_w]
      rfl
     refine pure_ (i := 10) (N := some 24) (v := undef) (a' := ?_) #[true, true, true, true, true, true, true, true, true, true, true, false, false] rfl rfl (any_of HT_.out (by kernel_rfl)) (fun _ _ _ h => h) (Or.inr ⟨by rfl, rfl⟩) ?_ ?_
     rotate_left
     ·simp only [Act.put, List.setIfInBounds_toArray, List.set_cons_zero, List.set_cons_succ, i64_w, i32_w]
      rfl
     refine pure_ (i := 11) (N := some 25) (v := undef) (a' := ?_) #[true, true, true, true, true, true, true, true, true, true, true, true, false] rfl rfl (any_of HT_.out (by kernel_rfl)) (fun _ _ _ h => h) (Or.inr ⟨by rfl, rfl⟩) ?_ ?_
     rotate_left
     ·simp only [Act.put, List.setIfInBounds_toArray, List.set_cons_zero, List.set_cons_succ, i64_w, i32_w]
      rfl
     refine pure_ (i := 12) (N := some 26) (v := ?_) (a' := ?_) #[true, true, true, true, true, true, true, true, true, true, true, true, true] rfl rfl (any_of HT_.out (by kernel_rfl)) (fun _ _ _ h => h) (Or.inl ⟨by rfl, ?_⟩) ?_ ?_
     rotate_left
     ·intro w'
      go_simp
      with_reducible rfl
     rotate_left
     ·simp only [Act.put, List.setIfInBounds_toArray, List.set_cons_zero, List.set_cons_succ, i64_w, i32_w]
      rfl
     refine done_ (done_of HT_.out (by kernel_rfl)) ?_
     try go_wp2
     go_ret
     exact ⟨by first | rfl | (simp [errW_none, errW_some] <;> rfl) | (simp [*, errW_none, errW_some] <;> rfl), by repeat (first | (with_reducible first | exact HB.out | apply below_alloc | apply pw_below_drewN | apply below_drew1 | refine below_set ?_ GE1065.out) | exact HB.out)⟩
    ·rw [if_neg c9] at H
     have c9b0 : decide ((rd l2 0) < 0) = false := decide_eq_false c9
     clear c9
     by_cases c14 : (rd l2 0) ≥ (l0_6.length : Int)
     ·rw [if_pos c14] at H
      have c14b0 : decide ((l0_6.length : Int) ≤ (rd l2 0)) = true := decide_eq_true c14
      clear c14
      obtain rfl := Option.some.inj H
      go_enter Try.func101, Try.ntmps101
      try go_wp2_with (first | ((with_reducible refine gate_dst (N := 3) rfl ?_); (try (refine gate_guard (by rfl) ?_; dsimp only)); refine box_event ?hg (N := 3) ?hd (cs := #[.int .u8 a0_0, .int .i64 a0_1, .int .i64 a0_2, .int .i64 a0_3, .int .i64 a0_4, .int .i64 a0_5, .slice A0_6 l0_6.length c0_6]) (t := 26) ?hr ?_; (case hd => rfl); (case hg => rfl); (case hr => first | (go_simp; done) | (go_simp; rfl)); intro gb1065 hg w15 hbox hb; have n0_ := Aside0.mk (below_step (by repeat (first | (with_reducible first | exact HB.out | apply below_alloc | apply pw_below_drewN | apply below_drew1) | exact HB.out)) hb); have n1_ := Aside0.mk (hbox); have n2_ := Aside0.mk ((by rw [hg]; exact (below_size (by repeat (first | (with_reducible first | exact HB.out | apply below_alloc | apply pw_below_drewN | apply below_drew1) | exact HB.out))) : w.heap.size ≤ gb1065)); have n3_ := Aside0.mk ((by rw [hg]; exact (below_size (by repeat (first | (with_reducible first | exact HB.out | apply below_alloc | apply pw_below_drewN | apply below_drew1) | exact HB.out))) : w.heap.size ≤ gb1065)); clear HB; have HB := n0_; have BK1065 := n1_; have GW1065 := n2_; have GE1065 := n3_; clear n0_ n1_ n2_ n3_; clear hb hbox hg; have hcz16_0 : w15.cell? ⟨gb1065, 0, none⟩ = some (.int .u8 a0_0) := (blk_cell BK1065.out 0).trans rfl; have hcz16_1 : w15.cell? ⟨gb1065, 1, none⟩ = some (.int .i64 a0_1) := (blk_cell BK1065.out 1).trans rfl; have hcz16_2 : w15.cell? ⟨gb1065, 2, none⟩ = some (.int .i64 a0_2) := (blk_cell BK1065.out 2).trans rfl; have hcz16_3 : w15.cell? ⟨gb1065, 3, none⟩ = some (.int .i64 a0_3) := (blk_cell BK1065.out 3).trans rfl; have hcz16_4 : w15.cell? ⟨gb1065, 4, none⟩ = some (.int .i64 a0_4) := (blk_cell BK1065.out 4).trans rfl; have hcz16_5 : w15.cell? ⟨gb1065, 5, none⟩ = some (.int .i64 a0_5) := (blk_cell BK1065.out 5).trans rfl; have hcz16_6 : w15.cell? ⟨gb1065, 6, none⟩ = some (.slice A0_6 l0_6.length c0_6) := (blk_cell BK1065.out 6).trans rfl; have hfz16_0 := blk_frozen BK1065.out 0; have hfz16_1 := blk_frozen BK1065.out 1; have hfz16_2 := blk_frozen BK1065.out 2; have hfz16_3 := blk_frozen BK1065.out 3; have hfz16_4 := blk_frozen BK1065.out 4; have hfz16_5 := blk_frozen BK1065.out 5; have hfz16_6 := blk_frozen BK1065.out 6) | ((with_reducible refine gate_callee (f := 88) rfl ?_); refine goesL_ (some 13) rfl rfl Try.func88 (by kernel_rfl) rfl #[.agg #[.int .u8 a0_0, .int .i64 a0_1, .int .i64 a0_2, .int .i64 a0_3, .int .i64 a0_4, .int .i64 a0_5, .slice A0_6 l0_6.length c0_6], .int .u8 a1] rfl (by (try simp only [List.map_toArray, List.map_cons, List.map_nil]); first | done | rfl | (simp only [List.length_drop, List.length_take]; rfl)) ?_; (with_reducible refine (sashref08_Along.calls a0_0 a0_1 a0_2 a0_3 a0_4 a0_5 _ _ l0_6 a1 true _ ?side1 ?side2 A6.out).mono ?_); (case side1 => repeat (first | exact (Kd.C_below HR0_6.out HB.out) | (with_reducible refine Kd.C_alloc ?_ _) | (with_reducible refine Kd.C_drewN ?_ _) | (with_reducible refine Kd.C_drew ?_))); (case side2 => exact HC0_6.out); rintro e w17 ⟨rfl, hb⟩; refine ⟨_, rfl, ?_⟩; have n0_ := Aside0.mk (blk_below (g := gb1065) (o := .cells #[.int .u8 a0_0, .int .i64 a0_1, .int .i64 a0_2, .int .i64 a0_3, .int .i64 a0_4, .int .i64 a0_5, .slice A0_6 l0_6.length c0_6] 26 (0, 0)) (by (with_reducible repeat (first | refine blk_drewN ?_ _ | refine blk_drew ?_ | refine blk_alloc ?_ _)); exact BK1065.out) hb); have n1_ := Aside0.mk (below_step (by repeat (first | (with_reducible first | exact HB.out | apply below_alloc | apply pw_below_drewN | apply below_drew1 | refine below_set ?_ GE1065.out) | exact HB.out)) hb); clear BK1065; clear HB; have BK1065 := n0_; have HB := n1_; clear n0_ n1_; (try clear hb); (try clear hb2); (try clear hk); (try clear hi)))
      have n0_ := Aside0.mk (blk_drew BK1065.out)
      have n1_ := Aside0.mk (below_drew1 HB.out)
      clear BK1065
      clear HB
      have BK1065 := n0_
      have HB := n1_
      clear n0_ n1_
      have p1067 : 0 ≤ (0 : Int) := (by omega)
      have q1067 : 0 < (l2.length : Int) := of_decide_eq_true (by first | (with_reducible assumption) | assumption)
      obtain ⟨ad1067, e1067, hx1067_0⟩ := Kd.at_int HR2.out 0 p1067 q1067
      have hw1067_0 := hx1067_0
      (try rw [show ((0 : Int)).toNat = 0 from rfl] at hw1067_0)
      (try rw [show 0 * 1 = 0 from rfl] at hw1067_0)
      (try rw [Addr.add_zero'] at hw1067_0)
      cases e1067
      have qi1067 : (0 < l2.length) = True := eq_true (by omega)
      (try rw [show ((0 : Int)).toNat = 0 from rfl] at hx1067_0)
      (try rw [Addr.add_zero'] at hx1067_0)
      replace hx1067_0 := (HB.out.cell (World.block_lt_of_cell? w _ hx1067_0)).trans hx1067_0
      replace p1067 := eq_true p1067
      replace q1067 := eq_true q1067
      have p1068 : 0 ≤ (0 : Int) := (by omega)
      have q1068 : 0 < (l2.length : Int) := of_decide_eq_true (by first | (with_reducible assumption) | assumption)
      obtain ⟨ad1068, e1068, hx1068_0⟩ := Kd.at_int HR2.out 0 p1068 q1068
      have hw1068_0 := hx1068_0
      (try rw [show ((0 : Int)).toNat = 0 from rfl] at hw1068_0)
      (try rw [show 0 * 1 = 0 from rfl] at hw1068_0)
      (try rw [Addr.add_zero'] at hw1068_0)
      obtain rfl : ad1067 = ad1068 := (by injection e1068)
      have qi1068 : (0 < l2.length) = True := eq_true (by omega)
      (try rw [show ((0 : Int)).toNat = 0 from rfl] at hx1068_0)
      (try rw [Addr.add_zero'] at hx1068_0)
      replace hx1068_0 := (HB.out.cell (World.block_lt_of_cell? w _ hx1068_0)).trans hx1068_0
      replace p1068 := eq_true p1068
      replace q1068 := eq_true q1068
      refine start_ (n := 13) (S := fun w' => w'.cell? ⟨gb1065, 0, none⟩ = some (.int .u8 a0_0) ∧ w'.cell? ⟨gb1065, 1, none⟩ = some (.int .i64 a0_1) ∧ w'.cell? ⟨gb1065, 2, none⟩ = some (.int .i64 a0_2) ∧ w'.cell? ⟨gb1065, 3, none⟩ = some (.int .i64 a0_3) ∧ w'.cell? ⟨gb1065, 4, none⟩ = some (.int .i64 a0_4) ∧ w'.cell? ⟨gb1065, 5, none⟩ = some (.int .i64 a0_5) ∧ w'.cell? ⟨gb1065, 6, none⟩ = some (.slice A0_6 l0_6.length c0_6) ∧ w'.cell? ad1067 = some (.int .i64 (rd l2 0)) ∧ w'.cell? ad1067 = some (.int .i64 (rd l2 0))) (ds := []) #[false, false, false, false, false, false, false, false, false, false, false, false, false] (by kernel_rfl) rfl rfl ⟨(blk_cell BK1065.out 0).trans rfl, (blk_cell BK1065.out 1).trans rfl, (blk_cell BK1065.out 2).trans rfl, (blk_cell BK1065.out 3).trans rfl, (blk_cell BK1065.out 4).trans rfl, (blk_cell BK1065.out 5).trans rfl, (blk_cell BK1065.out 6).trans rfl, ((HB.out.cell (World.block_lt_of_cell? w _ hw1067_0)).trans hw1067_0), ((HB.out.cell (World.block_lt_of_cell? w _ hw1068_0)).trans hw1068_0)⟩ (fun hHeld => ?_); refine with_tabW sashref08_Path.tab6 sashref08_Path.bits6 (fun HT_ HW_ => ?_)
      generalize w17.drew = w18 at BK1065 HB hx1067_0 hx1068_0 hHeld ⊢
      refine pure_ (i := 0) (N := some 14) (v := ?_) (a' := ?_) #[true, false, false, false, false, false, false, false, false, false, false, false, false] rfl rfl (any_of HT_.out (by kernel_rfl)) (fun _ _ _ h => h) (Or.inl ⟨by rfl, ?_⟩) ?_ ?_
      rotate_left
      ·intro w'
       go_simp
       with_reducible rfl
      rotate_left
      ·simp only [Act.put, List.setIfInBounds_toArray, List.set_cons_zero, List.set_cons_succ, i64_w, i32_w]
       rfl
      refine pure_ (i := 1) (N := some 15) (v := ?_) (a' := ?_) #[true, true, false, false, false, false, false, false, false, false, false, false, false] rfl rfl (any_of HT_.out (by kernel_rfl)) (fun _ _ _ h => h) (Or.inl ⟨by rfl, ?_⟩) ?_ ?_
      rotate_left
      ·intro w'
       go_simp
       with_reducible rfl
      rotate_left
      ·simp only [Act.put, List.setIfInBounds_toArray, List.set_cons_zero, List.set_cons_succ, i64_w, i32_w]
       rfl
      refine take_ (i := 2) (N := some 16) (v := ?_) (a' := ?_) #[true, true, true, false, false, false, false, false, false, false, false, false, false] rfl rfl (take_ofW HT_.out HW_.out (by kernel_rfl)) (fun _ _ _ h => h) (Or.inl ⟨by rfl, ?_⟩) hHeld ?_ ?_
      rotate_left
      ·rintro w' ⟨s0, s1, s2, s3, s4, s5, s6, s7, s8⟩
       go_simp
       with_reducible rfl
      rotate_left
      ·simp only [Act.put, List.setIfInBounds_toArray, List.set_cons_zero, List.set_cons_succ, i64_w, i32_w]
       rfl
      refine pure_ (i := 3) (N := some 17) (v := ?_) (a' := ?_) #[true, true, true, true, false, false, false, false, false, false, false, false, false] rfl rfl (any_of HT_.out (by kernel_rfl)) (fun _ _ _ h => h) (Or.inl ⟨by rfl, ?_⟩) ?_ ?_
      rotate_left
      ·intro w'
       go_simp
       with_reducible rfl
      rotate_left
      ·simp only [Act.put, List.setIfInBounds_toArray, List.set_cons_zero, List.set_cons_succ, i64_w, i32_w]
       rfl
      refine pure_ (i := 4) (N := some 18) (v := ?_) (a' := ?_) #[true, true, true, true, true, false, false, false, false, false, false, false, false] rfl rfl (any_of HT_.out (by kernel_rfl)) (fun _ _ _ h => h) (Or.inl ⟨by rfl, ?_⟩) ?_ ?_
      rotate_left
      ·intro w'
       go_simp
       with_reducible rfl
      rotate_left
      ·simp only [Act.put, List.setIfInBounds_toArray, List.set_cons_zero, List.set_cons_succ, i64_w, i32_w]
       rfl
      refine pure_ (i := 5) (N := some 19) (v := ?_) (a' := ?_) #[true, true, true, true, true, true, false, false, false, false, false, false, false] rfl rfl (any_of HT_.out (by kernel_rfl)) (fun _ _ _ h => h) (Or.inl ⟨by rfl, ?_⟩) ?_ ?_
      rotate_left
      ·intro w'
       go_simp
       with_reducible rfl
      rotate_left
      ·simp only [Act.put, List.setIfInBounds_toArray, List.set_cons_zero, List.set_cons_succ, i64_w, i32_w]
       rfl
      refine pure_ (i := 6) (N := some 20) (v := ?_) (a' := ?_) #[true, true, true, true, true, true, true, false, false, false, false, false, false] rfl rfl (any_of HT_.out (by kernel_rfl)) (fun _ _ _ h => h) (Or.inl ⟨by rfl, ?_⟩) ?_ ?_
      rotate_left
      ·intro w'
       go_simp
       with_reducible rfl
      rotate_left
      ·simp only [Act.put, List.setIfInBounds_toArray, List.set_cons_zero, List.set_cons_succ, i64_w, i32_w]
       rfl
      refine pure_ (i := 8) (N := some 22) (v := ?_) (a' := ?_) #[true, true, true, true, true, true, true, false, true, false, false, false, false] rfl rfl (any_of HT_.out (by kernel_rfl)) (fun _ _ _ h => h) (Or.inl ⟨by rfl, ?_⟩) ?_ ?_
      rotate_left
      ·intro w'
       go_simp
       with_reducible rfl
      rotate_left
      ·simp only [Act.put, List.setIfInBounds_toArray, List.set_cons_zero, List.set_cons_succ, i64_w, i32_w]
       rfl
      refine take_ (i := 7) (N := some 21) (v := ?_) (a' := ?_) #[true, true, true, true, true, true, true, true, true, false, false, false, false] rfl rfl (take_ofW HT_.out HW_.out (by kernel_rfl)) (fun _ _ _ h => h) (Or.inl ⟨by rfl, ?_⟩) hHeld ?_ ?_
      rotate_left
      ·rintro w' ⟨s0, s1, s2, s3, s4, s5, s6, s7, s8⟩
       go_simp
       with_reducible rfl
      rotate_left
      ·simp only [Act.put, List.setIfInBounds_toArray, List.set_cons_zero, List.set_cons_succ, i64_w, i32_w]
       rfl
      refine take_ (i := 9) (N := some 23) (v := ?_) (a' := ?_) #[true, true, true, true, true, true, true, true, true, true, false, false, false] rfl rfl (take_ofW HT_.out HW_.out (by kernel_rfl)) (fun _ _ _ h => h) (Or.inl ⟨by rfl, ?_⟩) hHeld ?_ ?_
      rotate_left
      ·rintro w' ⟨s0, s1, s2, s3, s4, s5, s6, s7, s8⟩
       go_simp
       with_reducible rfl
      rotate_left
      ·simp only [Act.put, List.setIfInBounds_toArray, List.set_cons_zero, List.set_cons_succ, i64_w, i32_w]
       rfl
      refine pure_ (i := 10) (N := some 24) (v := ?_) (a' := ?_) #[true, true, true, true, true, true, true, true, true, true, true, false, false] rfl rfl (any_of HT_.out (by kernel_rfl)) (fun _ _ _ h => h) (Or.inl ⟨by rfl, ?_⟩) ?_ ?_
      rotate_left
      ·intro w'
       go_simp
       with_reducible rfl
      rotate_left
      ·simp only [Act.put, List.setIfInBounds_toArray, List.set_cons_zero, List.set_cons_succ, i64_w, i32_w]
       rfl
      refine pure_ (i := 11) (N := some 25) (v := ?_) (a' := ?_) #[true, true, true, true, true, true, true, true, true, true, true, true, false] rfl rfl (any_of HT_.out (by kernel_rfl)) (fun _ _ _ h => h) (Or.inl ⟨by rfl, ?_⟩) ?_ ?_
      rotate_left
      ·intro w'
       go_simp
       with_reducible rfl
      rotate_left
      ·simp only [Act.put, List.setIfInBounds_toArray, List.set_cons_zero, List.set_cons_succ, i64_w, i32_w]
       rfl
      refine pure_ (i := 12) (N := some 26) (v := ?_) (a' := ?_) #[true, true, true, true, true, true, true, true, true, true, true, true, true] rfl rfl (any_of HT_.out (by kernel_rfl)) (fun _ _ _ h => h) (Or.inl ⟨by rfl, ?_⟩) ?_ ?_
      rotate_left
      ·intro w'
       go_simp
       with_reducible rfl
      rotate_left
      ·simp only [Act.put, List.setIfInBounds_toArray, List.set_cons_zero, List.set_cons_succ, i64_w, i32_w]
       rfl
      refine done_ (done_of HT_.out (by kernel_rfl)) ?_
      try go_wp2
      go_ret
      exact ⟨by first | rfl | (simp [errW_none, errW_some] <;> rfl) | (simp [*, errW_none, errW_some] <;> rfl), by repeat (first | (with_reducible first | exact HB.out | apply below_alloc | apply pw_below_drewN | apply below_drew1 | refine below_set ?_ GE1065.out) | exact HB.out)⟩
     ·rw [if_neg c14] at H
      have c14b0 : decide ((l0_6.length : Int) ≤ (rd l2 0)) = false := decide_eq_false c14
      clear c14
      by_cases c19 : 0 ≤ (rd l2 0)
      ·rw [if_pos c19] at H
       have c19b0 : decide (0 ≤ (rd l2 0)) = true := decide_eq_true c19
       clear c19
       by_cases c20 : (rd l2 0) < (l0_6.length : Int)
       ·rw [if_pos c20] at H
        have c20b0 : decide ((rd l2 0) < (l0_6.length : Int)) = true := decide_eq_true c20
        clear c20
        by_cases c21 : 1 ≤ (l2.length : Int)
        ·rw [if_pos c21] at H
         have c21b0 := eq_true c21
         have c21b1 : decide (1 ≤ (l2.length : Int)) = true := decide_eq_true c21
         clear c21
         replace H := Option.bind_eq_some_iff.mp H
         obtain ⟨t1072, A220, H⟩ := H
         replace H : (some (wrap64 (1 + t1072))) = some r := H
         have A22 := Aside0.mk A220
         clear A220
         obtain rfl := Option.some.inj H
         go_enter Try.func101, Try.ntmps101
         try go_wp2_with (first | ((with_reducible refine gate_dst (N := 3) rfl ?_); (try (refine gate_guard (by rfl) ?_; dsimp only)); refine box_event ?hg (N := 3) ?hd (cs := #[.int .u8 a0_0, .int .i64 a0_1, .int .i64 a0_2, .int .i64 a0_3, .int .i64 a0_4, .int .i64 a0_5, .slice A0_6 l0_6.length c0_6]) (t := 26) ?hr ?_; (case hd => rfl); (case hg => rfl); (case hr => first | (go_simp; done) | (go_simp; rfl)); intro gb1065 hg w23 hbox hb; have n0_ := Aside0.mk (below_step (by repeat (first | (with_reducible first | exact HB.out | apply below_alloc | apply pw_below_drewN | apply below_drew1) | exact HB.out)) hb); have n1_ := Aside0.mk (hbox); have n2_ := Aside0.mk ((by rw [hg]; exact (below_size (by repeat (first | (with_reducible first | exact HB.out | apply below_alloc | apply pw_below_drewN | apply below_drew1) | exact HB.out))) : w.heap.size ≤ gb1065)); have n3_ := Aside0.mk ((by rw [hg]; exact (below_size (by repeat (first | (with_reducible first | exact HB.out | apply below_alloc | apply pw_below_drewN | apply below_drew1) | exact HB.out))) : w.heap.size ≤ gb1065)); clear HB; have HB := n0_; have BK1065 := n1_; have GW1065 := n2_; have GE1065 := n3_; clear n0_ n1_ n2_ n3_; clear hb hbox hg; have hcz24_0 : w23.cell? ⟨gb1065, 0, none⟩ = some (.int .u8 a0_0) := (blk_cell BK1065.out 0).trans rfl; have hcz24_1 : w23.cell? ⟨gb1065, 1, none⟩ = some (.int .i64 a0_1) := (blk_cell BK1065.out 1).trans rfl; have hcz24_2 : w23.cell? ⟨gb1065, 2, none⟩ = some (.int .i64 a0_2) := (blk_cell BK1065.out 2).trans rfl; have hcz24_3 : w23.cell? ⟨gb1065, 3, none⟩ = some (.int .i64 a0_3) := (blk_cell BK1065.out 3).trans rfl; have hcz24_4 : w23.cell? ⟨gb1065, 4, none⟩ = some (.int .i64 a0_4) := (blk_cell BK1065.out 4).trans rfl; have hcz24_5 : w23.cell? ⟨gb1065, 5, none⟩ = some (.int .i64 a0_5) := (blk_cell BK1065.out 5).trans rfl; have hcz24_6 : w23.cell? ⟨gb1065, 6, none⟩ = some (.slice A0_6 l0_6.length c0_6) := (blk_cell BK1065.out 6).trans rfl; have hfz24_0 := blk_frozen BK1065.out 0; have hfz24_1 := blk_frozen BK1065.out 1; have hfz24_2 := blk_frozen BK1065.out 2; have hfz24_3 := blk_frozen BK1065.out 3; have hfz24_4 := blk_frozen BK1065.out 4; have hfz24_5 := blk_frozen BK1065.out 5; have hfz24_6 := blk_frozen BK1065.out 6) | ((with_reducible refine gate_callee (f := 88) rfl ?_); refine goesL_ (some 13) rfl rfl Try.func88 (by kernel_rfl) rfl #[.agg #[.int .u8 a0_0, .int .i64 a0_1, .int .i64 a0_2, .int .i64 a0_3, .int .i64 a0_4, .int .i64 a0_5, .slice A0_6 l0_6.length c0_6], .int .u8 a1] rfl (by (try simp only [List.map_toArray, List.map_cons, List.map_nil]); first | done | rfl | (simp only [List.length_drop, List.length_take]; rfl)) ?_; (with_reducible refine (sashref08_Along.calls a0_0 a0_1 a0_2 a0_3 a0_4 a0_5 _ _ l0_6 a1 true _ ?side1 ?side2 A6.out).mono ?_); (case side1 => repeat (first | exact (Kd.C_below HR0_6.out HB.out) | (with_reducible refine Kd.C_alloc ?_ _) | (with_reducible refine Kd.C_drewN ?_ _) | (with_reducible refine Kd.C_drew ?_))); (case side2 => exact HC0_6.out); rintro e w25 ⟨rfl, hb⟩; refine ⟨_, rfl, ?_⟩; have n0_ := Aside0.mk (blk_below (g := gb1065) (o := .cells #[.int .u8 a0_0, .int .i64 a0_1, .int .i64 a0_2, .int .i64 a0_3, .int .i64 a0_4, .int .i64 a0_5, .slice A0_6 l0_6.length c0_6] 26 (0, 0)) (by (with_reducible repeat (first | refine blk_drewN ?_ _ | refine blk_drew ?_ | refine blk_alloc ?_ _)); exact BK1065.out) hb); have n1_ := Aside0.mk (below_step (by repeat (first | (with_reducible first | exact HB.out | apply below_alloc | apply pw_below_drewN | apply below_drew1 | refine below_set ?_ GE1065.out) | exact HB.out)) hb); clear BK1065; clear HB; have BK1065 := n0_; have HB := n1_; clear n0_ n1_; (try clear hb); (try clear hb2); (try clear hk); (try clear hi)))
         have n0_ := Aside0.mk (blk_drew BK1065.out)
         have n1_ := Aside0.mk (below_drew1 HB.out)
         clear BK1065
         clear HB
         have BK1065 := n0_
         have HB := n1_
         clear n0_ n1_
         have p1067 : 0 ≤ (0 : Int) := (by omega)
         have q1067 : 0 < (l2.length : Int) := of_decide_eq_true (by first | (with_reducible assumption) | assumption)
         obtain ⟨ad1067, e1067, hx1067_0⟩ := Kd.at_int HR2.out 0 p1067 q1067
         have hw1067_0 := hx1067_0
         (try rw [show ((0 : Int)).toNat = 0 from rfl] at hw1067_0)
         (try rw [show 0 * 1 = 0 from rfl] at hw1067_0)
         (try rw [Addr.add_zero'] at hw1067_0)
         cases e1067
         have qi1067 : (0 < l2.length) = True := eq_true (by omega)
         (try rw [show ((0 : Int)).toNat = 0 from rfl] at hx1067_0)
         (try rw [Addr.add_zero'] at hx1067_0)
         replace hx1067_0 := (HB.out.cell (World.block_lt_of_cell? w _ hx1067_0)).trans hx1067_0
         replace p1067 := eq_true p1067
         replace q1067 := eq_true q1067
         have p1068 : 0 ≤ (0 : Int) := (by omega)
         have q1068 : 0 < (l2.length : Int) := of_decide_eq_true (by first | (with_reducible assumption) | assumption)
         obtain ⟨ad1068, e1068, hx1068_0⟩ := Kd.at_int HR2.out 0 p1068 q1068
         have hw1068_0 := hx1068_0
         (try rw [show ((0 : Int)).toNat = 0 from rfl] at hw1068_0)
         (try rw [show 0 * 1 = 0 from rfl] at hw1068_0)
         (try rw [Addr.add_zero'] at hw1068_0)
         obtain rfl : ad1067 = ad1068 := (by injection e1068)
         have qi1068 : (0 < l2.length) = True := eq_true (by omega)
         (try rw [show ((0 : Int)).toNat = 0 from rfl] at hx1068_0)
         (try rw [Addr.add_zero'] at hx1068_0)
         replace hx1068_0 := (HB.out.cell (World.block_lt_of_cell? w _ hx1068_0)).trans hx1068_0
         replace p1068 := eq_true p1068
         replace q1068 := eq_true q1068
         refine start_ (n := 13) (S := fun w' => w'.cell? ⟨gb1065, 0, none⟩ = some (.int .u8 a0_0) ∧ w'.cell? ⟨gb1065, 1, none⟩ = some (.int .i64 a0_1) ∧ w'.cell? ⟨gb1065, 2, none⟩ = some (.int .i64 a0_2) ∧ w'.cell? ⟨gb1065, 3, none⟩ = some (.int .i64 a0_3) ∧ w'.cell? ⟨gb1065, 4, none⟩ = some (.int .i64 a0_4) ∧ w'.cell? ⟨gb1065, 5, none⟩ = some (.int .i64 a0_5) ∧ w'.cell? ⟨gb1065, 6, none⟩ = some (.slice A0_6 l0_6.length c0_6) ∧ w'.cell? ad1067 = some (.int .i64 (rd l2 0)) ∧ w'.cell? ad1067 = some (.int .i64 (rd l2 0))) (ds := []) #[false, false, false, false, false, false, false, false, false, false, false, false, false] (by kernel_rfl) rfl rfl ⟨(blk_cell BK1065.out 0).trans rfl, (blk_cell BK1065.out 1).trans rfl, (blk_cell BK1065.out 2).trans rfl, (blk_cell BK1065.out 3).trans rfl, (blk_cell BK1065.out 4).trans rfl, (blk_cell BK1065.out 5).trans rfl, (blk_cell BK1065.out 6).trans rfl, ((HB.out.cell (World.block_lt_of_cell? w _ hw1067_0)).trans hw1067_0), ((HB.out.cell (World.block_lt_of_cell? w _ hw1068_0)).trans hw1068_0)⟩ (fun hHeld => ?_); refine with_tabW sashref08_Path.tab6 sashref08_Path.bits6 (fun HT_ HW_ => ?_)
         generalize w25.drew = w26 at BK1065 HB hx1067_0 hx1068_0 hHeld ⊢
         refine pure_ (i := 0) (N := some 14) (v := ?_) (a' := ?_) #[true, false, false, false, false, false, false, false, false, false, false, false, false] rfl rfl (any_of HT_.out (by kernel_rfl)) (fun _ _ _ h => h) (Or.inl ⟨by rfl, ?_⟩) ?_ ?_
         rotate_left
         ·intro w'
          go_simp
          with_reducible rfl
         rotate_left
         ·simp only [Act.put, List.setIfInBounds_toArray, List.set_cons_zero, List.set_cons_succ, i64_w, i32_w]
          rfl
         refine pure_ (i := 1) (N := some 15) (v := ?_) (a' := ?_) #[true, true, false, false, false, false, false, false, false, false, false, false, false] rfl rfl (any_of HT_.out (by kernel_rfl)) (fun _ _ _ h => h) (Or.inl ⟨by rfl, ?_⟩) ?_ ?_
         rotate_left
         ·intro w'
          go_simp
          with_reducible rfl
         rotate_left
         ·simp only [Act.put, List.setIfInBounds_toArray, List.set_cons_zero, List.set_cons_succ, i64_w, i32_w]
          rfl
         refine take_ (i := 2) (N := some 16) (v := ?_) (a' := ?_) #[true, true, true, false, false, false, false, false, false, false, false, false, false] rfl rfl (take_ofW HT_.out HW_.out (by kernel_rfl)) (fun _ _ _ h => h) (Or.inl ⟨by rfl, ?_⟩) hHeld ?_ ?_
         rotate_left
         ·rintro w' ⟨s0, s1, s2, s3, s4, s5, s6, s7, s8⟩
          go_simp
          with_reducible rfl
         rotate_left
         ·simp only [Act.put, List.setIfInBounds_toArray, List.set_cons_zero, List.set_cons_succ, i64_w, i32_w]
          rfl
         refine pure_ (i := 3) (N := some 17) (v := ?_) (a' := ?_) #[true, true, true, true, false, false, false, false, false, false, false, false, false] rfl rfl (any_of HT_.out (by kernel_rfl)) (fun _ _ _ h => h) (Or.inl ⟨by rfl, ?_⟩) ?_ ?_
         rotate_left
         ·intro w'
          go_simp
          with_reducible rfl
         rotate_left
         ·simp only [Act.put, List.setIfInBounds_toArray, List.set_cons_zero, List.set_cons_succ, i64_w, i32_w]
          rfl
         refine pure_ (i := 4) (N := some 18) (v := ?_) (a' := ?_) #[true, true, true, true, true, false, false, false, false, false, false, false, false] rfl rfl (any_of HT_.out (by kernel_rfl)) (fun _ _ _ h => h) (Or.inl ⟨by rfl, ?_⟩) ?_ ?_
         rotate_left
         ·intro w'
          go_simp
          with_reducible rfl
         rotate_left
         ·simp only [Act.put, List.setIfInBounds_toArray, List.set_cons_zero, List.set_cons_succ, i64_w, i32_w]
          rfl
         refine pure_ (i := 5) (N := some 19) (v := ?_) (a' := ?_) #[true, true, true, true, true, true, false, false, false, false, false, false, false] rfl rfl (any_of HT_.out (by kernel_rfl)) (fun _ _ _ h => h) (Or.inl ⟨by rfl, ?_⟩) ?_ ?_
         rotate_left
         ·intro w'
          go_simp
          with_reducible rfl
         rotate_left
         ·simp only [Act.put, List.setIfInBounds_toArray, List.set_cons_zero, List.set_cons_succ, i64_w, i32_w]
          rfl
         refine pure_ (i := 6) (N := some 20) (v := ?_) (a' := ?_) #[true, true, true, true, true, true, true, false, false, false, false, false, false] rfl rfl (any_of HT_.out (by kernel_rfl)) (fun _ _ _ h => h) (Or.inl ⟨by rfl, ?_⟩) ?_ ?_
         rotate_left
         ·intro w'
          go_simp
          with_reducible rfl
         rotate_left
         ·simp only [Act.put, List.setIfInBounds_toArray, List.set_cons_zero, List.set_cons_succ, i64_w, i32_w]
          rfl
         refine pure_ (i := 8) (N := some 22) (v := ?_) (a' := ?_) #[true, true, true, true, true, true, true, false, true, false, false, false, false] rfl rfl (any_of HT_.out (by kernel_rfl)) (fun _ _ _ h => h) (Or.inl ⟨by rfl, ?_⟩) ?_ ?_
         rotate_left
         ·intro w'
          go_simp
          with_reducible rfl
         rotate_left
         ·simp only [Act.put, List.setIfInBounds_toArray, List.set_cons_zero, List.set_cons_succ, i64_w, i32_w]
          rfl
         refine take_ (i := 7) (N := some 21) (v := ?_) (a' := ?_) #[true, true, true, true, true, true, true, true, true, false, false, false, false] rfl rfl (take_ofW HT_.out HW_.out (by kernel_rfl)) (fun _ _ _ h => h) (Or.inl ⟨by rfl, ?_⟩) hHeld ?_ ?_
         rotate_left
         ·rintro w' ⟨s0, s1, s2, s3, s4, s5, s6, s7, s8⟩
          go_simp
          with_reducible rfl
         rotate_left
         ·simp only [Act.put, List.setIfInBounds_toArray, List.set_cons_zero, List.set_cons_succ, i64_w, i32_w]
          rfl
         refine take_ (i := 9) (N := some 23) (v := ?_) (a' := ?_) #[true, true, true, true, true, true, true, true, true, true, false, false, false] rfl rfl (take_ofW HT_.out HW_.out (by kernel_rfl)) (fun _ _ _ h => h) (Or.inl ⟨by rfl, ?_⟩) hHeld ?_ ?_
         rotate_left
         ·rintro w' ⟨s0, s1, s2, s3, s4, s5, s6, s7, s8⟩
          go_simp
          with_reducible rfl
         rotate_left
         ·simp only [Act.put, List.setIfInBounds_toArray, List.set_cons_zero, List.set_cons_succ, i64_w, i32_w]
          rfl
         refine pure_ (i := 10) (N := some 24) (v := ?_) (a' := ?_) #[true, true, true, true, true, true, true, true, true, true, true, false, false] rfl rfl (any_of HT_.out (by kernel_rfl)) (fun _ _ _ h => h) (Or.inl ⟨by rfl, ?_⟩) ?_ ?_
         rotate_left
         ·intro w'
          go_simp
          with_reducible rfl
         rotate_left
         ·simp only [Act.put, List.setIfInBounds_toArray, List.set_cons_zero, List.set_cons_succ, i64_w, i32_w]
          rfl
         refine pure_ (i := 11) (N := some 25) (v := ?_) (a' := ?_) #[true, true, true, true, true, true, true, true, true, true, true, true, false] rfl rfl (any_of HT_.out (by kernel_rfl)) (fun _ _ _ h => h) (Or.inl ⟨by rfl, ?_⟩) ?_ ?_
         rotate_left
         ·intro w'
          go_simp
          with_reducible rfl
         rotate_left
         ·simp only [Act.put, List.setIfInBounds_toArray, List.set_cons_zero, List.set_cons_succ, i64_w, i32_w]
          rfl
         refine pure_ (i := 12) (N := some 26) (v := ?_) (a' := ?_) #[true, true, true, true, true, true, true, true, true, true, true, true, true] rfl rfl (any_of HT_.out (by kernel_rfl)) (fun _ _ _ h => h) (Or.inl ⟨by rfl, ?_⟩) ?_ ?_
         rotate_left
         ·intro w'
          go_simp
          with_reducible rfl
         rotate_left
         ·simp only [Act.put, List.setIfInBounds_toArray, List.set_cons_zero, List.set_cons_succ, i64_w, i32_w]
          rfl
         refine done_ (done_of HT_.out (by kernel_rfl)) ?_
         try go_wp2
         have n0_ := Aside0.mk (blk_drew BK1065.out)
         have n1_ := Aside0.mk (below_drew1 HB.out)
         clear BK1065
         clear HB
         have BK1065 := n0_
         have HB := n1_
         clear n0_ n1_
         have p1069 : 0 ≤ (0 : Int) := (by omega)
         have q1069 : 0 < (l2.length : Int) := of_decide_eq_true (by first | (with_reducible assumption) | assumption)
         obtain ⟨ad1069, e1069, hx1069_0⟩ := Kd.at_int HR2.out 0 p1069 q1069
         have hw1069_0 := hx1069_0
         (try rw [show ((0 : Int)).toNat = 0 from rfl] at hw1069_0)
         (try rw [show 0 * 1 = 0 from rfl] at hw1069_0)
         (try rw [Addr.add_zero'] at hw1069_0)
         obtain rfl : ad1067 = ad1069 := (by injection e1069)
         have qi1069 : (0 < l2.length) = True := eq_true (by omega)
         (try rw [show ((0 : Int)).toNat = 0 from rfl] at hx1069_0)
         (try rw [Addr.add_zero'] at hx1069_0)
         replace hx1069_0 := (HB.out.cell (World.block_lt_of_cell? w _ hx1069_0)).trans hx1069_0
         replace p1069 := eq_true p1069
         replace q1069 := eq_true q1069
         have p1070 : 0 ≤ ((rd l2 0) : Int) := of_decide_eq_true (by first | (with_reducible assumption) | assumption)
         have q1070 : (rd l2 0) < (l0_6.length : Int) := of_decide_eq_true (by first | (with_reducible assumption) | assumption)
         obtain ⟨ad1070, A1070_6, c1070_6, e1070, hx1070_0, hx1070_1, hx1070_2, hx1070_3, hx1070_4, hx1070_5, hx1070_6, hl1070_6, hi1070_6⟩ := at_T26 HR0_6.out (rd l2 0) p1070 q1070
         have hw1070_6 := hx1070_6
         have hw1070_5 := hx1070_5
         have hw1070_4 := hx1070_4
         have hw1070_3 := hx1070_3
         have hw1070_2 := hx1070_2
         have hw1070_1 := hx1070_1
         have hw1070_0 := hx1070_0
         cases e1070
         replace hx1070_0 := (HB.out.cell (World.block_lt_of_cell? w _ hx1070_0)).trans hx1070_0
         replace hx1070_1 := (HB.out.cell (World.block_lt_of_cell? w _ hx1070_1)).trans hx1070_1
         replace hx1070_2 := (HB.out.cell (World.block_lt_of_cell? w _ hx1070_2)).trans hx1070_2
         replace hx1070_3 := (HB.out.cell (World.block_lt_of_cell? w _ hx1070_3)).trans hx1070_3
         replace hx1070_4 := (HB.out.cell (World.block_lt_of_cell? w _ hx1070_4)).trans hx1070_4
         replace hx1070_5 := (HB.out.cell (World.block_lt_of_cell? w _ hx1070_5)).trans hx1070_5
         replace hx1070_6 := (HB.out.cell (World.block_lt_of_cell? w _ hx1070_6)).trans hx1070_6
         have HR1070_6 := Aside0.mk hi1070_6
         have HC1070_6 := Aside0.mk hl1070_6
         clear hi1070_6 hl1070_6
         replace p1070 := eq_true p1070
         replace q1070 := eq_true q1070
         obtain ⟨i028, hi028, _, hsz28, _⟩ := info_parts info3
         obtain ⟨A28, hcut28, hA28, hC28⟩ := print_drop_of (P := Try.prog) (Value.int .i64) 0 41 3 .i64 Try.underlying41 hi028 hsz28 (some ad1067) c2 l2 1 (by omega) (of_decide_eq_true (by first | (with_reducible assumption) | assumption)) HC2.out
         have HR1071 := Aside0.mk (Kd.C_of_reads (h1 := fun _ => rfl) (hA28 _ (Kd.reads_of_C HR2.out)))
         have HC1071 := Aside0.mk hC28
         clear hA28 hC28 hi028 hsz28
         refine start_ (n := 14) (S := fun w' => w'.cell? ⟨gb1065, 0, none⟩ = some (.int .u8 a0_0) ∧ w'.cell? ⟨gb1065, 1, none⟩ = some (.int .i64 a0_1) ∧ w'.cell? ⟨gb1065, 2, none⟩ = some (.int .i64 a0_2) ∧ w'.cell? ⟨gb1065, 3, none⟩ = some (.int .i64 a0_3) ∧ w'.cell? ⟨gb1065, 4, none⟩ = some (.int .i64 a0_4) ∧ w'.cell? ⟨gb1065, 5, none⟩ = some (.int .i64 a0_5) ∧ w'.cell? ⟨gb1065, 6, none⟩ = some (.slice (some ad1070) l0_6.length c0_6) ∧ w'.cell? ad1067 = some (.int .i64 (rd l2 0)) ∧ w'.cell? (ad1070.add (((rd l2 0)).toNat * 7)) = some (.int .u8 ((rd_T26 l0_6 (rd l2 0)).f0)) ∧ w'.cell? ⟨(ad1070.add (((rd l2 0)).toNat * 7)).block, (ad1070.add (((rd l2 0)).toNat * 7)).off + 1, none⟩ = some (.int .i64 ((rd_T26 l0_6 (rd l2 0)).f1.f0)) ∧ w'.cell? ⟨(ad1070.add (((rd l2 0)).toNat * 7)).block, (ad1070.add (((rd l2 0)).toNat * 7)).off + 2, none⟩ = some (.int .i64 ((rd_T26 l0_6 (rd l2 0)).f1.f1)) ∧ w'.cell? ⟨(ad1070.add (((rd l2 0)).toNat * 7)).block, (ad1070.add (((rd l2 0)).toNat * 7)).off + 3, none⟩ = some (.int .i64 ((rd_T26 l0_6 (rd l2 0)).f1.f2)) ∧ w'.cell? ⟨(ad1070.add (((rd l2 0)).toNat * 7)).block, (ad1070.add (((rd l2 0)).toNat * 7)).off + 4, none⟩ = some (.int .i64 ((rd_T26 l0_6 (rd l2 0)).f1.f3)) ∧ w'.cell? ⟨(ad1070.add (((rd l2 0)).toNat * 7)).block, (ad1070.add (((rd l2 0)).toNat * 7)).off + 5, none⟩ = some (.int .i64 ((rd_T26 l0_6 (rd l2 0)).f2)) ∧ w'.cell? ⟨(ad1070.add (((rd l2 0)).toNat * 7)).block, (ad1070.add (((rd l2 0)).toNat * 7)).off + 6, none⟩ = some (.slice A1070_6 ((rd_T26 l0_6 (rd l2 0)).f3).length c1070_6)) (ds := []) #[false, false, false, false, false, false, false, false, false, false, false, false, false, false] (by kernel_rfl) rfl rfl ⟨(blk_cell BK1065.out 0).trans rfl, (blk_cell BK1065.out 1).trans rfl, (blk_cell BK1065.out 2).trans rfl, (blk_cell BK1065.out 3).trans rfl, (blk_cell BK1065.out 4).trans rfl, (blk_cell BK1065.out 5).trans rfl, (blk_cell BK1065.out 6).trans rfl, ((HB.out.cell (World.block_lt_of_cell? w _ hw1069_0)).trans hw1069_0), ((HB.out.cell (World.block_lt_of_cell? w _ hw1070_0)).trans hw1070_0), ((HB.out.cell (World.block_lt_of_cell? w _ hw1070_1)).trans hw1070_1), ((HB.out.cell (World.block_lt_of_cell? w _ hw1070_2)).trans hw1070_2), ((HB.out.cell (World.block_lt_of_cell? w _ hw1070_3)).trans hw1070_3), ((HB.out.cell (World.block_lt_of_cell? w _ hw1070_4)).trans hw1070_4), ((HB.out.cell (World.block_lt_of_cell? w _ hw1070_5)).trans hw1070_5), ((HB.out.cell (World.block_lt_of_cell? w _ hw1070_6)).trans hw1070_6)⟩ (fun hHeld => ?_); refine with_tabW sashref08_Path.tab8 sashref08_Path.bits8 (fun HT_ HW_ => ?_)
         generalize w26.drew = w27 at BK1065 HB HR1070_6 HR1071 hx1069_0 hx1070_0 hx1070_1 hx1070_2 hx1070_3 hx1070_4 hx1070_5 hx1070_6 hHeld ⊢
         refine pure_ (i := 0) (N := some 28) (v := ?_) (a' := ?_) #[true, false, false, false, false, false, false, false, false, false, false, false, false, false] rfl rfl (any_of HT_.out (by kernel_rfl)) (fun _ _ _ h => h) (Or.inl ⟨by rfl, ?_⟩) ?_ ?_
         rotate_left
         ·intro w'
          go_simp
          with_reducible rfl
         rotate_left
         ·simp only [Act.put, List.setIfInBounds_toArray, List.set_cons_zero, List.set_cons_succ, i64_w, i32_w]
          rfl
         refine pure_ (i := 1) (N := some 29) (v := ?_) (a' := ?_) #[true, true, false, false, false, false, false, false, false, false, false, false, false, false] rfl rfl (any_of HT_.out (by kernel_rfl)) (fun _ _ _ h => h) (Or.inl ⟨by rfl, ?_⟩) ?_ ?_
         rotate_left
         ·intro w'
          go_simp
          with_reducible rfl
         rotate_left
         ·simp only [Act.put, List.setIfInBounds_toArray, List.set_cons_zero, List.set_cons_succ, i64_w, i32_w]
          rfl
         refine pure_ (i := 3) (N := some 31) (v := ?_) (a' := ?_) #[true, true, false, true, false, false, false, false, false, false, false, false, false, false] rfl rfl (any_of HT_.out (by kernel_rfl)) (fun _ _ _ h => h) (Or.inl ⟨by rfl, ?_⟩) ?_ ?_
         rotate_left
         ·intro w'
          go_simp
          with_reducible rfl
         rotate_left
         ·simp only [Act.put, List.setIfInBounds_toArray, List.set_cons_zero, List.set_cons_succ, i64_w, i32_w]
          rfl
         refine pure_ (i := 4) (N := some 32) (v := ?_) (a' := ?_) #[true, true, false, true, true, false, false, false, false, false, false, false, false, false] rfl rfl (any_of HT_.out (by kernel_rfl)) (fun _ _ _ h => h) (Or.inl ⟨by rfl, ?_⟩) ?_ ?_
         rotate_left
         ·intro w'
          go_simp
          with_reducible rfl
         rotate_left
         ·simp only [Act.put, List.setIfInBounds_toArray, List.set_cons_zero, List.set_cons_succ, i64_w, i32_w]
          rfl
         refine pure_ (i := 8) (N := some 36) (v := ?_) (a' := ?_) #[true, true, false, true, true, false, false, false, true, false, false, false, false, false] rfl rfl (any_of HT_.out (by kernel_rfl)) (fun _ _ _ h => h) (Or.inl ⟨by rfl, ?_⟩) ?_ ?_
         rotate_left
         ·intro w'
          go_simp
          with_reducible rfl
         rotate_left
         ·simp only [Act.put, List.setIfInBounds_toArray, List.set_cons_zero, List.set_cons_succ, i64_w, i32_w]
          rfl
         refine pure_ (i := 9) (N := some 37) (v := ?_) (a' := ?_) #[true, true, false, true, true, false, false, false, true, true, false, false, false, false] rfl rfl (any_of HT_.out (by kernel_rfl)) (fun _ _ _ h => h) (Or.inl ⟨by rfl, ?_⟩) ?_ ?_
         rotate_left
         ·intro w'
          go_simp
          with_reducible rfl
         rotate_left
         ·simp only [Act.put, List.setIfInBounds_toArray, List.set_cons_zero, List.set_cons_succ, i64_w, i32_w]
          rfl
         refine pure_ (i := 10) (N := some 38) (v := ?_) (a' := ?_) #[true, true, false, true, true, false, false, false, true, true, true, false, false, false] rfl rfl (any_of HT_.out (by kernel_rfl)) (fun _ _ _ h => h) (Or.inl ⟨by rfl, ?_⟩) ?_ ?_
         rotate_left
         ·intro w'
          go_simp
          with_reducible rfl
         rotate_left
         ·simp only [Act.put, List.setIfInBounds_toArray, List.set_cons_zero, List.set_cons_succ, i64_w, i32_w]
          rfl
         refine take_ (i := 2) (N := some 30) (v := ?_) (a' := ?_) #[true, true, true, true, true, false, false, false, true, true, true, false, false, false] rfl rfl (take_ofW HT_.out HW_.out (by kernel_rfl)) (fun _ _ _ h => h) (Or.inl ⟨by rfl, ?_⟩) hHeld ?_ ?_
         rotate_left
         ·rintro w' ⟨s0, s1, s2, s3, s4, s5, s6, s7, s8, s9, s10, s11, s12, s13, s14⟩
          go_simp
          with_reducible rfl
         rotate_left
         ·simp only [Act.put, List.setIfInBounds_toArray, List.set_cons_zero, List.set_cons_succ, i64_w, i32_w]
          rfl
         refine take_ (i := 5) (N := some 33) (v := ?_) (a' := ?_) #[true, true, true, true, true, true, false, false, true, true, true, false, false, false] rfl rfl (take_ofW HT_.out HW_.out (by kernel_rfl)) (fun _ _ _ h => h) (Or.inl ⟨by rfl, ?_⟩) hHeld ?_ ?_
         rotate_left
         ·rintro w' ⟨s0, s1, s2, s3, s4, s5, s6, s7, s8, s9, s10, s11, s12, s13, s14⟩
          go_simp
          with_reducible rfl
         rotate_left
         ·simp only [Act.put, List.setIfInBounds_toArray, List.set_cons_zero, List.set_cons_succ, i64_w, i32_w]
          rfl
         refine pure_ (i := 6) (N := some 34) (v := ?_) (a' := ?_) #[true, true, true, true, true, true, true, false, true, true, true, false, false, false] rfl rfl (any_of HT_.out (by kernel_rfl)) (fun _ _ _ h => h) (Or.inl ⟨by rfl, ?_⟩) ?_ ?_
         rotate_left
         ·intro w'
          go_simp
          with_reducible rfl
         rotate_left
         ·simp only [Act.put, List.setIfInBounds_toArray, List.set_cons_zero, List.set_cons_succ, i64_w, i32_w]
          rfl
         refine take_ (i := 7) (N := some 35) (v := ?_) (a' := ?_) #[true, true, true, true, true, true, true, true, true, true, true, false, false, false] rfl rfl (take_ofW HT_.out HW_.out (by kernel_rfl)) (fun _ _ _ h => h) (Or.inl ⟨by rfl, ?_⟩) hHeld ?_ ?_
         rotate_left
         ·rintro w' ⟨s0, s1, s2, s3, s4, s5, s6, s7, s8, s9, s10, s11, s12, s13, s14⟩
          go_simp
          with_reducible rfl
         rotate_left
         ·simp only [Act.put, List.setIfInBounds_toArray, List.set_cons_zero, List.set_cons_succ, i64_w, i32_w]
          rfl
         refine one_ (i := 11) (N := some 39) #[true, true, true, true, true, true, true, true, true, true, true, true, false, false] rfl rfl (one_of HT_.out (by kernel_rfl)) (by decide) (fun K hK => ?_)
         refine goes_ Try.func101 (by kernel_rfl) rfl #[.agg #[.int .u8 ((rd_T26 l0_6 (rd l2 0)).f0), .int .i64 ((rd_T26 l0_6 (rd l2 0)).f1.f0), .int .i64 ((rd_T26 l0_6 (rd l2 0)).f1.f1), .int .i64 ((rd_T26 l0_6 (rd l2 0)).f1.f2), .int .i64 ((rd_T26 l0_6 (rd l2 0)).f1.f3), .int .i64 ((rd_T26 l0_6 (rd l2 0)).f2), .slice A1070_6 ((rd_T26 l0_6 (rd l2 0)).f3).length c1070_6], .int .u8 a1, .slice A28 (l2.drop 1).length (c2 - 1)] (by rfl) rfl rfl (by (try simp only [List.map_toArray, List.map_cons, List.map_nil]); first | done | (rw [show (l2.drop 1).length = (l2.length - 1) from List.length_drop] <;> rfl) | rfl | (simp only [List.length_drop, List.length_take]; rfl)) ?_
         with_reducible refine (ih k (by omega) ((rd_T26 l0_6 (rd l2 0)).f0) ((rd_T26 l0_6 (rd l2 0)).f1.f0) ((rd_T26 l0_6 (rd l2 0)).f1.f1) ((rd_T26 l0_6 (rd l2 0)).f1.f2) ((rd_T26 l0_6 (rd l2 0)).f1.f3) ((rd_T26 l0_6 (rd l2 0)).f2) _ _ ((rd_T26 l0_6 (rd l2 0)).f3) a1 _ _ (l2.drop 1) t1072 _ ?side1 ?side2 ?side3 ?side4 A22.out).mono ?_
         (case side1 => repeat (first | exact (Kd.C_below HR1070_6.out HB.out) | (with_reducible refine Kd.C_alloc ?_ _) | (with_reducible refine Kd.C_drewN ?_ _) | (with_reducible refine Kd.C_drew ?_)))
         (case side2 => exact HC1070_6.out)
         (case side3 => repeat (first | exact (Kd.C_below HR1071.out HB.out) | (with_reducible refine Kd.C_alloc ?_ _) | (with_reducible refine Kd.C_drewN ?_ _) | (with_reducible refine Kd.C_drew ?_)))
         (case side4 => exact HC1071.out)
         rintro e w29 ⟨rfl, hb⟩
         refine ⟨_, rfl, ?_⟩
         have n0_ := Aside0.mk (blk_below (g := gb1065) (o := .cells #[.int .u8 a0_0, .int .i64 a0_1, .int .i64 a0_2, .int .i64 a0_3, .int .i64 a0_4, .int .i64 a0_5, .slice (some ad1070) l0_6.length c0_6] 26 (0, 0)) (by (with_reducible repeat (first | refine blk_drewN ?_ _ | refine blk_drew ?_ | refine blk_alloc ?_ _)); exact BK1065.out) hb)
         have n1_ := Aside0.mk (below_step (by repeat (first | (with_reducible first | exact HB.out | apply below_alloc | apply pw_below_drewN | apply below_drew1 | refine below_set ?_ GE1065.out) | exact HB.out)) hb)
         clear BK1065
         clear HB
         have BK1065 := n0_
         have HB := n1_
         clear n0_ n1_
         (try clear hb)
         (try clear hb2)
         (try clear hk)
         (try clear hi)
         refine hK.out _ _ ⟨(blk_cell BK1065.out 0).trans rfl, (blk_cell BK1065.out 1).trans rfl, (blk_cell BK1065.out 2).trans rfl, (blk_cell BK1065.out 3).trans rfl, (blk_cell BK1065.out 4).trans rfl, (blk_cell BK1065.out 5).trans rfl, (blk_cell BK1065.out 6).trans rfl, ((HB.out.cell (World.block_lt_of_cell? w _ hw1069_0)).trans hw1069_0), ((HB.out.cell (World.block_lt_of_cell? w _ hw1070_0)).trans hw1070_0), ((HB.out.cell (World.block_lt_of_cell? w _ hw1070_1)).trans hw1070_1), ((HB.out.cell (World.block_lt_of_cell? w _ hw1070_2)).trans hw1070_2), ((HB.out.cell (World.block_lt_of_cell? w _ hw1070_3)).trans hw1070_3), ((HB.out.cell (World.block_lt_of_cell? w _ hw1070_4)).trans hw1070_4), ((HB.out.cell (World.block_lt_of_cell? w _ hw1070_5)).trans hw1070_5), ((HB.out.cell (World.block_lt_of_cell? w _ hw1070_6)).trans hw1070_6)⟩ (fun hHeld => ?_)
         clear hK K
         refine norm_ (a' := ?_) ?_ ?_
         rotate_left
         ·show Act.put _ (some 39) _ = _
          simp only [Act.put, List.setIfInBounds_toArray, List.set_cons_zero, List.set_cons_succ, i64_w, i32_w]
          rfl
         refine pure_ (i := 12) (N := some 40) (v := ?_) (a' := ?_) #[true, true, true, true, true, true, true, true, true, true, true, true, true, false] rfl rfl (any_of HT_.out (by kernel_rfl)) (fun _ _ _ h => h) (Or.inl ⟨by rfl, ?_⟩) ?_ ?_
         rotate_left
         ·intro w'
          go_simp
          with_reducible rfl
         rotate_left
         ·simp only [Act.put, List.setIfInBounds_toArray, List.set_cons_zero, List.set_cons_succ, i64_w, i32_w]
          rfl
         refine pure_ (i := 13) (N := some 6) (v := ?_) (a' := ?_) #[true, true, true, true, true, true, true, true, true, true, true, true, true, true] rfl rfl (any_of HT_.out (by kernel_rfl)) (fun _ _ _ h => h) (Or.inl ⟨by rfl, ?_⟩) ?_ ?_
         rotate_left
         ·intro w'
          go_simp
          with_reducible rfl
         rotate_left
         ·simp only [Act.put, List.setIfInBounds_toArray, List.set_cons_zero, List.set_cons_succ, i64_w, i32_w]
          rfl
         refine done_ (done_of HT_.out (by kernel_rfl)) ?_
         try go_wp2
         go_ret
         exact ⟨by first | rfl | (simp [errW_none, errW_some] <;> rfl) | (simp [*, errW_none, errW_some] <;> rfl), by repeat (first | (with_reducible first | exact HB.out | apply below_alloc | apply pw_below_drewN | apply below_drew1 | refine below_set ?_ GE1065.out) | exact HB.out)⟩
        ·rw [if_neg c21] at H
         exact absurd H (by simp)
       ·rw [if_neg c20] at H
        exact absurd H (by simp)
      ·rw [if_neg c19] at H
       exact absurd H (by simp)
   ·rw [if_neg c8] at H
    exact absurd H (by simp)
  ·replace c7 := Bool.eq_false_iff.mpr c7
   subst c7
   have H1 : (if 0 < (l2.length : Int) then (if (rd l2 0) < 0 then (some 0) else (if (rd l2 0) ≥ (l0_6.length : Int) then (some 0) else (if 0 ≤ (rd l2 0) then (if (rd l2 0) < (l0_6.length : Int) then (if 1 ≤ (l2.length : Int) then ((sashref08_Path.f k ((rd_T26 l0_6 (rd l2 0)).f0) ((rd_T26 l0_6 (rd l2 0)).f1.f0) ((rd_T26 l0_6 (rd l2 0)).f1.f1) ((rd_T26 l0_6 (rd l2 0)).f1.f2) ((rd_T26 l0_6 (rd l2 0)).f1.f3) ((rd_T26 l0_6 (rd l2 0)).f2) ((rd_T26 l0_6 (rd l2 0)).f3) a1 (l2.drop 1)).bind fun t1078 => (some (wrap64 (0 + t1078)))) else (none)) else (none)) else (none)))) else (none)) = some r := by rw [if_neg (show ¬ (false = true) by decide)] at H; exact H
   clear H
   have H := H1
   clear H1
   by_cases c30 : 0 < (l2.length : Int)
   ·rw [if_pos c30] at H
    have c30b0 : decide (0 < (l2.length : Int)) = true := decide_eq_true c30
    have c30b1 : decide (0 < l2.length) = true := decide_eq_true (by omega)
    clear c30
    by_cases c31 : (rd l2 0) < 0
    ·rw [if_pos c31] at H
     have c31b0 : decide ((rd l2 0) < 0) = true := decide_eq_true c31
     clear c31
     obtain rfl := Option.some.inj H
     go_enter Try.func101, Try.ntmps101
     try go_wp2_with (first | ((with_reducible refine gate_dst (N := 3) rfl ?_); (try (refine gate_guard (by rfl) ?_; dsimp only)); refine box_event ?hg (N := 3) ?hd (cs := #[.int .u8 a0_0, .int .i64 a0_1, .int .i64 a0_2, .int .i64 a0_3, .int .i64 a0_4, .int .i64 a0_5, .slice A0_6 l0_6.length c0_6]) (t := 26) ?hr ?_; (case hd => rfl); (case hg => rfl); (case hr => first | (go_simp; done) | (go_simp; rfl)); intro gb1065 hg w32 hbox hb; have n0_ := Aside0.mk (below_step (by repeat (first | (with_reducible first | exact HB.out | apply below_alloc | apply pw_below_drewN | apply below_drew1) | exact HB.out)) hb); have n1_ := Aside0.mk (hbox); have n2_ := Aside0.mk ((by rw [hg]; exact (below_size (by repeat (first | (with_reducible first | exact HB.out | apply below_alloc | apply pw_below_drewN | apply below_drew1) | exact HB.out))) : w.heap.size ≤ gb1065)); have n3_ := Aside0.mk ((by rw [hg]; exact (below_size (by repeat (first | (with_reducible first | exact HB.out | apply below_alloc | apply pw_below_drewN | apply below_drew1) | exact HB.out))) : w.heap.size ≤ gb1065)); clear HB; have HB := n0_; have BK1065 := n1_; have GW1065 := n2_; have GE1065 := n3_; clear n0_ n1_ n2_ n3_; clear hb hbox hg; have hcz33_0 : w32.cell? ⟨gb1065, 0, none⟩ = some (.int .u8 a0_0) := (blk_cell BK1065.out 0).trans rfl; have hcz33_1 : w32.cell? ⟨gb1065, 1, none⟩ = some (.int .i64 a0_1) := (blk_cell BK1065.out 1).trans rfl; have hcz33_2 : w32.cell? ⟨gb1065, 2, none⟩ = some (.int .i64 a0_2) := (blk_cell BK1065.out 2).trans rfl; have hcz33_3 : w32.cell? ⟨gb1065, 3, none⟩ = some (.int .i64 a0_3) := (blk_cell BK1065.out 3).trans rfl; have hcz33_4 : w32.cell? ⟨gb1065, 4, none⟩ = some (.int .i64 a0_4) := (blk_cell BK1065.out 4).trans rfl; have hcz33_5 : w32.cell? ⟨gb1065, 5, none⟩ = some (.int .i64 a0_5) := (blk_cell BK1065.out 5).trans rfl; have hcz33_6 : w32.cell? ⟨gb1065, 6, none⟩ = some (.slice A0_6 l0_6.length c0_6) := (blk_cell BK1065.out 6).trans rfl; have hfz33_0 := blk_frozen BK1065.out 0; have hfz33_1 := blk_frozen BK1065.out 1; have hfz33_2 := blk_frozen BK1065.out 2; have hfz33_3 := blk_frozen BK1065.out 3; have hfz33_4 := blk_frozen BK1065.out 4; have hfz33_5 := blk_frozen BK1065.out 5; have hfz33_6 := blk_frozen BK1065.out 6) | ((with_reducible refine gate_callee (f := 88) rfl ?_); refine goesL_ (some 13) rfl rfl Try.func88 (by kernel_rfl) rfl #[.agg #[.int .u8 a0_0, .int .i64 a0_1, .int .i64 a0_2, .int .i64 a0_3, .int .i64 a0_4, .int .i64 a0_5, .slice A0_6 l0_6.length c0_6], .int .u8 a1] rfl (by (try simp only [List.map_toArray, List.map_cons, List.map_nil]); first | done | rfl | (simp only [List.length_drop, List.length_take]; rfl)) ?_; (with_reducible refine (sashref08_Along.calls a0_0 a0_1 a0_2 a0_3 a0_4 a0_5 _ _ l0_6 a1 false _ ?side1 ?side2 A6.out).mono ?_); (case side1 => repeat (first | exact (Kd.C_below HR0_6.out HB.out) | (with_reducible refine Kd.C_alloc ?_ _) | (with_reducible refine Kd.C_drewN ?_ _) | (with_reducible refine Kd.C_drew ?_))); (case side2 => exact HC0_6.out); rintro e w34 ⟨rfl, hb⟩; refine ⟨_, rfl, ?_⟩; have n0_ := Aside0.mk (blk_below (g := gb1065) (o := .cells #[.int .u8 a0_0, .int .i64 a0_1, .int .i64 a0_2, .int .i64 a0_3, .int .i64 a0_4, .int .i64 a0_5, .slice A0_6 l0_6.length c0_6] 26 (0, 0)) (by (with_reducible repeat (first | refine blk_drewN ?_ _ | refine blk_drew ?_ | refine blk_alloc ?_ _)); exact BK1065.out) hb); have n1_ := Aside0.mk (below_step (by repeat (first | (with_reducible first | exact HB.out | apply below_alloc | apply pw_below_drewN | apply below_drew1 | refine below_set ?_ GE1065.out) | exact HB.out)) hb); clear BK1065; clear HB; have BK1065 := n0_; have HB := n1_; clear n0_ n1_; (try clear hb); (try clear hb2); (try clear hk); (try clear hi)))
     have n0_ := Aside0.mk (blk_drew BK1065.out)
     have n1_ := Aside0.mk (below_drew1 HB.out)
     clear BK1065
     clear HB
     have BK1065 := n0_
     have HB := n1_
     clear n0_ n1_
     have p1073 : 0 ≤ (0 : Int) := (by omega)
     have q1073 : 0 < (l2.length : Int) := of_decide_eq_true (by first | (with_reducible assumption) | assumption)
     obtain ⟨ad1073, e1073, hx1073_0⟩ := Kd.at_int HR2.out 0 p1073 q1073
     have hw1073_0 := hx1073_0
     (try rw [show ((0 : Int)).toNat = 0 from rfl] at hw1073_0)
     (try rw [show 0 * 1 = 0 from rfl] at hw1073_0)
     (try rw [Addr.add_zero'] at hw1073_0)
     cases e1073
     have qi1073 : (0 < l2.length) = True := eq_true (by omega)
     (try rw [show ((0 : Int)).toNat = 0 from rfl] at hx1073_0)
     (try rw [Addr.add_zero'] at hx1073_0)
     replace hx1073_0 := (HB.out.cell (World.block_lt_of_cell? w _ hx1073_0)).trans hx1073_0
     replace p1073 := eq_true p1073
     replace q1073 := eq_true q1073
     refine start_ (n := 13) (S := fun w' => w'.cell? ad1073 = some (.int .i64 (rd l2 0))) (ds := []) #[false, false, false, false, false, false, false, false, false, false, false, false, false] (by kernel_rfl) rfl rfl (((HB.out.cell (World.block_lt_of_cell? w _ hw1073_0)).trans hw1073_0)) (fun hHeld => ?_); refine with_tabW sashref08_Path.tab6 sashref08_Path.bits6 (fun HT_ HW_ => ?_)
     generalize w34.drew = w35 at BK1065 HB hx1073_0 hHeld ⊢
     refine pure_ (i := 0) (N := some 14) (v := ?_) (a' := ?_) #[true, false, false, false, false, false, false, false, false, false, false, false, false] rfl rfl (any_of HT_.out (by kernel_rfl)) (fun _ _ _ h => h) (Or.inl ⟨by rfl, ?_⟩) ?_ ?_
     rotate_left
     ·intro w'
      go_simp
      with_reducible rfl
     rotate_left
     ·simp only [Act.put, List.setIfInBounds_toArray, List.set_cons_zero, List.set_cons_succ, i64_w, i32_w]
      rfl
     refine pure_ (i := 1) (N := some 15) (v := ?_) (a' := ?_) #[true, true, false, false, false, false, false, false, false, false, false, false, false] rfl rfl (any_of HT_.out (by kernel_rfl)) (fun _ _ _ h => h) (Or.inl ⟨by rfl, ?_⟩) ?_ ?_
     rotate_left
     ·intro w'
      go_simp
      with_reducible rfl
     rotate_left
     ·simp only [Act.put, List.setIfInBounds_toArray, List.set_cons_zero, List.set_cons_succ, i64_w, i32_w]
      rfl
     refine take_ (i := 2) (N := some 16) (v := ?_) (a' := ?_) #[true, true, true, false, false, false, false, false, false, false, false, false, false] rfl rfl (take_ofW HT_.out HW_.out (by kernel_rfl)) (fun _ _ _ h => h) (Or.inl ⟨by rfl, ?_⟩) hHeld ?_ ?_
     rotate_left
     ·intro w' s0
      go_simp
      with_reducible rfl
     rotate_left
     ·simp only [Act.put, List.setIfInBounds_toArray, List.set_cons_zero, List.set_cons_succ, i64_w, i32_w]
      rfl
     refine pure_ (i := 3) (N := some 17) (v := ?_) (a' := ?_) #[true, true, true, true, false, false, false, false, false, false, false, false, false] rfl rfl (any_of HT_.out (by kernel_rfl)) (fun _ _ _ h => h) (Or.inl ⟨by rfl, ?_⟩) ?_ ?_
     rotate_left
     ·intro w'
      go_simp
      with_reducible rfl
     rotate_left
     ·simp only [Act.put, List.setIfInBounds_toArray, List.set_cons_zero, List.set_cons_succ, i64_w, i32_w]
      rfl
     refine pure_ (i := 4) (N := some 18) (v := ?_) (a' := ?_) #[true, true, true, true, true, false, false, false, false, false, false, false, false] rfl rfl (any_of HT_.out (by kernel_rfl)) (fun _ _ _ h => h) (Or.inl ⟨by rfl, ?_⟩) ?_ ?_
     rotate_left
     ·intro w'
      go_simp
      with_reducible rfl
     rotate_left
     ·simp only [Act.put, List.setIfInBounds_toArray, List.set_cons_zero, List.set_cons_succ, i64_w, i32_w]
      rfl
     refine pure_ (i := 5) (N := some 19) (v := undef) (a' := ?_) #[true, true, true, true, true, true, false, false, false, false, false, false, false] rfl rfl (any_of HT_.out (by kernel_rfl)) (fun _ _ _ h => h) (Or.inr ⟨by rfl, rfl⟩) ?_ ?_
     rotate_left
     ·simp only [Act.put, List.setIfInBounds_toArray, List.set_cons_zero, List.set_cons_succ, i64_w, i32_w]
      rfl
     refine pure_ (i := 6) (N := some 20) (v := undef) (a' := ?_) #[true, true, true, true, true, true, true, false, false, false, false, false, false] rfl rfl (any_of HT_.out (by kernel_rfl)) (fun _ _ _ h => h) (Or.inr ⟨by rfl, rfl⟩) ?_ ?_
     rotate_left
     ·simp only [Act.put, List.setIfInBounds_toArray, List.set_cons_zero, List.set_cons_succ, i64_w, i32_w]
      rfl
     refine pure_ (i := 7) (N := some 21) (v := undef) (a' := ?_) #[true, true, true, true, true, true, true, true, false, false, false, false, false] rfl rfl (any_of HT_.out (by kernel_rfl)) (fun _ _ _ h => h) (Or.inr ⟨by rfl, rfl⟩) ?_ ?_
     rotate_left
     ·simp only [Act.put, List.setIfInBounds_toArray, List.set_cons_zero, List.set_cons_succ, i64_w, i32_w]
      rfl
     refine pure_ (i := 8) (N := some 22) (v := undef) (a' := ?_) #[true, true, true, true, true, true, true, true, true, false, false, false, false] rfl rfl (any_of HT_.out (by kernel_rfl)) (fun _ _ _ h => h) (Or.inr ⟨by rfl, rfl⟩) ?_ ?_
     rotate_left
     ·simp only [Act.put, List.setIfInBounds_toArray, List.set_cons_zero, List.set_cons_succ, i64_w, i32_w]
      rfl
     refine pure_ (i := 9) (N := some 23) (v := undef) (a' := ?_) #[true, true, true, true, true, true, true, true, true, true, false, false, false] rfl rfl (any_of HT_.out (by kernel_rfl)) (fun _ _ _ h => h) (Or.inr ⟨by rfl, rfl⟩) ?_ ?_
     rotate_left
     ·simp only [Act.put, List.setIfInBounds_toArray, List.set_cons_zero, List.set_cons_succ, i64_w, i32_w]
      rfl
     refine pure_ (i := 10) (N := some 24) (v := undef) (a' := ?_) #[true, true, true, true, true, true, true, true, true, true, true, false, false] rfl rfl (any_of HT_.out (by kernel_rfl)) (fun _ _ _ h => h) (Or.inr ⟨by rfl, rfl⟩) ?_ ?_
     rotate_left
     ·simp only [Act.put, List.setIfInBounds_toArray, List.set_cons_zero, List.set_cons_succ, i64_w, i32_w]
      rfl
     refine pure_ (i := 11) (N := some 25) (v := undef) (a' := ?_) #[true, true, true, true, true, true, true, true, true, true, true, true, false] rfl rfl (any_of HT_.out (by kernel_rfl)) (fun _ _ _ h => h) (Or.inr ⟨by rfl, rfl⟩) ?_ ?_
     rotate_left
     ·simp only [Act.put, List.setIfInBounds_toArray, List.set_cons_zero, List.set_cons_succ, i64_w, i32_w]
      rfl
     refine pure_ (i := 12) (N := some 26) (v := ?_) (a' := ?_) #[true, true, true, true, true, true, true, true, true, true, true, true, true] rfl rfl (any_of HT_.out (by kernel_rfl)) (fun _ _ _ h => h) (Or.inl ⟨by rfl, ?_⟩) ?_ ?_
     rotate_left
     ·intro w'
      go_simp
      with_reducible rfl
     rotate_left
     ·simp only [Act.put, List.setIfInBounds_toArray, List.set_cons_zero, List.set_cons_succ, i64_w, i32_w]
      rfl
     refine done_ (done_of HT_.out (by kernel_rfl)) ?_
     try go_wp2
     go_ret
     exact ⟨by first | rfl | (simp [errW_none, errW_some] <;> rfl) | (simp [*, errW_none, errW_some] <;> rfl), by repeat (first | (with_reducible first | exact HB.out | apply below_alloc | apply pw_below_drewN | apply below_drew1 | refine below_set ?_ GE1065.out) | exact HB.out)⟩
    ·rw [if_neg c31] at H
     have c31b0 : decide ((rd l2 0) < 0) = false := decide_eq_false c31
     clear c31
     by_cases c36 : (rd l2 0) ≥ (l0_6.length : Int)
     ·rw [if_pos c36] at H
      have c36b0 : decide ((l0_6.length : Int) ≤ (rd l2 0)) = true := decide_eq_true c36
      clear c36
      obtain rfl := Option.some.inj H
      go_enter Try.func101, Try.ntmps101
      try go_wp2_with (first | ((with_reducible refine gate_dst (N := 3) rfl ?_); (try (refine gate_guard (by rfl) ?_; dsimp only)); refine box_event ?hg (N := 3) ?hd (cs := #[.int .u8 a0_0, .int .i64 a0_1, .int .i64 a0_2, .int .i64 a0_3, .int .i64 a0_4, .int .i64 a0_5, .slice A0_6 l0_6.length c0_6]) (t := 26) ?hr ?_; (case hd => rfl); (case hg => rfl); (case hr => first | (go_simp; done) | (go_simp; rfl)); intro gb1065 hg w37 hbox hb; have n0_ := Aside0.mk (below_step (by repeat (first | (with_reducible first | exact HB.out | apply below_alloc | apply pw_below_drewN | apply below_drew1) | exact HB.out)) hb); have n1_ := Aside0.mk (hbox); have n2_ := Aside0.mk ((by rw [hg]; exact (below_size (by repeat (first | (with_reducible first | exact HB.out | apply below_alloc | apply pw_below_drewN | apply below_drew1) | exact HB.out))) : w.heap.size ≤ gb1065)); have n3_ := Aside0.mk ((by rw [hg]; exact (below_size (by repeat (first | (with_reducible first | exact HB.out | apply below_alloc | apply pw_below_drewN | apply below_drew1) | exact HB.out))) : w.heap.size ≤ gb1065)); clear HB; have HB := n0_; have BK1065 := n1_; have GW1065 := n2_; have GE1065 := n3_; clear n0_ n1_ n2_ n3_; clear hb hbox hg; have hcz38_0 : w37.cell? ⟨gb1065, 0, none⟩ = some (.int .u8 a0_0) := (blk_cell BK1065.out 0).trans rfl; have hcz38_1 : w37.cell? ⟨gb1065, 1, none⟩ = some (.int .i64 a0_1) := (blk_cell BK1065.out 1).trans rfl; have hcz38_2 : w37.cell? ⟨gb1065, 2, none⟩ = some (.int .i64 a0_2) := (blk_cell BK1065.out 2).trans rfl; have hcz38_3 : w37.cell? ⟨gb1065, 3, none⟩ = some (.int .i64 a0_3) := (blk_cell BK1065.out 3).trans rfl; have hcz38_4 : w37.cell? ⟨gb1065, 4, none⟩ = some (.int .i64 a0_4) := (blk_cell BK1065.out 4).trans rfl; have hcz38_5 : w37.cell? ⟨gb1065, 5, none⟩ = some (.int .i64 a0_5) := (blk_cell BK1065.out 5).trans rfl; have hcz38_6 : w37.cell? ⟨gb1065, 6, none⟩ = some (.slice A0_6 l0_6.length c0_6) := (blk_cell BK1065.out 6).trans rfl; have hfz38_0 := blk_frozen BK1065.out 0; have hfz38_1 := blk_frozen BK1065.out 1; have hfz38_2 := blk_frozen BK1065.out 2; have hfz38_3 := blk_frozen BK1065.out 3; have hfz38_4 := blk_frozen BK1065.out 4; have hfz38_5 := blk_frozen BK1065.out 5; have hfz38_6 := blk_frozen BK1065.out 6) | ((with_reducible refine gate_callee (f := 88) rfl ?_); refine goesL_ (some 13) rfl rfl Try.func88 (by kernel_rfl) rfl #[.agg #[.int .u8 a0_0, .int .i64 a0_1, .int .i64 a0_2, .int .i64 a0_3, .int .i64 a0_4, .int .i64 a0_5, .slice A0_6 l0_6.length c0_6], .int .u8 a1] rfl (by (try simp only [List.map_toArray, List.map_cons, List.map_nil]); first | done | rfl | (simp only [List.length_drop, List.length_take]; rfl)) ?_; (with_reducible refine (sashref08_Along.calls a0_0 a0_1 a0_2 a0_3 a0_4 a0_5 _ _ l0_6 a1 false _ ?side1 ?side2 A6.out).mono ?_); (case side1 => repeat (first | exact (Kd.C_below HR0_6.out HB.out) | (with_reducible refine Kd.C_alloc ?_ _) | (with_reducible refine Kd.C_drewN ?_ _) | (with_reducible refine Kd.C_drew ?_))); (case side2 => exact HC0_6.out); rintro e w39 ⟨rfl, hb⟩; refine ⟨_, rfl, ?_⟩; have n0_ := Aside0.mk (blk_below (g := gb1065) (o := .cells #[.int .u8 a0_0, .int .i64 a0_1, .int .i64 a0_2, .int .i64 a0_3, .int .i64 a0_4, .int .i64 a0_5, .slice A0_6 l0_6.length c0_6] 26 (0, 0)) (by (with_reducible repeat (first | refine blk_drewN ?_ _ | refine blk_drew ?_ | refine blk_alloc ?_ _)); exact BK1065.out) hb); have n1_ := Aside0.mk (below_step (by repeat (first | (with_reducible first | exact HB.out | apply below_alloc | apply pw_below_drewN | apply below_drew1 | refine below_set ?_ GE1065.out) | exact HB.out)) hb); clear BK1065; clear HB; have BK1065 := n0_; have HB := n1_; clear n0_ n1_; (try clear hb); (try clear hb2); (try clear hk); (try clear hi)))
      have n0_ := Aside0.mk (blk_drew BK1065.out)
      have n1_ := Aside0.mk (below_drew1 HB.out)
      clear BK1065
      clear HB
      have BK1065 := n0_
      have HB := n1_
      clear n0_ n1_
      have p1073 : 0 ≤ (0 : Int) := (by omega)
      have q1073 : 0 < (l2.length : Int) := of_decide_eq_true (by first | (with_reducible assumption) | assumption)
      obtain ⟨ad1073, e1073, hx1073_0⟩ := Kd.at_int HR2.out 0 p1073 q1073
      have hw1073_0 := hx1073_0
      (try rw [show ((0 : Int)).toNat = 0 from rfl] at hw1073_0)
      (try rw [show 0 * 1 = 0 from rfl] at hw1073_0)
      (try rw [Addr.add_zero'] at hw1073_0)
      cases e1073
      have qi1073 : (0 < l2.length) = True := eq_true (by omega)
      (try rw [show ((0 : Int)).toNat = 0 from rfl] at hx1073_0)
      (try rw [Addr.add_zero'] at hx1073_0)
      replace hx1073_0 := (HB.out.cell (World.block_lt_of_cell? w _ hx1073_0)).trans hx1073_0
      replace p1073 := eq_true p1073
      replace q1073 := eq_true q1073
      have p1074 : 0 ≤ (0 : Int) := (by omega)
      have q1074 : 0 < (l2.length : Int) := of_decide_eq_true (by first | (with_reducible assumption) | assumption)
      obtain ⟨ad1074, e1074, hx1074_0⟩ := Kd.at_int HR2.out 0 p1074 q1074
      have hw1074_0 := hx1074_0
      (try rw [show ((0 : Int)).toNat = 0 from rfl] at hw1074_0)
      (try rw [show 0 * 1 = 0 from rfl] at hw1074_0)
      (try rw [Addr.add_zero'] at hw1074_0)
      obtain rfl : ad1073 = ad1074 := (by injection e1074)
      have qi1074 : (0 < l2.length) = True := eq_true (by omega)
      (try rw [show ((0 : Int)).toNat = 0 from rfl] at hx1074_0)
      (try rw [Addr.add_zero'] at hx1074_0)
      replace hx1074_0 := (HB.out.cell (World.block_lt_of_cell? w _ hx1074_0)).trans hx1074_0
      replace p1074 := eq_true p1074
      replace q1074 := eq_true q1074
      refine start_ (n := 13) (S := fun w' => w'.cell? ⟨gb1065, 0, none⟩ = some (.int .u8 a0_0) ∧ w'.cell? ⟨gb1065, 1, none⟩ = some (.int .i64 a0_1) ∧ w'.cell? ⟨gb1065, 2, none⟩ = some (.int .i64 a0_2) ∧ w'.cell? ⟨gb1065, 3, none⟩ = some (.int .i64 a0_3) ∧ w'.cell? ⟨gb1065, 4, none⟩ = some (.int .i64 a0_4) ∧ w'.cell? ⟨gb1065, 5, none⟩ = some (.int .i64 a0_5) ∧ w'.cell? ⟨gb1065, 6, none⟩ = some (.slice A0_6 l0_6.length c0_6) ∧ w'.cell? ad1073 = some (.int .i64 (rd l2 0)) ∧ w'.cell? ad1073 = some (.int .i64 (rd l2 0))) (ds := []) #[false, false, false, false, false, false, false, false, false, false, false, false, false] (by kernel_rfl) rfl rfl ⟨(blk_cell BK1065.out 0).trans rfl, (blk_cell BK1065.out 1).trans rfl, (blk_cell BK1065.out 2).trans rfl, (blk_cell BK1065.out 3).trans rfl, (blk_cell BK1065.out 4).trans rfl, (blk_cell BK1065.out 5).trans rfl, (blk_cell BK1065.out 6).trans rfl, ((HB.out.cell (World.block_lt_of_cell? w _ hw1073_0)).trans hw1073_0), ((HB.out.cell (World.block_lt_of_cell? w _ hw1074_0)).trans hw1074_0)⟩ (fun hHeld => ?_); refine with_tabW sashref08_Path.tab6 sashref08_Path.bits6 (fun HT_ HW_ => ?_)
      generalize w39.drew = w40 at BK1065 HB hx1073_0 hx1074_0 hHeld ⊢
      refine pure_ (i := 0) (N := some 14) (v := ?_) (a' := ?_) #[true, false, false, false, false, false, false, false, false, false, false, false, false] rfl rfl (any_of HT_.out (by kernel_rfl)) (fun _ _ _ h => h) (Or.inl ⟨by rfl, ?_⟩) ?_ ?_
      rotate_left
      ·intro w'
       go_simp
       with_reducible rfl
      rotate_left
      ·simp only [Act.put, List.setIfInBounds_toArray, List.set_cons_zero, List.set_cons_succ, i64_w, i32_w]
       rfl
      refine pure_ (i := 1) (N := some 15) (v := ?_) (a' := ?_) #[true, true, false, false, false, false, false, false, false, false, false, false, false] rfl rfl (any_of HT_.out (by kernel_rfl)) (fun _ _ _ h => h) (Or.inl ⟨by rfl, ?_⟩) ?_ ?_
      rotate_left
      ·intro w'
       go_simp
       with_reducible rfl
      rotate_left
      ·simp only [Act.put, List.setIfInBounds_toArray, List.set_cons_zero, List.set_cons_succ, i64_w, i32_w]
       rfl
      refine take_ (i := 2) (N := some 16) (v := ?_) (a' := ?_) #[true, true, true, false, false, false, false, false, false, false, false, false, false] rfl rfl (take_ofW HT_.out HW_.out (by kernel_rfl)) (fun _ _ _ h => h) (Or.inl ⟨by rfl, ?_⟩) hHeld ?_ ?_
      rotate_left
      ·rintro w' ⟨s0, s1, s2, s3, s4, s5, s6, s7, s8⟩
       go_simp
       with_reducible rfl
      rotate_left
      ·simp only [Act.put, List.setIfInBounds_toArray, List.set_cons_zero, List.set_cons_succ, i64_w, i32_w]
       rfl
      refine pure_ (i := 3) (N := some 17) (v := ?_) (a' := ?_) #[true, true, true, true, false, false, false, false, false, false, false, false, false] rfl rfl (any_of HT_.out (by kernel_rfl)) (fun _ _ _ h => h) (Or.inl ⟨by rfl, ?_⟩) ?_ ?_
      rotate_left
      ·intro w'
       go_simp
       with_reducible rfl
      rotate_left
      ·simp only [Act.put, List.setIfInBounds_toArray, List.set_cons_zero, List.set_cons_succ, i64_w, i32_w]
       rfl
      refine pure_ (i := 4) (N := some 18) (v := ?_) (a' := ?_) #[true, true, true, true, true, false, false, false, false, false, false, false, false] rfl rfl (any_of HT_.out (by kernel_rfl)) (fun _ _ _ h => h) (Or.inl ⟨by rfl, ?_⟩) ?_ ?_
      rotate_left
      ·intro w'
       go_simp
       with_reducible rfl
      rotate_left
      ·simp only [Act.put, List.setIfInBounds_toArray, List.set_cons_zero, List.set_cons_succ, i64_w, i32_w]
       rfl
      refine pure_ (i := 5) (N := some 19) (v := ?_) (a' := ?_) #[true, true, true, true, true, true, false, false, false, false, false, false, false] rfl rfl (any_of HT_.out (by kernel_rfl)) (fun _ _ _ h => h) (Or.inl ⟨by rfl, ?_⟩) ?_ ?_
      rotate_left
      ·intro w'
       go_simp
       with_reducible rfl
      rotate_left
      ·simp only [Act.put, List.setIfInBounds_toArray, List.set_cons_zero, List.set_cons_succ, i64_w, i32_w]
       rfl
      refine pure_ (i := 6) (N := some 20) (v := ?_) (a' := ?_) #[true, true, true, true, true, true, true, false, false, false, false, false, false] rfl rfl (any_of HT_.out (by kernel_rfl)) (fun _ _ _ h => h) (Or.inl ⟨by rfl, ?_⟩) ?_ ?_
      rotate_left
      ·intro w'
       go_simp
       with_reducible rfl
      rotate_left
      ·simp only [Act.put, List.setIfInBounds_toArray, List.set_cons_zero, List.set_cons_succ, i64_w, i32_w]
       rfl
      refine pure_ (i := 8) (N := some 22) (v := ?_) (a' := ?_) #[true, true, true, true, true, true, true, false, true, false, false, false, false] rfl rfl (any_of HT_.out (by kernel_rfl)) (fun _ _ _ h => h) (Or.inl ⟨by rfl, ?_⟩) ?_ ?_
      rotate_left
      ·intro w'
       go_simp
       with_reducible rfl
      rotate_left
      ·simp only [Act.put, List.setIfInBounds_toArray, List.set_cons_zero, List.set_cons_succ, i64_w, i32_w]
       rfl
      refine take_ (i := 7) (N := some 21) (v := ?_) (a' := ?_) #[true, true, true, true, true, true, true, true, true, false, false, false, false] rfl rfl (take_ofW HT_.out HW_.out (by kernel_rfl)) (fun _ _ _ h => h) (Or.inl ⟨by rfl, ?_⟩) hHeld ?_ ?_
      rotate_left
      ·rintro w' ⟨s0, s1, s2, s3, s4, s5, s6, s7, s8⟩
       go_simp
       with_reducible rfl
      rotate_left
      ·simp only [Act.put, List.setIfInBounds_toArray, List.set_cons_zero, List.set_cons_succ, i64_w, i32_w]
       rfl
      refine take_ (i := 9) (N := some 23) (v := ?_) (a' := ?_) #[true, true, true, true, true, true, true, true, true, true, false, false, false] rfl rfl (take_ofW HT_.out HW_.out (by kernel_rfl)) (fun _ _ _ h => h) (Or.inl ⟨by rfl, ?_⟩) hHeld ?_ ?_
      rotate_left
      ·rintro w' ⟨s0, s1, s2, s3, s4, s5, s6, s7, s8⟩
       go_simp
       with_reducible rfl
      rotate_left
      ·simp only [Act.put, List.setIfInBounds_toArray, List.set_cons_zero, List.set_cons_succ, i64_w, i32_w]
       rfl
      refine pure_ (i := 10) (N := some 24) (v := ?_) (a' := ?_) #[true, true, true, true, true, true, true, true, true, true, true, false, false] rfl rfl (any_of HT_.out (by kernel_rfl)) (fun _ _ _ h => h) (Or.inl ⟨by rfl, ?_⟩) ?_ ?_
      rotate_left
      ·intro w'
       go_simp
       with_reducible rfl
      rotate_left
      ·simp only [Act.put, List.setIfInBounds_toArray, List.set_cons_zero, List.set_cons_succ, i64_w, i32_w]
       rfl
      refine pure_ (i := 11) (N := some 25) (v := ?_) (a' := ?_) #[true, true, true, true, true, true, true, true, true, true, true, true, false] rfl rfl (any_of HT_.out (by kernel_rfl)) (fun _ _ _ h => h) (Or.inl ⟨by rfl, ?_⟩) ?_ ?_
      rotate_left
      ·intro w'
       go_simp
       with_reducible rfl
      rotate_left
      ·simp only [Act.put, List.setIfInBounds_toArray, List.set_cons_zero, List.set_cons_succ, i64_w, i32_w]
       rfl
      refine pure_ (i := 12) (N := some 26) (v := ?_) (a' := ?_) #[true, true, true, true, true, true, true, true, true, true, true, true, true] rfl rfl (any_of HT_.out (by kernel_rfl)) (fun _ _ _ h => h) (Or.inl ⟨by rfl, ?_⟩) ?_ ?_
      rotate_left
      ·intro w'
       go_simp
       with_reducible rfl
      rotate_left
      ·simp only [Act.put, List.setIfInBounds_toArray, List.set_cons_zero, List.set_cons_succ, i64_w, i32_w]
       rfl
      refine done_ (done_of HT_.out (by kernel_rfl)) ?_
      try go_wp2
      go_ret
      exact ⟨by first | rfl | (simp [errW_none, errW_some] <;> rfl) | (simp [*, errW_none, errW_some] <;> rfl), by repeat (first | (with_reducible first | exact HB.out | apply below_alloc | apply pw_below_drewN | apply below_drew1 | refine below_set ?_ GE1065.out) | exact HB.out)⟩
     ·rw [if_neg c36] at H
      have c36b0 : decide ((l0_6.length : Int) ≤ (rd l2 0)) = false := decide_eq_false c36
      clear c36
      by_cases c41 : 0 ≤ (rd l2 0)
      ·rw [if_pos c41] at H
       have c41b0 : decide (0 ≤ (rd l2 0)) = true := decide_eq_true c41
       clear c41
       by_cases c42 : (rd l2 0) < (l0_6.length : Int)
       ·rw [if_pos c42] at H
        have c42b0 : decide ((rd l2 0) < (l0_6.length : Int)) = true := decide_eq_true c42
        clear c42
        by_cases c43 : 1 ≤ (l2.length : Int)
        ·rw [if_pos c43] at H
         have c43b0 := eq_true c43
         have c43b1 : decide (1 ≤ (l2.length : Int)) = true := decide_eq_true c43
         clear c43
         replace H := Option.bind_eq_some_iff.mp H
         obtain ⟨t1078, A440, H⟩ := H
         replace H : (some (wrap64 (0 + t1078))) = some r := H
         have A44 := Aside0.mk A440
         clear A440
         obtain rfl := Option.some.inj H
         go_enter Try.func101, Try.ntmps101
         try go_wp2_with (first | ((with_reducible refine gate_dst (N := 3) rfl ?_); (try (refine gate_guard (by rfl) ?_; dsimp only)); refine box_event ?hg (N := 3) ?hd (cs := #[.int .u8 a0_0, .int .i64 a0_1, .int .i64 a0_2, .int .i64 a0_3, .int .i64 a0_4, .int .i64 a0_5, .slice A0_6 l0_6.length c0_6]) (t := 26) ?hr ?_; (case hd => rfl); (case hg => rfl); (case hr => first | (go_simp; done) | (go_simp; rfl)); intro gb1065 hg w45 hbox hb; have n0_ := Aside0.mk (below_step (by repeat (first | (with_reducible first | exact HB.out | apply below_alloc | apply pw_below_drewN | apply below_drew1) | exact HB.out)) hb); have n1_ := Aside0.mk (hbox); have n2_ := Aside0.mk ((by rw [hg]; exact (below_size (by repeat (first | (with_reducible first | exact HB.out | apply below_alloc | apply pw_below_drewN | apply below_drew1) | exact HB.out))) : w.heap.size ≤ gb1065)); have n3_ := Aside0.mk ((by rw [hg]; exact (below_size (by repeat (first | (with_reducible first | exact HB.out | apply below_alloc | apply pw_below_drewN | apply below_drew1) | exact HB.out))) : w.heap.size ≤ gb1065)); clear HB; have HB := n0_; have BK1065 := n1_; have GW1065 := n2_; have GE1065 := n3_; clear n0_ n1_ n2_ n3_; clear hb hbox hg; have hcz46_0 : w45.cell? ⟨gb1065, 0, none⟩ = some (.int .u8 a0_0) := (blk_cell BK1065.out 0).trans rfl; have hcz46_1 : w45.cell? ⟨gb1065, 1, none⟩ = some (.int .i64 a0_1) := (blk_cell BK1065.out 1).trans rfl; have hcz46_2 : w45.cell? ⟨gb1065, 2, none⟩ = some (.int .i64 a0_2) := (blk_cell BK1065.out 2).trans rfl; have hcz46_3 : w45.cell? ⟨gb1065, 3, none⟩ = some (.int .i64 a0_3) := (blk_cell BK1065.out 3).trans rfl; have hcz46_4 : w45.cell? ⟨gb1065, 4, none⟩ = some (.int .i64 a0_4) := (blk_cell BK1065.out 4).trans rfl; have hcz46_5 : w45.cell? ⟨gb1065, 5, none⟩ = some (.int .i64 a0_5) := (blk_cell BK1065.out 5).trans rfl; have hcz46_6 : w45.cell? ⟨gb1065, 6, none⟩ = some (.slice A0_6 l0_6.length c0_6) := (blk_cell BK1065.out 6).trans rfl; have hfz46_0 := blk_frozen BK1065.out 0; have hfz46_1 := blk_frozen BK1065.out 1; have hfz46_2 := blk_frozen BK1065.out 2; have hfz46_3 := blk_frozen BK1065.out 3; have hfz46_4 := blk_frozen BK1065.out 4; have hfz46_5 := blk_frozen BK1065.out 5; have hfz46_6 := blk_frozen BK1065.out 6) | ((with_reducible refine gate_callee (f := 88) rfl ?_); refine goesL_ (some 13) rfl rfl Try.func88 (by kernel_rfl) rfl #[.agg #[.int .u8 a0_0, .int .i64 a0_1, .int .i64 a0_2, .int .i64 a0_3, .int .i64 a0_4, .int .i64 a0_5, .slice A0_6 l0_6.length c0_6], .int .u8 a1] rfl (by (try simp only [List.map_toArray, List.map_cons, List.map_nil]); first | done | rfl | (simp only [List.length_drop, List.length_take]; rfl)) ?_; (with_reducible refine (sashref08_Along.calls a0_0 a0_1 a0_2 a0_3 a0_4 a0_5 _ _ l0_6 a1 false _ ?side1 ?side2 A6.out).mono ?_); (case side1 => repeat (first | exact (Kd.C_below HR0_6.out HB.out) | (with_reducible refine Kd.C_alloc ?_ _) | (with_reducible refine Kd.C_drewN ?_ _) | (with_reducible refine Kd.C_drew ?_))); (case side2 => exact HC0_6.out); rintro e w47 ⟨rfl, hb⟩; refine ⟨_, rfl, ?_⟩; have n0_ := Aside0.mk (blk_below (g := gb1065) (o := .cells #[.int .u8 a0_0, .int .i64 a0_1, .int .i64 a0_2, .int .i64 a0_3, .int .i64 a0_4, .int .i64 a0_5, .slice A0_6 l0_6.length c0_6] 26 (0, 0)) (by (with_reducible repeat (first | refine blk_drewN ?_ _ | refine blk_drew ?_ | refine blk_alloc ?_ _)); exact BK1065.out) hb); have n1_ := Aside0.mk (below_step (by repeat (first | (with_reducible first | exact HB.out | apply below_alloc | apply pw_below_drewN | apply below_drew1 | refine below_set ?_ GE1065.out) | exact HB.out)) hb); clear BK1065; clear HB; have BK1065 := n0_; have HB := n1_; clear n0_ n1_; (try clear hb); (try clear hb2); (try clear hk); (try clear hi)))
         have n0_ := Aside0.mk (blk_drew BK1065.out)
         have n1_ := Aside0.mk (below_drew1 HB.out)
         clear BK1065
         clear HB
         have BK1065 := n0_
         have HB := n1_
         clear n0_ n1_
         have p1073 : 0 ≤ (0 : Int) := (by omega)
         have q1073 : 0 < (l2.length : Int) := of_decide_eq_true (by first | (with_reducible assumption) | assumption)
         obtain ⟨ad1073, e1073, hx1073_0⟩ := Kd.at_int HR2.out 0 p1073 q1073
         have hw1073_0 := hx1073_0
         (try rw [show ((0 : Int)).toNat = 0 from rfl] at hw1073_0)
         (try rw [show 0 * 1 = 0 from rfl] at hw1073_0)
         (try rw [Addr.add_zero'] at hw1073_0)
         cases e1073
         have qi1073 : (0 < l2.length) = True := eq_true (by omega)
         (try rw [show ((0 : Int)).toNat = 0 from rfl] at hx1073_0)
         (try rw [Addr.add_zero'] at hx1073_0)
         replace hx1073_0 := (HB.out.cell (World.block_lt_of_cell? w _ hx1073_0)).trans hx1073_0
         replace p1073 := eq_true p1073
         replace q1073 := eq_true q1073
         have p1074 : 0 ≤ (0 : Int) := (by omega)
         have q1074 : 0 < (l2.length : Int) := of_decide_eq_true (by first | (with_reducible assumption) | assumption)
         obtain ⟨ad1074, e1074, hx1074_0⟩ := Kd.at_int HR2.out 0 p1074 q1074
         have hw1074_0 := hx1074_0
         (try rw [show ((0 : Int)).toNat = 0 from rfl] at hw1074_0)
         (try rw [show 0 * 1 = 0 from rfl] at hw1074_0)
         (try rw [Addr.add_zero'] at hw1074_0)
         obtain rfl : ad1073 = ad1074 := (by injection e1074)
         have qi1074 : (0 < l2.length) = True := eq_true (by omega)
         (try rw [show ((0 : Int)).toNat = 0 from rfl] at hx1074_0)
         (try rw [Addr.add_zero'] at hx1074_0)
         replace hx1074_0 := (HB.out.cell (World.block_lt_of_cell? w _ hx1074_0)).trans hx1074_0
         replace p1074 := eq_true p1074
         replace q1074 := eq_true q1074
         refine start_ (n := 13) (S := fun w' => w'.cell? ⟨gb1065, 0, none⟩ = some (.int .u8 a0_0) ∧ w'.cell? ⟨gb1065, 1, none⟩ = some (.int .i64 a0_1) ∧ w'.cell? ⟨gb1065, 2, none⟩ = some (.int .i64 a0_2) ∧ w'.cell? ⟨gb1065, 3, none⟩ = some (.int .i64 a0_3) ∧ w'.cell? ⟨gb1065, 4, none⟩ = some (.int .i64 a0_4) ∧ w'.cell? ⟨gb1065, 5, none⟩ = some (.int .i64 a0_5) ∧ w'.cell? ⟨gb1065, 6, none⟩ = some (.slice A0_6 l0_6.length c0_6) ∧ w'.cell? ad1073 = some (.int .i64 (rd l2 0)) ∧ w'.cell? ad1073 = some (.int .i64 (rd l2 0))) (ds := []) #[false, false, false, false, false, false, false, false, false, false, false, false, false] (by kernel_rfl) rfl rfl ⟨(blk_cell BK1065.out 0).trans rfl, (blk_cell BK1065.out 1).trans rfl, (blk_cell BK1065.out 2).trans rfl, (blk_cell BK1065.out 3).trans rfl, (blk_cell BK1065.out 4).trans rfl, (blk_cell BK1065.out 5).trans rfl, (blk_cell BK1065.out 6).trans rfl, ((HB.out.cell (World.block_lt_of_cell? w _ hw1073_0)).trans hw1073_0), ((HB.out.cell (World.block_lt_of_cell? w _ hw1074_0)).trans hw1074_0)⟩ (fun hHeld => ?_); refine with_tabW sashref08_Path.tab6 sashref08_Path.bits6 (fun HT_ HW_ => ?_)
         generalize w47.drew = w48 at BK1065 HB hx1073_0 hx1074_0 hHeld ⊢
         refine pure_ (i := 0) (N := some 14) (v := ?_) (a' := ?_) #[true, false, false, false, false, false, false, false, false, false, false, false, false] rfl rfl (any_of HT_.out (by kernel_rfl)) (fun _ _ _ h => h) (Or.inl ⟨by rfl, ?_⟩) ?_ ?_
         rotate_left
         ·intro w'
          go_simp
          with_reducible rfl
         rotate_left
         ·simp only [Act.put, List.setIfInBounds_toArray, List.set_cons_zero, List.set_cons_succ, i64_w, i32_w]
          rfl
         refine pure_ (i := 1) (N := some 15) (v := ?_) (a' := ?_) #[true, true, false, false, false, false, false, false, false, false, false, false, false] rfl rfl (any_of HT_.out (by kernel_rfl)) (fun _ _ _ h => h) (Or.inl ⟨by rfl, ?_⟩) ?_ ?_
         rotate_left
         ·intro w'
          go_simp
          with_reducible rfl
         rotate_left
         ·simp only [Act.put, List.setIfInBounds_toArray, List.set_cons_zero, List.set_cons_succ, i64_w, i32_w]
          rfl
         refine take_ (i := 2) (N := some 16) (v := ?_) (a' := ?_) #[true, true, true, false, false, false, false, false, false, false, false, false, false] rfl rfl (take_ofW HT_.out HW_.out (by kernel_rfl)) (fun _ _ _ h => h) (Or.inl ⟨by rfl, ?_⟩) hHeld ?_ ?_
         rotate_left
         ·rintro w' ⟨s0, s1, s2, s3, s4, s5, s6, s7, s8⟩
          go_simp
          with_reducible rfl
         rotate_left
         ·simp only [Act.put, List.setIfInBounds_toArray, List.set_cons_zero, List.set_cons_succ, i64_w, i32_w]
          rfl
         refine pure_ (i := 3) (N := some 17) (v := ?_) (a' := ?_) #[true, true, true, true, false, false, false, false, false, false, false, false, false] rfl rfl (any_of HT_.out (by kernel_rfl)) (fun _ _ _ h => h) (Or.inl ⟨by rfl, ?_⟩) ?_ ?_
         rotate_left
         ·intro w'
          go_simp
          with_reducible rfl
         rotate_left
         ·simp only [Act.put, List.setIfInBounds_toArray, List.set_cons_zero, List.set_cons_succ, i64_w, i32_w]
          rfl
         refine pure_ (i := 4) (N := some 18) (v := ?_) (a' := ?_) #[true, true, true, true, true, false, false, false, false, false, false, false, false] rfl rfl (any_of HT_.out (by kernel_rfl)) (fun _ _ _ h => h) (Or.inl ⟨by rfl, ?_⟩) ?_ ?_
         rotate_left
         ·intro w'
          go_simp
          with_reducible rfl
         rotate_left
         ·simp only [Act.put, List.setIfInBounds_toArray, List.set_cons_zero, List.set_cons_succ, i64_w, i32_w]
          rfl
         refine pure_ (i := 5) (N := some 19) (v := ?_) (a' := ?_) #[true, true, true, true, true, true, false, false, false, false, false, false, false] rfl rfl (any_of HT_.out (by kernel_rfl)) (fun _ _ _ h => h) (Or.inl ⟨by rfl, ?_⟩) ?_ ?_
         rotate_left
         ·intro w'
          go_simp
          with_reducible rfl
         rotate_left
         ·simp only [Act.put, List.setIfInBounds_toArray, List.set_cons_zero, List.set_cons_succ, i64_w, i32_w]
          rfl
         refine pure_ (i := 6) (N := some 20) (v := ?_) (a' := ?_) #[true, true, true, true, true, true, true, false, false, false, false, false, false] rfl rfl (any_of HT_.out (by kernel_rfl)) (fun _ _ _ h => h) (Or.inl ⟨by rfl, ?_⟩) ?_ ?_
         rotate_left
         ·intro w'
          go_simp
          with_reducible rfl
         rotate_left
         ·simp only [Act.put, List.setIfInBounds_toArray, List.set_cons_zero, List.set_cons_succ, i64_w, i32_w]
          rfl
         refine pure_ (i := 8) (N := some 22) (v := ?_) (a' := ?_) #[true, true, true, true, true, true, true, false, true, false, false, false, false] rfl rfl (any_of HT_.out (by kernel_rfl)) (fun _ _ _ h => h) (Or.inl ⟨by rfl, ?_⟩) ?_ ?_
         rotate_left
         ·intro w'
          go_simp
          with_reducible rfl
         rotate_left
         ·simp only [Act.put, List.setIfInBounds_toArray, List.set_cons_zero, List.set_cons_succ, i64_w, i32_w]
          rfl
         refine take_ (i := 7) (N := some 21) (v := ?_) (a' := ?_) #[true, true, true, true, true, true, true, true, true, false, false, false, false] rfl rfl (take_ofW HT_.out HW_.out (by kernel_rfl)) (fun _ _ _ h => h) (Or.inl ⟨by rfl, ?_⟩) hHeld ?_ ?_
         rotate_left
         ·rintro w' ⟨s0, s1, s2, s3, s4, s5, s6, s7, s8⟩
          go_simp
          with_reducible rfl
         rotate_left
         ·simp only [Act.put, List.setIfInBounds_toArray, List.set_cons_zero, List.set_cons_succ, i64_w, i32_w]
          rfl
         refine take_ (i := 9) (N := some 23) (v := ?_) (a' := ?_) #[true, true, true, true, true, true, true, true, true, true, false, false, false] rfl rfl (take_ofW HT_.out HW_.out (by kernel_rfl)) (fun _ _ _ h => h) (Or.inl ⟨by rfl, ?_⟩) hHeld ?_ ?_
         rotate_left
         ·rintro w' ⟨s0, s1, s2, s3, s4, s5, s6, s7, s8⟩
          go_simp
          with_reducible rfl
         rotate_left
         ·simp only [Act.put, List.setIfInBounds_toArray, List.set_cons_zero, List.set_cons_succ, i64_w, i32_w]
          rfl
         refine pure_ (i := 10) (N := some 24) (v := ?_) (a' := ?_) #[true, true, true, true, true, true, true, true, true, true, true, false, false] rfl rfl (any_of HT_.out (by kernel_rfl)) (fun _ _ _ h => h) (Or.inl ⟨by rfl, ?_⟩) ?_ ?_
         rotate_left
         ·intro w'
          go_simp
          with_reducible rfl
         rotate_left
         ·simp only [Act.put, List.setIfInBounds_toArray, List.set_cons_zero, List.set_cons_succ, i64_w, i32_w]
          rfl
         refine pure_ (i := 11) (N := some 25) (v := ?_) (a' := ?_) #[true, true, true, true, true, true, true, true, true, true, true, true, false] rfl rfl (any_of HT_.out (by kernel_rfl)) (fun _ _ _ h => h) (Or.inl ⟨by rfl, ?_⟩) ?_ ?_
         rotate_left
         ·intro w'
          go_simp
          with_reducible rfl
         rotate_left
         ·simp only [Act.put, List.setIfInBounds_toArray, List.set_cons_zero, List.set_cons_succ, i64_w, i32_w]
          rfl
         refine pure_ (i := 12) (N := some 26) (v := ?_) (a' := ?_) #[true, true, true, true, true, true, true, true, true, true, true, true, true] rfl rfl (any_of HT_.out (by kernel_rfl)) (fun _ _ _ h => h) (Or.inl ⟨by rfl, ?_⟩) ?_ ?_
         rotate_left
         ·intro w'
          go_simp
          with_reducible rfl
         rotate_left
         ·simp only [Act.put, List.setIfInBounds_toArray, List.set_cons_zero, List.set_cons_succ, i64_w, i32_w]
          rfl
         refine done_ (done_of HT_.out (by kernel_rfl)) ?_
         try go_wp2
         have n0_ := Aside0.mk (blk_drew BK1065.out)
         have n1_ := Aside0.mk (below_drew1 HB.out)
         clear BK1065
         clear HB
         have BK1065 := n0_
         have HB := n1_
         clear n0_ n1_
         have p1075 : 0 ≤ (0 : Int) := (by omega)
         have q1075 : 0 < (l2.length : Int) := of_decide_eq_true (by first | (with_reducible assumption) | assumption)
         obtain ⟨ad1075, e1075, hx1075_0⟩ := Kd.at_int HR2.out 0 p1075 q1075
         have hw1075_0 := hx1075_0
         (try rw [show ((0 : Int)).toNat = 0 from rfl] at hw1075_0)
         (try rw [show 0 * 1 = 0 from rfl] at hw1075_0)
         (try rw [Addr.add_zero'] at hw1075_0)
         obtain rfl : ad1073 = ad1075 := (by injection e1075)
         have qi1075 : (0 < l2.length) = True := eq_true (by omega)
         (try rw [show ((0 : Int)).toNat = 0 from rfl] at hx1075_0)
         (try rw [Addr.add_zero'] at hx1075_0)
         replace hx1075_0 := (HB.out.cell (World.block_lt_of_cell? w _ hx1075_0)).trans hx1075_0
         replace p1075 := eq_true p1075
         replace q1075 := eq_true q1075
         have p1076 : 0 ≤ ((rd l2 0) : Int) := of_decide_eq_true (by first | (with_reducible assumption) | assumption)
         have q1076 : (rd l2 0) < (l0_6.length : Int) := of_decide_eq_true (by first | (with_reducible assumption) | assumption)
         obtain ⟨ad1076, A1076_6, c1076_6, e1076, hx1076_0, hx1076_1, hx1076_2, hx1076_3, hx1076_4, hx1076_5, hx1076_6, hl1076_6, hi1076_6⟩ := at_T26 HR0_6.out (rd l2 0) p1076 q1076
         have hw1076_6 := hx1076_6
         have hw1076_5 := hx1076_5
         have hw1076_4 := hx1076_4
         have hw1076_3 := hx1076_3
         have hw1076_2 := hx1076_2
         have hw1076_1 := hx1076_1
         have hw1076_0 := hx1076_0
         cases e1076
         replace hx1076_0 := (HB.out.cell (World.block_lt_of_cell? w _ hx1076_0)).trans hx1076_0
         replace hx1076_1 := (HB.out.cell (World.block_lt_of_cell? w _ hx1076_1)).trans hx1076_1
         replace hx1076_2 := (HB.out.cell (World.block_lt_of_cell? w _ hx1076_2)).trans hx1076_2
         replace hx1076_3 := (HB.out.cell (World.block_lt_of_cell? w _ hx1076_3)).trans hx1076_3
         replace hx1076_4 := (HB.out.cell (World.block_lt_of_cell? w _ hx1076_4)).trans hx1076_4
         replace hx1076_5 := (HB.out.cell (World.block_lt_of_cell? w _ hx1076_5)).trans hx1076_5
         replace hx1076_6 := (HB.out.cell (World.block_lt_of_cell? w _ hx1076_6)).trans hx1076_6
         have HR1076_6 := Aside0.mk hi1076_6
         have HC1076_6 := Aside0.mk hl1076_6
         clear hi1076_6 hl1076_6
         replace p1076 := eq_true p1076
         replace q1076 := eq_true q1076
         obtain ⟨i050, hi050, _, hsz50, _⟩ := info_parts info3
         obtain ⟨A50, hcut50, hA50, hC50⟩ := print_drop_of (P := Try.prog) (Value.int .i64) 0 41 3 .i64 Try.underlying41 hi050 hsz50 (some ad1073) c2 l2 1 (by omega) (of_decide_eq_true (by first | (with_reducible assumption) | assumption)) HC2.out
         have HR1077 := Aside0.mk (Kd.C_of_reads (h1 := fun _ => rfl) (hA50 _ (Kd.reads_of_C HR2.out)))
         have HC1077 := Aside0.mk hC50
         clear hA50 hC50 hi050 hsz50
         refine start_ (n := 14) (S := fun w' => w'.cell? ⟨gb1065, 0, none⟩ = some (.int .u8 a0_0) ∧ w'.cell? ⟨gb1065, 1, none⟩ = some (.int .i64 a0_1) ∧ w'.cell? ⟨gb1065, 2, none⟩ = some (.int .i64 a0_2) ∧ w'.cell? ⟨gb1065, 3, none⟩ = some (.int .i64 a0_3) ∧ w'.cell? ⟨gb1065, 4, none⟩ = some (.int .i64 a0_4) ∧ w'.cell? ⟨gb1065, 5, none⟩ = some (.int .i64 a0_5) ∧ w'.cell? ⟨gb1065, 6, none⟩ = some (.slice (some ad1076) l0_6.length c0_6) ∧ w'.cell? ad1073 = some (.int .i64 (rd l2 0)) ∧ w'.cell? (ad1076.add (((rd l2 0)).toNat * 7)) = some (.int .u8 ((rd_T26 l0_6 (rd l2 0)).f0)) ∧ w'.cell? ⟨(ad1076.add (((rd l2 0)).toNat * 7)).block, (ad1076.add (((rd l2 0)).toNat * 7)).off + 1, none⟩ = some (.int .i64 ((rd_T26 l0_6 (rd l2 0)).f1.f0)) ∧ w'.cell? ⟨(ad1076.add (((rd l2 0)).toNat * 7)).block, (ad1076.add (((rd l2 0)).toNat * 7)).off + 2, none⟩ = some (.int .i64 ((rd_T26 l0_6 (rd l2 0)).f1.f1)) ∧ w'.cell? ⟨(ad1076.add (((rd l2 0)).toNat * 7)).block, (ad1076.add (((rd l2 0)).toNat * 7)).off + 3, none⟩ = some (.int .i64 ((rd_T26 l0_6 (rd l2 0)).f1.f2)) ∧ w'.cell? ⟨(ad1076.add (((rd l2 0)).toNat * 7)).block, (ad1076.add (((rd l2 0)).toNat * 7)).off + 4, none⟩ = some (.int .i64 ((rd_T26 l0_6 (rd l2 0)).f1.f3)) ∧ w'.cell? ⟨(ad1076.add (((rd l2 0)).toNat * 7)).block, (ad1076.add (((rd l2 0)).toNat * 7)).off + 5, none⟩ = some (.int .i64 ((rd_T26 l0_6 (rd l2 0)).f2)) ∧ w'.cell? ⟨(ad1076.add (((rd l2 0)).toNat * 7)).block, (ad1076.add (((rd l2 0)).toNat * 7)).off + 6, none⟩ = some (.slice A1076_6 ((rd_T26 l0_6 (rd l2 0)).f3).length c1076_6)) (ds := []) #[false, false, false, false, false, false, false, false, false, false, false, false, false, false] (by kernel_rfl) rfl rfl ⟨(blk_cell BK1065.out 0).trans rfl, (blk_cell BK1065.out 1).trans rfl, (blk_cell BK1065.out 2).trans rfl, (blk_cell BK1065.out 3).trans rfl, (blk_cell BK1065.out 4).trans rfl, (blk_cell BK1065.out 5).trans rfl, (blk_cell BK1065.out 6).trans rfl, ((HB.out.cell (World.block_lt_of_cell? w _ hw1075_0)).trans hw1075_0), ((HB.out.cell (World.block_lt_of_cell? w _ hw1076_0)).trans hw1076_0), ((HB.out.cell (World.block_lt_of_cell? w _ hw1076_1)).trans hw1076_1), ((HB.out.cell (World.block_lt_of_cell? w _ hw1076_2)).trans hw1076_2), ((HB.out.cell (World.block_lt_of_cell? w _ hw1076_3)).trans hw1076_3), ((HB.out.cell (World.block_lt_of_cell? w _ hw1076_4)).trans hw1076_4), ((HB.out.cell (World.block_lt_of_cell? w _ hw1076_5)).trans hw1076_5), ((HB.out.cell (World.block_lt_of_cell? w _ hw1076_6)).trans hw1076_6)⟩ (fun hHeld => ?_); refine with_tabW sashref08_Path.tab8 sashref08_Path.bits8 (fun HT_ HW_ => ?_)
         generalize w48.drew = w49 at BK1065 HB HR1076_6 HR1077 hx1075_0 hx1076_0 hx1076_1 hx1076_2 hx1076_3 hx1076_4 hx1076_5 hx1076_6 hHeld ⊢
         refine pure_ (i := 0) (N := some 28) (v := ?_) (a' := ?_) #[true, false, false, false, false, false, false, false, false, false, false, false, false, false] rfl rfl (any_of HT_.out (by kernel_rfl)) (fun _ _ _ h => h) (Or.inl ⟨by rfl, ?_⟩) ?_ ?_
         rotate_left
         ·intro w'
          go_simp
          with_reducible rfl
         rotate_left
         ·simp only [Act.put, List.setIfInBounds_toArray, List.set_cons_zero, List.set_cons_succ, i64_w, i32_w]
          rfl
         refine pure_ (i := 1) (N := some 29) (v := ?_) (a' := ?_) #[true, true, false, false, false, false, false, false, false, false, false, false, false, false] rfl rfl (any_of HT_.out (by kernel_rfl)) (fun _ _ _ h => h) (Or.inl ⟨by rfl, ?_⟩) ?_ ?_
         rotate_left
         ·intro w'
          go_simp
          with_reducible rfl
         rotate_left
         ·simp only [Act.put, List.setIfInBounds_toArray, List.set_cons_zero, List.set_cons_succ, i64_w, i32_w]
          rfl
         refine pure_ (i := 3) (N := some 31) (v := ?_) (a' := ?_) #[true, true, false, true, false, false, false, false, false, false, false, false, false, false] rfl rfl (any_of HT_.out (by kernel_rfl)) (fun _ _ _ h => h) (Or.inl ⟨by rfl, ?_⟩) ?_ ?_
         rotate_left
         ·intro w'
          go_simp
          with_reducible rfl
         rotate_left
         ·simp only [Act.put, List.setIfInBounds_toArray, List.set_cons_zero, List.set_cons_succ, i64_w, i32_w]
          rfl
         refine pure_ (i := 4) (N := some 32) (v := ?_) (a' := ?_) #[true, true, false, true, true, false, false, false, false, false, false, false, false, false] rfl rfl (any_of HT_.out (by kernel_rfl)) (fun _ _ _ h => h) (Or.inl ⟨by rfl, ?_⟩) ?_ ?_
         rotate_left
         ·intro w'
          go_simp
          with_reducible rfl
         rotate_left
         ·simp only [Act.put, List.setIfInBounds_toArray, List.set_cons_zero, List.set_cons_succ, i64_w, i32_w]
          rfl
         refine pure_ (i := 8) (N := some 36) (v := ?_) (a' := ?_) #[true, true, false, true, true, false, false, false, true, false, false, false, false, false] rfl rfl (any_of HT_.out (by kernel_rfl)) (fun _ _ _ h => h) (Or.inl ⟨by rfl, ?_⟩) ?_ ?_
         rotate_left
         ·intro w'
          go_simp
          with_reducible rfl
         rotate_left
         ·simp only [Act.put, List.setIfInBounds_toArray, List.set_cons_zero, List.set_cons_succ, i64_w, i32_w]
          rfl
         refine pure_ (i := 9) (N := some 37) (v := ?_) (a' := ?_) #[true, true, false, true, true, false, false, false, true, true, false, false, false, false] rfl rfl (any_of HT_.out (by kernel_rfl)) (fun _ _ _ h => h) (Or.inl ⟨by rfl, ?_⟩) ?_ ?_
         rotate_left
         ·intro w'
          go_simp
          with_reducible rfl
         rotate_left
         ·simp only [Act.put, List.setIfInBounds_toArray, List.set_cons_zero, List.set_cons_succ, i64_w, i32_w]
          rfl
         refine pure_ (i := 10) (N := some 38) (v := ?_) (a' := ?_) #[true, true, false, true, true, false, false, false, true, true, true, false, false, false] rfl rfl (any_of HT_.out (by kernel_rfl)) (fun _ _ _ h => h) (Or.inl ⟨by rfl, ?_⟩) ?_ ?_
         rotate_left
         ·intro w'
          go_simp
          with_reducible rfl
         rotate_left
         ·simp only [Act.put, List.setIfInBounds_toArray, List.set_cons_zero, List.set_cons_succ, i64_w, i32_w]
          rfl
         refine take_ (i := 2) (N := some 30) (v := ?_) (a' := ?_) #[true, true, true, true, true, false, false, false, true, true, true, false, false, false] rfl rfl (take_ofW HT_.out HW_.out (by kernel_rfl)) (fun _ _ _ h => h) (Or.inl ⟨by rfl, ?_⟩) hHeld ?_ ?_
         rotate_left
         ·rintro w' ⟨s0, s1, s2, s3, s4, s5, s6, s7, s8, s9, s10, s11, s12, s13, s14⟩
          go_simp
          with_reducible rfl
         rotate_left
         ·simp only [Act.put, List.setIfInBounds_toArray, List.set_cons_zero, List.set_cons_succ, i64_w, i32_w]
          rfl
         refine take_ (i := 5) (N := some 33) (v := ?_) (a' := ?_) #[true, true, true, true, true, true, false, false, true, true, true, false, false, false] rfl rfl (take_ofW HT_.out HW_.out (by kernel_rfl)) (fun _ _ _ h => h) (Or.inl ⟨by rfl, ?_⟩) hHeld ?_ ?_
         rotate_left
         ·rintro w' ⟨s0, s1, s2, s3, s4, s5, s6, s7, s8, s9, s10, s11, s12, s13, s14⟩
          go_simp
          with_reducible rfl
         rotate_left
         ·simp only [Act.put, List.setIfInBounds_toArray, List.set_cons_zero, List.set_cons_succ, i64_w, i32_w]
          rfl
         refine pure_ (i := 6) (N := some 34) (v := ?_) (a' := ?_) #[true, true, true, true, true, true, true, false, true, true, true, false, false, false] rfl rfl (any_of HT_.out (by kernel_rfl)) (fun _ _ _ h => h) (Or.inl ⟨by rfl, ?_⟩) ?_ ?_
         rotate_left
         ·intro w'
          go_simp
          with_reducible rfl
         rotate_left
         ·simp only [Act.put, List.setIfInBounds_toArray, List.set_cons_zero, List.set_cons_succ, i64_w, i32_w]
          rfl
         refine take_ (i := 7) (N := some 35) (v := ?_) (a' := ?_) #[true, true, true, true, true, true, true, true, true, true, true, false, false, false] rfl rfl (take_ofW HT_.out HW_.out (by kernel_rfl)) (fun _ _ _ h => h) (Or.inl ⟨by rfl, ?_⟩) hHeld ?_ ?_
         rotate_left
         ·rintro w' ⟨s0, s1, s2, s3, s4, s5, s6, s7, s8, s9, s10, s11, s12, s13, s14⟩
          go_simp
          with_reducible rfl
         rotate_left
         ·simp only [Act.put, List.setIfInBounds_toArray, List.set_cons_zero, List.set_cons_succ, i64_w, i32_w]
          rfl
         refine one_ (i := 11) (N := some 39) #[true, true, true, true, true, true, true, true, true, true, true, true, false, false] rfl rfl (one_of HT_.out (by kernel_rfl)) (by decide) (fun K hK => ?_)
         refine goes_ Try.func101 (by kernel_rfl) rfl #[.agg #[.int .u8 ((rd_T26 l0_6 (rd l2 0)).f0), .int .i64 ((rd_T26 l0_6 (rd l2 0)).f1.f0), .int .i64 ((rd_T26 l0_6 (rd l2 0)).f1.f1), .int .i64 ((rd_T26 l0_6 (rd l2 0)).f1.f2), .int .i64 ((rd_T26 l0_6 (rd l2 0)).f1.f3), .int .i64 ((rd_T26 l0_6 (rd l2 0)).f2), .slice A1076_6 ((rd_T26 l0_6 (rd l2 0)).f3).length c1076_6], .int .u8 a1, .slice A50 (l2.drop 1).length (c2 - 1)] (by rfl) rfl rfl (by (try simp only [List.map_toArray, List.map_cons, List.map_nil]); first | done | (rw [show (l2.drop 1).length = (l2.length - 1) from List.length_drop] <;> rfl) | rfl | (simp only [List.length_drop, List.length_take]; rfl)) ?_
         with_reducible refine (ih k (by omega) ((rd_T26 l0_6 (rd l2 0)).f0) ((rd_T26 l0_6 (rd l2 0)).f1.f0) ((rd_T26 l0_6 (rd l2 0)).f1.f1) ((rd_T26 l0_6 (rd l2 0)).f1.f2) ((rd_T26 l0_6 (rd l2 0)).f1.f3) ((rd_T26 l0_6 (rd l2 0)).f2) _ _ ((rd_T26 l0_6 (rd l2 0)).f3) a1 _ _ (l2.drop 1) t1078 _ ?side1 ?side2 ?side3 ?side4 A44.out).mono ?_
         (case side1 => repeat (first | exact (Kd.C_below HR1076_6.out HB.out) | (with_reducible refine Kd.C_alloc ?_ _) | (with_reducible refine Kd.C_drewN ?_ _) | (with_reducible refine Kd.C_drew ?_)))
         (case side2 => exact HC1076_6.out)
         (case side3 => repeat (first | exact (Kd.C_below HR1077.out HB.out) | (with_reducible refine Kd.C_alloc ?_ _) | (with_reducible refine Kd.C_drewN ?_ _) | (with_reducible refine Kd.C_drew ?_)))
         (case side4 => exact HC1077.out)
         rintro e w51 ⟨rfl, hb⟩
         refine ⟨_, rfl, ?_⟩
         have n0_ := Aside0.mk (blk_below (g := gb1065) (o := .cells #[.int .u8 a0_0, .int .i64 a0_1, .int .i64 a0_2, .int .i64 a0_3, .int .i64 a0_4, .int .i64 a0_5, .slice (some ad1076) l0_6.length c0_6] 26 (0, 0)) (by (with_reducible repeat (first | refine blk_drewN ?_ _ | refine blk_drew ?_ | refine blk_alloc ?_ _)); exact BK1065.out) hb)
         have n1_ := Aside0.mk (below_step (by repeat (first | (with_reducible first | exact HB.out | apply below_alloc | apply pw_below_drewN | apply below_drew1 | refine below_set ?_ GE1065.out) | exact HB.out)) hb)
         clear BK1065
         clear HB
         have BK1065 := n0_
         have HB := n1_
         clear n0_ n1_
         (try clear hb)
         (try clear hb2)
         (try clear hk)
         (try clear hi)
         refine hK.out _ _ ⟨(blk_cell BK1065.out 0).trans rfl, (blk_cell BK1065.out 1).trans rfl, (blk_cell BK1065.out 2).trans rfl, (blk_cell BK1065.out 3).trans rfl, (blk_cell BK1065.out 4).trans rfl, (blk_cell BK1065.out 5).trans rfl, (blk_cell BK1065.out 6).trans rfl, ((HB.out.cell (World.block_lt_of_cell? w _ hw1075_0)).trans hw1075_0), ((HB.out.cell (World.block_lt_of_cell? w _ hw1076_0)).trans hw1076_0), ((HB.out.cell (World.block_lt_of_cell? w _ hw1076_1)).trans hw1076_1), ((HB.out.cell (World.block_lt_of_cell? w _ hw1076_2)).trans hw1076_2), ((HB.out.cell (World.block_lt_of_cell? w _ hw1076_3)).trans hw1076_3), ((HB.out.cell (World.block_lt_of_cell? w _ hw1076_4)).trans hw1076_4), ((HB.out.cell (World.block_lt_of_cell? w _ hw1076_5)).trans hw1076_5), ((HB.out.cell (World.block_lt_of_cell? w _ hw1076_6)).trans hw1076_6)⟩ (fun hHeld => ?_)
         clear hK K
         refine norm_ (a' := ?_) ?_ ?_
         rotate_left
         ·show Act.put _ (some 39) _ = _
          simp only [Act.put, List.setIfInBounds_toArray, List.set_cons_zero, List.set_cons_succ, i64_w, i32_w]
          rfl
         refine pure_ (i := 12) (N := some 40) (v := ?_) (a' := ?_) #[true, true, true, true, true, true, true, true, true, true, true, true, true, false] rfl rfl (any_of HT_.out (by kernel_rfl)) (fun _ _ _ h => h) (Or.inl ⟨by rfl, ?_⟩) ?_ ?_
         rotate_left
         ·intro w'
          go_simp
          with_reducible rfl
         rotate_left
         ·simp only [Act.put, List.setIfInBounds_toArray, List.set_cons_zero, List.set_cons_succ, i64_w, i32_w]
          rfl
         refine pure_ (i := 13) (N := some 6) (v := ?_) (a' := ?_) #[true, true, true, true, true, true, true, true, true, true, true, true, true, true] rfl rfl (any_of HT_.out (by kernel_rfl)) (fun _ _ _ h => h) (Or.inl ⟨by rfl, ?_⟩) ?_ ?_
         rotate_left
         ·intro w'
          go_simp
          with_reducible rfl
         rotate_left
         ·simp only [Act.put, List.setIfInBounds_toArray, List.set_cons_zero, List.set_cons_succ, i64_w, i32_w]
          rfl
         refine done_ (done_of HT_.out (by kernel_rfl)) ?_
         try go_wp2
         go_ret
         exact ⟨by first | rfl | (simp [errW_none, errW_some] <;> rfl) | (simp [*, errW_none, errW_some] <;> rfl), by repeat (first | (with_reducible first | exact HB.out | apply below_alloc | apply pw_below_drewN | apply below_drew1 | refine below_set ?_ GE1065.out) | exact HB.out)⟩
        ·rw [if_neg c43] at H
         exact absurd H (by simp)
       ·rw [if_neg c42] at H
        exact absurd H (by simp)
      ·rw [if_neg c41] at H
       exact absurd H (by simp)
   ·rw [if_neg c30] at H
    exact absurd H (by simp)

end Go.Proofs.Ytfdmfgaiblfbhaa.P
