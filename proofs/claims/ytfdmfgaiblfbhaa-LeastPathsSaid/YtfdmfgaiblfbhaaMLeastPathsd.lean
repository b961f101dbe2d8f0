/- LeastPaths: part 4 of 7 of this claim's texts, one behind the other. The words of the kit's printer stand in it cut down, by a program, to those that are used. -/
import Derived.Test.YtfdmfgaiblfbhaaMLeastPathsc
import Derived.Lib.Hide
import Derived.ProofKit
import Derived.Deep.Slices
import Derived.Lib.SmallJoins
import Derived.OpenShut
namespace Go.Proofs.Ytfdmfgaiblfbhaa.P
open Go.RowKit Go.Proofs.YtfdmfgaiblfbhaaW.PrintWords Go.Proofs.YtfdmfgaiblfbhaaW.PrintLast Go.Proofs.YtfdmfgaiblfbhaaW.PrintMore
attribute [local go_sem] max2_int min2_int max_two min_two max_three min_three max_four min_four   -- for this text's walks alone
set_option linter.unusedVariables false
set_option linter.unusedSimpArgs false

/-! ### least_least: function 149 -/
mutual
def least_least.l0 : Nat → Int → Int → Int → List (S26) → Int → Int → Int → Int → Int → Int → Int → Int → List (S26) → Option (Int)
 | 0, _, _, _, _, _, _, _, _, _, _, _, _, _ => none
 | k + 1, x1, x5, x6, x18, x19, x20, x967000, x967001, x967002, x967003, x967004, x967005, x967006 => if x20 < x19 then (if 0 ≤ x20 then (if x20 < (x18.length : Int) then ((least_least.f k ((rd_T26 x18 x20).f0) ((rd_T26 x18 x20).f1.f0) ((rd_T26 x18 x20).f1.f1) ((rd_T26 x18 x20).f1.f2) ((rd_T26 x18 x20).f1.f3) ((rd_T26 x18 x20).f2) ((rd_T26 x18 x20).f3) x1).bind fun t969 => (least_least.l0 k x1 (wrap64 (x5 + t969)) (mx x6 t969) x18 x19 (wrap64 (x20 + 1)) x967000 x967001 x967002 x967003 x967004 x967005 x967006)) else (none)) else (none)) else ((least_Along.f x967000 x967001 x967002 x967003 x967004 x967005 x967006 x1).bind fun t970 => (if t970 = true then (some x5) else (some x6)))
def least_least.f : Nat → Int → Int → Int → Int → Int → Int → List (S26) → Int → Option (Int)
 | 0, _, _, _, _, _, _, _, _ => none
 | k + 1, a0_0, a0_1, a0_2, a0_3, a0_4, a0_5, l0_6, a1 => if a0_0 = 1 then (some 1) else (least_least.l0 k a1 (wrap64 ((l0_6.length : Int) - 1)) 0 l0_6 (l0_6.length : Int) 0 a0_0 a0_1 a0_2 a0_3 a0_4 a0_5 l0_6)
end
set_option maxHeartbeats 8000000 in
set_option maxRecDepth 100000 in
theorem least_least.calls (k : Nat) : ∀ (a0_0 : Int) (a0_1 : Int) (a0_2 : Int) (a0_3 : Int) (a0_4 : Int) (a0_5 : Int) (A0_6 : Option Addr) (c0_6 : Nat) (l0_6 : List (S26)) (a1 : Int) (r : Int) (w : World) (hr0_6 : Kd.C k26 w A0_6 l0_6.length l0_6) (hc0_6 : l0_6.length ≤ c0_6) (h : least_least.f k a0_0 a0_1 a0_2 a0_3 a0_4 a0_5 l0_6 a1 = some r),
  Calls Try.prog 149 #[.agg #[.int .u8 a0_0, .int .i64 a0_1, .int .i64 a0_2, .int .i64 a0_3, .int .i64 a0_4, .int .i64 a0_5, .slice A0_6 l0_6.length c0_6], .int .u8 a1] w fun e w' => e = .returned (.int .i64 r) ∧ Below w.heap.size w w' := by
 induction k using Nat.strongRecOn with
 | _ k ih =>
 intro a0_0 a0_1 a0_2 a0_3 a0_4 a0_5 A0_6 c0_6 l0_6 a1 r w hr0_6 hc0_6 h
 cases k with
 | zero => exact absurd h (by simp [least_least.f])
 | succ k =>
 simp only [least_least.f] at h
 have hu26 := Try.underlying26
 have HR0_6 := Aside0.mk hr0_6
 have HC0_6 := Aside0.mk hc0_6
 clear hr0_6 hc0_6
 have HB := Aside0.mk (Below.refl w.heap.size w)
 have H : (if a0_0 = 1 then (some 1) else (least_least.l0 k a1 (wrap64 ((l0_6.length : Int) - 1)) 0 l0_6 (l0_6.length : Int) 0 a0_0 a0_1 a0_2 a0_3 a0_4 a0_5 l0_6)) = some r := h
 clear h
 by_cases c3 : a0_0 = 1
 ·rw [if_pos c3] at H
  have c3b0 : (a0_0 == 1) = true := beq_iff_eq.mpr c3
  have c3b1 : (a0_0 != 1) = false := bne_eq_false_iff_eq.mpr c3
  clear c3
  obtain rfl := Option.some.inj H
  go_enter Try.func149, Try.ntmps149
  go_wp2_with (first | ((with_reducible refine gate_dst (N := 2) rfl ?_); refine box_event ?hg (N := 2) ?hd (cs := #[.int .u8 a0_0, .int .i64 a0_1, .int .i64 a0_2, .int .i64 a0_3, .int .i64 a0_4, .int .i64 a0_5, .slice A0_6 l0_6.length c0_6]) (t := 26) ?hr ?_; (case hd => rfl); (case hg => rfl); (case hr => first | (go_simp; done) | (go_simp; rfl)); intro gb966 hg w4 hbox hb; have n0_ := Aside0.mk (below_step (by repeat (first | (with_reducible first | exact HB.out | apply below_alloc | apply pw_below_drewN | apply below_drew1) | exact HB.out)) hb); have n1_ := Aside0.mk (hbox); have n2_ := Aside0.mk ((by rw [hg]; exact (below_size (by repeat (first | (with_reducible first | exact HB.out | apply below_alloc | apply pw_below_drewN | apply below_drew1) | exact HB.out))) : w.heap.size ≤ gb966)); have n3_ := Aside0.mk ((by rw [hg]; exact (below_size (by repeat (first | (with_reducible first | exact HB.out | apply below_alloc | apply pw_below_drewN | apply below_drew1) | exact HB.out))) : w.heap.size ≤ gb966)); clear HB; have HB := n0_; have BK966 := n1_; have GW966 := n2_; have GE966 := n3_; clear n0_ n1_ n2_ n3_; clear hb hbox hg; have hcz5_0 : w4.cell? ⟨gb966, 0, none⟩ = some (.int .u8 a0_0) := (blk_cell BK966.out 0).trans rfl; have hcz5_1 : w4.cell? ⟨gb966, 1, none⟩ = some (.int .i64 a0_1) := (blk_cell BK966.out 1).trans rfl; have hcz5_2 : w4.cell? ⟨gb966, 2, none⟩ = some (.int .i64 a0_2) := (blk_cell BK966.out 2).trans rfl; have hcz5_3 : w4.cell? ⟨gb966, 3, none⟩ = some (.int .i64 a0_3) := (blk_cell BK966.out 3).trans rfl; have hcz5_4 : w4.cell? ⟨gb966, 4, none⟩ = some (.int .i64 a0_4) := (blk_cell BK966.out 4).trans rfl; have hcz5_5 : w4.cell? ⟨gb966, 5, none⟩ = some (.int .i64 a0_5) := (blk_cell BK966.out 5).trans rfl; have hcz5_6 : w4.cell? ⟨gb966, 6, none⟩ = some (.slice A0_6 l0_6.length c0_6) := (blk_cell BK966.out 6).trans rfl; have hfz5_0 := blk_frozen BK966.out 0; have hfz5_1 := blk_frozen BK966.out 1; have hfz5_2 := blk_frozen BK966.out 2; have hfz5_3 := blk_frozen BK966.out 3; have hfz5_4 := blk_frozen BK966.out 4; have hfz5_5 := blk_frozen BK966.out 5; have hfz5_6 := blk_frozen BK966.out 6))
  go_ret
  exact ⟨by first | rfl | (simp [errW_none, errW_some] <;> rfl) | (simp [*, errW_none, errW_some] <;> rfl), by repeat (first | (with_reducible first | exact HB.out | apply below_alloc | apply pw_below_drewN | apply below_drew1 | refine below_set ?_ GE966.out) | exact HB.out)⟩
 ·rw [if_neg c3] at H
  have c3b0 : (a0_0 == 1) = false := beq_eq_false_iff_ne.mpr c3
  have c3b1 : (a0_0 != 1) = true := bne_iff_ne.mpr c3
  have H' := Aside0.mk H
  clear H
  go_enter Try.func149, Try.ntmps149
  go_wp2_with (first | ((with_reducible refine gate_dst (N := 2) rfl ?_); refine box_event ?hg (N := 2) ?hd (cs := #[.int .u8 a0_0, .int .i64 a0_1, .int .i64 a0_2, .int .i64 a0_3, .int .i64 a0_4, .int .i64 a0_5, .slice A0_6 l0_6.length c0_6]) (t := 26) ?hr ?_; (case hd => rfl); (case hg => rfl); (case hr => first | (go_simp; done) | (go_simp; rfl)); intro gb966 hg w6 hbox hb; have n0_ := Aside0.mk (below_step (by repeat (first | (with_reducible first | exact HB.out | apply below_alloc | apply pw_below_drewN | apply below_drew1) | exact HB.out)) hb); have n1_ := Aside0.mk (hbox); have n2_ := Aside0.mk ((by rw [hg]; exact (below_size (by repeat (first | (with_reducible first | exact HB.out | apply below_alloc | apply pw_below_drewN | apply below_drew1) | exact HB.out))) : w.heap.size ≤ gb966)); have n3_ := Aside0.mk ((by rw [hg]; exact (below_size (by repeat (first | (with_reducible first | exact HB.out | apply below_alloc | apply pw_below_drewN | apply below_drew1) | exact HB.out))) : w.heap.size ≤ gb966)); clear HB; have HB := n0_; have BK966 := n1_; have GW966 := n2_; have GE966 := n3_; clear n0_ n1_ n2_ n3_; clear hb hbox hg; have hcz7_0 : w6.cell? ⟨gb966, 0, none⟩ = some (.int .u8 a0_0) := (blk_cell BK966.out 0).trans rfl; have hcz7_1 : w6.cell? ⟨gb966, 1, none⟩ = some (.int .i64 a0_1) := (blk_cell BK966.out 1).trans rfl; have hcz7_2 : w6.cell? ⟨gb966, 2, none⟩ = some (.int .i64 a0_2) := (blk_cell BK966.out 2).trans rfl; have hcz7_3 : w6.cell? ⟨gb966, 3, none⟩ = some (.int .i64 a0_3) := (blk_cell BK966.out 3).trans rfl; have hcz7_4 : w6.cell? ⟨gb966, 4, none⟩ = some (.int .i64 a0_4) := (blk_cell BK966.out 4).trans rfl; have hcz7_5 : w6.cell? ⟨gb966, 5, none⟩ = some (.int .i64 a0_5) := (blk_cell BK966.out 5).trans rfl; have hcz7_6 : w6.cell? ⟨gb966, 6, none⟩ = some (.slice A0_6 l0_6.length c0_6) := (blk_cell BK966.out 6).trans rfl; have hfz7_0 := blk_frozen BK966.out 0; have hfz7_1 := blk_frozen BK966.out 1; have hfz7_2 := blk_frozen BK966.out 2; have hfz7_3 := blk_frozen BK966.out 3; have hfz7_4 := blk_frozen BK966.out 4; have hfz7_5 := blk_frozen BK966.out 5; have hfz7_6 := blk_frozen BK966.out 6))
  go_loopg [5, 6, 20] k (fun kq v5 v6 v20 w' => ∃ (x5_1 : Int) (x6_1 : Int) (x20_1 : Int), v5 = .int .i64 x5_1 ∧ v6 = .int .i64 x6_1 ∧ v20 = .int .i64 x20_1 ∧ Aside0 (least_least.l0 kq a1 x5_1 x6_1 l0_6 (l0_6.length : Int) x20_1 a0_0 a0_1 a0_2 a0_3 a0_4 a0_5 l0_6 = some r) ∧ Aside0 (kq ≤ k) ∧ Aside0 (w'.heap[gb966]? = some (.cells #[.int .u8 a0_0, .int .i64 a0_1, .int .i64 a0_2, .int .i64 a0_3, .int .i64 a0_4, .int .i64 a0_5, (.slice A0_6 l0_6.length c0_6)] 26 (0, 0))) ∧ Aside0 (Below w.heap.size w w'))
  case atStart => exact ⟨(wrap64 ((l0_6.length : Int) - 1)), (0), (0), (by first | rfl | (simp; done) | (simp [*]; done)), (by first | rfl | (simp; done) | (simp [*]; done)), (by first | rfl | (simp; done) | (simp [*]; done)), H', ⟨Nat.le_refl _⟩, ⟨by (with_reducible repeat (first | refine blk_drewN ?_ _ | refine blk_drew ?_ | refine blk_alloc ?_ _)); exact BK966.out⟩, ⟨by repeat (first | (with_reducible first | exact HB.out | apply below_alloc | apply pw_below_drewN | apply below_drew1 | refine below_set ?_ GE966.out) | exact HB.out)⟩⟩
  case round =>
   clear H'
   try clear c1
   try clear p2
   try clear c3
   try clear c3b0
   try clear c3b1
   try clear p6
   try clear hcz5_0
   try clear hcz5_1
   try clear hcz5_2
   try clear hcz5_3
   try clear hcz5_4
   try clear hcz5_5
   try clear hcz5_6
   try clear hcz7_0
   try clear hcz7_1
   try clear hcz7_2
   try clear hcz7_3
   try clear hcz7_4
   try clear hcz7_5
   try clear hcz7_6
   try clear hfz5_0
   try clear hfz5_1
   try clear hfz5_2
   try clear hfz5_3
   try clear hfz5_4
   try clear hfz5_5
   try clear hfz5_6
   try clear hfz7_0
   try clear hfz7_1
   try clear hfz7_2
   try clear hfz7_3
   try clear hfz7_4
   try clear hfz7_5
   try clear hfz7_6
   obtain ⟨x5_1, x6_1, x20_1, rfl, rfl, rfl, HA, HK1, BK966, HB⟩ := hrel
   cases gk with
   | zero => exact absurd HA.out (by simp [least_least.l0])
   | succ k1 =>
    have H := HA.out
    clear HA
    simp only [least_least.l0] at H
    by_cases c8 : x20_1 < (l0_6.length : Int)
    ·rw [if_pos c8] at H
     have c8b0 : decide (x20_1 < (l0_6.length : Int)) = true := decide_eq_true c8
     clear c8
     by_cases c9 : 0 ≤ x20_1
     ·rw [if_pos c9] at H
      have c9b0 : decide (0 ≤ x20_1) = true := decide_eq_true c9
      clear c9
      by_cases c10 : x20_1 < (l0_6.length : Int)
      ·rw [if_pos c10] at H
       have c10b0 : decide (x20_1 < (l0_6.length : Int)) = true := decide_eq_true c10
       clear c10
       replace H := Option.bind_eq_some_iff.mp H
       obtain ⟨t969, A110, H⟩ := H
       replace H : (least_least.l0 k1 a1 (wrap64 (x5_1 + t969)) (mx x6_1 t969) l0_6 (l0_6.length : Int) (wrap64 (x20_1 + 1)) a0_0 a0_1 a0_2 a0_3 a0_4 a0_5 l0_6) = some r := H
       have A11 := Aside0.mk A110
       clear A110
       obtain ⟨ji12, hji12⟩ : ∃ j_ : Int, (mx x6_1 t969) = j_ := ⟨_, rfl⟩
       replace H : (least_least.l0 k1 a1 (wrap64 (x5_1 + t969)) ji12 l0_6 (l0_6.length : Int) (wrap64 (x20_1 + 1)) a0_0 a0_1 a0_2 a0_3 a0_4 a0_5 l0_6) = some r := by first | (rw [hji12] at H; exact H) | (simp only [hji12] at H ⊢; exact H)
       (try rw [hji12] at A11)
       have hji12_ : (if x6_1 < t969 then t969 else x6_1) = ji12 := hji12
       have H' := Aside0.mk H
       clear H
       have p967 : 0 ≤ (x20_1 : Int) := of_decide_eq_true (by first | (with_reducible assumption) | assumption)
       have q967 : x20_1 < (l0_6.length : Int) := of_decide_eq_true (by first | (with_reducible assumption) | assumption)
       obtain ⟨ad967, A967_6, c967_6, e967, hx967_0, hx967_1, hx967_2, hx967_3, hx967_4, hx967_5, hx967_6, hl967_6, hi967_6⟩ := at_T26 HR0_6.out x20_1 p967 q967
       cases e967
       replace hx967_0 := (HB.out.cell (World.block_lt_of_cell? w _ hx967_0)).trans hx967_0
       replace hx967_1 := (HB.out.cell (World.block_lt_of_cell? w _ hx967_1)).trans hx967_1
       replace hx967_2 := (HB.out.cell (World.block_lt_of_cell? w _ hx967_2)).trans hx967_2
       replace hx967_3 := (HB.out.cell (World.block_lt_of_cell? w _ hx967_3)).trans hx967_3
       replace hx967_4 := (HB.out.cell (World.block_lt_of_cell? w _ hx967_4)).trans hx967_4
       replace hx967_5 := (HB.out.cell (World.block_lt_of_cell? w _ hx967_5)).trans hx967_5
       replace hx967_6 := (HB.out.cell (World.block_lt_of_cell? w _ hx967_6)).trans hx967_6
       have HR967_6 := Aside0.mk hi967_6
       have HC967_6 := Aside0.mk hl967_6
       clear hi967_6 hl967_6
       replace p967 := eq_true p967
       replace q967 := eq_true q967
       go_wp2_with (first | ((with_reducible refine gate_dst (N := 8) rfl ?_); refine box_event ?hg (N := 8) ?hd (cs := #[.int .u8 0, .int .i64 0, .int .i64 0, .int .i64 0, .int .i64 0, .int .i64 0, .slice none 0 0]) (t := 26) ?hr ?_; (case hd => rfl); (case hg => rfl); (case hr => first | (go_simp; done) | (go_simp; rfl)); intro gb968 hg w13 hbox hb; have n0_ := Aside0.mk (blk_below (g := gb966) (o := .cells #[.int .u8 a0_0, .int .i64 a0_1, .int .i64 a0_2, .int .i64 a0_3, .int .i64 a0_4, .int .i64 a0_5, .slice (some ad967) l0_6.length c0_6] 26 (0, 0)) (by (with_reducible repeat (first | refine blk_drewN ?_ _ | refine blk_drew ?_ | refine blk_alloc ?_ _)); exact BK966.out) hb); have n1_ := Aside0.mk (below_step (by repeat (first | (with_reducible first | exact HB.out | apply below_alloc | apply pw_below_drewN | apply below_drew1 | refine below_set ?_ GE966.out) | exact HB.out)) hb); have n2_ := Aside0.mk (hbox); have n3_ := Aside0.mk ((by rw [hg]; exact (below_size (by repeat (first | (with_reducible first | exact HB.out | apply below_alloc | apply pw_below_drewN | apply below_drew1 | refine below_set ?_ GE966.out) | exact HB.out))) : w.heap.size ≤ gb968)); have n4_ := Aside0.mk ((by rw [hg]; exact (below_size (by repeat (first | (with_reducible first | exact HB.out | apply below_alloc | apply pw_below_drewN | apply below_drew1 | refine below_set ?_ GE966.out) | exact HB.out))) : w.heap.size ≤ gb968)); have n5_ := Aside0.mk ((by rw [hg]; exact Nat.ne_of_lt (blk_lt (g := gb966) (o := .cells #[.int .u8 a0_0, .int .i64 a0_1, .int .i64 a0_2, .int .i64 a0_3, .int .i64 a0_4, .int .i64 a0_5, .slice (some ad967) l0_6.length c0_6] 26 (0, 0)) (by (with_reducible repeat (first | refine blk_drewN ?_ _ | refine blk_drew ?_ | refine blk_alloc ?_ _)); exact BK966.out)) : gb966 ≠ gb968)); have n6_ := Aside0.mk ((by rw [hg]; exact Nat.ne_of_gt (blk_lt (g := gb966) (o := .cells #[.int .u8 a0_0, .int .i64 a0_1, .int .i64 a0_2, .int .i64 a0_3, .int .i64 a0_4, .int .i64 a0_5, .slice (some ad967) l0_6.length c0_6] 26 (0, 0)) (by (with_reducible repeat (first | refine blk_drewN ?_ _ | refine blk_drew ?_ | refine blk_alloc ?_ _)); exact BK966.out)) : gb968 ≠ gb966)); clear BK966; clear HB; have BK966 := n0_; have HB := n1_; have BK968 := n2_; have GW968 := n3_; have GE968 := n4_; have NB966_968 := n5_; have NB968_966 := n6_; clear n0_ n1_ n2_ n3_ n4_ n5_ n6_; clear hb hbox hg; have hnb14 := NB968_966.out; have hnc14 := NB966_968.out; have hcz15_0 : w13.cell? ⟨gb968, 0, none⟩ = some (.int .u8 0) := (blk_cell BK968.out 0).trans rfl; have hcz15_1 : w13.cell? ⟨gb968, 1, none⟩ = some (.int .i64 0) := (blk_cell BK968.out 1).trans rfl; have hcz15_2 : w13.cell? ⟨gb968, 2, none⟩ = some (.int .i64 0) := (blk_cell BK968.out 2).trans rfl; have hcz15_3 : w13.cell? ⟨gb968, 3, none⟩ = some (.int .i64 0) := (blk_cell BK968.out 3).trans rfl; have hcz15_4 : w13.cell? ⟨gb968, 4, none⟩ = some (.int .i64 0) := (blk_cell BK968.out 4).trans rfl; have hcz15_5 : w13.cell? ⟨gb968, 5, none⟩ = some (.int .i64 0) := (blk_cell BK968.out 5).trans rfl; have hcz15_6 : w13.cell? ⟨gb968, 6, none⟩ = some (.slice none 0 0) := (blk_cell BK968.out 6).trans rfl; have hfz15_0 := blk_frozen BK968.out 0; have hfz15_1 := blk_frozen BK968.out 1; have hfz15_2 := blk_frozen BK968.out 2; have hfz15_3 := blk_frozen BK968.out 3; have hfz15_4 := blk_frozen BK968.out 4; have hfz15_5 := blk_frozen BK968.out 5; have hfz15_6 := blk_frozen BK968.out 6) | ((with_reducible refine gate_callee (f := 149) rfl ?_); refine goesL_ (some 26) rfl rfl Try.func149 (by kernel_rfl) rfl #[.agg #[.int .u8 ((rd_T26 l0_6 x20_1).f0), .int .i64 ((rd_T26 l0_6 x20_1).f1.f0), .int .i64 ((rd_T26 l0_6 x20_1).f1.f1), .int .i64 ((rd_T26 l0_6 x20_1).f1.f2), .int .i64 ((rd_T26 l0_6 x20_1).f1.f3), .int .i64 ((rd_T26 l0_6 x20_1).f2), .slice A967_6 ((rd_T26 l0_6 x20_1).f3).length c967_6], .int .u8 a1] rfl (by (try simp only [List.map_toArray, List.map_cons, List.map_nil]); first | done | rfl | (simp only [List.length_drop, List.length_take]; rfl)) ?_; (with_reducible refine (ih k1 (by have := HK1.out; omega) ((rd_T26 l0_6 x20_1).f0) ((rd_T26 l0_6 x20_1).f1.f0) ((rd_T26 l0_6 x20_1).f1.f1) ((rd_T26 l0_6 x20_1).f1.f2) ((rd_T26 l0_6 x20_1).f1.f3) ((rd_T26 l0_6 x20_1).f2) _ _ ((rd_T26 l0_6 x20_1).f3) a1 t969 _ ?side1 ?side2 A11.out).mono ?_); (case side1 => exact Kd.C_below HR967_6.out (by repeat (first | (with_reducible first | exact HB.out | apply below_alloc | apply pw_below_drewN | apply below_drew1 | refine below_set ?_ GE966.out | refine below_set ?_ GE968.out) | exact HB.out))); (case side2 => exact HC967_6.out); rintro e w16 ⟨rfl, hb⟩; refine ⟨_, rfl, ?_⟩; have n0_ := Aside0.mk (blk_below (g := gb966) (o := .cells #[.int .u8 a0_0, .int .i64 a0_1, .int .i64 a0_2, .int .i64 a0_3, .int .i64 a0_4, .int .i64 a0_5, .slice (some ad967) l0_6.length c0_6] 26 (0, 0)) (by (with_reducible repeat (first | refine blk_drewN ?_ _ | refine blk_drew ?_ | refine blk_alloc ?_ _)); refine blk_far ?_ NB966_968.out _; (with_reducible repeat (first | refine blk_drewN ?_ _ | refine blk_drew ?_ | refine blk_alloc ?_ _)); refine blk_far ?_ NB966_968.out _; (with_reducible repeat (first | refine blk_drewN ?_ _ | refine blk_drew ?_ | refine blk_alloc ?_ _)); refine blk_far ?_ NB966_968.out _; (with_reducible repeat (first | refine blk_drewN ?_ _ | refine blk_drew ?_ | refine blk_alloc ?_ _)); refine blk_far ?_ NB966_968.out _; (with_reducible repeat (first | refine blk_drewN ?_ _ | refine blk_drew ?_ | refine blk_alloc ?_ _)); refine blk_far ?_ NB966_968.out _; (with_reducible repeat (first | refine blk_drewN ?_ _ | refine blk_drew ?_ | refine blk_alloc ?_ _)); refine blk_far ?_ NB966_968.out _; (with_reducible repeat (first | refine blk_drewN ?_ _ | refine blk_drew ?_ | refine blk_alloc ?_ _)); refine blk_far ?_ NB966_968.out _; (with_reducible repeat (first | refine blk_drewN ?_ _ | refine blk_drew ?_ | refine blk_alloc ?_ _)); exact BK966.out) hb); have n1_ := Aside0.mk (blk_below (g := gb968) (o := .cells #[.int .u8 ((rd_T26 l0_6 x20_1).f0), .int .i64 ((rd_T26 l0_6 x20_1).f1.f0), .int .i64 ((rd_T26 l0_6 x20_1).f1.f1), .int .i64 ((rd_T26 l0_6 x20_1).f1.f2), .int .i64 ((rd_T26 l0_6 x20_1).f1.f3), .int .i64 ((rd_T26 l0_6 x20_1).f2), .slice A967_6 ((rd_T26 l0_6 x20_1).f3).length c967_6] 26 (0, 0)) (by (with_reducible repeat (first | refine blk_drewN ?_ _ | refine blk_drew ?_ | refine blk_alloc ?_ _)); refine blk_put (cs := #[.int .u8 ((rd_T26 l0_6 x20_1).f0), .int .i64 ((rd_T26 l0_6 x20_1).f1.f0), .int .i64 ((rd_T26 l0_6 x20_1).f1.f1), .int .i64 ((rd_T26 l0_6 x20_1).f1.f2), .int .i64 ((rd_T26 l0_6 x20_1).f1.f3), .int .i64 ((rd_T26 l0_6 x20_1).f2), .slice none 0 0]) ?_ 6 _ rfl; (with_reducible repeat (first | refine blk_drewN ?_ _ | refine blk_drew ?_ | refine blk_alloc ?_ _)); refine blk_put (cs := #[.int .u8 ((rd_T26 l0_6 x20_1).f0), .int .i64 ((rd_T26 l0_6 x20_1).f1.f0), .int .i64 ((rd_T26 l0_6 x20_1).f1.f1), .int .i64 ((rd_T26 l0_6 x20_1).f1.f2), .int .i64 ((rd_T26 l0_6 x20_1).f1.f3), .int .i64 0, .slice none 0 0]) ?_ 5 _ rfl; (with_reducible repeat (first | refine blk_drewN ?_ _ | refine blk_drew ?_ | refine blk_alloc ?_ _)); refine blk_put (cs := #[.int .u8 ((rd_T26 l0_6 x20_1).f0), .int .i64 ((rd_T26 l0_6 x20_1).f1.f0), .int .i64 ((rd_T26 l0_6 x20_1).f1.f1), .int .i64 ((rd_T26 l0_6 x20_1).f1.f2), .int .i64 0, .int .i64 0, .slice none 0 0]) ?_ 4 _ rfl; (with_reducible repeat (first | refine blk_drewN ?_ _ | refine blk_drew ?_ | refine blk_alloc ?_ _)); refine blk_put (cs := #[.int .u8 ((rd_T26 l0_6 x20_1).f0), .int .i64 ((rd_T26 l0_6 x20_1).f1.f0), .int .i64 ((rd_T26 l0_6 x20_1).f1.f1), .int .i64 0, .int .i64 0, .int .i64 0, .slice none 0 0]) ?_ 3 _ rfl; (with_reducible repeat (first | refine blk_drewN ?_ _ | refine blk_drew ?_ | refine blk_alloc ?_ _)); refine blk_put (cs := #[.int .u8 ((rd_T26 l0_6 x20_1).f0), .int .i64 ((rd_T26 l0_6 x20_1).f1.f0), .int .i64 0, .int .i64 0, .int .i64 0, .int .i64 0, .slice none 0 0]) ?_ 2 _ rfl; (with_reducible repeat (first | refine blk_drewN ?_ _ | refine blk_drew ?_ | refine blk_alloc ?_ _)); refine blk_put (cs := #[.int .u8 ((rd_T26 l0_6 x20_1).f0), .int .i64 0, .int .i64 0, .int .i64 0, .int .i64 0, .int .i64 0, .slice none 0 0]) ?_ 1 _ rfl; (with_reducible repeat (first | refine blk_drewN ?_ _ | refine blk_drew ?_ | refine blk_alloc ?_ _)); refine blk_put (cs := #[.int .u8 0, .int .i64 0, .int .i64 0, .int .i64 0, .int .i64 0, .int .i64 0, .slice none 0 0]) ?_ 0 _ rfl; (with_reducible repeat (first | refine blk_drewN ?_ _ | refine blk_drew ?_ | refine blk_alloc ?_ _)); exact BK968.out) hb); have n2_ := Aside0.mk (below_step (by repeat (first | (with_reducible first | exact HB.out | apply below_alloc | apply pw_below_drewN | apply below_drew1 | refine below_set ?_ GE966.out | refine below_set ?_ GE968.out) | exact HB.out)) hb); clear BK966; clear BK968; clear HB; have BK966 := n0_; have BK968 := n1_; have HB := n2_; clear n0_ n1_ n2_; (try clear hb); (try clear hb2); (try clear hk); (try clear hi)))
       go_roundg k1
       case measure => have := HK1.out; omega
       case rel => exact ⟨(wrap64 (x5_1 + t969)), (ji12), (wrap64 (x20_1 + 1)), (by first | rfl | (simp; done) | (simp [*]; done)), (by first | rfl | (simp; done) | (simp only [← hji12] <;> (first | rfl | simp)) | (simp [*]; done)), (by first | rfl | (simp; done) | (simp [*]; done)), H', ⟨by have := HK1.out; omega⟩, ⟨by (with_reducible repeat (first | refine blk_drewN ?_ _ | refine blk_drew ?_ | refine blk_alloc ?_ _)); exact BK966.out⟩, ⟨by repeat (first | (with_reducible first | exact HB.out | apply below_alloc | apply pw_below_drewN | apply below_drew1 | refine below_set ?_ GE966.out | refine below_set ?_ GE968.out) | exact HB.out)⟩⟩
      ·rw [if_neg c10] at H
       exact absurd H (by simp)
     ·rw [if_neg c9] at H
      exact absurd H (by simp)
    ·rw [if_neg c8] at H
     have c8b0 : decide (x20_1 < (l0_6.length : Int)) = false := decide_eq_false c8
     clear c8
     replace H := Option.bind_eq_some_iff.mp H
     obtain ⟨t970, A170, H⟩ := H
     replace H : (if t970 = true then (some x5_1) else (some x6_1)) = some r := H
     have A17 := Aside0.mk A170
     clear A170
     by_cases c18 : t970 = true
     ·subst c18
      have H1 : (some x5_1) = some r := by rw [if_pos rfl] at H; exact H
      clear H
      have H := H1
      clear H1
      obtain rfl := Option.some.inj H
      have hcz19_0 : wr.cell? ⟨gb966, 0, none⟩ = some (.int .u8 a0_0) := (blk_cell BK966.out 0).trans rfl
      have hcz19_1 : wr.cell? ⟨gb966, 1, none⟩ = some (.int .i64 a0_1) := (blk_cell BK966.out 1).trans rfl
      have hcz19_2 : wr.cell? ⟨gb966, 2, none⟩ = some (.int .i64 a0_2) := (blk_cell BK966.out 2).trans rfl
      have hcz19_3 : wr.cell? ⟨gb966, 3, none⟩ = some (.int .i64 a0_3) := (blk_cell BK966.out 3).trans rfl
      have hcz19_4 : wr.cell? ⟨gb966, 4, none⟩ = some (.int .i64 a0_4) := (blk_cell BK966.out 4).trans rfl
      have hcz19_5 : wr.cell? ⟨gb966, 5, none⟩ = some (.int .i64 a0_5) := (blk_cell BK966.out 5).trans rfl
      have hcz19_6 : wr.cell? ⟨gb966, 6, none⟩ = some (.slice A0_6 l0_6.length c0_6) := (blk_cell BK966.out 6).trans rfl
      have hfz19_0 := blk_frozen BK966.out 0
      have hfz19_1 := blk_frozen BK966.out 1
      have hfz19_2 := blk_frozen BK966.out 2
      have hfz19_3 := blk_frozen BK966.out 3
      have hfz19_4 := blk_frozen BK966.out 4
      have hfz19_5 := blk_frozen BK966.out 5
      have hfz19_6 := blk_frozen BK966.out 6
      go_wp2_with (first | ((with_reducible refine gate_callee (f := 99) rfl ?_); refine goesL_ (some 36) rfl rfl Try.func99 (by kernel_rfl) rfl #[.agg #[.int .u8 a0_0, .int .i64 a0_1, .int .i64 a0_2, .int .i64 a0_3, .int .i64 a0_4, .int .i64 a0_5, .slice A0_6 l0_6.length c0_6], .int .u8 a1] rfl (by (try simp only [List.map_toArray, List.map_cons, List.map_nil]); first | done | rfl | (simp only [List.length_drop, List.length_take]; rfl)) ?_; (with_reducible refine (least_Along.calls a0_0 a0_1 a0_2 a0_3 a0_4 a0_5 _ _ l0_6 a1 true _ ?side1 ?side2 A17.out).mono ?_); (case side1 => repeat (first | exact (Kd.C_below HR0_6.out HB.out) | (with_reducible refine Kd.C_alloc ?_ _) | (with_reducible refine Kd.C_drewN ?_ _) | (with_reducible refine Kd.C_drew ?_))); (case side2 => exact HC0_6.out); rintro e w20 ⟨rfl, hb⟩; refine ⟨_, rfl, ?_⟩; have n0_ := Aside0.mk (blk_below (g := gb966) (o := .cells #[.int .u8 a0_0, .int .i64 a0_1, .int .i64 a0_2, .int .i64 a0_3, .int .i64 a0_4, .int .i64 a0_5, .slice A0_6 l0_6.length c0_6] 26 (0, 0)) (by (with_reducible repeat (first | refine blk_drewN ?_ _ | refine blk_drew ?_ | refine blk_alloc ?_ _)); exact BK966.out) hb); have n1_ := Aside0.mk (below_step (by repeat (first | (with_reducible first | exact HB.out | apply below_alloc | apply pw_below_drewN | apply below_drew1 | refine below_set ?_ GE966.out) | exact HB.out)) hb); clear BK966; clear HB; have BK966 := n0_; have HB := n1_; clear n0_ n1_; (try clear hb); (try clear hb2); (try clear hk); (try clear hi)))
      go_ret
      exact ⟨by first | rfl | (simp [errW_none, errW_some] <;> rfl) | (simp [*, errW_none, errW_some] <;> rfl), by repeat (first | (with_reducible first | exact HB.out | apply below_alloc | apply pw_below_drewN | apply below_drew1 | refine below_set ?_ GE966.out) | exact HB.out)⟩
     ·replace c18 := Bool.eq_false_iff.mpr c18
      subst c18
      have H1 : (some x6_1) = some r := by rw [if_neg (show ¬ (false = true) by decide)] at H; exact H
      clear H
      have H := H1
      clear H1
      obtain rfl := Option.some.inj H
      have hcz21_0 : wr.cell? ⟨gb966, 0, none⟩ = some (.int .u8 a0_0) := (blk_cell BK966.out 0).trans rfl
      have hcz21_1 : wr.cell? ⟨gb966, 1, none⟩ = some (.int .i64 a0_1) := (blk_cell BK966.out 1).trans rfl
      have hcz21_2 : wr.cell? ⟨gb966, 2, none⟩ = some (.int .i64 a0_2) := (blk_cell BK966.out 2).trans rfl
      have hcz21_3 : wr.cell? ⟨gb966, 3, none⟩ = some (.int .i64 a0_3) := (blk_cell BK966.out 3).trans rfl
      have hcz21_4 : wr.cell? ⟨gb966, 4, none⟩ = some (.int .i64 a0_4) := (blk_cell BK966.out 4).trans rfl
      have hcz21_5 : wr.cell? ⟨gb966, 5, none⟩ = some (.int .i64 a0_5) := (blk_cell BK966.out 5).trans rfl
      have hcz21_6 : wr.cell? ⟨gb966, 6, none⟩ = some (.slice A0_6 l0_6.length c0_6) := (blk_cell BK966.out 6).trans rfl
      have hfz21_0 := blk_frozen BK966.out 0
      have hfz21_1 := blk_frozen BK966.out 1
      have hfz21_2 := blk_frozen BK966.out 2
      have hfz21_3 := blk_frozen BK966.out 3
      have hfz21_4 := blk_frozen BK966.out 4
      have hfz21_5 := blk_frozen BK966.out 5
      have hfz21_6 := blk_frozen BK966.out 6
      go_wp2_with (first | ((with_reducible refine gate_callee (f := 99) rfl ?_); refine goesL_ (some 36) rfl rfl Try.func99 (by kernel_rfl) rfl #[.agg #[.int .u8 a0_0, .int .i64 a0_1, .int .i64 a0_2, .int .i64 a0_3, .int .i64 a0_4, .int .i64 a0_5, .slice A0_6 l0_6.length c0_6], .int .u8 a1] rfl (by (try simp only [List.map_toArray, List.map_cons, List.map_nil]); first | done | rfl | (simp only [List.length_drop, List.length_take]; rfl)) ?_; (with_reducible refine (least_Along.calls a0_0 a0_1 a0_2 a0_3 a0_4 a0_5 _ _ l0_6 a1 false _ ?side1 ?side2 A17.out).mono ?_); (case side1 => repeat (first | exact (Kd.C_below HR0_6.out HB.out) | (with_reducible refine Kd.C_alloc ?_ _) | (with_reducible refine Kd.C_drewN ?_ _) | (with_reducible refine Kd.C_drew ?_))); (case side2 => exact HC0_6.out); rintro e w22 ⟨rfl, hb⟩; refine ⟨_, rfl, ?_⟩; have n0_ := Aside0.mk (blk_below (g := gb966) (o := .cells #[.int .u8 a0_0, .int .i64 a0_1, .int .i64 a0_2, .int .i64 a0_3, .int .i64 a0_4, .int .i64 a0_5, .slice A0_6 l0_6.length c0_6] 26 (0, 0)) (by (with_reducible repeat (first | refine blk_drewN ?_ _ | refine blk_drew ?_ | refine blk_alloc ?_ _)); exact BK966.out) hb); have n1_ := Aside0.mk (below_step (by repeat (first | (with_reducible first | exact HB.out | apply below_alloc | apply pw_below_drewN | apply below_drew1 | refine below_set ?_ GE966.out) | exact HB.out)) hb); clear BK966; clear HB; have BK966 := n0_; have HB := n1_; clear n0_ n1_; (try clear hb); (try clear hb2); (try clear hk); (try clear hi)))
      go_ret
      exact ⟨by first | rfl | (simp [errW_none, errW_some] <;> rfl) | (simp [*, errW_none, errW_some] <;> rfl), by repeat (first | (with_reducible first | exact HB.out | apply below_alloc | apply pw_below_drewN | apply below_drew1 | refine below_set ?_ GE966.out) | exact HB.out)⟩

end Go.Proofs.Ytfdmfgaiblfbhaa.P
/- The contract of least.axes, in a form that other texts lean on. -/
namespace Go.Proofs.Ytfdmfgaiblfbhaa.P
open Go.RowKit Go.Proofs.YtfdmfgaiblfbhaaW.PrintWords Go.Proofs.YtfdmfgaiblfbhaaW.PrintLast Go.Proofs.YtfdmfgaiblfbhaaW.PrintMore
attribute [local go_sem] max2_int min2_int max_two min_two max_three min_three max_four min_four   -- for this text's walks alone
set_option linter.unusedVariables false
set_option linter.unusedSimpArgs false

/-! ### least_axes: function 147 -/
def least_axes.f (a0 : Int) : Option (Bool) := if a0 = 1 then (some true) else (some (a0 == 2))
set_option maxHeartbeats 8000000 in
set_option maxRecDepth 100000 in
theorem least_axes.calls0 (a0 : Int) (r : Bool) (w : World) (h : least_axes.f a0 = some r) :
    Calls Try.prog 147 #[.int .u8 a0] w fun e w' => e = .returned (.bool r) ∧ Drawn0 w w' := by
  have H : (if a0 = 1 then (some true) else (some (a0 == 2))) = some r := h
  clear h
  by_cases c2 : a0 = 1
  · rw [if_pos c2] at H
    have c2b0 : (a0 == 1) = true := beq_iff_eq.mpr c2
    have c2b1 : (a0 != 1) = false := bne_eq_false_iff_eq.mpr c2
    clear c2
    obtain rfl := Option.some.inj H
    go_enter Try.func147, Try.ntmps147
    go_wp2
    go_ret
    exact ⟨by first | rfl | (simp; done) | (simp [*]; done), by repeat (first | exact Drawn0.refl _ | apply Drawn0.step)⟩
  · rw [if_neg c2] at H
    have c2b0 : (a0 == 1) = false := beq_eq_false_iff_ne.mpr c2
    have c2b1 : (a0 != 1) = true := bne_iff_ne.mpr c2
    obtain rfl := Option.some.inj H
    go_enter Try.func147, Try.ntmps147
    go_wp2
    go_ret
    exact ⟨by first | rfl | (simp; done) | (simp [*]; done), by repeat (first | exact Drawn0.refl _ | apply Drawn0.step)⟩

theorem least_axes.calls (a0 : Int) (r : Bool) (w : World) (h : least_axes.f a0 = some r) :
    Calls Try.prog 147 #[.int .u8 a0] w fun e w' => e = .returned (.bool r) ∧ Below w.heap.size w w' := by
  refine (least_axes.calls0 a0 r w h).mono ?_
  rintro e w' ⟨he, n, rfl⟩
  exact ⟨he, pw_below_drewN (Below.refl _ _) n⟩
end Go.Proofs.Ytfdmfgaiblfbhaa.P
/- A row gone through till a test says yes: plain words. -/
namespace Go.Proofs.Ytfdmfgaiblfbhaa.P
open Go.RowKit Go.Proofs.YtfdmfgaiblfbhaaW.PrintWords Go.Proofs.YtfdmfgaiblfbhaaW.PrintLast Go.Proofs.YtfdmfgaiblfbhaaW.PrintMore
/-- A call of a function that has a body enters it. -/
theorem enters_fn {P : Program} {f : FuncId} {fn : Func} (hf : P.funcs[f]? = some fn) (hname : (fn.name == "runtime.NumGoroutine") = false) (hb : fn.body.isSome = true) : ∀ args w, (callFunc f args).run P w = .ok (.enter f args) w := by
  intro args w
  obtain ⟨c, hc⟩ := Option.isSome_iff_exists.1 hb
  have h1 : fn.name ≠ "runtime.NumGoroutine" := by simpa using hname
  simp [callFunc, hf, h1, hc, mark]
section
variable {σ α : Type}
/-- Where the test first says yes (-1), and the state behind. -/
def scanI (step : σ → α → Bool × σ) : Int → σ → List α → Int × σ
  | _, s, [] => (-1, s)
  | i, s, x :: xs => if (step s x).1 = true then (i, (step s x).2) else scanI step (i + 1) (step s x).2 xs
/-- Whether it ever does. -/
def scanB (step : σ → α → Bool × σ) : σ → List α → Bool × σ
  | s, [] => (false, s)
  | s, x :: xs => if (step s x).1 = true then (true, (step s x).2) else scanB step (step s x).2 xs
theorem scanI_B (step : σ → α → Bool × σ) : ∀ (l : List α) (i : Int) (s : σ), 0 ≤ i → (scanB step s l).1 = decide (0 ≤ (scanI step i s l).1) ∧ (scanB step s l).2 = (scanI step i s l).2 := by
  intro l
  induction l with
  | nil => intro i s h; exact ⟨by simp [scanB, scanI], rfl⟩
  | cons x xs ih =>
    intro i s h
    simp only [scanB, scanI]
    split
    · exact ⟨by simp [h], rfl⟩
    · exact ih (i + 1) _ (by omega)
theorem scanB_eq (step : σ → α → Bool × σ) (s : σ) (l : List α) : scanB step s l = (decide (0 ≤ (scanI step 0 s l).1), (scanI step 0 s l).2) := by
  have h := scanI_B step l 0 s (by omega)
  exact Prod.ext h.1 h.2
theorem scan_at (step : σ → α → Bool × σ) (z : α) (l : List α) (k : Nat) (h : k < l.length) (t : σ) :
    scanI step k t (l.drop k) = if (step t (l.getD (k : Int).toNat z)).1 = true then ((k : Int), (step t (l.getD (k : Int).toNat z)).2) else scanI step ((k + 1 : Nat) : Int) (step t (l.getD (k : Int).toNat z)).2 (l.drop (k + 1)) := by
  rw [List.drop_eq_getElem_cons h]
  simp only [scanI, Int.toNat_natCast, List.getD_eq_getElem?_getD, List.getElem?_eq_getElem h, Option.getD_some]
  rfl
theorem scan_mem (z : α) (l : List α) (k : Nat) (h : k < l.length) : l.getD (k : Int).toNat z ∈ l := by
  simp only [Int.toNat_natCast, List.getD_eq_getElem?_getD, List.getElem?_eq_getElem h, Option.getD_some]
  exact List.getElem_mem h
/-- A test without a state. -/
theorem scanB_any (p : α → Bool) : ∀ (l : List α) (s : Unit), scanB (fun _ x => (p x, ())) s l = (l.any p, ()) := by
  intro l
  induction l with
  | nil => intro s; rfl
  | cons x xs ih =>
    intro s
    simp only [scanB, List.any_cons]
    cases h : p x with
    | true => simp
    | false => simp [ih]
end
end Go.Proofs.Ytfdmfgaiblfbhaa.P
/- slices.IndexFunc, slices.ContainsFunc at S26, with any function value that keeps an invariant of the world and of what is left of the row. -/
namespace Go.Proofs.Ytfdmfgaiblfbhaa.P
open Go.RowKit Go.Proofs.YtfdmfgaiblfbhaaW.PrintWords Go.Proofs.YtfdmfgaiblfbhaaW.PrintLast Go.Proofs.YtfdmfgaiblfbhaaW.PrintMore

set_option maxHeartbeats 2000000 in
set_option maxRecDepth 100000 in
theorem idxs192 (Inv : List S26 → World → Prop) (r : S26 → Bool) (g : Nat) (lb : Array Value) (eg : ∀ args w, (callFunc g args).run Try.prog w = .ok (.enter g args) w) (l : List S26) (A : Option Addr) (c : Nat)
    (w0 : World) (hR : Kd.C k26 w0 A l.length l) (hW : ∀ s W, Inv s W → Below w0.heap.size w0 W) (hD : ∀ s W n, Inv s W → Inv s (W.drewN n))
    (hcall : ∀ (x : S26) (rest : List S26) (W : World) (B : Option Addr) (cb : Nat), x ∈ l → (∃ pre, pre ++ x :: rest = l) → Inv (x :: rest) W → Kd.C k26 w0 B x.f3.length x.f3 → x.f3.length ≤ cb → Calls Try.prog g (#[.agg #[.int .u8 x.f0, .int .i64 x.f1.f0, .int .i64 x.f1.f1, .int .i64 x.f1.f2, .int .i64 x.f1.f3, .int .i64 x.f2, .slice B x.f3.length cb]] ++ lb) W fun e w' => e = .returned (.bool (r x)) ∧ Inv (if r x = true then [] else rest) w')
    (w : World) (hI : Inv l w) (hl : l.length ≤ 9223372036854775807) :
    Calls Try.prog 192 #[.slice A l.length c, .func (.func g) #[] lb] w fun e w' => ∃ i : Int, e = .returned (.int .i64 i) ∧ decide (i ≥ 0) = l.any r ∧ Inv [] w' := by
  have HR := Aside0.mk hR
  have HW := Aside0.mk hW
  have HD := Aside0.mk hD
  have HI := Aside0.mk hI
  have HCall := Aside0.mk hcall
  clear hR hW hcall hD hI
  go_enter Try.func192, Try.ntmps192
  go_wp2
  go_loopg [5, 8] l.length (fun gg _ v8 wr => ∃ (kk : Nat), kk ≤ l.length ∧ l.length - kk ≤ gg ∧ v8 = .int .i64 kk ∧ Aside0 (Inv (l.drop kk) wr) ∧ Aside0 (l.any r = (l.drop kk).any r))
  case atStart => exact ⟨0, Nat.zero_le _, by omega, rfl, ⟨by simpa using HI.out⟩, ⟨by simp⟩⟩
  case round =>
    clear HI
    obtain ⟨kk, hkk, hg, rfl, HI, HS⟩ := hrel
    by_cases hlt : kk < l.length
    · have hltz : (kk : Int) < (l.length : Int) := by omega
      obtain ⟨ad, B, cb, rfl, hc0, hc1, hc2, hc3, hc4, hc5, hc6, hlb, hgb⟩ := at_T26 HR.out (kk : Int) (by omega) (by omega)
      have hbw := HW.out _ wr HI.out
      replace hc0 := (hbw.cell (World.block_lt_of_cell? w0 _ hc0)).trans hc0
      replace hc1 := (hbw.cell (World.block_lt_of_cell? w0 _ hc1)).trans hc1
      replace hc2 := (hbw.cell (World.block_lt_of_cell? w0 _ hc2)).trans hc2
      replace hc3 := (hbw.cell (World.block_lt_of_cell? w0 _ hc3)).trans hc3
      replace hc4 := (hbw.cell (World.block_lt_of_cell? w0 _ hc4)).trans hc4
      replace hc5 := (hbw.cell (World.block_lt_of_cell? w0 _ hc5)).trans hc5
      replace hc6 := (hbw.cell (World.block_lt_of_cell? w0 _ hc6)).trans hc6
      clear hbw
      have hmem : (rd_T26 l (kk : Int)) ∈ l := scan_mem z26 l kk hlt
      have hdr : l.drop kk = rd_T26 l (kk : Int) :: l.drop (kk + 1) := by
        rw [List.drop_eq_getElem_cons hlt]
        simp only [rd_T26, Int.toNat_natCast, List.getD_eq_getElem?_getD, List.getElem?_eq_getElem hlt, Option.getD_some]
      have HX : Aside0 ((l.drop kk).any r = (r (rd_T26 l (kk : Int)) || (l.drop (kk + 1)).any r)) := ⟨by rw [hdr, List.any_cons]⟩
      have hcall := HCall.out _ (l.drop (kk + 1)) wr B cb hmem ⟨l.take kk, by rw [← hdr]; exact List.take_append_drop kk l⟩ (by rw [← hdr]; exact HI.out) hgb hlb
      clear hmem hgb hlb hdr
      simp only [Int.toNat_natCast] at hc0 hc1 hc2 hc3 hc4 hc5 hc6
      generalize rd_T26 l (kk : Int) = x at hc0 hc1 hc2 hc3 hc4 hc5 hc6 HX hcall
      have HC := Aside0.mk hcall
      clear hcall
      cases hq : r x with
      | true =>
        have h := HC.out
        rw [hq, if_pos rfl] at h
        have HH := Aside0.mk h
        have HQ := Aside0.mk hq
        clear hq HC h
        go_wp2_with fail
        refine HH.out.mono ?_
        rintro e w' ⟨rfl, hb'⟩
        have HB := Aside0.mk hb'
        clear hb'
        go_wp2
        go_ret
        refine ⟨_, rfl, ?_, HB.out⟩
        rw [HS.out, HX.out, HQ.out, Bool.true_or]
        exact decide_eq_true (by omega)
      | false =>
        have h := HC.out
        rw [hq, if_neg (by simp)] at h
        have HH := Aside0.mk h
        have HQ := Aside0.mk hq
        clear hq HC h
        go_wp2_with fail
        refine HH.out.mono ?_
        rintro e w' ⟨rfl, hb'⟩
        have HB := Aside0.mk hb'
        clear hb'
        go_wp2
        go_roundg (l.length - (kk + 1))
        case measure => omega
        case rel =>
          refine ⟨kk + 1, by omega, by omega, by go_num, HB, ⟨?_⟩⟩
          rw [HS.out, HX.out, HQ.out, Bool.false_or]
    · have hltz : ¬ (kk : Int) < (l.length : Int) := by omega
      have hd : l.drop kk = [] := List.drop_eq_nil_of_le (by omega)
      have HI2 := Aside0.mk (hd ▸ HI.out)
      have HS2 := Aside0.mk (hd ▸ HS.out)
      clear HI HS hd
      go_wp2
      go_ret
      refine ⟨_, rfl, ?_, HI2.out⟩
      rw [HS2.out]
      rfl

set_option maxHeartbeats 1000000 in
theorem cons174 (Inv : List S26 → World → Prop) (r : S26 → Bool) (g : Nat) (lb : Array Value) (eg : ∀ args w, (callFunc g args).run Try.prog w = .ok (.enter g args) w) (l : List S26) (A : Option Addr) (c : Nat)
    (w0 : World) (hR : Kd.C k26 w0 A l.length l) (hW : ∀ s W, Inv s W → Below w0.heap.size w0 W) (hD : ∀ s W n, Inv s W → Inv s (W.drewN n))
    (hcall : ∀ (x : S26) (rest : List S26) (W : World) (B : Option Addr) (cb : Nat), x ∈ l → (∃ pre, pre ++ x :: rest = l) → Inv (x :: rest) W → Kd.C k26 w0 B x.f3.length x.f3 → x.f3.length ≤ cb → Calls Try.prog g (#[.agg #[.int .u8 x.f0, .int .i64 x.f1.f0, .int .i64 x.f1.f1, .int .i64 x.f1.f2, .int .i64 x.f1.f3, .int .i64 x.f2, .slice B x.f3.length cb]] ++ lb) W fun e w' => e = .returned (.bool (r x)) ∧ Inv (if r x = true then [] else rest) w')
    (w : World) (hI : Inv l w) (hl : l.length ≤ 9223372036854775807) :
    Calls Try.prog 174 #[.slice A l.length c, .func (.func g) #[] lb] w fun e w' => e = .returned (.bool (l.any r)) ∧ Inv [] w' := by
  have hi := idxs192 Inv r g lb eg l A c w0 hR hW hD hcall w hI hl
  clear hR hW hD hcall hI
  have HI := Aside0.mk hi
  clear hi
  go_enter Try.func174, Try.ntmps174
  go_wp2_with fail
  refine HI.out.mono ?_
  rintro e w' ⟨i, rfl, hd, hb'⟩
  have HB := Aside0.mk hb'
  have HN := Aside0.mk hd
  clear hb' hd
  go_wp2
  go_ret
  exact ⟨by rw [← HN.out]; rfl, HB.out⟩
end Go.Proofs.Ytfdmfgaiblfbhaa.P
namespace Go.Proofs.Ytfdmfgaiblfbhaa.P
open Go.RowKit Go.Proofs.YtfdmfgaiblfbhaaW.PrintWords Go.Proofs.YtfdmfgaiblfbhaaW.PrintLast Go.Proofs.YtfdmfgaiblfbhaaW.PrintMore
attribute [local go_sem] max2_int min2_int max_two min_two max_three min_three max_four min_four   -- for this text's walks alone
set_option linter.unusedVariables false
set_option linter.unusedSimpArgs false

theorem eqA23 (d : Nat) (w : World) (x0 y0 : Int) (x1 y1 : Int) (x2 y2 : Int) (x3 y3 : Int) :
    (Op.equalIn (d + 2) 23 (.agg #[.int .i64 x0, .int .i64 x1, .int .i64 x2, .int .i64 x3]) (.agg #[.int .i64 y0, .int .i64 y1, .int .i64 y2, .int .i64 y3])).run Try.prog w = .ok (x0 == y0 && (x1 == y1 && (x2 == y2 && (x3 == y3)))) w := by
  refine eqA_of Try.underlying23 (by kernel_rfl) ?_
  refine eqf_cons (by rfl) (by go_simp; rfl) (by go_simp; rfl) (by go_simp) ?_
  refine eqf_cons (by rfl) (by go_simp; rfl) (by go_simp; rfl) (by go_simp) ?_
  refine eqf_cons (by rfl) (by go_simp; rfl) (by go_simp; rfl) (by go_simp) ?_
  exact eqf_last (by rfl) (by go_simp; rfl) (by go_simp; rfl) (by go_simp)
end Go.Proofs.Ytfdmfgaiblfbhaa.P
namespace Go.Proofs.Ytfdmfgaiblfbhaa.P
open Go.RowKit Go.Proofs.YtfdmfgaiblfbhaaW.PrintWords Go.Proofs.YtfdmfgaiblfbhaaW.PrintLast Go.Proofs.YtfdmfgaiblfbhaaW.PrintMore
attribute [local go_sem] max2_int min2_int max_two min_two max_three min_three max_four min_four   -- for this text's walks alone
set_option linter.unusedVariables false
set_option linter.unusedSimpArgs false

/-! ### rect_turned: function 127 -/
def rect_turned.f (a0_0 : Int) (a0_1 : Int) (a0_2 : Int) (a0_3 : Int) (a1 : Int) : Option (Int × Int × Int × Int × Bool) := if a1 = 2 then (some (a0_1, a0_0, a0_3, a0_2, true)) else (if a1 = 1 then (some (a0_0, a0_1, a0_2, a0_3, true)) else (some (0, 0, 0, 0, false)))
set_option maxHeartbeats 8000000 in
set_option maxRecDepth 100000 in
theorem rect_turned.calls (a0_0 : Int) (a0_1 : Int) (a0_2 : Int) (a0_3 : Int) (a1 : Int) (r1 : Int) (r2 : Int) (r3 : Int) (r4 : Int) (r5 : Bool) (w : World) (h : rect_turned.f a0_0 a0_1 a0_2 a0_3 a1 = some (r1, r2, r3, r4, r5)) :
  Calls Try.prog 127 #[.agg #[.int .i64 a0_0, .int .i64 a0_1, .int .i64 a0_2, .int .i64 a0_3], .int .u8 a1] w fun e w' => e = .returned (.tuple #[.agg #[.int .i64 r1, .int .i64 r2, .int .i64 r3, .int .i64 r4], .bool r5]) ∧ Below w.heap.size w w' := by
 have hu23 := Try.underlying23
 have HB := Aside0.mk (Below.refl w.heap.size w)
 have H : (if a1 = 2 then (some (a0_1, a0_0, a0_3, a0_2, true)) else (if a1 = 1 then (some (a0_0, a0_1, a0_2, a0_3, true)) else (some (0, 0, 0, 0, false)))) = some (r1, r2, r3, r4, r5) := h
 clear h
 by_cases c3 : a1 = 2
 ·rw [if_pos c3] at H
  have c3b0 : (a1 == 2) = true := beq_iff_eq.mpr c3
  have c3b1 : (a1 != 2) = false := bne_eq_false_iff_eq.mpr c3
  clear c3
  simp only [Option.some.injEq, Prod.mk.injEq] at H
  obtain ⟨rfl, rfl, rfl, rfl, rfl⟩ := H
  go_enter Try.func127, Try.ntmps127
  go_wp2_with (first | ((with_reducible refine gate_dst (N := 2) rfl ?_); refine box_event ?hg (N := 2) ?hd (cs := #[.int .i64 a0_0, .int .i64 a0_1, .int .i64 a0_2, .int .i64 a0_3]) (t := 23) ?hr ?_; (case hd => rfl); (case hg => rfl); (case hr => first | (go_simp; done) | (go_simp; rfl)); intro gb243 hg w4 hbox hb; have n0_ := Aside0.mk (below_step (by repeat (first | (with_reducible first | exact HB.out | apply below_alloc | apply pw_below_drewN | apply below_drew1) | exact HB.out)) hb); have n1_ := Aside0.mk (hbox); have n2_ := Aside0.mk ((by rw [hg]; exact (below_size (by repeat (first | (with_reducible first | exact HB.out | apply below_alloc | apply pw_below_drewN | apply below_drew1) | exact HB.out))) : w.heap.size ≤ gb243)); have n3_ := Aside0.mk ((by rw [hg]; exact (below_size (by repeat (first | (with_reducible first | exact HB.out | apply below_alloc | apply pw_below_drewN | apply below_drew1) | exact HB.out))) : w.heap.size ≤ gb243)); clear HB; have HB := n0_; have BK243 := n1_; have GW243 := n2_; have GE243 := n3_; clear n0_ n1_ n2_ n3_; clear hb hbox hg) | ((with_reducible refine gate_dst (N := 4) rfl ?_); refine box_event ?hg (N := 4) ?hd (cs := #[.int .i64 0, .int .i64 0, .int .i64 0, .int .i64 0]) (t := 23) ?hr ?_; (case hd => rfl); (case hg => rfl); (case hr => first | (go_simp; done) | (go_simp; rfl)); intro gb244 hg w5 hbox hb; have n0_ := Aside0.mk (blk_below (g := gb243) (o := .cells #[.int .i64 a0_0, .int .i64 a0_1, .int .i64 a0_2, .int .i64 a0_3] 23 (0, 0)) (by (with_reducible repeat (first | refine blk_drewN ?_ _ | refine blk_drew ?_ | refine blk_alloc ?_ _)); exact BK243.out) hb); have n1_ := Aside0.mk (below_step (by repeat (first | (with_reducible first | exact HB.out | apply below_alloc | apply pw_below_drewN | apply below_drew1 | refine below_set ?_ GE243.out) | exact HB.out)) hb); have n2_ := Aside0.mk (hbox); have n3_ := Aside0.mk ((by rw [hg]; exact (below_size (by repeat (first | (with_reducible first | exact HB.out | apply below_alloc | apply pw_below_drewN | apply below_drew1 | refine below_set ?_ GE243.out) | exact HB.out))) : w.heap.size ≤ gb244)); have n4_ := Aside0.mk ((by rw [hg]; exact (below_size (by repeat (first | (with_reducible first | exact HB.out | apply below_alloc | apply pw_below_drewN | apply below_drew1 | refine below_set ?_ GE243.out) | exact HB.out))) : w.heap.size ≤ gb244)); have n5_ := Aside0.mk ((by rw [hg]; exact Nat.ne_of_lt (blk_lt (g := gb243) (o := .cells #[.int .i64 a0_0, .int .i64 a0_1, .int .i64 a0_2, .int .i64 a0_3] 23 (0, 0)) (by (with_reducible repeat (first | refine blk_drewN ?_ _ | refine blk_drew ?_ | refine blk_alloc ?_ _)); exact BK243.out)) : gb243 ≠ gb244)); have n6_ := Aside0.mk ((by rw [hg]; exact Nat.ne_of_gt (blk_lt (g := gb243) (o := .cells #[.int .i64 a0_0, .int .i64 a0_1, .int .i64 a0_2, .int .i64 a0_3] 23 (0, 0)) (by (with_reducible repeat (first | refine blk_drewN ?_ _ | refine blk_drew ?_ | refine blk_alloc ?_ _)); exact BK243.out)) : gb244 ≠ gb243)); clear BK243; clear HB; have BK243 := n0_; have HB := n1_; have BK244 := n2_; have GW244 := n3_; have GE244 := n4_; have NB243_244 := n5_; have NB244_243 := n6_; clear n0_ n1_ n2_ n3_ n4_ n5_ n6_; clear hb hbox hg; have hnb6 := NB243_244.out; have hnc6 := NB244_243.out; have hcz7_0 : w5.cell? ⟨gb243, 0, none⟩ = some (.int .i64 a0_0) := (blk_cell BK243.out 0).trans rfl; have hcz7_1 : w5.cell? ⟨gb243, 1, none⟩ = some (.int .i64 a0_1) := (blk_cell BK243.out 1).trans rfl; have hcz7_2 : w5.cell? ⟨gb243, 2, none⟩ = some (.int .i64 a0_2) := (blk_cell BK243.out 2).trans rfl; have hcz7_3 : w5.cell? ⟨gb243, 3, none⟩ = some (.int .i64 a0_3) := (blk_cell BK243.out 3).trans rfl; have hfz7_0 := blk_frozen BK243.out 0; have hfz7_1 := blk_frozen BK243.out 1; have hfz7_2 := blk_frozen BK243.out 2; have hfz7_3 := blk_frozen BK243.out 3; have hcz8_0 : w5.cell? ⟨gb244, 0, none⟩ = some (.int .i64 0) := (blk_cell BK244.out 0).trans rfl; have hcz8_1 : w5.cell? ⟨gb244, 1, none⟩ = some (.int .i64 0) := (blk_cell BK244.out 1).trans rfl; have hcz8_2 : w5.cell? ⟨gb244, 2, none⟩ = some (.int .i64 0) := (blk_cell BK244.out 2).trans rfl; have hcz8_3 : w5.cell? ⟨gb244, 3, none⟩ = some (.int .i64 0) := (blk_cell BK244.out 3).trans rfl; have hfz8_0 := blk_frozen BK244.out 0; have hfz8_1 := blk_frozen BK244.out 1; have hfz8_2 := blk_frozen BK244.out 2; have hfz8_3 := blk_frozen BK244.out 3))
  refine bodyPost_ret (results_ct rfl _ _ gb244 23 #[.int .i64 a0_1, .int .i64 a0_0, .int .i64 a0_3, .int .i64 a0_2] (0, 0) _ rfl (by (with_reducible repeat (first | refine blk_drewN ?_ _ | refine blk_drew ?_ | refine blk_alloc ?_ _)); refine blk_put (cs := #[.int .i64 a0_1, .int .i64 a0_0, .int .i64 a0_3, .int .i64 a0_2]) ?_ 3 _ rfl; (with_reducible repeat (first | refine blk_drewN ?_ _ | refine blk_drew ?_ | refine blk_alloc ?_ _)); refine blk_put (cs := #[.int .i64 a0_1, .int .i64 a0_0, .int .i64 a0_3, .int .i64 a0_2]) ?_ 2 _ rfl; (with_reducible repeat (first | refine blk_drewN ?_ _ | refine blk_drew ?_ | refine blk_alloc ?_ _)); refine blk_put (cs := #[.int .i64 a0_1, .int .i64 a0_0, .int .i64 a0_3, .int .i64 a0_2]) ?_ 1 _ rfl; (with_reducible repeat (first | refine blk_drewN ?_ _ | refine blk_drew ?_ | refine blk_alloc ?_ _)); refine blk_put (cs := #[.int .i64 a0_1, .int .i64 a0_0, .int .i64 a0_3, .int .i64 a0_2]) ?_ 0 _ rfl; (with_reducible repeat (first | refine blk_drewN ?_ _ | refine blk_drew ?_ | refine blk_alloc ?_ _)); refine blk_put (cs := #[.int .i64 a0_1, .int .i64 a0_0, .int .i64 a0_3, .int .i64 0]) ?_ 3 _ rfl; (with_reducible repeat (first | refine blk_drewN ?_ _ | refine blk_drew ?_ | refine blk_alloc ?_ _)); refine blk_put (cs := #[.int .i64 a0_1, .int .i64 a0_0, .int .i64 0, .int .i64 0]) ?_ 2 _ rfl; (with_reducible repeat (first | refine blk_drewN ?_ _ | refine blk_drew ?_ | refine blk_alloc ?_ _)); refine blk_put (cs := #[.int .i64 a0_1, .int .i64 0, .int .i64 0, .int .i64 0]) ?_ 1 _ rfl; (with_reducible repeat (first | refine blk_drewN ?_ _ | refine blk_drew ?_ | refine blk_alloc ?_ _)); refine blk_put (cs := #[.int .i64 0, .int .i64 0, .int .i64 0, .int .i64 0]) ?_ 0 _ rfl; (with_reducible repeat (first | refine blk_drewN ?_ _ | refine blk_drew ?_ | refine blk_alloc ?_ _)); refine blk_far ?_ NB244_243.out _; (with_reducible repeat (first | refine blk_drewN ?_ _ | refine blk_drew ?_ | refine blk_alloc ?_ _)); refine blk_far ?_ NB244_243.out _; (with_reducible repeat (first | refine blk_drewN ?_ _ | refine blk_drew ?_ | refine blk_alloc ?_ _)); refine blk_far ?_ NB244_243.out _; (with_reducible repeat (first | refine blk_drewN ?_ _ | refine blk_drew ?_ | refine blk_alloc ?_ _)); refine blk_far ?_ NB244_243.out _; (with_reducible repeat (first | refine blk_drewN ?_ _ | refine blk_drew ?_ | refine blk_alloc ?_ _)); exact BK244.out) Try.underlying23 rfl (by kernel_rfl)) rfl ?_
  exact ⟨by first | rfl | (simp [errW_none, errW_some] <;> rfl) | (simp [*, errW_none, errW_some] <;> rfl), by repeat (first | (with_reducible first | exact HB.out | apply below_alloc | apply pw_below_drewN | apply below_drew1 | refine below_set ?_ GE243.out | refine below_set ?_ GE244.out) | exact HB.out)⟩
 ·rw [if_neg c3] at H
  have c3b0 : (a1 == 2) = false := beq_eq_false_iff_ne.mpr c3
  have c3b1 : (a1 != 2) = true := bne_iff_ne.mpr c3
  by_cases c9 : a1 = 1
  ·rw [if_pos c9] at H
   have c9b0 : (a1 == 1) = true := beq_iff_eq.mpr c9
   have c9b1 : (a1 != 1) = false := bne_eq_false_iff_eq.mpr c9
   clear c9
   simp only [Option.some.injEq, Prod.mk.injEq] at H
   obtain ⟨rfl, rfl, rfl, rfl, rfl⟩ := H
   go_enter Try.func127, Try.ntmps127
   go_wp2_with (first | ((with_reducible refine gate_dst (N := 2) rfl ?_); refine box_event ?hg (N := 2) ?hd (cs := #[.int .i64 a0_0, .int .i64 a0_1, .int .i64 a0_2, .int .i64 a0_3]) (t := 23) ?hr ?_; (case hd => rfl); (case hg => rfl); (case hr => first | (go_simp; done) | (go_simp; rfl)); intro gb243 hg w10 hbox hb; have n0_ := Aside0.mk (below_step (by repeat (first | (with_reducible first | exact HB.out | apply below_alloc | apply pw_below_drewN | apply below_drew1) | exact HB.out)) hb); have n1_ := Aside0.mk (hbox); have n2_ := Aside0.mk ((by rw [hg]; exact (below_size (by repeat (first | (with_reducible first | exact HB.out | apply below_alloc | apply pw_below_drewN | apply below_drew1) | exact HB.out))) : w.heap.size ≤ gb243)); have n3_ := Aside0.mk ((by rw [hg]; exact (below_size (by repeat (first | (with_reducible first | exact HB.out | apply below_alloc | apply pw_below_drewN | apply below_drew1) | exact HB.out))) : w.heap.size ≤ gb243)); clear HB; have HB := n0_; have BK243 := n1_; have GW243 := n2_; have GE243 := n3_; clear n0_ n1_ n2_ n3_; clear hb hbox hg) | ((with_reducible refine gate_dst (N := 4) rfl ?_); refine box_event ?hg (N := 4) ?hd (cs := #[.int .i64 0, .int .i64 0, .int .i64 0, .int .i64 0]) (t := 23) ?hr ?_; (case hd => rfl); (case hg => rfl); (case hr => first | (go_simp; done) | (go_simp; rfl)); intro gb244 hg w11 hbox hb; have n0_ := Aside0.mk (blk_below (g := gb243) (o := .cells #[.int .i64 a0_0, .int .i64 a0_1, .int .i64 a0_2, .int .i64 a0_3] 23 (0, 0)) (by (with_reducible repeat (first | refine blk_drewN ?_ _ | refine blk_drew ?_ | refine blk_alloc ?_ _)); exact BK243.out) hb); have n1_ := Aside0.mk (below_step (by repeat (first | (with_reducible first | exact HB.out | apply below_alloc | apply pw_below_drewN | apply below_drew1 | refine below_set ?_ GE243.out) | exact HB.out)) hb); have n2_ := Aside0.mk (hbox); have n3_ := Aside0.mk ((by rw [hg]; exact (below_size (by repeat (first | (with_reducible first | exact HB.out | apply below_alloc | apply pw_below_drewN | apply below_drew1 | refine below_set ?_ GE243.out) | exact HB.out))) : w.heap.size ≤ gb244)); have n4_ := Aside0.mk ((by rw [hg]; exact (below_size (by repeat (first | (with_reducible first | exact HB.out | apply below_alloc | apply pw_below_drewN | apply below_drew1 | refine below_set ?_ GE243.out) | exact HB.out))) : w.heap.size ≤ gb244)); have n5_ := Aside0.mk ((by rw [hg]; exact Nat.ne_of_lt (blk_lt (g := gb243) (o := .cells #[.int .i64 a0_0, .int .i64 a0_1, .int .i64 a0_2, .int .i64 a0_3] 23 (0, 0)) (by (with_reducible repeat (first | refine blk_drewN ?_ _ | refine blk_drew ?_ | refine blk_alloc ?_ _)); exact BK243.out)) : gb243 ≠ gb244)); have n6_ := Aside0.mk ((by rw [hg]; exact Nat.ne_of_gt (blk_lt (g := gb243) (o := .cells #[.int .i64 a0_0, .int .i64 a0_1, .int .i64 a0_2, .int .i64 a0_3] 23 (0, 0)) (by (with_reducible repeat (first | refine blk_drewN ?_ _ | refine blk_drew ?_ | refine blk_alloc ?_ _)); exact BK243.out)) : gb244 ≠ gb243)); clear BK243; clear HB; have BK243 := n0_; have HB := n1_; have BK244 := n2_; have GW244 := n3_; have GE244 := n4_; have NB243_244 := n5_; have NB244_243 := n6_; clear n0_ n1_ n2_ n3_ n4_ n5_ n6_; clear hb hbox hg; have hnb12 := NB243_244.out; have hnc12 := NB244_243.out; have hcz13_0 : w11.cell? ⟨gb243, 0, none⟩ = some (.int .i64 a0_0) := (blk_cell BK243.out 0).trans rfl; have hcz13_1 : w11.cell? ⟨gb243, 1, none⟩ = some (.int .i64 a0_1) := (blk_cell BK243.out 1).trans rfl; have hcz13_2 : w11.cell? ⟨gb243, 2, none⟩ = some (.int .i64 a0_2) := (blk_cell BK243.out 2).trans rfl; have hcz13_3 : w11.cell? ⟨gb243, 3, none⟩ = some (.int .i64 a0_3) := (blk_cell BK243.out 3).trans rfl; have hfz13_0 := blk_frozen BK243.out 0; have hfz13_1 := blk_frozen BK243.out 1; have hfz13_2 := blk_frozen BK243.out 2; have hfz13_3 := blk_frozen BK243.out 3; have hcz14_0 : w11.cell? ⟨gb244, 0, none⟩ = some (.int .i64 0) := (blk_cell BK244.out 0).trans rfl; have hcz14_1 : w11.cell? ⟨gb244, 1, none⟩ = some (.int .i64 0) := (blk_cell BK244.out 1).trans rfl; have hcz14_2 : w11.cell? ⟨gb244, 2, none⟩ = some (.int .i64 0) := (blk_cell BK244.out 2).trans rfl; have hcz14_3 : w11.cell? ⟨gb244, 3, none⟩ = some (.int .i64 0) := (blk_cell BK244.out 3).trans rfl; have hfz14_0 := blk_frozen BK244.out 0; have hfz14_1 := blk_frozen BK244.out 1; have hfz14_2 := blk_frozen BK244.out 2; have hfz14_3 := blk_frozen BK244.out 3))
   refine bodyPost_ret (results_ct rfl _ _ gb244 23 #[.int .i64 a0_0, .int .i64 a0_1, .int .i64 a0_2, .int .i64 a0_3] (0, 0) _ rfl (by (with_reducible repeat (first | refine blk_drewN ?_ _ | refine blk_drew ?_ | refine blk_alloc ?_ _)); refine blk_put (cs := #[.int .i64 a0_0, .int .i64 a0_1, .int .i64 a0_2, .int .i64 a0_3]) ?_ 3 _ rfl; (with_reducible repeat (first | refine blk_drewN ?_ _ | refine blk_drew ?_ | refine blk_alloc ?_ _)); refine blk_put (cs := #[.int .i64 a0_0, .int .i64 a0_1, .int .i64 a0_2, .int .i64 a0_3]) ?_ 2 _ rfl; (with_reducible repeat (first | refine blk_drewN ?_ _ | refine blk_drew ?_ | refine blk_alloc ?_ _)); refine blk_put (cs := #[.int .i64 a0_0, .int .i64 a0_1, .int .i64 a0_2, .int .i64 a0_3]) ?_ 1 _ rfl; (with_reducible repeat (first | refine blk_drewN ?_ _ | refine blk_drew ?_ | refine blk_alloc ?_ _)); refine blk_put (cs := #[.int .i64 a0_0, .int .i64 a0_1, .int .i64 a0_2, .int .i64 a0_3]) ?_ 0 _ rfl; (with_reducible repeat (first | refine blk_drewN ?_ _ | refine blk_drew ?_ | refine blk_alloc ?_ _)); refine blk_put (cs := #[.int .i64 a0_0, .int .i64 a0_1, .int .i64 a0_2, .int .i64 0]) ?_ 3 _ rfl; (with_reducible repeat (first | refine blk_drewN ?_ _ | refine blk_drew ?_ | refine blk_alloc ?_ _)); refine blk_put (cs := #[.int .i64 a0_0, .int .i64 a0_1, .int .i64 0, .int .i64 0]) ?_ 2 _ rfl; (with_reducible repeat (first | refine blk_drewN ?_ _ | refine blk_drew ?_ | refine blk_alloc ?_ _)); refine blk_put (cs := #[.int .i64 a0_0, .int .i64 0, .int .i64 0, .int .i64 0]) ?_ 1 _ rfl; (with_reducible repeat (first | refine blk_drewN ?_ _ | refine blk_drew ?_ | refine blk_alloc ?_ _)); refine blk_put (cs := #[.int .i64 0, .int .i64 0, .int .i64 0, .int .i64 0]) ?_ 0 _ rfl; (with_reducible repeat (first | refine blk_drewN ?_ _ | refine blk_drew ?_ | refine blk_alloc ?_ _)); exact BK244.out) Try.underlying23 rfl (by kernel_rfl)) rfl ?_
   exact ⟨by first | rfl | (simp [errW_none, errW_some] <;> rfl) | (simp [*, errW_none, errW_some] <;> rfl), by repeat (first | (with_reducible first | exact HB.out | apply below_alloc | apply pw_below_drewN | apply below_drew1 | refine below_set ?_ GE243.out | refine below_set ?_ GE244.out) | exact HB.out)⟩
  ·rw [if_neg c9] at H
   have c9b0 : (a1 == 1) = false := beq_eq_false_iff_ne.mpr c9
   have c9b1 : (a1 != 1) = true := bne_iff_ne.mpr c9
   simp only [Option.some.injEq, Prod.mk.injEq] at H
   obtain ⟨rfl, rfl, rfl, rfl, rfl⟩ := H
   go_enter Try.func127, Try.ntmps127
   go_wp2_with (first | ((with_reducible refine gate_dst (N := 2) rfl ?_); refine box_event ?hg (N := 2) ?hd (cs := #[.int .i64 a0_0, .int .i64 a0_1, .int .i64 a0_2, .int .i64 a0_3]) (t := 23) ?hr ?_; (case hd => rfl); (case hg => rfl); (case hr => first | (go_simp; done) | (go_simp; rfl)); intro gb243 hg w15 hbox hb; have n0_ := Aside0.mk (below_step (by repeat (first | (with_reducible first | exact HB.out | apply below_alloc | apply pw_below_drewN | apply below_drew1) | exact HB.out)) hb); have n1_ := Aside0.mk (hbox); have n2_ := Aside0.mk ((by rw [hg]; exact (below_size (by repeat (first | (with_reducible first | exact HB.out | apply below_alloc | apply pw_below_drewN | apply below_drew1) | exact HB.out))) : w.heap.size ≤ gb243)); have n3_ := Aside0.mk ((by rw [hg]; exact (below_size (by repeat (first | (with_reducible first | exact HB.out | apply below_alloc | apply pw_below_drewN | apply below_drew1) | exact HB.out))) : w.heap.size ≤ gb243)); clear HB; have HB := n0_; have BK243 := n1_; have GW243 := n2_; have GE243 := n3_; clear n0_ n1_ n2_ n3_; clear hb hbox hg) | ((with_reducible refine gate_dst (N := 4) rfl ?_); refine box_event ?hg (N := 4) ?hd (cs := #[.int .i64 0, .int .i64 0, .int .i64 0, .int .i64 0]) (t := 23) ?hr ?_; (case hd => rfl); (case hg => rfl); (case hr => first | (go_simp; done) | (go_simp; rfl)); intro gb244 hg w16 hbox hb; have n0_ := Aside0.mk (blk_below (g := gb243) (o := .cells #[.int .i64 a0_0, .int .i64 a0_1, .int .i64 a0_2, .int .i64 a0_3] 23 (0, 0)) (by (with_reducible repeat (first | refine blk_drewN ?_ _ | refine blk_drew ?_ | refine blk_alloc ?_ _)); exact BK243.out) hb); have n1_ := Aside0.mk (below_step (by repeat (first | (with_reducible first | exact HB.out | apply below_alloc | apply pw_below_drewN | apply below_drew1 | refine below_set ?_ GE243.out) | exact HB.out)) hb); have n2_ := Aside0.mk (hbox); have n3_ := Aside0.mk ((by rw [hg]; exact (below_size (by repeat (first | (with_reducible first | exact HB.out | apply below_alloc | apply pw_below_drewN | apply below_drew1 | refine below_set ?_ GE243.out) | exact HB.out))) : w.heap.size ≤ gb244)); have n4_ := Aside0.mk ((by rw [hg]; exact (below_size (by repeat (first | (with_reducible first | exact HB.out | apply below_alloc | apply pw_below_drewN | apply below_drew1 | refine below_set ?_ GE243.out) | exact HB.out))) : w.heap.size ≤ gb244)); have n5_ := Aside0.mk ((by rw [hg]; exact Nat.ne_of_lt (blk_lt (g := gb243) (o := .cells #[.int .i64 a0_0, .int .i64 a0_1, .int .i64 a0_2, .int .i64 a0_3] 23 (0, 0)) (by (with_reducible repeat (first | refine blk_drewN ?_ _ | refine blk_drew ?_ | refine blk_alloc ?_ _)); exact BK243.out)) : gb243 ≠ gb244)); have n6_ := Aside0.mk ((by rw [hg]; exact Nat.ne_of_gt (blk_lt (g := gb243) (o := .cells #[.int .i64 a0_0, .int .i64 a0_1, .int .i64 a0_2, .int .i64 a0_3] 23 (0, 0)) (by (with_reducible repeat (first | refine blk_drewN ?_ _ | refine blk_drew ?_ | refine blk_alloc ?_ _)); exact BK243.out)) : gb244 ≠ gb243)); clear BK243; clear HB; have BK243 := n0_; have HB := n1_; have BK244 := n2_; have GW244 := n3_; have GE244 := n4_; have NB243_244 := n5_; have NB244_243 := n6_; clear n0_ n1_ n2_ n3_ n4_ n5_ n6_; clear hb hbox hg; have hnb17 := NB244_243.out; have hnc17 := NB243_244.out; have hcz18_0 : w16.cell? ⟨gb244, 0, none⟩ = some (.int .i64 0) := (blk_cell BK244.out 0).trans rfl; have hcz18_1 : w16.cell? ⟨gb244, 1, none⟩ = some (.int .i64 0) := (blk_cell BK244.out 1).trans rfl; have hcz18_2 : w16.cell? ⟨gb244, 2, none⟩ = some (.int .i64 0) := (blk_cell BK244.out 2).trans rfl; have hcz18_3 : w16.cell? ⟨gb244, 3, none⟩ = some (.int .i64 0) := (blk_cell BK244.out 3).trans rfl; have hfz18_0 := blk_frozen BK244.out 0; have hfz18_1 := blk_frozen BK244.out 1; have hfz18_2 := blk_frozen BK244.out 2; have hfz18_3 := blk_frozen BK244.out 3))
   refine bodyPost_ret (results_ct rfl _ _ gb244 23 #[.int .i64 0, .int .i64 0, .int .i64 0, .int .i64 0] (0, 0) _ rfl (by (with_reducible repeat (first | refine blk_drewN ?_ _ | refine blk_drew ?_ | refine blk_alloc ?_ _)); refine blk_put (cs := #[.int .i64 0, .int .i64 0, .int .i64 0, .int .i64 0]) ?_ 3 _ rfl; (with_reducible repeat (first | refine blk_drewN ?_ _ | refine blk_drew ?_ | refine blk_alloc ?_ _)); refine blk_put (cs := #[.int .i64 0, .int .i64 0, .int .i64 0, .int .i64 0]) ?_ 2 _ rfl; (with_reducible repeat (first | refine blk_drewN ?_ _ | refine blk_drew ?_ | refine blk_alloc ?_ _)); refine blk_put (cs := #[.int .i64 0, .int .i64 0, .int .i64 0, .int .i64 0]) ?_ 1 _ rfl; (with_reducible repeat (first | refine blk_drewN ?_ _ | refine blk_drew ?_ | refine blk_alloc ?_ _)); refine blk_put (cs := #[.int .i64 0, .int .i64 0, .int .i64 0, .int .i64 0]) ?_ 0 _ rfl; (with_reducible repeat (first | refine blk_drewN ?_ _ | refine blk_drew ?_ | refine blk_alloc ?_ _)); exact BK244.out) Try.underlying23 rfl (by kernel_rfl)) rfl ?_
   exact ⟨by first | rfl | (simp [errW_none, errW_some] <;> rfl) | (simp [*, errW_none, errW_some] <;> rfl), by repeat (first | (with_reducible first | exact HB.out | apply below_alloc | apply pw_below_drewN | apply below_drew1 | refine below_set ?_ GE243.out | refine below_set ?_ GE244.out) | exact HB.out)⟩

end Go.Proofs.Ytfdmfgaiblfbhaa.P
namespace Go.Proofs.Ytfdmfgaiblfbhaa.P
open Go.RowKit Go.Proofs.YtfdmfgaiblfbhaaW.PrintWords Go.Proofs.YtfdmfgaiblfbhaaW.PrintLast Go.Proofs.YtfdmfgaiblfbhaaW.PrintMore
attribute [local go_sem] max2_int min2_int max_two min_two max_three min_three max_four min_four   -- for this text's walks alone
set_option linter.unusedVariables false
set_option linter.unusedSimpArgs false

/-! ### rect_may: function 128 -/
def rect_may.f (a0_0 : Int) (a0_1 : Int) (a0_2 : Int) (a0_3 : Int) : Option (Bool) := if a0_0 ≥ 0 then (if a0_2 ≥ 1 then (if a0_2 ≤ 10000 then (if a0_0 ≤ (wrap64 (10000 - a0_2)) then (if a0_1 ≥ 0 then (if a0_3 ≥ 1 then (if a0_3 ≤ 10000 then (some (decide (a0_1 ≤ (wrap64 (10000 - a0_3))))) else (some false)) else (some false)) else (some false)) else (some false)) else (some false)) else (some false)) else (some false)
set_option maxHeartbeats 8000000 in
set_option maxRecDepth 100000 in
theorem rect_may.calls (a0_0 : Int) (a0_1 : Int) (a0_2 : Int) (a0_3 : Int) (r : Bool) (w : World) (h : rect_may.f a0_0 a0_1 a0_2 a0_3 = some r) :
  Calls Try.prog 128 #[.agg #[.int .i64 a0_0, .int .i64 a0_1, .int .i64 a0_2, .int .i64 a0_3]] w fun e w' => e = .returned (.bool r) ∧ Below w.heap.size w w' := by
 have hu23 := Try.underlying23
 have HB := Aside0.mk (Below.refl w.heap.size w)
 have H : (if a0_0 ≥ 0 then (if a0_2 ≥ 1 then (if a0_2 ≤ 10000 then (if a0_0 ≤ (wrap64 (10000 - a0_2)) then (if a0_1 ≥ 0 then (if a0_3 ≥ 1 then (if a0_3 ≤ 10000 then (some (decide (a0_1 ≤ (wrap64 (10000 - a0_3))))) else (some false)) else (some false)) else (some false)) else (some false)) else (some false)) else (some false)) else (some false)) = some r := h
 clear h
 by_cases c2 : a0_0 ≥ 0
 ·rw [if_pos c2] at H
  have c2b0 : decide (0 ≤ a0_0) = true := decide_eq_true c2
  clear c2
  by_cases c3 : a0_2 ≥ 1
  ·rw [if_pos c3] at H
   have c3b0 : decide (1 ≤ a0_2) = true := decide_eq_true c3
   clear c3
   by_cases c4 : a0_2 ≤ 10000
   ·rw [if_pos c4] at H
    have c4b0 : decide (a0_2 ≤ 10000) = true := decide_eq_true c4
    clear c4
    by_cases c5 : a0_0 ≤ (wrap64 (10000 - a0_2))
    ·rw [if_pos c5] at H
     have c5b0 : decide (a0_0 ≤ (wrap64 (10000 - a0_2))) = true := decide_eq_true c5
     clear c5
     by_cases c6 : a0_1 ≥ 0
     ·rw [if_pos c6] at H
      have c6b0 : decide (0 ≤ a0_1) = true := decide_eq_true c6
      clear c6
      by_cases c7 : a0_3 ≥ 1
      ·rw [if_pos c7] at H
       have c7b0 : decide (1 ≤ a0_3) = true := decide_eq_true c7
       clear c7
       by_cases c8 : a0_3 ≤ 10000
       ·rw [if_pos c8] at H
        have c8b0 : decide (a0_3 ≤ 10000) = true := decide_eq_true c8
        clear c8
        obtain rfl := Option.some.inj H
        go_enter Try.func128, Try.ntmps128
        go_wp2_with (first | ((with_reducible refine gate_dst (N := 1) rfl ?_); refine box_event ?hg (N := 1) ?hd (cs := #[.int .i64 a0_0, .int .i64 a0_1, .int .i64 a0_2, .int .i64 a0_3]) (t := 23) ?hr ?_; (case hd => rfl); (case hg => rfl); (case hr => first | (go_simp; done) | (go_simp; rfl)); intro gb245 hg w9 hbox hb; have n0_ := Aside0.mk (below_step (by repeat (first | (with_reducible first | exact HB.out | apply below_alloc | apply pw_below_drewN | apply below_drew1) | exact HB.out)) hb); have n1_ := Aside0.mk (hbox); have n2_ := Aside0.mk ((by rw [hg]; exact (below_size (by repeat (first | (with_reducible first | exact HB.out | apply below_alloc | apply pw_below_drewN | apply below_drew1) | exact HB.out))) : w.heap.size ≤ gb245)); have n3_ := Aside0.mk ((by rw [hg]; exact (below_size (by repeat (first | (with_reducible first | exact HB.out | apply below_alloc | apply pw_below_drewN | apply below_drew1) | exact HB.out))) : w.heap.size ≤ gb245)); clear HB; have HB := n0_; have BK245 := n1_; have GW245 := n2_; have GE245 := n3_; clear n0_ n1_ n2_ n3_; clear hb hbox hg; have hcz10_0 : w9.cell? ⟨gb245, 0, none⟩ = some (.int .i64 a0_0) := (blk_cell BK245.out 0).trans rfl; have hcz10_1 : w9.cell? ⟨gb245, 1, none⟩ = some (.int .i64 a0_1) := (blk_cell BK245.out 1).trans rfl; have hcz10_2 : w9.cell? ⟨gb245, 2, none⟩ = some (.int .i64 a0_2) := (blk_cell BK245.out 2).trans rfl; have hcz10_3 : w9.cell? ⟨gb245, 3, none⟩ = some (.int .i64 a0_3) := (blk_cell BK245.out 3).trans rfl; have hfz10_0 := blk_frozen BK245.out 0; have hfz10_1 := blk_frozen BK245.out 1; have hfz10_2 := blk_frozen BK245.out 2; have hfz10_3 := blk_frozen BK245.out 3))
        go_ret
        exact ⟨by first | rfl | (simp [errW_none, errW_some] <;> rfl) | (simp [*, errW_none, errW_some] <;> rfl), by repeat (first | (with_reducible first | exact HB.out | apply below_alloc | apply pw_below_drewN | apply below_drew1 | refine below_set ?_ GE245.out) | exact HB.out)⟩
       ·rw [if_neg c8] at H
        have c8b0 : decide (a0_3 ≤ 10000) = false := decide_eq_false c8
        clear c8
        obtain rfl := Option.some.inj H
        go_enter Try.func128, Try.ntmps128
        go_wp2_with (first | ((with_reducible refine gate_dst (N := 1) rfl ?_); refine box_event ?hg (N := 1) ?hd (cs := #[.int .i64 a0_0, .int .i64 a0_1, .int .i64 a0_2, .int .i64 a0_3]) (t := 23) ?hr ?_; (case hd => rfl); (case hg => rfl); (case hr => first | (go_simp; done) | (go_simp; rfl)); intro gb245 hg w11 hbox hb; have n0_ := Aside0.mk (below_step (by repeat (first | (with_reducible first | exact HB.out | apply below_alloc | apply pw_below_drewN | apply below_drew1) | exact HB.out)) hb); have n1_ := Aside0.mk (hbox); have n2_ := Aside0.mk ((by rw [hg]; exact (below_size (by repeat (first | (with_reducible first | exact HB.out | apply below_alloc | apply pw_below_drewN | apply below_drew1) | exact HB.out))) : w.heap.size ≤ gb245)); have n3_ := Aside0.mk ((by rw [hg]; exact (below_size (by repeat (first | (with_reducible first | exact HB.out | apply below_alloc | apply pw_below_drewN | apply below_drew1) | exact HB.out))) : w.heap.size ≤ gb245)); clear HB; have HB := n0_; have BK245 := n1_; have GW245 := n2_; have GE245 := n3_; clear n0_ n1_ n2_ n3_; clear hb hbox hg; have hcz12_0 : w11.cell? ⟨gb245, 0, none⟩ = some (.int .i64 a0_0) := (blk_cell BK245.out 0).trans rfl; have hcz12_1 : w11.cell? ⟨gb245, 1, none⟩ = some (.int .i64 a0_1) := (blk_cell BK245.out 1).trans rfl; have hcz12_2 : w11.cell? ⟨gb245, 2, none⟩ = some (.int .i64 a0_2) := (blk_cell BK245.out 2).trans rfl; have hcz12_3 : w11.cell? ⟨gb245, 3, none⟩ = some (.int .i64 a0_3) := (blk_cell BK245.out 3).trans rfl; have hfz12_0 := blk_frozen BK245.out 0; have hfz12_1 := blk_frozen BK245.out 1; have hfz12_2 := blk_frozen BK245.out 2; have hfz12_3 := blk_frozen BK245.out 3))
        go_ret
        exact ⟨by first | rfl | (simp [errW_none, errW_some] <;> rfl) | (simp [*, errW_none, errW_some] <;> rfl), by repeat (first | (with_reducible first | exact HB.out | apply below_alloc | apply pw_below_drewN | apply below_drew1 | refine below_set ?_ GE245.out) | exact HB.out)⟩
      ·rw [if_neg c7] at H
       have c7b0 : decide (1 ≤ a0_3) = false := decide_eq_false c7
       clear c7
       obtain rfl := Option.some.inj H
       go_enter Try.func128, Try.ntmps128
       go_wp2_with (first | ((with_reducible refine gate_dst (N := 1) rfl ?_); refine box_event ?hg (N := 1) ?hd (cs := #[.int .i64 a0_0, .int .i64 a0_1, .int .i64 a0_2, .int .i64 a0_3]) (t := 23) ?hr ?_; (case hd => rfl); (case hg => rfl); (case hr => first | (go_simp; done) | (go_simp; rfl)); intro gb245 hg w13 hbox hb; have n0_ := Aside0.mk (below_step (by repeat (first | (with_reducible first | exact HB.out | apply below_alloc | apply pw_below_drewN | apply below_drew1) | exact HB.out)) hb); have n1_ := Aside0.mk (hbox); have n2_ := Aside0.mk ((by rw [hg]; exact (below_size (by repeat (first | (with_reducible first | exact HB.out | apply below_alloc | apply pw_below_drewN | apply below_drew1) | exact HB.out))) : w.heap.size ≤ gb245)); have n3_ := Aside0.mk ((by rw [hg]; exact (below_size (by repeat (first | (with_reducible first | exact HB.out | apply below_alloc | apply pw_below_drewN | apply below_drew1) | exact HB.out))) : w.heap.size ≤ gb245)); clear HB; have HB := n0_; have BK245 := n1_; have GW245 := n2_; have GE245 := n3_; clear n0_ n1_ n2_ n3_; clear hb hbox hg; have hcz14_0 : w13.cell? ⟨gb245, 0, none⟩ = some (.int .i64 a0_0) := (blk_cell BK245.out 0).trans rfl; have hcz14_1 : w13.cell? ⟨gb245, 1, none⟩ = some (.int .i64 a0_1) := (blk_cell BK245.out 1).trans rfl; have hcz14_2 : w13.cell? ⟨gb245, 2, none⟩ = some (.int .i64 a0_2) := (blk_cell BK245.out 2).trans rfl; have hcz14_3 : w13.cell? ⟨gb245, 3, none⟩ = some (.int .i64 a0_3) := (blk_cell BK245.out 3).trans rfl; have hfz14_0 := blk_frozen BK245.out 0; have hfz14_1 := blk_frozen BK245.out 1; have hfz14_2 := blk_frozen BK245.out 2; have hfz14_3 := blk_frozen BK245.out 3))
       go_ret
       exact ⟨by first | rfl | (simp [errW_none, errW_some] <;> rfl) | (simp [*, errW_none, errW_some] <;> rfl), by repeat (first | (with_reducible first | exact HB.out | apply below_alloc | apply pw_below_drewN | apply below_drew1 | refine below_set ?_ GE245.out) | exact HB.out)⟩
     ·rw [if_neg c6] at H
      have c6b0 : decide (0 ≤ a0_1) = false := decide_eq_false c6
      clear c6
      obtain rfl := Option.some.inj H
      go_enter Try.func128, Try.ntmps128
      go_wp2_with (first | ((with_reducible refine gate_dst (N := 1) rfl ?_); refine box_event ?hg (N := 1) ?hd (cs := #[.int .i64 a0_0, .int .i64 a0_1, .int .i64 a0_2, .int .i64 a0_3]) (t := 23) ?hr ?_; (case hd => rfl); (case hg => rfl); (case hr => first | (go_simp; done) | (go_simp; rfl)); intro gb245 hg w15 hbox hb; have n0_ := Aside0.mk (below_step (by repeat (first | (with_reducible first | exact HB.out | apply below_alloc | apply pw_below_drewN | apply below_drew1) | exact HB.out)) hb); have n1_ := Aside0.mk (hbox); have n2_ := Aside0.mk ((by rw [hg]; exact (below_size (by repeat (first | (with_reducible first | exact HB.out | apply below_alloc | apply pw_below_drewN | apply below_drew1) | exact HB.out))) : w.heap.size ≤ gb245)); have n3_ := Aside0.mk ((by rw [hg]; exact (below_size (by repeat (first | (with_reducible first | exact HB.out | apply below_alloc | apply pw_below_drewN | apply below_drew1) | exact HB.out))) : w.heap.size ≤ gb245)); clear HB; have HB := n0_; have BK245 := n1_; have GW245 := n2_; have GE245 := n3_; clear n0_ n1_ n2_ n3_; clear hb hbox hg; have hcz16_0 : w15.cell? ⟨gb245, 0, none⟩ = some (.int .i64 a0_0) := (blk_cell BK245.out 0).trans rfl; have hcz16_1 : w15.cell? ⟨gb245, 1, none⟩ = some (.int .i64 a0_1) := (blk_cell BK245.out 1).trans rfl; have hcz16_2 : w15.cell? ⟨gb245, 2, none⟩ = some (.int .i64 a0_2) := (blk_cell BK245.out 2).trans rfl; have hcz16_3 : w15.cell? ⟨gb245, 3, none⟩ = some (.int .i64 a0_3) := (blk_cell BK245.out 3).trans rfl; have hfz16_0 := blk_frozen BK245.out 0; have hfz16_1 := blk_frozen BK245.out 1; have hfz16_2 := blk_frozen BK245.out 2; have hfz16_3 := blk_frozen BK245.out 3))
      go_ret
      exact ⟨by first | rfl | (simp [errW_none, errW_some] <;> rfl) | (simp [*, errW_none, errW_some] <;> rfl), by repeat (first | (with_reducible first | exact HB.out | apply below_alloc | apply pw_below_drewN | apply below_drew1 | refine below_set ?_ GE245.out) | exact HB.out)⟩
    ·rw [if_neg c5] at H
     have c5b0 : decide (a0_0 ≤ (wrap64 (10000 - a0_2))) = false := decide_eq_false c5
     clear c5
     obtain rfl := Option.some.inj H
     go_enter Try.func128, Try.ntmps128
     go_wp2_with (first | ((with_reducible refine gate_dst (N := 1) rfl ?_); refine box_event ?hg (N := 1) ?hd (cs := #[.int .i64 a0_0, .int .i64 a0_1, .int .i64 a0_2, .int .i64 a0_3]) (t := 23) ?hr ?_; (case hd => rfl); (case hg => rfl); (case hr => first | (go_simp; done) | (go_simp; rfl)); intro gb245 hg w17 hbox hb; have n0_ := Aside0.mk (below_step (by repeat (first | (with_reducible first | exact HB.out | apply below_alloc | apply pw_below_drewN | apply below_drew1) | exact HB.out)) hb); have n1_ := Aside0.mk (hbox); have n2_ := Aside0.mk ((by rw [hg]; exact (below_size (by repeat (first | (with_reducible first | exact HB.out | apply below_alloc | apply pw_below_drewN | apply below_drew1) | exact HB.out))) : w.heap.size ≤ gb245)); have n3_ := Aside0.mk ((by rw [hg]; exact (below_size (by repeat (first | (with_reducible first | exact HB.out | apply below_alloc | apply pw_below_drewN | apply below_drew1) | exact HB.out))) : w.heap.size ≤ gb245)); clear HB; have HB := n0_; have BK245 := n1_; have GW245 := n2_; have GE245 := n3_; clear n0_ n1_ n2_ n3_; clear hb hbox hg; have hcz18_0 : w17.cell? ⟨gb245, 0, none⟩ = some (.int .i64 a0_0) := (blk_cell BK245.out 0).trans rfl; have hcz18_1 : w17.cell? ⟨gb245, 1, none⟩ = some (.int .i64 a0_1) := (blk_cell BK245.out 1).trans rfl; have hcz18_2 : w17.cell? ⟨gb245, 2, none⟩ = some (.int .i64 a0_2) := (blk_cell BK245.out 2).trans rfl; have hcz18_3 : w17.cell? ⟨gb245, 3, none⟩ = some (.int .i64 a0_3) := (blk_cell BK245.out 3).trans rfl; have hfz18_0 := blk_frozen BK245.out 0; have hfz18_1 := blk_frozen BK245.out 1; have hfz18_2 := blk_frozen BK245.out 2; have hfz18_3 := blk_frozen BK245.out 3))
     go_ret
     exact ⟨by first | rfl | (simp [errW_none, errW_some] <;> rfl) | (simp [*, errW_none, errW_some] <;> rfl), by repeat (first | (with_reducible first | exact HB.out | apply below_alloc | apply pw_below_drewN | apply below_drew1 | refine below_set ?_ GE245.out) | exact HB.out)⟩
   ·rw [if_neg c4] at H
    have c4b0 : decide (a0_2 ≤ 10000) = false := decide_eq_false c4
    clear c4
    obtain rfl := Option.some.inj H
    go_enter Try.func128, Try.ntmps128
    go_wp2_with (first | ((with_reducible refine gate_dst (N := 1) rfl ?_); refine box_event ?hg (N := 1) ?hd (cs := #[.int .i64 a0_0, .int .i64 a0_1, .int .i64 a0_2, .int .i64 a0_3]) (t := 23) ?hr ?_; (case hd => rfl); (case hg => rfl); (case hr => first | (go_simp; done) | (go_simp; rfl)); intro gb245 hg w19 hbox hb; have n0_ := Aside0.mk (below_step (by repeat (first | (with_reducible first | exact HB.out | apply below_alloc | apply pw_below_drewN | apply below_drew1) | exact HB.out)) hb); have n1_ := Aside0.mk (hbox); have n2_ := Aside0.mk ((by rw [hg]; exact (below_size (by repeat (first | (with_reducible first | exact HB.out | apply below_alloc | apply pw_below_drewN | apply below_drew1) | exact HB.out))) : w.heap.size ≤ gb245)); have n3_ := Aside0.mk ((by rw [hg]; exact (below_size (by repeat (first | (with_reducible first | exact HB.out | apply below_alloc | apply pw_below_drewN | apply below_drew1) | exact HB.out))) : w.heap.size ≤ gb245)); clear HB; have HB := n0_; have BK245 := n1_; have GW245 := n2_; have GE245 := n3_; clear n0_ n1_ n2_ n3_; clear hb hbox hg; have hcz20_0 : w19.cell? ⟨gb245, 0, none⟩ = some (.int .i64 a0_0) := (blk_cell BK245.out 0).trans rfl; have hcz20_1 : w19.cell? ⟨gb245, 1, none⟩ = some (.int .i64 a0_1) := (blk_cell BK245.out 1).trans rfl; have hcz20_2 : w19.cell? ⟨gb245, 2, none⟩ = some (.int .i64 a0_2) := (blk_cell BK245.out 2).trans rfl; have hcz20_3 : w19.cell? ⟨gb245, 3, none⟩ = some (.int .i64 a0_3) := (blk_cell BK245.out 3).trans rfl; have hfz20_0 := blk_frozen BK245.out 0; have hfz20_1 := blk_frozen BK245.out 1; have hfz20_2 := blk_frozen BK245.out 2; have hfz20_3 := blk_frozen BK245.out 3))
    go_ret
    exact ⟨by first | rfl | (simp [errW_none, errW_some] <;> rfl) | (simp [*, errW_none, errW_some] <;> rfl), by repeat (first | (with_reducible first | exact HB.out | apply below_alloc | apply pw_below_drewN | apply below_drew1 | refine below_set ?_ GE245.out) | exact HB.out)⟩
  ·rw [if_neg c3] at H
   have c3b0 : decide (1 ≤ a0_2) = false := decide_eq_false c3
   clear c3
   obtain rfl := Option.some.inj H
   go_enter Try.func128, Try.ntmps128
   go_wp2_with (first | ((with_reducible refine gate_dst (N := 1) rfl ?_); refine box_event ?hg (N := 1) ?hd (cs := #[.int .i64 a0_0, .int .i64 a0_1, .int .i64 a0_2, .int .i64 a0_3]) (t := 23) ?hr ?_; (case hd => rfl); (case hg => rfl); (case hr => first | (go_simp; done) | (go_simp; rfl)); intro gb245 hg w21 hbox hb; have n0_ := Aside0.mk (below_step (by repeat (first | (with_reducible first | exact HB.out | apply below_alloc | apply pw_below_drewN | apply below_drew1) | exact HB.out)) hb); have n1_ := Aside0.mk (hbox); have n2_ := Aside0.mk ((by rw [hg]; exact (below_size (by repeat (first | (with_reducible first | exact HB.out | apply below_alloc | apply pw_below_drewN | apply below_drew1) | exact HB.out))) : w.heap.size ≤ gb245)); have n3_ := Aside0.mk ((by rw [hg]; exact (below_size (by repeat (first | (with_reducible first | exact HB.out | apply below_alloc | apply pw_below_drewN | apply below_drew1) | exact HB.out))) : w.heap.size ≤ gb245)); clear HB; have HB := n0_; have BK245 := n1_; have GW245 := n2_; have GE245 := n3_; clear n0_ n1_ n2_ n3_; clear hb hbox hg; have hcz22_0 : w21.cell? ⟨gb245, 0, none⟩ = some (.int .i64 a0_0) := (blk_cell BK245.out 0).trans rfl; have hcz22_1 : w21.cell? ⟨gb245, 1, none⟩ = some (.int .i64 a0_1) := (blk_cell BK245.out 1).trans rfl; have hcz22_2 : w21.cell? ⟨gb245, 2, none⟩ = some (.int .i64 a0_2) := (blk_cell BK245.out 2).trans rfl; have hcz22_3 : w21.cell? ⟨gb245, 3, none⟩ = some (.int .i64 a0_3) := (blk_cell BK245.out 3).trans rfl; have hfz22_0 := blk_frozen BK245.out 0; have hfz22_1 := blk_frozen BK245.out 1; have hfz22_2 := blk_frozen BK245.out 2; have hfz22_3 := blk_frozen BK245.out 3))
   go_ret
   exact ⟨by first | rfl | (simp [errW_none, errW_some] <;> rfl) | (simp [*, errW_none, errW_some] <;> rfl), by repeat (first | (with_reducible first | exact HB.out | apply below_alloc | apply pw_below_drewN | apply below_drew1 | refine below_set ?_ GE245.out) | exact HB.out)⟩
 ·rw [if_neg c2] at H
  have c2b0 : decide (0 ≤ a0_0) = false := decide_eq_false c2
  clear c2
  obtain rfl := Option.some.inj H
  go_enter Try.func128, Try.ntmps128
  go_wp2_with (first | ((with_reducible refine gate_dst (N := 1) rfl ?_); refine box_event ?hg (N := 1) ?hd (cs := #[.int .i64 a0_0, .int .i64 a0_1, .int .i64 a0_2, .int .i64 a0_3]) (t := 23) ?hr ?_; (case hd => rfl); (case hg => rfl); (case hr => first | (go_simp; done) | (go_simp; rfl)); intro gb245 hg w23 hbox hb; have n0_ := Aside0.mk (below_step (by repeat (first | (with_reducible first | exact HB.out | apply below_alloc | apply pw_below_drewN | apply below_drew1) | exact HB.out)) hb); have n1_ := Aside0.mk (hbox); have n2_ := Aside0.mk ((by rw [hg]; exact (below_size (by repeat (first | (with_reducible first | exact HB.out | apply below_alloc | apply pw_below_drewN | apply below_drew1) | exact HB.out))) : w.heap.size ≤ gb245)); have n3_ := Aside0.mk ((by rw [hg]; exact (below_size (by repeat (first | (with_reducible first | exact HB.out | apply below_alloc | apply pw_below_drewN | apply below_drew1) | exact HB.out))) : w.heap.size ≤ gb245)); clear HB; have HB := n0_; have BK245 := n1_; have GW245 := n2_; have GE245 := n3_; clear n0_ n1_ n2_ n3_; clear hb hbox hg; have hcz24_0 : w23.cell? ⟨gb245, 0, none⟩ = some (.int .i64 a0_0) := (blk_cell BK245.out 0).trans rfl; have hcz24_1 : w23.cell? ⟨gb245, 1, none⟩ = some (.int .i64 a0_1) := (blk_cell BK245.out 1).trans rfl; have hcz24_2 : w23.cell? ⟨gb245, 2, none⟩ = some (.int .i64 a0_2) := (blk_cell BK245.out 2).trans rfl; have hcz24_3 : w23.cell? ⟨gb245, 3, none⟩ = some (.int .i64 a0_3) := (blk_cell BK245.out 3).trans rfl; have hfz24_0 := blk_frozen BK245.out 0; have hfz24_1 := blk_frozen BK245.out 1; have hfz24_2 := blk_frozen BK245.out 2; have hfz24_3 := blk_frozen BK245.out 3))
  go_ret
  exact ⟨by first | rfl | (simp [errW_none, errW_some] <;> rfl) | (simp [*, errW_none, errW_some] <;> rfl), by repeat (first | (with_reducible first | exact HB.out | apply below_alloc | apply pw_below_drewN | apply below_drew1 | refine below_set ?_ GE245.out) | exact HB.out)⟩

end Go.Proofs.Ytfdmfgaiblfbhaa.P
namespace Go.Proofs.Ytfdmfgaiblfbhaa.P
open Go.RowKit Go.Proofs.YtfdmfgaiblfbhaaW.PrintWords Go.Proofs.YtfdmfgaiblfbhaaW.PrintLast Go.Proofs.YtfdmfgaiblfbhaaW.PrintMore
attribute [local go_sem] max2_int min2_int max_two min_two max_three min_three max_four min_four   -- for this text's walks alone
set_option linter.unusedVariables false
set_option linter.unusedSimpArgs false

/-! ### rect_Cut: function 45 -/
mutual
def rect_Cut.j0 : Nat → Int → List Int → Bool → Int → Int → Int → Int → Option ((List (S23)) × (List (S23)) × Bool)
 | 0, _, _, _, _, _, _, _ => none
 | k + 1, x1, x2, x37, x253000, x253001, x253002, x253003 => if x37 = true then (some (([] : List (S23)), ([] : List (S23)), false)) else (rect_Cut.l0 k x1 ([] : List (S23)) ([] : List (S23)) x253000 x2 (x2.length : Int) 0 x253000 x253001 x253002 x253003)
def rect_Cut.l0 : Nat → Int → List (S23) → List (S23) → Int → List Int → Int → Int → Int → Int → Int → Int → Option ((List (S23)) × (List (S23)) × Bool)
 | 0, _, _, _, _, _, _, _, _, _, _, _ => none
 | k + 1, x1, x11, x12, x13, x40, x41, x42, x253000, x253001, x253002, x253003 => if x42 < x41 then (if 0 ≤ x42 then (if x42 < (x40.length : Int) then (if x42 > 0 then ((rect_turned.f x13 x253001 1 x253003 x1).bind fun bt255 => (if x12.length < 4398046511104 then (if (rd x40 x42) < 1 then (some (([] : List (S23)), ([] : List (S23)), false)) else (if (rd x40 x42) > (wrap64 ((wrap64 (x253000 + x253002)) - (wrap64 (x13 + 1)))) then (some (([] : List (S23)), ([] : List (S23)), false)) else ((rect_turned.f (wrap64 (x13 + 1)) x253001 (rd x40 x42) x253003 x1).bind fun bt264 => (if x11.length < 4398046511104 then (rect_Cut.l0 k x1 (x11 ++ [(⟨bt264.1, bt264.2.1, bt264.2.2.1, bt264.2.2.2.1⟩ : S23)]) (x12 ++ [(⟨bt255.1, bt255.2.1, bt255.2.2.1, bt255.2.2.2.1⟩ : S23)]) (wrap64 ((wrap64 (x13 + 1)) + (rd x40 x42))) x40 x41 (wrap64 (x42 + 1)) x253000 x253001 x253002 x253003) else (none))))) else (none))) else (if (rd x40 x42) < 1 then (some (([] : List (S23)), ([] : List (S23)), false)) else (if (rd x40 x42) > (wrap64 ((wrap64 (x253000 + x253002)) - x13)) then (some (([] : List (S23)), ([] : List (S23)), false)) else ((rect_turned.f x13 x253001 (rd x40 x42) x253003 x1).bind fun bt273 => (if x11.length < 4398046511104 then (rect_Cut.l0 k x1 (x11 ++ [(⟨bt273.1, bt273.2.1, bt273.2.2.1, bt273.2.2.2.1⟩ : S23)]) x12 (wrap64 (x13 + (rd x40 x42))) x40 x41 (wrap64 (x42 + 1)) x253000 x253001 x253002 x253003) else (none)))))) else (none)) else (none)) else (if x13 = (wrap64 (x253000 + x253002)) then (some (x11, x12, true)) else (some (([] : List (S23)), ([] : List (S23)), false)))
end
def rect_Cut.f (k : Nat) (a0_0 : Int) (a0_1 : Int) (a0_2 : Int) (a0_3 : Int) (a1 : Int) (l2 : List Int) : Option ((List (S23)) × (List (S23)) × Bool) := (rect_turned.f a0_0 a0_1 a0_2 a0_3 a1).bind fun bt247 => (if bt247.2.2.2.2 = true then ((rect_may.f a0_0 a0_1 a0_2 a0_3).bind fun t253 => (if t253 = true then (rect_Cut.j0 k a1 l2 ((l2.length : Int) == 0) bt247.1 bt247.2.1 bt247.2.2.1 bt247.2.2.2.1) else (rect_Cut.j0 k a1 l2 true bt247.1 bt247.2.1 bt247.2.2.1 bt247.2.2.2.1))) else (rect_Cut.j0 k a1 l2 true bt247.1 bt247.2.1 bt247.2.2.1 bt247.2.2.2.1))
theorem rect_Cut.mono_l : ∀ k, (∀ y0 y1 y2 y3 y4 y5 y6, LeO (rect_Cut.j0 k y0 y1 y2 y3 y4 y5 y6) (rect_Cut.j0 (k + 1) y0 y1 y2 y3 y4 y5 y6)) ∧ (∀ y0 y1 y2 y3 y4 y5 y6 y7 y8 y9 y10, LeO (rect_Cut.l0 k y0 y1 y2 y3 y4 y5 y6 y7 y8 y9 y10) (rect_Cut.l0 (k + 1) y0 y1 y2 y3 y4 y5 y6 y7 y8 y9 y10))
 | 0 => ⟨fun _ _ _ _ _ _ _ r h => by simp [rect_Cut.j0] at h, fun _ _ _ _ _ _ _ _ _ _ _ r h => by simp [rect_Cut.l0] at h⟩
 | k + 1 => by
  obtain ⟨ih0, ih1⟩ := rect_Cut.mono_l k
  refine ⟨?_, ?_⟩
  ·intro y0 y1 y2 y3 y4 y5 y6
   unfold rect_Cut.j0
   repeat' first
   | (with_reducible exact ih0 _ _ _ _ _ _ _)
   | (with_reducible exact ih1 _ _ _ _ _ _ _ _ _ _ _)
   | (with_reducible exact LeO.refl _)
   | (with_reducible exact LeO.none _)
   | (with_reducible refine LeO.ite ?_ ?_)
   | (with_reducible refine LeO.bind ?_ (fun _ => ?_))
   | exact ih0 _ _ _ _ _ _ _
   | exact ih1 _ _ _ _ _ _ _ _ _ _ _
   | exact LeO.none _
   | refine LeO.ite ?_ ?_
   | refine LeO.bind ?_ (fun _ => ?_)
  ·intro y0 y1 y2 y3 y4 y5 y6 y7 y8 y9 y10
   unfold rect_Cut.l0
   repeat' first
   | (with_reducible exact ih0 _ _ _ _ _ _ _)
   | (with_reducible exact ih1 _ _ _ _ _ _ _ _ _ _ _)
   | (with_reducible exact LeO.refl _)
   | (with_reducible exact LeO.none _)
   | (with_reducible refine LeO.ite ?_ ?_)
   | (with_reducible refine LeO.bind ?_ (fun _ => ?_))
   | exact ih0 _ _ _ _ _ _ _
   | exact ih1 _ _ _ _ _ _ _ _ _ _ _
   | exact LeO.none _
   | refine LeO.ite ?_ ?_
   | refine LeO.bind ?_ (fun _ => ?_)
theorem rect_Cut.mono : ∀ a0 a1 a2 a3 a4 a5 k, LeO (rect_Cut.f k a0 a1 a2 a3 a4 a5) (rect_Cut.f (k + 1) a0 a1 a2 a3 a4 a5) := by
 intro a0 a1 a2 a3 a4 a5 k
 obtain ⟨ih0, ih1⟩ := rect_Cut.mono_l k
 unfold rect_Cut.f
 repeat' first
   | (with_reducible exact ih0 _ _ _ _ _ _ _)
   | (with_reducible exact ih1 _ _ _ _ _ _ _ _ _ _ _)
   | (with_reducible exact LeO.refl _)
   | (with_reducible exact LeO.none _)
   | (with_reducible refine LeO.ite ?_ ?_)
   | (with_reducible refine LeO.bind ?_ (fun _ => ?_))
   | exact ih0 _ _ _ _ _ _ _
   | exact ih1 _ _ _ _ _ _ _ _ _ _ _
   | exact LeO.none _
   | refine LeO.ite ?_ ?_
   | refine LeO.bind ?_ (fun _ => ?_)
set_option maxHeartbeats 8000000 in
set_option maxRecDepth 100000 in
theorem rect_Cut.calls (k : Nat) (a0_0 : Int) (a0_1 : Int) (a0_2 : Int) (a0_3 : Int) (a1 : Int) (A2 : Option Addr) (c2 : Nat) (l2 : List Int) (r1 : List (S23)) (r2 : List (S23)) (r3 : Bool) (w : World) (hr2 : Kd.C (Kd.int .i64) w A2 l2.length l2) (hc2 : l2.length ≤ c2) (h : rect_Cut.f k a0_0 a0_1 a0_2 a0_3 a1 l2 = some (r1, r2, r3)) :
  Calls Try.prog 45 #[.agg #[.int .i64 a0_0, .int .i64 a0_1, .int .i64 a0_2, .int .i64 a0_3], .int .u8 a1, .slice A2 l2.length c2] w fun e w' => ∃ v0_ v1_ : Value, e = .returned (.tuple #[v0_, v1_, .bool r3]) ∧ Kd.R k23 23 w' w.heap.size (fun k_ => some k_ ≠ (v1_ : Value).ownBlock) v0_ r1 ∧ Kd.R k23 23 w' w.heap.size (fun k_ => some k_ ≠ (v0_ : Value).ownBlock) v1_ r2 ∧ Below w.heap.size w w' := by
 have hu23 := Try.underlying23
 have HR2 := Aside0.mk hr2
 have HC2 := Aside0.mk hc2
 clear hr2 hc2
 have HB := Aside0.mk (Below.refl w.heap.size w)
 have H : ((rect_turned.f a0_0 a0_1 a0_2 a0_3 a1).bind fun bt247 => (if bt247.2.2.2.2 = true then ((rect_may.f a0_0 a0_1 a0_2 a0_3).bind fun t253 => (if t253 = true then (rect_Cut.j0 k a1 l2 ((l2.length : Int) == 0) bt247.1 bt247.2.1 bt247.2.2.1 bt247.2.2.2.1) else (rect_Cut.j0 k a1 l2 true bt247.1 bt247.2.1 bt247.2.2.1 bt247.2.2.2.1))) else (rect_Cut.j0 k a1 l2 true bt247.1 bt247.2.1 bt247.2.2.1 bt247.2.2.2.1))) = some (r1, r2, r3) := h
 clear h
 replace H := Option.bind_eq_some_iff.mp H
 obtain ⟨⟨t247, t248, t249, t250, t251⟩, A40, H⟩ := H
 replace H : (if t251 = true then ((rect_may.f a0_0 a0_1 a0_2 a0_3).bind fun t253 => (if t253 = true then (rect_Cut.j0 k a1 l2 ((l2.length : Int) == 0) t247 t248 t249 t250) else (rect_Cut.j0 k a1 l2 true t247 t248 t249 t250))) else (rect_Cut.j0 k a1 l2 true t247 t248 t249 t250)) = some (r1, r2, r3) := H
 have A4 := Aside0.mk A40
 clear A40
 have HC5 := Aside0.mk H
 clear H
 go_enter Try.func45, Try.ntmps45
 go_upto_region 2 with (first | ((with_reducible refine gate_dst (N := 3) rfl ?_); (try (refine gate_guard (by rfl) ?_; dsimp only)); refine box_event ?hg (N := 3) ?hd (cs := #[.int .i64 a0_0, .int .i64 a0_1, .int .i64 a0_2, .int .i64 a0_3]) (t := 23) ?hr ?_; (case hd => rfl); (case hg => rfl); (case hr => first | (go_simp; done) | (go_simp; rfl)); intro gb246 hg w6 hbox hb; have n0_ := Aside0.mk (below_step (by repeat (first | (with_reducible first | exact HB.out | apply below_alloc | apply pw_below_drewN | apply below_drew1) | exact HB.out)) hb); have n1_ := Aside0.mk (hbox); have n2_ := Aside0.mk ((by rw [hg]; exact (below_size (by repeat (first | (with_reducible first | exact HB.out | apply below_alloc | apply pw_below_drewN | apply below_drew1) | exact HB.out))) : w.heap.size ≤ gb246)); have n3_ := Aside0.mk ((by rw [hg]; exact (below_size (by repeat (first | (with_reducible first | exact HB.out | apply below_alloc | apply pw_below_drewN | apply below_drew1) | exact HB.out))) : w.heap.size ≤ gb246)); clear HB; have HB := n0_; have BK246 := n1_; have GW246 := n2_; have GE246 := n3_; clear n0_ n1_ n2_ n3_; clear hb hbox hg; have hcz7_0 : w6.cell? ⟨gb246, 0, none⟩ = some (.int .i64 a0_0) := (blk_cell BK246.out 0).trans rfl; have hcz7_1 : w6.cell? ⟨gb246, 1, none⟩ = some (.int .i64 a0_1) := (blk_cell BK246.out 1).trans rfl; have hcz7_2 : w6.cell? ⟨gb246, 2, none⟩ = some (.int .i64 a0_2) := (blk_cell BK246.out 2).trans rfl; have hcz7_3 : w6.cell? ⟨gb246, 3, none⟩ = some (.int .i64 a0_3) := (blk_cell BK246.out 3).trans rfl; have hfz7_0 := blk_frozen BK246.out 0; have hfz7_1 := blk_frozen BK246.out 1; have hfz7_2 := blk_frozen BK246.out 2; have hfz7_3 := blk_frozen BK246.out 3) | ((with_reducible refine gate_callee (f := 127) rfl ?_); refine goesL_ (some 23) rfl rfl Try.func127 (by kernel_rfl) rfl #[.agg #[.int .i64 a0_0, .int .i64 a0_1, .int .i64 a0_2, .int .i64 a0_3], .int .u8 a1] rfl (by (try simp only [List.map_toArray, List.map_cons, List.map_nil]); first | done | rfl | (simp only [List.length_drop, List.length_take]; rfl)) ?_; (with_reducible refine (rect_turned.calls a0_0 a0_1 a0_2 a0_3 a1 t247 t248 t249 t250 t251 _ A4.out).mono ?_); rintro e w8 ⟨rfl, hb⟩; refine ⟨_, rfl, ?_⟩; have n0_ := Aside0.mk (blk_below (g := gb246) (o := .cells #[.int .i64 a0_0, .int .i64 a0_1, .int .i64 a0_2, .int .i64 a0_3] 23 (0, 0)) (by (with_reducible repeat (first | refine blk_drewN ?_ _ | refine blk_drew ?_ | refine blk_alloc ?_ _)); exact BK246.out) hb); have n1_ := Aside0.mk (below_step (by repeat (first | (with_reducible first | exact HB.out | apply below_alloc | apply pw_below_drewN | apply below_drew1 | refine below_set ?_ GE246.out) | exact HB.out)) hb); clear BK246; clear HB; have BK246 := n0_; have HB := n1_; clear n0_ n1_; (try clear hb); (try clear hb2); (try clear hk); (try clear hi)) | ((with_reducible refine gate_dst (N := 9) rfl ?_); (try (refine gate_guard (by rfl) ?_; dsimp only)); refine box_event ?hg (N := 9) ?hd (cs := #[.int .i64 0, .int .i64 0, .int .i64 0, .int .i64 0]) (t := 23) ?hr ?_; (case hd => rfl); (case hg => rfl); (case hr => first | (go_simp; done) | (go_simp; rfl)); intro gb252 hg w9 hbox hb; have n0_ := Aside0.mk (blk_below (g := gb246) (o := .cells #[.int .i64 a0_0, .int .i64 a0_1, .int .i64 a0_2, .int .i64 a0_3] 23 (0, 0)) (by (with_reducible repeat (first | refine blk_drewN ?_ _ | refine blk_drew ?_ | refine blk_alloc ?_ _)); exact BK246.out) hb); have n1_ := Aside0.mk (below_step (by repeat (first | (with_reducible first | exact HB.out | apply below_alloc | apply pw_below_drewN | apply below_drew1 | refine below_set ?_ GE246.out) | exact HB.out)) hb); have n2_ := Aside0.mk (hbox); have n3_ := Aside0.mk ((by rw [hg]; exact (below_size (by repeat (first | (with_reducible first | exact HB.out | apply below_alloc | apply pw_below_drewN | apply below_drew1 | refine below_set ?_ GE246.out) | exact HB.out))) : w.heap.size ≤ gb252)); have n4_ := Aside0.mk ((by rw [hg]; exact (below_size (by repeat (first | (with_reducible first | exact HB.out | apply below_alloc | apply pw_below_drewN | apply below_drew1 | refine below_set ?_ GE246.out) | exact HB.out))) : w.heap.size ≤ gb252)); have n5_ := Aside0.mk ((by rw [hg]; exact Nat.ne_of_lt (blk_lt (g := gb246) (o := .cells #[.int .i64 a0_0, .int .i64 a0_1, .int .i64 a0_2, .int .i64 a0_3] 23 (0, 0)) (by (with_reducible repeat (first | refine blk_drewN ?_ _ | refine blk_drew ?_ | refine blk_alloc ?_ _)); exact BK246.out)) : gb246 ≠ gb252)); have n6_ := Aside0.mk ((by rw [hg]; exact Nat.ne_of_gt (blk_lt (g := gb246) (o := .cells #[.int .i64 a0_0, .int .i64 a0_1, .int .i64 a0_2, .int .i64 a0_3] 23 (0, 0)) (by (with_reducible repeat (first | refine blk_drewN ?_ _ | refine blk_drew ?_ | refine blk_alloc ?_ _)); exact BK246.out)) : gb252 ≠ gb246)); clear BK246; clear HB; have BK246 := n0_; have HB := n1_; have BK252 := n2_; have GW252 := n3_; have GE252 := n4_; have NB246_252 := n5_; have NB252_246 := n6_; clear n0_ n1_ n2_ n3_ n4_ n5_ n6_; clear hb hbox hg; have hnb10 := NB252_246.out; have hnc10 := NB246_252.out; have hcz11_0 : w9.cell? ⟨gb252, 0, none⟩ = some (.int .i64 0) := (blk_cell BK252.out 0).trans rfl; have hcz11_1 : w9.cell? ⟨gb252, 1, none⟩ = some (.int .i64 0) := (blk_cell BK252.out 1).trans rfl; have hcz11_2 : w9.cell? ⟨gb252, 2, none⟩ = some (.int .i64 0) := (blk_cell BK252.out 2).trans rfl; have hcz11_3 : w9.cell? ⟨gb252, 3, none⟩ = some (.int .i64 0) := (blk_cell BK252.out 3).trans rfl; have hfz11_0 := blk_frozen BK252.out 0; have hfz11_1 := blk_frozen BK252.out 1; have hfz11_2 := blk_frozen BK252.out 2; have hfz11_3 := blk_frozen BK252.out 3))
 (try simp only [Act.put, List.setIfInBounds_toArray, List.set_cons_zero, List.set_cons_succ])
 go_cut [37] (fun v37 wc => ∃ (kq : Nat) (x37_4 : Bool), v37 = .bool x37_4 ∧ Aside0 (rect_Cut.j0 kq a1 l2 x37_4 t247 t248 t249 t250 = some (r1, r2, r3)) ∧ Aside0 (kq ≤ k) ∧ Aside0 (wc.heap[gb246]? = some (.cells #[.int .i64 a0_0, .int .i64 a0_1, .int .i64 a0_2, .int .i64 a0_3] 23 (0, 0))) ∧ Aside0 (wc.heap[gb252]? = some (.cells #[.int .i64 t247, .int .i64 t248, .int .i64 t249, .int .i64 t250] 23 (0, 0))) ∧ Aside0 (Below w.heap.size w wc))
 case first =>
  have H := HC5.out
  clear HC5
  by_cases c12 : t251 = true
  ·subst c12
   have H1 : ((rect_may.f a0_0 a0_1 a0_2 a0_3).bind fun t253 => (if t253 = true then (rect_Cut.j0 k a1 l2 ((l2.length : Int) == 0) t247 t248 t249 t250) else (rect_Cut.j0 k a1 l2 true t247 t248 t249 t250))) = some (r1, r2, r3) := by rw [if_pos rfl] at H; exact H
   clear H
   have H := H1
   clear H1
   replace H := Option.bind_eq_some_iff.mp H
   obtain ⟨t253, A130, H⟩ := H
   replace H : (if t253 = true then (rect_Cut.j0 k a1 l2 ((l2.length : Int) == 0) t247 t248 t249 t250) else (rect_Cut.j0 k a1 l2 true t247 t248 t249 t250)) = some (r1, r2, r3) := H
   have A13 := Aside0.mk A130
   clear A130
   by_cases c14 : t253 = true
   ·subst c14
    have H1 : (rect_Cut.j0 k a1 l2 ((l2.length : Int) == 0) t247 t248 t249 t250) = some (r1, r2, r3) := by rw [if_pos rfl] at H; exact H
    clear H
    have H := H1
    clear H1
    have H' := Aside0.mk H
    clear H
    have hnb15 := NB246_252.out
    have hnc15 := NB252_246.out
    have hcz16_0 : w9.cell? ⟨gb246, 0, none⟩ = some (.int .i64 a0_0) := (blk_cell BK246.out 0).trans rfl
    have hcz16_1 : w9.cell? ⟨gb246, 1, none⟩ = some (.int .i64 a0_1) := (blk_cell BK246.out 1).trans rfl
    have hcz16_2 : w9.cell? ⟨gb246, 2, none⟩ = some (.int .i64 a0_2) := (blk_cell BK246.out 2).trans rfl
    have hcz16_3 : w9.cell? ⟨gb246, 3, none⟩ = some (.int .i64 a0_3) := (blk_cell BK246.out 3).trans rfl
    have hfz16_0 := blk_frozen BK246.out 0
    have hfz16_1 := blk_frozen BK246.out 1
    have hfz16_2 := blk_frozen BK246.out 2
    have hfz16_3 := blk_frozen BK246.out 3
    go_wp2_with (first | (go_at_call 128; (with_reducible refine (rect_may.calls a0_0 a0_1 a0_2 a0_3 true _ A13.out).mono ?_); rintro e w17 ⟨rfl, hb⟩; have n0_ := Aside0.mk (blk_below (g := gb246) (o := .cells #[.int .i64 a0_0, .int .i64 a0_1, .int .i64 a0_2, .int .i64 a0_3] 23 (0, 0)) (by (with_reducible repeat (first | refine blk_drewN ?_ _ | refine blk_drew ?_ | refine blk_alloc ?_ _)); refine blk_far ?_ NB246_252.out _; (with_reducible repeat (first | refine blk_drewN ?_ _ | refine blk_drew ?_ | refine blk_alloc ?_ _)); refine blk_far ?_ NB246_252.out _; (with_reducible repeat (first | refine blk_drewN ?_ _ | refine blk_drew ?_ | refine blk_alloc ?_ _)); refine blk_far ?_ NB246_252.out _; (with_reducible repeat (first | refine blk_drewN ?_ _ | refine blk_drew ?_ | refine blk_alloc ?_ _)); refine blk_far ?_ NB246_252.out _; (with_reducible repeat (first | refine blk_drewN ?_ _ | refine blk_drew ?_ | refine blk_alloc ?_ _)); exact BK246.out) hb); have n1_ := Aside0.mk (blk_below (g := gb252) (o := .cells #[.int .i64 t247, .int .i64 t248, .int .i64 t249, .int .i64 t250] 23 (0, 0)) (by (with_reducible repeat (first | refine blk_drewN ?_ _ | refine blk_drew ?_ | refine blk_alloc ?_ _)); refine blk_put (cs := #[.int .i64 t247, .int .i64 t248, .int .i64 t249, .int .i64 0]) ?_ 3 _ rfl; (with_reducible repeat (first | refine blk_drewN ?_ _ | refine blk_drew ?_ | refine blk_alloc ?_ _)); refine blk_put (cs := #[.int .i64 t247, .int .i64 t248, .int .i64 0, .int .i64 0]) ?_ 2 _ rfl; (with_reducible repeat (first | refine blk_drewN ?_ _ | refine blk_drew ?_ | refine blk_alloc ?_ _)); refine blk_put (cs := #[.int .i64 t247, .int .i64 0, .int .i64 0, .int .i64 0]) ?_ 1 _ rfl; (with_reducible repeat (first | refine blk_drewN ?_ _ | refine blk_drew ?_ | refine blk_alloc ?_ _)); refine blk_put (cs := #[.int .i64 0, .int .i64 0, .int .i64 0, .int .i64 0]) ?_ 0 _ rfl; (with_reducible repeat (first | refine blk_drewN ?_ _ | refine blk_drew ?_ | refine blk_alloc ?_ _)); exact BK252.out) hb); have n2_ := Aside0.mk (below_step (by repeat (first | (with_reducible first | exact HB.out | apply below_alloc | apply pw_below_drewN | apply below_drew1 | refine below_set ?_ GE246.out | refine below_set ?_ GE252.out) | exact HB.out)) hb); clear BK246; clear BK252; clear HB; have BK246 := n0_; have BK252 := n1_; have HB := n2_; clear n0_ n1_ n2_; (try clear hb); (try clear hb2); (try clear hk); (try clear hi)))
    go_meet
    case rel => exact ⟨_, (((l2.length : Int) == 0)), (by first | rfl | (simp; done) | (simp [*]; done)), H', ⟨by first | omega | exact Nat.le_refl _⟩, ⟨by (with_reducible repeat (first | refine blk_drewN ?_ _ | refine blk_drew ?_ | refine blk_alloc ?_ _)); exact BK246.out⟩, ⟨by (with_reducible repeat (first | refine blk_drewN ?_ _ | refine blk_drew ?_ | refine blk_alloc ?_ _)); exact BK252.out⟩, ⟨by repeat (first | (with_reducible first | exact HB.out | apply below_alloc | apply pw_below_drewN | apply below_drew1 | refine below_set ?_ GE246.out | refine below_set ?_ GE252.out) | exact HB.out)⟩⟩
   ·replace c14 := Bool.eq_false_iff.mpr c14
    subst c14
    have H1 : (rect_Cut.j0 k a1 l2 true t247 t248 t249 t250) = some (r1, r2, r3) := by rw [if_neg (show ¬ (false = true) by decide)] at H; exact H
    clear H
    have H := H1
    clear H1
    have H' := Aside0.mk H
    clear H
    have hnb18 := NB246_252.out
    have hnc18 := NB252_246.out
    have hcz19_0 : w9.cell? ⟨gb246, 0, none⟩ = some (.int .i64 a0_0) := (blk_cell BK246.out 0).trans rfl
    have hcz19_1 : w9.cell? ⟨gb246, 1, none⟩ = some (.int .i64 a0_1) := (blk_cell BK246.out 1).trans rfl
    have hcz19_2 : w9.cell? ⟨gb246, 2, none⟩ = some (.int .i64 a0_2) := (blk_cell BK246.out 2).trans rfl
    have hcz19_3 : w9.cell? ⟨gb246, 3, none⟩ = some (.int .i64 a0_3) := (blk_cell BK246.out 3).trans rfl
    have hfz19_0 := blk_frozen BK246.out 0
    have hfz19_1 := blk_frozen BK246.out 1
    have hfz19_2 := blk_frozen BK246.out 2
    have hfz19_3 := blk_frozen BK246.out 3
    go_wp2_with (first | (go_at_call 128; (with_reducible refine (rect_may.calls a0_0 a0_1 a0_2 a0_3 false _ A13.out).mono ?_); rintro e w20 ⟨rfl, hb⟩; have n0_ := Aside0.mk (blk_below (g := gb246) (o := .cells #[.int .i64 a0_0, .int .i64 a0_1, .int .i64 a0_2, .int .i64 a0_3] 23 (0, 0)) (by (with_reducible repeat (first | refine blk_drewN ?_ _ | refine blk_drew ?_ | refine blk_alloc ?_ _)); refine blk_far ?_ NB246_252.out _; (with_reducible repeat (first | refine blk_drewN ?_ _ | refine blk_drew ?_ | refine blk_alloc ?_ _)); refine blk_far ?_ NB246_252.out _; (with_reducible repeat (first | refine blk_drewN ?_ _ | refine blk_drew ?_ | refine blk_alloc ?_ _)); refine blk_far ?_ NB246_252.out _; (with_reducible repeat (first | refine blk_drewN ?_ _ | refine blk_drew ?_ | refine blk_alloc ?_ _)); refine blk_far ?_ NB246_252.out _; (with_reducible repeat (first | refine blk_drewN ?_ _ | refine blk_drew ?_ | refine blk_alloc ?_ _)); exact BK246.out) hb); have n1_ := Aside0.mk (blk_below (g := gb252) (o := .cells #[.int .i64 t247, .int .i64 t248, .int .i64 t249, .int .i64 t250] 23 (0, 0)) (by (with_reducible repeat (first | refine blk_drewN ?_ _ | refine blk_drew ?_ | refine blk_alloc ?_ _)); refine blk_put (cs := #[.int .i64 t247, .int .i64 t248, .int .i64 t249, .int .i64 0]) ?_ 3 _ rfl; (with_reducible repeat (first | refine blk_drewN ?_ _ | refine blk_drew ?_ | refine blk_alloc ?_ _)); refine blk_put (cs := #[.int .i64 t247, .int .i64 t248, .int .i64 0, .int .i64 0]) ?_ 2 _ rfl; (with_reducible repeat (first | refine blk_drewN ?_ _ | refine blk_drew ?_ | refine blk_alloc ?_ _)); refine blk_put (cs := #[.int .i64 t247, .int .i64 0, .int .i64 0, .int .i64 0]) ?_ 1 _ rfl; (with_reducible repeat (first | refine blk_drewN ?_ _ | refine blk_drew ?_ | refine blk_alloc ?_ _)); refine blk_put (cs := #[.int .i64 0, .int .i64 0, .int .i64 0, .int .i64 0]) ?_ 0 _ rfl; (with_reducible repeat (first | refine blk_drewN ?_ _ | refine blk_drew ?_ | refine blk_alloc ?_ _)); exact BK252.out) hb); have n2_ := Aside0.mk (below_step (by repeat (first | (with_reducible first | exact HB.out | apply below_alloc | apply pw_below_drewN | apply below_drew1 | refine below_set ?_ GE246.out | refine below_set ?_ GE252.out) | exact HB.out)) hb); clear BK246; clear BK252; clear HB; have BK246 := n0_; have BK252 := n1_; have HB := n2_; clear n0_ n1_ n2_; (try clear hb); (try clear hb2); (try clear hk); (try clear hi)))
    go_meet
    case rel => exact ⟨_, (true), (by first | rfl | (simp; done) | (simp [*]; done)), H', ⟨by first | omega | exact Nat.le_refl _⟩, ⟨by (with_reducible repeat (first | refine blk_drewN ?_ _ | refine blk_drew ?_ | refine blk_alloc ?_ _)); exact BK246.out⟩, ⟨by (with_reducible repeat (first | refine blk_drewN ?_ _ | refine blk_drew ?_ | refine blk_alloc ?_ _)); exact BK252.out⟩, ⟨by repeat (first | (with_reducible first | exact HB.out | apply below_alloc | apply pw_below_drewN | apply below_drew1 | refine below_set ?_ GE246.out | refine below_set ?_ GE252.out) | exact HB.out)⟩⟩
  ·replace c12 := Bool.eq_false_iff.mpr c12
   subst c12
   have H1 : (rect_Cut.j0 k a1 l2 true t247 t248 t249 t250) = some (r1, r2, r3) := by rw [if_neg (show ¬ (false = true) by decide)] at H; exact H
   clear H
   have H := H1
   clear H1
   have H' := Aside0.mk H
   clear H
   go_wp2
   go_meet
   case rel => exact ⟨_, (true), (by first | rfl | (simp; done) | (simp [*]; done)), H', ⟨by first | omega | exact Nat.le_refl _⟩, ⟨by (with_reducible repeat (first | refine blk_drewN ?_ _ | refine blk_drew ?_ | refine blk_alloc ?_ _)); refine blk_far ?_ NB246_252.out _; (with_reducible repeat (first | refine blk_drewN ?_ _ | refine blk_drew ?_ | refine blk_alloc ?_ _)); refine blk_far ?_ NB246_252.out _; (with_reducible repeat (first | refine blk_drewN ?_ _ | refine blk_drew ?_ | refine blk_alloc ?_ _)); refine blk_far ?_ NB246_252.out _; (with_reducible repeat (first | refine blk_drewN ?_ _ | refine blk_drew ?_ | refine blk_alloc ?_ _)); refine blk_far ?_ NB246_252.out _; (with_reducible repeat (first | refine blk_drewN ?_ _ | refine blk_drew ?_ | refine blk_alloc ?_ _)); exact BK246.out⟩, ⟨by (with_reducible repeat (first | refine blk_drewN ?_ _ | refine blk_drew ?_ | refine blk_alloc ?_ _)); refine blk_put (cs := #[.int .i64 t247, .int .i64 t248, .int .i64 t249, .int .i64 0]) ?_ 3 _ rfl; (with_reducible repeat (first | refine blk_drewN ?_ _ | refine blk_drew ?_ | refine blk_alloc ?_ _)); refine blk_put (cs := #[.int .i64 t247, .int .i64 t248, .int .i64 0, .int .i64 0]) ?_ 2 _ rfl; (with_reducible repeat (first | refine blk_drewN ?_ _ | refine blk_drew ?_ | refine blk_alloc ?_ _)); refine blk_put (cs := #[.int .i64 t247, .int .i64 0, .int .i64 0, .int .i64 0]) ?_ 1 _ rfl; (with_reducible repeat (first | refine blk_drewN ?_ _ | refine blk_drew ?_ | refine blk_alloc ?_ _)); refine blk_put (cs := #[.int .i64 0, .int .i64 0, .int .i64 0, .int .i64 0]) ?_ 0 _ rfl; (with_reducible repeat (first | refine blk_drewN ?_ _ | refine blk_drew ?_ | refine blk_alloc ?_ _)); exact BK252.out⟩, ⟨by repeat (first | (with_reducible first | exact HB.out | apply below_alloc | apply pw_below_drewN | apply below_drew1 | refine below_set ?_ GE246.out | refine below_set ?_ GE252.out) | exact HB.out)⟩⟩
 case rest =>
  clear HC5
  try clear c1
  try clear c2
  try clear p2
  try clear c4
  try clear c10
  try clear c12
  try clear c14
  try clear c15
  try clear c18
  try clear hcz11_0
  try clear hcz11_1
  try clear hcz11_2
  try clear hcz11_3
  try clear hcz16_0
  try clear hcz16_1
  try clear hcz16_2
  try clear hcz16_3
  try clear hcz19_0
  try clear hcz19_1
  try clear hcz19_2
  try clear hcz19_3
  try clear hcz7_0
  try clear hcz7_1
  try clear hcz7_2
  try clear hcz7_3
  try clear hfz11_0
  try clear hfz11_1
  try clear hfz11_2
  try clear hfz11_3
  try clear hfz16_0
  try clear hfz16_1
  try clear hfz16_2
  try clear hfz16_3
  try clear hfz19_0
  try clear hfz19_1
  try clear hfz19_2
  try clear hfz19_3
  try clear hfz7_0
  try clear hfz7_1
  try clear hfz7_2
  try clear hfz7_3
  obtain ⟨kq, x37_4, rfl, HA, HJ4, BK246, BK252, HB⟩ := hcut
  cases kq with
  | zero => exact absurd HA.out (by simp [rect_Cut.j0])
  | succ kj4 =>
   have H := HA.out
   clear HA
   simp only [rect_Cut.j0] at H
   by_cases c21 : x37_4 = true
   ·subst c21
    have H1 : (some (([] : List (S23)), ([] : List (S23)), false)) = some (r1, r2, r3) := by rw [if_pos rfl] at H; exact H
    clear H
    have H := H1
    clear H1
    simp only [Option.some.injEq, Prod.mk.injEq] at H
    obtain ⟨rfl, rfl, rfl⟩ := H
    go_wp2
    go_ret3
    exact ⟨_, _, by first | rfl | (simp [errW_none, errW_some] <;> rfl) | (simp [*, errW_none, errW_some] <;> rfl), by first | exact Kd.R_nil _ _ _ _ _ | exact Kd.N_nil _ _ _ _ _ | exact Kd.V_nil _ _ _ _ _ | exact Kd.Q_nil _ _ _ _ _ | exact Kd.S_nil _ _ _ _ _, by first | exact Kd.R_nil _ _ _ _ _ | exact Kd.N_nil _ _ _ _ _ | exact Kd.V_nil _ _ _ _ _ | exact Kd.Q_nil _ _ _ _ _ | exact Kd.S_nil _ _ _ _ _, by repeat (first | (with_reducible first | exact HB.out | apply below_alloc | apply pw_below_drewN | apply below_drew1 | refine below_set ?_ GE246.out | refine below_set ?_ GE252.out) | exact HB.out)⟩
   ·replace c21 := Bool.eq_false_iff.mpr c21
    subst c21
    have H1 : (rect_Cut.l0 kj4 a1 ([] : List (S23)) ([] : List (S23)) t247 l2 (l2.length : Int) 0 t247 t248 t249 t250) = some (r1, r2, r3) := by rw [if_neg (show ¬ (false = true) by decide)] at H; exact H
    clear H
    have H := H1
    clear H1
    have H' := Aside0.mk H
    clear H
    have hnb22 := NB252_246.out
    have hnc22 := NB246_252.out
    have hcz23_0 : wc.cell? ⟨gb252, 0, none⟩ = some (.int .i64 t247) := (blk_cell BK252.out 0).trans rfl
    have hcz23_1 : wc.cell? ⟨gb252, 1, none⟩ = some (.int .i64 t248) := (blk_cell BK252.out 1).trans rfl
    have hcz23_2 : wc.cell? ⟨gb252, 2, none⟩ = some (.int .i64 t249) := (blk_cell BK252.out 2).trans rfl
    have hcz23_3 : wc.cell? ⟨gb252, 3, none⟩ = some (.int .i64 t250) := (blk_cell BK252.out 3).trans rfl
    have hfz23_0 := blk_frozen BK252.out 0
    have hfz23_1 := blk_frozen BK252.out 1
    have hfz23_2 := blk_frozen BK252.out 2
    have hfz23_3 := blk_frozen BK252.out 3
    go_wp2
    go_loopg [11, 12, 13, 42] kj4 (fun kq v11 v12 v13 v42 w' => ∃ (x11_2 : List (S23)) (x12_2 : List (S23)) (x13_2 : Int) (x42_2 : Int), v13 = .int .i64 x13_2 ∧ v42 = .int .i64 x42_2 ∧ Aside0 (rect_Cut.l0 kq a1 x11_2 x12_2 x13_2 l2 (l2.length : Int) x42_2 t247 t248 t249 t250 = some (r1, r2, r3)) ∧ Aside0 (kq ≤ kj4) ∧ Aside0 (Kd.R k23 23 w' w.heap.size (fun k_ => some k_ ≠ (v12 : Value).ownBlock ∧ k_ ≠ gb246 ∧ k_ ≠ gb252) v11 x11_2) ∧ Aside0 (Kd.R k23 23 w' w.heap.size (fun k_ => some k_ ≠ (v11 : Value).ownBlock ∧ k_ ≠ gb246 ∧ k_ ≠ gb252) v12 x12_2) ∧ Aside0 (w'.heap[gb246]? = some (.cells #[.int .i64 a0_0, .int .i64 a0_1, .int .i64 a0_2, .int .i64 a0_3] 23 (0, 0))) ∧ Aside0 (w'.heap[gb252]? = some (.cells #[.int .i64 t247, .int .i64 t248, .int .i64 t249, .int .i64 t250] 23 (0, 0))) ∧ Aside0 (Below w.heap.size w w'))
    case atStart => exact ⟨(([] : List (S23))), (([] : List (S23))), (t247), (0), (by first | rfl | (simp; done) | (simp [*]; done)), (by first | rfl | (simp; done) | (simp [*]; done)), H', ⟨Nat.le_refl _⟩, ⟨by first | exact Kd.R_nil _ _ _ _ _ | exact Kd.N_nil _ _ _ _ _ | exact Kd.V_nil _ _ _ _ _ | exact Kd.Q_nil _ _ _ _ _ | exact Kd.S_nil _ _ _ _ _⟩, ⟨by first | exact Kd.R_nil _ _ _ _ _ | exact Kd.N_nil _ _ _ _ _ | exact Kd.V_nil _ _ _ _ _ | exact Kd.Q_nil _ _ _ _ _ | exact Kd.S_nil _ _ _ _ _⟩, ⟨by (with_reducible repeat (first | refine blk_drewN ?_ _ | refine blk_drew ?_ | refine blk_alloc ?_ _)); exact BK246.out⟩, ⟨by (with_reducible repeat (first | refine blk_drewN ?_ _ | refine blk_drew ?_ | refine blk_alloc ?_ _)); exact BK252.out⟩, ⟨by repeat (first | (with_reducible first | exact HB.out | apply below_alloc | apply pw_below_drewN | apply below_drew1 | refine below_set ?_ GE246.out | refine below_set ?_ GE252.out) | exact HB.out)⟩⟩
    case round =>
     clear H'
     try clear c1
     try clear c2
     try clear p2
     try clear c4
     try clear c10
     try clear c12
     try clear c14
     try clear c15
     try clear c18
     try clear c21
     try clear c22
     try clear hcz11_0
     try clear hcz11_1
     try clear hcz11_2
     try clear hcz11_3
     try clear hcz16_0
     try clear hcz16_1
     try clear hcz16_2
     try clear hcz16_3
     try clear hcz19_0
     try clear hcz19_1
     try clear hcz19_2
     try clear hcz19_3
     try clear hcz23_0
     try clear hcz23_1
     try clear hcz23_2
     try clear hcz23_3
     try clear hcz7_0
     try clear hcz7_1
     try clear hcz7_2
     try clear hcz7_3
     try clear hfz11_0
     try clear hfz11_1
     try clear hfz11_2
     try clear hfz11_3
     try clear hfz16_0
     try clear hfz16_1
     try clear hfz16_2
     try clear hfz16_3
     try clear hfz19_0
     try clear hfz19_1
     try clear hfz19_2
     try clear hfz19_3
     try clear hfz23_0
     try clear hfz23_1
     try clear hfz23_2
     try clear hfz23_3
     try clear hfz7_0
     try clear hfz7_1
     try clear hfz7_2
     try clear hfz7_3
     try clear p2
     obtain ⟨x11_2, x12_2, x13_2, x42_2, rfl, rfl, HA, HK2, HO_11, HO_12, BK246, BK252, HB⟩ := hrel
     cases gk with
     | zero => exact absurd HA.out (by simp [rect_Cut.l0])
     | succ k2 =>
      have H := HA.out
      clear HA
      simp only [rect_Cut.l0] at H
      by_cases c24 : x42_2 < (l2.length : Int)
      ·rw [if_pos c24] at H
       have c24b0 : decide (x42_2 < (l2.length : Int)) = true := decide_eq_true c24
       clear c24
       by_cases c25 : 0 ≤ x42_2
       ·rw [if_pos c25] at H
        have c25b0 : decide (0 ≤ x42_2) = true := decide_eq_true c25
        clear c25
        by_cases c26 : x42_2 < (l2.length : Int)
        ·rw [if_pos c26] at H
         have c26b0 : decide (x42_2 < (l2.length : Int)) = true := decide_eq_true c26
         clear c26
         by_cases c27 : x42_2 > 0
         ·rw [if_pos c27] at H
          have c27b0 : decide (0 < x42_2) = true := decide_eq_true c27
          clear c27
          replace H := Option.bind_eq_some_iff.mp H
          obtain ⟨⟨t255, t256, t257, t258, t259⟩, A280, H⟩ := H
          replace H : (if x12_2.length < 4398046511104 then (if (rd l2 x42_2) < 1 then (some (([] : List (S23)), ([] : List (S23)), false)) else (if (rd l2 x42_2) > (wrap64 ((wrap64 (t247 + t249)) - (wrap64 (x13_2 + 1)))) then (some (([] : List (S23)), ([] : List (S23)), false)) else ((rect_turned.f (wrap64 (x13_2 + 1)) t248 (rd l2 x42_2) t250 a1).bind fun bt264 => (if x11_2.length < 4398046511104 then (rect_Cut.l0 k2 a1 (x11_2 ++ [(⟨bt264.1, bt264.2.1, bt264.2.2.1, bt264.2.2.2.1⟩ : S23)]) (x12_2 ++ [(⟨t255, t256, t257, t258⟩ : S23)]) (wrap64 ((wrap64 (x13_2 + 1)) + (rd l2 x42_2))) l2 (l2.length : Int) (wrap64 (x42_2 + 1)) t247 t248 t249 t250) else (none))))) else (none)) = some (r1, r2, r3) := H
          have A28 := Aside0.mk A280
          clear A280
          by_cases c29 : x12_2.length < 4398046511104
          ·rw [if_pos c29] at H
           have LMc29 := Aside0.mk c29
           clear c29
           obtain ⟨y261, hy261⟩ : ∃ y_ : List (S23), y_ = (x12_2 ++ [(⟨t255, t256, t257, t258⟩ : S23)]) := ⟨_, rfl⟩
           replace H : (if (rd l2 x42_2) < 1 then (some (([] : List (S23)), ([] : List (S23)), false)) else (if (rd l2 x42_2) > (wrap64 ((wrap64 (t247 + t249)) - (wrap64 (x13_2 + 1)))) then (some (([] : List (S23)), ([] : List (S23)), false)) else ((rect_turned.f (wrap64 (x13_2 + 1)) t248 (rd l2 x42_2) t250 a1).bind fun bt264 => (if x11_2.length < 4398046511104 then (rect_Cut.l0 k2 a1 (x11_2 ++ [(⟨bt264.1, bt264.2.1, bt264.2.2.1, bt264.2.2.2.1⟩ : S23)]) y261 (wrap64 ((wrap64 (x13_2 + 1)) + (rd l2 x42_2))) l2 (l2.length : Int) (wrap64 (x42_2 + 1)) t247 t248 t249 t250) else (none))))) = some (r1, r2, r3) := by first | (rw [hy261]; with_reducible exact H) | (have H2_ := (Option.bind_some _ _).symm.trans H; rw [hy261]; with_reducible exact H2_) | (have H2_ := (Option.bind_some _ _).symm.trans H; with_reducible exact H2_) | with_reducible exact H | (rw [hy261]; exact H) | exact H
           have Ny261 := Aside0.mk hy261
           clear hy261
           by_cases c30 : (rd l2 x42_2) < 1
           ·rw [if_pos c30] at H
            have c30b0 : decide ((rd l2 x42_2) < 1) = true := decide_eq_true c30
            clear c30
            simp only [Option.some.injEq, Prod.mk.injEq] at H
            obtain ⟨rfl, rfl, rfl⟩ := H
            have p254 : 0 ≤ (x42_2 : Int) := of_decide_eq_true (by first | (with_reducible assumption) | assumption)
            have q254 : x42_2 < (l2.length : Int) := of_decide_eq_true (by first | (with_reducible assumption) | assumption)
            obtain ⟨ad254, e254, hx254_0⟩ := Kd.at_int HR2.out x42_2 p254 q254
            cases e254
            replace hx254_0 := (HB.out.cell (World.block_lt_of_cell? w _ hx254_0)).trans hx254_0
            replace p254 := eq_true p254
            replace q254 := eq_true q254
            have hnb31 := NB252_246.out
            have hnc31 := NB246_252.out
            have hcz32_0 : wr.cell? ⟨gb252, 0, none⟩ = some (.int .i64 t247) := (blk_cell BK252.out 0).trans rfl
            have hcz32_1 : wr.cell? ⟨gb252, 1, none⟩ = some (.int .i64 t248) := (blk_cell BK252.out 1).trans rfl
            have hcz32_2 : wr.cell? ⟨gb252, 2, none⟩ = some (.int .i64 t249) := (blk_cell BK252.out 2).trans rfl
            have hcz32_3 : wr.cell? ⟨gb252, 3, none⟩ = some (.int .i64 t250) := (blk_cell BK252.out 3).trans rfl
            have hfz32_0 := blk_frozen BK252.out 0
            have hfz32_1 := blk_frozen BK252.out 1
            have hfz32_2 := blk_frozen BK252.out 2
            have hfz32_3 := blk_frozen BK252.out 3
            go_wp2_with (first | ((with_reducible refine gate_callee (f := 127) rfl ?_); refine goesL_ (some 57) rfl rfl Try.func127 (by kernel_rfl) rfl #[.agg #[.int .i64 x13_2, .int .i64 t248, .int .i64 1, .int .i64 t250], .int .u8 a1] rfl (by (try simp only [List.map_toArray, List.map_cons, List.map_nil]); first | done | rfl | (simp only [List.length_drop, List.length_take]; rfl)) ?_; (with_reducible refine (rect_turned.calls x13_2 t248 1 t250 a1 t255 t256 t257 t258 t259 _ A28.out).mono ?_); rintro e w33 ⟨rfl, hb⟩; refine ⟨_, rfl, ?_⟩; have n0_ := Aside0.mk (Kd.R_below (by (with_reducible repeat (first | apply Kd.R_alloc | apply Kd.R_drewN | apply Kd.R_drew)); exact HO_11.out) hb); have n1_ := Aside0.mk (Kd.R_below (by (with_reducible repeat (first | apply Kd.R_alloc | apply Kd.R_drewN | apply Kd.R_drew)); exact HO_12.out) hb); have n2_ := Aside0.mk (blk_below (g := gb246) (o := .cells #[.int .i64 a0_0, .int .i64 a0_1, .int .i64 a0_2, .int .i64 a0_3] 23 (0, 0)) (by (with_reducible repeat (first | refine blk_drewN ?_ _ | refine blk_drew ?_ | refine blk_alloc ?_ _)); exact BK246.out) hb); have n3_ := Aside0.mk (blk_below (g := gb252) (o := .cells #[.int .i64 t247, .int .i64 t248, .int .i64 t249, .int .i64 t250] 23 (0, 0)) (by (with_reducible repeat (first | refine blk_drewN ?_ _ | refine blk_drew ?_ | refine blk_alloc ?_ _)); exact BK252.out) hb); have n4_ := Aside0.mk (below_step (by repeat (first | (with_reducible first | exact HB.out | apply below_alloc | apply pw_below_drewN | apply below_drew1 | refine below_set ?_ GE246.out | refine below_set ?_ GE252.out) | exact HB.out)) hb); clear HO_11; clear HO_12; clear BK246; clear BK252; clear HB; have HO_11 := n0_; have HO_12 := n1_; have BK246 := n2_; have BK252 := n3_; have HB := n4_; clear n0_ n1_ n2_ n3_ n4_; (try clear hb); (try clear hb2); (try clear hk); (try clear hi)) | ((with_reducible refine gate_dst (N := 16) rfl ?_); (try (refine gate_guard (by rfl) ?_; dsimp only)); refine box_event ?hg (N := 16) ?hd (cs := #[.int .i64 0, .int .i64 0, .int .i64 0, .int .i64 0]) (t := 23) ?hr ?_; (case hd => rfl); (case hg => rfl); (case hr => first | (go_simp; done) | (go_simp; rfl)); intro gb260 hg w34 hbox hb; have n0_ := Aside0.mk (Kd.R_below (Kd.R_elderB (by (with_reducible repeat (first | apply Kd.R_alloc | apply Kd.R_drewN | apply Kd.R_drew)); exact HO_11.out) gb260 (Nat.le_of_eq hg.symm)) hb); have n1_ := Aside0.mk (Kd.R_below (Kd.R_elderB (by (with_reducible repeat (first | apply Kd.R_alloc | apply Kd.R_drewN | apply Kd.R_drew)); exact HO_12.out) gb260 (Nat.le_of_eq hg.symm)) hb); have n2_ := Aside0.mk (blk_below (g := gb246) (o := .cells #[.int .i64 a0_0, .int .i64 a0_1, .int .i64 a0_2, .int .i64 a0_3] 23 (0, 0)) (by (with_reducible repeat (first | refine blk_drewN ?_ _ | refine blk_drew ?_ | refine blk_alloc ?_ _)); exact BK246.out) hb); have n3_ := Aside0.mk (blk_below (g := gb252) (o := .cells #[.int .i64 t247, .int .i64 t248, .int .i64 t249, .int .i64 t250] 23 (0, 0)) (by (with_reducible repeat (first | refine blk_drewN ?_ _ | refine blk_drew ?_ | refine blk_alloc ?_ _)); exact BK252.out) hb); have n4_ := Aside0.mk (below_step (by repeat (first | (with_reducible first | exact HB.out | apply below_alloc | apply pw_below_drewN | apply below_drew1 | refine below_set ?_ GE246.out | refine below_set ?_ GE252.out) | exact HB.out)) hb); have n5_ := Aside0.mk (hbox); have n6_ := Aside0.mk ((by rw [hg]; exact (below_size (by repeat (first | (with_reducible first | exact HB.out | apply below_alloc | apply pw_below_drewN | apply below_drew1 | refine below_set ?_ GE246.out | refine below_set ?_ GE252.out) | exact HB.out))) : w.heap.size ≤ gb260)); have n7_ := Aside0.mk ((by rw [hg]; exact (below_size (by repeat (first | (with_reducible first | exact HB.out | apply below_alloc | apply pw_below_drewN | apply below_drew1 | refine below_set ?_ GE246.out | refine below_set ?_ GE252.out) | exact HB.out))) : w.heap.size ≤ gb260)); have n8_ := Aside0.mk ((by rw [hg]; exact Nat.ne_of_lt (blk_lt (g := gb246) (o := .cells #[.int .i64 a0_0, .int .i64 a0_1, .int .i64 a0_2, .int .i64 a0_3] 23 (0, 0)) (by (with_reducible repeat (first | refine blk_drewN ?_ _ | refine blk_drew ?_ | refine blk_alloc ?_ _)); exact BK246.out)) : gb246 ≠ gb260)); have n9_ := Aside0.mk ((by rw [hg]; exact Nat.ne_of_gt (blk_lt (g := gb246) (o := .cells #[.int .i64 a0_0, .int .i64 a0_1, .int .i64 a0_2, .int .i64 a0_3] 23 (0, 0)) (by (with_reducible repeat (first | refine blk_drewN ?_ _ | refine blk_drew ?_ | refine blk_alloc ?_ _)); exact BK246.out)) : gb260 ≠ gb246)); have n10_ := Aside0.mk ((by rw [hg]; exact Nat.ne_of_lt (blk_lt (g := gb252) (o := .cells #[.int .i64 t247, .int .i64 t248, .int .i64 t249, .int .i64 t250] 23 (0, 0)) (by (with_reducible repeat (first | refine blk_drewN ?_ _ | refine blk_drew ?_ | refine blk_alloc ?_ _)); exact BK252.out)) : gb252 ≠ gb260)); have n11_ := Aside0.mk ((by rw [hg]; exact Nat.ne_of_gt (blk_lt (g := gb252) (o := .cells #[.int .i64 t247, .int .i64 t248, .int .i64 t249, .int .i64 t250] 23 (0, 0)) (by (with_reducible repeat (first | refine blk_drewN ?_ _ | refine blk_drew ?_ | refine blk_alloc ?_ _)); exact BK252.out)) : gb260 ≠ gb252)); clear HO_11; clear HO_12; clear BK246; clear BK252; clear HB; have HO_11 := n0_; have HO_12 := n1_; have BK246 := n2_; have BK252 := n3_; have HB := n4_; have BK260 := n5_; have GW260 := n6_; have GE260 := n7_; have NB246_260 := n8_; have NB260_246 := n9_; have NB252_260 := n10_; have NB260_252 := n11_; clear n0_ n1_ n2_ n3_ n4_ n5_ n6_ n7_ n8_ n9_ n10_ n11_; clear hb hbox hg; have hnb35 := NB260_246.out; have hnc35 := NB246_260.out; have hnb36 := NB260_252.out; have hnc36 := NB252_260.out; have hcz37_0 : w34.cell? ⟨gb260, 0, none⟩ = some (.int .i64 0) := (blk_cell BK260.out 0).trans rfl; have hcz37_1 : w34.cell? ⟨gb260, 1, none⟩ = some (.int .i64 0) := (blk_cell BK260.out 1).trans rfl; have hcz37_2 : w34.cell? ⟨gb260, 2, none⟩ = some (.int .i64 0) := (blk_cell BK260.out 2).trans rfl; have hcz37_3 : w34.cell? ⟨gb260, 3, none⟩ = some (.int .i64 0) := (blk_cell BK260.out 3).trans rfl; have hfz37_0 := blk_frozen BK260.out 0; have hfz37_1 := blk_frozen BK260.out 1; have hfz37_2 := blk_frozen BK260.out 2; have hfz37_3 := blk_frozen BK260.out 3) | ((with_reducible refine gate_builtin (b := .append) (xs := #[.tmp 60, .tmp 62]) rfl ?_); (try (refine gate_guard (by rfl) ?_; dsimp only)); at_builtin; refine Kd.R_append k23 (w0 := w) w.heap.size rfl (.tmp 60) (.tmp 62) 42 23 (.agg #[(.int .i64 0), (.int .i64 0), (.int .i64 0), (.int .i64 0)]) 32 rfl Try.underlying42 info23 rfl (by decide) (by omega) u12 x12_2 (⟨t255, t256, t257, t258⟩ : S23) [.int .i64 t255, .int .i64 t256, .int .i64 t257, .int .i64 t258] (fun k_ => some k_ ≠ (u11 : Value).ownBlock ∧ k_ ≠ gb246 ∧ k_ ≠ gb252 ∧ k_ ≠ gb260) (fun _ => False) rfl (by first | (go_simp; done) | (go_simp; rfl)) ?aP (fun _ hk => hk.elim) ?aF ?aO ?aB ?aS ?aL ?_; (case aP => exact k23_mkM _ _ _ (⟨t255, t256, t257, t258⟩ : S23)); (case aB => exact (by repeat (first | (with_reducible first | exact HB.out | apply below_alloc | apply pw_below_drewN | apply below_drew1 | refine below_set ?_ GE246.out | refine below_set ?_ GE252.out | refine below_set ?_ GE260.out) | exact HB.out))); (case aF => exact (fun k_ hk => ⟨Kd.fresh' (Kd.R_lt (by (with_reducible repeat (first | apply Kd.R_alloc | apply Kd.R_drewN | apply Kd.R_drew)); exact (Kd.R_mono (Kd.R_far (p := ⟨gb260, 3, none⟩) (Kd.R_far (p := ⟨gb260, 2, none⟩) (Kd.R_far (p := ⟨gb260, 1, none⟩) (Kd.R_far (p := ⟨gb260, 0, none⟩) (Kd.R_mono HO_11.out (fun k_ hk => (⟨hk, hk.2⟩ : _ ∧ k_ ≠ gb260))) (fun _ hk => hk.2) (.int .i64 t255)) (fun _ hk => hk.2) (.int .i64 t256)) (fun _ hk => hk.2) (.int .i64 t257)) (fun _ hk => hk.2) (.int .i64 t258)) (fun _ h_ => h_.1)))) k_ hk, Kd.freshB (g := gb246) (o := .cells #[.int .i64 a0_0, .int .i64 a0_1, .int .i64 a0_2, .int .i64 a0_3] 23 (0, 0)) (by (with_reducible repeat (first | refine blk_drewN ?_ _ | refine blk_drew ?_ | refine blk_alloc ?_ _)); refine blk_far ?_ NB246_260.out _; (with_reducible repeat (first | refine blk_drewN ?_ _ | refine blk_drew ?_ | refine blk_alloc ?_ _)); refine blk_far ?_ NB246_260.out _; (with_reducible repeat (first | refine blk_drewN ?_ _ | refine blk_drew ?_ | refine blk_alloc ?_ _)); refine blk_far ?_ NB246_260.out _; (with_reducible repeat (first | refine blk_drewN ?_ _ | refine blk_drew ?_ | refine blk_alloc ?_ _)); refine blk_far ?_ NB246_260.out _; (with_reducible repeat (first | refine blk_drewN ?_ _ | refine blk_drew ?_ | refine blk_alloc ?_ _)); exact BK246.out) k_ hk, Kd.freshB (g := gb252) (o := .cells #[.int .i64 t247, .int .i64 t248, .int .i64 t249, .int .i64 t250] 23 (0, 0)) (by (with_reducible repeat (first | refine blk_drewN ?_ _ | refine blk_drew ?_ | refine blk_alloc ?_ _)); refine blk_far ?_ NB252_260.out _; (with_reducible repeat (first | refine blk_drewN ?_ _ | refine blk_drew ?_ | refine blk_alloc ?_ _)); refine blk_far ?_ NB252_260.out _; (with_reducible repeat (first | refine blk_drewN ?_ _ | refine blk_drew ?_ | refine blk_alloc ?_ _)); refine blk_far ?_ NB252_260.out _; (with_reducible repeat (first | refine blk_drewN ?_ _ | refine blk_drew ?_ | refine blk_alloc ?_ _)); refine blk_far ?_ NB252_260.out _; (with_reducible repeat (first | refine blk_drewN ?_ _ | refine blk_drew ?_ | refine blk_alloc ?_ _)); exact BK252.out) k_ hk, Kd.freshB (g := gb260) (o := .cells #[.int .i64 t255, .int .i64 t256, .int .i64 t257, .int .i64 t258] 23 (0, 0)) (by (with_reducible repeat (first | refine blk_drewN ?_ _ | refine blk_drew ?_ | refine blk_alloc ?_ _)); refine blk_put (cs := #[.int .i64 t255, .int .i64 t256, .int .i64 t257, .int .i64 0]) ?_ 3 _ rfl; (with_reducible repeat (first | refine blk_drewN ?_ _ | refine blk_drew ?_ | refine blk_alloc ?_ _)); refine blk_put (cs := #[.int .i64 t255, .int .i64 t256, .int .i64 0, .int .i64 0]) ?_ 2 _ rfl; (with_reducible repeat (first | refine blk_drewN ?_ _ | refine blk_drew ?_ | refine blk_alloc ?_ _)); refine blk_put (cs := #[.int .i64 t255, .int .i64 0, .int .i64 0, .int .i64 0]) ?_ 1 _ rfl; (with_reducible repeat (first | refine blk_drewN ?_ _ | refine blk_drew ?_ | refine blk_alloc ?_ _)); refine blk_put (cs := #[.int .i64 0, .int .i64 0, .int .i64 0, .int .i64 0]) ?_ 0 _ rfl; (with_reducible repeat (first | refine blk_drewN ?_ _ | refine blk_drew ?_ | refine blk_alloc ?_ _)); exact BK260.out) k_ hk⟩)); (case aO => exact (by (with_reducible repeat (first | apply Kd.R_alloc | apply Kd.R_drewN | apply Kd.R_drew)); exact Kd.R_mono (Kd.R_far (p := ⟨gb260, 3, none⟩) (Kd.R_far (p := ⟨gb260, 2, none⟩) (Kd.R_far (p := ⟨gb260, 1, none⟩) (Kd.R_far (p := ⟨gb260, 0, none⟩) (Kd.R_mono HO_12.out (fun k_ hk => (⟨hk, hk.2⟩ : _ ∧ k_ ≠ gb260))) (fun _ hk => hk.2) (.int .i64 t255)) (fun _ hk => hk.2) (.int .i64 t256)) (fun _ hk => hk.2) (.int .i64 t257)) (fun _ hk => hk.2) (.int .i64 t258)) (fun _ hk => ⟨hk.1.1.1, ⟨hk.1.1.2.1, ⟨hk.1.1.2.2, hk.1.2⟩⟩⟩))); (case aS => exact (below_size (by repeat (first | (with_reducible first | exact HB.out | apply below_alloc | apply pw_below_drewN | apply below_drew1 | refine below_set ?_ GE246.out | refine below_set ?_ GE252.out | refine below_set ?_ GE260.out) | exact HB.out)))); (case aL => have := LMc29.out; omega); intro v262 w38 ho hb hg hat; rw [← Ny261.out] at ho; have n0_ := Aside0.mk (Kd.R_after (ok := (fun k_ => k_ ≠ gb246 ∧ k_ ≠ gb252 ∧ k_ ≠ gb260)) (by (with_reducible repeat (first | apply Kd.R_alloc | apply Kd.R_drewN | apply Kd.R_drew)); exact Kd.R_mono (Kd.R_far (p := ⟨gb260, 3, none⟩) (Kd.R_far (p := ⟨gb260, 2, none⟩) (Kd.R_far (p := ⟨gb260, 1, none⟩) (Kd.R_far (p := ⟨gb260, 0, none⟩) (Kd.R_mono HO_11.out (fun k_ hk => (⟨hk, hk.2⟩ : _ ∧ k_ ≠ gb260))) (fun _ hk => hk.2) (.int .i64 t255)) (fun _ hk => hk.2) (.int .i64 t256)) (fun _ hk => hk.2) (.int .i64 t257)) (fun _ hk => hk.2) (.int .i64 t258)) (fun _ hk => ⟨⟨hk.1.1.2.1, ⟨hk.1.1.2.2, hk.1.2⟩⟩, hk.1.1.1⟩)) hg hat); have n1_ := Aside0.mk (blk_grown (g := gb246) (o := .cells #[.int .i64 a0_0, .int .i64 a0_1, .int .i64 a0_2, .int .i64 a0_3] 23 (0, 0)) (by (with_reducible repeat (first | refine blk_drewN ?_ _ | refine blk_drew ?_ | refine blk_alloc ?_ _)); refine blk_far ?_ NB246_260.out _; (with_reducible repeat (first | refine blk_drewN ?_ _ | refine blk_drew ?_ | refine blk_alloc ?_ _)); refine blk_far ?_ NB246_260.out _; (with_reducible repeat (first | refine blk_drewN ?_ _ | refine blk_drew ?_ | refine blk_alloc ?_ _)); refine blk_far ?_ NB246_260.out _; (with_reducible repeat (first | refine blk_drewN ?_ _ | refine blk_drew ?_ | refine blk_alloc ?_ _)); refine blk_far ?_ NB246_260.out _; (with_reducible repeat (first | refine blk_drewN ?_ _ | refine blk_drew ?_ | refine blk_alloc ?_ _)); exact BK246.out) hg (Kd.R_away HO_12.out (fun _ hk => hk.1.2.1))); have n2_ := Aside0.mk (blk_grown (g := gb252) (o := .cells #[.int .i64 t247, .int .i64 t248, .int .i64 t249, .int .i64 t250] 23 (0, 0)) (by (with_reducible repeat (first | refine blk_drewN ?_ _ | refine blk_drew ?_ | refine blk_alloc ?_ _)); refine blk_far ?_ NB252_260.out _; (with_reducible repeat (first | refine blk_drewN ?_ _ | refine blk_drew ?_ | refine blk_alloc ?_ _)); refine blk_far ?_ NB252_260.out _; (with_reducible repeat (first | refine blk_drewN ?_ _ | refine blk_drew ?_ | refine blk_alloc ?_ _)); refine blk_far ?_ NB252_260.out _; (with_reducible repeat (first | refine blk_drewN ?_ _ | refine blk_drew ?_ | refine blk_alloc ?_ _)); refine blk_far ?_ NB252_260.out _; (with_reducible repeat (first | refine blk_drewN ?_ _ | refine blk_drew ?_ | refine blk_alloc ?_ _)); exact BK252.out) hg (Kd.R_away HO_12.out (fun _ hk => hk.1.2.2))); have n3_ := Aside0.mk (blk_grown (g := gb260) (o := .cells #[.int .i64 t255, .int .i64 t256, .int .i64 t257, .int .i64 t258] 23 (0, 0)) (by (with_reducible repeat (first | refine blk_drewN ?_ _ | refine blk_drew ?_ | refine blk_alloc ?_ _)); refine blk_put (cs := #[.int .i64 t255, .int .i64 t256, .int .i64 t257, .int .i64 0]) ?_ 3 _ rfl; (with_reducible repeat (first | refine blk_drewN ?_ _ | refine blk_drew ?_ | refine blk_alloc ?_ _)); refine blk_put (cs := #[.int .i64 t255, .int .i64 t256, .int .i64 0, .int .i64 0]) ?_ 2 _ rfl; (with_reducible repeat (first | refine blk_drewN ?_ _ | refine blk_drew ?_ | refine blk_alloc ?_ _)); refine blk_put (cs := #[.int .i64 t255, .int .i64 0, .int .i64 0, .int .i64 0]) ?_ 1 _ rfl; (with_reducible repeat (first | refine blk_drewN ?_ _ | refine blk_drew ?_ | refine blk_alloc ?_ _)); refine blk_put (cs := #[.int .i64 0, .int .i64 0, .int .i64 0, .int .i64 0]) ?_ 0 _ rfl; (with_reducible repeat (first | refine blk_drewN ?_ _ | refine blk_drew ?_ | refine blk_alloc ?_ _)); exact BK260.out) hg (Kd.R_away HO_12.out (fun _ hk => hk.2))); have n4_ := Aside0.mk (hb); have n5_ := Aside0.mk (ho); clear HO_11; clear BK246; clear BK252; clear BK260; clear HB; clear HO_12; have HO_11 := n0_; have BK246 := n1_; have BK252 := n2_; have BK260 := n3_; have HB := n4_; have HO263 := n5_; clear n0_ n1_ n2_ n3_ n4_ n5_; clear ho hb hg hat))
            go_ret3
            exact ⟨_, _, by first | rfl | (simp [errW_none, errW_some] <;> rfl) | (simp [*, errW_none, errW_some] <;> rfl), by first | exact Kd.R_nil _ _ _ _ _ | exact Kd.N_nil _ _ _ _ _ | exact Kd.V_nil _ _ _ _ _ | exact Kd.Q_nil _ _ _ _ _ | exact Kd.S_nil _ _ _ _ _, by first | exact Kd.R_nil _ _ _ _ _ | exact Kd.N_nil _ _ _ _ _ | exact Kd.V_nil _ _ _ _ _ | exact Kd.Q_nil _ _ _ _ _ | exact Kd.S_nil _ _ _ _ _, by repeat (first | (with_reducible first | exact HB.out | apply below_alloc | apply pw_below_drewN | apply below_drew1 | refine below_set ?_ GE246.out | refine below_set ?_ GE252.out | refine below_set ?_ GE260.out) | exact HB.out)⟩
           ·rw [if_neg c30] at H
            have c30b0 : decide ((rd l2 x42_2) < 1) = false := decide_eq_false c30
            clear c30
            by_cases c39 : (rd l2 x42_2) > (wrap64 ((wrap64 (t247 + t249)) - (wrap64 (x13_2 + 1))))
            ·rw [if_pos c39] at H
             have c39b0 : decide ((wrap64 ((wrap64 (t247 + t249)) - (wrap64 (x13_2 + 1)))) < (rd l2 x42_2)) = true := decide_eq_true c39
             clear c39
             simp only [Option.some.injEq, Prod.mk.injEq] at H
             obtain ⟨rfl, rfl, rfl⟩ := H
             have p254 : 0 ≤ (x42_2 : Int) := of_decide_eq_true (by first | (with_reducible assumption) | assumption)
             have q254 : x42_2 < (l2.length : Int) := of_decide_eq_true (by first | (with_reducible assumption) | assumption)
             obtain ⟨ad254, e254, hx254_0⟩ := Kd.at_int HR2.out x42_2 p254 q254
             cases e254
             replace hx254_0 := (HB.out.cell (World.block_lt_of_cell? w _ hx254_0)).trans hx254_0
             replace p254 := eq_true p254
             replace q254 := eq_true q254
             have hnb40 := NB252_246.out
             have hnc40 := NB246_252.out
             have hcz41_0 : wr.cell? ⟨gb252, 0, none⟩ = some (.int .i64 t247) := (blk_cell BK252.out 0).trans rfl
             have hcz41_1 : wr.cell? ⟨gb252, 1, none⟩ = some (.int .i64 t248) := (blk_cell BK252.out 1).trans rfl
             have hcz41_2 : wr.cell? ⟨gb252, 2, none⟩ = some (.int .i64 t249) := (blk_cell BK252.out 2).trans rfl
             have hcz41_3 : wr.cell? ⟨gb252, 3, none⟩ = some (.int .i64 t250) := (blk_cell BK252.out 3).trans rfl
             have hfz41_0 := blk_frozen BK252.out 0
             have hfz41_1 := blk_frozen BK252.out 1
             have hfz41_2 := blk_frozen BK252.out 2
             have hfz41_3 := blk_frozen BK252.out 3
             go_wp2_with (first | ((with_reducible refine gate_callee (f := 127) rfl ?_); refine goesL_ (some 57) rfl rfl Try.func127 (by kernel_rfl) rfl #[.agg #[.int .i64 x13_2, .int .i64 t248, .int .i64 1, .int .i64 t250], .int .u8 a1] rfl (by (try simp only [List.map_toArray, List.map_cons, List.map_nil]); first | done | rfl | (simp only [List.length_drop, List.length_take]; rfl)) ?_; (with_reducible refine (rect_turned.calls x13_2 t248 1 t250 a1 t255 t256 t257 t258 t259 _ A28.out).mono ?_); rintro e w42 ⟨rfl, hb⟩; refine ⟨_, rfl, ?_⟩; have n0_ := Aside0.mk (Kd.R_below (by (with_reducible repeat (first | apply Kd.R_alloc | apply Kd.R_drewN | apply Kd.R_drew)); exact HO_11.out) hb); have n1_ := Aside0.mk (Kd.R_below (by (with_reducible repeat (first | apply Kd.R_alloc | apply Kd.R_drewN | apply Kd.R_drew)); exact HO_12.out) hb); have n2_ := Aside0.mk (blk_below (g := gb246) (o := .cells #[.int .i64 a0_0, .int .i64 a0_1, .int .i64 a0_2, .int .i64 a0_3] 23 (0, 0)) (by (with_reducible repeat (first | refine blk_drewN ?_ _ | refine blk_drew ?_ | refine blk_alloc ?_ _)); exact BK246.out) hb); have n3_ := Aside0.mk (blk_below (g := gb252) (o := .cells #[.int .i64 t247, .int .i64 t248, .int .i64 t249, .int .i64 t250] 23 (0, 0)) (by (with_reducible repeat (first | refine blk_drewN ?_ _ | refine blk_drew ?_ | refine blk_alloc ?_ _)); exact BK252.out) hb); have n4_ := Aside0.mk (below_step (by repeat (first | (with_reducible first | exact HB.out | apply below_alloc | apply pw_below_drewN | apply below_drew1 | refine below_set ?_ GE246.out | refine below_set ?_ GE252.out) | exact HB.out)) hb); clear HO_11; clear HO_12; clear BK246; clear BK252; clear HB; have HO_11 := n0_; have HO_12 := n1_; have BK246 := n2_; have BK252 := n3_; have HB := n4_; clear n0_ n1_ n2_ n3_ n4_; (try clear hb); (try clear hb2); (try clear hk); (try clear hi)) | ((with_reducible refine gate_dst (N := 16) rfl ?_); (try (refine gate_guard (by rfl) ?_; dsimp only)); refine box_event ?hg (N := 16) ?hd (cs := #[.int .i64 0, .int .i64 0, .int .i64 0, .int .i64 0]) (t := 23) ?hr ?_; (case hd => rfl); (case hg => rfl); (case hr => first | (go_simp; done) | (go_simp; rfl)); intro gb260 hg w43 hbox hb; have n0_ := Aside0.mk (Kd.R_below (Kd.R_elderB (by (with_reducible repeat (first | apply Kd.R_alloc | apply Kd.R_drewN | apply Kd.R_drew)); exact HO_11.out) gb260 (Nat.le_of_eq hg.symm)) hb); have n1_ := Aside0.mk (Kd.R_below (Kd.R_elderB (by (with_reducible repeat (first | apply Kd.R_alloc | apply Kd.R_drewN | apply Kd.R_drew)); exact HO_12.out) gb260 (Nat.le_of_eq hg.symm)) hb); have n2_ := Aside0.mk (blk_below (g := gb246) (o := .cells #[.int .i64 a0_0, .int .i64 a0_1, .int .i64 a0_2, .int .i64 a0_3] 23 (0, 0)) (by (with_reducible repeat (first | refine blk_drewN ?_ _ | refine blk_drew ?_ | refine blk_alloc ?_ _)); exact BK246.out) hb); have n3_ := Aside0.mk (blk_below (g := gb252) (o := .cells #[.int .i64 t247, .int .i64 t248, .int .i64 t249, .int .i64 t250] 23 (0, 0)) (by (with_reducible repeat (first | refine blk_drewN ?_ _ | refine blk_drew ?_ | refine blk_alloc ?_ _)); exact BK252.out) hb); have n4_ := Aside0.mk (below_step (by repeat (first | (with_reducible first | exact HB.out | apply below_alloc | apply pw_below_drewN | apply below_drew1 | refine below_set ?_ GE246.out | refine below_set ?_ GE252.out) | exact HB.out)) hb); have n5_ := Aside0.mk (hbox); have n6_ := Aside0.mk ((by rw [hg]; exact (below_size (by repeat (first | (with_reducible first | exact HB.out | apply below_alloc | apply pw_below_drewN | apply below_drew1 | refine below_set ?_ GE246.out | refine below_set ?_ GE252.out) | exact HB.out))) : w.heap.size ≤ gb260)); have n7_ := Aside0.mk ((by rw [hg]; exact (below_size (by repeat (first | (with_reducible first | exact HB.out | apply below_alloc | apply pw_below_drewN | apply below_drew1 | refine below_set ?_ GE246.out | refine below_set ?_ GE252.out) | exact HB.out))) : w.heap.size ≤ gb260)); have n8_ := Aside0.mk ((by rw [hg]; exact Nat.ne_of_lt (blk_lt (g := gb246) (o := .cells #[.int .i64 a0_0, .int .i64 a0_1, .int .i64 a0_2, .int .i64 a0_3] 23 (0, 0)) (by (with_reducible repeat (first | refine blk_drewN ?_ _ | refine blk_drew ?_ | refine blk_alloc ?_ _)); exact BK246.out)) : gb246 ≠ gb260)); have n9_ := Aside0.mk ((by rw [hg]; exact Nat.ne_of_gt (blk_lt (g := gb246) (o := .cells #[.int .i64 a0_0, .int .i64 a0_1, .int .i64 a0_2, .int .i64 a0_3] 23 (0, 0)) (by (with_reducible repeat (first | refine blk_drewN ?_ _ | refine blk_drew ?_ | refine blk_alloc ?_ _)); exact BK246.out)) : gb260 ≠ gb246)); have n10_ := Aside0.mk ((by rw [hg]; exact Nat.ne_of_lt (blk_lt (g := gb252) (o := .cells #[.int .i64 t247, .int .i64 t248, .int .i64 t249, .int .i64 t250] 23 (0, 0)) (by (with_reducible repeat (first | refine blk_drewN ?_ _ | refine blk_drew ?_ | refine blk_alloc ?_ _)); exact BK252.out)) : gb252 ≠ gb260)); have n11_ := Aside0.mk ((by rw [hg]; exact Nat.ne_of_gt (blk_lt (g := gb252) (o := .cells #[.int .i64 t247, .int .i64 t248, .int .i64 t249, .int .i64 t250] 23 (0, 0)) (by (with_reducible repeat (first | refine blk_drewN ?_ _ | refine blk_drew ?_ | refine blk_alloc ?_ _)); exact BK252.out)) : gb260 ≠ gb252)); clear HO_11; clear HO_12; clear BK246; clear BK252; clear HB; have HO_11 := n0_; have HO_12 := n1_; have BK246 := n2_; have BK252 := n3_; have HB := n4_; have BK260 := n5_; have GW260 := n6_; have GE260 := n7_; have NB246_260 := n8_; have NB260_246 := n9_; have NB252_260 := n10_; have NB260_252 := n11_; clear n0_ n1_ n2_ n3_ n4_ n5_ n6_ n7_ n8_ n9_ n10_ n11_; clear hb hbox hg; have hnb44 := NB260_246.out; have hnc44 := NB246_260.out; have hnb45 := NB260_252.out; have hnc45 := NB252_260.out; have hcz46_0 : w43.cell? ⟨gb260, 0, none⟩ = some (.int .i64 0) := (blk_cell BK260.out 0).trans rfl; have hcz46_1 : w43.cell? ⟨gb260, 1, none⟩ = some (.int .i64 0) := (blk_cell BK260.out 1).trans rfl; have hcz46_2 : w43.cell? ⟨gb260, 2, none⟩ = some (.int .i64 0) := (blk_cell BK260.out 2).trans rfl; have hcz46_3 : w43.cell? ⟨gb260, 3, none⟩ = some (.int .i64 0) := (blk_cell BK260.out 3).trans rfl; have hfz46_0 := blk_frozen BK260.out 0; have hfz46_1 := blk_frozen BK260.out 1; have hfz46_2 := blk_frozen BK260.out 2; have hfz46_3 := blk_frozen BK260.out 3) | ((with_reducible refine gate_builtin (b := .append) (xs := #[.tmp 60, .tmp 62]) rfl ?_); (try (refine gate_guard (by rfl) ?_; dsimp only)); at_builtin; refine Kd.R_append k23 (w0 := w) w.heap.size rfl (.tmp 60) (.tmp 62) 42 23 (.agg #[(.int .i64 0), (.int .i64 0), (.int .i64 0), (.int .i64 0)]) 32 rfl Try.underlying42 info23 rfl (by decide) (by omega) u12 x12_2 (⟨t255, t256, t257, t258⟩ : S23) [.int .i64 t255, .int .i64 t256, .int .i64 t257, .int .i64 t258] (fun k_ => some k_ ≠ (u11 : Value).ownBlock ∧ k_ ≠ gb246 ∧ k_ ≠ gb252 ∧ k_ ≠ gb260) (fun _ => False) rfl (by first | (go_simp; done) | (go_simp; rfl)) ?aP (fun _ hk => hk.elim) ?aF ?aO ?aB ?aS ?aL ?_; (case aP => exact k23_mkM _ _ _ (⟨t255, t256, t257, t258⟩ : S23)); (case aB => exact (by repeat (first | (with_reducible first | exact HB.out | apply below_alloc | apply pw_below_drewN | apply below_drew1 | refine below_set ?_ GE246.out | refine below_set ?_ GE252.out | refine below_set ?_ GE260.out) | exact HB.out))); (case aF => exact (fun k_ hk => ⟨Kd.fresh' (Kd.R_lt (by (with_reducible repeat (first | apply Kd.R_alloc | apply Kd.R_drewN | apply Kd.R_drew)); exact (Kd.R_mono (Kd.R_far (p := ⟨gb260, 3, none⟩) (Kd.R_far (p := ⟨gb260, 2, none⟩) (Kd.R_far (p := ⟨gb260, 1, none⟩) (Kd.R_far (p := ⟨gb260, 0, none⟩) (Kd.R_mono HO_11.out (fun k_ hk => (⟨hk, hk.2⟩ : _ ∧ k_ ≠ gb260))) (fun _ hk => hk.2) (.int .i64 t255)) (fun _ hk => hk.2) (.int .i64 t256)) (fun _ hk => hk.2) (.int .i64 t257)) (fun _ hk => hk.2) (.int .i64 t258)) (fun _ h_ => h_.1)))) k_ hk, Kd.freshB (g := gb246) (o := .cells #[.int .i64 a0_0, .int .i64 a0_1, .int .i64 a0_2, .int .i64 a0_3] 23 (0, 0)) (by (with_reducible repeat (first | refine blk_drewN ?_ _ | refine blk_drew ?_ | refine blk_alloc ?_ _)); refine blk_far ?_ NB246_260.out _; (with_reducible repeat (first | refine blk_drewN ?_ _ | refine blk_drew ?_ | refine blk_alloc ?_ _)); refine blk_far ?_ NB246_260.out _; (with_reducible repeat (first | refine blk_drewN ?_ _ | refine blk_drew ?_ | refine blk_alloc ?_ _)); refine blk_far ?_ NB246_260.out _; (with_reducible repeat (first | refine blk_drewN ?_ _ | refine blk_drew ?_ | refine blk_alloc ?_ _)); refine blk_far ?_ NB246_260.out _; (with_reducible repeat (first | refine blk_drewN ?_ _ | refine blk_drew ?_ | refine blk_alloc ?_ _)); exact BK246.out) k_ hk, Kd.freshB (g := gb252) (o := .cells #[.int .i64 t247, .int .i64 t248, .int .i64 t249, .int .i64 t250] 23 (0, 0)) (by (with_reducible repeat (first | refine blk_drewN ?_ _ | refine blk_drew ?_ | refine blk_alloc ?_ _)); refine blk_far ?_ NB252_260.out _; (with_reducible repeat (first | refine blk_drewN ?_ _ | refine blk_drew ?_ | refine blk_alloc ?_ _)); refine blk_far ?_ NB252_260.out _; (with_reducible repeat (first | refine blk_drewN ?_ _ | refine blk_drew ?_ | refine blk_alloc ?_ _)); refine blk_far ?_ NB252_260.out _; (with_reducible repeat (first | refine blk_drewN ?_ _ | refine blk_drew ?_ | refine blk_alloc ?_ _)); refine blk_far ?_ NB252_260.out _; (with_reducible repeat (first | refine blk_drewN ?_ _ | refine blk_drew ?_ | refine blk_alloc ?_ _)); exact BK252.out) k_ hk, Kd.freshB (g := gb260) (o := .cells #[.int .i64 t255, .int .i64 t256, .int .i64 t257, .int .i64 t258] 23 (0, 0)) (by (with_reducible repeat (first | refine blk_drewN ?_ _ | refine blk_drew ?_ | refine blk_alloc ?_ _)); refine blk_put (cs := #[.int .i64 t255, .int .i64 t256, .int .i64 t257, .int .i64 0]) ?_ 3 _ rfl; (with_reducible repeat (first | refine blk_drewN ?_ _ | refine blk_drew ?_ | refine blk_alloc ?_ _)); refine blk_put (cs := #[.int .i64 t255, .int .i64 t256, .int .i64 0, .int .i64 0]) ?_ 2 _ rfl; (with_reducible repeat (first | refine blk_drewN ?_ _ | refine blk_drew ?_ | refine blk_alloc ?_ _)); refine blk_put (cs := #[.int .i64 t255, .int .i64 0, .int .i64 0, .int .i64 0]) ?_ 1 _ rfl; (with_reducible repeat (first | refine blk_drewN ?_ _ | refine blk_drew ?_ | refine blk_alloc ?_ _)); refine blk_put (cs := #[.int .i64 0, .int .i64 0, .int .i64 0, .int .i64 0]) ?_ 0 _ rfl; (with_reducible repeat (first | refine blk_drewN ?_ _ | refine blk_drew ?_ | refine blk_alloc ?_ _)); exact BK260.out) k_ hk⟩)); (case aO => exact (by (with_reducible repeat (first | apply Kd.R_alloc | apply Kd.R_drewN | apply Kd.R_drew)); exact Kd.R_mono (Kd.R_far (p := ⟨gb260, 3, none⟩) (Kd.R_far (p := ⟨gb260, 2, none⟩) (Kd.R_far (p := ⟨gb260, 1, none⟩) (Kd.R_far (p := ⟨gb260, 0, none⟩) (Kd.R_mono HO_12.out (fun k_ hk => (⟨hk, hk.2⟩ : _ ∧ k_ ≠ gb260))) (fun _ hk => hk.2) (.int .i64 t255)) (fun _ hk => hk.2) (.int .i64 t256)) (fun _ hk => hk.2) (.int .i64 t257)) (fun _ hk => hk.2) (.int .i64 t258)) (fun _ hk => ⟨hk.1.1.1, ⟨hk.1.1.2.1, ⟨hk.1.1.2.2, hk.1.2⟩⟩⟩))); (case aS => exact (below_size (by repeat (first | (with_reducible first | exact HB.out | apply below_alloc | apply pw_below_drewN | apply below_drew1 | refine below_set ?_ GE246.out | refine below_set ?_ GE252.out | refine below_set ?_ GE260.out) | exact HB.out)))); (case aL => have := LMc29.out; omega); intro v262 w47 ho hb hg hat; rw [← Ny261.out] at ho; have n0_ := Aside0.mk (Kd.R_after (ok := (fun k_ => k_ ≠ gb246 ∧ k_ ≠ gb252 ∧ k_ ≠ gb260)) (by (with_reducible repeat (first | apply Kd.R_alloc | apply Kd.R_drewN | apply Kd.R_drew)); exact Kd.R_mono (Kd.R_far (p := ⟨gb260, 3, none⟩) (Kd.R_far (p := ⟨gb260, 2, none⟩) (Kd.R_far (p := ⟨gb260, 1, none⟩) (Kd.R_far (p := ⟨gb260, 0, none⟩) (Kd.R_mono HO_11.out (fun k_ hk => (⟨hk, hk.2⟩ : _ ∧ k_ ≠ gb260))) (fun _ hk => hk.2) (.int .i64 t255)) (fun _ hk => hk.2) (.int .i64 t256)) (fun _ hk => hk.2) (.int .i64 t257)) (fun _ hk => hk.2) (.int .i64 t258)) (fun _ hk => ⟨⟨hk.1.1.2.1, ⟨hk.1.1.2.2, hk.1.2⟩⟩, hk.1.1.1⟩)) hg hat); have n1_ := Aside0.mk (blk_grown (g := gb246) (o := .cells #[.int .i64 a0_0, .int .i64 a0_1, .int .i64 a0_2, .int .i64 a0_3] 23 (0, 0)) (by (with_reducible repeat (first | refine blk_drewN ?_ _ | refine blk_drew ?_ | refine blk_alloc ?_ _)); refine blk_far ?_ NB246_260.out _; (with_reducible repeat (first | refine blk_drewN ?_ _ | refine blk_drew ?_ | refine blk_alloc ?_ _)); refine blk_far ?_ NB246_260.out _; (with_reducible repeat (first | refine blk_drewN ?_ _ | refine blk_drew ?_ | refine blk_alloc ?_ _)); refine blk_far ?_ NB246_260.out _; (with_reducible repeat (first | refine blk_drewN ?_ _ | refine blk_drew ?_ | refine blk_alloc ?_ _)); refine blk_far ?_ NB246_260.out _; (with_reducible repeat (first | refine blk_drewN ?_ _ | refine blk_drew ?_ | refine blk_alloc ?_ _)); exact BK246.out) hg (Kd.R_away HO_12.out (fun _ hk => hk.1.2.1))); have n2_ := Aside0.mk (blk_grown (g := gb252) (o := .cells #[.int .i64 t247, .int .i64 t248, .int .i64 t249, .int .i64 t250] 23 (0, 0)) (by (with_reducible repeat (first | refine blk_drewN ?_ _ | refine blk_drew ?_ | refine blk_alloc ?_ _)); refine blk_far ?_ NB252_260.out _; (with_reducible repeat (first | refine blk_drewN ?_ _ | refine blk_drew ?_ | refine blk_alloc ?_ _)); refine blk_far ?_ NB252_260.out _; (with_reducible repeat (first | refine blk_drewN ?_ _ | refine blk_drew ?_ | refine blk_alloc ?_ _)); refine blk_far ?_ NB252_260.out _; (with_reducible repeat (first | refine blk_drewN ?_ _ | refine blk_drew ?_ | refine blk_alloc ?_ _)); refine blk_far ?_ NB252_260.out _; (with_reducible repeat (first | refine blk_drewN ?_ _ | refine blk_drew ?_ | refine blk_alloc ?_ _)); exact BK252.out) hg (Kd.R_away HO_12.out (fun _ hk => hk.1.2.2))); have n3_ := Aside0.mk (blk_grown (g := gb260) (o := .cells #[.int .i64 t255, .int .i64 t256, .int .i64 t257, .int .i64 t258] 23 (0, 0)) (by (with_reducible repeat (first | refine blk_drewN ?_ _ | refine blk_drew ?_ | refine blk_alloc ?_ _)); refine blk_put (cs := #[.int .i64 t255, .int .i64 t256, .int .i64 t257, .int .i64 0]) ?_ 3 _ rfl; (with_reducible repeat (first | refine blk_drewN ?_ _ | refine blk_drew ?_ | refine blk_alloc ?_ _)); refine blk_put (cs := #[.int .i64 t255, .int .i64 t256, .int .i64 0, .int .i64 0]) ?_ 2 _ rfl; (with_reducible repeat (first | refine blk_drewN ?_ _ | refine blk_drew ?_ | refine blk_alloc ?_ _)); refine blk_put (cs := #[.int .i64 t255, .int .i64 0, .int .i64 0, .int .i64 0]) ?_ 1 _ rfl; (with_reducible repeat (first | refine blk_drewN ?_ _ | refine blk_drew ?_ | refine blk_alloc ?_ _)); refine blk_put (cs := #[.int .i64 0, .int .i64 0, .int .i64 0, .int .i64 0]) ?_ 0 _ rfl; (with_reducible repeat (first | refine blk_drewN ?_ _ | refine blk_drew ?_ | refine blk_alloc ?_ _)); exact BK260.out) hg (Kd.R_away HO_12.out (fun _ hk => hk.2))); have n4_ := Aside0.mk (hb); have n5_ := Aside0.mk (ho); clear HO_11; clear BK246; clear BK252; clear BK260; clear HB; clear HO_12; have HO_11 := n0_; have BK246 := n1_; have BK252 := n2_; have BK260 := n3_; have HB := n4_; have HO263 := n5_; clear n0_ n1_ n2_ n3_ n4_ n5_; clear ho hb hg hat; have hcz48_0 : w47.cell? ⟨gb252, 0, none⟩ = some (.int .i64 t247) := (blk_cell BK252.out 0).trans rfl; have hcz48_1 : w47.cell? ⟨gb252, 1, none⟩ = some (.int .i64 t248) := (blk_cell BK252.out 1).trans rfl; have hcz48_2 : w47.cell? ⟨gb252, 2, none⟩ = some (.int .i64 t249) := (blk_cell BK252.out 2).trans rfl; have hcz48_3 : w47.cell? ⟨gb252, 3, none⟩ = some (.int .i64 t250) := (blk_cell BK252.out 3).trans rfl; have hfz48_0 := blk_frozen BK252.out 0; have hfz48_1 := blk_frozen BK252.out 1; have hfz48_2 := blk_frozen BK252.out 2; have hfz48_3 := blk_frozen BK252.out 3))
             go_ret3
             exact ⟨_, _, by first | rfl | (simp [errW_none, errW_some] <;> rfl) | (simp [*, errW_none, errW_some] <;> rfl), by first | exact Kd.R_nil _ _ _ _ _ | exact Kd.N_nil _ _ _ _ _ | exact Kd.V_nil _ _ _ _ _ | exact Kd.Q_nil _ _ _ _ _ | exact Kd.S_nil _ _ _ _ _, by first | exact Kd.R_nil _ _ _ _ _ | exact Kd.N_nil _ _ _ _ _ | exact Kd.V_nil _ _ _ _ _ | exact Kd.Q_nil _ _ _ _ _ | exact Kd.S_nil _ _ _ _ _, by repeat (first | (with_reducible first | exact HB.out | apply below_alloc | apply pw_below_drewN | apply below_drew1 | refine below_set ?_ GE246.out | refine below_set ?_ GE252.out | refine below_set ?_ GE260.out) | exact HB.out)⟩
            ·rw [if_neg c39] at H
             have c39b0 : decide ((wrap64 ((wrap64 (t247 + t249)) - (wrap64 (x13_2 + 1)))) < (rd l2 x42_2)) = false := decide_eq_false c39
             clear c39
             replace H := Option.bind_eq_some_iff.mp H
             obtain ⟨⟨t264, t265, t266, t267, t268⟩, A490, H⟩ := H
             replace H : (if x11_2.length < 4398046511104 then (rect_Cut.l0 k2 a1 (x11_2 ++ [(⟨t264, t265, t266, t267⟩ : S23)]) y261 (wrap64 ((wrap64 (x13_2 + 1)) + (rd l2 x42_2))) l2 (l2.length : Int) (wrap64 (x42_2 + 1)) t247 t248 t249 t250) else (none)) = some (r1, r2, r3) := H
             have A49 := Aside0.mk A490
             clear A490
             by_cases c50 : x11_2.length < 4398046511104
             ·rw [if_pos c50] at H
              have LMc50 := Aside0.mk c50
              clear c50
              obtain ⟨y270, hy270⟩ : ∃ y_ : List (S23), y_ = (x11_2 ++ [(⟨t264, t265, t266, t267⟩ : S23)]) := ⟨_, rfl⟩
              replace H : (rect_Cut.l0 k2 a1 y270 y261 (wrap64 ((wrap64 (x13_2 + 1)) + (rd l2 x42_2))) l2 (l2.length : Int) (wrap64 (x42_2 + 1)) t247 t248 t249 t250) = some (r1, r2, r3) := by first | (rw [hy270]; with_reducible exact H) | (have H2_ := (Option.bind_some _ _).symm.trans H; rw [hy270]; with_reducible exact H2_) | (have H2_ := (Option.bind_some _ _).symm.trans H; with_reducible exact H2_) | with_reducible exact H | (rw [hy270]; exact H) | exact H
              have Ny270 := Aside0.mk hy270
              clear hy270
              have H' := Aside0.mk H
              clear H
              have p254 : 0 ≤ (x42_2 : Int) := of_decide_eq_true (by first | (with_reducible assumption) | assumption)
              have q254 : x42_2 < (l2.length : Int) := of_decide_eq_true (by first | (with_reducible assumption) | assumption)
              obtain ⟨ad254, e254, hx254_0⟩ := Kd.at_int HR2.out x42_2 p254 q254
              cases e254
              replace hx254_0 := (HB.out.cell (World.block_lt_of_cell? w _ hx254_0)).trans hx254_0
              replace p254 := eq_true p254
              replace q254 := eq_true q254
              have hnb51 := NB252_246.out
              have hnc51 := NB246_252.out
              have hcz52_0 : wr.cell? ⟨gb252, 0, none⟩ = some (.int .i64 t247) := (blk_cell BK252.out 0).trans rfl
              have hcz52_1 : wr.cell? ⟨gb252, 1, none⟩ = some (.int .i64 t248) := (blk_cell BK252.out 1).trans rfl
              have hcz52_2 : wr.cell? ⟨gb252, 2, none⟩ = some (.int .i64 t249) := (blk_cell BK252.out 2).trans rfl
              have hcz52_3 : wr.cell? ⟨gb252, 3, none⟩ = some (.int .i64 t250) := (blk_cell BK252.out 3).trans rfl
              have hfz52_0 := blk_frozen BK252.out 0
              have hfz52_1 := blk_frozen BK252.out 1
              have hfz52_2 := blk_frozen BK252.out 2
              have hfz52_3 := blk_frozen BK252.out 3
              go_wp2_with (first | ((with_reducible refine gate_callee (f := 127) rfl ?_); refine goesL_ (some 57) rfl rfl Try.func127 (by kernel_rfl) rfl #[.agg #[.int .i64 x13_2, .int .i64 t248, .int .i64 1, .int .i64 t250], .int .u8 a1] rfl (by (try simp only [List.map_toArray, List.map_cons, List.map_nil]); first | done | rfl | (simp only [List.length_drop, List.length_take]; rfl)) ?_; (with_reducible refine (rect_turned.calls x13_2 t248 1 t250 a1 t255 t256 t257 t258 t259 _ A28.out).mono ?_); rintro e w53 ⟨rfl, hb⟩; refine ⟨_, rfl, ?_⟩; have n0_ := Aside0.mk (Kd.R_below (by (with_reducible repeat (first | apply Kd.R_alloc | apply Kd.R_drewN | apply Kd.R_drew)); exact HO_11.out) hb); have n1_ := Aside0.mk (Kd.R_below (by (with_reducible repeat (first | apply Kd.R_alloc | apply Kd.R_drewN | apply Kd.R_drew)); exact HO_12.out) hb); have n2_ := Aside0.mk (blk_below (g := gb246) (o := .cells #[.int .i64 a0_0, .int .i64 a0_1, .int .i64 a0_2, .int .i64 a0_3] 23 (0, 0)) (by (with_reducible repeat (first | refine blk_drewN ?_ _ | refine blk_drew ?_ | refine blk_alloc ?_ _)); exact BK246.out) hb); have n3_ := Aside0.mk (blk_below (g := gb252) (o := .cells #[.int .i64 t247, .int .i64 t248, .int .i64 t249, .int .i64 t250] 23 (0, 0)) (by (with_reducible repeat (first | refine blk_drewN ?_ _ | refine blk_drew ?_ | refine blk_alloc ?_ _)); exact BK252.out) hb); have n4_ := Aside0.mk (below_step (by repeat (first | (with_reducible first | exact HB.out | apply below_alloc | apply pw_below_drewN | apply below_drew1 | refine below_set ?_ GE246.out | refine below_set ?_ GE252.out) | exact HB.out)) hb); clear HO_11; clear HO_12; clear BK246; clear BK252; clear HB; have HO_11 := n0_; have HO_12 := n1_; have BK246 := n2_; have BK252 := n3_; have HB := n4_; clear n0_ n1_ n2_ n3_ n4_; (try clear hb); (try clear hb2); (try clear hk); (try clear hi)) | ((with_reducible refine gate_dst (N := 16) rfl ?_); (try (refine gate_guard (by rfl) ?_; dsimp only)); refine box_event ?hg (N := 16) ?hd (cs := #[.int .i64 0, .int .i64 0, .int .i64 0, .int .i64 0]) (t := 23) ?hr ?_; (case hd => rfl); (case hg => rfl); (case hr => first | (go_simp; done) | (go_simp; rfl)); intro gb260 hg w54 hbox hb; have n0_ := Aside0.mk (Kd.R_below (Kd.R_elderB (by (with_reducible repeat (first | apply Kd.R_alloc | apply Kd.R_drewN | apply Kd.R_drew)); exact HO_11.out) gb260 (Nat.le_of_eq hg.symm)) hb); have n1_ := Aside0.mk (Kd.R_below (Kd.R_elderB (by (with_reducible repeat (first | apply Kd.R_alloc | apply Kd.R_drewN | apply Kd.R_drew)); exact HO_12.out) gb260 (Nat.le_of_eq hg.symm)) hb); have n2_ := Aside0.mk (blk_below (g := gb246) (o := .cells #[.int .i64 a0_0, .int .i64 a0_1, .int .i64 a0_2, .int .i64 a0_3] 23 (0, 0)) (by (with_reducible repeat (first | refine blk_drewN ?_ _ | refine blk_drew ?_ | refine blk_alloc ?_ _)); exact BK246.out) hb); have n3_ := Aside0.mk (blk_below (g := gb252) (o := .cells #[.int .i64 t247, .int .i64 t248, .int .i64 t249, .int .i64 t250] 23 (0, 0)) (by (with_reducible repeat (first | refine blk_drewN ?_ _ | refine blk_drew ?_ | refine blk_alloc ?_ _)); exact BK252.out) hb); have n4_ := Aside0.mk (below_step (by repeat (first | (with_reducible first | exact HB.out | apply below_alloc | apply pw_below_drewN | apply below_drew1 | refine below_set ?_ GE246.out | refine below_set ?_ GE252.out) | exact HB.out)) hb); have n5_ := Aside0.mk (hbox); have n6_ := Aside0.mk ((by rw [hg]; exact (below_size (by repeat (first | (with_reducible first | exact HB.out | apply below_alloc | apply pw_below_drewN | apply below_drew1 | refine below_set ?_ GE246.out | refine below_set ?_ GE252.out) | exact HB.out))) : w.heap.size ≤ gb260)); have n7_ := Aside0.mk ((by rw [hg]; exact (below_size (by repeat (first | (with_reducible first | exact HB.out | apply below_alloc | apply pw_below_drewN | apply below_drew1 | refine below_set ?_ GE246.out | refine below_set ?_ GE252.out) | exact HB.out))) : w.heap.size ≤ gb260)); have n8_ := Aside0.mk ((by rw [hg]; exact Nat.ne_of_lt (blk_lt (g := gb246) (o := .cells #[.int .i64 a0_0, .int .i64 a0_1, .int .i64 a0_2, .int .i64 a0_3] 23 (0, 0)) (by (with_reducible repeat (first | refine blk_drewN ?_ _ | refine blk_drew ?_ | refine blk_alloc ?_ _)); exact BK246.out)) : gb246 ≠ gb260)); have n9_ := Aside0.mk ((by rw [hg]; exact Nat.ne_of_gt (blk_lt (g := gb246) (o := .cells #[.int .i64 a0_0, .int .i64 a0_1, .int .i64 a0_2, .int .i64 a0_3] 23 (0, 0)) (by (with_reducible repeat (first | refine blk_drewN ?_ _ | refine blk_drew ?_ | refine blk_alloc ?_ _)); exact BK246.out)) : gb260 ≠ gb246)); have n10_ := Aside0.mk ((by rw [hg]; exact Nat.ne_of_lt (blk_lt (g := gb252) (o := .cells #[.int .i64 t247, .int .i64 t248, .int .i64 t249, .int .i64 t250] 23 (0, 0)) (by (with_reducible repeat (first | refine blk_drewN ?_ _ | refine blk_drew ?_ | refine blk_alloc ?_ _)); exact BK252.out)) : gb252 ≠ gb260)); have n11_ := Aside0.mk ((by rw [hg]; exact Nat.ne_of_gt (blk_lt (g := gb252) (o := .cells #[.int .i64 t247, .int .i64 t248, .int .i64 t249, .int .i64 t250] 23 (0, 0)) (by (with_reducible repeat (first | refine blk_drewN ?_ _ | refine blk_drew ?_ | refine blk_alloc ?_ _)); exact BK252.out)) : gb260 ≠ gb252)); clear HO_11; clear HO_12; clear BK246; clear BK252; clear HB; have HO_11 := n0_; have HO_12 := n1_; have BK246 := n2_; have BK252 := n3_; have HB := n4_; have BK260 := n5_; have GW260 := n6_; have GE260 := n7_; have NB246_260 := n8_; have NB260_246 := n9_; have NB252_260 := n10_; have NB260_252 := n11_; clear n0_ n1_ n2_ n3_ n4_ n5_ n6_ n7_ n8_ n9_ n10_ n11_; clear hb hbox hg; have hnb55 := NB260_246.out; have hnc55 := NB246_260.out; have hnb56 := NB260_252.out; have hnc56 := NB252_260.out; have hcz57_0 : w54.cell? ⟨gb260, 0, none⟩ = some (.int .i64 0) := (blk_cell BK260.out 0).trans rfl; have hcz57_1 : w54.cell? ⟨gb260, 1, none⟩ = some (.int .i64 0) := (blk_cell BK260.out 1).trans rfl; have hcz57_2 : w54.cell? ⟨gb260, 2, none⟩ = some (.int .i64 0) := (blk_cell BK260.out 2).trans rfl; have hcz57_3 : w54.cell? ⟨gb260, 3, none⟩ = some (.int .i64 0) := (blk_cell BK260.out 3).trans rfl; have hfz57_0 := blk_frozen BK260.out 0; have hfz57_1 := blk_frozen BK260.out 1; have hfz57_2 := blk_frozen BK260.out 2; have hfz57_3 := blk_frozen BK260.out 3) | ((with_reducible refine gate_builtin (b := .append) (xs := #[.tmp 60, .tmp 62]) rfl ?_); (try (refine gate_guard (by rfl) ?_; dsimp only)); at_builtin; refine Kd.R_append k23 (w0 := w) w.heap.size rfl (.tmp 60) (.tmp 62) 42 23 (.agg #[(.int .i64 0), (.int .i64 0), (.int .i64 0), (.int .i64 0)]) 32 rfl Try.underlying42 info23 rfl (by decide) (by omega) u12 x12_2 (⟨t255, t256, t257, t258⟩ : S23) [.int .i64 t255, .int .i64 t256, .int .i64 t257, .int .i64 t258] (fun k_ => some k_ ≠ (u11 : Value).ownBlock ∧ k_ ≠ gb246 ∧ k_ ≠ gb252 ∧ k_ ≠ gb260) (fun _ => False) rfl (by first | (go_simp; done) | (go_simp; rfl)) ?aP (fun _ hk => hk.elim) ?aF ?aO ?aB ?aS ?aL ?_; (case aP => exact k23_mkM _ _ _ (⟨t255, t256, t257, t258⟩ : S23)); (case aB => exact (by repeat (first | (with_reducible first | exact HB.out | apply below_alloc | apply pw_below_drewN | apply below_drew1 | refine below_set ?_ GE246.out | refine below_set ?_ GE252.out | refine below_set ?_ GE260.out) | exact HB.out))); (case aF => exact (fun k_ hk => ⟨Kd.fresh' (Kd.R_lt (by (with_reducible repeat (first | apply Kd.R_alloc | apply Kd.R_drewN | apply Kd.R_drew)); exact (Kd.R_mono (Kd.R_far (p := ⟨gb260, 3, none⟩) (Kd.R_far (p := ⟨gb260, 2, none⟩) (Kd.R_far (p := ⟨gb260, 1, none⟩) (Kd.R_far (p := ⟨gb260, 0, none⟩) (Kd.R_mono HO_11.out (fun k_ hk => (⟨hk, hk.2⟩ : _ ∧ k_ ≠ gb260))) (fun _ hk => hk.2) (.int .i64 t255)) (fun _ hk => hk.2) (.int .i64 t256)) (fun _ hk => hk.2) (.int .i64 t257)) (fun _ hk => hk.2) (.int .i64 t258)) (fun _ h_ => h_.1)))) k_ hk, Kd.freshB (g := gb246) (o := .cells #[.int .i64 a0_0, .int .i64 a0_1, .int .i64 a0_2, .int .i64 a0_3] 23 (0, 0)) (by (with_reducible repeat (first | refine blk_drewN ?_ _ | refine blk_drew ?_ | refine blk_alloc ?_ _)); refine blk_far ?_ NB246_260.out _; (with_reducible repeat (first | refine blk_drewN ?_ _ | refine blk_drew ?_ | refine blk_alloc ?_ _)); refine blk_far ?_ NB246_260.out _; (with_reducible repeat (first | refine blk_drewN ?_ _ | refine blk_drew ?_ | refine blk_alloc ?_ _)); refine blk_far ?_ NB246_260.out _; (with_reducible repeat (first | refine blk_drewN ?_ _ | refine blk_drew ?_ | refine blk_alloc ?_ _)); refine blk_far ?_ NB246_260.out _; (with_reducible repeat (first | refine blk_drewN ?_ _ | refine blk_drew ?_ | refine blk_alloc ?_ _)); exact BK246.out) k_ hk, Kd.freshB (g := gb252) (o := .cells #[.int .i64 t247, .int .i64 t248, .int .i64 t249, .int .i64 t250] 23 (0, 0)) (by (with_reducible repeat (first | refine blk_drewN ?_ _ | refine blk_drew ?_ | refine blk_alloc ?_ _)); refine blk_far ?_ NB252_260.out _; (with_reducible repeat (first | refine blk_drewN ?_ _ | refine blk_drew ?_ | refine blk_alloc ?_ _)); refine blk_far ?_ NB252_260.out _; (with_reducible repeat (first | refine blk_drewN ?_ _ | refine blk_drew ?_ | refine blk_alloc ?_ _)); refine blk_far ?_ NB252_260.out _; (with_reducible repeat (first | refine blk_drewN ?_ _ | refine blk_drew ?_ | refine blk_alloc ?_ _)); refine blk_far ?_ NB252_260.out _; (with_reducible repeat (first | refine blk_drewN ?_ _ | refine blk_drew ?_ | refine blk_alloc ?_ _)); exact BK252.out) k_ hk, Kd.freshB (g := gb260) (o := .cells #[.int .i64 t255, .int .i64 t256, .int .i64 t257, .int .i64 t258] 23 (0, 0)) (by (with_reducible repeat (first | refine blk_drewN ?_ _ | refine blk_drew ?_ | refine blk_alloc ?_ _)); refine blk_put (cs := #[.int .i64 t255, .int .i64 t256, .int .i64 t257, .int .i64 0]) ?_ 3 _ rfl; (with_reducible repeat (first | refine blk_drewN ?_ _ | refine blk_drew ?_ | refine blk_alloc ?_ _)); refine blk_put (cs := #[.int .i64 t255, .int .i64 t256, .int .i64 0, .int .i64 0]) ?_ 2 _ rfl; (with_reducible repeat (first | refine blk_drewN ?_ _ | refine blk_drew ?_ | refine blk_alloc ?_ _)); refine blk_put (cs := #[.int .i64 t255, .int .i64 0, .int .i64 0, .int .i64 0]) ?_ 1 _ rfl; (with_reducible repeat (first | refine blk_drewN ?_ _ | refine blk_drew ?_ | refine blk_alloc ?_ _)); refine blk_put (cs := #[.int .i64 0, .int .i64 0, .int .i64 0, .int .i64 0]) ?_ 0 _ rfl; (with_reducible repeat (first | refine blk_drewN ?_ _ | refine blk_drew ?_ | refine blk_alloc ?_ _)); exact BK260.out) k_ hk⟩)); (case aO => exact (by (with_reducible repeat (first | apply Kd.R_alloc | apply Kd.R_drewN | apply Kd.R_drew)); exact Kd.R_mono (Kd.R_far (p := ⟨gb260, 3, none⟩) (Kd.R_far (p := ⟨gb260, 2, none⟩) (Kd.R_far (p := ⟨gb260, 1, none⟩) (Kd.R_far (p := ⟨gb260, 0, none⟩) (Kd.R_mono HO_12.out (fun k_ hk => (⟨hk, hk.2⟩ : _ ∧ k_ ≠ gb260))) (fun _ hk => hk.2) (.int .i64 t255)) (fun _ hk => hk.2) (.int .i64 t256)) (fun _ hk => hk.2) (.int .i64 t257)) (fun _ hk => hk.2) (.int .i64 t258)) (fun _ hk => ⟨hk.1.1.1, ⟨hk.1.1.2.1, ⟨hk.1.1.2.2, hk.1.2⟩⟩⟩))); (case aS => exact (below_size (by repeat (first | (with_reducible first | exact HB.out | apply below_alloc | apply pw_below_drewN | apply below_drew1 | refine below_set ?_ GE246.out | refine below_set ?_ GE252.out | refine below_set ?_ GE260.out) | exact HB.out)))); (case aL => have := LMc29.out; omega); intro v262 w58 ho hb hg hat; rw [← Ny261.out] at ho; have n0_ := Aside0.mk (Kd.R_after (ok := (fun k_ => k_ ≠ gb246 ∧ k_ ≠ gb252 ∧ k_ ≠ gb260)) (by (with_reducible repeat (first | apply Kd.R_alloc | apply Kd.R_drewN | apply Kd.R_drew)); exact Kd.R_mono (Kd.R_far (p := ⟨gb260, 3, none⟩) (Kd.R_far (p := ⟨gb260, 2, none⟩) (Kd.R_far (p := ⟨gb260, 1, none⟩) (Kd.R_far (p := ⟨gb260, 0, none⟩) (Kd.R_mono HO_11.out (fun k_ hk => (⟨hk, hk.2⟩ : _ ∧ k_ ≠ gb260))) (fun _ hk => hk.2) (.int .i64 t255)) (fun _ hk => hk.2) (.int .i64 t256)) (fun _ hk => hk.2) (.int .i64 t257)) (fun _ hk => hk.2) (.int .i64 t258)) (fun _ hk => ⟨⟨hk.1.1.2.1, ⟨hk.1.1.2.2, hk.1.2⟩⟩, hk.1.1.1⟩)) hg hat); have n1_ := Aside0.mk (blk_grown (g := gb246) (o := .cells #[.int .i64 a0_0, .int .i64 a0_1, .int .i64 a0_2, .int .i64 a0_3] 23 (0, 0)) (by (with_reducible repeat (first | refine blk_drewN ?_ _ | refine blk_drew ?_ | refine blk_alloc ?_ _)); refine blk_far ?_ NB246_260.out _; (with_reducible repeat (first | refine blk_drewN ?_ _ | refine blk_drew ?_ | refine blk_alloc ?_ _)); refine blk_far ?_ NB246_260.out _; (with_reducible repeat (first | refine blk_drewN ?_ _ | refine blk_drew ?_ | refine blk_alloc ?_ _)); refine blk_far ?_ NB246_260.out _; (with_reducible repeat (first | refine blk_drewN ?_ _ | refine blk_drew ?_ | refine blk_alloc ?_ _)); refine blk_far ?_ NB246_260.out _; (with_reducible repeat (first | refine blk_drewN ?_ _ | refine blk_drew ?_ | refine blk_alloc ?_ _)); exact BK246.out) hg (Kd.R_away HO_12.out (fun _ hk => hk.1.2.1))); have n2_ := Aside0.mk (blk_grown (g := gb252) (o := .cells #[.int .i64 t247, .int .i64 t248, .int .i64 t249, .int .i64 t250] 23 (0, 0)) (by (with_reducible repeat (first | refine blk_drewN ?_ _ | refine blk_drew ?_ | refine blk_alloc ?_ _)); refine blk_far ?_ NB252_260.out _; (with_reducible repeat (first | refine blk_drewN ?_ _ | refine blk_drew ?_ | refine blk_alloc ?_ _)); refine blk_far ?_ NB252_260.out _; (with_reducible repeat (first | refine blk_drewN ?_ _ | refine blk_drew ?_ | refine blk_alloc ?_ _)); refine blk_far ?_ NB252_260.out _; (with_reducible repeat (first | refine blk_drewN ?_ _ | refine blk_drew ?_ | refine blk_alloc ?_ _)); refine blk_far ?_ NB252_260.out _; (with_reducible repeat (first | refine blk_drewN ?_ _ | refine blk_drew ?_ | refine blk_alloc ?_ _)); exact BK252.out) hg (Kd.R_away HO_12.out (fun _ hk => hk.1.2.2))); have n3_ := Aside0.mk (blk_grown (g := gb260) (o := .cells #[.int .i64 t255, .int .i64 t256, .int .i64 t257, .int .i64 t258] 23 (0, 0)) (by (with_reducible repeat (first | refine blk_drewN ?_ _ | refine blk_drew ?_ | refine blk_alloc ?_ _)); refine blk_put (cs := #[.int .i64 t255, .int .i64 t256, .int .i64 t257, .int .i64 0]) ?_ 3 _ rfl; (with_reducible repeat (first | refine blk_drewN ?_ _ | refine blk_drew ?_ | refine blk_alloc ?_ _)); refine blk_put (cs := #[.int .i64 t255, .int .i64 t256, .int .i64 0, .int .i64 0]) ?_ 2 _ rfl; (with_reducible repeat (first | refine blk_drewN ?_ _ | refine blk_drew ?_ | refine blk_alloc ?_ _)); refine blk_put (cs := #[.int .i64 t255, .int .i64 0, .int .i64 0, .int .i64 0]) ?_ 1 _ rfl; (with_reducible repeat (first | refine blk_drewN ?_ _ | refine blk_drew ?_ | refine blk_alloc ?_ _)); refine blk_put (cs := #[.int .i64 0, .int .i64 0, .int .i64 0, .int .i64 0]) ?_ 0 _ rfl; (with_reducible repeat (first | refine blk_drewN ?_ _ | refine blk_drew ?_ | refine blk_alloc ?_ _)); exact BK260.out) hg (Kd.R_away HO_12.out (fun _ hk => hk.2))); have n4_ := Aside0.mk (hb); have n5_ := Aside0.mk (ho); clear HO_11; clear BK246; clear BK252; clear BK260; clear HB; clear HO_12; have HO_11 := n0_; have BK246 := n1_; have BK252 := n2_; have BK260 := n3_; have HB := n4_; have HO263 := n5_; clear n0_ n1_ n2_ n3_ n4_ n5_; clear ho hb hg hat; have hcz59_0 : w58.cell? ⟨gb252, 0, none⟩ = some (.int .i64 t247) := (blk_cell BK252.out 0).trans rfl; have hcz59_1 : w58.cell? ⟨gb252, 1, none⟩ = some (.int .i64 t248) := (blk_cell BK252.out 1).trans rfl; have hcz59_2 : w58.cell? ⟨gb252, 2, none⟩ = some (.int .i64 t249) := (blk_cell BK252.out 2).trans rfl; have hcz59_3 : w58.cell? ⟨gb252, 3, none⟩ = some (.int .i64 t250) := (blk_cell BK252.out 3).trans rfl; have hfz59_0 := blk_frozen BK252.out 0; have hfz59_1 := blk_frozen BK252.out 1; have hfz59_2 := blk_frozen BK252.out 2; have hfz59_3 := blk_frozen BK252.out 3) | ((with_reducible refine gate_callee (f := 127) rfl ?_); refine goesL_ (some 88) rfl rfl Try.func127 (by kernel_rfl) rfl #[.agg #[.int .i64 (wrap64 (x13_2 + 1)), .int .i64 t248, .int .i64 (rd l2 x42_2), .int .i64 t250], .int .u8 a1] rfl (by (try simp only [List.map_toArray, List.map_cons, List.map_nil]); first | done | rfl | (simp only [List.length_drop, List.length_take]; rfl)) ?_; (with_reducible refine (rect_turned.calls (wrap64 (x13_2 + 1)) t248 (rd l2 x42_2) t250 a1 t264 t265 t266 t267 t268 _ A49.out).mono ?_); rintro e w60 ⟨rfl, hb⟩; refine ⟨_, rfl, ?_⟩; have n0_ := Aside0.mk (Kd.R_below (by (with_reducible repeat (first | apply Kd.R_alloc | apply Kd.R_drewN | apply Kd.R_drew)); exact HO_11.out) hb); have n1_ := Aside0.mk (Kd.R_below (by (with_reducible repeat (first | apply Kd.R_alloc | apply Kd.R_drewN | apply Kd.R_drew)); exact HO263.out) hb); have n2_ := Aside0.mk (blk_below (g := gb246) (o := .cells #[.int .i64 a0_0, .int .i64 a0_1, .int .i64 a0_2, .int .i64 a0_3] 23 (0, 0)) (by (with_reducible repeat (first | refine blk_drewN ?_ _ | refine blk_drew ?_ | refine blk_alloc ?_ _)); exact BK246.out) hb); have n3_ := Aside0.mk (blk_below (g := gb252) (o := .cells #[.int .i64 t247, .int .i64 t248, .int .i64 t249, .int .i64 t250] 23 (0, 0)) (by (with_reducible repeat (first | refine blk_drewN ?_ _ | refine blk_drew ?_ | refine blk_alloc ?_ _)); exact BK252.out) hb); have n4_ := Aside0.mk (blk_below (g := gb260) (o := .cells #[.int .i64 t255, .int .i64 t256, .int .i64 t257, .int .i64 t258] 23 (0, 0)) (by (with_reducible repeat (first | refine blk_drewN ?_ _ | refine blk_drew ?_ | refine blk_alloc ?_ _)); exact BK260.out) hb); have n5_ := Aside0.mk (below_step (by repeat (first | (with_reducible first | exact HB.out | apply below_alloc | apply pw_below_drewN | apply below_drew1 | refine below_set ?_ GE246.out | refine below_set ?_ GE252.out | refine below_set ?_ GE260.out) | exact HB.out)) hb); clear HO_11; clear HO263; clear BK246; clear BK252; clear BK260; clear HB; have HO_11 := n0_; have HO263 := n1_; have BK246 := n2_; have BK252 := n3_; have BK260 := n4_; have HB := n5_; clear n0_ n1_ n2_ n3_ n4_ n5_; (try clear hb); (try clear hb2); (try clear hk); (try clear hi)) | ((with_reducible refine gate_dst (N := 18) rfl ?_); (try (refine gate_guard (by rfl) ?_; dsimp only)); refine box_event ?hg (N := 18) ?hd (cs := #[.int .i64 0, .int .i64 0, .int .i64 0, .int .i64 0]) (t := 23) ?hr ?_; (case hd => rfl); (case hg => rfl); (case hr => first | (go_simp; done) | (go_simp; rfl)); intro gb269 hg w61 hbox hb; have n0_ := Aside0.mk (Kd.R_below (Kd.R_elderB (by (with_reducible repeat (first | apply Kd.R_alloc | apply Kd.R_drewN | apply Kd.R_drew)); exact HO_11.out) gb269 (Nat.le_of_eq hg.symm)) hb); have n1_ := Aside0.mk (Kd.R_below (Kd.R_elderB (by (with_reducible repeat (first | apply Kd.R_alloc | apply Kd.R_drewN | apply Kd.R_drew)); exact HO263.out) gb269 (Nat.le_of_eq hg.symm)) hb); have n2_ := Aside0.mk (blk_below (g := gb246) (o := .cells #[.int .i64 a0_0, .int .i64 a0_1, .int .i64 a0_2, .int .i64 a0_3] 23 (0, 0)) (by (with_reducible repeat (first | refine blk_drewN ?_ _ | refine blk_drew ?_ | refine blk_alloc ?_ _)); exact BK246.out) hb); have n3_ := Aside0.mk (blk_below (g := gb252) (o := .cells #[.int .i64 t247, .int .i64 t248, .int .i64 t249, .int .i64 t250] 23 (0, 0)) (by (with_reducible repeat (first | refine blk_drewN ?_ _ | refine blk_drew ?_ | refine blk_alloc ?_ _)); exact BK252.out) hb); have n4_ := Aside0.mk (blk_below (g := gb260) (o := .cells #[.int .i64 t255, .int .i64 t256, .int .i64 t257, .int .i64 t258] 23 (0, 0)) (by (with_reducible repeat (first | refine blk_drewN ?_ _ | refine blk_drew ?_ | refine blk_alloc ?_ _)); exact BK260.out) hb); have n5_ := Aside0.mk (below_step (by repeat (first | (with_reducible first | exact HB.out | apply below_alloc | apply pw_below_drewN | apply below_drew1 | refine below_set ?_ GE246.out | refine below_set ?_ GE252.out | refine below_set ?_ GE260.out) | exact HB.out)) hb); have n6_ := Aside0.mk (hbox); have n7_ := Aside0.mk ((by rw [hg]; exact (below_size (by repeat (first | (with_reducible first | exact HB.out | apply below_alloc | apply pw_below_drewN | apply below_drew1 | refine below_set ?_ GE246.out | refine below_set ?_ GE252.out | refine below_set ?_ GE260.out) | exact HB.out))) : w.heap.size ≤ gb269)); have n8_ := Aside0.mk ((by rw [hg]; exact (below_size (by repeat (first | (with_reducible first | exact HB.out | apply below_alloc | apply pw_below_drewN | apply below_drew1 | refine below_set ?_ GE246.out | refine below_set ?_ GE252.out | refine below_set ?_ GE260.out) | exact HB.out))) : w.heap.size ≤ gb269)); have n9_ := Aside0.mk ((by rw [hg]; exact Nat.ne_of_lt (blk_lt (g := gb246) (o := .cells #[.int .i64 a0_0, .int .i64 a0_1, .int .i64 a0_2, .int .i64 a0_3] 23 (0, 0)) (by (with_reducible repeat (first | refine blk_drewN ?_ _ | refine blk_drew ?_ | refine blk_alloc ?_ _)); exact BK246.out)) : gb246 ≠ gb269)); have n10_ := Aside0.mk ((by rw [hg]; exact Nat.ne_of_gt (blk_lt (g := gb246) (o := .cells #[.int .i64 a0_0, .int .i64 a0_1, .int .i64 a0_2, .int .i64 a0_3] 23 (0, 0)) (by (with_reducible repeat (first | refine blk_drewN ?_ _ | refine blk_drew ?_ | refine blk_alloc ?_ _)); exact BK246.out)) : gb269 ≠ gb246)); have n11_ := Aside0.mk ((by rw [hg]; exact Nat.ne_of_lt (blk_lt (g := gb252) (o := .cells #[.int .i64 t247, .int .i64 t248, .int .i64 t249, .int .i64 t250] 23 (0, 0)) (by (with_reducible repeat (first | refine blk_drewN ?_ _ | refine blk_drew ?_ | refine blk_alloc ?_ _)); exact BK252.out)) : gb252 ≠ gb269)); have n12_ := Aside0.mk ((by rw [hg]; exact Nat.ne_of_gt (blk_lt (g := gb252) (o := .cells #[.int .i64 t247, .int .i64 t248, .int .i64 t249, .int .i64 t250] 23 (0, 0)) (by (with_reducible repeat (first | refine blk_drewN ?_ _ | refine blk_drew ?_ | refine blk_alloc ?_ _)); exact BK252.out)) : gb269 ≠ gb252)); have n13_ := Aside0.mk ((by rw [hg]; exact Nat.ne_of_lt (blk_lt (g := gb260) (o := .cells #[.int .i64 t255, .int .i64 t256, .int .i64 t257, .int .i64 t258] 23 (0, 0)) (by (with_reducible repeat (first | refine blk_drewN ?_ _ | refine blk_drew ?_ | refine blk_alloc ?_ _)); exact BK260.out)) : gb260 ≠ gb269)); have n14_ := Aside0.mk ((by rw [hg]; exact Nat.ne_of_gt (blk_lt (g := gb260) (o := .cells #[.int .i64 t255, .int .i64 t256, .int .i64 t257, .int .i64 t258] 23 (0, 0)) (by (with_reducible repeat (first | refine blk_drewN ?_ _ | refine blk_drew ?_ | refine blk_alloc ?_ _)); exact BK260.out)) : gb269 ≠ gb260)); clear HO_11; clear HO263; clear BK246; clear BK252; clear BK260; clear HB; have HO_11 := n0_; have HO263 := n1_; have BK246 := n2_; have BK252 := n3_; have BK260 := n4_; have HB := n5_; have BK269 := n6_; have GW269 := n7_; have GE269 := n8_; have NB246_269 := n9_; have NB269_246 := n10_; have NB252_269 := n11_; have NB269_252 := n12_; have NB260_269 := n13_; have NB269_260 := n14_; clear n0_ n1_ n2_ n3_ n4_ n5_ n6_ n7_ n8_ n9_ n10_ n11_ n12_ n13_ n14_; clear hb hbox hg; have hnb62 := NB269_246.out; have hnc62 := NB246_269.out; have hnb63 := NB269_252.out; have hnc63 := NB252_269.out; have hnb64 := NB269_260.out; have hnc64 := NB260_269.out; have hcz65_0 : w61.cell? ⟨gb269, 0, none⟩ = some (.int .i64 0) := (blk_cell BK269.out 0).trans rfl; have hcz65_1 : w61.cell? ⟨gb269, 1, none⟩ = some (.int .i64 0) := (blk_cell BK269.out 1).trans rfl; have hcz65_2 : w61.cell? ⟨gb269, 2, none⟩ = some (.int .i64 0) := (blk_cell BK269.out 2).trans rfl; have hcz65_3 : w61.cell? ⟨gb269, 3, none⟩ = some (.int .i64 0) := (blk_cell BK269.out 3).trans rfl; have hfz65_0 := blk_frozen BK269.out 0; have hfz65_1 := blk_frozen BK269.out 1; have hfz65_2 := blk_frozen BK269.out 2; have hfz65_3 := blk_frozen BK269.out 3) | ((with_reducible refine gate_builtin (b := .append) (xs := #[.tmp 91, .tmp 93]) rfl ?_); (try (refine gate_guard (by rfl) ?_; dsimp only)); at_builtin; refine Kd.R_append k23 (w0 := w) w.heap.size rfl (.tmp 91) (.tmp 93) 42 23 (.agg #[(.int .i64 0), (.int .i64 0), (.int .i64 0), (.int .i64 0)]) 32 rfl Try.underlying42 info23 rfl (by decide) (by omega) u11 x11_2 (⟨t264, t265, t266, t267⟩ : S23) [.int .i64 t264, .int .i64 t265, .int .i64 t266, .int .i64 t267] (fun k_ => some k_ ≠ (v262 : Value).ownBlock ∧ k_ ≠ gb246 ∧ k_ ≠ gb252 ∧ k_ ≠ gb260 ∧ k_ ≠ gb269) (fun _ => False) rfl (by first | (go_simp; done) | (go_simp; rfl)) ?aP (fun _ hk => hk.elim) ?aF ?aO ?aB ?aS ?aL ?_; (case aP => exact k23_mkM _ _ _ (⟨t264, t265, t266, t267⟩ : S23)); (case aB => exact (by repeat (first | (with_reducible first | exact HB.out | apply below_alloc | apply pw_below_drewN | apply below_drew1 | refine below_set ?_ GE246.out | refine below_set ?_ GE252.out | refine below_set ?_ GE260.out | refine below_set ?_ GE269.out) | exact HB.out))); (case aF => exact (fun k_ hk => ⟨Kd.fresh' (Kd.R_lt (by (with_reducible repeat (first | apply Kd.R_alloc | apply Kd.R_drewN | apply Kd.R_drew)); exact (Kd.R_mono (Kd.R_far (p := ⟨gb269, 3, none⟩) (Kd.R_far (p := ⟨gb269, 2, none⟩) (Kd.R_far (p := ⟨gb269, 1, none⟩) (Kd.R_far (p := ⟨gb269, 0, none⟩) (Kd.R_mono HO263.out (fun k_ hk => (⟨hk, hk.2⟩ : _ ∧ k_ ≠ gb269))) (fun _ hk => hk.2) (.int .i64 t264)) (fun _ hk => hk.2) (.int .i64 t265)) (fun _ hk => hk.2) (.int .i64 t266)) (fun _ hk => hk.2) (.int .i64 t267)) (fun _ h_ => h_.1)))) k_ hk, Kd.freshB (g := gb246) (o := .cells #[.int .i64 a0_0, .int .i64 a0_1, .int .i64 a0_2, .int .i64 a0_3] 23 (0, 0)) (by (with_reducible repeat (first | refine blk_drewN ?_ _ | refine blk_drew ?_ | refine blk_alloc ?_ _)); refine blk_far ?_ NB246_269.out _; (with_reducible repeat (first | refine blk_drewN ?_ _ | refine blk_drew ?_ | refine blk_alloc ?_ _)); refine blk_far ?_ NB246_269.out _; (with_reducible repeat (first | refine blk_drewN ?_ _ | refine blk_drew ?_ | refine blk_alloc ?_ _)); refine blk_far ?_ NB246_269.out _; (with_reducible repeat (first | refine blk_drewN ?_ _ | refine blk_drew ?_ | refine blk_alloc ?_ _)); refine blk_far ?_ NB246_269.out _; (with_reducible repeat (first | refine blk_drewN ?_ _ | refine blk_drew ?_ | refine blk_alloc ?_ _)); exact BK246.out) k_ hk, Kd.freshB (g := gb252) (o := .cells #[.int .i64 t247, .int .i64 t248, .int .i64 t249, .int .i64 t250] 23 (0, 0)) (by (with_reducible repeat (first | refine blk_drewN ?_ _ | refine blk_drew ?_ | refine blk_alloc ?_ _)); refine blk_far ?_ NB252_269.out _; (with_reducible repeat (first | refine blk_drewN ?_ _ | refine blk_drew ?_ | refine blk_alloc ?_ _)); refine blk_far ?_ NB252_269.out _; (with_reducible repeat (first | refine blk_drewN ?_ _ | refine blk_drew ?_ | refine blk_alloc ?_ _)); refine blk_far ?_ NB252_269.out _; (with_reducible repeat (first | refine blk_drewN ?_ _ | refine blk_drew ?_ | refine blk_alloc ?_ _)); refine blk_far ?_ NB252_269.out _; (with_reducible repeat (first | refine blk_drewN ?_ _ | refine blk_drew ?_ | refine blk_alloc ?_ _)); exact BK252.out) k_ hk, Kd.freshB (g := gb260) (o := .cells #[.int .i64 t255, .int .i64 t256, .int .i64 t257, .int .i64 t258] 23 (0, 0)) (by (with_reducible repeat (first | refine blk_drewN ?_ _ | refine blk_drew ?_ | refine blk_alloc ?_ _)); refine blk_far ?_ NB260_269.out _; (with_reducible repeat (first | refine blk_drewN ?_ _ | refine blk_drew ?_ | refine blk_alloc ?_ _)); refine blk_far ?_ NB260_269.out _; (with_reducible repeat (first | refine blk_drewN ?_ _ | refine blk_drew ?_ | refine blk_alloc ?_ _)); refine blk_far ?_ NB260_269.out _; (with_reducible repeat (first | refine blk_drewN ?_ _ | refine blk_drew ?_ | refine blk_alloc ?_ _)); refine blk_far ?_ NB260_269.out _; (with_reducible repeat (first | refine blk_drewN ?_ _ | refine blk_drew ?_ | refine blk_alloc ?_ _)); exact BK260.out) k_ hk, Kd.freshB (g := gb269) (o := .cells #[.int .i64 t264, .int .i64 t265, .int .i64 t266, .int .i64 t267] 23 (0, 0)) (by (with_reducible repeat (first | refine blk_drewN ?_ _ | refine blk_drew ?_ | refine blk_alloc ?_ _)); refine blk_put (cs := #[.int .i64 t264, .int .i64 t265, .int .i64 t266, .int .i64 0]) ?_ 3 _ rfl; (with_reducible repeat (first | refine blk_drewN ?_ _ | refine blk_drew ?_ | refine blk_alloc ?_ _)); refine blk_put (cs := #[.int .i64 t264, .int .i64 t265, .int .i64 0, .int .i64 0]) ?_ 2 _ rfl; (with_reducible repeat (first | refine blk_drewN ?_ _ | refine blk_drew ?_ | refine blk_alloc ?_ _)); refine blk_put (cs := #[.int .i64 t264, .int .i64 0, .int .i64 0, .int .i64 0]) ?_ 1 _ rfl; (with_reducible repeat (first | refine blk_drewN ?_ _ | refine blk_drew ?_ | refine blk_alloc ?_ _)); refine blk_put (cs := #[.int .i64 0, .int .i64 0, .int .i64 0, .int .i64 0]) ?_ 0 _ rfl; (with_reducible repeat (first | refine blk_drewN ?_ _ | refine blk_drew ?_ | refine blk_alloc ?_ _)); exact BK269.out) k_ hk⟩)); (case aO => exact (by (with_reducible repeat (first | apply Kd.R_alloc | apply Kd.R_drewN | apply Kd.R_drew)); exact Kd.R_mono (Kd.R_far (p := ⟨gb269, 3, none⟩) (Kd.R_far (p := ⟨gb269, 2, none⟩) (Kd.R_far (p := ⟨gb269, 1, none⟩) (Kd.R_far (p := ⟨gb269, 0, none⟩) (Kd.R_mono HO_11.out (fun k_ hk => (⟨hk, hk.2⟩ : _ ∧ k_ ≠ gb269))) (fun _ hk => hk.2) (.int .i64 t264)) (fun _ hk => hk.2) (.int .i64 t265)) (fun _ hk => hk.2) (.int .i64 t266)) (fun _ hk => hk.2) (.int .i64 t267)) (fun _ hk => ⟨hk.1.1.2, ⟨hk.1.1.1.1, ⟨hk.1.1.1.2.1, ⟨hk.1.1.1.2.2, hk.1.2⟩⟩⟩⟩))); (case aS => exact (below_size (by repeat (first | (with_reducible first | exact HB.out | apply below_alloc | apply pw_below_drewN | apply below_drew1 | refine below_set ?_ GE246.out | refine below_set ?_ GE252.out | refine below_set ?_ GE260.out | refine below_set ?_ GE269.out) | exact HB.out)))); (case aL => have := LMc50.out; omega); intro v271 w66 ho hb hg hat; rw [← Ny270.out] at ho; have n0_ := Aside0.mk (blk_grown (g := gb246) (o := .cells #[.int .i64 a0_0, .int .i64 a0_1, .int .i64 a0_2, .int .i64 a0_3] 23 (0, 0)) (by (with_reducible repeat (first | refine blk_drewN ?_ _ | refine blk_drew ?_ | refine blk_alloc ?_ _)); refine blk_far ?_ NB246_269.out _; (with_reducible repeat (first | refine blk_drewN ?_ _ | refine blk_drew ?_ | refine blk_alloc ?_ _)); refine blk_far ?_ NB246_269.out _; (with_reducible repeat (first | refine blk_drewN ?_ _ | refine blk_drew ?_ | refine blk_alloc ?_ _)); refine blk_far ?_ NB246_269.out _; (with_reducible repeat (first | refine blk_drewN ?_ _ | refine blk_drew ?_ | refine blk_alloc ?_ _)); refine blk_far ?_ NB246_269.out _; (with_reducible repeat (first | refine blk_drewN ?_ _ | refine blk_drew ?_ | refine blk_alloc ?_ _)); exact BK246.out) hg (Kd.R_away HO_11.out (fun _ hk => hk.1.1.1))); have n1_ := Aside0.mk (blk_grown (g := gb252) (o := .cells #[.int .i64 t247, .int .i64 t248, .int .i64 t249, .int .i64 t250] 23 (0, 0)) (by (with_reducible repeat (first | refine blk_drewN ?_ _ | refine blk_drew ?_ | refine blk_alloc ?_ _)); refine blk_far ?_ NB252_269.out _; (with_reducible repeat (first | refine blk_drewN ?_ _ | refine blk_drew ?_ | refine blk_alloc ?_ _)); refine blk_far ?_ NB252_269.out _; (with_reducible repeat (first | refine blk_drewN ?_ _ | refine blk_drew ?_ | refine blk_alloc ?_ _)); refine blk_far ?_ NB252_269.out _; (with_reducible repeat (first | refine blk_drewN ?_ _ | refine blk_drew ?_ | refine blk_alloc ?_ _)); refine blk_far ?_ NB252_269.out _; (with_reducible repeat (first | refine blk_drewN ?_ _ | refine blk_drew ?_ | refine blk_alloc ?_ _)); exact BK252.out) hg (Kd.R_away HO_11.out (fun _ hk => hk.1.1.2.1))); have n2_ := Aside0.mk (blk_grown (g := gb260) (o := .cells #[.int .i64 t255, .int .i64 t256, .int .i64 t257, .int .i64 t258] 23 (0, 0)) (by (with_reducible repeat (first | refine blk_drewN ?_ _ | refine blk_drew ?_ | refine blk_alloc ?_ _)); refine blk_far ?_ NB260_269.out _; (with_reducible repeat (first | refine blk_drewN ?_ _ | refine blk_drew ?_ | refine blk_alloc ?_ _)); refine blk_far ?_ NB260_269.out _; (with_reducible repeat (first | refine blk_drewN ?_ _ | refine blk_drew ?_ | refine blk_alloc ?_ _)); refine blk_far ?_ NB260_269.out _; (with_reducible repeat (first | refine blk_drewN ?_ _ | refine blk_drew ?_ | refine blk_alloc ?_ _)); refine blk_far ?_ NB260_269.out _; (with_reducible repeat (first | refine blk_drewN ?_ _ | refine blk_drew ?_ | refine blk_alloc ?_ _)); exact BK260.out) hg (Kd.R_away HO_11.out (fun _ hk => hk.1.1.2.2))); have n3_ := Aside0.mk (Kd.R_after (ok := (fun k_ => k_ ≠ gb246 ∧ k_ ≠ gb252 ∧ k_ ≠ gb260 ∧ k_ ≠ gb269)) (by (with_reducible repeat (first | apply Kd.R_alloc | apply Kd.R_drewN | apply Kd.R_drew)); exact Kd.R_mono (Kd.R_far (p := ⟨gb269, 3, none⟩) (Kd.R_far (p := ⟨gb269, 2, none⟩) (Kd.R_far (p := ⟨gb269, 1, none⟩) (Kd.R_far (p := ⟨gb269, 0, none⟩) (Kd.R_mono HO263.out (fun k_ hk => (⟨hk, hk.2⟩ : _ ∧ k_ ≠ gb269))) (fun _ hk => hk.2) (.int .i64 t264)) (fun _ hk => hk.2) (.int .i64 t265)) (fun _ hk => hk.2) (.int .i64 t266)) (fun _ hk => hk.2) (.int .i64 t267)) (fun _ hk => ⟨⟨hk.1.1.2.1, ⟨hk.1.1.2.2.1, ⟨hk.1.1.2.2.2, hk.1.2⟩⟩⟩, hk.1.1.1⟩)) hg hat); have n4_ := Aside0.mk (blk_grown (g := gb269) (o := .cells #[.int .i64 t264, .int .i64 t265, .int .i64 t266, .int .i64 t267] 23 (0, 0)) (by (with_reducible repeat (first | refine blk_drewN ?_ _ | refine blk_drew ?_ | refine blk_alloc ?_ _)); refine blk_put (cs := #[.int .i64 t264, .int .i64 t265, .int .i64 t266, .int .i64 0]) ?_ 3 _ rfl; (with_reducible repeat (first | refine blk_drewN ?_ _ | refine blk_drew ?_ | refine blk_alloc ?_ _)); refine blk_put (cs := #[.int .i64 t264, .int .i64 t265, .int .i64 0, .int .i64 0]) ?_ 2 _ rfl; (with_reducible repeat (first | refine blk_drewN ?_ _ | refine blk_drew ?_ | refine blk_alloc ?_ _)); refine blk_put (cs := #[.int .i64 t264, .int .i64 0, .int .i64 0, .int .i64 0]) ?_ 1 _ rfl; (with_reducible repeat (first | refine blk_drewN ?_ _ | refine blk_drew ?_ | refine blk_alloc ?_ _)); refine blk_put (cs := #[.int .i64 0, .int .i64 0, .int .i64 0, .int .i64 0]) ?_ 0 _ rfl; (with_reducible repeat (first | refine blk_drewN ?_ _ | refine blk_drew ?_ | refine blk_alloc ?_ _)); exact BK269.out) hg (Kd.R_away HO_11.out (fun _ hk => hk.2))); have n5_ := Aside0.mk (hb); have n6_ := Aside0.mk (ho); clear BK246; clear BK252; clear BK260; clear HO263; clear BK269; clear HB; clear HO_11; have BK246 := n0_; have BK252 := n1_; have BK260 := n2_; have HO263 := n3_; have BK269 := n4_; have HB := n5_; have HO272 := n6_; clear n0_ n1_ n2_ n3_ n4_ n5_ n6_; clear ho hb hg hat))
              go_roundg k2
              case measure => have := HJ4.out; have := HK2.out; omega
              case rel => exact ⟨(y270), (y261), (wrap64 ((wrap64 (x13_2 + 1)) + (rd l2 x42_2))), (wrap64 (x42_2 + 1)), (by first | rfl | (simp; done) | (simp [*]; done)), (by first | rfl | (simp; done) | (simp [*]; done)), H', ⟨by have := HJ4.out; have := HK2.out; omega⟩, ⟨by (with_reducible repeat (first | apply Kd.R_alloc | apply Kd.R_drewN | apply Kd.R_drew)); exact Kd.R_mono HO272.out (fun _ hk => ⟨hk.1, ⟨hk.2.1, hk.2.2.1⟩⟩)⟩, ⟨by (with_reducible repeat (first | apply Kd.R_alloc | apply Kd.R_drewN | apply Kd.R_drew)); exact Kd.R_mono HO263.out (fun _ hk => ⟨hk.2, ⟨hk.1.1, hk.1.2.1⟩⟩)⟩, ⟨by (with_reducible repeat (first | refine blk_drewN ?_ _ | refine blk_drew ?_ | refine blk_alloc ?_ _)); exact BK246.out⟩, ⟨by (with_reducible repeat (first | refine blk_drewN ?_ _ | refine blk_drew ?_ | refine blk_alloc ?_ _)); exact BK252.out⟩, ⟨by repeat (first | (with_reducible first | exact HB.out | apply below_alloc | apply pw_below_drewN | apply below_drew1 | refine below_set ?_ GE246.out | refine below_set ?_ GE252.out | refine below_set ?_ GE260.out | refine below_set ?_ GE269.out) | exact HB.out)⟩⟩
             ·rw [if_neg c50] at H
              exact absurd H (by simp)
          ·rw [if_neg c29] at H
           exact absurd H (by simp)
         ·rw [if_neg c27] at H
          have c27b0 : decide (0 < x42_2) = false := decide_eq_false c27
          clear c27
          by_cases c67 : (rd l2 x42_2) < 1
          ·rw [if_pos c67] at H
           have c67b0 : decide ((rd l2 x42_2) < 1) = true := decide_eq_true c67
           clear c67
           simp only [Option.some.injEq, Prod.mk.injEq] at H
           obtain ⟨rfl, rfl, rfl⟩ := H
           have p254 : 0 ≤ (x42_2 : Int) := of_decide_eq_true (by first | (with_reducible assumption) | assumption)
           have q254 : x42_2 < (l2.length : Int) := of_decide_eq_true (by first | (with_reducible assumption) | assumption)
           obtain ⟨ad254, e254, hx254_0⟩ := Kd.at_int HR2.out x42_2 p254 q254
           cases e254
           replace hx254_0 := (HB.out.cell (World.block_lt_of_cell? w _ hx254_0)).trans hx254_0
           replace p254 := eq_true p254
           replace q254 := eq_true q254
           go_wp2
           go_ret3
           exact ⟨_, _, by first | rfl | (simp [errW_none, errW_some] <;> rfl) | (simp [*, errW_none, errW_some] <;> rfl), by first | exact Kd.R_nil _ _ _ _ _ | exact Kd.N_nil _ _ _ _ _ | exact Kd.V_nil _ _ _ _ _ | exact Kd.Q_nil _ _ _ _ _ | exact Kd.S_nil _ _ _ _ _, by first | exact Kd.R_nil _ _ _ _ _ | exact Kd.N_nil _ _ _ _ _ | exact Kd.V_nil _ _ _ _ _ | exact Kd.Q_nil _ _ _ _ _ | exact Kd.S_nil _ _ _ _ _, by repeat (first | (with_reducible first | exact HB.out | apply below_alloc | apply pw_below_drewN | apply below_drew1 | refine below_set ?_ GE246.out | refine below_set ?_ GE252.out) | exact HB.out)⟩
          ·rw [if_neg c67] at H
           have c67b0 : decide ((rd l2 x42_2) < 1) = false := decide_eq_false c67
           clear c67
           by_cases c68 : (rd l2 x42_2) > (wrap64 ((wrap64 (t247 + t249)) - x13_2))
           ·rw [if_pos c68] at H
            have c68b0 : decide ((wrap64 ((wrap64 (t247 + t249)) - x13_2)) < (rd l2 x42_2)) = true := decide_eq_true c68
            clear c68
            simp only [Option.some.injEq, Prod.mk.injEq] at H
            obtain ⟨rfl, rfl, rfl⟩ := H
            have p254 : 0 ≤ (x42_2 : Int) := of_decide_eq_true (by first | (with_reducible assumption) | assumption)
            have q254 : x42_2 < (l2.length : Int) := of_decide_eq_true (by first | (with_reducible assumption) | assumption)
            obtain ⟨ad254, e254, hx254_0⟩ := Kd.at_int HR2.out x42_2 p254 q254
            cases e254
            replace hx254_0 := (HB.out.cell (World.block_lt_of_cell? w _ hx254_0)).trans hx254_0
            replace p254 := eq_true p254
            replace q254 := eq_true q254
            have hnb69 := NB252_246.out
            have hnc69 := NB246_252.out
            have hcz70_0 : wr.cell? ⟨gb252, 0, none⟩ = some (.int .i64 t247) := (blk_cell BK252.out 0).trans rfl
            have hcz70_1 : wr.cell? ⟨gb252, 1, none⟩ = some (.int .i64 t248) := (blk_cell BK252.out 1).trans rfl
            have hcz70_2 : wr.cell? ⟨gb252, 2, none⟩ = some (.int .i64 t249) := (blk_cell BK252.out 2).trans rfl
            have hcz70_3 : wr.cell? ⟨gb252, 3, none⟩ = some (.int .i64 t250) := (blk_cell BK252.out 3).trans rfl
            have hfz70_0 := blk_frozen BK252.out 0
            have hfz70_1 := blk_frozen BK252.out 1
            have hfz70_2 := blk_frozen BK252.out 2
            have hfz70_3 := blk_frozen BK252.out 3
            go_wp2
            go_ret3
            exact ⟨_, _, by first | rfl | (simp [errW_none, errW_some] <;> rfl) | (simp [*, errW_none, errW_some] <;> rfl), by first | exact Kd.R_nil _ _ _ _ _ | exact Kd.N_nil _ _ _ _ _ | exact Kd.V_nil _ _ _ _ _ | exact Kd.Q_nil _ _ _ _ _ | exact Kd.S_nil _ _ _ _ _, by first | exact Kd.R_nil _ _ _ _ _ | exact Kd.N_nil _ _ _ _ _ | exact Kd.V_nil _ _ _ _ _ | exact Kd.Q_nil _ _ _ _ _ | exact Kd.S_nil _ _ _ _ _, by repeat (first | (with_reducible first | exact HB.out | apply below_alloc | apply pw_below_drewN | apply below_drew1 | refine below_set ?_ GE246.out | refine below_set ?_ GE252.out) | exact HB.out)⟩
           ·rw [if_neg c68] at H
            have c68b0 : decide ((wrap64 ((wrap64 (t247 + t249)) - x13_2)) < (rd l2 x42_2)) = false := decide_eq_false c68
            clear c68
            replace H := Option.bind_eq_some_iff.mp H
            obtain ⟨⟨t273, t274, t275, t276, t277⟩, A710, H⟩ := H
            replace H : (if x11_2.length < 4398046511104 then (rect_Cut.l0 k2 a1 (x11_2 ++ [(⟨t273, t274, t275, t276⟩ : S23)]) x12_2 (wrap64 (x13_2 + (rd l2 x42_2))) l2 (l2.length : Int) (wrap64 (x42_2 + 1)) t247 t248 t249 t250) else (none)) = some (r1, r2, r3) := H
            have A71 := Aside0.mk A710
            clear A710
            by_cases c72 : x11_2.length < 4398046511104
            ·rw [if_pos c72] at H
             have LMc72 := Aside0.mk c72
             clear c72
             obtain ⟨y279, hy279⟩ : ∃ y_ : List (S23), y_ = (x11_2 ++ [(⟨t273, t274, t275, t276⟩ : S23)]) := ⟨_, rfl⟩
             replace H : (rect_Cut.l0 k2 a1 y279 x12_2 (wrap64 (x13_2 + (rd l2 x42_2))) l2 (l2.length : Int) (wrap64 (x42_2 + 1)) t247 t248 t249 t250) = some (r1, r2, r3) := by first | (rw [hy279]; with_reducible exact H) | (have H2_ := (Option.bind_some _ _).symm.trans H; rw [hy279]; with_reducible exact H2_) | (have H2_ := (Option.bind_some _ _).symm.trans H; with_reducible exact H2_) | with_reducible exact H | (rw [hy279]; exact H) | exact H
             have Ny279 := Aside0.mk hy279
             clear hy279
             have H' := Aside0.mk H
             clear H
             have p254 : 0 ≤ (x42_2 : Int) := of_decide_eq_true (by first | (with_reducible assumption) | assumption)
             have q254 : x42_2 < (l2.length : Int) := of_decide_eq_true (by first | (with_reducible assumption) | assumption)
             obtain ⟨ad254, e254, hx254_0⟩ := Kd.at_int HR2.out x42_2 p254 q254
             cases e254
             replace hx254_0 := (HB.out.cell (World.block_lt_of_cell? w _ hx254_0)).trans hx254_0
             replace p254 := eq_true p254
             replace q254 := eq_true q254
             have hnb73 := NB252_246.out
             have hnc73 := NB246_252.out
             have hcz74_0 : wr.cell? ⟨gb252, 0, none⟩ = some (.int .i64 t247) := (blk_cell BK252.out 0).trans rfl
             have hcz74_1 : wr.cell? ⟨gb252, 1, none⟩ = some (.int .i64 t248) := (blk_cell BK252.out 1).trans rfl
             have hcz74_2 : wr.cell? ⟨gb252, 2, none⟩ = some (.int .i64 t249) := (blk_cell BK252.out 2).trans rfl
             have hcz74_3 : wr.cell? ⟨gb252, 3, none⟩ = some (.int .i64 t250) := (blk_cell BK252.out 3).trans rfl
             have hfz74_0 := blk_frozen BK252.out 0
             have hfz74_1 := blk_frozen BK252.out 1
             have hfz74_2 := blk_frozen BK252.out 2
             have hfz74_3 := blk_frozen BK252.out 3
             go_wp2_with (first | ((with_reducible refine gate_callee (f := 127) rfl ?_); refine goesL_ (some 88) rfl rfl Try.func127 (by kernel_rfl) rfl #[.agg #[.int .i64 x13_2, .int .i64 t248, .int .i64 (rd l2 x42_2), .int .i64 t250], .int .u8 a1] rfl (by (try simp only [List.map_toArray, List.map_cons, List.map_nil]); first | done | rfl | (simp only [List.length_drop, List.length_take]; rfl)) ?_; (with_reducible refine (rect_turned.calls x13_2 t248 (rd l2 x42_2) t250 a1 t273 t274 t275 t276 t277 _ A71.out).mono ?_); rintro e w75 ⟨rfl, hb⟩; refine ⟨_, rfl, ?_⟩; have n0_ := Aside0.mk (Kd.R_below (by (with_reducible repeat (first | apply Kd.R_alloc | apply Kd.R_drewN | apply Kd.R_drew)); exact HO_11.out) hb); have n1_ := Aside0.mk (Kd.R_below (by (with_reducible repeat (first | apply Kd.R_alloc | apply Kd.R_drewN | apply Kd.R_drew)); exact HO_12.out) hb); have n2_ := Aside0.mk (blk_below (g := gb246) (o := .cells #[.int .i64 a0_0, .int .i64 a0_1, .int .i64 a0_2, .int .i64 a0_3] 23 (0, 0)) (by (with_reducible repeat (first | refine blk_drewN ?_ _ | refine blk_drew ?_ | refine blk_alloc ?_ _)); exact BK246.out) hb); have n3_ := Aside0.mk (blk_below (g := gb252) (o := .cells #[.int .i64 t247, .int .i64 t248, .int .i64 t249, .int .i64 t250] 23 (0, 0)) (by (with_reducible repeat (first | refine blk_drewN ?_ _ | refine blk_drew ?_ | refine blk_alloc ?_ _)); exact BK252.out) hb); have n4_ := Aside0.mk (below_step (by repeat (first | (with_reducible first | exact HB.out | apply below_alloc | apply pw_below_drewN | apply below_drew1 | refine below_set ?_ GE246.out | refine below_set ?_ GE252.out) | exact HB.out)) hb); clear HO_11; clear HO_12; clear BK246; clear BK252; clear HB; have HO_11 := n0_; have HO_12 := n1_; have BK246 := n2_; have BK252 := n3_; have HB := n4_; clear n0_ n1_ n2_ n3_ n4_; (try clear hb); (try clear hb2); (try clear hk); (try clear hi)) | ((with_reducible refine gate_dst (N := 18) rfl ?_); (try (refine gate_guard (by rfl) ?_; dsimp only)); refine box_event ?hg (N := 18) ?hd (cs := #[.int .i64 0, .int .i64 0, .int .i64 0, .int .i64 0]) (t := 23) ?hr ?_; (case hd => rfl); (case hg => rfl); (case hr => first | (go_simp; done) | (go_simp; rfl)); intro gb278 hg w76 hbox hb; have n0_ := Aside0.mk (Kd.R_below (Kd.R_elderB (by (with_reducible repeat (first | apply Kd.R_alloc | apply Kd.R_drewN | apply Kd.R_drew)); exact HO_11.out) gb278 (Nat.le_of_eq hg.symm)) hb); have n1_ := Aside0.mk (Kd.R_below (Kd.R_elderB (by (with_reducible repeat (first | apply Kd.R_alloc | apply Kd.R_drewN | apply Kd.R_drew)); exact HO_12.out) gb278 (Nat.le_of_eq hg.symm)) hb); have n2_ := Aside0.mk (blk_below (g := gb246) (o := .cells #[.int .i64 a0_0, .int .i64 a0_1, .int .i64 a0_2, .int .i64 a0_3] 23 (0, 0)) (by (with_reducible repeat (first | refine blk_drewN ?_ _ | refine blk_drew ?_ | refine blk_alloc ?_ _)); exact BK246.out) hb); have n3_ := Aside0.mk (blk_below (g := gb252) (o := .cells #[.int .i64 t247, .int .i64 t248, .int .i64 t249, .int .i64 t250] 23 (0, 0)) (by (with_reducible repeat (first | refine blk_drewN ?_ _ | refine blk_drew ?_ | refine blk_alloc ?_ _)); exact BK252.out) hb); have n4_ := Aside0.mk (below_step (by repeat (first | (with_reducible first | exact HB.out | apply below_alloc | apply pw_below_drewN | apply below_drew1 | refine below_set ?_ GE246.out | refine below_set ?_ GE252.out) | exact HB.out)) hb); have n5_ := Aside0.mk (hbox); have n6_ := Aside0.mk ((by rw [hg]; exact (below_size (by repeat (first | (with_reducible first | exact HB.out | apply below_alloc | apply pw_below_drewN | apply below_drew1 | refine below_set ?_ GE246.out | refine below_set ?_ GE252.out) | exact HB.out))) : w.heap.size ≤ gb278)); have n7_ := Aside0.mk ((by rw [hg]; exact (below_size (by repeat (first | (with_reducible first | exact HB.out | apply below_alloc | apply pw_below_drewN | apply below_drew1 | refine below_set ?_ GE246.out | refine below_set ?_ GE252.out) | exact HB.out))) : w.heap.size ≤ gb278)); have n8_ := Aside0.mk ((by rw [hg]; exact Nat.ne_of_lt (blk_lt (g := gb246) (o := .cells #[.int .i64 a0_0, .int .i64 a0_1, .int .i64 a0_2, .int .i64 a0_3] 23 (0, 0)) (by (with_reducible repeat (first | refine blk_drewN ?_ _ | refine blk_drew ?_ | refine blk_alloc ?_ _)); exact BK246.out)) : gb246 ≠ gb278)); have n9_ := Aside0.mk ((by rw [hg]; exact Nat.ne_of_gt (blk_lt (g := gb246) (o := .cells #[.int .i64 a0_0, .int .i64 a0_1, .int .i64 a0_2, .int .i64 a0_3] 23 (0, 0)) (by (with_reducible repeat (first | refine blk_drewN ?_ _ | refine blk_drew ?_ | refine blk_alloc ?_ _)); exact BK246.out)) : gb278 ≠ gb246)); have n10_ := Aside0.mk ((by rw [hg]; exact Nat.ne_of_lt (blk_lt (g := gb252) (o := .cells #[.int .i64 t247, .int .i64 t248, .int .i64 t249, .int .i64 t250] 23 (0, 0)) (by (with_reducible repeat (first | refine blk_drewN ?_ _ | refine blk_drew ?_ | refine blk_alloc ?_ _)); exact BK252.out)) : gb252 ≠ gb278)); have n11_ := Aside0.mk ((by rw [hg]; exact Nat.ne_of_gt (blk_lt (g := gb252) (o := .cells #[.int .i64 t247, .int .i64 t248, .int .i64 t249, .int .i64 t250] 23 (0, 0)) (by (with_reducible repeat (first | refine blk_drewN ?_ _ | refine blk_drew ?_ | refine blk_alloc ?_ _)); exact BK252.out)) : gb278 ≠ gb252)); clear HO_11; clear HO_12; clear BK246; clear BK252; clear HB; have HO_11 := n0_; have HO_12 := n1_; have BK246 := n2_; have BK252 := n3_; have HB := n4_; have BK278 := n5_; have GW278 := n6_; have GE278 := n7_; have NB246_278 := n8_; have NB278_246 := n9_; have NB252_278 := n10_; have NB278_252 := n11_; clear n0_ n1_ n2_ n3_ n4_ n5_ n6_ n7_ n8_ n9_ n10_ n11_; clear hb hbox hg; have hnb77 := NB278_246.out; have hnc77 := NB246_278.out; have hnb78 := NB278_252.out; have hnc78 := NB252_278.out; have hcz79_0 : w76.cell? ⟨gb278, 0, none⟩ = some (.int .i64 0) := (blk_cell BK278.out 0).trans rfl; have hcz79_1 : w76.cell? ⟨gb278, 1, none⟩ = some (.int .i64 0) := (blk_cell BK278.out 1).trans rfl; have hcz79_2 : w76.cell? ⟨gb278, 2, none⟩ = some (.int .i64 0) := (blk_cell BK278.out 2).trans rfl; have hcz79_3 : w76.cell? ⟨gb278, 3, none⟩ = some (.int .i64 0) := (blk_cell BK278.out 3).trans rfl; have hfz79_0 := blk_frozen BK278.out 0; have hfz79_1 := blk_frozen BK278.out 1; have hfz79_2 := blk_frozen BK278.out 2; have hfz79_3 := blk_frozen BK278.out 3) | ((with_reducible refine gate_builtin (b := .append) (xs := #[.tmp 91, .tmp 93]) rfl ?_); (try (refine gate_guard (by rfl) ?_; dsimp only)); at_builtin; refine Kd.R_append k23 (w0 := w) w.heap.size rfl (.tmp 91) (.tmp 93) 42 23 (.agg #[(.int .i64 0), (.int .i64 0), (.int .i64 0), (.int .i64 0)]) 32 rfl Try.underlying42 info23 rfl (by decide) (by omega) u11 x11_2 (⟨t273, t274, t275, t276⟩ : S23) [.int .i64 t273, .int .i64 t274, .int .i64 t275, .int .i64 t276] (fun k_ => some k_ ≠ (u12 : Value).ownBlock ∧ k_ ≠ gb246 ∧ k_ ≠ gb252 ∧ k_ ≠ gb278) (fun _ => False) rfl (by first | (go_simp; done) | (go_simp; rfl)) ?aP (fun _ hk => hk.elim) ?aF ?aO ?aB ?aS ?aL ?_; (case aP => exact k23_mkM _ _ _ (⟨t273, t274, t275, t276⟩ : S23)); (case aB => exact (by repeat (first | (with_reducible first | exact HB.out | apply below_alloc | apply pw_below_drewN | apply below_drew1 | refine below_set ?_ GE246.out | refine below_set ?_ GE252.out | refine below_set ?_ GE278.out) | exact HB.out))); (case aF => exact (fun k_ hk => ⟨Kd.fresh' (Kd.R_lt (by (with_reducible repeat (first | apply Kd.R_alloc | apply Kd.R_drewN | apply Kd.R_drew)); exact (Kd.R_mono (Kd.R_far (p := ⟨gb278, 3, none⟩) (Kd.R_far (p := ⟨gb278, 2, none⟩) (Kd.R_far (p := ⟨gb278, 1, none⟩) (Kd.R_far (p := ⟨gb278, 0, none⟩) (Kd.R_mono HO_12.out (fun k_ hk => (⟨hk, hk.2⟩ : _ ∧ k_ ≠ gb278))) (fun _ hk => hk.2) (.int .i64 t273)) (fun _ hk => hk.2) (.int .i64 t274)) (fun _ hk => hk.2) (.int .i64 t275)) (fun _ hk => hk.2) (.int .i64 t276)) (fun _ h_ => h_.1)))) k_ hk, Kd.freshB (g := gb246) (o := .cells #[.int .i64 a0_0, .int .i64 a0_1, .int .i64 a0_2, .int .i64 a0_3] 23 (0, 0)) (by (with_reducible repeat (first | refine blk_drewN ?_ _ | refine blk_drew ?_ | refine blk_alloc ?_ _)); refine blk_far ?_ NB246_278.out _; (with_reducible repeat (first | refine blk_drewN ?_ _ | refine blk_drew ?_ | refine blk_alloc ?_ _)); refine blk_far ?_ NB246_278.out _; (with_reducible repeat (first | refine blk_drewN ?_ _ | refine blk_drew ?_ | refine blk_alloc ?_ _)); refine blk_far ?_ NB246_278.out _; (with_reducible repeat (first | refine blk_drewN ?_ _ | refine blk_drew ?_ | refine blk_alloc ?_ _)); refine blk_far ?_ NB246_278.out _; (with_reducible repeat (first | refine blk_drewN ?_ _ | refine blk_drew ?_ | refine blk_alloc ?_ _)); exact BK246.out) k_ hk, Kd.freshB (g := gb252) (o := .cells #[.int .i64 t247, .int .i64 t248, .int .i64 t249, .int .i64 t250] 23 (0, 0)) (by (with_reducible repeat (first | refine blk_drewN ?_ _ | refine blk_drew ?_ | refine blk_alloc ?_ _)); refine blk_far ?_ NB252_278.out _; (with_reducible repeat (first | refine blk_drewN ?_ _ | refine blk_drew ?_ | refine blk_alloc ?_ _)); refine blk_far ?_ NB252_278.out _; (with_reducible repeat (first | refine blk_drewN ?_ _ | refine blk_drew ?_ | refine blk_alloc ?_ _)); refine blk_far ?_ NB252_278.out _; (with_reducible repeat (first | refine blk_drewN ?_ _ | refine blk_drew ?_ | refine blk_alloc ?_ _)); refine blk_far ?_ NB252_278.out _; (with_reducible repeat (first | refine blk_drewN ?_ _ | refine blk_drew ?_ | refine blk_alloc ?_ _)); exact BK252.out) k_ hk, Kd.freshB (g := gb278) (o := .cells #[.int .i64 t273, .int .i64 t274, .int .i64 t275, .int .i64 t276] 23 (0, 0)) (by (with_reducible repeat (first | refine blk_drewN ?_ _ | refine blk_drew ?_ | refine blk_alloc ?_ _)); refine blk_put (cs := #[.int .i64 t273, .int .i64 t274, .int .i64 t275, .int .i64 0]) ?_ 3 _ rfl; (with_reducible repeat (first | refine blk_drewN ?_ _ | refine blk_drew ?_ | refine blk_alloc ?_ _)); refine blk_put (cs := #[.int .i64 t273, .int .i64 t274, .int .i64 0, .int .i64 0]) ?_ 2 _ rfl; (with_reducible repeat (first | refine blk_drewN ?_ _ | refine blk_drew ?_ | refine blk_alloc ?_ _)); refine blk_put (cs := #[.int .i64 t273, .int .i64 0, .int .i64 0, .int .i64 0]) ?_ 1 _ rfl; (with_reducible repeat (first | refine blk_drewN ?_ _ | refine blk_drew ?_ | refine blk_alloc ?_ _)); refine blk_put (cs := #[.int .i64 0, .int .i64 0, .int .i64 0, .int .i64 0]) ?_ 0 _ rfl; (with_reducible repeat (first | refine blk_drewN ?_ _ | refine blk_drew ?_ | refine blk_alloc ?_ _)); exact BK278.out) k_ hk⟩)); (case aO => exact (by (with_reducible repeat (first | apply Kd.R_alloc | apply Kd.R_drewN | apply Kd.R_drew)); exact Kd.R_mono (Kd.R_far (p := ⟨gb278, 3, none⟩) (Kd.R_far (p := ⟨gb278, 2, none⟩) (Kd.R_far (p := ⟨gb278, 1, none⟩) (Kd.R_far (p := ⟨gb278, 0, none⟩) (Kd.R_mono HO_11.out (fun k_ hk => (⟨hk, hk.2⟩ : _ ∧ k_ ≠ gb278))) (fun _ hk => hk.2) (.int .i64 t273)) (fun _ hk => hk.2) (.int .i64 t274)) (fun _ hk => hk.2) (.int .i64 t275)) (fun _ hk => hk.2) (.int .i64 t276)) (fun _ hk => ⟨hk.1.1.1, ⟨hk.1.1.2.1, ⟨hk.1.1.2.2, hk.1.2⟩⟩⟩))); (case aS => exact (below_size (by repeat (first | (with_reducible first | exact HB.out | apply below_alloc | apply pw_below_drewN | apply below_drew1 | refine below_set ?_ GE246.out | refine below_set ?_ GE252.out | refine below_set ?_ GE278.out) | exact HB.out)))); (case aL => have := LMc72.out; omega); intro v280 w80 ho hb hg hat; rw [← Ny279.out] at ho; have n0_ := Aside0.mk (Kd.R_after (ok := (fun k_ => k_ ≠ gb246 ∧ k_ ≠ gb252 ∧ k_ ≠ gb278)) (by (with_reducible repeat (first | apply Kd.R_alloc | apply Kd.R_drewN | apply Kd.R_drew)); exact Kd.R_mono (Kd.R_far (p := ⟨gb278, 3, none⟩) (Kd.R_far (p := ⟨gb278, 2, none⟩) (Kd.R_far (p := ⟨gb278, 1, none⟩) (Kd.R_far (p := ⟨gb278, 0, none⟩) (Kd.R_mono HO_12.out (fun k_ hk => (⟨hk, hk.2⟩ : _ ∧ k_ ≠ gb278))) (fun _ hk => hk.2) (.int .i64 t273)) (fun _ hk => hk.2) (.int .i64 t274)) (fun _ hk => hk.2) (.int .i64 t275)) (fun _ hk => hk.2) (.int .i64 t276)) (fun _ hk => ⟨⟨hk.1.1.2.1, ⟨hk.1.1.2.2, hk.1.2⟩⟩, hk.1.1.1⟩)) hg hat); have n1_ := Aside0.mk (blk_grown (g := gb246) (o := .cells #[.int .i64 a0_0, .int .i64 a0_1, .int .i64 a0_2, .int .i64 a0_3] 23 (0, 0)) (by (with_reducible repeat (first | refine blk_drewN ?_ _ | refine blk_drew ?_ | refine blk_alloc ?_ _)); refine blk_far ?_ NB246_278.out _; (with_reducible repeat (first | refine blk_drewN ?_ _ | refine blk_drew ?_ | refine blk_alloc ?_ _)); refine blk_far ?_ NB246_278.out _; (with_reducible repeat (first | refine blk_drewN ?_ _ | refine blk_drew ?_ | refine blk_alloc ?_ _)); refine blk_far ?_ NB246_278.out _; (with_reducible repeat (first | refine blk_drewN ?_ _ | refine blk_drew ?_ | refine blk_alloc ?_ _)); refine blk_far ?_ NB246_278.out _; (with_reducible repeat (first | refine blk_drewN ?_ _ | refine blk_drew ?_ | refine blk_alloc ?_ _)); exact BK246.out) hg (Kd.R_away HO_11.out (fun _ hk => hk.1.2.1))); have n2_ := Aside0.mk (blk_grown (g := gb252) (o := .cells #[.int .i64 t247, .int .i64 t248, .int .i64 t249, .int .i64 t250] 23 (0, 0)) (by (with_reducible repeat (first | refine blk_drewN ?_ _ | refine blk_drew ?_ | refine blk_alloc ?_ _)); refine blk_far ?_ NB252_278.out _; (with_reducible repeat (first | refine blk_drewN ?_ _ | refine blk_drew ?_ | refine blk_alloc ?_ _)); refine blk_far ?_ NB252_278.out _; (with_reducible repeat (first | refine blk_drewN ?_ _ | refine blk_drew ?_ | refine blk_alloc ?_ _)); refine blk_far ?_ NB252_278.out _; (with_reducible repeat (first | refine blk_drewN ?_ _ | refine blk_drew ?_ | refine blk_alloc ?_ _)); refine blk_far ?_ NB252_278.out _; (with_reducible repeat (first | refine blk_drewN ?_ _ | refine blk_drew ?_ | refine blk_alloc ?_ _)); exact BK252.out) hg (Kd.R_away HO_11.out (fun _ hk => hk.1.2.2))); have n3_ := Aside0.mk (blk_grown (g := gb278) (o := .cells #[.int .i64 t273, .int .i64 t274, .int .i64 t275, .int .i64 t276] 23 (0, 0)) (by (with_reducible repeat (first | refine blk_drewN ?_ _ | refine blk_drew ?_ | refine blk_alloc ?_ _)); refine blk_put (cs := #[.int .i64 t273, .int .i64 t274, .int .i64 t275, .int .i64 0]) ?_ 3 _ rfl; (with_reducible repeat (first | refine blk_drewN ?_ _ | refine blk_drew ?_ | refine blk_alloc ?_ _)); refine blk_put (cs := #[.int .i64 t273, .int .i64 t274, .int .i64 0, .int .i64 0]) ?_ 2 _ rfl; (with_reducible repeat (first | refine blk_drewN ?_ _ | refine blk_drew ?_ | refine blk_alloc ?_ _)); refine blk_put (cs := #[.int .i64 t273, .int .i64 0, .int .i64 0, .int .i64 0]) ?_ 1 _ rfl; (with_reducible repeat (first | refine blk_drewN ?_ _ | refine blk_drew ?_ | refine blk_alloc ?_ _)); refine blk_put (cs := #[.int .i64 0, .int .i64 0, .int .i64 0, .int .i64 0]) ?_ 0 _ rfl; (with_reducible repeat (first | refine blk_drewN ?_ _ | refine blk_drew ?_ | refine blk_alloc ?_ _)); exact BK278.out) hg (Kd.R_away HO_11.out (fun _ hk => hk.2))); have n4_ := Aside0.mk (hb); have n5_ := Aside0.mk (ho); clear HO_12; clear BK246; clear BK252; clear BK278; clear HB; clear HO_11; have HO_12 := n0_; have BK246 := n1_; have BK252 := n2_; have BK278 := n3_; have HB := n4_; have HO281 := n5_; clear n0_ n1_ n2_ n3_ n4_ n5_; clear ho hb hg hat))
             go_roundg k2
             case measure => have := HJ4.out; have := HK2.out; omega
             case rel => exact ⟨(y279), (x12_2), (wrap64 (x13_2 + (rd l2 x42_2))), (wrap64 (x42_2 + 1)), (by first | rfl | (simp; done) | (simp [*]; done)), (by first | rfl | (simp; done) | (simp [*]; done)), H', ⟨by have := HJ4.out; have := HK2.out; omega⟩, ⟨by (with_reducible repeat (first | apply Kd.R_alloc | apply Kd.R_drewN | apply Kd.R_drew)); exact Kd.R_mono HO281.out (fun _ hk => ⟨hk.1, ⟨hk.2.1, hk.2.2.1⟩⟩)⟩, ⟨by (with_reducible repeat (first | apply Kd.R_alloc | apply Kd.R_drewN | apply Kd.R_drew)); exact Kd.R_mono HO_12.out (fun _ hk => ⟨hk.2, ⟨hk.1.1, hk.1.2.1⟩⟩)⟩, ⟨by (with_reducible repeat (first | refine blk_drewN ?_ _ | refine blk_drew ?_ | refine blk_alloc ?_ _)); exact BK246.out⟩, ⟨by (with_reducible repeat (first | refine blk_drewN ?_ _ | refine blk_drew ?_ | refine blk_alloc ?_ _)); exact BK252.out⟩, ⟨by repeat (first | (with_reducible first | exact HB.out | apply below_alloc | apply pw_below_drewN | apply below_drew1 | refine below_set ?_ GE246.out | refine below_set ?_ GE252.out | refine below_set ?_ GE278.out) | exact HB.out)⟩⟩
            ·rw [if_neg c72] at H
             exact absurd H (by simp)
        ·rw [if_neg c26] at H
         exact absurd H (by simp)
       ·rw [if_neg c25] at H
        exact absurd H (by simp)
      ·rw [if_neg c24] at H
       have c24b0 : decide (x42_2 < (l2.length : Int)) = false := decide_eq_false c24
       clear c24
       by_cases c81 : x13_2 = (wrap64 (t247 + t249))
       ·rw [if_pos c81] at H
        have c81b0 : (x13_2 == (wrap64 (t247 + t249))) = true := beq_iff_eq.mpr c81
        have c81b1 : (x13_2 != (wrap64 (t247 + t249))) = false := bne_eq_false_iff_eq.mpr c81
        clear c81
        simp only [Option.some.injEq, Prod.mk.injEq] at H
        obtain ⟨rfl, rfl, rfl⟩ := H
        have hnb82 := NB252_246.out
        have hnc82 := NB246_252.out
        have hcz83_0 : wr.cell? ⟨gb252, 0, none⟩ = some (.int .i64 t247) := (blk_cell BK252.out 0).trans rfl
        have hcz83_1 : wr.cell? ⟨gb252, 1, none⟩ = some (.int .i64 t248) := (blk_cell BK252.out 1).trans rfl
        have hcz83_2 : wr.cell? ⟨gb252, 2, none⟩ = some (.int .i64 t249) := (blk_cell BK252.out 2).trans rfl
        have hcz83_3 : wr.cell? ⟨gb252, 3, none⟩ = some (.int .i64 t250) := (blk_cell BK252.out 3).trans rfl
        have hfz83_0 := blk_frozen BK252.out 0
        have hfz83_1 := blk_frozen BK252.out 1
        have hfz83_2 := blk_frozen BK252.out 2
        have hfz83_3 := blk_frozen BK252.out 3
        go_wp2
        go_ret3
        exact ⟨_, _, by first | rfl | (simp [errW_none, errW_some] <;> rfl) | (simp [*, errW_none, errW_some] <;> rfl), by (with_reducible repeat (first | apply Kd.R_alloc | apply Kd.R_drewN | apply Kd.R_drew)); exact Kd.R_mono HO_11.out (fun _ hk => hk.1), by (with_reducible repeat (first | apply Kd.R_alloc | apply Kd.R_drewN | apply Kd.R_drew)); exact Kd.R_mono HO_12.out (fun _ hk => hk.1), by repeat (first | (with_reducible first | exact HB.out | apply below_alloc | apply pw_below_drewN | apply below_drew1 | refine below_set ?_ GE246.out | refine below_set ?_ GE252.out) | exact HB.out)⟩
       ·rw [if_neg c81] at H
        have c81b0 : (x13_2 == (wrap64 (t247 + t249))) = false := beq_eq_false_iff_ne.mpr c81
        have c81b1 : (x13_2 != (wrap64 (t247 + t249))) = true := bne_iff_ne.mpr c81
        simp only [Option.some.injEq, Prod.mk.injEq] at H
        obtain ⟨rfl, rfl, rfl⟩ := H
        have hnb84 := NB252_246.out
        have hnc84 := NB246_252.out
        have hcz85_0 : wr.cell? ⟨gb252, 0, none⟩ = some (.int .i64 t247) := (blk_cell BK252.out 0).trans rfl
        have hcz85_1 : wr.cell? ⟨gb252, 1, none⟩ = some (.int .i64 t248) := (blk_cell BK252.out 1).trans rfl
        have hcz85_2 : wr.cell? ⟨gb252, 2, none⟩ = some (.int .i64 t249) := (blk_cell BK252.out 2).trans rfl
        have hcz85_3 : wr.cell? ⟨gb252, 3, none⟩ = some (.int .i64 t250) := (blk_cell BK252.out 3).trans rfl
        have hfz85_0 := blk_frozen BK252.out 0
        have hfz85_1 := blk_frozen BK252.out 1
        have hfz85_2 := blk_frozen BK252.out 2
        have hfz85_3 := blk_frozen BK252.out 3
        go_wp2
        go_ret3
        exact ⟨_, _, by first | rfl | (simp [errW_none, errW_some] <;> rfl) | (simp [*, errW_none, errW_some] <;> rfl), by first | exact Kd.R_nil _ _ _ _ _ | exact Kd.N_nil _ _ _ _ _ | exact Kd.V_nil _ _ _ _ _ | exact Kd.Q_nil _ _ _ _ _ | exact Kd.S_nil _ _ _ _ _, by first | exact Kd.R_nil _ _ _ _ _ | exact Kd.N_nil _ _ _ _ _ | exact Kd.V_nil _ _ _ _ _ | exact Kd.Q_nil _ _ _ _ _ | exact Kd.S_nil _ _ _ _ _, by repeat (first | (with_reducible first | exact HB.out | apply below_alloc | apply pw_below_drewN | apply below_drew1 | refine below_set ?_ GE246.out | refine below_set ?_ GE252.out) | exact HB.out)⟩

end Go.Proofs.Ytfdmfgaiblfbhaa.P
namespace Go.Proofs.Ytfdmfgaiblfbhaa.P
open Go.RowKit Go.Proofs.YtfdmfgaiblfbhaaW.PrintWords Go.Proofs.YtfdmfgaiblfbhaaW.PrintLast Go.Proofs.YtfdmfgaiblfbhaaW.PrintMore
attribute [local go_sem] max2_int min2_int max_two min_two max_three min_three max_four min_four   -- for this text's walks alone
set_option linter.unusedVariables false
set_option linter.unusedSimpArgs false

attribute [local go_sem high] eqA23
/-! ### sashlaw04_awake: function 44 -/
def sashlaw04_awake.f (k : Nat)  : Option (Bool) := (rect_Cut.f k 0 0 80 24 1 (([40, 39] : List Int))).bind fun bt285 => (if bt285.2.2 = true then (if (bt285.1.length : Int) = 2 then (if 1 < (bt285.1.length : Int) then (if (((rd_T23 bt285.1 1).f0) == 41 && (((rd_T23 bt285.1 1).f1) == 0 && (((rd_T23 bt285.1 1).f2) == 39 && (((rd_T23 bt285.1 1).f3) == 24)))) = true then (if (bt285.2.1.length : Int) = 1 then (if 0 < (bt285.2.1.length : Int) then (some (((rd_T23 bt285.2.1 0).f0) == 40 && (((rd_T23 bt285.2.1 0).f1) == 0 && (((rd_T23 bt285.2.1 0).f2) == 1 && (((rd_T23 bt285.2.1 0).f3) == 24))))) else (none)) else (some false)) else (some false)) else (none)) else (some false)) else (some false))
theorem sashlaw04_awake.mono : ∀ k, LeO (sashlaw04_awake.f k ) (sashlaw04_awake.f (k + 1) ) := by
 intro  k
 unfold sashlaw04_awake.f
 repeat' first
   | (with_reducible exact rect_Cut.mono _ _ _ _ _ _ _)
   | (with_reducible exact LeO.refl _)
   | (with_reducible exact LeO.none _)
   | (with_reducible refine LeO.ite ?_ ?_)
   | (with_reducible refine LeO.bind ?_ (fun _ => ?_))
   | exact rect_Cut.mono _ _ _ _ _ _ _
   | exact LeO.none _
   | refine LeO.ite ?_ ?_
   | refine LeO.bind ?_ (fun _ => ?_)
end Go.Proofs.Ytfdmfgaiblfbhaa.P
namespace Go.Proofs.Ytfdmfgaiblfbhaa.P
open Go.RowKit Go.Proofs.YtfdmfgaiblfbhaaW.PrintWords Go.Proofs.YtfdmfgaiblfbhaaW.PrintLast Go.Proofs.YtfdmfgaiblfbhaaW.PrintMore
attribute [local go_sem] max2_int min2_int max_two min_two max_three min_three max_four min_four   -- for this text's walks alone
set_option linter.unusedVariables false
set_option linter.unusedSimpArgs false

/-! ### sashref04_May: function 57 -/
def sashref04_May.f (a0_0 : Int) (a0_1 : Int) (a0_2 : Int) (a0_3 : Int) : Option (Bool) := if a0_0 < 0 then (some false) else (if a0_0 > 10000 then (some false) else (if a0_1 < 0 then (some false) else (if a0_1 > 10000 then (some false) else (if a0_2 > 0 then (if a0_2 ≤ 10000 then (if a0_3 > 0 then (if a0_3 ≤ 10000 then (if (wrap64 (a0_0 + a0_2)) ≤ 10000 then (some (decide ((wrap64 (a0_1 + a0_3)) ≤ 10000))) else (some false)) else (some false)) else (some false)) else (some false)) else (some false)))))
end Go.Proofs.Ytfdmfgaiblfbhaa.P
/- May a rectangle be: plain words. -/
namespace Go.Proofs.Ytfdmfgaiblfbhaa.P
open Go.RowKit Go.Proofs.YtfdmfgaiblfbhaaW.PrintWords Go.Proofs.YtfdmfgaiblfbhaaW.PrintLast Go.Proofs.YtfdmfgaiblfbhaaW.PrintMore

theorem wq {x : Int} (h0 : -9223372036854775808 ≤ x) (h1 : x ≤ 9223372036854775807) : wrap64 x = x := by unfold wrap64; omega
theorem ev_pos {α : Type} {c : Prop} [Decidable c] {g f : Nat → Option α} {r : α} (hc : c) (h : Ev g r) : Ev (fun k => if c then g k else f k) r := by simp only [if_pos hc]; exact h
theorem ev_neg {α : Type} {c : Prop} [Decidable c] {g f : Nat → Option α} {r : α} (hc : ¬c) (h : Ev f r) : Ev (fun k => if c then g k else f k) r := by simp only [if_neg hc]; exact h
theorem ev_some {α : Type} {g : Nat → Option α} {r : α} (h : ∀ k, g k = some r) : Ev g r := ⟨0, fun k _ => h k⟩
theorem rd_in (pre : List Int) (p : Int) (rest : List Int) : rd (pre ++ p :: rest) (pre.length : Int) = p := by
  simp [rd, List.getD_eq_getElem?_getD]

/-- May a rectangle be? -/
def mayB (X Y W H : Int) : Bool := decide (0 ≤ X ∧ 1 ≤ W ∧ W ≤ 10000 ∧ X + W ≤ 10000 ∧ 0 ≤ Y ∧ 1 ≤ H ∧ H ≤ 10000 ∧ Y + H ≤ 10000)
theorem may_iff {X Y W H : Int} : mayB X Y W H = true ↔ (0 ≤ X ∧ 1 ≤ W ∧ W ≤ 10000 ∧ X + W ≤ 10000 ∧ 0 ≤ Y ∧ 1 ≤ H ∧ H ≤ 10000 ∧ Y + H ≤ 10000) := by unfold mayB; rw [decide_eq_true_iff]
theorem may_some (X Y W H : Int) : rect_may.f X Y W H = some (mayB X Y W H) := by
  unfold rect_may.f mayB
  by_cases h1 : X ≥ 0
  · by_cases h2 : W ≥ 1
    · by_cases h3 : W ≤ 10000
      · rw [if_pos h1, if_pos h2, if_pos h3, wq (x := 10000 - W) (by omega) (by omega)]
        by_cases h4 : X ≤ 10000 - W
        · rw [if_pos h4]
          by_cases h5 : Y ≥ 0
          · by_cases h6 : H ≥ 1
            · by_cases h7 : H ≤ 10000
              · rw [if_pos h5, if_pos h6, if_pos h7, wq (x := 10000 - H) (by omega) (by omega)]
                congr 1
                rw [decide_eq_decide]
                omega
              · rw [if_pos h5, if_pos h6, if_neg h7, decide_eq_false (by omega)]
            · rw [if_pos h5, if_neg h6, decide_eq_false (by omega)]
          · rw [if_neg h5, decide_eq_false (by omega)]
        · rw [if_neg h4, decide_eq_false (by omega)]
      · rw [if_pos h1, if_pos h2, if_neg h3, decide_eq_false (by omega)]
    · rw [if_pos h1, if_neg h2, decide_eq_false (by omega)]
  · rw [if_neg h1, decide_eq_false (by omega)]
theorem refmay_some (X Y W H : Int) : sashref04_May.f X Y W H = some (mayB X Y W H) := by
  unfold sashref04_May.f mayB
  by_cases h1 : X < 0
  · rw [if_pos h1, decide_eq_false (by omega)]
  · rw [if_neg h1]
    by_cases h2 : X > 10000
    · rw [if_pos h2, decide_eq_false (by omega)]
    · rw [if_neg h2]
      by_cases h3 : Y < 0
      · rw [if_pos h3, decide_eq_false (by omega)]
      · rw [if_neg h3]
        by_cases h4 : Y > 10000
        · rw [if_pos h4, decide_eq_false (by omega)]
        · rw [if_neg h4]
          by_cases h5 : W > 0
          · by_cases h6 : W ≤ 10000
            · by_cases h7 : H > 0
              · by_cases h8 : H ≤ 10000
                · rw [if_pos h5, if_pos h6, if_pos h7, if_pos h8, wq (x := X + W) (by omega) (by omega), wq (x := Y + H) (by omega) (by omega)]
                  by_cases h9 : X + W ≤ 10000
                  · rw [if_pos h9]
                    congr 1
                    rw [decide_eq_decide]
                    omega
                  · rw [if_neg h9, decide_eq_false (by omega)]
                · rw [if_pos h5, if_pos h6, if_pos h7, if_neg h8, decide_eq_false (by omega)]
              · rw [if_pos h5, if_pos h6, if_neg h7, decide_eq_false (by omega)]
            · rw [if_pos h5, if_neg h6, decide_eq_false (by omega)]
          · rw [if_neg h5, decide_eq_false (by omega)]

def mayR (r : S23) : Bool := mayB r.f0 r.f1 r.f2 r.f3
end Go.Proofs.Ytfdmfgaiblfbhaa.P
namespace Go.Proofs.Ytfdmfgaiblfbhaa.P
open Go.RowKit Go.Proofs.YtfdmfgaiblfbhaaW.PrintWords Go.Proofs.YtfdmfgaiblfbhaaW.PrintLast Go.Proofs.YtfdmfgaiblfbhaaW.PrintMore
attribute [local go_sem] max2_int min2_int max_two min_two max_three min_three max_four min_four   -- for this text's walks alone
set_option linter.unusedVariables false
set_option linter.unusedSimpArgs false

/-! ### sashref04_Cut: function 46 -/
mutual
def sashref04_Cut.j0 : Nat → Int → List Int → List (S23) → Bool → Int → Int → Int → Int → Option ((List (S23)) × (List (S23)) × Bool)
 | 0, _, _, _, _, _, _, _, _ => none
 | k + 1, x1, x2, x9, x31, x295000, x295001, x295002, x295003 => if x31 = true then (some (x9, x9, false)) else (if x1 = 2 then (sashref04_Cut.j1 k x1 x2 x9 x295003 x295000 x295001 x295002 x295003) else (sashref04_Cut.j1 k x1 x2 x9 x295002 x295000 x295001 x295002 x295003))
def sashref04_Cut.j1 : Nat → Int → List Int → List (S23) → Int → Int → Int → Int → Int → Option ((List (S23)) × (List (S23)) × Bool)
 | 0, _, _, _, _, _, _, _, _ => none
 | k + 1, x1, x2, x9, x10, x295000, x295001, x295002, x295003 => sashref04_Cut.l0 k x1 x2 x9 x10 (([] : List (S23))) (([] : List (S23))) 0 (x2.length : Int) 0 x295000 x295001 x295002 x295003
def sashref04_Cut.l0 : Nat → Int → List Int → List (S23) → Int → List (S23) → List (S23) → Int → Int → Int → Int → Int → Int → Int → Option ((List (S23)) × (List (S23)) × Bool)
 | 0, _, _, _, _, _, _, _, _, _, _, _, _, _ => none
 | k + 1, x1, x2, x9, x10, x11, x12, x13, x43, x44, x295000, x295001, x295002, x295003 => if x44 < x43 then (if x44 > 0 then (if x1 = 1 then (if x12.length < 4398046511104 then (sashref04_Cut.j3 k x1 x2 x9 x10 x11 (x12 ++ [(⟨wrap64 (x295000 + x13), x295001, 1, x295003⟩ : S23)]) (wrap64 (x13 + 1)) x44 x43 x44 x295000 x295001 x295002 x295003) else (none)) else (if x12.length < 4398046511104 then (sashref04_Cut.j3 k x1 x2 x9 x10 x11 (x12 ++ [(⟨x295000, wrap64 (x295001 + x13), x295002, 1⟩ : S23)]) (wrap64 (x13 + 1)) x44 x43 x44 x295000 x295001 x295002 x295003) else (none))) else (sashref04_Cut.j3 k x1 x2 x9 x10 x11 x12 x13 x44 x43 x44 x295000 x295001 x295002 x295003)) else (if x13 = x10 then (some (x11, x12, true)) else (some (x9, x9, false)))
def sashref04_Cut.j3 : Nat → Int → List Int → List (S23) → Int → List (S23) → List (S23) → Int → Int → Int → Int → Int → Int → Int → Int → Option ((List (S23)) × (List (S23)) × Bool)
 | 0, _, _, _, _, _, _, _, _, _, _, _, _, _, _ => none
 | k + 1, x1, x2, x9, x10, x11, x12, x13, x14, x43, x44, x295000, x295001, x295002, x295003 => if 0 ≤ x14 then (if x14 < (x2.length : Int) then (if (rd x2 x14) < 1 then (sashref04_Cut.j4 k x1 x2 x9 x10 x11 x12 x13 x14 x43 x44 true x295000 x295001 x295002 x295003) else (if (rd x2 x14) > x10 then (sashref04_Cut.j4 k x1 x2 x9 x10 x11 x12 x13 x14 x43 x44 true x295000 x295001 x295002 x295003) else (sashref04_Cut.j4 k x1 x2 x9 x10 x11 x12 x13 x14 x43 x44 (decide ((wrap64 (x13 + (rd x2 x14))) > x10)) x295000 x295001 x295002 x295003))) else (none)) else (none)
def sashref04_Cut.j4 : Nat → Int → List Int → List (S23) → Int → List (S23) → List (S23) → Int → Int → Int → Int → Bool → Int → Int → Int → Int → Option ((List (S23)) × (List (S23)) × Bool)
 | 0, _, _, _, _, _, _, _, _, _, _, _, _, _, _, _ => none
 | k + 1, x1, x2, x9, x10, x11, x12, x13, x14, x43, x44, x99, x295000, x295001, x295002, x295003 => if x99 = true then (some (x9, x9, false)) else (if x1 = 1 then (if 0 ≤ x14 then (if x14 < (x2.length : Int) then (if x11.length < 4398046511104 then (sashref04_Cut.l0 k x1 x2 x9 x10 (x11 ++ [(⟨wrap64 (x295000 + x13), x295001, rd x2 x14, x295003⟩ : S23)]) x12 (wrap64 (x13 + (rd x2 x14))) x43 (wrap64 (x44 + 1)) x295000 x295001 x295002 x295003) else (none)) else (none)) else (none)) else (if 0 ≤ x14 then (if x14 < (x2.length : Int) then (if x11.length < 4398046511104 then (sashref04_Cut.l0 k x1 x2 x9 x10 (x11 ++ [(⟨x295000, wrap64 (x295001 + x13), x295002, rd x2 x14⟩ : S23)]) x12 (wrap64 (x13 + (rd x2 x14))) x43 (wrap64 (x44 + 1)) x295000 x295001 x295002 x295003) else (none)) else (none)) else (none)))
end
def sashref04_Cut.f (k : Nat) (a0_0 : Int) (a0_1 : Int) (a0_2 : Int) (a0_3 : Int) (a1 : Int) (l2 : List Int) : Option ((List (S23)) × (List (S23)) × Bool) := (some (([] : List (S23)) : List (S23))).bind fun y295 => ((sashref04_May.f a0_0 a0_1 a0_2 a0_3).bind fun t298 => (if t298 = true then (if a1 < 1 then (sashref04_Cut.j0 k a1 l2 y295 true a0_0 a0_1 a0_2 a0_3) else (if a1 > 2 then (sashref04_Cut.j0 k a1 l2 y295 true a0_0 a0_1 a0_2 a0_3) else (sashref04_Cut.j0 k a1 l2 y295 ((l2.length : Int) == 0) a0_0 a0_1 a0_2 a0_3))) else (sashref04_Cut.j0 k a1 l2 y295 true a0_0 a0_1 a0_2 a0_3)))
theorem sashref04_Cut.mono_l : ∀ k, (∀ y0 y1 y2 y3 y4 y5 y6 y7, LeO (sashref04_Cut.j0 k y0 y1 y2 y3 y4 y5 y6 y7) (sashref04_Cut.j0 (k + 1) y0 y1 y2 y3 y4 y5 y6 y7)) ∧ (∀ y0 y1 y2 y3 y4 y5 y6 y7, LeO (sashref04_Cut.j1 k y0 y1 y2 y3 y4 y5 y6 y7) (sashref04_Cut.j1 (k + 1) y0 y1 y2 y3 y4 y5 y6 y7)) ∧ (∀ y0 y1 y2 y3 y4 y5 y6 y7 y8 y9 y10 y11 y12, LeO (sashref04_Cut.l0 k y0 y1 y2 y3 y4 y5 y6 y7 y8 y9 y10 y11 y12) (sashref04_Cut.l0 (k + 1) y0 y1 y2 y3 y4 y5 y6 y7 y8 y9 y10 y11 y12)) ∧ (∀ y0 y1 y2 y3 y4 y5 y6 y7 y8 y9 y10 y11 y12 y13, LeO (sashref04_Cut.j3 k y0 y1 y2 y3 y4 y5 y6 y7 y8 y9 y10 y11 y12 y13) (sashref04_Cut.j3 (k + 1) y0 y1 y2 y3 y4 y5 y6 y7 y8 y9 y10 y11 y12 y13)) ∧ (∀ y0 y1 y2 y3 y4 y5 y6 y7 y8 y9 y10 y11 y12 y13 y14, LeO (sashref04_Cut.j4 k y0 y1 y2 y3 y4 y5 y6 y7 y8 y9 y10 y11 y12 y13 y14) (sashref04_Cut.j4 (k + 1) y0 y1 y2 y3 y4 y5 y6 y7 y8 y9 y10 y11 y12 y13 y14))
 | 0 => ⟨fun _ _ _ _ _ _ _ _ r h => by simp [sashref04_Cut.j0] at h, fun _ _ _ _ _ _ _ _ r h => by simp [sashref04_Cut.j1] at h, fun _ _ _ _ _ _ _ _ _ _ _ _ _ r h => by simp [sashref04_Cut.l0] at h, fun _ _ _ _ _ _ _ _ _ _ _ _ _ _ r h => by simp [sashref04_Cut.j3] at h, fun _ _ _ _ _ _ _ _ _ _ _ _ _ _ _ r h => by simp [sashref04_Cut.j4] at h⟩
 | k + 1 => by
  obtain ⟨ih0, ih1, ih2, ih3, ih4⟩ := sashref04_Cut.mono_l k
  refine ⟨?_, ?_, ?_, ?_, ?_⟩
  ·intro y0 y1 y2 y3 y4 y5 y6 y7
   unfold sashref04_Cut.j0
   repeat' first
   | (with_reducible exact ih0 _ _ _ _ _ _ _ _)
   | (with_reducible exact ih1 _ _ _ _ _ _ _ _)
   | (with_reducible exact ih2 _ _ _ _ _ _ _ _ _ _ _ _ _)
   | (with_reducible exact ih3 _ _ _ _ _ _ _ _ _ _ _ _ _ _)
   | (with_reducible exact ih4 _ _ _ _ _ _ _ _ _ _ _ _ _ _ _)
   | (with_reducible exact LeO.refl _)
   | (with_reducible exact LeO.none _)
   | (with_reducible refine LeO.ite ?_ ?_)
   | (with_reducible refine LeO.bind ?_ (fun _ => ?_))
   | exact ih0 _ _ _ _ _ _ _ _
   | exact ih1 _ _ _ _ _ _ _ _
   | exact ih2 _ _ _ _ _ _ _ _ _ _ _ _ _
   | exact ih3 _ _ _ _ _ _ _ _ _ _ _ _ _ _
   | exact ih4 _ _ _ _ _ _ _ _ _ _ _ _ _ _ _
   | exact LeO.none _
   | refine LeO.ite ?_ ?_
   | refine LeO.bind ?_ (fun _ => ?_)
  ·intro y0 y1 y2 y3 y4 y5 y6 y7
   unfold sashref04_Cut.j1
   repeat' first
   | (with_reducible exact ih0 _ _ _ _ _ _ _ _)
   | (with_reducible exact ih1 _ _ _ _ _ _ _ _)
   | (with_reducible exact ih2 _ _ _ _ _ _ _ _ _ _ _ _ _)
   | (with_reducible exact ih3 _ _ _ _ _ _ _ _ _ _ _ _ _ _)
   | (with_reducible exact ih4 _ _ _ _ _ _ _ _ _ _ _ _ _ _ _)
   | (with_reducible exact LeO.refl _)
   | (with_reducible exact LeO.none _)
   | (with_reducible refine LeO.ite ?_ ?_)
   | (with_reducible refine LeO.bind ?_ (fun _ => ?_))
   | exact ih0 _ _ _ _ _ _ _ _
   | exact ih1 _ _ _ _ _ _ _ _
   | exact ih2 _ _ _ _ _ _ _ _ _ _ _ _ _
   | exact ih3 _ _ _ _ _ _ _ _ _ _ _ _ _ _
   | exact ih4 _ _ _ _ _ _ _ _ _ _ _ _ _ _ _
   | exact LeO.none _
   | refine LeO.ite ?_ ?_
   | refine LeO.bind ?_ (fun _ => ?_)
  ·intro y0 y1 y2 y3 y4 y5 y6 y7 y8 y9 y10 y11 y12
   unfold sashref04_Cut.l0
   repeat' first
   | (with_reducible exact ih0 _ _ _ _ _ _ _ _)
   | (with_reducible exact ih1 _ _ _ _ _ _ _ _)
   | (with_reducible exact ih2 _ _ _ _ _ _ _ _ _ _ _ _ _)
   | (with_reducible exact ih3 _ _ _ _ _ _ _ _ _ _ _ _ _ _)
   | (with_reducible exact ih4 _ _ _ _ _ _ _ _ _ _ _ _ _ _ _)
   | (with_reducible exact LeO.refl _)
   | (with_reducible exact LeO.none _)
   | (with_reducible refine LeO.ite ?_ ?_)
   | (with_reducible refine LeO.bind ?_ (fun _ => ?_))
   | exact ih0 _ _ _ _ _ _ _ _
   | exact ih1 _ _ _ _ _ _ _ _
   | exact ih2 _ _ _ _ _ _ _ _ _ _ _ _ _
   | exact ih3 _ _ _ _ _ _ _ _ _ _ _ _ _ _
   | exact ih4 _ _ _ _ _ _ _ _ _ _ _ _ _ _ _
   | exact LeO.none _
   | refine LeO.ite ?_ ?_
   | refine LeO.bind ?_ (fun _ => ?_)
  ·intro y0 y1 y2 y3 y4 y5 y6 y7 y8 y9 y10 y11 y12 y13
   unfold sashref04_Cut.j3
   repeat' first
   | (with_reducible exact ih0 _ _ _ _ _ _ _ _)
   | (with_reducible exact ih1 _ _ _ _ _ _ _ _)
   | (with_reducible exact ih2 _ _ _ _ _ _ _ _ _ _ _ _ _)
   | (with_reducible exact ih3 _ _ _ _ _ _ _ _ _ _ _ _ _ _)
   | (with_reducible exact ih4 _ _ _ _ _ _ _ _ _ _ _ _ _ _ _)
   | (with_reducible exact LeO.refl _)
   | (with_reducible exact LeO.none _)
   | (with_reducible refine LeO.ite ?_ ?_)
   | (with_reducible refine LeO.bind ?_ (fun _ => ?_))
   | exact ih0 _ _ _ _ _ _ _ _
   | exact ih1 _ _ _ _ _ _ _ _
   | exact ih2 _ _ _ _ _ _ _ _ _ _ _ _ _
   | exact ih3 _ _ _ _ _ _ _ _ _ _ _ _ _ _
   | exact ih4 _ _ _ _ _ _ _ _ _ _ _ _ _ _ _
   | exact LeO.none _
   | refine LeO.ite ?_ ?_
   | refine LeO.bind ?_ (fun _ => ?_)
  ·intro y0 y1 y2 y3 y4 y5 y6 y7 y8 y9 y10 y11 y12 y13 y14
   unfold sashref04_Cut.j4
   repeat' first
   | (with_reducible exact ih0 _ _ _ _ _ _ _ _)
   | (with_reducible exact ih1 _ _ _ _ _ _ _ _)
   | (with_reducible exact ih2 _ _ _ _ _ _ _ _ _ _ _ _ _)
   | (with_reducible exact ih3 _ _ _ _ _ _ _ _ _ _ _ _ _ _)
   | (with_reducible exact ih4 _ _ _ _ _ _ _ _ _ _ _ _ _ _ _)
   | (with_reducible exact LeO.refl _)
   | (with_reducible exact LeO.none _)
   | (with_reducible refine LeO.ite ?_ ?_)
   | (with_reducible refine LeO.bind ?_ (fun _ => ?_))
   | exact ih0 _ _ _ _ _ _ _ _
   | exact ih1 _ _ _ _ _ _ _ _
   | exact ih2 _ _ _ _ _ _ _ _ _ _ _ _ _
   | exact ih3 _ _ _ _ _ _ _ _ _ _ _ _ _ _
   | exact ih4 _ _ _ _ _ _ _ _ _ _ _ _ _ _ _
   | exact LeO.none _
   | refine LeO.ite ?_ ?_
   | refine LeO.bind ?_ (fun _ => ?_)
theorem sashref04_Cut.mono : ∀ a0 a1 a2 a3 a4 a5 k, LeO (sashref04_Cut.f k a0 a1 a2 a3 a4 a5) (sashref04_Cut.f (k + 1) a0 a1 a2 a3 a4 a5) := by
 intro a0 a1 a2 a3 a4 a5 k
 obtain ⟨ih0, ih1, ih2, ih3, ih4⟩ := sashref04_Cut.mono_l k
 unfold sashref04_Cut.f
 repeat' first
   | (with_reducible exact ih0 _ _ _ _ _ _ _ _)
   | (with_reducible exact ih1 _ _ _ _ _ _ _ _)
   | (with_reducible exact ih2 _ _ _ _ _ _ _ _ _ _ _ _ _)
   | (with_reducible exact ih3 _ _ _ _ _ _ _ _ _ _ _ _ _ _)
   | (with_reducible exact ih4 _ _ _ _ _ _ _ _ _ _ _ _ _ _ _)
   | (with_reducible exact LeO.refl _)
   | (with_reducible exact LeO.none _)
   | (with_reducible refine LeO.ite ?_ ?_)
   | (with_reducible refine LeO.bind ?_ (fun _ => ?_))
   | exact ih0 _ _ _ _ _ _ _ _
   | exact ih1 _ _ _ _ _ _ _ _
   | exact ih2 _ _ _ _ _ _ _ _ _ _ _ _ _
   | exact ih3 _ _ _ _ _ _ _ _ _ _ _ _ _ _
   | exact ih4 _ _ _ _ _ _ _ _ _ _ _ _ _ _ _
   | exact LeO.none _
   | refine LeO.ite ?_ ?_
   | refine LeO.bind ?_ (fun _ => ?_)
def sashref04_Cut.T20 : Bool × List (List Nat × List Nat) := (true, [([], []), ([], []), ([1], [1]), ([], []), ([2, 3], [2, 3]), ([], []), ([5], [5]), ([], []), ([], []), ([7, 8], [7, 8]), ([9], [9]), ([], []), ([11], [11]), ([4, 6, 10, 12], [4, 6, 10, 12]), ([13], [13]), ([0, 14], [0, 14]), ([15, 15, 0, 1, 2, 3, 4, 5, 6, 7, 8, 9, 10, 11, 12, 13, 14, 15], [0, 15])])
def sashref04_Cut.B20 : List Nat := [0, 0, 2, 0, 14, 0, 32, 0, 0, 384, 896, 0, 2048, 8190, 16382, 32767, 65535]
def sashref04_Cut.T21 : Bool × List (List Nat × List Nat) := (true, [([], []), ([], []), ([1], [1]), ([], []), ([3], [3]), ([], []), ([4, 5], [4, 5]), ([], []), ([7], [7]), ([], []), ([], []), ([9, 10], [9, 10]), ([11], [11]), ([2, 6, 8, 12], [2, 6, 8, 12]), ([13], [13]), ([0, 14], [0, 14]), ([15, 15, 0, 1, 2, 3, 4, 5, 6, 7, 8, 9, 10, 11, 12, 13, 14, 15], [0, 15])])
def sashref04_Cut.B21 : List Nat := [0, 0, 2, 0, 8, 0, 56, 0, 128, 0, 0, 1536, 3584, 8190, 16382, 32767, 65535]
end Go.Proofs.Ytfdmfgaiblfbhaa.P
namespace Go.Proofs.Ytfdmfgaiblfbhaa.P
open Go.RowKit Go.Proofs.YtfdmfgaiblfbhaaW.PrintWords Go.Proofs.YtfdmfgaiblfbhaaW.PrintLast Go.Proofs.YtfdmfgaiblfbhaaW.PrintMore
attribute [local go_sem] max2_int min2_int max_two min_two max_three min_three max_four min_four   -- for this text's walks alone
set_option linter.unusedVariables false
set_option linter.unusedSimpArgs false

attribute [local go_sem high] eqA23
/-! ### sashref04_Same: function 47 -/
def sashref04_Same.l0 : Nat → List (S23) → List (S23) → Int → Int → Option (Bool)
 | 0, _, _, _, _ => none
 | k + 1, x0, x1, x12, x13 => if x13 < x12 then (if 0 ≤ x13 then (if x13 < (x0.length : Int) then (if x13 < (x1.length : Int) then (if (!(((rd_T23 x0 x13).f0) == ((rd_T23 x1 x13).f0)) || (!(((rd_T23 x0 x13).f1) == ((rd_T23 x1 x13).f1)) || (!(((rd_T23 x0 x13).f2) == ((rd_T23 x1 x13).f2)) || (!(((rd_T23 x0 x13).f3) == ((rd_T23 x1 x13).f3)))))) = true then (some false) else (sashref04_Same.l0 k x0 x1 x12 (wrap64 (x13 + 1)))) else (none)) else (none)) else (none)) else (some true)
def sashref04_Same.f (k : Nat) (l0 : List (S23)) (l1 : List (S23)) : Option (Bool) := if (l0.length : Int) = (l1.length : Int) then (sashref04_Same.l0 k l0 l1 (l0.length : Int) 0) else (some false)
end Go.Proofs.Ytfdmfgaiblfbhaa.P
/- How a law's arguments read: cells, rectangles, panes, and rows of these, as plain data. -/
namespace Go.Proofs.Ytfdmfgaiblfbhaa.P
open Go.RowKit Go.Proofs.YtfdmfgaiblfbhaaW.PrintWords Go.Proofs.YtfdmfgaiblfbhaaW.PrintLast Go.Proofs.YtfdmfgaiblfbhaaW.PrintMore
open Go.ChangeShapes Go.WideShapes Go.ChangeAt Go.Joins Go.Deep

/-! ### What is known of the numbers -/
def I64 (n : Int) : Prop := -9223372036854775808 ≤ n ∧ n ≤ 9223372036854775807
def U8 (n : Int) : Prop := 0 ≤ n ∧ n ≤ 255
def U16 (n : Int) : Prop := 0 ≤ n ∧ n ≤ 65535
def wf23 (r : S23) : Prop := I64 r.f0 ∧ I64 r.f1 ∧ I64 r.f2 ∧ I64 r.f3
def wf35 (p : S35) : Prop := I64 p.f0 ∧ wf23 p.f1
def wfn26 : Nat → S26 → Prop
  | 0, _ => False
  | n + 1, c => U8 c.f0 ∧ wf23 c.f1 ∧ I64 c.f2 ∧ c.f3.length ≤ 9223372036854775807 ∧ ∀ k, k ∈ c.f3 → wfn26 n k
def wf26 (c : S26) : Prop := ∃ n, wfn26 n c
theorem wfn26_le : ∀ {n m : Nat} (_ : n ≤ m) {c : S26}, wfn26 n c → wfn26 m c
  | 0, _, _, _, h => h.elim
  | n + 1, 0, hm, _, _ => absurd hm (by omega)
  | n + 1, m + 1, hm, _, h => ⟨h.1, h.2.1, h.2.2.1, h.2.2.2.1, fun k hk => wfn26_le (by omega) (h.2.2.2.2 k hk)⟩

section
variable {H : Type} {enc : TypeId × Value → H} {P : Program} {w : World} {base : Nat} {spare : Nat → Bool} {held : Bool}
theorem row_of {α : Type} {Q : Nat → α → Prop} : ∀ (n : Nat), (∀ i, i < n → ∃ p, Q i p) → ∃ l : List α, l.length = n ∧ ∀ i p, l[i]? = some p → Q i p
  | 0, _ => ⟨[], rfl, fun i p h => by simp at h⟩
  | n + 1, h => by
    obtain ⟨l, hl, hq⟩ := row_of n fun i hi => h i (by omega)
    obtain ⟨p, hp⟩ := h n (by omega)
    refine ⟨l ++ [p], by simp [hl], fun i q hi => ?_⟩
    rcases Nat.lt_trichotomy i n with h1 | h1 | h1
    · rw [List.getElem?_append_left (by omega)] at hi
      exact hq i q hi
    · subst h1
      rw [List.getElem?_append_right (by omega), hl, Nat.sub_self] at hi
      obtain rfl : p = q := by simpa using hi
      exact hp
    · rw [List.getElem?_eq_none (by simp; omega)] at hi
      cases hi
theorem cells_at {a : Addr} {n : Nat} {cs : List Value} (h : w.cells? base a n = some cs) : cs.length = n ∧ ∀ i u, cs[i]? = some u → w.cell? (a.add i) = some u := by
  obtain ⟨_, h1, h2⟩ := World.cells?_some h
  exact ⟨h1, fun i u hi => by
    have hlt : i < n := by rw [← h1]; exact (List.getElem?_eq_some_iff.1 hi).1
    rw [h2 i hlt, hi]⟩

theorem trod_struct4n {t : TypeId} {f0 f1 f2 f3 : Field} {fuel : Nat} {cs : List Value} {x : DataW H × List MemPlace} (ht : P.underlying t = some (.struct #[f0, f1, f2, f3])) (h : DataW.trod enc P w base spare held fuel t cs = some x) :
    ∃ y0 y1 y2 y3 n, fuel = n + 1 ∧ cs.length = P.cellsOf t ∧ DataW.trod enc P w base spare held n f0.type ((cs.drop f0.offset).take (P.cellsOf f0.type)) = some y0 ∧
      DataW.trod enc P w base spare held n f1.type ((cs.drop f1.offset).take (P.cellsOf f1.type)) = some y1 ∧ DataW.trod enc P w base spare held n f2.type ((cs.drop f2.offset).take (P.cellsOf f2.type)) = some y2 ∧
      DataW.trod enc P w base spare held n f3.type ((cs.drop f3.offset).take (P.cellsOf f3.type)) = some y3 := by
  obtain ⟨xs, n, hn, rfl, hl, hlen, hf⟩ := DataW.trod_struct ht h
  match xs, hlen with
  | [y0, y1, y2, y3], _ => exact ⟨y0, y1, y2, y3, n, hn, hl, by simpa using hf 0 f0 rfl, by simpa using hf 1 f1 rfl, by simpa using hf 2 f2 rfl, by simpa using hf 3 f3 rfl⟩
/-- A row whose elements read. -/
theorem open_row {α : Type} {k : Kd α} {ok : α → Prop} {t e : TypeId} {fuel : Nat} {cs : List Value} {x : DataW H × List MemPlace} (ht : P.underlying t = some (.slice e)) (hs : k.sz = P.cellsOf e)
    (hE : ∀ n, n < fuel → ∀ cs y, DataW.trod enc P w base spare held n e cs = some y → ∃ p, k.K w p cs ∧ ok p) (h : DataW.trod enc P w base spare held fuel t cs = some x) :
    ∃ A c l, cs = [.slice A (l : List α).length c] ∧ l.length ≤ c ∧ k.C w A l.length l ∧ ∀ p, p ∈ l → ok p := by
  rcases DataW.trod_slice ht h with ⟨rfl, _⟩ | ⟨a, len, cap, elems, rest, n, hn, rfl, rfl, hb, hl, hm, hlen, hel, hsp, hns⟩
  · exact ⟨none, 0, [], rfl, Nat.le_refl _, ⟨rfl, by simp, fun h => absurd h (by simp)⟩, fun p hp => by cases hp⟩
  · obtain ⟨l, hl2, hq⟩ := row_of (α := α) (Q := fun i p => ok p ∧ ∃ c, c.length = k.sz ∧ k.K w p c ∧ ∀ j u, c[j]? = some u → w.cell? (a.add (i * k.sz + j)) = some u) len (fun i hi => by
      have key := hel i hi
      rw [List.getElem?_eq_getElem (by omega)] at key
      obtain ⟨cs', h1, h2⟩ := Option.bind_eq_some_iff.1 key
      obtain ⟨p, hp, hok⟩ := hE n (by omega) cs' _ h2
      obtain ⟨h3, h4⟩ := cells_at h1
      refine ⟨p, hok, cs', by rw [h3, hs], hp, fun j u hj => ?_⟩
      rw [hs, ← Deep.add_add]
      exact h4 j u hj)
    subst hl2
    refine ⟨some a, cap, l, rfl, hl, ⟨rfl, by unfold maxLen at hm; omega, fun _ => ⟨a, rfl, fun j p hj => ?_⟩⟩, fun p hp => ?_⟩
    · obtain ⟨_, c, h1, h2, h3⟩ := hq j p hj
      exact ⟨c, h1, h2, h3⟩
    · obtain ⟨i, hi, rfl⟩ := List.getElem_of_mem hp
      exact (hq i _ (List.getElem?_eq_getElem hi)).1
end
section
variable {H : Type} {enc : TypeId × Value → H} {w : World} {base : Nat} {spare : Nat → Bool} {held : Bool}
theorem i64_of {n : Int} (h : (Lit.int .i64 n).wf = true) : I64 n := by
  have := bounds_i64 h
  unfold I64
  omega
theorem u8_of {n : Int} (h : (Lit.int .u8 n).wf = true) : U8 n := bounds_u8 h
theorem agg_of {a : Array Value} {l : List Value} (h : (Value.agg a).cells.toList = l) : a = l.toArray := by
  subst h
  simp [Value.cells]
theorem cells23 : Try.prog.cellsOf 23 = 4 := by kernel_rfl
theorem cells26 : Try.prog.cellsOf 26 = 7 := by kernel_rfl
theorem cells3 : Try.prog.cellsOf 3 = 1 := by kernel_rfl
theorem cells5 : Try.prog.cellsOf 5 = 1 := by kernel_rfl
theorem cells24 : Try.prog.cellsOf 24 = 1 := by kernel_rfl
set_option maxRecDepth 100000 in
theorem read23 {fuel : Nat} {cs : List Value} {x : DataW H × List MemPlace} (h : DataW.trod enc Try.prog w base spare held fuel 23 cs = some x) : ∃ r : S23, k23.K w r cs ∧ wf23 r := by
  obtain ⟨y0, y1, y2, y3, n, _, hl, h0, h1, h2, h3⟩ := trod_struct4 Try.underlying23 h
  rw [cells23] at hl
  match cs, hl with
  | [c0, c1, c2, c3], _ =>
    simp only [cells3, List.drop_zero, List.take_succ_cons, List.take_zero, List.drop_succ_cons] at h0 h1 h2 h3
    obtain ⟨n0, e0, _, w0⟩ := DataW.trod_int Try.underlying3 h0
    obtain ⟨n1, e1, _, w1⟩ := DataW.trod_int Try.underlying3 h1
    obtain ⟨n2, e2, _, w2⟩ := DataW.trod_int Try.underlying3 h2
    obtain ⟨n3, e3, _, w3⟩ := DataW.trod_int Try.underlying3 h3
    simp only [List.cons.injEq, and_true] at e0 e1 e2 e3
    subst e0 e1 e2 e3
    exact ⟨⟨n0, n1, n2, n3⟩, k23_mk w ⟨n0, n1, n2, n3⟩, i64_of w0, i64_of w1, i64_of w2, i64_of w3⟩
set_option maxRecDepth 100000 in
theorem read26n : ∀ (fuel : Nat) {cs : List Value} {x : DataW H × List MemPlace} (_ : DataW.trod enc Try.prog w base spare held fuel 26 cs = some x), ∃ r : S26, (Kd.upto F26 7 [26] fuel).K w r cs ∧ wfn26 fuel r := by
  intro fuel
  induction fuel using Nat.strongRecOn with
  | _ fuel ih =>
  intro cs x h
  cases fuel with
  | zero => simp [DataW.trod] at h
  | succ fuel =>
    obtain ⟨y0, y1, y2, y3, m, hm, hl, h0, h1, h2, h3⟩ := trod_struct4n Try.underlying26 h
    obtain rfl : fuel = m := by omega
    rw [cells26] at hl
    match cs, hl with
    | [c0, c1, c2, c3, c4, c5, c6], _ =>
        simp only [cells3, cells5, cells23, cells24, List.drop_zero, List.take_succ_cons, List.take_zero, List.drop_succ_cons] at h0 h1 h2 h3
        obtain ⟨n0, e0, _, w0⟩ := DataW.trod_int Try.underlying5 h0
        obtain ⟨n2, e2, _, w2⟩ := DataW.trod_int Try.underlying3 h2
        simp only [List.cons.injEq, and_true] at e0 e2
        subst e0 e2
        obtain ⟨r, hr, hw⟩ := read23 h1
        obtain e1 := k23_open hr
        simp only [List.cons.injEq, and_true] at e1
        obtain ⟨rfl, rfl, rfl, rfl⟩ := e1
        obtain ⟨A, c, l, e3, hlc, hC, hok⟩ := open_row (k := Kd.upto F26 7 [26] fuel) (ok := wfn26 fuel) Try.underlying24 (by rw [sz26, cells26]) (fun n hn cs y hy => by
          obtain ⟨p, hp, hok⟩ := ih n (by omega) hy
          exact ⟨p, Kd.upto_K_le mono26 sz26 (by omega) hp, wfn26_le (by omega) hok⟩) h3
        simp only [List.cons.injEq, and_true] at e3
        subst e3
        have hlen9 : l.length ≤ 9223372036854775807 := hC.2.1
        refine ⟨⟨n0, r, n2, l⟩, ?_, u8_of w0, hw, i64_of w2, hlen9, hok⟩
        exact ⟨[.int .u8 n0], [.int .i64 r.f0, .int .i64 r.f1, .int .i64 r.f2, .int .i64 r.f3, .int .i64 n2, .slice A l.length c], rfl, rfl, [.int .i64 r.f0, .int .i64 r.f1, .int .i64 r.f2, .int .i64 r.f3], [.int .i64 n2, .slice A l.length c], rfl, k23_mk w r, [.int .i64 n2], [.slice A l.length c], rfl, rfl, A, c, rfl, hlc, hC⟩
theorem read26 {fuel : Nat} {cs : List Value} {x : DataW H × List MemPlace} (h : DataW.trod enc Try.prog w base spare held fuel 26 cs = some x) : ∃ r : S26, k26.K w r cs ∧ wf26 r := by
  obtain ⟨r, hr, hw⟩ := read26n fuel h
  exact ⟨r, ⟨fuel, hr⟩, fuel, hw⟩
end
end Go.Proofs.Ytfdmfgaiblfbhaa.P
/- Plain words on rectangles: whether one may be, what it is cut into: the code's and the reference's alike. -/
namespace Go.Proofs.Ytfdmfgaiblfbhaa.P
open Go.RowKit Go.Proofs.YtfdmfgaiblfbhaaW.PrintWords Go.Proofs.YtfdmfgaiblfbhaaW.PrintLast Go.Proofs.YtfdmfgaiblfbhaaW.PrintMore

/-- A rectangle's axes, turned where it is cut down. -/
def tX (ax X Y : Int) : Int := if ax = 2 then Y else X
theorem turned_some {ax : Int} (h : ax = 1 ∨ ax = 2) (X Y W H : Int) : rect_turned.f X Y W H ax = some (tX ax X Y, tX ax Y X, tX ax W H, tX ax H W, true) := by
  unfold rect_turned.f tX
  rcases h with rfl | rfl
  · rfl
  · rfl

/-- The parts of a rectangle that is cut: the next one stands at off. -/
def cutP (ax X Y W H : Int) : Int → List Int → List S23
  | _, [] => []
  | off, n :: ns => (⟨tX ax (tX ax X Y + off) (tX ax Y X), tX ax (tX ax Y X) (tX ax X Y + off), tX ax n (tX ax H W), tX ax (tX ax H W) n⟩ : S23) :: cutP ax X Y W H (off + n + 1) ns
theorem cut_both (ax X Y W H : Int) (hax : ax = 1 ∨ ax = 2) (hm : mayB X Y W H = true) (sizes : List Int) (hl : sizes.length ≤ 20000) (hne : 0 < sizes.length) :
    ∀ (rest pre : List Int) (off : Int) (parts lines : List S23), pre ++ rest = sizes → 0 ≤ off → off ≤ 10000 → parts.length ≤ 20000 → lines.length ≤ 20000 → parts.length ≤ pre.length → lines.length ≤ pre.length →
    ∃ t : List S23 × List S23 × Bool, (t.1.length ≤ sizes.length ∧ t.2.1.length ≤ sizes.length) ∧ (t.2.2 = true → t.1 = parts ++ cutP ax X Y W H (if pre.length = 0 then off else off + 1) rest ∧ off + rest.sum + (rest.length : Int) - (if pre.length = 0 then 1 else 0) = tX ax W H ∧ ∀ m, m ∈ rest → 1 ≤ m) ∧ Ev (fun k => rect_Cut.l0 k ax parts lines (tX ax X Y + off) sizes (sizes.length : Int) (pre.length : Int) (tX ax X Y) (tX ax Y X) (tX ax W H) (tX ax H W)) t ∧
      Ev (fun k => sashref04_Cut.l0 k ax sizes [] (tX ax W H) parts lines off (sizes.length : Int) (pre.length : Int) X Y W H) t := by
  replace hm := may_iff.1 hm
  have hb : 0 ≤ tX ax X Y ∧ 1 ≤ tX ax W H ∧ tX ax W H ≤ 10000 ∧ tX ax X Y + tX ax W H ≤ 10000 ∧ tX ax X Y ≤ 10000 := by
    unfold tX
    rcases hax with rfl | rfl
    · rw [if_neg (by omega), if_neg (by omega)]; omega
    · rw [if_pos rfl, if_pos rfl]; omega
  obtain ⟨b1, b2, b3, b4, b5⟩ := hb
  intro rest
  induction rest with
  | nil =>
    intro pre off parts lines he h0 h1 hp hq hp2 hq2
    have e : pre = sizes := by simpa using he
    rw [e] at hp2 hq2
    by_cases ho : off = tX ax W H
    · refine ⟨(parts, lines, true), ⟨hp2, hq2⟩, fun _ => ⟨by simp [cutP], by rw [if_neg (by rw [e]; omega)]; simp; omega, fun m hm => by cases hm⟩, Ev.step (fun k => ?_) (Ev.now _), Ev.step (fun k => ?_) (Ev.now _)⟩
      · simp only [rect_Cut.l0]
        rw [if_neg (by rw [e]; omega), wq (by omega) (by omega), if_pos (by omega)]
      · simp only [sashref04_Cut.l0]
        rw [if_neg (by rw [e]; omega), if_pos ho]
    · refine ⟨([], [], false), ⟨by simp, by simp⟩, fun h => absurd h (by simp), Ev.step (fun k => ?_) (Ev.now _), Ev.step (fun k => ?_) (Ev.now _)⟩
      · simp only [rect_Cut.l0]
        rw [if_neg (by rw [e]; omega), wq (by omega) (by omega), if_neg (by omega)]
      · simp only [sashref04_Cut.l0]
        rw [if_neg (by rw [e]; omega), if_neg ho]
  | cons n rest ih =>
    intro pre off parts lines he h0 h1 hp hq hp2 hq2
    have hlen : sizes.length = pre.length + (rest.length + 1) := by rw [← he]; simp
    have hrd : rd sizes (pre.length : Int) = n := by rw [← he]; exact rd_in pre n rest
    have hi : (pre.length : Int) < (sizes.length : Int) := by omega
    have hi0 : (0 : Int) ≤ (pre.length : Int) := by omega
    have hpl : parts.length < 4398046511104 := Nat.lt_of_le_of_lt hp (by decide)
    have hql : lines.length < 4398046511104 := Nat.lt_of_le_of_lt hq (by decide)
    -- behind the line ahead of this part: off', lines'
    have body : ∀ (off' : Int) (lines' : List S23), 0 ≤ off' → off' ≤ 10001 → lines'.length ≤ pre.length + 1 →
        ∃ t : List S23 × List S23 × Bool, (t.1.length ≤ sizes.length ∧ t.2.1.length ≤ sizes.length) ∧ (t.2.2 = true → t.1 = parts ++ cutP ax X Y W H off' (n :: rest) ∧ off' + (n :: rest).sum + (rest.length : Int) = tX ax W H ∧ ∀ m, m ∈ n :: rest → 1 ≤ m) ∧ Ev (fun k => if n < 1 then (some (([] : List S23), ([] : List S23), false)) else (if n > tX ax W H - off' then (some (([] : List S23), ([] : List S23), false)) else
              (rect_Cut.l0 k ax (parts ++ [(⟨tX ax (tX ax X Y + off') (tX ax Y X), tX ax (tX ax Y X) (tX ax X Y + off'), tX ax n (tX ax H W), tX ax (tX ax H W) n⟩ : S23)]) lines' (tX ax X Y + (off' + n)) sizes (sizes.length : Int) ((pre ++ [n]).length : Int) (tX ax X Y) (tX ax Y X) (tX ax W H) (tX ax H W)))) t ∧
          Ev (fun k => sashref04_Cut.j3 k ax sizes [] (tX ax W H) parts lines' off' (pre.length : Int) (sizes.length : Int) (pre.length : Int) X Y W H) t := by
      intro off' lines' g0 g1 g2
      by_cases hn : n < 1
      · refine ⟨([], [], false), ⟨by simp, by simp⟩, fun h => absurd h (by simp), ev_pos hn (Ev.now _), Ev.step (f := fun k => sashref04_Cut.j4 k ax sizes [] (tX ax W H) parts lines' off' (pre.length : Int) (sizes.length : Int) (pre.length : Int) true X Y W H) (fun k => ?_) (Ev.step (fun k => ?_) (Ev.now _))⟩
        · simp only [sashref04_Cut.j3]
          rw [if_pos hi0, if_pos hi, hrd, if_pos hn]
        · simp only [sashref04_Cut.j4]
          rw [if_pos trivial]
      · by_cases hn2 : n > tX ax W H - off'
        · refine ⟨([], [], false), ⟨by simp, by simp⟩, fun h => absurd h (by simp), ev_neg hn (ev_pos hn2 (Ev.now _)), Ev.step (f := fun k => sashref04_Cut.j4 k ax sizes [] (tX ax W H) parts lines' off' (pre.length : Int) (sizes.length : Int) (pre.length : Int) true X Y W H) (fun k => ?_) (Ev.step (fun k => ?_) (Ev.now _))⟩
          · simp only [sashref04_Cut.j3]
            rw [if_pos hi0, if_pos hi, hrd, if_neg hn]
            by_cases hn3 : n > tX ax W H
            · rw [if_pos hn3]
            · rw [if_neg hn3, wq (by omega) (by omega), decide_eq_true (by omega)]
          · simp only [sashref04_Cut.j4]
            rw [if_pos trivial]
        · obtain ⟨t, t0, tg, t1, t2⟩ := ih (pre ++ [n]) (off' + n) (parts ++ [(⟨tX ax (tX ax X Y + off') (tX ax Y X), tX ax (tX ax Y X) (tX ax X Y + off'), tX ax n (tX ax H W), tX ax (tX ax H W) n⟩ : S23)]) lines' (by simp [← he]) (by omega) (by omega) (by simp; omega) (by omega) (by simp; omega) (by simp; omega)
          refine ⟨t, t0, fun h => ?_, ev_neg hn (ev_neg hn2 t1), Ev.step (f := fun k => sashref04_Cut.j4 k ax sizes [] (tX ax W H) parts lines' off' (pre.length : Int) (sizes.length : Int) (pre.length : Int) false X Y W H) (fun k => ?_) (Ev.step (fun k => ?_) t2)⟩
          · obtain ⟨q1, q2, q3⟩ := tg h
            rw [if_neg (by simp)] at q1 q2
            refine ⟨by rw [q1, List.append_assoc]; rfl, by rw [List.sum_cons]; omega, fun m hm => ?_⟩
            rcases List.mem_cons.1 hm with rfl | hm
            · omega
            · exact q3 m hm
          · simp only [sashref04_Cut.j3]
            rw [if_pos hi0, if_pos hi, hrd, if_neg hn, if_neg (by omega), wq (by omega) (by omega), decide_eq_false (by omega)]
          · have hi1 : wrap64 ((pre.length : Int) + 1) = ((pre ++ [n]).length : Int) := by rw [wq (by omega) (by omega)]; simp
            have ho1 : wrap64 (off' + n) = off' + n := wq (by omega) (by omega)
            simp only [sashref04_Cut.j4]
            rw [if_neg (by simp)]
            simp only [if_pos hi0, if_pos hi, if_pos hpl, hrd, hi1, ho1]
            rcases hax with rfl | rfl
            · rw [if_pos rfl, wq (by omega) (by omega)]
              simp [tX]
            · rw [if_neg (by omega), wq (by omega) (by omega)]
              simp [tX]
    by_cases hz : (pre.length : Int) > 0
    · obtain ⟨t, t0, tg, t1, t2⟩ := body (off + 1) (lines ++ [(⟨tX ax (tX ax X Y + off) (tX ax Y X), tX ax (tX ax Y X) (tX ax X Y + off), tX ax 1 (tX ax H W), tX ax (tX ax H W) 1⟩ : S23)]) (by omega) (by omega) (by simp; omega)
      have ho1 : wrap64 (tX ax X Y + off + 1) = tX ax X Y + (off + 1) := by rw [wq (by omega) (by omega)]; omega
      have ho2 : wrap64 (tX ax X Y + tX ax W H) = tX ax X Y + tX ax W H := wq (by omega) (by omega)
      have ho3 : wrap64 (tX ax X Y + tX ax W H - (tX ax X Y + (off + 1))) = tX ax W H - (off + 1) := by rw [wq (by omega) (by omega)]; omega
      have ho4 : wrap64 (off + 1) = off + 1 := wq (by omega) (by omega)
      refine ⟨t, t0, fun h => by obtain ⟨q1, q2, q3⟩ := tg h; rw [if_neg (by omega), if_neg (by omega)]; exact ⟨q1, by rw [List.length_cons]; omega, q3⟩, Ev.step (fun k => ?_) t1, Ev.step (fun k => ?_) t2⟩
      · simp only [rect_Cut.l0]
        rw [if_pos hi, if_pos hi0, if_pos hi, if_pos hz, turned_some hax]
        simp only [Option.bind_some]
        rw [if_pos hql, hrd, ho1, ho2, ho3]
        by_cases hn : n < 1
        · rw [if_pos hn, if_pos hn]
        · rw [if_neg hn, if_neg hn]
          by_cases hn2 : n > tX ax W H - (off + 1)
          · rw [if_pos hn2, if_pos hn2]
          · have hi1 : wrap64 ((pre.length : Int) + 1) = ((pre ++ [n]).length : Int) := by rw [wq (by omega) (by omega)]; simp
            have ho5 : wrap64 (tX ax X Y + (off + 1) + n) = tX ax X Y + (off + 1 + n) := by rw [wq (by omega) (by omega)]; omega
            rw [if_neg hn2, if_neg hn2, turned_some hax]
            simp only [Option.bind_some]
            rw [if_pos hpl, hi1, ho5]
      · simp only [sashref04_Cut.l0]
        rw [if_pos hi, if_pos hz, ho4]
        rcases hax with rfl | rfl
        · rw [if_pos rfl, if_pos hql, wq (by omega) (by omega)]
          simp [tX]
        · rw [if_neg (by omega), if_pos hql, wq (by omega) (by omega)]
          simp [tX]
    · obtain ⟨t, t0, tg, t1, t2⟩ := body off lines h0 (by omega) (by omega)
      have ho2 : wrap64 (tX ax X Y + tX ax W H) = tX ax X Y + tX ax W H := wq (by omega) (by omega)
      have ho3 : wrap64 (tX ax X Y + tX ax W H - (tX ax X Y + off)) = tX ax W H - off := by rw [wq (by omega) (by omega)]; omega
      refine ⟨t, t0, fun h => by obtain ⟨q1, q2, q3⟩ := tg h; rw [if_pos (by omega), if_pos (by omega)]; exact ⟨q1, by rw [List.length_cons]; omega, q3⟩, Ev.step (fun k => ?_) t1, Ev.step (fun k => ?_) t2⟩
      · simp only [rect_Cut.l0]
        rw [if_pos hi, if_pos hi0, if_pos hi, if_neg hz, hrd, ho2, ho3]
        by_cases hn : n < 1
        · rw [if_pos hn, if_pos hn]
        · rw [if_neg hn, if_neg hn]
          by_cases hn2 : n > tX ax W H - off
          · rw [if_pos hn2, if_pos hn2]
          · have hi1 : wrap64 ((pre.length : Int) + 1) = ((pre ++ [n]).length : Int) := by rw [wq (by omega) (by omega)]; simp
            have ho5 : wrap64 (tX ax X Y + off + n) = tX ax X Y + (off + n) := by rw [wq (by omega) (by omega)]; omega
            rw [if_neg hn2, if_neg hn2, turned_some hax]
            simp only [Option.bind_some]
            rw [if_pos hpl, hi1, ho5]
      · simp only [sashref04_Cut.l0]
        rw [if_pos hi, if_neg hz]

/-- Two rows of rectangles, held against each other. -/
theorem rsame_ev (xs : List S23) (hl : xs.length ≤ 9223372036854775807) : Ev (fun k => sashref04_Same.f k xs xs) true := by
  have key : ∀ (d i : Nat), i + d = xs.length → Ev (fun k => sashref04_Same.l0 k xs xs (xs.length : Int) (i : Int)) true := by
    intro d
    induction d with
    | zero =>
      intro i hi
      refine Ev.step (fun k => ?_) (Ev.now _)
      simp only [sashref04_Same.l0]
      rw [if_neg (by omega)]
    | succ d ih =>
      intro i hi
      have c1 : (i : Int) < (xs.length : Int) := by omega
      have c2 : (0 : Int) ≤ (i : Int) := by omega
      have c3 : wrap64 ((i : Int) + 1) = ((i + 1 : Nat) : Int) := by rw [wq (by omega) (by omega)]; omega
      refine Ev.step (fun k => ?_) (ih (i + 1) (by omega))
      simp only [sashref04_Same.l0]
      simp only [if_pos c1, if_pos c2, c3]
      rw [if_neg (by simp)]
  refine Ev.congr (fun k => ?_) (key xs.length 0 (by omega))
  unfold sashref04_Same.f
  rw [if_pos rfl]
  rfl
theorem awake04 : Ev (fun k => sashlaw04_awake.f k) true := Ev.of (k := 30) (fun k => sashlaw04_awake.mono k) (by decide +kernel)
end Go.Proofs.Ytfdmfgaiblfbhaa.P
namespace Go.Proofs.Ytfdmfgaiblfbhaa.P
open Go.RowKit Go.Proofs.YtfdmfgaiblfbhaaW.PrintWords Go.Proofs.YtfdmfgaiblfbhaaW.PrintLast Go.Proofs.YtfdmfgaiblfbhaaW.PrintMore
attribute [local go_sem] max2_int min2_int max_two min_two max_three min_three max_four min_four   -- for this text's walks alone
set_option linter.unusedVariables false
set_option linter.unusedSimpArgs false

/-! ### sashlaw04_RectCuts: function 5 -/
def sashlaw04_RectCuts.f (k : Nat) (a0_0 : Int) (a0_1 : Int) (a0_2 : Int) (a0_3 : Int) (a1 : Int) (l2 : List Int) : Option (Bool) := if (l2.length : Int) > 100 then ((sashlaw04_awake.f k).bind fun t327 => (some t327)) else ((rect_Cut.f k a0_0 a0_1 a0_2 a0_3 a1 l2).bind fun bt328 => ((sashref04_Cut.f k a0_0 a0_1 a0_2 a0_3 a1 l2).bind fun bt335 => (if (bt328.2.2 == bt335.2.2) = true then ((sashref04_Same.f k bt328.1 bt335.1).bind fun t342 => (if t342 = true then ((sashref04_Same.f k bt328.2.1 bt335.2.1).bind fun t343 => (if t343 = true then ((sashlaw04_awake.f k).bind fun t344 => (some t344)) else (some false))) else (some false))) else (some false))))
end Go.Proofs.Ytfdmfgaiblfbhaa.P
/- RectCuts, the plain law: what any rectangle is cut into, or that it can't be, is the reference's. No condition. -/
namespace Go.Proofs.Ytfdmfgaiblfbhaa.Pure
open Go.RowKit Go.Proofs.Ytfdmfgaiblfbhaa.P Go.Proofs.YtfdmfgaiblfbhaaW.PrintWords Go.Proofs.YtfdmfgaiblfbhaaW.PrintLast Go.Proofs.YtfdmfgaiblfbhaaW.PrintMore

/-- Both answer alike; the rows are no longer than the sizes are many. -/
theorem cut_alike (X Y W H ax : Int) (hax : U8 ax) (sizes : List Int) (hl : sizes.length ≤ 20000) : ∃ t : List S23 × List S23 × Bool, (t.1.length ≤ sizes.length ∧ t.2.1.length ≤ sizes.length) ∧ (t.2.2 = true → (ax = 1 ∨ ax = 2) ∧ t.1 = cutP ax X Y W H 0 sizes ∧ sizes.sum + (sizes.length : Int) - 1 = tX ax W H ∧ ∀ m, m ∈ sizes → 1 ≤ m) ∧ Ev (fun k => rect_Cut.f k X Y W H ax sizes) t ∧ Ev (fun k => sashref04_Cut.f k X Y W H ax sizes) t := by
  have no1 : ∀ x y z u : Int, Ev (fun k => rect_Cut.j0 k ax sizes true x y z u) ([], [], false) := fun x y z u => by
    refine Ev.step (fun k => ?_) (Ev.now _)
    simp only [rect_Cut.j0]
    rw [if_pos trivial]
  have no2 : Ev (fun k => sashref04_Cut.j0 k ax sizes [] true X Y W H) ([], [], false) := by
    refine Ev.step (fun k => ?_) (Ev.now _)
    simp only [sashref04_Cut.j0]
    rw [if_pos trivial]
  have e2 : ∀ r, Ev (fun k => if mayB X Y W H = true then (if ax < 1 then (sashref04_Cut.j0 k ax sizes [] true X Y W H) else (if ax > 2 then (sashref04_Cut.j0 k ax sizes [] true X Y W H) else (sashref04_Cut.j0 k ax sizes [] ((sizes.length : Int) == 0) X Y W H))) else (sashref04_Cut.j0 k ax sizes [] true X Y W H)) r → Ev (fun k => sashref04_Cut.f k X Y W H ax sizes) r := fun r h => by
    refine Ev.congr (fun k => ?_) h
    unfold sashref04_Cut.f
    rw [refmay_some]
    rfl
  unfold U8 at hax
  by_cases ha : ax = 1 ∨ ax = 2
  · have e1 : ∀ r, Ev (fun k => if mayB X Y W H = true then (rect_Cut.j0 k ax sizes ((sizes.length : Int) == 0) (tX ax X Y) (tX ax Y X) (tX ax W H) (tX ax H W)) else (rect_Cut.j0 k ax sizes true (tX ax X Y) (tX ax Y X) (tX ax W H) (tX ax H W))) r → Ev (fun k => rect_Cut.f k X Y W H ax sizes) r := fun r h => by
      refine Ev.congr (fun k => ?_) h
      unfold rect_Cut.f
      rw [turned_some ha]
      simp only [Option.bind_some]
      rw [if_pos trivial, may_some]
      rfl
    by_cases hm : mayB X Y W H = true
    · by_cases hs : sizes = []
      · subst hs
        exact ⟨([], [], false), ⟨by simp, by simp⟩, fun h => absurd h (by simp), e1 _ (ev_pos hm (no1 _ _ _ _)), e2 _ (ev_pos hm (ev_neg (by omega) (ev_neg (by omega) no2)))⟩
      · have hpos : 0 < sizes.length := List.length_pos_iff.2 hs
        have hz : ((sizes.length : Int) == 0) = false := by simp; exact hs
        obtain ⟨t, t0, tg, t1, t2⟩ := cut_both ax X Y W H ha hm sizes hl hpos sizes [] 0 [] [] rfl (by omega) (by omega) (by simp) (by simp) (by simp) (by simp)
        refine ⟨t, t0, fun h => by obtain ⟨q1, q2, q3⟩ := tg h; rw [if_pos List.length_nil] at q1 q2; exact ⟨ha, by simpa using q1, by omega, q3⟩, e1 _ (ev_pos hm ?_), e2 _ (ev_pos hm (ev_neg (by omega) (ev_neg (by omega) ?_)))⟩
        · rw [hz]
          refine Ev.step (fun k => ?_) t1
          simp only [rect_Cut.j0]
          rw [if_neg (by simp), Int.add_zero]
          rfl
        · rw [hz]
          refine Ev.step (f := fun k => sashref04_Cut.j1 k ax sizes [] (tX ax W H) X Y W H) (fun k => ?_) (Ev.step (fun k => ?_) t2)
          · simp only [sashref04_Cut.j0]
            rw [if_neg (by simp)]
            rcases ha with rfl | rfl
            · rw [if_neg (by omega)]; rfl
            · rw [if_pos rfl]; rfl
          · simp only [sashref04_Cut.j1]
            rfl
    · exact ⟨([], [], false), ⟨by simp, by simp⟩, fun h => absurd h (by simp), e1 _ (ev_neg hm (no1 _ _ _ _)), e2 _ (ev_neg hm no2)⟩
  · refine ⟨([], [], false), ⟨by simp, by simp⟩, fun h => absurd h (by simp), Ev.congr (f := fun k => rect_Cut.j0 k ax sizes true 0 0 0 0) (fun k => ?_) (no1 _ _ _ _), e2 _ ?_⟩
    · unfold rect_Cut.f rect_turned.f
      rw [if_neg (by omega), if_neg (by omega)]
      rfl
    · by_cases hm : mayB X Y W H = true
      · refine ev_pos hm ?_
        by_cases h1 : ax < 1
        · exact ev_pos h1 no2
        · exact ev_neg h1 (ev_pos (by omega) no2)
      · exact ev_neg hm no2
theorem RectCuts : ∀ (a0 : S23) (a1 : Int) (a2 : List Int), wf23 a0 → U8 a1 → a2.length ≤ 9223372036854775807 → (∀ x, x ∈ a2 → I64 x) → ∃ k, sashlaw04_RectCuts.f k a0.f0 a0.f1 a0.f2 a0.f3 a1 a2 = some true := by
  intro r ax sizes _ hax _ _
  refine Ev.rounds (g := fun k => sashlaw04_RectCuts.f k r.f0 r.f1 r.f2 r.f3 ax sizes) ?_
  have aw : Ev (fun k => (sashlaw04_awake.f k).bind fun t => some t) true := Ev.bind awake04 (Ev.now _)
  unfold sashlaw04_RectCuts.f
  by_cases h : (sizes.length : Int) > 100
  · exact ev_pos h aw
  · refine ev_neg h ?_
    obtain ⟨t, ⟨l1, l2⟩, _, t1, t2⟩ := cut_alike r.f0 r.f1 r.f2 r.f3 ax hax sizes (by omega)
    refine Ev.bind t1 (Ev.bind t2 (ev_pos (by simp) ?_))
    exact Ev.bind (rsame_ev _ (by omega)) (ev_pos rfl (Ev.bind (rsame_ev _ (by omega)) (ev_pos rfl aw)))
end Go.Proofs.Ytfdmfgaiblfbhaa.Pure
/- Two rows, place by place: plain data. -/
namespace Go.Proofs.Ytfdmfgaiblfbhaa.P
open Go.RowKit Go.Proofs.YtfdmfgaiblfbhaaW.PrintWords Go.Proofs.YtfdmfgaiblfbhaaW.PrintLast Go.Proofs.YtfdmfgaiblfbhaaW.PrintMore
def eqL {α β : Type} (r : α → β → Bool) : List α → List β → Bool
  | a :: ta, b :: tb => r a b && eqL r ta tb
  | [], _ => true
  | _ :: _, [] => true
theorem eqL_at {α β : Type} (r : α → β → Bool) (za : α) (zb : β) (la : List α) (lb : List β) (k : Nat) (ha : k < la.length) (hb : k < lb.length) :
    eqL r (la.drop k) (lb.drop k) = (r (la.getD (k : Int).toNat za) (lb.getD (k : Int).toNat zb) && eqL r (la.drop (k + 1)) (lb.drop (k + 1))) := by
  rw [List.drop_eq_getElem_cons ha, List.drop_eq_getElem_cons hb]
  simp only [eqL, Int.toNat_natCast, List.getD_eq_getElem?_getD, List.getElem?_eq_getElem ha, List.getElem?_eq_getElem hb, Option.getD_some]
theorem eqL_nil {α β : Type} (r : α → β → Bool) (lb : List β) : eqL r ([] : List α) lb = true := by cases lb <;> rfl
end Go.Proofs.Ytfdmfgaiblfbhaa.P
/- A store into a block of one's own, as an event: the world behind it is a letter. -/
namespace Go.Proofs.Ytfdmfgaiblfbhaa.P
open Go.RowKit Go.Proofs.YtfdmfgaiblfbhaaW.PrintWords Go.Proofs.YtfdmfgaiblfbhaaW.PrintLast Go.Proofs.YtfdmfgaiblfbhaaW.PrintMore
section
variable {P : Program} {ops : Array Oper} {rest : List Oper} {o : Oper} {a : Act} {Q : Exit → Act → World → Prop}
theorem grown_below {w0 W w1 : World} {g base : Nat} (HB : Below base w0 W) (hg : W.grownBy w1 (some g)) (hbg : base ≤ g) (hs : base ≤ W.heap.size) : Below base w0 w1 := HB.trans ⟨hg.os, hg.tape, hg.output, hg.size, fun k hk => hg.block k (by omega) (fun he => by injection he with he; omega)⟩
/-- What a store into block g leaves. -/
theorem box_cells {W : World} {g j : Nat} {cs cs' : Array Value} {t0 : TypeId} {seg : List Value} (hb : W.heap[g]? = some (.cells cs t0 (0, 0))) (hj : j + seg.length ≤ cs.size) (he : cs.toList.take j ++ seg ++ cs.toList.drop (j + seg.length) = cs'.toList) :
    (W.setCells g j seg).heap[g]? = some (.cells cs' t0 (0, 0)) ∧ W.grownBy (W.setCells g j seg) (some g) := by
  obtain ⟨cur', h3, h4, h5⟩ := setCells_row seg j W cs hb hj
  obtain ⟨s1, s2, s3, s4⟩ := setCells_same g seg j W
  have hc : cur' = cs' := Array.toList_inj.1 (h5.trans he)
  subst hc
  exact ⟨h3, ⟨s1, s2, s3, by rw [s4]; exact Nat.le_refl _, fun k _ hk => setCells_far seg _ k (fun e => hk (by rw [e]))⟩⟩
theorem box_store {W w0 : World} (hN : o.dst = none) (hgd : o.guard = none) (t : TypeId) (p x : Operand) (ho : o.op = .store t p x) {g j base : Nat} {cs : Array Value} (cs' : Array Value) {t0 : TypeId} {u : Value} {seg : List Value}
    (haddr : a.eval p = .pointer (some ⟨g, j, none⟩)) (hx : a.eval x = u) (hu : u.cells.toList = seg) (ht : (P.info? t).map (·.size) = some seg.length) (h1 : ∀ q ∈ seg, q.oneCell' = true)
    (hb : W.heap[g]? = some (.cells cs t0 (0, 0))) (hj : j + seg.length ≤ cs.size) (he : cs.toList.take j ++ seg ++ cs.toList.drop (j + seg.length) = cs'.toList) (HB : Below base w0 W) (hbs : base ≤ W.heap.size) (hbg : base ≤ g)
    (h : ∀ w1, w1.heap[g]? = some (.cells cs' t0 (0, 0)) → Below base w0 w1 → W.grownBy w1 (some g) → wpList P ops Q rest a w1) : wpList P ops Q (o :: rest) a W := by
  obtain ⟨h2, h3⟩ := box_cells hb hj he
  refine wpList_plain hgd fun K hK => ?_
  have hrun := run_store_run (P := P) t u seg hb hu ht hj h1
  unfold Oper.wp execOp
  simp only [ho, haddr, hx, Sem.run_bind, Sem.run_pure, Result.andThen_ok, hrun]
  show K (a.put o.dst undef) _
  rw [hN]
  exact hK a _ (h _ h2 (grown_below HB h3 hbg hbs) h3)
theorem store_exec {W : World} (t : TypeId) (p x : Operand) (ho : o.op = .store t p x) {g j : Nat} {cs : Array Value} {t0 : TypeId} {u : Value} {seg : List Value}
    (haddr : a.eval p = .pointer (some ⟨g, j, none⟩)) (hx : a.eval x = u) (hu : u.cells.toList = seg) (ht : (P.info? t).map (·.size) = some seg.length) (h1 : ∀ q ∈ seg, q.oneCell' = true)
    (hb : W.heap[g]? = some (.cells cs t0 (0, 0))) (hj : j + seg.length ≤ cs.size) : (execOp a.eval o).run P W = .ok .skip (W.setCells g j seg) := by
  have hrun := run_store_run (P := P) t u seg hb hu ht hj h1
  unfold execOp
  simp only [ho, haddr, hx, Sem.run_bind, Sem.run_pure, Result.andThen_ok, hrun]
end
end Go.Proofs.Ytfdmfgaiblfbhaa.P
