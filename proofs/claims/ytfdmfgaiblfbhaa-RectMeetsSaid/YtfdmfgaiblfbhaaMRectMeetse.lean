/- The row of the law RectMeets, out of its plain law and its walk. -/
import Derived.Test.YtfdmfgaiblfbhaaMRectMeetsc
import Derived.Test.YtfdmfgaiblfbhaaMRectMeetsd
import Derived.Test.YtfdmfgaiblfbhaaRows
import Derived.ProofKit
import Derived.WalkKit
import Derived.OpenShut
import Derived.ShutString
import Derived.ChangeOld
import Derived.Below
import Derived.SizedLaws
namespace Go.Proofs.Ytfdmfgaiblfbhaa.P
open Go.RowKit Go.Proofs.YtfdmfgaiblfbhaaW.PrintWords Go.Proofs.YtfdmfgaiblfbhaaW.PrintLast Go.Proofs.YtfdmfgaiblfbhaaW.PrintMore
attribute [local go_sem] max2_int min2_int max_two min_two max_three min_three max_four min_four   -- for this text's walks alone
set_option linter.unusedVariables false
set_option linter.unusedSimpArgs false

/-! ### sashref04_Apart: function 141 -/
def sashref04_Apart.f (a0_0 : Int) (a0_1 : Int) (a0_2 : Int) (a0_3 : Int) (a1_0 : Int) (a1_1 : Int) (a1_2 : Int) (a1_3 : Int) : Option (Bool) := if (wrap64 (a0_0 + a0_2)) ≤ a1_0 then (some true) else (if (wrap64 (a1_0 + a1_2)) ≤ a0_0 then (some true) else (if (wrap64 (a0_1 + a0_3)) ≤ a1_1 then (some true) else (some (decide ((wrap64 (a1_1 + a1_3)) ≤ a0_1)))))
set_option maxHeartbeats 8000000 in
set_option maxRecDepth 100000 in
theorem sashref04_Apart.calls (a0_0 : Int) (a0_1 : Int) (a0_2 : Int) (a0_3 : Int) (a1_0 : Int) (a1_1 : Int) (a1_2 : Int) (a1_3 : Int) (r : Bool) (w : World) (h : sashref04_Apart.f a0_0 a0_1 a0_2 a0_3 a1_0 a1_1 a1_2 a1_3 = some r) :
    Calls Try.prog 141 #[.agg #[.int .i64 a0_0, .int .i64 a0_1, .int .i64 a0_2, .int .i64 a0_3], .agg #[.int .i64 a1_0, .int .i64 a1_1, .int .i64 a1_2, .int .i64 a1_3]] w fun e w' => e = .returned (.bool r) ∧ Below w.heap.size w w' := by
  have hu23 := Try.underlying23
  have HB := Aside0.mk (Below.refl w.heap.size w)
  have H : (if (wrap64 (a0_0 + a0_2)) ≤ a1_0 then (some true) else (if (wrap64 (a1_0 + a1_2)) ≤ a0_0 then (some true) else (if (wrap64 (a0_1 + a0_3)) ≤ a1_1 then (some true) else (some (decide ((wrap64 (a1_1 + a1_3)) ≤ a0_1)))))) = some r := h
  clear h
  by_cases c3 : (wrap64 (a0_0 + a0_2)) ≤ a1_0
  · rw [if_pos c3] at H
    have c3b0 : decide ((wrap64 (a0_0 + a0_2)) ≤ a1_0) = true := decide_eq_true c3
    clear c3
    obtain rfl := Option.some.inj H
    go_enter Try.func141, Try.ntmps141
    go_wp2_with (first | ((with_reducible refine gate_dst (N := 2) rfl ?_); refine box_event ?hg (N := 2) ?hd (cs := #[.int .i64 a0_0, .int .i64 a0_1, .int .i64 a0_2, .int .i64 a0_3]) (t := 23) ?hr ?_; (case hd => rfl); (case hg => rfl); (case hr => first | (go_simp; done) | (go_simp; rfl)); intro gb762 hg w4 hbox hb; have n0_ := Aside0.mk (below_step (by repeat (first | (with_reducible first | exact HB.out | apply below_alloc | apply pw_below_drewN | apply below_drew1) | exact HB.out)) hb); have n1_ := Aside0.mk (hbox); have n2_ := Aside0.mk ((by rw [hg]; exact (below_size (by repeat (first | (with_reducible first | exact HB.out | apply below_alloc | apply pw_below_drewN | apply below_drew1) | exact HB.out))) : w.heap.size ≤ gb762)); have n3_ := Aside0.mk ((by rw [hg]; exact (below_size (by repeat (first | (with_reducible first | exact HB.out | apply below_alloc | apply pw_below_drewN | apply below_drew1) | exact HB.out))) : w.heap.size ≤ gb762)); clear HB; have HB := n0_; have BK762 := n1_; have GW762 := n2_; have GE762 := n3_; clear n0_ n1_ n2_ n3_; clear hb hbox hg) | ((with_reducible refine gate_dst (N := 3) rfl ?_); refine box_event ?hg (N := 3) ?hd (cs := #[.int .i64 a1_0, .int .i64 a1_1, .int .i64 a1_2, .int .i64 a1_3]) (t := 23) ?hr ?_; (case hd => rfl); (case hg => rfl); (case hr => first | (go_simp; done) | (go_simp; rfl)); intro gb763 hg w5 hbox hb; have n0_ := Aside0.mk (blk_below (g := gb762) (o := .cells #[.int .i64 a0_0, .int .i64 a0_1, .int .i64 a0_2, .int .i64 a0_3] 23 (0, 0)) (by (with_reducible repeat (first | refine blk_drewN ?_ _ | refine blk_drew ?_ | refine blk_alloc ?_ _)); exact BK762.out) hb); have n1_ := Aside0.mk (below_step (by repeat (first | (with_reducible first | exact HB.out | apply below_alloc | apply pw_below_drewN | apply below_drew1 | refine below_set ?_ GE762.out) | exact HB.out)) hb); have n2_ := Aside0.mk (hbox); have n3_ := Aside0.mk ((by rw [hg]; exact (below_size (by repeat (first | (with_reducible first | exact HB.out | apply below_alloc | apply pw_below_drewN | apply below_drew1 | refine below_set ?_ GE762.out) | exact HB.out))) : w.heap.size ≤ gb763)); have n4_ := Aside0.mk ((by rw [hg]; exact (below_size (by repeat (first | (with_reducible first | exact HB.out | apply below_alloc | apply pw_below_drewN | apply below_drew1 | refine below_set ?_ GE762.out) | exact HB.out))) : w.heap.size ≤ gb763)); have n5_ := Aside0.mk ((by rw [hg]; exact Nat.ne_of_lt (blk_lt (g := gb762) (o := .cells #[.int .i64 a0_0, .int .i64 a0_1, .int .i64 a0_2, .int .i64 a0_3] 23 (0, 0)) (by (with_reducible repeat (first | refine blk_drewN ?_ _ | refine blk_drew ?_ | refine blk_alloc ?_ _)); exact BK762.out)) : gb762 ≠ gb763)); have n6_ := Aside0.mk ((by rw [hg]; exact Nat.ne_of_gt (blk_lt (g := gb762) (o := .cells #[.int .i64 a0_0, .int .i64 a0_1, .int .i64 a0_2, .int .i64 a0_3] 23 (0, 0)) (by (with_reducible repeat (first | refine blk_drewN ?_ _ | refine blk_drew ?_ | refine blk_alloc ?_ _)); exact BK762.out)) : gb763 ≠ gb762)); clear BK762; clear HB; have BK762 := n0_; have HB := n1_; have BK763 := n2_; have GW763 := n3_; have GE763 := n4_; have NB762_763 := n5_; have NB763_762 := n6_; clear n0_ n1_ n2_ n3_ n4_ n5_ n6_; clear hb hbox hg; have hnb6 := NB762_763.out; have hnc6 := NB763_762.out; have hcz7_0 : w5.cell? ⟨gb762, 0, none⟩ = some (.int .i64 a0_0) := (blk_cell BK762.out 0).trans rfl; have hcz7_1 : w5.cell? ⟨gb762, 1, none⟩ = some (.int .i64 a0_1) := (blk_cell BK762.out 1).trans rfl; have hcz7_2 : w5.cell? ⟨gb762, 2, none⟩ = some (.int .i64 a0_2) := (blk_cell BK762.out 2).trans rfl; have hcz7_3 : w5.cell? ⟨gb762, 3, none⟩ = some (.int .i64 a0_3) := (blk_cell BK762.out 3).trans rfl; have hfz7_0 := blk_frozen BK762.out 0; have hfz7_1 := blk_frozen BK762.out 1; have hfz7_2 := blk_frozen BK762.out 2; have hfz7_3 := blk_frozen BK762.out 3; have hcz8_0 : w5.cell? ⟨gb763, 0, none⟩ = some (.int .i64 a1_0) := (blk_cell BK763.out 0).trans rfl; have hcz8_1 : w5.cell? ⟨gb763, 1, none⟩ = some (.int .i64 a1_1) := (blk_cell BK763.out 1).trans rfl; have hcz8_2 : w5.cell? ⟨gb763, 2, none⟩ = some (.int .i64 a1_2) := (blk_cell BK763.out 2).trans rfl; have hcz8_3 : w5.cell? ⟨gb763, 3, none⟩ = some (.int .i64 a1_3) := (blk_cell BK763.out 3).trans rfl; have hfz8_0 := blk_frozen BK763.out 0; have hfz8_1 := blk_frozen BK763.out 1; have hfz8_2 := blk_frozen BK763.out 2; have hfz8_3 := blk_frozen BK763.out 3))
    go_ret
    exact ⟨by first | rfl | (simp [errW_none, errW_some] <;> rfl) | (simp [*, errW_none, errW_some] <;> rfl), by repeat (first | (with_reducible first | exact HB.out | apply below_alloc | apply pw_below_drewN | apply below_drew1 | refine below_set ?_ GE762.out | refine below_set ?_ GE763.out) | exact HB.out)⟩
  · rw [if_neg c3] at H
    have c3b0 : decide ((wrap64 (a0_0 + a0_2)) ≤ a1_0) = false := decide_eq_false c3
    clear c3
    by_cases c9 : (wrap64 (a1_0 + a1_2)) ≤ a0_0
    · rw [if_pos c9] at H
      have c9b0 : decide ((wrap64 (a1_0 + a1_2)) ≤ a0_0) = true := decide_eq_true c9
      clear c9
      obtain rfl := Option.some.inj H
      go_enter Try.func141, Try.ntmps141
      go_wp2_with (first | ((with_reducible refine gate_dst (N := 2) rfl ?_); refine box_event ?hg (N := 2) ?hd (cs := #[.int .i64 a0_0, .int .i64 a0_1, .int .i64 a0_2, .int .i64 a0_3]) (t := 23) ?hr ?_; (case hd => rfl); (case hg => rfl); (case hr => first | (go_simp; done) | (go_simp; rfl)); intro gb762 hg w10 hbox hb; have n0_ := Aside0.mk (below_step (by repeat (first | (with_reducible first | exact HB.out | apply below_alloc | apply pw_below_drewN | apply below_drew1) | exact HB.out)) hb); have n1_ := Aside0.mk (hbox); have n2_ := Aside0.mk ((by rw [hg]; exact (below_size (by repeat (first | (with_reducible first | exact HB.out | apply below_alloc | apply pw_below_drewN | apply below_drew1) | exact HB.out))) : w.heap.size ≤ gb762)); have n3_ := Aside0.mk ((by rw [hg]; exact (below_size (by repeat (first | (with_reducible first | exact HB.out | apply below_alloc | apply pw_below_drewN | apply below_drew1) | exact HB.out))) : w.heap.size ≤ gb762)); clear HB; have HB := n0_; have BK762 := n1_; have GW762 := n2_; have GE762 := n3_; clear n0_ n1_ n2_ n3_; clear hb hbox hg) | ((with_reducible refine gate_dst (N := 3) rfl ?_); refine box_event ?hg (N := 3) ?hd (cs := #[.int .i64 a1_0, .int .i64 a1_1, .int .i64 a1_2, .int .i64 a1_3]) (t := 23) ?hr ?_; (case hd => rfl); (case hg => rfl); (case hr => first | (go_simp; done) | (go_simp; rfl)); intro gb763 hg w11 hbox hb; have n0_ := Aside0.mk (blk_below (g := gb762) (o := .cells #[.int .i64 a0_0, .int .i64 a0_1, .int .i64 a0_2, .int .i64 a0_3] 23 (0, 0)) (by (with_reducible repeat (first | refine blk_drewN ?_ _ | refine blk_drew ?_ | refine blk_alloc ?_ _)); exact BK762.out) hb); have n1_ := Aside0.mk (below_step (by repeat (first | (with_reducible first | exact HB.out | apply below_alloc | apply pw_below_drewN | apply below_drew1 | refine below_set ?_ GE762.out) | exact HB.out)) hb); have n2_ := Aside0.mk (hbox); have n3_ := Aside0.mk ((by rw [hg]; exact (below_size (by repeat (first | (with_reducible first | exact HB.out | apply below_alloc | apply pw_below_drewN | apply below_drew1 | refine below_set ?_ GE762.out) | exact HB.out))) : w.heap.size ≤ gb763)); have n4_ := Aside0.mk ((by rw [hg]; exact (below_size (by repeat (first | (with_reducible first | exact HB.out | apply below_alloc | apply pw_below_drewN | apply below_drew1 | refine below_set ?_ GE762.out) | exact HB.out))) : w.heap.size ≤ gb763)); have n5_ := Aside0.mk ((by rw [hg]; exact Nat.ne_of_lt (blk_lt (g := gb762) (o := .cells #[.int .i64 a0_0, .int .i64 a0_1, .int .i64 a0_2, .int .i64 a0_3] 23 (0, 0)) (by (with_reducible repeat (first | refine blk_drewN ?_ _ | refine blk_drew ?_ | refine blk_alloc ?_ _)); exact BK762.out)) : gb762 ≠ gb763)); have n6_ := Aside0.mk ((by rw [hg]; exact Nat.ne_of_gt (blk_lt (g := gb762) (o := .cells #[.int .i64 a0_0, .int .i64 a0_1, .int .i64 a0_2, .int .i64 a0_3] 23 (0, 0)) (by (with_reducible repeat (first | refine blk_drewN ?_ _ | refine blk_drew ?_ | refine blk_alloc ?_ _)); exact BK762.out)) : gb763 ≠ gb762)); clear BK762; clear HB; have BK762 := n0_; have HB := n1_; have BK763 := n2_; have GW763 := n3_; have GE763 := n4_; have NB762_763 := n5_; have NB763_762 := n6_; clear n0_ n1_ n2_ n3_ n4_ n5_ n6_; clear hb hbox hg; have hnb12 := NB762_763.out; have hnc12 := NB763_762.out; have hcz13_0 : w11.cell? ⟨gb762, 0, none⟩ = some (.int .i64 a0_0) := (blk_cell BK762.out 0).trans rfl; have hcz13_1 : w11.cell? ⟨gb762, 1, none⟩ = some (.int .i64 a0_1) := (blk_cell BK762.out 1).trans rfl; have hcz13_2 : w11.cell? ⟨gb762, 2, none⟩ = some (.int .i64 a0_2) := (blk_cell BK762.out 2).trans rfl; have hcz13_3 : w11.cell? ⟨gb762, 3, none⟩ = some (.int .i64 a0_3) := (blk_cell BK762.out 3).trans rfl; have hfz13_0 := blk_frozen BK762.out 0; have hfz13_1 := blk_frozen BK762.out 1; have hfz13_2 := blk_frozen BK762.out 2; have hfz13_3 := blk_frozen BK762.out 3; have hcz14_0 : w11.cell? ⟨gb763, 0, none⟩ = some (.int .i64 a1_0) := (blk_cell BK763.out 0).trans rfl; have hcz14_1 : w11.cell? ⟨gb763, 1, none⟩ = some (.int .i64 a1_1) := (blk_cell BK763.out 1).trans rfl; have hcz14_2 : w11.cell? ⟨gb763, 2, none⟩ = some (.int .i64 a1_2) := (blk_cell BK763.out 2).trans rfl; have hcz14_3 : w11.cell? ⟨gb763, 3, none⟩ = some (.int .i64 a1_3) := (blk_cell BK763.out 3).trans rfl; have hfz14_0 := blk_frozen BK763.out 0; have hfz14_1 := blk_frozen BK763.out 1; have hfz14_2 := blk_frozen BK763.out 2; have hfz14_3 := blk_frozen BK763.out 3))
      go_ret
      exact ⟨by first | rfl | (simp [errW_none, errW_some] <;> rfl) | (simp [*, errW_none, errW_some] <;> rfl), by repeat (first | (with_reducible first | exact HB.out | apply below_alloc | apply pw_below_drewN | apply below_drew1 | refine below_set ?_ GE762.out | refine below_set ?_ GE763.out) | exact HB.out)⟩
    · rw [if_neg c9] at H
      have c9b0 : decide ((wrap64 (a1_0 + a1_2)) ≤ a0_0) = false := decide_eq_false c9
      clear c9
      by_cases c15 : (wrap64 (a0_1 + a0_3)) ≤ a1_1
      · rw [if_pos c15] at H
        have c15b0 : decide ((wrap64 (a0_1 + a0_3)) ≤ a1_1) = true := decide_eq_true c15
        clear c15
        obtain rfl := Option.some.inj H
        go_enter Try.func141, Try.ntmps141
        go_wp2_with (first | ((with_reducible refine gate_dst (N := 2) rfl ?_); refine box_event ?hg (N := 2) ?hd (cs := #[.int .i64 a0_0, .int .i64 a0_1, .int .i64 a0_2, .int .i64 a0_3]) (t := 23) ?hr ?_; (case hd => rfl); (case hg => rfl); (case hr => first | (go_simp; done) | (go_simp; rfl)); intro gb762 hg w16 hbox hb; have n0_ := Aside0.mk (below_step (by repeat (first | (with_reducible first | exact HB.out | apply below_alloc | apply pw_below_drewN | apply below_drew1) | exact HB.out)) hb); have n1_ := Aside0.mk (hbox); have n2_ := Aside0.mk ((by rw [hg]; exact (below_size (by repeat (first | (with_reducible first | exact HB.out | apply below_alloc | apply pw_below_drewN | apply below_drew1) | exact HB.out))) : w.heap.size ≤ gb762)); have n3_ := Aside0.mk ((by rw [hg]; exact (below_size (by repeat (first | (with_reducible first | exact HB.out | apply below_alloc | apply pw_below_drewN | apply below_drew1) | exact HB.out))) : w.heap.size ≤ gb762)); clear HB; have HB := n0_; have BK762 := n1_; have GW762 := n2_; have GE762 := n3_; clear n0_ n1_ n2_ n3_; clear hb hbox hg) | ((with_reducible refine gate_dst (N := 3) rfl ?_); refine box_event ?hg (N := 3) ?hd (cs := #[.int .i64 a1_0, .int .i64 a1_1, .int .i64 a1_2, .int .i64 a1_3]) (t := 23) ?hr ?_; (case hd => rfl); (case hg => rfl); (case hr => first | (go_simp; done) | (go_simp; rfl)); intro gb763 hg w17 hbox hb; have n0_ := Aside0.mk (blk_below (g := gb762) (o := .cells #[.int .i64 a0_0, .int .i64 a0_1, .int .i64 a0_2, .int .i64 a0_3] 23 (0, 0)) (by (with_reducible repeat (first | refine blk_drewN ?_ _ | refine blk_drew ?_ | refine blk_alloc ?_ _)); exact BK762.out) hb); have n1_ := Aside0.mk (below_step (by repeat (first | (with_reducible first | exact HB.out | apply below_alloc | apply pw_below_drewN | apply below_drew1 | refine below_set ?_ GE762.out) | exact HB.out)) hb); have n2_ := Aside0.mk (hbox); have n3_ := Aside0.mk ((by rw [hg]; exact (below_size (by repeat (first | (with_reducible first | exact HB.out | apply below_alloc | apply pw_below_drewN | apply below_drew1 | refine below_set ?_ GE762.out) | exact HB.out))) : w.heap.size ≤ gb763)); have n4_ := Aside0.mk ((by rw [hg]; exact (below_size (by repeat (first | (with_reducible first | exact HB.out | apply below_alloc | apply pw_below_drewN | apply below_drew1 | refine below_set ?_ GE762.out) | exact HB.out))) : w.heap.size ≤ gb763)); have n5_ := Aside0.mk ((by rw [hg]; exact Nat.ne_of_lt (blk_lt (g := gb762) (o := .cells #[.int .i64 a0_0, .int .i64 a0_1, .int .i64 a0_2, .int .i64 a0_3] 23 (0, 0)) (by (with_reducible repeat (first | refine blk_drewN ?_ _ | refine blk_drew ?_ | refine blk_alloc ?_ _)); exact BK762.out)) : gb762 ≠ gb763)); have n6_ := Aside0.mk ((by rw [hg]; exact Nat.ne_of_gt (blk_lt (g := gb762) (o := .cells #[.int .i64 a0_0, .int .i64 a0_1, .int .i64 a0_2, .int .i64 a0_3] 23 (0, 0)) (by (with_reducible repeat (first | refine blk_drewN ?_ _ | refine blk_drew ?_ | refine blk_alloc ?_ _)); exact BK762.out)) : gb763 ≠ gb762)); clear BK762; clear HB; have BK762 := n0_; have HB := n1_; have BK763 := n2_; have GW763 := n3_; have GE763 := n4_; have NB762_763 := n5_; have NB763_762 := n6_; clear n0_ n1_ n2_ n3_ n4_ n5_ n6_; clear hb hbox hg; have hnb18 := NB762_763.out; have hnc18 := NB763_762.out; have hcz19_0 : w17.cell? ⟨gb762, 0, none⟩ = some (.int .i64 a0_0) := (blk_cell BK762.out 0).trans rfl; have hcz19_1 : w17.cell? ⟨gb762, 1, none⟩ = some (.int .i64 a0_1) := (blk_cell BK762.out 1).trans rfl; have hcz19_2 : w17.cell? ⟨gb762, 2, none⟩ = some (.int .i64 a0_2) := (blk_cell BK762.out 2).trans rfl; have hcz19_3 : w17.cell? ⟨gb762, 3, none⟩ = some (.int .i64 a0_3) := (blk_cell BK762.out 3).trans rfl; have hfz19_0 := blk_frozen BK762.out 0; have hfz19_1 := blk_frozen BK762.out 1; have hfz19_2 := blk_frozen BK762.out 2; have hfz19_3 := blk_frozen BK762.out 3; have hcz20_0 : w17.cell? ⟨gb763, 0, none⟩ = some (.int .i64 a1_0) := (blk_cell BK763.out 0).trans rfl; have hcz20_1 : w17.cell? ⟨gb763, 1, none⟩ = some (.int .i64 a1_1) := (blk_cell BK763.out 1).trans rfl; have hcz20_2 : w17.cell? ⟨gb763, 2, none⟩ = some (.int .i64 a1_2) := (blk_cell BK763.out 2).trans rfl; have hcz20_3 : w17.cell? ⟨gb763, 3, none⟩ = some (.int .i64 a1_3) := (blk_cell BK763.out 3).trans rfl; have hfz20_0 := blk_frozen BK763.out 0; have hfz20_1 := blk_frozen BK763.out 1; have hfz20_2 := blk_frozen BK763.out 2; have hfz20_3 := blk_frozen BK763.out 3))
        go_ret
        exact ⟨by first | rfl | (simp [errW_none, errW_some] <;> rfl) | (simp [*, errW_none, errW_some] <;> rfl), by repeat (first | (with_reducible first | exact HB.out | apply below_alloc | apply pw_below_drewN | apply below_drew1 | refine below_set ?_ GE762.out | refine below_set ?_ GE763.out) | exact HB.out)⟩
      · rw [if_neg c15] at H
        have c15b0 : decide ((wrap64 (a0_1 + a0_3)) ≤ a1_1) = false := decide_eq_false c15
        clear c15
        obtain rfl := Option.some.inj H
        go_enter Try.func141, Try.ntmps141
        go_wp2_with (first | ((with_reducible refine gate_dst (N := 2) rfl ?_); refine box_event ?hg (N := 2) ?hd (cs := #[.int .i64 a0_0, .int .i64 a0_1, .int .i64 a0_2, .int .i64 a0_3]) (t := 23) ?hr ?_; (case hd => rfl); (case hg => rfl); (case hr => first | (go_simp; done) | (go_simp; rfl)); intro gb762 hg w21 hbox hb; have n0_ := Aside0.mk (below_step (by repeat (first | (with_reducible first | exact HB.out | apply below_alloc | apply pw_below_drewN | apply below_drew1) | exact HB.out)) hb); have n1_ := Aside0.mk (hbox); have n2_ := Aside0.mk ((by rw [hg]; exact (below_size (by repeat (first | (with_reducible first | exact HB.out | apply below_alloc | apply pw_below_drewN | apply below_drew1) | exact HB.out))) : w.heap.size ≤ gb762)); have n3_ := Aside0.mk ((by rw [hg]; exact (below_size (by repeat (first | (with_reducible first | exact HB.out | apply below_alloc | apply pw_below_drewN | apply below_drew1) | exact HB.out))) : w.heap.size ≤ gb762)); clear HB; have HB := n0_; have BK762 := n1_; have GW762 := n2_; have GE762 := n3_; clear n0_ n1_ n2_ n3_; clear hb hbox hg) | ((with_reducible refine gate_dst (N := 3) rfl ?_); refine box_event ?hg (N := 3) ?hd (cs := #[.int .i64 a1_0, .int .i64 a1_1, .int .i64 a1_2, .int .i64 a1_3]) (t := 23) ?hr ?_; (case hd => rfl); (case hg => rfl); (case hr => first | (go_simp; done) | (go_simp; rfl)); intro gb763 hg w22 hbox hb; have n0_ := Aside0.mk (blk_below (g := gb762) (o := .cells #[.int .i64 a0_0, .int .i64 a0_1, .int .i64 a0_2, .int .i64 a0_3] 23 (0, 0)) (by (with_reducible repeat (first | refine blk_drewN ?_ _ | refine blk_drew ?_ | refine blk_alloc ?_ _)); exact BK762.out) hb); have n1_ := Aside0.mk (below_step (by repeat (first | (with_reducible first | exact HB.out | apply below_alloc | apply pw_below_drewN | apply below_drew1 | refine below_set ?_ GE762.out) | exact HB.out)) hb); have n2_ := Aside0.mk (hbox); have n3_ := Aside0.mk ((by rw [hg]; exact (below_size (by repeat (first | (with_reducible first | exact HB.out | apply below_alloc | apply pw_below_drewN | apply below_drew1 | refine below_set ?_ GE762.out) | exact HB.out))) : w.heap.size ≤ gb763)); have n4_ := Aside0.mk ((by rw [hg]; exact (below_size (by repeat (first | (with_reducible first | exact HB.out | apply below_alloc | apply pw_below_drewN | apply below_drew1 | refine below_set ?_ GE762.out) | exact HB.out))) : w.heap.size ≤ gb763)); have n5_ := Aside0.mk ((by rw [hg]; exact Nat.ne_of_lt (blk_lt (g := gb762) (o := .cells #[.int .i64 a0_0, .int .i64 a0_1, .int .i64 a0_2, .int .i64 a0_3] 23 (0, 0)) (by (with_reducible repeat (first | refine blk_drewN ?_ _ | refine blk_drew ?_ | refine blk_alloc ?_ _)); exact BK762.out)) : gb762 ≠ gb763)); have n6_ := Aside0.mk ((by rw [hg]; exact Nat.ne_of_gt (blk_lt (g := gb762) (o := .cells #[.int .i64 a0_0, .int .i64 a0_1, .int .i64 a0_2, .int .i64 a0_3] 23 (0, 0)) (by (with_reducible repeat (first | refine blk_drewN ?_ _ | refine blk_drew ?_ | refine blk_alloc ?_ _)); exact BK762.out)) : gb763 ≠ gb762)); clear BK762; clear HB; have BK762 := n0_; have HB := n1_; have BK763 := n2_; have GW763 := n3_; have GE763 := n4_; have NB762_763 := n5_; have NB763_762 := n6_; clear n0_ n1_ n2_ n3_ n4_ n5_ n6_; clear hb hbox hg; have hnb23 := NB762_763.out; have hnc23 := NB763_762.out; have hcz24_0 : w22.cell? ⟨gb762, 0, none⟩ = some (.int .i64 a0_0) := (blk_cell BK762.out 0).trans rfl; have hcz24_1 : w22.cell? ⟨gb762, 1, none⟩ = some (.int .i64 a0_1) := (blk_cell BK762.out 1).trans rfl; have hcz24_2 : w22.cell? ⟨gb762, 2, none⟩ = some (.int .i64 a0_2) := (blk_cell BK762.out 2).trans rfl; have hcz24_3 : w22.cell? ⟨gb762, 3, none⟩ = some (.int .i64 a0_3) := (blk_cell BK762.out 3).trans rfl; have hfz24_0 := blk_frozen BK762.out 0; have hfz24_1 := blk_frozen BK762.out 1; have hfz24_2 := blk_frozen BK762.out 2; have hfz24_3 := blk_frozen BK762.out 3; have hcz25_0 : w22.cell? ⟨gb763, 0, none⟩ = some (.int .i64 a1_0) := (blk_cell BK763.out 0).trans rfl; have hcz25_1 : w22.cell? ⟨gb763, 1, none⟩ = some (.int .i64 a1_1) := (blk_cell BK763.out 1).trans rfl; have hcz25_2 : w22.cell? ⟨gb763, 2, none⟩ = some (.int .i64 a1_2) := (blk_cell BK763.out 2).trans rfl; have hcz25_3 : w22.cell? ⟨gb763, 3, none⟩ = some (.int .i64 a1_3) := (blk_cell BK763.out 3).trans rfl; have hfz25_0 := blk_frozen BK763.out 0; have hfz25_1 := blk_frozen BK763.out 1; have hfz25_2 := blk_frozen BK763.out 2; have hfz25_3 := blk_frozen BK763.out 3))
        go_ret
        exact ⟨by first | rfl | (simp [errW_none, errW_some] <;> rfl) | (simp [*, errW_none, errW_some] <;> rfl), by repeat (first | (with_reducible first | exact HB.out | apply below_alloc | apply pw_below_drewN | apply below_drew1 | refine below_set ?_ GE762.out | refine below_set ?_ GE763.out) | exact HB.out)⟩

end Go.Proofs.Ytfdmfgaiblfbhaa.P
namespace Go.Proofs.Ytfdmfgaiblfbhaa.P
open Go.RowKit Go.Proofs.YtfdmfgaiblfbhaaW.PrintWords Go.Proofs.YtfdmfgaiblfbhaaW.PrintLast Go.Proofs.YtfdmfgaiblfbhaaW.PrintMore
attribute [local go_sem] max2_int min2_int max_two min_two max_three min_three max_four min_four   -- for this text's walks alone
set_option linter.unusedVariables false
set_option linter.unusedSimpArgs false

/-! ### sashref04_Apartments: function 71 -/
mutual
def sashref04_Apartments.l0 : Nat → List (S23) → Int → Int → Option (Bool)
  | 0, _, _, _ => none
  | k + 1, x0, x6, x7 => if x7 < x6 then (sashref04_Apartments.l1 k x0 x7 0 x6 x7) else ((sashref04_All.f k x0).bind fun t764 => (some t764))
def sashref04_Apartments.l1 : Nat → List (S23) → Int → Int → Int → Int → Option (Bool)
  | 0, _, _, _, _, _ => none
  | k + 1, x0, x3, x4, x6, x7 => if x4 < x3 then (if 0 ≤ x3 then (if x3 < (x0.length : Int) then (if 0 ≤ x4 then (if x4 < (x0.length : Int) then ((sashref04_Apart.f ((rd_T23 x0 x3).f0) ((rd_T23 x0 x3).f1) ((rd_T23 x0 x3).f2) ((rd_T23 x0 x3).f3) ((rd_T23 x0 x4).f0) ((rd_T23 x0 x4).f1) ((rd_T23 x0 x4).f2) ((rd_T23 x0 x4).f3)).bind fun t767 => (if t767 = true then (sashref04_Apartments.l1 k x0 x3 (wrap64 (x4 + 1)) x6 x7) else (some false))) else (none)) else (none)) else (none)) else (none)) else (sashref04_Apartments.l0 k x0 x6 (wrap64 (x7 + 1)))
end
def sashref04_Apartments.f (k : Nat) (l0 : List (S23)) : Option (Bool) := sashref04_Apartments.l0 k l0 (l0.length : Int) 0
theorem sashref04_Apartments.mono_l : ∀ k, (∀ y0 y1 y2, LeO (sashref04_Apartments.l0 k y0 y1 y2) (sashref04_Apartments.l0 (k + 1) y0 y1 y2)) ∧ (∀ y0 y1 y2 y3 y4, LeO (sashref04_Apartments.l1 k y0 y1 y2 y3 y4) (sashref04_Apartments.l1 (k + 1) y0 y1 y2 y3 y4))
  | 0 => ⟨fun _ _ _ r h => by simp [sashref04_Apartments.l0] at h, fun _ _ _ _ _ r h => by simp [sashref04_Apartments.l1] at h⟩
  | k + 1 => by
    obtain ⟨ih0, ih1⟩ := sashref04_Apartments.mono_l k
    refine ⟨?_, ?_⟩
    · intro y0 y1 y2
      unfold sashref04_Apartments.l0
      repeat' first
      | (with_reducible exact ih0 _ _ _)
      | (with_reducible exact ih1 _ _ _ _ _)
      | (with_reducible exact sashref04_All.mono _ _)
      | (with_reducible exact LeO.refl _)
      | (with_reducible exact LeO.none _)
      | (with_reducible refine LeO.ite ?_ ?_)
      | (with_reducible refine LeO.bind ?_ (fun _ => ?_))
      | exact ih0 _ _ _
      | exact ih1 _ _ _ _ _
      | exact sashref04_All.mono _ _
      | exact LeO.none _
      | refine LeO.ite ?_ ?_
      | refine LeO.bind ?_ (fun _ => ?_)
    · intro y0 y1 y2 y3 y4
      unfold sashref04_Apartments.l1
      repeat' first
      | (with_reducible exact ih0 _ _ _)
      | (with_reducible exact ih1 _ _ _ _ _)
      | (with_reducible exact sashref04_All.mono _ _)
      | (with_reducible exact LeO.refl _)
      | (with_reducible exact LeO.none _)
      | (with_reducible refine LeO.ite ?_ ?_)
      | (with_reducible refine LeO.bind ?_ (fun _ => ?_))
      | exact ih0 _ _ _
      | exact ih1 _ _ _ _ _
      | exact sashref04_All.mono _ _
      | exact LeO.none _
      | refine LeO.ite ?_ ?_
      | refine LeO.bind ?_ (fun _ => ?_)
theorem sashref04_Apartments.mono : ∀ a0 k, LeO (sashref04_Apartments.f k a0) (sashref04_Apartments.f (k + 1) a0) := by
  intro a0 k
  obtain ⟨ih0, ih1⟩ := sashref04_Apartments.mono_l k
  unfold sashref04_Apartments.f
  repeat' first
      | (with_reducible exact ih0 _ _ _)
      | (with_reducible exact ih1 _ _ _ _ _)
      | (with_reducible exact sashref04_All.mono _ _)
      | (with_reducible exact LeO.refl _)
      | (with_reducible exact LeO.none _)
      | (with_reducible refine LeO.ite ?_ ?_)
      | (with_reducible refine LeO.bind ?_ (fun _ => ?_))
      | exact ih0 _ _ _
      | exact ih1 _ _ _ _ _
      | exact sashref04_All.mono _ _
      | exact LeO.none _
      | refine LeO.ite ?_ ?_
      | refine LeO.bind ?_ (fun _ => ?_)
def sashref04_Apartments.T7 : Bool × List (List Nat × List Nat) := (true, [([], []), ([], []), ([0, 1], [0, 1]), ([2], [2]), ([], []), ([], []), ([4, 5], [4, 5]), ([6], [6]), ([3, 7], [3, 7]), ([8], [8])])
def sashref04_Apartments.B7 : List Nat := [0, 0, 3, 7, 0, 0, 48, 112, 255, 511]
theorem sashref04_Apartments.tab7 : rtab .any (opsOf Try.f71 7) = sashref04_Apartments.T7 := by kernel_rfl
theorem sashref04_Apartments.bits7 : waitsOk sashref04_Apartments.T7.2 sashref04_Apartments.B7 = true := by kernel_rfl
set_option maxHeartbeats 8000000 in
set_option maxRecDepth 100000 in
theorem sashref04_Apartments.calls (k : Nat) (A0 : Option Addr) (c0 : Nat) (l0 : List (S23)) (r : Bool) (w : World) (hr0 : Kd.C k23 w A0 l0.length l0) (hc0 : l0.length ≤ c0) (h : sashref04_Apartments.f k l0 = some r) :
    Calls Try.prog 71 #[.slice A0 l0.length c0] w fun e w' => e = .returned (.bool r) ∧ Below w.heap.size w w' := by
  have hu23 := Try.underlying23
  have HR0 := Aside0.mk hr0
  have HC0 := Aside0.mk hc0
  clear hr0 hc0
  have HB := Aside0.mk (Below.refl w.heap.size w)
  have H : (sashref04_Apartments.l0 k l0 (l0.length : Int) 0) = some r := h
  clear h
  have H' := Aside0.mk H
  clear H
  go_enter Try.func71, Try.ntmps71
  go_wp2
  go_loopg [7] k (fun kq v7 w' => ∃ (x7_1 : Int), v7 = .int .i64 x7_1 ∧ Aside0 (sashref04_Apartments.l0 kq l0 (l0.length : Int) x7_1 = some r) ∧ Aside0 (kq ≤ k) ∧ Aside0 (Below w.heap.size w w'))
  case atStart => exact ⟨(0), (by first | rfl | (simp; done) | (simp [*]; done)), H', ⟨Nat.le_refl _⟩, ⟨by repeat (first | (with_reducible first | exact HB.out | apply below_alloc | apply pw_below_drewN | apply below_drew1) | exact HB.out)⟩⟩
  case round =>
    clear H'
    obtain ⟨x7_1, rfl, HA, HK1, HB⟩ := hrel
    cases gk with
    | zero => exact absurd HA.out (by simp [sashref04_Apartments.l0])
    | succ k1 =>
      have H := HA.out
      clear HA
      simp only [sashref04_Apartments.l0] at H
      by_cases c2 : x7_1 < (l0.length : Int)
      · rw [if_pos c2] at H
        have c2b0 : decide (x7_1 < (l0.length : Int)) = true := decide_eq_true c2
        clear c2
        have H' := Aside0.mk H
        clear H
        go_wp2
        go_loopg [4] k1 (fun kq v4 w' => ∃ (x4_2 : Int), v4 = .int .i64 x4_2 ∧ Aside0 (sashref04_Apartments.l1 kq l0 x7_1 x4_2 (l0.length : Int) x7_1 = some r) ∧ Aside0 (kq ≤ k1) ∧ Aside0 (Below w.heap.size w w'))
        case atStart => exact ⟨(0), (by first | rfl | (simp; done) | (simp [*]; done)), H', ⟨Nat.le_refl _⟩, ⟨by repeat (first | (with_reducible first | exact HB.out | apply below_alloc | apply pw_below_drewN | apply below_drew1) | exact HB.out)⟩⟩
        case round =>
          clear H'
          try clear c2
          try clear c2b0
          try clear p2
          obtain ⟨x4_2, rfl, HA, HK2, HB⟩ := hrel
          cases gk with
          | zero => exact absurd HA.out (by simp [sashref04_Apartments.l1])
          | succ k2 =>
            have H := HA.out
            clear HA
            simp only [sashref04_Apartments.l1] at H
            by_cases c3 : x4_2 < x7_1
            · rw [if_pos c3] at H
              have c3b0 : decide (x4_2 < x7_1) = true := decide_eq_true c3
              clear c3
              by_cases c4 : 0 ≤ x7_1
              · rw [if_pos c4] at H
                have c4b0 : decide (0 ≤ x7_1) = true := decide_eq_true c4
                clear c4
                by_cases c5 : x7_1 < (l0.length : Int)
                · rw [if_pos c5] at H
                  have c5b0 : decide (x7_1 < (l0.length : Int)) = true := decide_eq_true c5
                  clear c5
                  by_cases c6 : 0 ≤ x4_2
                  · rw [if_pos c6] at H
                    have c6b0 : decide (0 ≤ x4_2) = true := decide_eq_true c6
                    clear c6
                    by_cases c7 : x4_2 < (l0.length : Int)
                    · rw [if_pos c7] at H
                      have c7b0 : decide (x4_2 < (l0.length : Int)) = true := decide_eq_true c7
                      clear c7
                      replace H := Option.bind_eq_some_iff.mp H
                      obtain ⟨t767, A80, H⟩ := H
                      replace H : (if t767 = true then (sashref04_Apartments.l1 k2 l0 x7_1 (wrap64 (x4_2 + 1)) (l0.length : Int) x7_1) else (some false)) = some r := H
                      have A8 := Aside0.mk A80
                      clear A80
                      by_cases c9 : t767 = true
                      · subst c9
                        have H1 : (sashref04_Apartments.l1 k2 l0 x7_1 (wrap64 (x4_2 + 1)) (l0.length : Int) x7_1) = some r := by rw [if_pos rfl] at H; exact H
                        clear H
                        have H := H1
                        clear H1
                        have H' := Aside0.mk H
                        clear H
                        try go_wp2
                        have n0_ := Aside0.mk (below_drew1 HB.out)
                        clear HB
                        have HB := n0_
                        clear n0_
                        have p765 : 0 ≤ (x7_1 : Int) := of_decide_eq_true (by first | (with_reducible assumption) | assumption)
                        have q765 : x7_1 < (l0.length : Int) := of_decide_eq_true (by first | (with_reducible assumption) | assumption)
                        obtain ⟨ad765, e765, hx765_0, hx765_1, hx765_2, hx765_3⟩ := at_T23 HR0.out x7_1 p765 q765
                        have hw765_3 := hx765_3
                        have hw765_2 := hx765_2
                        have hw765_1 := hx765_1
                        have hw765_0 := hx765_0
                        cases e765
                        replace hx765_0 := (HB.out.cell (World.block_lt_of_cell? w _ hx765_0)).trans hx765_0
                        replace hx765_1 := (HB.out.cell (World.block_lt_of_cell? w _ hx765_1)).trans hx765_1
                        replace hx765_2 := (HB.out.cell (World.block_lt_of_cell? w _ hx765_2)).trans hx765_2
                        replace hx765_3 := (HB.out.cell (World.block_lt_of_cell? w _ hx765_3)).trans hx765_3
                        replace p765 := eq_true p765
                        replace q765 := eq_true q765
                        have p766 : 0 ≤ (x4_2 : Int) := of_decide_eq_true (by first | (with_reducible assumption) | assumption)
                        have q766 : x4_2 < (l0.length : Int) := of_decide_eq_true (by first | (with_reducible assumption) | assumption)
                        obtain ⟨ad766, e766, hx766_0, hx766_1, hx766_2, hx766_3⟩ := at_T23 HR0.out x4_2 p766 q766
                        have hw766_3 := hx766_3
                        have hw766_2 := hx766_2
                        have hw766_1 := hx766_1
                        have hw766_0 := hx766_0
                        obtain rfl : ad765 = ad766 := (by injection e766)
                        replace hx766_0 := (HB.out.cell (World.block_lt_of_cell? w _ hx766_0)).trans hx766_0
                        replace hx766_1 := (HB.out.cell (World.block_lt_of_cell? w _ hx766_1)).trans hx766_1
                        replace hx766_2 := (HB.out.cell (World.block_lt_of_cell? w _ hx766_2)).trans hx766_2
                        replace hx766_3 := (HB.out.cell (World.block_lt_of_cell? w _ hx766_3)).trans hx766_3
                        replace p766 := eq_true p766
                        replace q766 := eq_true q766
                        refine start_ (n := 10) (S := fun w' => w'.cell? (ad765.add ((x7_1).toNat * 4)) = some (.int .i64 ((rd_T23 l0 x7_1).f0)) ∧ w'.cell? ⟨(ad765.add ((x7_1).toNat * 4)).block, (ad765.add ((x7_1).toNat * 4)).off + 1, none⟩ = some (.int .i64 ((rd_T23 l0 x7_1).f1)) ∧ w'.cell? ⟨(ad765.add ((x7_1).toNat * 4)).block, (ad765.add ((x7_1).toNat * 4)).off + 2, none⟩ = some (.int .i64 ((rd_T23 l0 x7_1).f2)) ∧ w'.cell? ⟨(ad765.add ((x7_1).toNat * 4)).block, (ad765.add ((x7_1).toNat * 4)).off + 3, none⟩ = some (.int .i64 ((rd_T23 l0 x7_1).f3)) ∧ w'.cell? (ad765.add ((x4_2).toNat * 4)) = some (.int .i64 ((rd_T23 l0 x4_2).f0)) ∧ w'.cell? ⟨(ad765.add ((x4_2).toNat * 4)).block, (ad765.add ((x4_2).toNat * 4)).off + 1, none⟩ = some (.int .i64 ((rd_T23 l0 x4_2).f1)) ∧ w'.cell? ⟨(ad765.add ((x4_2).toNat * 4)).block, (ad765.add ((x4_2).toNat * 4)).off + 2, none⟩ = some (.int .i64 ((rd_T23 l0 x4_2).f2)) ∧ w'.cell? ⟨(ad765.add ((x4_2).toNat * 4)).block, (ad765.add ((x4_2).toNat * 4)).off + 3, none⟩ = some (.int .i64 ((rd_T23 l0 x4_2).f3))) (ds := []) #[false, false, false, false, false, false, false, false, false, false] (by kernel_rfl) rfl rfl ⟨((HB.out.cell (World.block_lt_of_cell? w _ hw765_0)).trans hw765_0), ((HB.out.cell (World.block_lt_of_cell? w _ hw765_1)).trans hw765_1), ((HB.out.cell (World.block_lt_of_cell? w _ hw765_2)).trans hw765_2), ((HB.out.cell (World.block_lt_of_cell? w _ hw765_3)).trans hw765_3), ((HB.out.cell (World.block_lt_of_cell? w _ hw766_0)).trans hw766_0), ((HB.out.cell (World.block_lt_of_cell? w _ hw766_1)).trans hw766_1), ((HB.out.cell (World.block_lt_of_cell? w _ hw766_2)).trans hw766_2), ((HB.out.cell (World.block_lt_of_cell? w _ hw766_3)).trans hw766_3)⟩ (fun hHeld => ?_); refine with_tabW sashref04_Apartments.tab7 sashref04_Apartments.bits7 (fun HT_ HW_ => ?_)
                        generalize wr.drew = w10 at HB hx765_0 hx765_1 hx765_2 hx765_3 hx766_0 hx766_1 hx766_2 hx766_3 hHeld ⊢
                        refine pure_ (i := 0) (N := some 15) (v := ?_) (a' := ?_) #[true, false, false, false, false, false, false, false, false, false] rfl rfl (any_of HT_.out (by kernel_rfl)) (fun _ _ _ h => h) (Or.inl ⟨by rfl, ?_⟩) ?_ ?_
                        rotate_left
                        · intro w'
                          go_simp
                          with_reducible rfl
                        rotate_left
                        · simp only [Act.put, List.setIfInBounds_toArray, List.set_cons_zero, List.set_cons_succ, i64_w, i32_w]
                          rfl
                        refine pure_ (i := 1) (N := some 16) (v := ?_) (a' := ?_) #[true, true, false, false, false, false, false, false, false, false] rfl rfl (any_of HT_.out (by kernel_rfl)) (fun _ _ _ h => h) (Or.inl ⟨by rfl, ?_⟩) ?_ ?_
                        rotate_left
                        · intro w'
                          go_simp
                          with_reducible rfl
                        rotate_left
                        · simp only [Act.put, List.setIfInBounds_toArray, List.set_cons_zero, List.set_cons_succ, i64_w, i32_w]
                          rfl
                        refine pure_ (i := 2) (N := some 17) (v := ?_) (a' := ?_) #[true, true, true, false, false, false, false, false, false, false] rfl rfl (any_of HT_.out (by kernel_rfl)) (fun _ _ _ h => h) (Or.inl ⟨by rfl, ?_⟩) ?_ ?_
                        rotate_left
                        · intro w'
                          go_simp
                          with_reducible rfl
                        rotate_left
                        · simp only [Act.put, List.setIfInBounds_toArray, List.set_cons_zero, List.set_cons_succ, i64_w, i32_w]
                          rfl
                        refine pure_ (i := 4) (N := some 19) (v := ?_) (a' := ?_) #[true, true, true, false, true, false, false, false, false, false] rfl rfl (any_of HT_.out (by kernel_rfl)) (fun _ _ _ h => h) (Or.inl ⟨by rfl, ?_⟩) ?_ ?_
                        rotate_left
                        · intro w'
                          go_simp
                          with_reducible rfl
                        rotate_left
                        · simp only [Act.put, List.setIfInBounds_toArray, List.set_cons_zero, List.set_cons_succ, i64_w, i32_w]
                          rfl
                        refine pure_ (i := 5) (N := some 20) (v := ?_) (a' := ?_) #[true, true, true, false, true, true, false, false, false, false] rfl rfl (any_of HT_.out (by kernel_rfl)) (fun _ _ _ h => h) (Or.inl ⟨by rfl, ?_⟩) ?_ ?_
                        rotate_left
                        · intro w'
                          go_simp
                          with_reducible rfl
                        rotate_left
                        · simp only [Act.put, List.setIfInBounds_toArray, List.set_cons_zero, List.set_cons_succ, i64_w, i32_w]
                          rfl
                        refine pure_ (i := 6) (N := some 21) (v := ?_) (a' := ?_) #[true, true, true, false, true, true, true, false, false, false] rfl rfl (any_of HT_.out (by kernel_rfl)) (fun _ _ _ h => h) (Or.inl ⟨by rfl, ?_⟩) ?_ ?_
                        rotate_left
                        · intro w'
                          go_simp
                          with_reducible rfl
                        rotate_left
                        · simp only [Act.put, List.setIfInBounds_toArray, List.set_cons_zero, List.set_cons_succ, i64_w, i32_w]
                          rfl
                        refine take_ (i := 3) (N := some 18) (v := ?_) (a' := ?_) #[true, true, true, true, true, true, true, false, false, false] rfl rfl (take_ofW HT_.out HW_.out (by kernel_rfl)) (fun _ _ _ h => h) (Or.inl ⟨by rfl, ?_⟩) hHeld ?_ ?_
                        rotate_left
                        · rintro w' ⟨s0, s1, s2, s3, s4, s5, s6, s7⟩
                          go_simp
                          with_reducible rfl
                        rotate_left
                        · simp only [Act.put, List.setIfInBounds_toArray, List.set_cons_zero, List.set_cons_succ, i64_w, i32_w]
                          rfl
                        refine take_ (i := 7) (N := some 22) (v := ?_) (a' := ?_) #[true, true, true, true, true, true, true, true, false, false] rfl rfl (take_ofW HT_.out HW_.out (by kernel_rfl)) (fun _ _ _ h => h) (Or.inl ⟨by rfl, ?_⟩) hHeld ?_ ?_
                        rotate_left
                        · rintro w' ⟨s0, s1, s2, s3, s4, s5, s6, s7⟩
                          go_simp
                          with_reducible rfl
                        rotate_left
                        · simp only [Act.put, List.setIfInBounds_toArray, List.set_cons_zero, List.set_cons_succ, i64_w, i32_w]
                          rfl
                        refine one_ (i := 8) (N := some 23) #[true, true, true, true, true, true, true, true, true, false] rfl rfl (one_of HT_.out (by kernel_rfl)) (by decide) (fun K hK => ?_)
                        refine goes_ Try.func141 (by kernel_rfl) rfl #[.agg #[.int .i64 ((rd_T23 l0 x7_1).f0), .int .i64 ((rd_T23 l0 x7_1).f1), .int .i64 ((rd_T23 l0 x7_1).f2), .int .i64 ((rd_T23 l0 x7_1).f3)], .agg #[.int .i64 ((rd_T23 l0 x4_2).f0), .int .i64 ((rd_T23 l0 x4_2).f1), .int .i64 ((rd_T23 l0 x4_2).f2), .int .i64 ((rd_T23 l0 x4_2).f3)]] (by rfl) rfl rfl (by (try simp only [List.map_toArray, List.map_cons, List.map_nil]); first | done | rfl | (simp only [List.length_drop, List.length_take]; rfl)) ?_
                        with_reducible refine (sashref04_Apart.calls ((rd_T23 l0 x7_1).f0) ((rd_T23 l0 x7_1).f1) ((rd_T23 l0 x7_1).f2) ((rd_T23 l0 x7_1).f3) ((rd_T23 l0 x4_2).f0) ((rd_T23 l0 x4_2).f1) ((rd_T23 l0 x4_2).f2) ((rd_T23 l0 x4_2).f3) true _ A8.out).mono ?_
                        rintro e w11 ⟨rfl, hb⟩
                        refine ⟨_, rfl, ?_⟩
                        have n0_ := Aside0.mk (below_step (by repeat (first | (with_reducible first | exact HB.out | apply below_alloc | apply pw_below_drewN | apply below_drew1) | exact HB.out)) hb)
                        clear HB
                        have HB := n0_
                        clear n0_
                        (try clear hb)
                        (try clear hb2)
                        (try clear hk)
                        (try clear hi)
                        refine hK.out _ _ ⟨((HB.out.cell (World.block_lt_of_cell? w _ hw765_0)).trans hw765_0), ((HB.out.cell (World.block_lt_of_cell? w _ hw765_1)).trans hw765_1), ((HB.out.cell (World.block_lt_of_cell? w _ hw765_2)).trans hw765_2), ((HB.out.cell (World.block_lt_of_cell? w _ hw765_3)).trans hw765_3), ((HB.out.cell (World.block_lt_of_cell? w _ hw766_0)).trans hw766_0), ((HB.out.cell (World.block_lt_of_cell? w _ hw766_1)).trans hw766_1), ((HB.out.cell (World.block_lt_of_cell? w _ hw766_2)).trans hw766_2), ((HB.out.cell (World.block_lt_of_cell? w _ hw766_3)).trans hw766_3)⟩ (fun hHeld => ?_)
                        clear hK K
                        refine norm_ (a' := ?_) ?_ ?_
                        rotate_left
                        · show Act.put _ (some 23) _ = _
                          simp only [Act.put, List.setIfInBounds_toArray, List.set_cons_zero, List.set_cons_succ, i64_w, i32_w]
                          rfl
                        refine pure_ (i := 9) (N := some 24) (v := ?_) (a' := ?_) #[true, true, true, true, true, true, true, true, true, true] rfl rfl (any_of HT_.out (by kernel_rfl)) (fun _ _ _ h => h) (Or.inl ⟨by rfl, ?_⟩) ?_ ?_
                        rotate_left
                        · intro w'
                          go_simp
                          with_reducible rfl
                        rotate_left
                        · simp only [Act.put, List.setIfInBounds_toArray, List.set_cons_zero, List.set_cons_succ, i64_w, i32_w]
                          rfl
                        refine done_ (done_of HT_.out (by kernel_rfl)) ?_
                        try go_wp2
                        go_roundg k2
                        case measure => have := HK1.out; have := HK2.out; omega
                        case rel => exact ⟨(wrap64 (x4_2 + 1)), (by first | rfl | (simp; done) | (simp [*]; done)), H', ⟨by have := HK1.out; have := HK2.out; omega⟩, ⟨by repeat (first | (with_reducible first | exact HB.out | apply below_alloc | apply pw_below_drewN | apply below_drew1) | exact HB.out)⟩⟩
                      · replace c9 := Bool.eq_false_iff.mpr c9
                        subst c9
                        have H1 : (some false) = some r := by rw [if_neg (show ¬ (false = true) by decide)] at H; exact H
                        clear H
                        have H := H1
                        clear H1
                        obtain rfl := Option.some.inj H
                        try go_wp2
                        have n0_ := Aside0.mk (below_drew1 HB.out)
                        clear HB
                        have HB := n0_
                        clear n0_
                        have p765 : 0 ≤ (x7_1 : Int) := of_decide_eq_true (by first | (with_reducible assumption) | assumption)
                        have q765 : x7_1 < (l0.length : Int) := of_decide_eq_true (by first | (with_reducible assumption) | assumption)
                        obtain ⟨ad765, e765, hx765_0, hx765_1, hx765_2, hx765_3⟩ := at_T23 HR0.out x7_1 p765 q765
                        have hw765_3 := hx765_3
                        have hw765_2 := hx765_2
                        have hw765_1 := hx765_1
                        have hw765_0 := hx765_0
                        cases e765
                        replace hx765_0 := (HB.out.cell (World.block_lt_of_cell? w _ hx765_0)).trans hx765_0
                        replace hx765_1 := (HB.out.cell (World.block_lt_of_cell? w _ hx765_1)).trans hx765_1
                        replace hx765_2 := (HB.out.cell (World.block_lt_of_cell? w _ hx765_2)).trans hx765_2
                        replace hx765_3 := (HB.out.cell (World.block_lt_of_cell? w _ hx765_3)).trans hx765_3
                        replace p765 := eq_true p765
                        replace q765 := eq_true q765
                        have p766 : 0 ≤ (x4_2 : Int) := of_decide_eq_true (by first | (with_reducible assumption) | assumption)
                        have q766 : x4_2 < (l0.length : Int) := of_decide_eq_true (by first | (with_reducible assumption) | assumption)
                        obtain ⟨ad766, e766, hx766_0, hx766_1, hx766_2, hx766_3⟩ := at_T23 HR0.out x4_2 p766 q766
                        have hw766_3 := hx766_3
                        have hw766_2 := hx766_2
                        have hw766_1 := hx766_1
                        have hw766_0 := hx766_0
                        obtain rfl : ad765 = ad766 := (by injection e766)
                        replace hx766_0 := (HB.out.cell (World.block_lt_of_cell? w _ hx766_0)).trans hx766_0
                        replace hx766_1 := (HB.out.cell (World.block_lt_of_cell? w _ hx766_1)).trans hx766_1
                        replace hx766_2 := (HB.out.cell (World.block_lt_of_cell? w _ hx766_2)).trans hx766_2
                        replace hx766_3 := (HB.out.cell (World.block_lt_of_cell? w _ hx766_3)).trans hx766_3
                        replace p766 := eq_true p766
                        replace q766 := eq_true q766
                        refine start_ (n := 10) (S := fun w' => w'.cell? (ad765.add ((x7_1).toNat * 4)) = some (.int .i64 ((rd_T23 l0 x7_1).f0)) ∧ w'.cell? ⟨(ad765.add ((x7_1).toNat * 4)).block, (ad765.add ((x7_1).toNat * 4)).off + 1, none⟩ = some (.int .i64 ((rd_T23 l0 x7_1).f1)) ∧ w'.cell? ⟨(ad765.add ((x7_1).toNat * 4)).block, (ad765.add ((x7_1).toNat * 4)).off + 2, none⟩ = some (.int .i64 ((rd_T23 l0 x7_1).f2)) ∧ w'.cell? ⟨(ad765.add ((x7_1).toNat * 4)).block, (ad765.add ((x7_1).toNat * 4)).off + 3, none⟩ = some (.int .i64 ((rd_T23 l0 x7_1).f3)) ∧ w'.cell? (ad765.add ((x4_2).toNat * 4)) = some (.int .i64 ((rd_T23 l0 x4_2).f0)) ∧ w'.cell? ⟨(ad765.add ((x4_2).toNat * 4)).block, (ad765.add ((x4_2).toNat * 4)).off + 1, none⟩ = some (.int .i64 ((rd_T23 l0 x4_2).f1)) ∧ w'.cell? ⟨(ad765.add ((x4_2).toNat * 4)).block, (ad765.add ((x4_2).toNat * 4)).off + 2, none⟩ = some (.int .i64 ((rd_T23 l0 x4_2).f2)) ∧ w'.cell? ⟨(ad765.add ((x4_2).toNat * 4)).block, (ad765.add ((x4_2).toNat * 4)).off + 3, none⟩ = some (.int .i64 ((rd_T23 l0 x4_2).f3))) (ds := []) #[false, false, false, false, false, false, false, false, false, false] (by kernel_rfl) rfl rfl ⟨((HB.out.cell (World.block_lt_of_cell? w _ hw765_0)).trans hw765_0), ((HB.out.cell (World.block_lt_of_cell? w _ hw765_1)).trans hw765_1), ((HB.out.cell (World.block_lt_of_cell? w _ hw765_2)).trans hw765_2), ((HB.out.cell (World.block_lt_of_cell? w _ hw765_3)).trans hw765_3), ((HB.out.cell (World.block_lt_of_cell? w _ hw766_0)).trans hw766_0), ((HB.out.cell (World.block_lt_of_cell? w _ hw766_1)).trans hw766_1), ((HB.out.cell (World.block_lt_of_cell? w _ hw766_2)).trans hw766_2), ((HB.out.cell (World.block_lt_of_cell? w _ hw766_3)).trans hw766_3)⟩ (fun hHeld => ?_); refine with_tabW sashref04_Apartments.tab7 sashref04_Apartments.bits7 (fun HT_ HW_ => ?_)
                        generalize wr.drew = w12 at HB hx765_0 hx765_1 hx765_2 hx765_3 hx766_0 hx766_1 hx766_2 hx766_3 hHeld ⊢
                        refine pure_ (i := 0) (N := some 15) (v := ?_) (a' := ?_) #[true, false, false, false, false, false, false, false, false, false] rfl rfl (any_of HT_.out (by kernel_rfl)) (fun _ _ _ h => h) (Or.inl ⟨by rfl, ?_⟩) ?_ ?_
                        rotate_left
                        · intro w'
                          go_simp
                          with_reducible rfl
                        rotate_left
                        · simp only [Act.put, List.setIfInBounds_toArray, List.set_cons_zero, List.set_cons_succ, i64_w, i32_w]
                          rfl
                        refine pure_ (i := 1) (N := some 16) (v := ?_) (a' := ?_) #[true, true, false, false, false, false, false, false, false, false] rfl rfl (any_of HT_.out (by kernel_rfl)) (fun _ _ _ h => h) (Or.inl ⟨by rfl, ?_⟩) ?_ ?_
                        rotate_left
                        · intro w'
                          go_simp
                          with_reducible rfl
                        rotate_left
                        · simp only [Act.put, List.setIfInBounds_toArray, List.set_cons_zero, List.set_cons_succ, i64_w, i32_w]
                          rfl
                        refine pure_ (i := 2) (N := some 17) (v := ?_) (a' := ?_) #[true, true, true, false, false, false, false, false, false, false] rfl rfl (any_of HT_.out (by kernel_rfl)) (fun _ _ _ h => h) (Or.inl ⟨by rfl, ?_⟩) ?_ ?_
                        rotate_left
                        · intro w'
                          go_simp
                          with_reducible rfl
                        rotate_left
                        · simp only [Act.put, List.setIfInBounds_toArray, List.set_cons_zero, List.set_cons_succ, i64_w, i32_w]
                          rfl
                        refine pure_ (i := 4) (N := some 19) (v := ?_) (a' := ?_) #[true, true, true, false, true, false, false, false, false, false] rfl rfl (any_of HT_.out (by kernel_rfl)) (fun _ _ _ h => h) (Or.inl ⟨by rfl, ?_⟩) ?_ ?_
                        rotate_left
                        · intro w'
                          go_simp
                          with_reducible rfl
                        rotate_left
                        · simp only [Act.put, List.setIfInBounds_toArray, List.set_cons_zero, List.set_cons_succ, i64_w, i32_w]
                          rfl
                        refine pure_ (i := 5) (N := some 20) (v := ?_) (a' := ?_) #[true, true, true, false, true, true, false, false, false, false] rfl rfl (any_of HT_.out (by kernel_rfl)) (fun _ _ _ h => h) (Or.inl ⟨by rfl, ?_⟩) ?_ ?_
                        rotate_left
                        · intro w'
                          go_simp
                          with_reducible rfl
                        rotate_left
                        · simp only [Act.put, List.setIfInBounds_toArray, List.set_cons_zero, List.set_cons_succ, i64_w, i32_w]
                          rfl
                        refine pure_ (i := 6) (N := some 21) (v := ?_) (a' := ?_) #[true, true, true, false, true, true, true, false, false, false] rfl rfl (any_of HT_.out (by kernel_rfl)) (fun _ _ _ h => h) (Or.inl ⟨by rfl, ?_⟩) ?_ ?_
                        rotate_left
                        · intro w'
                          go_simp
                          with_reducible rfl
                        rotate_left
                        · simp only [Act.put, List.setIfInBounds_toArray, List.set_cons_zero, List.set_cons_succ, i64_w, i32_w]
                          rfl
                        refine take_ (i := 3) (N := some 18) (v := ?_) (a' := ?_) #[true, true, true, true, true, true, true, false, false, false] rfl rfl (take_ofW HT_.out HW_.out (by kernel_rfl)) (fun _ _ _ h => h) (Or.inl ⟨by rfl, ?_⟩) hHeld ?_ ?_
                        rotate_left
                        · rintro w' ⟨s0, s1, s2, s3, s4, s5, s6, s7⟩
                          go_simp
                          with_reducible rfl
                        rotate_left
                        · simp only [Act.put, List.setIfInBounds_toArray, List.set_cons_zero, List.set_cons_succ, i64_w, i32_w]
                          rfl
                        refine take_ (i := 7) (N := some 22) (v := ?_) (a' := ?_) #[true, true, true, true, true, true, true, true, false, false] rfl rfl (take_ofW HT_.out HW_.out (by kernel_rfl)) (fun _ _ _ h => h) (Or.inl ⟨by rfl, ?_⟩) hHeld ?_ ?_
                        rotate_left
                        · rintro w' ⟨s0, s1, s2, s3, s4, s5, s6, s7⟩
                          go_simp
                          with_reducible rfl
                        rotate_left
                        · simp only [Act.put, List.setIfInBounds_toArray, List.set_cons_zero, List.set_cons_succ, i64_w, i32_w]
                          rfl
                        refine one_ (i := 8) (N := some 23) #[true, true, true, true, true, true, true, true, true, false] rfl rfl (one_of HT_.out (by kernel_rfl)) (by decide) (fun K hK => ?_)
                        refine goes_ Try.func141 (by kernel_rfl) rfl #[.agg #[.int .i64 ((rd_T23 l0 x7_1).f0), .int .i64 ((rd_T23 l0 x7_1).f1), .int .i64 ((rd_T23 l0 x7_1).f2), .int .i64 ((rd_T23 l0 x7_1).f3)], .agg #[.int .i64 ((rd_T23 l0 x4_2).f0), .int .i64 ((rd_T23 l0 x4_2).f1), .int .i64 ((rd_T23 l0 x4_2).f2), .int .i64 ((rd_T23 l0 x4_2).f3)]] (by rfl) rfl rfl (by (try simp only [List.map_toArray, List.map_cons, List.map_nil]); first | done | rfl | (simp only [List.length_drop, List.length_take]; rfl)) ?_
                        with_reducible refine (sashref04_Apart.calls ((rd_T23 l0 x7_1).f0) ((rd_T23 l0 x7_1).f1) ((rd_T23 l0 x7_1).f2) ((rd_T23 l0 x7_1).f3) ((rd_T23 l0 x4_2).f0) ((rd_T23 l0 x4_2).f1) ((rd_T23 l0 x4_2).f2) ((rd_T23 l0 x4_2).f3) false _ A8.out).mono ?_
                        rintro e w13 ⟨rfl, hb⟩
                        refine ⟨_, rfl, ?_⟩
                        have n0_ := Aside0.mk (below_step (by repeat (first | (with_reducible first | exact HB.out | apply below_alloc | apply pw_below_drewN | apply below_drew1) | exact HB.out)) hb)
                        clear HB
                        have HB := n0_
                        clear n0_
                        (try clear hb)
                        (try clear hb2)
                        (try clear hk)
                        (try clear hi)
                        refine hK.out _ _ ⟨((HB.out.cell (World.block_lt_of_cell? w _ hw765_0)).trans hw765_0), ((HB.out.cell (World.block_lt_of_cell? w _ hw765_1)).trans hw765_1), ((HB.out.cell (World.block_lt_of_cell? w _ hw765_2)).trans hw765_2), ((HB.out.cell (World.block_lt_of_cell? w _ hw765_3)).trans hw765_3), ((HB.out.cell (World.block_lt_of_cell? w _ hw766_0)).trans hw766_0), ((HB.out.cell (World.block_lt_of_cell? w _ hw766_1)).trans hw766_1), ((HB.out.cell (World.block_lt_of_cell? w _ hw766_2)).trans hw766_2), ((HB.out.cell (World.block_lt_of_cell? w _ hw766_3)).trans hw766_3)⟩ (fun hHeld => ?_)
                        clear hK K
                        refine norm_ (a' := ?_) ?_ ?_
                        rotate_left
                        · show Act.put _ (some 23) _ = _
                          simp only [Act.put, List.setIfInBounds_toArray, List.set_cons_zero, List.set_cons_succ, i64_w, i32_w]
                          rfl
                        refine pure_ (i := 9) (N := some 24) (v := ?_) (a' := ?_) #[true, true, true, true, true, true, true, true, true, true] rfl rfl (any_of HT_.out (by kernel_rfl)) (fun _ _ _ h => h) (Or.inl ⟨by rfl, ?_⟩) ?_ ?_
                        rotate_left
                        · intro w'
                          go_simp
                          with_reducible rfl
                        rotate_left
                        · simp only [Act.put, List.setIfInBounds_toArray, List.set_cons_zero, List.set_cons_succ, i64_w, i32_w]
                          rfl
                        refine done_ (done_of HT_.out (by kernel_rfl)) ?_
                        try go_wp2
                        go_ret
                        exact ⟨by first | rfl | (simp [errW_none, errW_some] <;> rfl) | (simp [*, errW_none, errW_some] <;> rfl), by repeat (first | (with_reducible first | exact HB.out | apply below_alloc | apply pw_below_drewN | apply below_drew1) | exact HB.out)⟩
                    · rw [if_neg c7] at H
                      exact absurd H (by simp)
                  · rw [if_neg c6] at H
                    exact absurd H (by simp)
                · rw [if_neg c5] at H
                  exact absurd H (by simp)
              · rw [if_neg c4] at H
                exact absurd H (by simp)
            · rw [if_neg c3] at H
              have c3b0 : decide (x4_2 < x7_1) = false := decide_eq_false c3
              clear c3
              have H' := Aside0.mk H
              clear H
              go_wp2
              go_roundg k2
              case measure => have := HK1.out; have := HK2.out; omega
              case rel => exact ⟨(wrap64 (x7_1 + 1)), (by first | rfl | (simp; done) | (simp [*]; done)), H', ⟨by have := HK1.out; have := HK2.out; omega⟩, ⟨by repeat (first | (with_reducible first | exact HB.out | apply below_alloc | apply pw_below_drewN | apply below_drew1) | exact HB.out)⟩⟩
      · rw [if_neg c2] at H
        have c2b0 : decide (x7_1 < (l0.length : Int)) = false := decide_eq_false c2
        clear c2
        replace H := Option.bind_eq_some_iff.mp H
        obtain ⟨t764, A140, H⟩ := H
        replace H : (some t764) = some r := H
        have A14 := Aside0.mk A140
        clear A140
        obtain rfl := Option.some.inj H
        go_wp2_with (first | ((with_reducible refine gate_callee (f := 70) rfl ?_); refine goesL_ (some 27) rfl rfl Try.func70 (by kernel_rfl) rfl #[.slice A0 l0.length c0] rfl (by (try simp only [List.map_toArray, List.map_cons, List.map_nil]); first | done | rfl | (simp only [List.length_drop, List.length_take]; rfl)) ?_; (with_reducible refine (sashref04_All.calls k1 _ _ l0 t764 _ ?side1 ?side2 A14.out).mono ?_); (case side1 => repeat (first | exact (Kd.C_below HR0.out HB.out) | (with_reducible refine Kd.C_alloc ?_ _) | (with_reducible refine Kd.C_drewN ?_ _) | (with_reducible refine Kd.C_drew ?_))); (case side2 => exact HC0.out); rintro e w15 ⟨rfl, hb⟩; refine ⟨_, rfl, ?_⟩; have n0_ := Aside0.mk (below_step (by repeat (first | (with_reducible first | exact HB.out | apply below_alloc | apply pw_below_drewN | apply below_drew1) | exact HB.out)) hb); clear HB; have HB := n0_; clear n0_; (try clear hb); (try clear hb2); (try clear hk); (try clear hi)))
        go_ret
        exact ⟨by first | rfl | (simp [errW_none, errW_some] <;> rfl) | (simp [*, errW_none, errW_some] <;> rfl), by repeat (first | (with_reducible first | exact HB.out | apply below_alloc | apply pw_below_drewN | apply below_drew1) | exact HB.out)⟩

end Go.Proofs.Ytfdmfgaiblfbhaa.P
namespace Go.Proofs.Ytfdmfgaiblfbhaa.P
open Go.RowKit Go.Proofs.YtfdmfgaiblfbhaaW.PrintWords Go.Proofs.YtfdmfgaiblfbhaaW.PrintLast Go.Proofs.YtfdmfgaiblfbhaaW.PrintMore
attribute [local go_sem] max2_int min2_int max_two min_two max_three min_three max_four min_four   -- for this text's walks alone
set_option linter.unusedVariables false
set_option linter.unusedSimpArgs false

/-! ### rect_Area: function 72 -/
def rect_Area.l0 : Nat → Int → List (S23) → Int → Int → Option (Int)
  | 0, _, _, _, _ => none
  | k + 1, x3, x6, x7, x8 => if x8 < x7 then (if 0 ≤ x8 then (if x8 < (x6.length : Int) then ((rect_may.f ((rd_T23 x6 x8).f0) ((rd_T23 x6 x8).f1) ((rd_T23 x6 x8).f2) ((rd_T23 x6 x8).f3)).bind fun t770 => (if t770 = true then (rect_Area.l0 k (wrap64 (x3 + (wrap64 (((rd_T23 x6 x8).f2) * ((rd_T23 x6 x8).f3))))) x6 x7 (wrap64 (x8 + 1))) else (rect_Area.l0 k x3 x6 x7 (wrap64 (x8 + 1))))) else (none)) else (none)) else (some x3)
def rect_Area.f (k : Nat) (l0 : List (S23)) : Option (Int) := rect_Area.l0 k 0 l0 (l0.length : Int) 0
theorem rect_Area.mono_l : ∀ k, (∀ y0 y1 y2 y3, LeO (rect_Area.l0 k y0 y1 y2 y3) (rect_Area.l0 (k + 1) y0 y1 y2 y3))
  | 0 => fun _ _ _ _ r h => by simp [rect_Area.l0] at h
  | k + 1 => by
    have ih0 := rect_Area.mono_l k
    · intro y0 y1 y2 y3
      unfold rect_Area.l0
      repeat' first
      | (with_reducible exact ih0 _ _ _ _)
      | (with_reducible exact LeO.refl _)
      | (with_reducible exact LeO.none _)
      | (with_reducible refine LeO.ite ?_ ?_)
      | (with_reducible refine LeO.bind ?_ (fun _ => ?_))
      | exact ih0 _ _ _ _
      | exact LeO.none _
      | refine LeO.ite ?_ ?_
      | refine LeO.bind ?_ (fun _ => ?_)
theorem rect_Area.mono : ∀ a0 k, LeO (rect_Area.f k a0) (rect_Area.f (k + 1) a0) := by
  intro a0 k
  have ih0 := rect_Area.mono_l k
  unfold rect_Area.f
  repeat' first
      | (with_reducible exact ih0 _ _ _ _)
      | (with_reducible exact LeO.refl _)
      | (with_reducible exact LeO.none _)
      | (with_reducible refine LeO.ite ?_ ?_)
      | (with_reducible refine LeO.bind ?_ (fun _ => ?_))
      | exact ih0 _ _ _ _
      | exact LeO.none _
      | refine LeO.ite ?_ ?_
      | refine LeO.bind ?_ (fun _ => ?_)
set_option maxHeartbeats 8000000 in
set_option maxRecDepth 100000 in
theorem rect_Area.calls (k : Nat) (A0 : Option Addr) (c0 : Nat) (l0 : List (S23)) (r : Int) (w : World) (hr0 : Kd.C k23 w A0 l0.length l0) (hc0 : l0.length ≤ c0) (h : rect_Area.f k l0 = some r) :
    Calls Try.prog 72 #[.slice A0 l0.length c0] w fun e w' => e = .returned (.int .i64 r) ∧ Below w.heap.size w w' := by
  have hu23 := Try.underlying23
  have HR0 := Aside0.mk hr0
  have HC0 := Aside0.mk hc0
  clear hr0 hc0
  have HB := Aside0.mk (Below.refl w.heap.size w)
  have H : (rect_Area.l0 k 0 l0 (l0.length : Int) 0) = some r := h
  clear h
  have H' := Aside0.mk H
  clear H
  go_enter Try.func72, Try.ntmps72
  go_wp2
  go_loopg [3, 8] k (fun kq v3 v8 w' => ∃ (x3_1 : Int) (x8_1 : Int), v3 = .int .i64 x3_1 ∧ v8 = .int .i64 x8_1 ∧ Aside0 (rect_Area.l0 kq x3_1 l0 (l0.length : Int) x8_1 = some r) ∧ Aside0 (kq ≤ k) ∧ Aside0 (Below w.heap.size w w'))
  case atStart => exact ⟨(0), (0), (by first | rfl | (simp; done) | (simp [*]; done)), (by first | rfl | (simp; done) | (simp [*]; done)), H', ⟨Nat.le_refl _⟩, ⟨by repeat (first | (with_reducible first | exact HB.out | apply below_alloc | apply pw_below_drewN | apply below_drew1) | exact HB.out)⟩⟩
  case round =>
    clear H'
    obtain ⟨x3_1, x8_1, rfl, rfl, HA, HK1, HB⟩ := hrel
    cases gk with
    | zero => exact absurd HA.out (by simp [rect_Area.l0])
    | succ k1 =>
      have H := HA.out
      clear HA
      simp only [rect_Area.l0] at H
      by_cases c2 : x8_1 < (l0.length : Int)
      · rw [if_pos c2] at H
        have c2b0 : decide (x8_1 < (l0.length : Int)) = true := decide_eq_true c2
        clear c2
        by_cases c3 : 0 ≤ x8_1
        · rw [if_pos c3] at H
          have c3b0 : decide (0 ≤ x8_1) = true := decide_eq_true c3
          clear c3
          by_cases c4 : x8_1 < (l0.length : Int)
          · rw [if_pos c4] at H
            have c4b0 : decide (x8_1 < (l0.length : Int)) = true := decide_eq_true c4
            clear c4
            replace H := Option.bind_eq_some_iff.mp H
            obtain ⟨t770, A50, H⟩ := H
            replace H : (if t770 = true then (rect_Area.l0 k1 (wrap64 (x3_1 + (wrap64 (((rd_T23 l0 x8_1).f2) * ((rd_T23 l0 x8_1).f3))))) l0 (l0.length : Int) (wrap64 (x8_1 + 1))) else (rect_Area.l0 k1 x3_1 l0 (l0.length : Int) (wrap64 (x8_1 + 1)))) = some r := H
            have A5 := Aside0.mk A50
            clear A50
            by_cases c6 : t770 = true
            · subst c6
              have H1 : (rect_Area.l0 k1 (wrap64 (x3_1 + (wrap64 (((rd_T23 l0 x8_1).f2) * ((rd_T23 l0 x8_1).f3))))) l0 (l0.length : Int) (wrap64 (x8_1 + 1))) = some r := by rw [if_pos rfl] at H; exact H
              clear H
              have H := H1
              clear H1
              have H' := Aside0.mk H
              clear H
              have p768 : 0 ≤ (x8_1 : Int) := of_decide_eq_true (by first | (with_reducible assumption) | assumption)
              have q768 : x8_1 < (l0.length : Int) := of_decide_eq_true (by first | (with_reducible assumption) | assumption)
              obtain ⟨ad768, e768, hx768_0, hx768_1, hx768_2, hx768_3⟩ := at_T23 HR0.out x8_1 p768 q768
              cases e768
              replace hx768_0 := (HB.out.cell (World.block_lt_of_cell? w _ hx768_0)).trans hx768_0
              replace hx768_1 := (HB.out.cell (World.block_lt_of_cell? w _ hx768_1)).trans hx768_1
              replace hx768_2 := (HB.out.cell (World.block_lt_of_cell? w _ hx768_2)).trans hx768_2
              replace hx768_3 := (HB.out.cell (World.block_lt_of_cell? w _ hx768_3)).trans hx768_3
              replace p768 := eq_true p768
              replace q768 := eq_true q768
              go_wp2_with (first | ((with_reducible refine gate_dst (N := 5) rfl ?_); refine box_event ?hg (N := 5) ?hd (cs := #[.int .i64 0, .int .i64 0, .int .i64 0, .int .i64 0]) (t := 23) ?hr ?_; (case hd => rfl); (case hg => rfl); (case hr => first | (go_simp; done) | (go_simp; rfl)); intro gb769 hg w7 hbox hb; have n0_ := Aside0.mk (below_step (by repeat (first | (with_reducible first | exact HB.out | apply below_alloc | apply pw_below_drewN | apply below_drew1) | exact HB.out)) hb); have n1_ := Aside0.mk (hbox); have n2_ := Aside0.mk ((by rw [hg]; exact (below_size (by repeat (first | (with_reducible first | exact HB.out | apply below_alloc | apply pw_below_drewN | apply below_drew1) | exact HB.out))) : w.heap.size ≤ gb769)); have n3_ := Aside0.mk ((by rw [hg]; exact (below_size (by repeat (first | (with_reducible first | exact HB.out | apply below_alloc | apply pw_below_drewN | apply below_drew1) | exact HB.out))) : w.heap.size ≤ gb769)); clear HB; have HB := n0_; have BK769 := n1_; have GW769 := n2_; have GE769 := n3_; clear n0_ n1_ n2_ n3_; clear hb hbox hg; have hcz8_0 : w7.cell? ⟨gb769, 0, none⟩ = some (.int .i64 0) := (blk_cell BK769.out 0).trans rfl; have hcz8_1 : w7.cell? ⟨gb769, 1, none⟩ = some (.int .i64 0) := (blk_cell BK769.out 1).trans rfl; have hcz8_2 : w7.cell? ⟨gb769, 2, none⟩ = some (.int .i64 0) := (blk_cell BK769.out 2).trans rfl; have hcz8_3 : w7.cell? ⟨gb769, 3, none⟩ = some (.int .i64 0) := (blk_cell BK769.out 3).trans rfl; have hfz8_0 := blk_frozen BK769.out 0; have hfz8_1 := blk_frozen BK769.out 1; have hfz8_2 := blk_frozen BK769.out 2; have hfz8_3 := blk_frozen BK769.out 3) | ((with_reducible refine gate_callee (f := 128) rfl ?_); refine goesL_ (some 13) rfl rfl Try.func128 (by kernel_rfl) rfl #[.agg #[.int .i64 ((rd_T23 l0 x8_1).f0), .int .i64 ((rd_T23 l0 x8_1).f1), .int .i64 ((rd_T23 l0 x8_1).f2), .int .i64 ((rd_T23 l0 x8_1).f3)]] rfl (by (try simp only [List.map_toArray, List.map_cons, List.map_nil]); first | done | rfl | (simp only [List.length_drop, List.length_take]; rfl)) ?_; (with_reducible refine (rect_may.calls ((rd_T23 l0 x8_1).f0) ((rd_T23 l0 x8_1).f1) ((rd_T23 l0 x8_1).f2) ((rd_T23 l0 x8_1).f3) true _ A5.out).mono ?_); rintro e w9 ⟨rfl, hb⟩; refine ⟨_, rfl, ?_⟩; have n0_ := Aside0.mk (blk_below (g := gb769) (o := .cells #[.int .i64 ((rd_T23 l0 x8_1).f0), .int .i64 ((rd_T23 l0 x8_1).f1), .int .i64 ((rd_T23 l0 x8_1).f2), .int .i64 ((rd_T23 l0 x8_1).f3)] 23 (0, 0)) (by (with_reducible repeat (first | refine blk_drewN ?_ _ | refine blk_drew ?_ | refine blk_alloc ?_ _)); refine blk_put (cs := #[.int .i64 ((rd_T23 l0 x8_1).f0), .int .i64 ((rd_T23 l0 x8_1).f1), .int .i64 ((rd_T23 l0 x8_1).f2), .int .i64 0]) ?_ 3 _ rfl; (with_reducible repeat (first | refine blk_drewN ?_ _ | refine blk_drew ?_ | refine blk_alloc ?_ _)); refine blk_put (cs := #[.int .i64 ((rd_T23 l0 x8_1).f0), .int .i64 ((rd_T23 l0 x8_1).f1), .int .i64 0, .int .i64 0]) ?_ 2 _ rfl; (with_reducible repeat (first | refine blk_drewN ?_ _ | refine blk_drew ?_ | refine blk_alloc ?_ _)); refine blk_put (cs := #[.int .i64 ((rd_T23 l0 x8_1).f0), .int .i64 0, .int .i64 0, .int .i64 0]) ?_ 1 _ rfl; (with_reducible repeat (first | refine blk_drewN ?_ _ | refine blk_drew ?_ | refine blk_alloc ?_ _)); refine blk_put (cs := #[.int .i64 0, .int .i64 0, .int .i64 0, .int .i64 0]) ?_ 0 _ rfl; (with_reducible repeat (first | refine blk_drewN ?_ _ | refine blk_drew ?_ | refine blk_alloc ?_ _)); exact BK769.out) hb); have n1_ := Aside0.mk (below_step (by repeat (first | (with_reducible first | exact HB.out | apply below_alloc | apply pw_below_drewN | apply below_drew1 | refine below_set ?_ GE769.out) | exact HB.out)) hb); clear BK769; clear HB; have BK769 := n0_; have HB := n1_; clear n0_ n1_; (try clear hb); (try clear hb2); (try clear hk); (try clear hi); have hcz10_0 : w9.cell? ⟨gb769, 0, none⟩ = some (.int .i64 ((rd_T23 l0 x8_1).f0)) := (blk_cell BK769.out 0).trans rfl; have hcz10_1 : w9.cell? ⟨gb769, 1, none⟩ = some (.int .i64 ((rd_T23 l0 x8_1).f1)) := (blk_cell BK769.out 1).trans rfl; have hcz10_2 : w9.cell? ⟨gb769, 2, none⟩ = some (.int .i64 ((rd_T23 l0 x8_1).f2)) := (blk_cell BK769.out 2).trans rfl; have hcz10_3 : w9.cell? ⟨gb769, 3, none⟩ = some (.int .i64 ((rd_T23 l0 x8_1).f3)) := (blk_cell BK769.out 3).trans rfl; have hfz10_0 := blk_frozen BK769.out 0; have hfz10_1 := blk_frozen BK769.out 1; have hfz10_2 := blk_frozen BK769.out 2; have hfz10_3 := blk_frozen BK769.out 3))
              go_roundg k1
              case measure => have := HK1.out; omega
              case rel => exact ⟨(wrap64 (x3_1 + (wrap64 (((rd_T23 l0 x8_1).f2) * ((rd_T23 l0 x8_1).f3))))), (wrap64 (x8_1 + 1)), (by first | rfl | (simp; done) | (simp [*]; done)), (by first | rfl | (simp; done) | (simp [*]; done)), H', ⟨by have := HK1.out; omega⟩, ⟨by repeat (first | (with_reducible first | exact HB.out | apply below_alloc | apply pw_below_drewN | apply below_drew1 | refine below_set ?_ GE769.out) | exact HB.out)⟩⟩
            · replace c6 := Bool.eq_false_iff.mpr c6
              subst c6
              have H1 : (rect_Area.l0 k1 x3_1 l0 (l0.length : Int) (wrap64 (x8_1 + 1))) = some r := by rw [if_neg (show ¬ (false = true) by decide)] at H; exact H
              clear H
              have H := H1
              clear H1
              have H' := Aside0.mk H
              clear H
              have p768 : 0 ≤ (x8_1 : Int) := of_decide_eq_true (by first | (with_reducible assumption) | assumption)
              have q768 : x8_1 < (l0.length : Int) := of_decide_eq_true (by first | (with_reducible assumption) | assumption)
              obtain ⟨ad768, e768, hx768_0, hx768_1, hx768_2, hx768_3⟩ := at_T23 HR0.out x8_1 p768 q768
              cases e768
              replace hx768_0 := (HB.out.cell (World.block_lt_of_cell? w _ hx768_0)).trans hx768_0
              replace hx768_1 := (HB.out.cell (World.block_lt_of_cell? w _ hx768_1)).trans hx768_1
              replace hx768_2 := (HB.out.cell (World.block_lt_of_cell? w _ hx768_2)).trans hx768_2
              replace hx768_3 := (HB.out.cell (World.block_lt_of_cell? w _ hx768_3)).trans hx768_3
              replace p768 := eq_true p768
              replace q768 := eq_true q768
              go_wp2_with (first | ((with_reducible refine gate_dst (N := 5) rfl ?_); refine box_event ?hg (N := 5) ?hd (cs := #[.int .i64 0, .int .i64 0, .int .i64 0, .int .i64 0]) (t := 23) ?hr ?_; (case hd => rfl); (case hg => rfl); (case hr => first | (go_simp; done) | (go_simp; rfl)); intro gb769 hg w11 hbox hb; have n0_ := Aside0.mk (below_step (by repeat (first | (with_reducible first | exact HB.out | apply below_alloc | apply pw_below_drewN | apply below_drew1) | exact HB.out)) hb); have n1_ := Aside0.mk (hbox); have n2_ := Aside0.mk ((by rw [hg]; exact (below_size (by repeat (first | (with_reducible first | exact HB.out | apply below_alloc | apply pw_below_drewN | apply below_drew1) | exact HB.out))) : w.heap.size ≤ gb769)); have n3_ := Aside0.mk ((by rw [hg]; exact (below_size (by repeat (first | (with_reducible first | exact HB.out | apply below_alloc | apply pw_below_drewN | apply below_drew1) | exact HB.out))) : w.heap.size ≤ gb769)); clear HB; have HB := n0_; have BK769 := n1_; have GW769 := n2_; have GE769 := n3_; clear n0_ n1_ n2_ n3_; clear hb hbox hg; have hcz12_0 : w11.cell? ⟨gb769, 0, none⟩ = some (.int .i64 0) := (blk_cell BK769.out 0).trans rfl; have hcz12_1 : w11.cell? ⟨gb769, 1, none⟩ = some (.int .i64 0) := (blk_cell BK769.out 1).trans rfl; have hcz12_2 : w11.cell? ⟨gb769, 2, none⟩ = some (.int .i64 0) := (blk_cell BK769.out 2).trans rfl; have hcz12_3 : w11.cell? ⟨gb769, 3, none⟩ = some (.int .i64 0) := (blk_cell BK769.out 3).trans rfl; have hfz12_0 := blk_frozen BK769.out 0; have hfz12_1 := blk_frozen BK769.out 1; have hfz12_2 := blk_frozen BK769.out 2; have hfz12_3 := blk_frozen BK769.out 3) | ((with_reducible refine gate_callee (f := 128) rfl ?_); refine goesL_ (some 13) rfl rfl Try.func128 (by kernel_rfl) rfl #[.agg #[.int .i64 ((rd_T23 l0 x8_1).f0), .int .i64 ((rd_T23 l0 x8_1).f1), .int .i64 ((rd_T23 l0 x8_1).f2), .int .i64 ((rd_T23 l0 x8_1).f3)]] rfl (by (try simp only [List.map_toArray, List.map_cons, List.map_nil]); first | done | rfl | (simp only [List.length_drop, List.length_take]; rfl)) ?_; (with_reducible refine (rect_may.calls ((rd_T23 l0 x8_1).f0) ((rd_T23 l0 x8_1).f1) ((rd_T23 l0 x8_1).f2) ((rd_T23 l0 x8_1).f3) false _ A5.out).mono ?_); rintro e w13 ⟨rfl, hb⟩; refine ⟨_, rfl, ?_⟩; have n0_ := Aside0.mk (blk_below (g := gb769) (o := .cells #[.int .i64 ((rd_T23 l0 x8_1).f0), .int .i64 ((rd_T23 l0 x8_1).f1), .int .i64 ((rd_T23 l0 x8_1).f2), .int .i64 ((rd_T23 l0 x8_1).f3)] 23 (0, 0)) (by (with_reducible repeat (first | refine blk_drewN ?_ _ | refine blk_drew ?_ | refine blk_alloc ?_ _)); refine blk_put (cs := #[.int .i64 ((rd_T23 l0 x8_1).f0), .int .i64 ((rd_T23 l0 x8_1).f1), .int .i64 ((rd_T23 l0 x8_1).f2), .int .i64 0]) ?_ 3 _ rfl; (with_reducible repeat (first | refine blk_drewN ?_ _ | refine blk_drew ?_ | refine blk_alloc ?_ _)); refine blk_put (cs := #[.int .i64 ((rd_T23 l0 x8_1).f0), .int .i64 ((rd_T23 l0 x8_1).f1), .int .i64 0, .int .i64 0]) ?_ 2 _ rfl; (with_reducible repeat (first | refine blk_drewN ?_ _ | refine blk_drew ?_ | refine blk_alloc ?_ _)); refine blk_put (cs := #[.int .i64 ((rd_T23 l0 x8_1).f0), .int .i64 0, .int .i64 0, .int .i64 0]) ?_ 1 _ rfl; (with_reducible repeat (first | refine blk_drewN ?_ _ | refine blk_drew ?_ | refine blk_alloc ?_ _)); refine blk_put (cs := #[.int .i64 0, .int .i64 0, .int .i64 0, .int .i64 0]) ?_ 0 _ rfl; (with_reducible repeat (first | refine blk_drewN ?_ _ | refine blk_drew ?_ | refine blk_alloc ?_ _)); exact BK769.out) hb); have n1_ := Aside0.mk (below_step (by repeat (first | (with_reducible first | exact HB.out | apply below_alloc | apply pw_below_drewN | apply below_drew1 | refine below_set ?_ GE769.out) | exact HB.out)) hb); clear BK769; clear HB; have BK769 := n0_; have HB := n1_; clear n0_ n1_; (try clear hb); (try clear hb2); (try clear hk); (try clear hi)))
              go_roundg k1
              case measure => have := HK1.out; omega
              case rel => exact ⟨(x3_1), (wrap64 (x8_1 + 1)), (by first | rfl | (simp; done) | (simp [*]; done)), (by first | rfl | (simp; done) | (simp [*]; done)), H', ⟨by have := HK1.out; omega⟩, ⟨by repeat (first | (with_reducible first | exact HB.out | apply below_alloc | apply pw_below_drewN | apply below_drew1 | refine below_set ?_ GE769.out) | exact HB.out)⟩⟩
          · rw [if_neg c4] at H
            exact absurd H (by simp)
        · rw [if_neg c3] at H
          exact absurd H (by simp)
      · rw [if_neg c2] at H
        have c2b0 : decide (x8_1 < (l0.length : Int)) = false := decide_eq_false c2
        clear c2
        obtain rfl := Option.some.inj H
        go_wp2
        go_ret
        exact ⟨by first | rfl | (simp [errW_none, errW_some] <;> rfl) | (simp [*, errW_none, errW_some] <;> rfl), by repeat (first | (with_reducible first | exact HB.out | apply below_alloc | apply pw_below_drewN | apply below_drew1) | exact HB.out)⟩

end Go.Proofs.Ytfdmfgaiblfbhaa.P
namespace Go.Proofs.Ytfdmfgaiblfbhaa.P
open Go.RowKit Go.Proofs.YtfdmfgaiblfbhaaW.PrintWords Go.Proofs.YtfdmfgaiblfbhaaW.PrintLast Go.Proofs.YtfdmfgaiblfbhaaW.PrintMore
attribute [local go_sem] max2_int min2_int max_two min_two max_three min_three max_four min_four   -- for this text's walks alone
set_option linter.unusedVariables false
set_option linter.unusedSimpArgs false

/-! ### sashref04_Area: function 73 -/
def sashref04_Area.l0 : Nat → List (S23) → Int → Int → Int → Option (Int)
  | 0, _, _, _, _ => none
  | k + 1, x0, x3, x6, x7 => if x7 < x6 then (if 0 ≤ x7 then (if x7 < (x0.length : Int) then ((sashref04_May.f ((rd_T23 x0 x7).f0) ((rd_T23 x0 x7).f1) ((rd_T23 x0 x7).f2) ((rd_T23 x0 x7).f3)).bind fun t772 => (if t772 = true then (sashref04_Area.l0 k x0 (wrap64 (x3 + (wrap64 (((rd_T23 x0 x7).f2) * ((rd_T23 x0 x7).f3))))) x6 (wrap64 (x7 + 1))) else (sashref04_Area.l0 k x0 x3 x6 (wrap64 (x7 + 1))))) else (none)) else (none)) else (some x3)
def sashref04_Area.f (k : Nat) (l0 : List (S23)) : Option (Int) := sashref04_Area.l0 k l0 0 (l0.length : Int) 0
theorem sashref04_Area.mono_l : ∀ k, (∀ y0 y1 y2 y3, LeO (sashref04_Area.l0 k y0 y1 y2 y3) (sashref04_Area.l0 (k + 1) y0 y1 y2 y3))
  | 0 => fun _ _ _ _ r h => by simp [sashref04_Area.l0] at h
  | k + 1 => by
    have ih0 := sashref04_Area.mono_l k
    · intro y0 y1 y2 y3
      unfold sashref04_Area.l0
      repeat' first
      | (with_reducible exact ih0 _ _ _ _)
      | (with_reducible exact LeO.refl _)
      | (with_reducible exact LeO.none _)
      | (with_reducible refine LeO.ite ?_ ?_)
      | (with_reducible refine LeO.bind ?_ (fun _ => ?_))
      | exact ih0 _ _ _ _
      | exact LeO.none _
      | refine LeO.ite ?_ ?_
      | refine LeO.bind ?_ (fun _ => ?_)
theorem sashref04_Area.mono : ∀ a0 k, LeO (sashref04_Area.f k a0) (sashref04_Area.f (k + 1) a0) := by
  intro a0 k
  have ih0 := sashref04_Area.mono_l k
  unfold sashref04_Area.f
  repeat' first
      | (with_reducible exact ih0 _ _ _ _)
      | (with_reducible exact LeO.refl _)
      | (with_reducible exact LeO.none _)
      | (with_reducible refine LeO.ite ?_ ?_)
      | (with_reducible refine LeO.bind ?_ (fun _ => ?_))
      | exact ih0 _ _ _ _
      | exact LeO.none _
      | refine LeO.ite ?_ ?_
      | refine LeO.bind ?_ (fun _ => ?_)
set_option maxHeartbeats 8000000 in
set_option maxRecDepth 100000 in
theorem sashref04_Area.calls (k : Nat) (A0 : Option Addr) (c0 : Nat) (l0 : List (S23)) (r : Int) (w : World) (hr0 : Kd.C k23 w A0 l0.length l0) (hc0 : l0.length ≤ c0) (h : sashref04_Area.f k l0 = some r) :
    Calls Try.prog 73 #[.slice A0 l0.length c0] w fun e w' => e = .returned (.int .i64 r) ∧ Below w.heap.size w w' := by
  have hu23 := Try.underlying23
  have HR0 := Aside0.mk hr0
  have HC0 := Aside0.mk hc0
  clear hr0 hc0
  have HB := Aside0.mk (Below.refl w.heap.size w)
  have H : (sashref04_Area.l0 k l0 0 (l0.length : Int) 0) = some r := h
  clear h
  have H' := Aside0.mk H
  clear H
  go_enter Try.func73, Try.ntmps73
  go_wp2
  repeat (go_quiet (fail); try go_wp2)
  go_loopg [3, 7] k (fun kq v3 v7 w' => ∃ (x3_1 : Int) (x7_1 : Int), v3 = .int .i64 x3_1 ∧ v7 = .int .i64 x7_1 ∧ Aside0 (sashref04_Area.l0 kq l0 x3_1 (l0.length : Int) x7_1 = some r) ∧ Aside0 (kq ≤ k) ∧ Aside0 (Below w.heap.size w w'))
  case atStart => exact ⟨(0), (0), (by first | rfl | (simp; done) | (simp [*]; done)), (by first | rfl | (simp; done) | (simp [*]; done)), H', ⟨Nat.le_refl _⟩, ⟨by repeat (first | (with_reducible first | exact HB.out | apply below_alloc | apply pw_below_drewN | apply below_drew1) | exact HB.out)⟩⟩
  case round =>
    clear H'
    obtain ⟨x3_1, x7_1, rfl, rfl, HA, HK1, HB⟩ := hrel
    cases gk with
    | zero => exact absurd HA.out (by simp [sashref04_Area.l0])
    | succ k1 =>
      have H := HA.out
      clear HA
      simp only [sashref04_Area.l0] at H
      by_cases c2 : x7_1 < (l0.length : Int)
      · rw [if_pos c2] at H
        have c2b0 : decide (x7_1 < (l0.length : Int)) = true := decide_eq_true c2
        clear c2
        by_cases c3 : 0 ≤ x7_1
        · rw [if_pos c3] at H
          have c3b0 : decide (0 ≤ x7_1) = true := decide_eq_true c3
          clear c3
          by_cases c4 : x7_1 < (l0.length : Int)
          · rw [if_pos c4] at H
            have c4b0 : decide (x7_1 < (l0.length : Int)) = true := decide_eq_true c4
            clear c4
            replace H := Option.bind_eq_some_iff.mp H
            obtain ⟨t772, A50, H⟩ := H
            replace H : (if t772 = true then (sashref04_Area.l0 k1 l0 (wrap64 (x3_1 + (wrap64 (((rd_T23 l0 x7_1).f2) * ((rd_T23 l0 x7_1).f3))))) (l0.length : Int) (wrap64 (x7_1 + 1))) else (sashref04_Area.l0 k1 l0 x3_1 (l0.length : Int) (wrap64 (x7_1 + 1)))) = some r := H
            have A5 := Aside0.mk A50
            clear A50
            by_cases c6 : t772 = true
            · subst c6
              have H1 : (sashref04_Area.l0 k1 l0 (wrap64 (x3_1 + (wrap64 (((rd_T23 l0 x7_1).f2) * ((rd_T23 l0 x7_1).f3))))) (l0.length : Int) (wrap64 (x7_1 + 1))) = some r := by rw [if_pos rfl] at H; exact H
              clear H
              have H := H1
              clear H1
              have H' := Aside0.mk H
              clear H
              have p771 : 0 ≤ (x7_1 : Int) := of_decide_eq_true (by first | (with_reducible assumption) | assumption)
              have q771 : x7_1 < (l0.length : Int) := of_decide_eq_true (by first | (with_reducible assumption) | assumption)
              obtain ⟨ad771, e771, hx771_0, hx771_1, hx771_2, hx771_3⟩ := at_T23 HR0.out x7_1 p771 q771
              cases e771
              replace hx771_0 := (HB.out.cell (World.block_lt_of_cell? w _ hx771_0)).trans hx771_0
              replace hx771_1 := (HB.out.cell (World.block_lt_of_cell? w _ hx771_1)).trans hx771_1
              replace hx771_2 := (HB.out.cell (World.block_lt_of_cell? w _ hx771_2)).trans hx771_2
              replace hx771_3 := (HB.out.cell (World.block_lt_of_cell? w _ hx771_3)).trans hx771_3
              replace p771 := eq_true p771
              replace q771 := eq_true q771
              go_wp2_with (first | (go_at_call 57; (with_reducible refine (sashref04_May.calls ((rd_T23 l0 x7_1).f0) ((rd_T23 l0 x7_1).f1) ((rd_T23 l0 x7_1).f2) ((rd_T23 l0 x7_1).f3) true _ A5.out).mono ?_); rintro e w7 ⟨rfl, hb⟩; have n0_ := Aside0.mk (below_step (by repeat (first | (with_reducible first | exact HB.out | apply below_alloc | apply pw_below_drewN | apply below_drew1) | exact HB.out)) hb); clear HB; have HB := n0_; clear n0_; (try clear hb); (try clear hb2); (try clear hk); (try clear hi); have p773 : 0 ≤ (x7_1 : Int) := of_decide_eq_true (by first | (with_reducible assumption) | assumption); have q773 : x7_1 < (l0.length : Int) := of_decide_eq_true (by first | (with_reducible assumption) | assumption); obtain ⟨ad773, e773, hx773_0, hx773_1, hx773_2, hx773_3⟩ := at_T23 HR0.out x7_1 p773 q773; obtain rfl : ad771 = ad773 := (by injection e773); replace hx773_0 := (HB.out.cell (World.block_lt_of_cell? w _ hx773_0)).trans hx773_0; replace hx773_1 := (HB.out.cell (World.block_lt_of_cell? w _ hx773_1)).trans hx773_1; replace hx773_2 := (HB.out.cell (World.block_lt_of_cell? w _ hx773_2)).trans hx773_2; replace hx773_3 := (HB.out.cell (World.block_lt_of_cell? w _ hx773_3)).trans hx773_3; replace p773 := eq_true p773; replace q773 := eq_true q773; have p774 : 0 ≤ (x7_1 : Int) := of_decide_eq_true (by first | (with_reducible assumption) | assumption); have q774 : x7_1 < (l0.length : Int) := of_decide_eq_true (by first | (with_reducible assumption) | assumption); obtain ⟨ad774, e774, hx774_0, hx774_1, hx774_2, hx774_3⟩ := at_T23 HR0.out x7_1 p774 q774; obtain rfl : ad771 = ad774 := (by injection e774); replace hx774_0 := (HB.out.cell (World.block_lt_of_cell? w _ hx774_0)).trans hx774_0; replace hx774_1 := (HB.out.cell (World.block_lt_of_cell? w _ hx774_1)).trans hx774_1; replace hx774_2 := (HB.out.cell (World.block_lt_of_cell? w _ hx774_2)).trans hx774_2; replace hx774_3 := (HB.out.cell (World.block_lt_of_cell? w _ hx774_3)).trans hx774_3; replace p774 := eq_true p774; replace q774 := eq_true q774))
              repeat (go_quiet (first | (go_at_call 57; (with_reducible refine (sashref04_May.calls ((rd_T23 l0 x7_1).f0) ((rd_T23 l0 x7_1).f1) ((rd_T23 l0 x7_1).f2) ((rd_T23 l0 x7_1).f3) true _ A5.out).mono ?_); rintro e w7 ⟨rfl, hb⟩; have n0_ := Aside0.mk (below_step (by repeat (first | (with_reducible first | exact HB.out | apply below_alloc | apply pw_below_drewN | apply below_drew1) | exact HB.out)) hb); clear HB; have HB := n0_; clear n0_; (try clear hb); (try clear hb2); (try clear hk); (try clear hi); have p773 : 0 ≤ (x7_1 : Int) := of_decide_eq_true (by first | (with_reducible assumption) | assumption); have q773 : x7_1 < (l0.length : Int) := of_decide_eq_true (by first | (with_reducible assumption) | assumption); obtain ⟨ad773, e773, hx773_0, hx773_1, hx773_2, hx773_3⟩ := at_T23 HR0.out x7_1 p773 q773; obtain rfl : ad771 = ad773 := (by injection e773); replace hx773_0 := (HB.out.cell (World.block_lt_of_cell? w _ hx773_0)).trans hx773_0; replace hx773_1 := (HB.out.cell (World.block_lt_of_cell? w _ hx773_1)).trans hx773_1; replace hx773_2 := (HB.out.cell (World.block_lt_of_cell? w _ hx773_2)).trans hx773_2; replace hx773_3 := (HB.out.cell (World.block_lt_of_cell? w _ hx773_3)).trans hx773_3; replace p773 := eq_true p773; replace q773 := eq_true q773; have p774 : 0 ≤ (x7_1 : Int) := of_decide_eq_true (by first | (with_reducible assumption) | assumption); have q774 : x7_1 < (l0.length : Int) := of_decide_eq_true (by first | (with_reducible assumption) | assumption); obtain ⟨ad774, e774, hx774_0, hx774_1, hx774_2, hx774_3⟩ := at_T23 HR0.out x7_1 p774 q774; obtain rfl : ad771 = ad774 := (by injection e774); replace hx774_0 := (HB.out.cell (World.block_lt_of_cell? w _ hx774_0)).trans hx774_0; replace hx774_1 := (HB.out.cell (World.block_lt_of_cell? w _ hx774_1)).trans hx774_1; replace hx774_2 := (HB.out.cell (World.block_lt_of_cell? w _ hx774_2)).trans hx774_2; replace hx774_3 := (HB.out.cell (World.block_lt_of_cell? w _ hx774_3)).trans hx774_3; replace p774 := eq_true p774; replace q774 := eq_true q774)); try go_wp2_with (first | (go_at_call 57; (with_reducible refine (sashref04_May.calls ((rd_T23 l0 x7_1).f0) ((rd_T23 l0 x7_1).f1) ((rd_T23 l0 x7_1).f2) ((rd_T23 l0 x7_1).f3) true _ A5.out).mono ?_); rintro e w7 ⟨rfl, hb⟩; have n0_ := Aside0.mk (below_step (by repeat (first | (with_reducible first | exact HB.out | apply below_alloc | apply pw_below_drewN | apply below_drew1) | exact HB.out)) hb); clear HB; have HB := n0_; clear n0_; (try clear hb); (try clear hb2); (try clear hk); (try clear hi); have p773 : 0 ≤ (x7_1 : Int) := of_decide_eq_true (by first | (with_reducible assumption) | assumption); have q773 : x7_1 < (l0.length : Int) := of_decide_eq_true (by first | (with_reducible assumption) | assumption); obtain ⟨ad773, e773, hx773_0, hx773_1, hx773_2, hx773_3⟩ := at_T23 HR0.out x7_1 p773 q773; obtain rfl : ad771 = ad773 := (by injection e773); replace hx773_0 := (HB.out.cell (World.block_lt_of_cell? w _ hx773_0)).trans hx773_0; replace hx773_1 := (HB.out.cell (World.block_lt_of_cell? w _ hx773_1)).trans hx773_1; replace hx773_2 := (HB.out.cell (World.block_lt_of_cell? w _ hx773_2)).trans hx773_2; replace hx773_3 := (HB.out.cell (World.block_lt_of_cell? w _ hx773_3)).trans hx773_3; replace p773 := eq_true p773; replace q773 := eq_true q773; have p774 : 0 ≤ (x7_1 : Int) := of_decide_eq_true (by first | (with_reducible assumption) | assumption); have q774 : x7_1 < (l0.length : Int) := of_decide_eq_true (by first | (with_reducible assumption) | assumption); obtain ⟨ad774, e774, hx774_0, hx774_1, hx774_2, hx774_3⟩ := at_T23 HR0.out x7_1 p774 q774; obtain rfl : ad771 = ad774 := (by injection e774); replace hx774_0 := (HB.out.cell (World.block_lt_of_cell? w _ hx774_0)).trans hx774_0; replace hx774_1 := (HB.out.cell (World.block_lt_of_cell? w _ hx774_1)).trans hx774_1; replace hx774_2 := (HB.out.cell (World.block_lt_of_cell? w _ hx774_2)).trans hx774_2; replace hx774_3 := (HB.out.cell (World.block_lt_of_cell? w _ hx774_3)).trans hx774_3; replace p774 := eq_true p774; replace q774 := eq_true q774)))
              go_roundg k1
              case measure => have := HK1.out; omega
              case rel => exact ⟨(wrap64 (x3_1 + (wrap64 (((rd_T23 l0 x7_1).f2) * ((rd_T23 l0 x7_1).f3))))), (wrap64 (x7_1 + 1)), (by first | rfl | (simp; done) | (simp [*]; done)), (by first | rfl | (simp; done) | (simp [*]; done)), H', ⟨by have := HK1.out; omega⟩, ⟨by repeat (first | (with_reducible first | exact HB.out | apply below_alloc | apply pw_below_drewN | apply below_drew1) | exact HB.out)⟩⟩
            · replace c6 := Bool.eq_false_iff.mpr c6
              subst c6
              have H1 : (sashref04_Area.l0 k1 l0 x3_1 (l0.length : Int) (wrap64 (x7_1 + 1))) = some r := by rw [if_neg (show ¬ (false = true) by decide)] at H; exact H
              clear H
              have H := H1
              clear H1
              have H' := Aside0.mk H
              clear H
              have p771 : 0 ≤ (x7_1 : Int) := of_decide_eq_true (by first | (with_reducible assumption) | assumption)
              have q771 : x7_1 < (l0.length : Int) := of_decide_eq_true (by first | (with_reducible assumption) | assumption)
              obtain ⟨ad771, e771, hx771_0, hx771_1, hx771_2, hx771_3⟩ := at_T23 HR0.out x7_1 p771 q771
              cases e771
              replace hx771_0 := (HB.out.cell (World.block_lt_of_cell? w _ hx771_0)).trans hx771_0
              replace hx771_1 := (HB.out.cell (World.block_lt_of_cell? w _ hx771_1)).trans hx771_1
              replace hx771_2 := (HB.out.cell (World.block_lt_of_cell? w _ hx771_2)).trans hx771_2
              replace hx771_3 := (HB.out.cell (World.block_lt_of_cell? w _ hx771_3)).trans hx771_3
              replace p771 := eq_true p771
              replace q771 := eq_true q771
              go_wp2_with (first | (go_at_call 57; (with_reducible refine (sashref04_May.calls ((rd_T23 l0 x7_1).f0) ((rd_T23 l0 x7_1).f1) ((rd_T23 l0 x7_1).f2) ((rd_T23 l0 x7_1).f3) false _ A5.out).mono ?_); rintro e w8 ⟨rfl, hb⟩; have n0_ := Aside0.mk (below_step (by repeat (first | (with_reducible first | exact HB.out | apply below_alloc | apply pw_below_drewN | apply below_drew1) | exact HB.out)) hb); clear HB; have HB := n0_; clear n0_; (try clear hb); (try clear hb2); (try clear hk); (try clear hi)))
              repeat (go_quiet (first | (go_at_call 57; (with_reducible refine (sashref04_May.calls ((rd_T23 l0 x7_1).f0) ((rd_T23 l0 x7_1).f1) ((rd_T23 l0 x7_1).f2) ((rd_T23 l0 x7_1).f3) false _ A5.out).mono ?_); rintro e w8 ⟨rfl, hb⟩; have n0_ := Aside0.mk (below_step (by repeat (first | (with_reducible first | exact HB.out | apply below_alloc | apply pw_below_drewN | apply below_drew1) | exact HB.out)) hb); clear HB; have HB := n0_; clear n0_; (try clear hb); (try clear hb2); (try clear hk); (try clear hi))); try go_wp2_with (first | (go_at_call 57; (with_reducible refine (sashref04_May.calls ((rd_T23 l0 x7_1).f0) ((rd_T23 l0 x7_1).f1) ((rd_T23 l0 x7_1).f2) ((rd_T23 l0 x7_1).f3) false _ A5.out).mono ?_); rintro e w8 ⟨rfl, hb⟩; have n0_ := Aside0.mk (below_step (by repeat (first | (with_reducible first | exact HB.out | apply below_alloc | apply pw_below_drewN | apply below_drew1) | exact HB.out)) hb); clear HB; have HB := n0_; clear n0_; (try clear hb); (try clear hb2); (try clear hk); (try clear hi))))
              go_roundg k1
              case measure => have := HK1.out; omega
              case rel => exact ⟨(x3_1), (wrap64 (x7_1 + 1)), (by first | rfl | (simp; done) | (simp [*]; done)), (by first | rfl | (simp; done) | (simp [*]; done)), H', ⟨by have := HK1.out; omega⟩, ⟨by repeat (first | (with_reducible first | exact HB.out | apply below_alloc | apply pw_below_drewN | apply below_drew1) | exact HB.out)⟩⟩
          · rw [if_neg c4] at H
            exact absurd H (by simp)
        · rw [if_neg c3] at H
          exact absurd H (by simp)
      · rw [if_neg c2] at H
        have c2b0 : decide (x7_1 < (l0.length : Int)) = false := decide_eq_false c2
        clear c2
        obtain rfl := Option.some.inj H
        go_wp2
        repeat (go_quiet (fail); try go_wp2)
        go_ret
        exact ⟨by first | rfl | (simp [errW_none, errW_some] <;> rfl) | (simp [*, errW_none, errW_some] <;> rfl), by repeat (first | (with_reducible first | exact HB.out | apply below_alloc | apply pw_below_drewN | apply below_drew1) | exact HB.out)⟩

end Go.Proofs.Ytfdmfgaiblfbhaa.P
/- Plain words on rectangles: inside, apart, areas: the code's and the reference's alike. -/
namespace Go.Proofs.Ytfdmfgaiblfbhaa.P
open Go.RowKit Go.Proofs.YtfdmfgaiblfbhaaW.PrintWords Go.Proofs.YtfdmfgaiblfbhaaW.PrintLast Go.Proofs.YtfdmfgaiblfbhaaW.PrintMore

theorem corners_iff {o r : S23} (ho : mayR o = true) (hr : mayR r = true) : cornersB o r = decide (o.f0 ≤ r.f0 ∧ o.f1 ≤ r.f1 ∧ r.f0 + r.f2 ≤ o.f0 + o.f2 ∧ r.f1 + r.f3 ≤ o.f1 + o.f3) := by
  have h1 := may_iff.1 ho
  have h2 := may_iff.1 hr
  unfold cornersB hasB
  rw [ho, Bool.true_and, Bool.true_and, ← Bool.decide_and, decide_eq_decide]
  omega
end Go.Proofs.Ytfdmfgaiblfbhaa.P
/- The law RectMeets, walked: its ways, over the plain facts of what it calls. No condition. -/
namespace Go.Proofs.Ytfdmfgaiblfbhaa.P
open Go.RowKit Go.Proofs.YtfdmfgaiblfbhaaW.PrintWords Go.Proofs.YtfdmfgaiblfbhaaW.PrintLast Go.Proofs.YtfdmfgaiblfbhaaW.PrintMore
set_option linter.unusedVariables false
set_option linter.unusedSimpArgs false
def meets.T5 : Bool × List (List Nat × List Nat) := (true, [([], []), ([], []), ([0, 1], [0, 1]), ([2], [2]), ([3], [3]), ([4, 3], [3, 4]), ([5, 3, 3], [3, 5]), ([6], [6]), ([6], [6]), ([7, 8, 6], [6, 7, 8]), ([9, 6, 6], [6, 9]), ([10, 6], [6, 10]), ([6, 11, 3], [3, 6, 11]), ([3, 12], [3, 12]), ([13, 10], [13]), ([14], [14]), ([14], [14]), ([15, 16, 14], [14, 15, 16]), ([17, 14, 14], [14, 17]), ([14], [14]), ([14], [14]), ([19, 20, 14], [14, 19, 20]), ([21, 18, 14], [14, 21]), ([18, 22, 14], [14, 18, 22]), ([14, 23], [14, 23]), ([24, 22], [24]), ([25, 25], [25]), ([25, 26], [25, 26]), ([27, 26, 0, 1, 2, 3, 4, 5, 6, 7, 8, 9, 10, 11, 12, 13, 14, 15, 16, 17, 18, 19, 20, 21, 22, 23, 24, 25, 26, 27], [27])])
def meets.B5 : List Nat := [0, 0, 3, 7, 15, 31, 63, 127, 127, 511, 1023, 2047, 4095, 8191, 16383, 32767, 32767, 131071, 262143, 32767, 32767, 1605631, 4194303, 8388607, 16777215, 33554431, 67108863, 134217727, 268435455]
theorem meets.tab5 : rtab .any (opsOf Try.f13 5) = meets.T5 := by kernel_rfl
theorem meets.bits5 : waitsOk meets.T5.2 meets.B5 = true := by kernel_rfl
set_option maxHeartbeats 4000000 in
set_option maxRecDepth 100000 in
theorem meets_none (a b : S23) (w : World) (awk : ∃ k, sashlaw04_awake.f k = some true) (hI : rect_Inside.f a.f0 a.f1 a.f2 a.f3 [b] = some false) (hM : rect_May.f [a, b] = some false) (hA : rect_Apart.f [a, b] = some false) :
    Calls Try.prog 13 #[.agg #[.int .i64 a.f0, .int .i64 a.f1, .int .i64 a.f2, .int .i64 a.f3], .agg #[.int .i64 b.f0, .int .i64 b.f1, .int .i64 b.f2, .int .i64 b.f3]] w fun e w' => e = .returned (.bool true) ∧ Below w.heap.size w w' := by
  obtain ⟨ka, haw⟩ := awk
  have AW := Aside0.mk haw
  clear haw
  have HB := Aside0.mk (Below.refl w.heap.size w)
  have I1 := Aside0.mk hI
  clear hI
  have M1 := Aside0.mk hM
  clear hM
  have A1 := Aside0.mk hA
  clear hA
  go_enter Try.func13, Try.ntmps13
  go_wp2_with (first
    | ((with_reducible refine gate_dst (N := 2) rfl ?_); refine box_event ?hg (N := 2) ?hd (cs := #[.int .i64 a.f0, .int .i64 a.f1, .int .i64 a.f2, .int .i64 a.f3]) (t := 23) ?hr ?_; (case hd => rfl); (case hg => rfl); (case hr => first | (go_simp; done) | (go_simp; rfl)); intro b2 hg wb2 hbox hb; have qHB_ := Aside0.mk (below_step HB.out hb); clear HB; have HB := qHB_; clear qHB_; have Kb2 := Aside0.mk hbox; clear hb hbox hg)
    | ((with_reducible refine gate_dst (N := 3) rfl ?_); refine box_event ?hg (N := 3) ?hd (cs := #[.int .i64 b.f0, .int .i64 b.f1, .int .i64 b.f2, .int .i64 b.f3]) (t := 23) ?hr ?_; (case hd => rfl); (case hg => rfl); (case hr => first | (go_simp; done) | (go_simp; rfl)); intro b3 hg wb3 hbox hb; have qKb2_ := Aside0.mk (blk_below Kb2.out hb); have qHB_ := Aside0.mk (below_step HB.out hb); clear Kb2 HB; have Kb2 := qKb2_; have HB := qHB_; clear qKb2_ qHB_; have Kb3 := Aside0.mk hbox; clear hb hbox hg; have cb2_0 := (blk_cell Kb2.out 0).trans rfl; have cb2_1 := (blk_cell Kb2.out 1).trans rfl; have cb2_2 := (blk_cell Kb2.out 2).trans rfl; have cb2_3 := (blk_cell Kb2.out 3).trans rfl; have cb3_0 := (blk_cell Kb3.out 0).trans rfl; have cb3_1 := (blk_cell Kb3.out 1).trans rfl; have cb3_2 := (blk_cell Kb3.out 2).trans rfl; have cb3_3 := (blk_cell Kb3.out 3).trans rfl)
    | ((with_reducible refine gate_dst (N := 9) rfl ?_); (try (refine gate_guard (by rfl) ?_; dsimp only)); refine Kd.R_lit k23 _ 23 ?hg (N := 9) ?hd (xs := ([b] : List S23)) (inner := [.int .i64 b.f0, .int .i64 b.f1, .int .i64 b.f2, .int .i64 b.f3]) (ok := fun _ => True) (okp := fun _ => True) ?hr ?hp (fun _ hk => hk) trivial (Below.refl _ _) (Nat.le_refl _) (by simp) ?_; (case hd => rfl); (case hg => rfl); (case hr => first | (go_simp; done) | (go_simp; rfl)); (case hp => exact (Reps.c4 (show Kd.M k23 _ _ _ b [.int .i64 b.f0, .int .i64 b.f1, .int .i64 b.f2, .int .i64 b.f3] from k23_mkM _ _ _ b) (Reps.none _ _))); intro vr wr ho hb hg_ hnew_; clear hg_ hnew_; obtain ⟨Ar, cr, er⟩ := Kd.R_slice ho; subst er; have qKb2_ := Aside0.mk (blk_below Kb2.out hb); have qKb3_ := Aside0.mk (blk_below Kb3.out hb); have qHB_ := Aside0.mk (below_step HB.out hb); clear Kb2 Kb3 HB; have Kb2 := qKb2_; have Kb3 := qKb3_; have HB := qHB_; clear qKb2_ qKb3_ qHB_; have HR := Aside0.mk (Kd.R_reads' ho).2.2; have LHR := Aside0.mk (Kd.R_reads' ho).2.1; clear ho hb)
    | fail)
  clear cb2_0 cb2_1 cb2_2 cb2_3 cb3_0 cb3_1 cb3_2 cb3_3
  refine (rect_Inside.calls a.f0 a.f1 a.f2 a.f3 Ar cr [b] false _ HR.out LHR.out I1.out).mono ?_
  rintro e wk1 ⟨rfl, hb⟩
  have qHR_ := Aside0.mk (Kd.C_below HR.out hb); have qKb2_ := Aside0.mk (blk_below Kb2.out hb); have qKb3_ := Aside0.mk (blk_below Kb3.out hb); have qHB_ := Aside0.mk (below_step HB.out hb); clear HR Kb2 Kb3 HB; have HR := qHR_; have Kb2 := qKb2_; have Kb3 := qKb3_; have HB := qHB_; clear qHR_ qKb2_ qKb3_ qHB_
  clear hb
  clear HR LHR
  have cb2_0 := (blk_cell Kb2.out 0).trans rfl
  have cb2_1 := (blk_cell Kb2.out 1).trans rfl
  have cb2_2 := (blk_cell Kb2.out 2).trans rfl
  have cb2_3 := (blk_cell Kb2.out 3).trans rfl
  have cb3_0 := (blk_cell Kb3.out 0).trans rfl
  have cb3_1 := (blk_cell Kb3.out 1).trans rfl
  have cb3_2 := (blk_cell Kb3.out 2).trans rfl
  have cb3_3 := (blk_cell Kb3.out 3).trans rfl
  go_wp2_with (first
    | ((with_reducible refine gate_dst (N := 13) rfl ?_); (try (refine gate_guard (by rfl) ?_; dsimp only)); refine Kd.R_lit k23 _ 23 ?hg (N := 13) ?hd (xs := ([a, b] : List S23)) (inner := [.int .i64 a.f0, .int .i64 a.f1, .int .i64 a.f2, .int .i64 a.f3, .int .i64 b.f0, .int .i64 b.f1, .int .i64 b.f2, .int .i64 b.f3]) (ok := fun _ => True) (okp := fun _ => True) ?hr ?hp (fun _ hk => hk) trivial (Below.refl _ _) (Nat.le_refl _) (by simp) ?_; (case hd => rfl); (case hg => rfl); (case hr => first | (go_simp; done) | (go_simp; rfl)); (case hp => exact (Reps.c4 (show Kd.M k23 _ _ _ a [.int .i64 a.f0, .int .i64 a.f1, .int .i64 a.f2, .int .i64 a.f3] from k23_mkM _ _ _ a) (Reps.c4 (show Kd.M k23 _ _ _ b [.int .i64 b.f0, .int .i64 b.f1, .int .i64 b.f2, .int .i64 b.f3] from k23_mkM _ _ _ b) (Reps.none _ _)))); intro vr wr ho hb hg_ hnew_; clear hg_ hnew_; obtain ⟨Ar, cr, er⟩ := Kd.R_slice ho; subst er; have qKb2_ := Aside0.mk (blk_below Kb2.out hb); have qKb3_ := Aside0.mk (blk_below Kb3.out hb); have qHB_ := Aside0.mk (below_step HB.out hb); clear Kb2 Kb3 HB; have Kb2 := qKb2_; have Kb3 := qKb3_; have HB := qHB_; clear qKb2_ qKb3_ qHB_; have HR := Aside0.mk (Kd.R_reads' ho).2.2; have LHR := Aside0.mk (Kd.R_reads' ho).2.1; clear ho hb)
    | fail)
  clear cb2_0 cb2_1 cb2_2 cb2_3 cb3_0 cb3_1 cb3_2 cb3_3
  refine (rect_May.calls Ar cr [a, b] false _ HR.out LHR.out M1.out).mono ?_
  rintro e wk2 ⟨rfl, hb⟩
  have qHR_ := Aside0.mk (Kd.C_below HR.out hb); have qKb2_ := Aside0.mk (blk_below Kb2.out hb); have qKb3_ := Aside0.mk (blk_below Kb3.out hb); have qHB_ := Aside0.mk (below_step HB.out hb); clear HR Kb2 Kb3 HB; have HR := qHR_; have Kb2 := qKb2_; have Kb3 := qKb3_; have HB := qHB_; clear qHR_ qKb2_ qKb3_ qHB_
  clear hb
  clear HR LHR
  have cb2_0 := (blk_cell Kb2.out 0).trans rfl
  have cb2_1 := (blk_cell Kb2.out 1).trans rfl
  have cb2_2 := (blk_cell Kb2.out 2).trans rfl
  have cb2_3 := (blk_cell Kb2.out 3).trans rfl
  have cb3_0 := (blk_cell Kb3.out 0).trans rfl
  have cb3_1 := (blk_cell Kb3.out 1).trans rfl
  have cb3_2 := (blk_cell Kb3.out 2).trans rfl
  have cb3_3 := (blk_cell Kb3.out 3).trans rfl
  go_wp2_with (first
    | ((with_reducible refine gate_dst (N := 21) rfl ?_); (try (refine gate_guard (by rfl) ?_; dsimp only)); refine Kd.R_lit k23 _ 23 ?hg (N := 21) ?hd (xs := ([a, b] : List S23)) (inner := [.int .i64 a.f0, .int .i64 a.f1, .int .i64 a.f2, .int .i64 a.f3, .int .i64 b.f0, .int .i64 b.f1, .int .i64 b.f2, .int .i64 b.f3]) (ok := fun _ => True) (okp := fun _ => True) ?hr ?hp (fun _ hk => hk) trivial (Below.refl _ _) (Nat.le_refl _) (by simp) ?_; (case hd => rfl); (case hg => rfl); (case hr => first | (go_simp; done) | (go_simp; rfl)); (case hp => exact (Reps.c4 (show Kd.M k23 _ _ _ a [.int .i64 a.f0, .int .i64 a.f1, .int .i64 a.f2, .int .i64 a.f3] from k23_mkM _ _ _ a) (Reps.c4 (show Kd.M k23 _ _ _ b [.int .i64 b.f0, .int .i64 b.f1, .int .i64 b.f2, .int .i64 b.f3] from k23_mkM _ _ _ b) (Reps.none _ _)))); intro vr wr ho hb hg_ hnew_; clear hg_ hnew_; obtain ⟨Ar, cr, er⟩ := Kd.R_slice ho; subst er; have qKb2_ := Aside0.mk (blk_below Kb2.out hb); have qKb3_ := Aside0.mk (blk_below Kb3.out hb); have qHB_ := Aside0.mk (below_step HB.out hb); clear Kb2 Kb3 HB; have Kb2 := qKb2_; have Kb3 := qKb3_; have HB := qHB_; clear qKb2_ qKb3_ qHB_; have HR := Aside0.mk (Kd.R_reads' ho).2.2; have LHR := Aside0.mk (Kd.R_reads' ho).2.1; clear ho hb)
    | fail)
  clear cb2_0 cb2_1 cb2_2 cb2_3 cb3_0 cb3_1 cb3_2 cb3_3
  refine (rect_Apart.calls Ar cr [a, b] false _ HR.out LHR.out A1.out).mono ?_
  rintro e wk3 ⟨rfl, hb⟩
  have qHR_ := Aside0.mk (Kd.C_below HR.out hb); have qKb2_ := Aside0.mk (blk_below Kb2.out hb); have qKb3_ := Aside0.mk (blk_below Kb3.out hb); have qHB_ := Aside0.mk (below_step HB.out hb); clear HR Kb2 Kb3 HB; have HR := qHR_; have Kb2 := qKb2_; have Kb3 := qKb3_; have HB := qHB_; clear qHR_ qKb2_ qKb3_ qHB_
  clear hb
  clear HR LHR
  go_wp2_with fail
  refine (sashlaw04_awake.calls ka true _ AW.out).mono ?_
  rintro e wk4 ⟨rfl, hb⟩
  have qKb2_ := Aside0.mk (blk_below Kb2.out hb); have qKb3_ := Aside0.mk (blk_below Kb3.out hb); have qHB_ := Aside0.mk (below_step HB.out hb); clear Kb2 Kb3 HB; have Kb2 := qKb2_; have Kb3 := qKb3_; have HB := qHB_; clear qKb2_ qKb3_ qHB_
  clear hb
  go_wp2
  go_ret
  exact ⟨rfl, HB.out⟩
set_option maxHeartbeats 4000000 in
set_option maxRecDepth 100000 in
theorem meets_in (a b : S23) (w : World) (awk : ∃ k, sashlaw04_awake.f k = some true) (hI : rect_Inside.f a.f0 a.f1 a.f2 a.f3 [b] = some true) (hM : rect_May.f [a, b] = some true) (h0 h1 h2 h3 : Bool) (hin : (h0 && (h1 && (h2 && h3))) = true) (e0 : rect_Has.f a.f0 a.f1 a.f2 a.f3 (b.f0) (b.f1) = some h0) (e1 : rect_Has.f a.f0 a.f1 a.f2 a.f3 (wrap64 (wrap64 (b.f0 + b.f2) - 1)) (b.f1) = some h1) (e2 : rect_Has.f a.f0 a.f1 a.f2 a.f3 (b.f0) (wrap64 (wrap64 (b.f1 + b.f3) - 1)) = some h2) (e3 : rect_Has.f a.f0 a.f1 a.f2 a.f3 (wrap64 (wrap64 (b.f0 + b.f2) - 1)) (wrap64 (wrap64 (b.f1 + b.f3) - 1)) = some h3)  (hA : rect_Apart.f [a, b] = some false) (hC : rect_Apart.f [b, a] = some false) :
    Calls Try.prog 13 #[.agg #[.int .i64 a.f0, .int .i64 a.f1, .int .i64 a.f2, .int .i64 a.f3], .agg #[.int .i64 b.f0, .int .i64 b.f1, .int .i64 b.f2, .int .i64 b.f3]] w fun e w' => e = .returned (.bool true) ∧ Below w.heap.size w w' := by
  obtain ⟨ka, haw⟩ := awk
  have AW := Aside0.mk haw
  clear haw
  have HB := Aside0.mk (Below.refl w.heap.size w)
  have I1 := Aside0.mk hI
  clear hI
  have M1 := Aside0.mk hM
  clear hM
  have A1 := Aside0.mk hA
  clear hA
  have C1 := Aside0.mk hC
  clear hC
  have HIN := Aside0.mk hin
  clear hin
  have H0 := Aside0.mk e0
  clear e0
  have H1 := Aside0.mk e1
  clear e1
  have H2 := Aside0.mk e2
  clear e2
  have H3 := Aside0.mk e3
  clear e3
  go_enter Try.func13, Try.ntmps13
  go_wp2_with (first
    | ((with_reducible refine gate_dst (N := 2) rfl ?_); refine box_event ?hg (N := 2) ?hd (cs := #[.int .i64 a.f0, .int .i64 a.f1, .int .i64 a.f2, .int .i64 a.f3]) (t := 23) ?hr ?_; (case hd => rfl); (case hg => rfl); (case hr => first | (go_simp; done) | (go_simp; rfl)); intro b2 hg wb2 hbox hb; have qHB_ := Aside0.mk (below_step HB.out hb); clear HB; have HB := qHB_; clear qHB_; have Kb2 := Aside0.mk hbox; clear hb hbox hg)
    | ((with_reducible refine gate_dst (N := 3) rfl ?_); refine box_event ?hg (N := 3) ?hd (cs := #[.int .i64 b.f0, .int .i64 b.f1, .int .i64 b.f2, .int .i64 b.f3]) (t := 23) ?hr ?_; (case hd => rfl); (case hg => rfl); (case hr => first | (go_simp; done) | (go_simp; rfl)); intro b3 hg wb3 hbox hb; have qKb2_ := Aside0.mk (blk_below Kb2.out hb); have qHB_ := Aside0.mk (below_step HB.out hb); clear Kb2 HB; have Kb2 := qKb2_; have HB := qHB_; clear qKb2_ qHB_; have Kb3 := Aside0.mk hbox; clear hb hbox hg; have cb2_0 := (blk_cell Kb2.out 0).trans rfl; have cb2_1 := (blk_cell Kb2.out 1).trans rfl; have cb2_2 := (blk_cell Kb2.out 2).trans rfl; have cb2_3 := (blk_cell Kb2.out 3).trans rfl; have cb3_0 := (blk_cell Kb3.out 0).trans rfl; have cb3_1 := (blk_cell Kb3.out 1).trans rfl; have cb3_2 := (blk_cell Kb3.out 2).trans rfl; have cb3_3 := (blk_cell Kb3.out 3).trans rfl)
    | ((with_reducible refine gate_dst (N := 9) rfl ?_); (try (refine gate_guard (by rfl) ?_; dsimp only)); refine Kd.R_lit k23 _ 23 ?hg (N := 9) ?hd (xs := ([b] : List S23)) (inner := [.int .i64 b.f0, .int .i64 b.f1, .int .i64 b.f2, .int .i64 b.f3]) (ok := fun _ => True) (okp := fun _ => True) ?hr ?hp (fun _ hk => hk) trivial (Below.refl _ _) (Nat.le_refl _) (by simp) ?_; (case hd => rfl); (case hg => rfl); (case hr => first | (go_simp; done) | (go_simp; rfl)); (case hp => exact (Reps.c4 (show Kd.M k23 _ _ _ b [.int .i64 b.f0, .int .i64 b.f1, .int .i64 b.f2, .int .i64 b.f3] from k23_mkM _ _ _ b) (Reps.none _ _))); intro vr wr ho hb hg_ hnew_; clear hg_ hnew_; obtain ⟨Ar, cr, er⟩ := Kd.R_slice ho; subst er; have qKb2_ := Aside0.mk (blk_below Kb2.out hb); have qKb3_ := Aside0.mk (blk_below Kb3.out hb); have qHB_ := Aside0.mk (below_step HB.out hb); clear Kb2 Kb3 HB; have Kb2 := qKb2_; have Kb3 := qKb3_; have HB := qHB_; clear qKb2_ qKb3_ qHB_; have HR := Aside0.mk (Kd.R_reads' ho).2.2; have LHR := Aside0.mk (Kd.R_reads' ho).2.1; clear ho hb)
    | fail)
  clear cb2_0 cb2_1 cb2_2 cb2_3 cb3_0 cb3_1 cb3_2 cb3_3
  refine (rect_Inside.calls a.f0 a.f1 a.f2 a.f3 Ar cr [b] true _ HR.out LHR.out I1.out).mono ?_
  rintro e wk1 ⟨rfl, hb⟩
  have qHR_ := Aside0.mk (Kd.C_below HR.out hb); have qKb2_ := Aside0.mk (blk_below Kb2.out hb); have qKb3_ := Aside0.mk (blk_below Kb3.out hb); have qHB_ := Aside0.mk (below_step HB.out hb); clear HR Kb2 Kb3 HB; have HR := qHR_; have Kb2 := qKb2_; have Kb3 := qKb3_; have HB := qHB_; clear qHR_ qKb2_ qKb3_ qHB_
  clear hb
  clear HR LHR
  have cb2_0 := (blk_cell Kb2.out 0).trans rfl
  have cb2_1 := (blk_cell Kb2.out 1).trans rfl
  have cb2_2 := (blk_cell Kb2.out 2).trans rfl
  have cb2_3 := (blk_cell Kb2.out 3).trans rfl
  have cb3_0 := (blk_cell Kb3.out 0).trans rfl
  have cb3_1 := (blk_cell Kb3.out 1).trans rfl
  have cb3_2 := (blk_cell Kb3.out 2).trans rfl
  have cb3_3 := (blk_cell Kb3.out 3).trans rfl
  go_wp2_with (first
    | ((with_reducible refine gate_dst (N := 13) rfl ?_); (try (refine gate_guard (by rfl) ?_; dsimp only)); refine Kd.R_lit k23 _ 23 ?hg (N := 13) ?hd (xs := ([a, b] : List S23)) (inner := [.int .i64 a.f0, .int .i64 a.f1, .int .i64 a.f2, .int .i64 a.f3, .int .i64 b.f0, .int .i64 b.f1, .int .i64 b.f2, .int .i64 b.f3]) (ok := fun _ => True) (okp := fun _ => True) ?hr ?hp (fun _ hk => hk) trivial (Below.refl _ _) (Nat.le_refl _) (by simp) ?_; (case hd => rfl); (case hg => rfl); (case hr => first | (go_simp; done) | (go_simp; rfl)); (case hp => exact (Reps.c4 (show Kd.M k23 _ _ _ a [.int .i64 a.f0, .int .i64 a.f1, .int .i64 a.f2, .int .i64 a.f3] from k23_mkM _ _ _ a) (Reps.c4 (show Kd.M k23 _ _ _ b [.int .i64 b.f0, .int .i64 b.f1, .int .i64 b.f2, .int .i64 b.f3] from k23_mkM _ _ _ b) (Reps.none _ _)))); intro vr wr ho hb hg_ hnew_; clear hg_ hnew_; obtain ⟨Ar, cr, er⟩ := Kd.R_slice ho; subst er; have qKb2_ := Aside0.mk (blk_below Kb2.out hb); have qKb3_ := Aside0.mk (blk_below Kb3.out hb); have qHB_ := Aside0.mk (below_step HB.out hb); clear Kb2 Kb3 HB; have Kb2 := qKb2_; have Kb3 := qKb3_; have HB := qHB_; clear qKb2_ qKb3_ qHB_; have HR := Aside0.mk (Kd.R_reads' ho).2.2; have LHR := Aside0.mk (Kd.R_reads' ho).2.1; clear ho hb)
    | fail)
  clear cb2_0 cb2_1 cb2_2 cb2_3 cb3_0 cb3_1 cb3_2 cb3_3
  refine (rect_May.calls Ar cr [a, b] true _ HR.out LHR.out M1.out).mono ?_
  rintro e wk2 ⟨rfl, hb⟩
  have qHR_ := Aside0.mk (Kd.C_below HR.out hb); have qKb2_ := Aside0.mk (blk_below Kb2.out hb); have qKb3_ := Aside0.mk (blk_below Kb3.out hb); have qHB_ := Aside0.mk (below_step HB.out hb); clear HR Kb2 Kb3 HB; have HR := qHR_; have Kb2 := qKb2_; have Kb3 := qKb3_; have HB := qHB_; clear qHR_ qKb2_ qKb3_ qHB_
  clear hb
  clear HR LHR
  go_upto_region 4 with fail
  go_cut [6] (fun v6 wc => v6 = .bool true ∧ Aside0 (wc.heap[b2]? = some (.cells #[.int .i64 a.f0, .int .i64 a.f1, .int .i64 a.f2, .int .i64 a.f3] 23 (0, 0))) ∧ Aside0 (wc.heap[b3]? = some (.cells #[.int .i64 b.f0, .int .i64 b.f1, .int .i64 b.f2, .int .i64 b.f3] 23 (0, 0))) ∧ Aside0 (Below w.heap.size w wc))
  case first =>
    have cb2_0 := (blk_cell Kb2.out 0).trans rfl
    have cb2_1 := (blk_cell Kb2.out 1).trans rfl
    have cb2_2 := (blk_cell Kb2.out 2).trans rfl
    have cb2_3 := (blk_cell Kb2.out 3).trans rfl
    have cb3_0 := (blk_cell Kb3.out 0).trans rfl
    have cb3_1 := (blk_cell Kb3.out 1).trans rfl
    have cb3_2 := (blk_cell Kb3.out 2).trans rfl
    have cb3_3 := (blk_cell Kb3.out 3).trans rfl
    go_wp2_with fail
    clear cb2_0 cb2_1 cb2_2 cb2_3 cb3_0 cb3_1 cb3_2 cb3_3
    refine (rect_Has.calls a.f0 a.f1 a.f2 a.f3 _ _ h0 _ H0.out).mono ?_
    rintro e wk3 ⟨rfl, hb⟩
    have qKb2_ := Aside0.mk (blk_below Kb2.out hb); have qKb3_ := Aside0.mk (blk_below Kb3.out hb); have qHB_ := Aside0.mk (below_step HB.out hb); clear Kb2 Kb3 HB; have Kb2 := qKb2_; have Kb3 := qKb3_; have HB := qHB_; clear qKb2_ qKb3_ qHB_
    clear hb
    cases h0 with
    | false =>
      have hi := HIN.out
      exact absurd hi (by simp)
    | true =>
      have cb2_0 := (blk_cell Kb2.out 0).trans rfl
      have cb2_1 := (blk_cell Kb2.out 1).trans rfl
      have cb2_2 := (blk_cell Kb2.out 2).trans rfl
      have cb2_3 := (blk_cell Kb2.out 3).trans rfl
      have cb3_0 := (blk_cell Kb3.out 0).trans rfl
      have cb3_1 := (blk_cell Kb3.out 1).trans rfl
      have cb3_2 := (blk_cell Kb3.out 2).trans rfl
      have cb3_3 := (blk_cell Kb3.out 3).trans rfl
      go_wp2_with fail
      clear cb2_0 cb2_1 cb2_2 cb2_3 cb3_0 cb3_1 cb3_2 cb3_3
      refine (rect_Has.calls a.f0 a.f1 a.f2 a.f3 _ _ h1 _ H1.out).mono ?_
      rintro e wk4 ⟨rfl, hb⟩
      have qKb2_ := Aside0.mk (blk_below Kb2.out hb); have qKb3_ := Aside0.mk (blk_below Kb3.out hb); have qHB_ := Aside0.mk (below_step HB.out hb); clear Kb2 Kb3 HB; have Kb2 := qKb2_; have Kb3 := qKb3_; have HB := qHB_; clear qKb2_ qKb3_ qHB_
      clear hb
      cases h1 with
      | false =>
        have hi := HIN.out
        exact absurd hi (by simp)
      | true =>
        have cb2_0 := (blk_cell Kb2.out 0).trans rfl
        have cb2_1 := (blk_cell Kb2.out 1).trans rfl
        have cb2_2 := (blk_cell Kb2.out 2).trans rfl
        have cb2_3 := (blk_cell Kb2.out 3).trans rfl
        have cb3_0 := (blk_cell Kb3.out 0).trans rfl
        have cb3_1 := (blk_cell Kb3.out 1).trans rfl
        have cb3_2 := (blk_cell Kb3.out 2).trans rfl
        have cb3_3 := (blk_cell Kb3.out 3).trans rfl
        go_wp2_with fail
        clear cb2_0 cb2_1 cb2_2 cb2_3 cb3_0 cb3_1 cb3_2 cb3_3
        refine (rect_Has.calls a.f0 a.f1 a.f2 a.f3 _ _ h2 _ H2.out).mono ?_
        rintro e wk5 ⟨rfl, hb⟩
        have qKb2_ := Aside0.mk (blk_below Kb2.out hb); have qKb3_ := Aside0.mk (blk_below Kb3.out hb); have qHB_ := Aside0.mk (below_step HB.out hb); clear Kb2 Kb3 HB; have Kb2 := qKb2_; have Kb3 := qKb3_; have HB := qHB_; clear qKb2_ qKb3_ qHB_
        clear hb
        cases h2 with
        | false =>
          have hi := HIN.out
          exact absurd hi (by simp)
        | true =>
          have cb2_0 := (blk_cell Kb2.out 0).trans rfl
          have cb2_1 := (blk_cell Kb2.out 1).trans rfl
          have cb2_2 := (blk_cell Kb2.out 2).trans rfl
          have cb2_3 := (blk_cell Kb2.out 3).trans rfl
          have cb3_0 := (blk_cell Kb3.out 0).trans rfl
          have cb3_1 := (blk_cell Kb3.out 1).trans rfl
          have cb3_2 := (blk_cell Kb3.out 2).trans rfl
          have cb3_3 := (blk_cell Kb3.out 3).trans rfl
          go_wp2_with fail
          clear cb2_0 cb2_1 cb2_2 cb2_3 cb3_0 cb3_1 cb3_2 cb3_3
          refine (rect_Has.calls a.f0 a.f1 a.f2 a.f3 _ _ h3 _ H3.out).mono ?_
          rintro e wk6 ⟨rfl, hb⟩
          have qKb2_ := Aside0.mk (blk_below Kb2.out hb); have qKb3_ := Aside0.mk (blk_below Kb3.out hb); have qHB_ := Aside0.mk (below_step HB.out hb); clear Kb2 Kb3 HB; have Kb2 := qKb2_; have Kb3 := qKb3_; have HB := qHB_; clear qKb2_ qKb3_ qHB_
          clear hb
          cases h3 with
          | false =>
            have hi := HIN.out
            exact absurd hi (by simp)
          | true =>
            have cb2_0 := (blk_cell Kb2.out 0).trans rfl
            have cb2_1 := (blk_cell Kb2.out 1).trans rfl
            have cb2_2 := (blk_cell Kb2.out 2).trans rfl
            have cb2_3 := (blk_cell Kb2.out 3).trans rfl
            have cb3_0 := (blk_cell Kb3.out 0).trans rfl
            have cb3_1 := (blk_cell Kb3.out 1).trans rfl
            have cb3_2 := (blk_cell Kb3.out 2).trans rfl
            have cb3_3 := (blk_cell Kb3.out 3).trans rfl
            go_wp2
            clear cb2_0 cb2_1 cb2_2 cb2_3 cb3_0 cb3_1 cb3_2 cb3_3
            go_meet
            case rel => exact ⟨rfl, Kb2, Kb3, HB⟩
  case rest =>
    clear Kb2 Kb3 HB
    obtain ⟨rfl, Kb2, Kb3, HB⟩ := hcut
    try go_wp2
    have hb : Below wc.heap.size wc wc.drew := below_drew (Below.refl _ _)
    have qKb2_ := Aside0.mk (blk_below Kb2.out hb); have qKb3_ := Aside0.mk (blk_below Kb3.out hb); have qHB_ := Aside0.mk (below_step HB.out hb); clear Kb2 Kb3 HB; have Kb2 := qKb2_; have Kb3 := qKb3_; have HB := qHB_; clear qKb2_ qKb3_ qHB_
    clear hb
    refine start_ (n := 29) (S := fun w' => w'.heap[b2]? = some (.cells #[.int .i64 a.f0, .int .i64 a.f1, .int .i64 a.f2, .int .i64 a.f3] 23 (0, 0)) ∧ w'.heap[b3]? = some (.cells #[.int .i64 b.f0, .int .i64 b.f1, .int .i64 b.f2, .int .i64 b.f3] 23 (0, 0))) (ds := []) #[false, false, false, false, false, false, false, false, false, false, false, false, false, false, false, false, false, false, false, false, false, false, false, false, false, false, false, false, false] (by kernel_rfl) rfl rfl ⟨Kb2.out, Kb3.out⟩ (fun hHeld => ?_); refine with_tabW meets.tab5 meets.bits5 (fun HT_ HW_ => ?_)
    generalize wc.drew = wd at HB Kb2 Kb3 hHeld ⊢
    refine pure_ (i := 0) (N := some 74) (v := ?_) (a' := ?_) #[true, false, false, false, false, false, false, false, false, false, false, false, false, false, false, false, false, false, false, false, false, false, false, false, false, false, false, false, false] rfl rfl (any_of HT_.out (by kernel_rfl)) (fun _ _ _ h => h) (Or.inl ⟨by rfl, ?_⟩) ?_ ?_
    rotate_left
    · intro w'; go_simp; with_reducible rfl
    rotate_left
    · simp only [Act.put, List.setIfInBounds_toArray, List.set_cons_zero, List.set_cons_succ, i64_w, i32_w]
      rfl
    refine pure_ (i := 1) (N := some 75) (v := ?_) (a' := ?_) #[true, true, false, false, false, false, false, false, false, false, false, false, false, false, false, false, false, false, false, false, false, false, false, false, false, false, false, false, false] rfl rfl (any_of HT_.out (by kernel_rfl)) (fun _ _ _ h => h) (Or.inl ⟨by rfl, ?_⟩) ?_ ?_
    rotate_left
    · intro w'; go_simp; with_reducible rfl
    rotate_left
    · simp only [Act.put, List.setIfInBounds_toArray, List.set_cons_zero, List.set_cons_succ, i64_w, i32_w]
      rfl
    refine pure_ (i := 2) (N := some 76) (v := ?_) (a' := ?_) #[true, true, true, false, false, false, false, false, false, false, false, false, false, false, false, false, false, false, false, false, false, false, false, false, false, false, false, false, false] rfl rfl (any_of HT_.out (by kernel_rfl)) (fun _ _ _ h => h) (Or.inl ⟨by rfl, ?_⟩) ?_ ?_
    rotate_left
    · intro w'; go_simp; with_reducible rfl
    rotate_left
    · simp only [Act.put, List.setIfInBounds_toArray, List.set_cons_zero, List.set_cons_succ, i64_w, i32_w]
      rfl
    refine pure_ (i := 3) (N := some 77) (v := ?_) (a' := ?_) #[true, true, true, true, false, false, false, false, false, false, false, false, false, false, false, false, false, false, false, false, false, false, false, false, false, false, false, false, false] rfl rfl (any_of HT_.out (by kernel_rfl)) (fun _ _ _ h => h) (Or.inl ⟨by rfl, ?_⟩) ?_ ?_
    rotate_left
    · intro w'; go_simp; with_reducible rfl
    rotate_left
    · simp only [Act.put, List.setIfInBounds_toArray, List.set_cons_zero, List.set_cons_succ, i64_w, i32_w]
      rfl
    refine pure_ (i := 4) (N := some 78) (v := ?_) (a' := ?_) #[true, true, true, true, true, false, false, false, false, false, false, false, false, false, false, false, false, false, false, false, false, false, false, false, false, false, false, false, false] rfl rfl (any_of HT_.out (by kernel_rfl)) (fun _ _ _ h => h) (Or.inl ⟨by rfl, ?_⟩) ?_ ?_
    rotate_left
    · intro w'; go_simp; with_reducible rfl
    rotate_left
    · simp only [Act.put, List.setIfInBounds_toArray, List.set_cons_zero, List.set_cons_succ, i64_w, i32_w]
      rfl
    refine pure_ (i := 5) (N := some 79) (v := ?_) (a' := ?_) #[true, true, true, true, true, true, false, false, false, false, false, false, false, false, false, false, false, false, false, false, false, false, false, false, false, false, false, false, false] rfl rfl (any_of HT_.out (by kernel_rfl)) (fun _ _ _ h => h) (Or.inl ⟨by rfl, ?_⟩) ?_ ?_
    rotate_left
    · intro w'; go_simp; with_reducible rfl
    rotate_left
    · simp only [Act.put, List.setIfInBounds_toArray, List.set_cons_zero, List.set_cons_succ, i64_w, i32_w]
      rfl
    refine pure_ (i := 6) (N := some 80) (v := ?_) (a' := ?_) #[true, true, true, true, true, true, true, false, false, false, false, false, false, false, false, false, false, false, false, false, false, false, false, false, false, false, false, false, false] rfl rfl (any_of HT_.out (by kernel_rfl)) (fun _ _ _ h => h) (Or.inl ⟨by rfl, ?_⟩) ?_ ?_
    rotate_left
    · intro w'; go_simp; with_reducible rfl
    rotate_left
    · simp only [Act.put, List.setIfInBounds_toArray, List.set_cons_zero, List.set_cons_succ, i64_w, i32_w]
      rfl
    refine take_ (i := 7) (N := some 81) (v := ?_) (a' := ?_) #[true, true, true, true, true, true, true, true, false, false, false, false, false, false, false, false, false, false, false, false, false, false, false, false, false, false, false, false, false] rfl rfl (take_ofW HT_.out HW_.out (by kernel_rfl)) (fun _ _ _ h => h) (Or.inl ⟨by rfl, ?_⟩) hHeld ?_ ?_
    rotate_left
    · intro w' hs_
      have c0 := (blk_cell hs_.1 0).trans rfl
      have c1 := (blk_cell hs_.1 1).trans rfl
      have c2 := (blk_cell hs_.1 2).trans rfl
      have c3 := (blk_cell hs_.1 3).trans rfl
      go_simp; with_reducible rfl
    rotate_left
    · simp only [Act.put, List.setIfInBounds_toArray, List.set_cons_zero, List.set_cons_succ, i64_w, i32_w]
      rfl
    refine take_ (i := 8) (N := some 82) (v := ?_) (a' := ?_) #[true, true, true, true, true, true, true, true, true, false, false, false, false, false, false, false, false, false, false, false, false, false, false, false, false, false, false, false, false] rfl rfl (take_ofW HT_.out HW_.out (by kernel_rfl)) (fun _ _ _ h => h) (Or.inl ⟨by rfl, ?_⟩) hHeld ?_ ?_
    rotate_left
    · intro w' hs_
      have c0 := (blk_cell hs_.2 0).trans rfl
      have c1 := (blk_cell hs_.2 1).trans rfl
      have c2 := (blk_cell hs_.2 2).trans rfl
      have c3 := (blk_cell hs_.2 3).trans rfl
      go_simp; with_reducible rfl
    rotate_left
    · simp only [Act.put, List.setIfInBounds_toArray, List.set_cons_zero, List.set_cons_succ, i64_w, i32_w]
      rfl
    refine one_ (i := 9) (N := some 83) #[true, true, true, true, true, true, true, true, true, true, false, false, false, false, false, false, false, false, false, false, false, false, false, false, false, false, false, false, false] rfl rfl (one_of HT_.out (by kernel_rfl)) (by decide) (fun K hK => ?_)
    refine Kd.R_lit_step k23 _ 23 ?hg (N := 83) ?hd (xs := ([a, b] : List S23)) (inner := [.int .i64 a.f0, .int .i64 a.f1, .int .i64 a.f2, .int .i64 a.f3, .int .i64 b.f0, .int .i64 b.f1, .int .i64 b.f2, .int .i64 b.f3]) (ok := fun _ => True) (okp := fun _ => True) ?hr ?hp (fun _ hk => hk) trivial (Below.refl _ _) (Nat.le_refl _) (by simp) ?_; (case hd => rfl); (case hg => rfl); (case hr => first | (go_simp; done) | (go_simp; rfl)); (case hp => exact (Reps.c4 (show Kd.M k23 _ _ _ a [.int .i64 a.f0, .int .i64 a.f1, .int .i64 a.f2, .int .i64 a.f3] from k23_mkM _ _ _ a) (Reps.c4 (show Kd.M k23 _ _ _ b [.int .i64 b.f0, .int .i64 b.f1, .int .i64 b.f2, .int .i64 b.f3] from k23_mkM _ _ _ b) (Reps.none _ _))))
    intro vp wl ho hb hg_ hnew_
    clear hg_ hnew_
    obtain ⟨Ap, cp, er⟩ := Kd.R_slice ho
    subst er
    have qKb2_ := Aside0.mk (blk_below Kb2.out hb); have qKb3_ := Aside0.mk (blk_below Kb3.out hb); have qHB_ := Aside0.mk (below_step HB.out hb); clear Kb2 Kb3 HB; have Kb2 := qKb2_; have Kb3 := qKb3_; have HB := qHB_; clear qKb2_ qKb3_ qHB_
    have Hp := Aside0.mk (Kd.R_reads' ho).2.2
    have Lp := Aside0.mk (Kd.R_reads' ho).2.1
    clear ho hb
    refine hK.out _ _ ⟨Kb2.out, Kb3.out⟩ (fun hHeld => ?_)
    clear hK K
    refine norm_ (a' := ?_) ?_ ?_
    rotate_left
    · show Act.put _ (some 83) _ = _
      simp only [Act.put, List.setIfInBounds_toArray, List.set_cons_zero, List.set_cons_succ, i64_w, i32_w]
      rfl
    refine one_ (i := 10) (N := some 84) #[true, true, true, true, true, true, true, true, true, true, true, false, false, false, false, false, false, false, false, false, false, false, false, false, false, false, false, false, false] rfl rfl (one_of HT_.out (by kernel_rfl)) (by decide) (fun K hK => ?_)
    refine goes_ Try.func69 (by kernel_rfl) rfl #[.slice Ap ([a, b] : List S23).length cp] (by rfl) rfl rfl (by (try simp only [List.map_toArray, List.map_cons, List.map_nil]); first | done | rfl) ?_
    refine (rect_Apart.calls Ap cp [a, b] false _ Hp.out Lp.out A1.out).mono ?_
    rintro e wc2 ⟨rfl, hb⟩
    refine ⟨_, rfl, ?_⟩
    have qHp_ := Aside0.mk (Kd.C_below Hp.out hb); have qKb2_ := Aside0.mk (blk_below Kb2.out hb); have qKb3_ := Aside0.mk (blk_below Kb3.out hb); have qHB_ := Aside0.mk (below_step HB.out hb); clear Hp Kb2 Kb3 HB; have Hp := qHp_; have Kb2 := qKb2_; have Kb3 := qKb3_; have HB := qHB_; clear qHp_ qKb2_ qKb3_ qHB_
    clear hb
    refine hK.out _ _ ⟨Kb2.out, Kb3.out⟩ (fun hHeld => ?_)
    clear hK K
    refine norm_ (a' := ?_) ?_ ?_
    rotate_left
    · show Act.put _ (some 84) _ = _
      simp only [Act.put, List.setIfInBounds_toArray, List.set_cons_zero, List.set_cons_succ, i64_w, i32_w]
      rfl
    refine pure_ (i := 11) (N := some 85) (v := ?_) (a' := ?_) #[true, true, true, true, true, true, true, true, true, true, true, true, false, false, false, false, false, false, false, false, false, false, false, false, false, false, false, false, false] rfl rfl (any_of HT_.out (by kernel_rfl)) (fun _ _ _ h => h) (Or.inl ⟨by rfl, ?_⟩) ?_ ?_
    rotate_left
    · intro w'; go_simp; with_reducible rfl
    rotate_left
    · simp only [Act.put, List.setIfInBounds_toArray, List.set_cons_zero, List.set_cons_succ, i64_w, i32_w]
      rfl
    refine pure_ (i := 12) (N := some 86) (v := ?_) (a' := ?_) #[true, true, true, true, true, true, true, true, true, true, true, true, true, false, false, false, false, false, false, false, false, false, false, false, false, false, false, false, false] rfl rfl (any_of HT_.out (by kernel_rfl)) (fun _ _ _ h => h) (Or.inl ⟨by rfl, ?_⟩) ?_ ?_
    rotate_left
    · intro w'; go_simp; with_reducible rfl
    rotate_left
    · simp only [Act.put, List.setIfInBounds_toArray, List.set_cons_zero, List.set_cons_succ, i64_w, i32_w]
      rfl
    refine pure_ (i := 13) (N := some 87) (v := ?_) (a' := ?_) #[true, true, true, true, true, true, true, true, true, true, true, true, true, true, false, false, false, false, false, false, false, false, false, false, false, false, false, false, false] rfl rfl (any_of HT_.out (by kernel_rfl)) (fun _ _ _ h => h) (Or.inl ⟨by rfl, ?_⟩) ?_ ?_
    rotate_left
    · intro w'; go_simp; with_reducible rfl
    rotate_left
    · simp only [Act.put, List.setIfInBounds_toArray, List.set_cons_zero, List.set_cons_succ, i64_w, i32_w]
      rfl
    refine pure_ (i := 14) (N := some 88) (v := ?_) (a' := ?_) #[true, true, true, true, true, true, true, true, true, true, true, true, true, true, true, false, false, false, false, false, false, false, false, false, false, false, false, false, false] rfl rfl (any_of HT_.out (by kernel_rfl)) (fun _ _ _ h => h) (Or.inl ⟨by rfl, ?_⟩) ?_ ?_
    rotate_left
    · intro w'; go_simp; with_reducible rfl
    rotate_left
    · simp only [Act.put, List.setIfInBounds_toArray, List.set_cons_zero, List.set_cons_succ, i64_w, i32_w]
      rfl
    refine take_ (i := 15) (N := some 89) (v := ?_) (a' := ?_) #[true, true, true, true, true, true, true, true, true, true, true, true, true, true, true, true, false, false, false, false, false, false, false, false, false, false, false, false, false] rfl rfl (take_ofW HT_.out HW_.out (by kernel_rfl)) (fun _ _ _ h => h) (Or.inl ⟨by rfl, ?_⟩) hHeld ?_ ?_
    rotate_left
    · intro w' hs_
      have c0 := (blk_cell hs_.1 0).trans rfl
      have c1 := (blk_cell hs_.1 1).trans rfl
      have c2 := (blk_cell hs_.1 2).trans rfl
      have c3 := (blk_cell hs_.1 3).trans rfl
      go_simp; with_reducible rfl
    rotate_left
    · simp only [Act.put, List.setIfInBounds_toArray, List.set_cons_zero, List.set_cons_succ, i64_w, i32_w]
      rfl
    refine take_ (i := 16) (N := some 90) (v := ?_) (a' := ?_) #[true, true, true, true, true, true, true, true, true, true, true, true, true, true, true, true, true, false, false, false, false, false, false, false, false, false, false, false, false] rfl rfl (take_ofW HT_.out HW_.out (by kernel_rfl)) (fun _ _ _ h => h) (Or.inl ⟨by rfl, ?_⟩) hHeld ?_ ?_
    rotate_left
    · intro w' hs_
      have c0 := (blk_cell hs_.2 0).trans rfl
      have c1 := (blk_cell hs_.2 1).trans rfl
      have c2 := (blk_cell hs_.2 2).trans rfl
      have c3 := (blk_cell hs_.2 3).trans rfl
      go_simp; with_reducible rfl
    rotate_left
    · simp only [Act.put, List.setIfInBounds_toArray, List.set_cons_zero, List.set_cons_succ, i64_w, i32_w]
      rfl
    refine take_ (i := 19) (N := some 93) (v := ?_) (a' := ?_) #[true, true, true, true, true, true, true, true, true, true, true, true, true, true, true, true, true, false, false, true, false, false, false, false, false, false, false, false, false] rfl rfl (take_ofW HT_.out HW_.out (by kernel_rfl)) (fun _ _ _ h => h) (Or.inl ⟨by rfl, ?_⟩) hHeld ?_ ?_
    rotate_left
    · intro w' hs_
      have c0 := (blk_cell hs_.2 0).trans rfl
      have c1 := (blk_cell hs_.2 1).trans rfl
      have c2 := (blk_cell hs_.2 2).trans rfl
      have c3 := (blk_cell hs_.2 3).trans rfl
      go_simp; with_reducible rfl
    rotate_left
    · simp only [Act.put, List.setIfInBounds_toArray, List.set_cons_zero, List.set_cons_succ, i64_w, i32_w]
      rfl
    refine take_ (i := 20) (N := some 94) (v := ?_) (a' := ?_) #[true, true, true, true, true, true, true, true, true, true, true, true, true, true, true, true, true, false, false, true, true, false, false, false, false, false, false, false, false] rfl rfl (take_ofW HT_.out HW_.out (by kernel_rfl)) (fun _ _ _ h => h) (Or.inl ⟨by rfl, ?_⟩) hHeld ?_ ?_
    rotate_left
    · intro w' hs_
      have c0 := (blk_cell hs_.1 0).trans rfl
      have c1 := (blk_cell hs_.1 1).trans rfl
      have c2 := (blk_cell hs_.1 2).trans rfl
      have c3 := (blk_cell hs_.1 3).trans rfl
      go_simp; with_reducible rfl
    rotate_left
    · simp only [Act.put, List.setIfInBounds_toArray, List.set_cons_zero, List.set_cons_succ, i64_w, i32_w]
      rfl
    refine join_ (σ := Value × Value) 6 #[true, true, true, true, true, true, true, true, true, true, true, true, true, true, true, true, true, true, true, true, true, true, true, false, false, false, false, false, false] (fun s_ => [(91, s_.1), (92, .bool false), (95, s_.2), (96, .bool false)]) (fun s_ w' => Below wc2.heap.size wc2 w') ?_ ?_
    rotate_left
    · intro hCont
      have D := Aside0.mk (Below.refl wc2.heap.size wc2)
      refine two_ (i := 17) (j := 21) (Ni := some 91) (Nj := some 95) #[true, true, true, true, true, true, true, true, true, true, true, true, true, true, true, true, true, true, false, true, true, false, false, false, false, false, false, false, false] #[true, true, true, true, true, true, true, true, true, true, true, true, true, true, true, true, true, false, false, true, true, true, false, false, false, false, false, false, false] rfl rfl rfl rfl (two_of HT_.out (by kernel_rfl)) (by decide) (by decide) (fun K hK => ?_) (fun K hK => ?_)
      · skip
        refine Kd.R_lit_step k23 _ 23 ?hg (N := 91) ?hd (xs := ([a, b] : List S23)) (inner := [.int .i64 a.f0, .int .i64 a.f1, .int .i64 a.f2, .int .i64 a.f3, .int .i64 b.f0, .int .i64 b.f1, .int .i64 b.f2, .int .i64 b.f3]) (ok := fun _ => True) (okp := fun _ => True) ?hr ?hp (fun _ hk => hk) trivial (Below.refl _ _) (Nat.le_refl _) (by simp) ?_; (case hd => rfl); (case hg => rfl); (case hr => first | (go_simp; done) | (go_simp; rfl)); (case hp => exact (Reps.c4 (show Kd.M k23 _ _ _ a [.int .i64 a.f0, .int .i64 a.f1, .int .i64 a.f2, .int .i64 a.f3] from k23_mkM _ _ _ a) (Reps.c4 (show Kd.M k23 _ _ _ b [.int .i64 b.f0, .int .i64 b.f1, .int .i64 b.f2, .int .i64 b.f3] from k23_mkM _ _ _ b) (Reps.none _ _))))
        intro vq wl ho hb hg_ hnew_
        clear hg_ hnew_
        obtain ⟨Aq, cq, er⟩ := Kd.R_slice ho
        subst er
        have qHp_ := Aside0.mk (Kd.C_below Hp.out hb); have qKb2_ := Aside0.mk (blk_below Kb2.out hb); have qKb3_ := Aside0.mk (blk_below Kb3.out hb); have qHB_ := Aside0.mk (below_step HB.out hb); clear Hp Kb2 Kb3 HB; have Hp := qHp_; have Kb2 := qKb2_; have Kb3 := qKb3_; have HB := qHB_; clear qHp_ qKb2_ qKb3_ qHB_
        have D2 := Aside0.mk (below_step D.out hb)
        clear D
        have D := D2
        clear D2
        have Hq := Aside0.mk (Kd.R_reads' ho).2.2
        have Lq := Aside0.mk (Kd.R_reads' ho).2.1
        clear ho hb
        refine hK.out _ _ ⟨Kb2.out, Kb3.out⟩ (fun hHeld => ?_)
        clear hK K
        refine norm_ (a' := ?_) ?_ ?_
        rotate_left
        · show Act.put _ (some 91) _ = _
          simp only [Act.put, List.setIfInBounds_toArray, List.set_cons_zero, List.set_cons_succ, i64_w, i32_w]
          rfl
        refine two_ (i := 18) (j := 21) (Ni := some 92) (Nj := some 95) #[true, true, true, true, true, true, true, true, true, true, true, true, true, true, true, true, true, true, true, true, true, false, false, false, false, false, false, false, false] #[true, true, true, true, true, true, true, true, true, true, true, true, true, true, true, true, true, true, false, true, true, true, false, false, false, false, false, false, false] rfl rfl rfl rfl (two_of HT_.out (by kernel_rfl)) (by decide) (by decide) (fun K hK => ?_) (fun K hK => ?_)
        · skip
          refine goes_ Try.func69 (by kernel_rfl) rfl #[.slice Aq ([a, b] : List S23).length cq] (by rfl) rfl rfl (by (try simp only [List.map_toArray, List.map_cons, List.map_nil]); first | done | rfl) ?_
          refine (rect_Apart.calls Aq cq [a, b] false _ Hq.out Lq.out A1.out).mono ?_
          rintro e wc2 ⟨rfl, hb⟩
          refine ⟨_, rfl, ?_⟩
          have qHp_ := Aside0.mk (Kd.C_below Hp.out hb); have qHq_ := Aside0.mk (Kd.C_below Hq.out hb); have qKb2_ := Aside0.mk (blk_below Kb2.out hb); have qKb3_ := Aside0.mk (blk_below Kb3.out hb); have qHB_ := Aside0.mk (below_step HB.out hb); clear Hp Hq Kb2 Kb3 HB; have Hp := qHp_; have Hq := qHq_; have Kb2 := qKb2_; have Kb3 := qKb3_; have HB := qHB_; clear qHp_ qHq_ qKb2_ qKb3_ qHB_
          have D2 := Aside0.mk (below_step D.out hb)
          clear D
          have D := D2
          clear D2
          clear hb
          refine hK.out _ _ ⟨Kb2.out, Kb3.out⟩ (fun hHeld => ?_)
          clear hK K
          refine norm_ (a' := ?_) ?_ ?_
          rotate_left
          · show Act.put _ (some 92) _ = _
            simp only [Act.put, List.setIfInBounds_toArray, List.set_cons_zero, List.set_cons_succ, i64_w, i32_w]
            rfl
          refine one_ (i := 21) (N := some 95) #[true, true, true, true, true, true, true, true, true, true, true, true, true, true, true, true, true, true, true, true, true, true, false, false, false, false, false, false, false] rfl rfl (one_of HT_.out (by kernel_rfl)) (by decide) (fun K hK => ?_)
          refine Kd.R_lit_step k23 _ 23 ?hg (N := 95) ?hd (xs := ([b, a] : List S23)) (inner := [.int .i64 b.f0, .int .i64 b.f1, .int .i64 b.f2, .int .i64 b.f3, .int .i64 a.f0, .int .i64 a.f1, .int .i64 a.f2, .int .i64 a.f3]) (ok := fun _ => True) (okp := fun _ => True) ?hr ?hp (fun _ hk => hk) trivial (Below.refl _ _) (Nat.le_refl _) (by simp) ?_; (case hd => rfl); (case hg => rfl); (case hr => first | (go_simp; done) | (go_simp; rfl)); (case hp => exact (Reps.c4 (show Kd.M k23 _ _ _ b [.int .i64 b.f0, .int .i64 b.f1, .int .i64 b.f2, .int .i64 b.f3] from k23_mkM _ _ _ b) (Reps.c4 (show Kd.M k23 _ _ _ a [.int .i64 a.f0, .int .i64 a.f1, .int .i64 a.f2, .int .i64 a.f3] from k23_mkM _ _ _ a) (Reps.none _ _))))
          intro vs wl ho hb hg_ hnew_
          clear hg_ hnew_
          obtain ⟨As, cs, er⟩ := Kd.R_slice ho
          subst er
          have qHp_ := Aside0.mk (Kd.C_below Hp.out hb); have qHq_ := Aside0.mk (Kd.C_below Hq.out hb); have qKb2_ := Aside0.mk (blk_below Kb2.out hb); have qKb3_ := Aside0.mk (blk_below Kb3.out hb); have qHB_ := Aside0.mk (below_step HB.out hb); clear Hp Hq Kb2 Kb3 HB; have Hp := qHp_; have Hq := qHq_; have Kb2 := qKb2_; have Kb3 := qKb3_; have HB := qHB_; clear qHp_ qHq_ qKb2_ qKb3_ qHB_
          have D2 := Aside0.mk (below_step D.out hb)
          clear D
          have D := D2
          clear D2
          have Hs := Aside0.mk (Kd.R_reads' ho).2.2
          have Ls := Aside0.mk (Kd.R_reads' ho).2.1
          clear ho hb
          refine hK.out _ _ ⟨Kb2.out, Kb3.out⟩ (fun hHeld => ?_)
          clear hK K
          refine norm_ (a' := ?_) ?_ ?_
          rotate_left
          · show Act.put _ (some 95) _ = _
            simp only [Act.put, List.setIfInBounds_toArray, List.set_cons_zero, List.set_cons_succ, i64_w, i32_w]
            rfl
          refine one_ (i := 22) (N := some 96) #[true, true, true, true, true, true, true, true, true, true, true, true, true, true, true, true, true, true, true, true, true, true, true, false, false, false, false, false, false] rfl rfl (one_of HT_.out (by kernel_rfl)) (by decide) (fun K hK => ?_)
          refine goes_ Try.func69 (by kernel_rfl) rfl #[.slice As ([b, a] : List S23).length cs] (by rfl) rfl rfl (by (try simp only [List.map_toArray, List.map_cons, List.map_nil]); first | done | rfl) ?_
          refine (rect_Apart.calls As cs [b, a] false _ Hs.out Ls.out C1.out).mono ?_
          rintro e wc2 ⟨rfl, hb⟩
          refine ⟨_, rfl, ?_⟩
          have qHp_ := Aside0.mk (Kd.C_below Hp.out hb); have qHq_ := Aside0.mk (Kd.C_below Hq.out hb); have qHs_ := Aside0.mk (Kd.C_below Hs.out hb); have qKb2_ := Aside0.mk (blk_below Kb2.out hb); have qKb3_ := Aside0.mk (blk_below Kb3.out hb); have qHB_ := Aside0.mk (below_step HB.out hb); clear Hp Hq Hs Kb2 Kb3 HB; have Hp := qHp_; have Hq := qHq_; have Hs := qHs_; have Kb2 := qKb2_; have Kb3 := qKb3_; have HB := qHB_; clear qHp_ qHq_ qHs_ qKb2_ qKb3_ qHB_
          have D2 := Aside0.mk (below_step D.out hb)
          clear D
          have D := D2
          clear D2
          clear hb
          refine hK.out _ _ ⟨Kb2.out, Kb3.out⟩ (fun hHeld => ?_)
          clear hK K
          refine norm_ (a' := ?_) ?_ ?_
          rotate_left
          · show Act.put _ (some 96) _ = _
            simp only [Act.put, List.setIfInBounds_toArray, List.set_cons_zero, List.set_cons_succ, i64_w, i32_w]
            rfl
          exact norm_ (by simp only [putAll, Act.put, List.setIfInBounds_toArray, List.set_cons_zero, List.set_cons_succ]) (hCont (.slice Aq ([a, b] : List S23).length cq, .slice As ([b, a] : List S23).length cs) _ D.out)
        · skip
          refine Kd.R_lit_step k23 _ 23 ?hg (N := 95) ?hd (xs := ([b, a] : List S23)) (inner := [.int .i64 b.f0, .int .i64 b.f1, .int .i64 b.f2, .int .i64 b.f3, .int .i64 a.f0, .int .i64 a.f1, .int .i64 a.f2, .int .i64 a.f3]) (ok := fun _ => True) (okp := fun _ => True) ?hr ?hp (fun _ hk => hk) trivial (Below.refl _ _) (Nat.le_refl _) (by simp) ?_; (case hd => rfl); (case hg => rfl); (case hr => first | (go_simp; done) | (go_simp; rfl)); (case hp => exact (Reps.c4 (show Kd.M k23 _ _ _ b [.int .i64 b.f0, .int .i64 b.f1, .int .i64 b.f2, .int .i64 b.f3] from k23_mkM _ _ _ b) (Reps.c4 (show Kd.M k23 _ _ _ a [.int .i64 a.f0, .int .i64 a.f1, .int .i64 a.f2, .int .i64 a.f3] from k23_mkM _ _ _ a) (Reps.none _ _))))
          intro vs wl ho hb hg_ hnew_
          clear hg_ hnew_
          obtain ⟨As, cs, er⟩ := Kd.R_slice ho
          subst er
          have qHp_ := Aside0.mk (Kd.C_below Hp.out hb); have qHq_ := Aside0.mk (Kd.C_below Hq.out hb); have qKb2_ := Aside0.mk (blk_below Kb2.out hb); have qKb3_ := Aside0.mk (blk_below Kb3.out hb); have qHB_ := Aside0.mk (below_step HB.out hb); clear Hp Hq Kb2 Kb3 HB; have Hp := qHp_; have Hq := qHq_; have Kb2 := qKb2_; have Kb3 := qKb3_; have HB := qHB_; clear qHp_ qHq_ qKb2_ qKb3_ qHB_
          have D2 := Aside0.mk (below_step D.out hb)
          clear D
          have D := D2
          clear D2
          have Hs := Aside0.mk (Kd.R_reads' ho).2.2
          have Ls := Aside0.mk (Kd.R_reads' ho).2.1
          clear ho hb
          refine hK.out _ _ ⟨Kb2.out, Kb3.out⟩ (fun hHeld => ?_)
          clear hK K
          refine norm_ (a' := ?_) ?_ ?_
          rotate_left
          · show Act.put _ (some 95) _ = _
            simp only [Act.put, List.setIfInBounds_toArray, List.set_cons_zero, List.set_cons_succ, i64_w, i32_w]
            rfl
          refine one_ (i := 18) (N := some 92) #[true, true, true, true, true, true, true, true, true, true, true, true, true, true, true, true, true, true, true, true, true, true, false, false, false, false, false, false, false] rfl rfl (one_of HT_.out (by kernel_rfl)) (by decide) (fun K hK => ?_)
          refine goes_ Try.func69 (by kernel_rfl) rfl #[.slice Aq ([a, b] : List S23).length cq] (by rfl) rfl rfl (by (try simp only [List.map_toArray, List.map_cons, List.map_nil]); first | done | rfl) ?_
          refine (rect_Apart.calls Aq cq [a, b] false _ Hq.out Lq.out A1.out).mono ?_
          rintro e wc2 ⟨rfl, hb⟩
          refine ⟨_, rfl, ?_⟩
          have qHp_ := Aside0.mk (Kd.C_below Hp.out hb); have qHq_ := Aside0.mk (Kd.C_below Hq.out hb); have qHs_ := Aside0.mk (Kd.C_below Hs.out hb); have qKb2_ := Aside0.mk (blk_below Kb2.out hb); have qKb3_ := Aside0.mk (blk_below Kb3.out hb); have qHB_ := Aside0.mk (below_step HB.out hb); clear Hp Hq Hs Kb2 Kb3 HB; have Hp := qHp_; have Hq := qHq_; have Hs := qHs_; have Kb2 := qKb2_; have Kb3 := qKb3_; have HB := qHB_; clear qHp_ qHq_ qHs_ qKb2_ qKb3_ qHB_
          have D2 := Aside0.mk (below_step D.out hb)
          clear D
          have D := D2
          clear D2
          clear hb
          refine hK.out _ _ ⟨Kb2.out, Kb3.out⟩ (fun hHeld => ?_)
          clear hK K
          refine norm_ (a' := ?_) ?_ ?_
          rotate_left
          · show Act.put _ (some 92) _ = _
            simp only [Act.put, List.setIfInBounds_toArray, List.set_cons_zero, List.set_cons_succ, i64_w, i32_w]
            rfl
          refine one_ (i := 22) (N := some 96) #[true, true, true, true, true, true, true, true, true, true, true, true, true, true, true, true, true, true, true, true, true, true, true, false, false, false, false, false, false] rfl rfl (one_of HT_.out (by kernel_rfl)) (by decide) (fun K hK => ?_)
          refine goes_ Try.func69 (by kernel_rfl) rfl #[.slice As ([b, a] : List S23).length cs] (by rfl) rfl rfl (by (try simp only [List.map_toArray, List.map_cons, List.map_nil]); first | done | rfl) ?_
          refine (rect_Apart.calls As cs [b, a] false _ Hs.out Ls.out C1.out).mono ?_
          rintro e wc2 ⟨rfl, hb⟩
          refine ⟨_, rfl, ?_⟩
          have qHp_ := Aside0.mk (Kd.C_below Hp.out hb); have qHq_ := Aside0.mk (Kd.C_below Hq.out hb); have qHs_ := Aside0.mk (Kd.C_below Hs.out hb); have qKb2_ := Aside0.mk (blk_below Kb2.out hb); have qKb3_ := Aside0.mk (blk_below Kb3.out hb); have qHB_ := Aside0.mk (below_step HB.out hb); clear Hp Hq Hs Kb2 Kb3 HB; have Hp := qHp_; have Hq := qHq_; have Hs := qHs_; have Kb2 := qKb2_; have Kb3 := qKb3_; have HB := qHB_; clear qHp_ qHq_ qHs_ qKb2_ qKb3_ qHB_
          have D2 := Aside0.mk (below_step D.out hb)
          clear D
          have D := D2
          clear D2
          clear hb
          refine hK.out _ _ ⟨Kb2.out, Kb3.out⟩ (fun hHeld => ?_)
          clear hK K
          refine norm_ (a' := ?_) ?_ ?_
          rotate_left
          · show Act.put _ (some 96) _ = _
            simp only [Act.put, List.setIfInBounds_toArray, List.set_cons_zero, List.set_cons_succ, i64_w, i32_w]
            rfl
          exact norm_ (by simp only [putAll, Act.put, List.setIfInBounds_toArray, List.set_cons_zero, List.set_cons_succ]) (hCont (.slice Aq ([a, b] : List S23).length cq, .slice As ([b, a] : List S23).length cs) _ D.out)
      · skip
        refine Kd.R_lit_step k23 _ 23 ?hg (N := 95) ?hd (xs := ([b, a] : List S23)) (inner := [.int .i64 b.f0, .int .i64 b.f1, .int .i64 b.f2, .int .i64 b.f3, .int .i64 a.f0, .int .i64 a.f1, .int .i64 a.f2, .int .i64 a.f3]) (ok := fun _ => True) (okp := fun _ => True) ?hr ?hp (fun _ hk => hk) trivial (Below.refl _ _) (Nat.le_refl _) (by simp) ?_; (case hd => rfl); (case hg => rfl); (case hr => first | (go_simp; done) | (go_simp; rfl)); (case hp => exact (Reps.c4 (show Kd.M k23 _ _ _ b [.int .i64 b.f0, .int .i64 b.f1, .int .i64 b.f2, .int .i64 b.f3] from k23_mkM _ _ _ b) (Reps.c4 (show Kd.M k23 _ _ _ a [.int .i64 a.f0, .int .i64 a.f1, .int .i64 a.f2, .int .i64 a.f3] from k23_mkM _ _ _ a) (Reps.none _ _))))
        intro vs wl ho hb hg_ hnew_
        clear hg_ hnew_
        obtain ⟨As, cs, er⟩ := Kd.R_slice ho
        subst er
        have qHp_ := Aside0.mk (Kd.C_below Hp.out hb); have qKb2_ := Aside0.mk (blk_below Kb2.out hb); have qKb3_ := Aside0.mk (blk_below Kb3.out hb); have qHB_ := Aside0.mk (below_step HB.out hb); clear Hp Kb2 Kb3 HB; have Hp := qHp_; have Kb2 := qKb2_; have Kb3 := qKb3_; have HB := qHB_; clear qHp_ qKb2_ qKb3_ qHB_
        have D2 := Aside0.mk (below_step D.out hb)
        clear D
        have D := D2
        clear D2
        have Hs := Aside0.mk (Kd.R_reads' ho).2.2
        have Ls := Aside0.mk (Kd.R_reads' ho).2.1
        clear ho hb
        refine hK.out _ _ ⟨Kb2.out, Kb3.out⟩ (fun hHeld => ?_)
        clear hK K
        refine norm_ (a' := ?_) ?_ ?_
        rotate_left
        · show Act.put _ (some 95) _ = _
          simp only [Act.put, List.setIfInBounds_toArray, List.set_cons_zero, List.set_cons_succ, i64_w, i32_w]
          rfl
        refine one_ (i := 17) (N := some 91) #[true, true, true, true, true, true, true, true, true, true, true, true, true, true, true, true, true, true, false, true, true, true, false, false, false, false, false, false, false] rfl rfl (one_of HT_.out (by kernel_rfl)) (by decide) (fun K hK => ?_)
        refine Kd.R_lit_step k23 _ 23 ?hg (N := 91) ?hd (xs := ([a, b] : List S23)) (inner := [.int .i64 a.f0, .int .i64 a.f1, .int .i64 a.f2, .int .i64 a.f3, .int .i64 b.f0, .int .i64 b.f1, .int .i64 b.f2, .int .i64 b.f3]) (ok := fun _ => True) (okp := fun _ => True) ?hr ?hp (fun _ hk => hk) trivial (Below.refl _ _) (Nat.le_refl _) (by simp) ?_; (case hd => rfl); (case hg => rfl); (case hr => first | (go_simp; done) | (go_simp; rfl)); (case hp => exact (Reps.c4 (show Kd.M k23 _ _ _ a [.int .i64 a.f0, .int .i64 a.f1, .int .i64 a.f2, .int .i64 a.f3] from k23_mkM _ _ _ a) (Reps.c4 (show Kd.M k23 _ _ _ b [.int .i64 b.f0, .int .i64 b.f1, .int .i64 b.f2, .int .i64 b.f3] from k23_mkM _ _ _ b) (Reps.none _ _))))
        intro vq wl ho hb hg_ hnew_
        clear hg_ hnew_
        obtain ⟨Aq, cq, er⟩ := Kd.R_slice ho
        subst er
        have qHp_ := Aside0.mk (Kd.C_below Hp.out hb); have qHs_ := Aside0.mk (Kd.C_below Hs.out hb); have qKb2_ := Aside0.mk (blk_below Kb2.out hb); have qKb3_ := Aside0.mk (blk_below Kb3.out hb); have qHB_ := Aside0.mk (below_step HB.out hb); clear Hp Hs Kb2 Kb3 HB; have Hp := qHp_; have Hs := qHs_; have Kb2 := qKb2_; have Kb3 := qKb3_; have HB := qHB_; clear qHp_ qHs_ qKb2_ qKb3_ qHB_
        have D2 := Aside0.mk (below_step D.out hb)
        clear D
        have D := D2
        clear D2
        have Hq := Aside0.mk (Kd.R_reads' ho).2.2
        have Lq := Aside0.mk (Kd.R_reads' ho).2.1
        clear ho hb
        refine hK.out _ _ ⟨Kb2.out, Kb3.out⟩ (fun hHeld => ?_)
        clear hK K
        refine norm_ (a' := ?_) ?_ ?_
        rotate_left
        · show Act.put _ (some 91) _ = _
          simp only [Act.put, List.setIfInBounds_toArray, List.set_cons_zero, List.set_cons_succ, i64_w, i32_w]
          rfl
        refine one_ (i := 18) (N := some 92) #[true, true, true, true, true, true, true, true, true, true, true, true, true, true, true, true, true, true, true, true, true, true, false, false, false, false, false, false, false] rfl rfl (one_of HT_.out (by kernel_rfl)) (by decide) (fun K hK => ?_)
        refine goes_ Try.func69 (by kernel_rfl) rfl #[.slice Aq ([a, b] : List S23).length cq] (by rfl) rfl rfl (by (try simp only [List.map_toArray, List.map_cons, List.map_nil]); first | done | rfl) ?_
        refine (rect_Apart.calls Aq cq [a, b] false _ Hq.out Lq.out A1.out).mono ?_
        rintro e wc2 ⟨rfl, hb⟩
        refine ⟨_, rfl, ?_⟩
        have qHp_ := Aside0.mk (Kd.C_below Hp.out hb); have qHs_ := Aside0.mk (Kd.C_below Hs.out hb); have qHq_ := Aside0.mk (Kd.C_below Hq.out hb); have qKb2_ := Aside0.mk (blk_below Kb2.out hb); have qKb3_ := Aside0.mk (blk_below Kb3.out hb); have qHB_ := Aside0.mk (below_step HB.out hb); clear Hp Hs Hq Kb2 Kb3 HB; have Hp := qHp_; have Hs := qHs_; have Hq := qHq_; have Kb2 := qKb2_; have Kb3 := qKb3_; have HB := qHB_; clear qHp_ qHs_ qHq_ qKb2_ qKb3_ qHB_
        have D2 := Aside0.mk (below_step D.out hb)
        clear D
        have D := D2
        clear D2
        clear hb
        refine hK.out _ _ ⟨Kb2.out, Kb3.out⟩ (fun hHeld => ?_)
        clear hK K
        refine norm_ (a' := ?_) ?_ ?_
        rotate_left
        · show Act.put _ (some 92) _ = _
          simp only [Act.put, List.setIfInBounds_toArray, List.set_cons_zero, List.set_cons_succ, i64_w, i32_w]
          rfl
        refine one_ (i := 22) (N := some 96) #[true, true, true, true, true, true, true, true, true, true, true, true, true, true, true, true, true, true, true, true, true, true, true, false, false, false, false, false, false] rfl rfl (one_of HT_.out (by kernel_rfl)) (by decide) (fun K hK => ?_)
        refine goes_ Try.func69 (by kernel_rfl) rfl #[.slice As ([b, a] : List S23).length cs] (by rfl) rfl rfl (by (try simp only [List.map_toArray, List.map_cons, List.map_nil]); first | done | rfl) ?_
        refine (rect_Apart.calls As cs [b, a] false _ Hs.out Ls.out C1.out).mono ?_
        rintro e wc2 ⟨rfl, hb⟩
        refine ⟨_, rfl, ?_⟩
        have qHp_ := Aside0.mk (Kd.C_below Hp.out hb); have qHs_ := Aside0.mk (Kd.C_below Hs.out hb); have qHq_ := Aside0.mk (Kd.C_below Hq.out hb); have qKb2_ := Aside0.mk (blk_below Kb2.out hb); have qKb3_ := Aside0.mk (blk_below Kb3.out hb); have qHB_ := Aside0.mk (below_step HB.out hb); clear Hp Hs Hq Kb2 Kb3 HB; have Hp := qHp_; have Hs := qHs_; have Hq := qHq_; have Kb2 := qKb2_; have Kb3 := qKb3_; have HB := qHB_; clear qHp_ qHs_ qHq_ qKb2_ qKb3_ qHB_
        have D2 := Aside0.mk (below_step D.out hb)
        clear D
        have D := D2
        clear D2
        clear hb
        refine hK.out _ _ ⟨Kb2.out, Kb3.out⟩ (fun hHeld => ?_)
        clear hK K
        refine norm_ (a' := ?_) ?_ ?_
        rotate_left
        · show Act.put _ (some 96) _ = _
          simp only [Act.put, List.setIfInBounds_toArray, List.set_cons_zero, List.set_cons_succ, i64_w, i32_w]
          rfl
        exact norm_ (by simp only [putAll, Act.put, List.setIfInBounds_toArray, List.set_cons_zero, List.set_cons_succ]) (hCont (.slice Aq ([a, b] : List S23).length cq, .slice As ([b, a] : List S23).length cs) _ D.out)
    rintro ⟨vq, vs⟩ wj hb
    simp only [putAll, Act.put, List.setIfInBounds_toArray, List.set_cons_zero, List.set_cons_succ]
    replace hb : Below wc2.heap.size wc2 wj := hb
    have qKb2_ := Aside0.mk (blk_below Kb2.out hb); have qKb3_ := Aside0.mk (blk_below Kb3.out hb); have qHB_ := Aside0.mk (below_step HB.out hb); clear Kb2 Kb3 HB; have Kb2 := qKb2_; have Kb3 := qKb3_; have HB := qHB_; clear qKb2_ qKb3_ qHB_
    clear hb
    have hHeld : wj.heap[b2]? = some (.cells #[.int .i64 a.f0, .int .i64 a.f1, .int .i64 a.f2, .int .i64 a.f3] 23 (0, 0)) ∧ wj.heap[b3]? = some (.cells #[.int .i64 b.f0, .int .i64 b.f1, .int .i64 b.f2, .int .i64 b.f3] 23 (0, 0)) := ⟨Kb2.out, Kb3.out⟩
    refine pure_ (i := 23) (N := some 97) (v := ?_) (a' := ?_) #[true, true, true, true, true, true, true, true, true, true, true, true, true, true, true, true, true, true, true, true, true, true, true, true, false, false, false, false, false] rfl rfl (any_of HT_.out (by kernel_rfl)) (fun _ _ _ h => h) (Or.inl ⟨by rfl, ?_⟩) ?_ ?_
    rotate_left
    · intro w'; go_simp; with_reducible rfl
    rotate_left
    · simp only [Act.put, List.setIfInBounds_toArray, List.set_cons_zero, List.set_cons_succ, i64_w, i32_w]
      rfl
    refine pure_ (i := 24) (N := some 98) (v := ?_) (a' := ?_) #[true, true, true, true, true, true, true, true, true, true, true, true, true, true, true, true, true, true, true, true, true, true, true, true, true, false, false, false, false] rfl rfl (any_of HT_.out (by kernel_rfl)) (fun _ _ _ h => h) (Or.inl ⟨by rfl, ?_⟩) ?_ ?_
    rotate_left
    · intro w'; go_simp; with_reducible rfl
    rotate_left
    · simp only [Act.put, List.setIfInBounds_toArray, List.set_cons_zero, List.set_cons_succ, i64_w, i32_w]
      rfl
    refine pure_ (i := 25) (N := some 99) (v := ?_) (a' := ?_) #[true, true, true, true, true, true, true, true, true, true, true, true, true, true, true, true, true, true, true, true, true, true, true, true, true, true, false, false, false] rfl rfl (any_of HT_.out (by kernel_rfl)) (fun _ _ _ h => h) (Or.inl ⟨by rfl, ?_⟩) ?_ ?_
    rotate_left
    · intro w'; go_simp; with_reducible rfl
    rotate_left
    · simp only [Act.put, List.setIfInBounds_toArray, List.set_cons_zero, List.set_cons_succ, i64_w, i32_w]
      rfl
    refine one_ (i := 26) (N := some 100) #[true, true, true, true, true, true, true, true, true, true, true, true, true, true, true, true, true, true, true, true, true, true, true, true, true, true, true, false, false] rfl rfl (one_of HT_.out (by kernel_rfl)) (by decide) (fun K hK => ?_)
    refine goes_ Try.func44 (by kernel_rfl) rfl #[] (by rfl) rfl rfl (by (try simp only [List.map_toArray, List.map_cons, List.map_nil]); first | done | rfl) ?_
    refine (sashlaw04_awake.calls ka true _ AW.out).mono ?_
    rintro e wc2 ⟨rfl, hb⟩
    refine ⟨_, rfl, ?_⟩
    have qKb2_ := Aside0.mk (blk_below Kb2.out hb); have qKb3_ := Aside0.mk (blk_below Kb3.out hb); have qHB_ := Aside0.mk (below_step HB.out hb); clear Kb2 Kb3 HB; have Kb2 := qKb2_; have Kb3 := qKb3_; have HB := qHB_; clear qKb2_ qKb3_ qHB_
    clear hb
    refine hK.out _ _ ⟨Kb2.out, Kb3.out⟩ (fun hHeld => ?_)
    clear hK K
    refine norm_ (a' := ?_) ?_ ?_
    rotate_left
    · show Act.put _ (some 100) _ = _
      simp only [Act.put, List.setIfInBounds_toArray, List.set_cons_zero, List.set_cons_succ, i64_w, i32_w]
      rfl
    refine pure_ (i := 27) (N := some 101) (v := ?_) (a' := ?_) #[true, true, true, true, true, true, true, true, true, true, true, true, true, true, true, true, true, true, true, true, true, true, true, true, true, true, true, true, false] rfl rfl (any_of HT_.out (by kernel_rfl)) (fun _ _ _ h => h) (Or.inl ⟨by rfl, ?_⟩) ?_ ?_
    rotate_left
    · intro w'; go_simp; with_reducible rfl
    rotate_left
    · simp only [Act.put, List.setIfInBounds_toArray, List.set_cons_zero, List.set_cons_succ, i64_w, i32_w]
      rfl
    refine pure_ (i := 28) (N := some 4) (v := ?_) (a' := ?_) #[true, true, true, true, true, true, true, true, true, true, true, true, true, true, true, true, true, true, true, true, true, true, true, true, true, true, true, true, true] rfl rfl (any_of HT_.out (by kernel_rfl)) (fun _ _ _ h => h) (Or.inl ⟨by rfl, ?_⟩) ?_ ?_
    rotate_left
    · intro w'; go_simp; with_reducible rfl
    rotate_left
    · simp only [Act.put, List.setIfInBounds_toArray, List.set_cons_zero, List.set_cons_succ, i64_w, i32_w]
      rfl
    refine done_ (done_of HT_.out (by kernel_rfl)) ?_
    go_wp2
    go_ret
    exact ⟨rfl, HB.out⟩
set_option maxHeartbeats 4000000 in
set_option maxRecDepth 100000 in
theorem meets_out (a b : S23) (w : World) (awk : ∃ k, sashlaw04_awake.f k = some true) (hI : rect_Inside.f a.f0 a.f1 a.f2 a.f3 [b] = some false) (hM : rect_May.f [a, b] = some true) (h0 h1 h2 h3 : Bool) (hin : (h0 && (h1 && (h2 && h3))) = false) (e0 : rect_Has.f a.f0 a.f1 a.f2 a.f3 (b.f0) (b.f1) = some h0) (e1 : rect_Has.f a.f0 a.f1 a.f2 a.f3 (wrap64 (wrap64 (b.f0 + b.f2) - 1)) (b.f1) = some h1) (e2 : rect_Has.f a.f0 a.f1 a.f2 a.f3 (b.f0) (wrap64 (wrap64 (b.f1 + b.f3) - 1)) = some h2) (e3 : rect_Has.f a.f0 a.f1 a.f2 a.f3 (wrap64 (wrap64 (b.f0 + b.f2) - 1)) (wrap64 (wrap64 (b.f1 + b.f3) - 1)) = some h3) (r : Bool) (hA : rect_Apart.f [a, b] = some r) (hC : rect_Apart.f [b, a] = some r) :
    Calls Try.prog 13 #[.agg #[.int .i64 a.f0, .int .i64 a.f1, .int .i64 a.f2, .int .i64 a.f3], .agg #[.int .i64 b.f0, .int .i64 b.f1, .int .i64 b.f2, .int .i64 b.f3]] w fun e w' => e = .returned (.bool true) ∧ Below w.heap.size w w' := by
  obtain ⟨ka, haw⟩ := awk
  have AW := Aside0.mk haw
  clear haw
  have HB := Aside0.mk (Below.refl w.heap.size w)
  have I1 := Aside0.mk hI
  clear hI
  have M1 := Aside0.mk hM
  clear hM
  have A1 := Aside0.mk hA
  clear hA
  have C1 := Aside0.mk hC
  clear hC
  have HIN := Aside0.mk hin
  clear hin
  have H0 := Aside0.mk e0
  clear e0
  have H1 := Aside0.mk e1
  clear e1
  have H2 := Aside0.mk e2
  clear e2
  have H3 := Aside0.mk e3
  clear e3
  go_enter Try.func13, Try.ntmps13
  go_wp2_with (first
    | ((with_reducible refine gate_dst (N := 2) rfl ?_); refine box_event ?hg (N := 2) ?hd (cs := #[.int .i64 a.f0, .int .i64 a.f1, .int .i64 a.f2, .int .i64 a.f3]) (t := 23) ?hr ?_; (case hd => rfl); (case hg => rfl); (case hr => first | (go_simp; done) | (go_simp; rfl)); intro b2 hg wb2 hbox hb; have qHB_ := Aside0.mk (below_step HB.out hb); clear HB; have HB := qHB_; clear qHB_; have Kb2 := Aside0.mk hbox; clear hb hbox hg)
    | ((with_reducible refine gate_dst (N := 3) rfl ?_); refine box_event ?hg (N := 3) ?hd (cs := #[.int .i64 b.f0, .int .i64 b.f1, .int .i64 b.f2, .int .i64 b.f3]) (t := 23) ?hr ?_; (case hd => rfl); (case hg => rfl); (case hr => first | (go_simp; done) | (go_simp; rfl)); intro b3 hg wb3 hbox hb; have qKb2_ := Aside0.mk (blk_below Kb2.out hb); have qHB_ := Aside0.mk (below_step HB.out hb); clear Kb2 HB; have Kb2 := qKb2_; have HB := qHB_; clear qKb2_ qHB_; have Kb3 := Aside0.mk hbox; clear hb hbox hg; have cb2_0 := (blk_cell Kb2.out 0).trans rfl; have cb2_1 := (blk_cell Kb2.out 1).trans rfl; have cb2_2 := (blk_cell Kb2.out 2).trans rfl; have cb2_3 := (blk_cell Kb2.out 3).trans rfl; have cb3_0 := (blk_cell Kb3.out 0).trans rfl; have cb3_1 := (blk_cell Kb3.out 1).trans rfl; have cb3_2 := (blk_cell Kb3.out 2).trans rfl; have cb3_3 := (blk_cell Kb3.out 3).trans rfl)
    | ((with_reducible refine gate_dst (N := 9) rfl ?_); (try (refine gate_guard (by rfl) ?_; dsimp only)); refine Kd.R_lit k23 _ 23 ?hg (N := 9) ?hd (xs := ([b] : List S23)) (inner := [.int .i64 b.f0, .int .i64 b.f1, .int .i64 b.f2, .int .i64 b.f3]) (ok := fun _ => True) (okp := fun _ => True) ?hr ?hp (fun _ hk => hk) trivial (Below.refl _ _) (Nat.le_refl _) (by simp) ?_; (case hd => rfl); (case hg => rfl); (case hr => first | (go_simp; done) | (go_simp; rfl)); (case hp => exact (Reps.c4 (show Kd.M k23 _ _ _ b [.int .i64 b.f0, .int .i64 b.f1, .int .i64 b.f2, .int .i64 b.f3] from k23_mkM _ _ _ b) (Reps.none _ _))); intro vr wr ho hb hg_ hnew_; clear hg_ hnew_; obtain ⟨Ar, cr, er⟩ := Kd.R_slice ho; subst er; have qKb2_ := Aside0.mk (blk_below Kb2.out hb); have qKb3_ := Aside0.mk (blk_below Kb3.out hb); have qHB_ := Aside0.mk (below_step HB.out hb); clear Kb2 Kb3 HB; have Kb2 := qKb2_; have Kb3 := qKb3_; have HB := qHB_; clear qKb2_ qKb3_ qHB_; have HR := Aside0.mk (Kd.R_reads' ho).2.2; have LHR := Aside0.mk (Kd.R_reads' ho).2.1; clear ho hb)
    | fail)
  clear cb2_0 cb2_1 cb2_2 cb2_3 cb3_0 cb3_1 cb3_2 cb3_3
  refine (rect_Inside.calls a.f0 a.f1 a.f2 a.f3 Ar cr [b] false _ HR.out LHR.out I1.out).mono ?_
  rintro e wk1 ⟨rfl, hb⟩
  have qHR_ := Aside0.mk (Kd.C_below HR.out hb); have qKb2_ := Aside0.mk (blk_below Kb2.out hb); have qKb3_ := Aside0.mk (blk_below Kb3.out hb); have qHB_ := Aside0.mk (below_step HB.out hb); clear HR Kb2 Kb3 HB; have HR := qHR_; have Kb2 := qKb2_; have Kb3 := qKb3_; have HB := qHB_; clear qHR_ qKb2_ qKb3_ qHB_
  clear hb
  clear HR LHR
  have cb2_0 := (blk_cell Kb2.out 0).trans rfl
  have cb2_1 := (blk_cell Kb2.out 1).trans rfl
  have cb2_2 := (blk_cell Kb2.out 2).trans rfl
  have cb2_3 := (blk_cell Kb2.out 3).trans rfl
  have cb3_0 := (blk_cell Kb3.out 0).trans rfl
  have cb3_1 := (blk_cell Kb3.out 1).trans rfl
  have cb3_2 := (blk_cell Kb3.out 2).trans rfl
  have cb3_3 := (blk_cell Kb3.out 3).trans rfl
  go_wp2_with (first
    | ((with_reducible refine gate_dst (N := 13) rfl ?_); (try (refine gate_guard (by rfl) ?_; dsimp only)); refine Kd.R_lit k23 _ 23 ?hg (N := 13) ?hd (xs := ([a, b] : List S23)) (inner := [.int .i64 a.f0, .int .i64 a.f1, .int .i64 a.f2, .int .i64 a.f3, .int .i64 b.f0, .int .i64 b.f1, .int .i64 b.f2, .int .i64 b.f3]) (ok := fun _ => True) (okp := fun _ => True) ?hr ?hp (fun _ hk => hk) trivial (Below.refl _ _) (Nat.le_refl _) (by simp) ?_; (case hd => rfl); (case hg => rfl); (case hr => first | (go_simp; done) | (go_simp; rfl)); (case hp => exact (Reps.c4 (show Kd.M k23 _ _ _ a [.int .i64 a.f0, .int .i64 a.f1, .int .i64 a.f2, .int .i64 a.f3] from k23_mkM _ _ _ a) (Reps.c4 (show Kd.M k23 _ _ _ b [.int .i64 b.f0, .int .i64 b.f1, .int .i64 b.f2, .int .i64 b.f3] from k23_mkM _ _ _ b) (Reps.none _ _)))); intro vr wr ho hb hg_ hnew_; clear hg_ hnew_; obtain ⟨Ar, cr, er⟩ := Kd.R_slice ho; subst er; have qKb2_ := Aside0.mk (blk_below Kb2.out hb); have qKb3_ := Aside0.mk (blk_below Kb3.out hb); have qHB_ := Aside0.mk (below_step HB.out hb); clear Kb2 Kb3 HB; have Kb2 := qKb2_; have Kb3 := qKb3_; have HB := qHB_; clear qKb2_ qKb3_ qHB_; have HR := Aside0.mk (Kd.R_reads' ho).2.2; have LHR := Aside0.mk (Kd.R_reads' ho).2.1; clear ho hb)
    | fail)
  clear cb2_0 cb2_1 cb2_2 cb2_3 cb3_0 cb3_1 cb3_2 cb3_3
  refine (rect_May.calls Ar cr [a, b] true _ HR.out LHR.out M1.out).mono ?_
  rintro e wk2 ⟨rfl, hb⟩
  have qHR_ := Aside0.mk (Kd.C_below HR.out hb); have qKb2_ := Aside0.mk (blk_below Kb2.out hb); have qKb3_ := Aside0.mk (blk_below Kb3.out hb); have qHB_ := Aside0.mk (below_step HB.out hb); clear HR Kb2 Kb3 HB; have HR := qHR_; have Kb2 := qKb2_; have Kb3 := qKb3_; have HB := qHB_; clear qHR_ qKb2_ qKb3_ qHB_
  clear hb
  clear HR LHR
  go_upto_region 4 with fail
  go_cut [6] (fun v6 wc => v6 = .bool false ∧ Aside0 (wc.heap[b2]? = some (.cells #[.int .i64 a.f0, .int .i64 a.f1, .int .i64 a.f2, .int .i64 a.f3] 23 (0, 0))) ∧ Aside0 (wc.heap[b3]? = some (.cells #[.int .i64 b.f0, .int .i64 b.f1, .int .i64 b.f2, .int .i64 b.f3] 23 (0, 0))) ∧ Aside0 (Below w.heap.size w wc))
  case first =>
    have cb2_0 := (blk_cell Kb2.out 0).trans rfl
    have cb2_1 := (blk_cell Kb2.out 1).trans rfl
    have cb2_2 := (blk_cell Kb2.out 2).trans rfl
    have cb2_3 := (blk_cell Kb2.out 3).trans rfl
    have cb3_0 := (blk_cell Kb3.out 0).trans rfl
    have cb3_1 := (blk_cell Kb3.out 1).trans rfl
    have cb3_2 := (blk_cell Kb3.out 2).trans rfl
    have cb3_3 := (blk_cell Kb3.out 3).trans rfl
    go_wp2_with fail
    clear cb2_0 cb2_1 cb2_2 cb2_3 cb3_0 cb3_1 cb3_2 cb3_3
    refine (rect_Has.calls a.f0 a.f1 a.f2 a.f3 _ _ h0 _ H0.out).mono ?_
    rintro e wk3 ⟨rfl, hb⟩
    have qKb2_ := Aside0.mk (blk_below Kb2.out hb); have qKb3_ := Aside0.mk (blk_below Kb3.out hb); have qHB_ := Aside0.mk (below_step HB.out hb); clear Kb2 Kb3 HB; have Kb2 := qKb2_; have Kb3 := qKb3_; have HB := qHB_; clear qKb2_ qKb3_ qHB_
    clear hb
    cases h0 with
    | false =>
      have hi := HIN.out
      clear hi
      have cb2_0 := (blk_cell Kb2.out 0).trans rfl
      have cb2_1 := (blk_cell Kb2.out 1).trans rfl
      have cb2_2 := (blk_cell Kb2.out 2).trans rfl
      have cb2_3 := (blk_cell Kb2.out 3).trans rfl
      have cb3_0 := (blk_cell Kb3.out 0).trans rfl
      have cb3_1 := (blk_cell Kb3.out 1).trans rfl
      have cb3_2 := (blk_cell Kb3.out 2).trans rfl
      have cb3_3 := (blk_cell Kb3.out 3).trans rfl
      go_wp2
      clear cb2_0 cb2_1 cb2_2 cb2_3 cb3_0 cb3_1 cb3_2 cb3_3
      go_meet
      case rel => exact ⟨rfl, Kb2, Kb3, HB⟩
    | true =>
      have cb2_0 := (blk_cell Kb2.out 0).trans rfl
      have cb2_1 := (blk_cell Kb2.out 1).trans rfl
      have cb2_2 := (blk_cell Kb2.out 2).trans rfl
      have cb2_3 := (blk_cell Kb2.out 3).trans rfl
      have cb3_0 := (blk_cell Kb3.out 0).trans rfl
      have cb3_1 := (blk_cell Kb3.out 1).trans rfl
      have cb3_2 := (blk_cell Kb3.out 2).trans rfl
      have cb3_3 := (blk_cell Kb3.out 3).trans rfl
      go_wp2_with fail
      clear cb2_0 cb2_1 cb2_2 cb2_3 cb3_0 cb3_1 cb3_2 cb3_3
      refine (rect_Has.calls a.f0 a.f1 a.f2 a.f3 _ _ h1 _ H1.out).mono ?_
      rintro e wk4 ⟨rfl, hb⟩
      have qKb2_ := Aside0.mk (blk_below Kb2.out hb); have qKb3_ := Aside0.mk (blk_below Kb3.out hb); have qHB_ := Aside0.mk (below_step HB.out hb); clear Kb2 Kb3 HB; have Kb2 := qKb2_; have Kb3 := qKb3_; have HB := qHB_; clear qKb2_ qKb3_ qHB_
      clear hb
      cases h1 with
      | false =>
        have hi := HIN.out
        clear hi
        have cb2_0 := (blk_cell Kb2.out 0).trans rfl
        have cb2_1 := (blk_cell Kb2.out 1).trans rfl
        have cb2_2 := (blk_cell Kb2.out 2).trans rfl
        have cb2_3 := (blk_cell Kb2.out 3).trans rfl
        have cb3_0 := (blk_cell Kb3.out 0).trans rfl
        have cb3_1 := (blk_cell Kb3.out 1).trans rfl
        have cb3_2 := (blk_cell Kb3.out 2).trans rfl
        have cb3_3 := (blk_cell Kb3.out 3).trans rfl
        go_wp2
        clear cb2_0 cb2_1 cb2_2 cb2_3 cb3_0 cb3_1 cb3_2 cb3_3
        go_meet
        case rel => exact ⟨rfl, Kb2, Kb3, HB⟩
      | true =>
        have cb2_0 := (blk_cell Kb2.out 0).trans rfl
        have cb2_1 := (blk_cell Kb2.out 1).trans rfl
        have cb2_2 := (blk_cell Kb2.out 2).trans rfl
        have cb2_3 := (blk_cell Kb2.out 3).trans rfl
        have cb3_0 := (blk_cell Kb3.out 0).trans rfl
        have cb3_1 := (blk_cell Kb3.out 1).trans rfl
        have cb3_2 := (blk_cell Kb3.out 2).trans rfl
        have cb3_3 := (blk_cell Kb3.out 3).trans rfl
        go_wp2_with fail
        clear cb2_0 cb2_1 cb2_2 cb2_3 cb3_0 cb3_1 cb3_2 cb3_3
        refine (rect_Has.calls a.f0 a.f1 a.f2 a.f3 _ _ h2 _ H2.out).mono ?_
        rintro e wk5 ⟨rfl, hb⟩
        have qKb2_ := Aside0.mk (blk_below Kb2.out hb); have qKb3_ := Aside0.mk (blk_below Kb3.out hb); have qHB_ := Aside0.mk (below_step HB.out hb); clear Kb2 Kb3 HB; have Kb2 := qKb2_; have Kb3 := qKb3_; have HB := qHB_; clear qKb2_ qKb3_ qHB_
        clear hb
        cases h2 with
        | false =>
          have hi := HIN.out
          clear hi
          have cb2_0 := (blk_cell Kb2.out 0).trans rfl
          have cb2_1 := (blk_cell Kb2.out 1).trans rfl
          have cb2_2 := (blk_cell Kb2.out 2).trans rfl
          have cb2_3 := (blk_cell Kb2.out 3).trans rfl
          have cb3_0 := (blk_cell Kb3.out 0).trans rfl
          have cb3_1 := (blk_cell Kb3.out 1).trans rfl
          have cb3_2 := (blk_cell Kb3.out 2).trans rfl
          have cb3_3 := (blk_cell Kb3.out 3).trans rfl
          go_wp2
          clear cb2_0 cb2_1 cb2_2 cb2_3 cb3_0 cb3_1 cb3_2 cb3_3
          go_meet
          case rel => exact ⟨rfl, Kb2, Kb3, HB⟩
        | true =>
          have cb2_0 := (blk_cell Kb2.out 0).trans rfl
          have cb2_1 := (blk_cell Kb2.out 1).trans rfl
          have cb2_2 := (blk_cell Kb2.out 2).trans rfl
          have cb2_3 := (blk_cell Kb2.out 3).trans rfl
          have cb3_0 := (blk_cell Kb3.out 0).trans rfl
          have cb3_1 := (blk_cell Kb3.out 1).trans rfl
          have cb3_2 := (blk_cell Kb3.out 2).trans rfl
          have cb3_3 := (blk_cell Kb3.out 3).trans rfl
          go_wp2_with fail
          clear cb2_0 cb2_1 cb2_2 cb2_3 cb3_0 cb3_1 cb3_2 cb3_3
          refine (rect_Has.calls a.f0 a.f1 a.f2 a.f3 _ _ h3 _ H3.out).mono ?_
          rintro e wk6 ⟨rfl, hb⟩
          have qKb2_ := Aside0.mk (blk_below Kb2.out hb); have qKb3_ := Aside0.mk (blk_below Kb3.out hb); have qHB_ := Aside0.mk (below_step HB.out hb); clear Kb2 Kb3 HB; have Kb2 := qKb2_; have Kb3 := qKb3_; have HB := qHB_; clear qKb2_ qKb3_ qHB_
          clear hb
          cases h3 with
          | false =>
            have hi := HIN.out
            clear hi
            have cb2_0 := (blk_cell Kb2.out 0).trans rfl
            have cb2_1 := (blk_cell Kb2.out 1).trans rfl
            have cb2_2 := (blk_cell Kb2.out 2).trans rfl
            have cb2_3 := (blk_cell Kb2.out 3).trans rfl
            have cb3_0 := (blk_cell Kb3.out 0).trans rfl
            have cb3_1 := (blk_cell Kb3.out 1).trans rfl
            have cb3_2 := (blk_cell Kb3.out 2).trans rfl
            have cb3_3 := (blk_cell Kb3.out 3).trans rfl
            go_wp2
            clear cb2_0 cb2_1 cb2_2 cb2_3 cb3_0 cb3_1 cb3_2 cb3_3
            go_meet
            case rel => exact ⟨rfl, Kb2, Kb3, HB⟩
          | true =>
            exact absurd HIN.out (by simp)
  case rest =>
    clear Kb2 Kb3 HB
    obtain ⟨rfl, Kb2, Kb3, HB⟩ := hcut
    try go_wp2
    have hb : Below wc.heap.size wc wc.drew := below_drew (Below.refl _ _)
    have qKb2_ := Aside0.mk (blk_below Kb2.out hb); have qKb3_ := Aside0.mk (blk_below Kb3.out hb); have qHB_ := Aside0.mk (below_step HB.out hb); clear Kb2 Kb3 HB; have Kb2 := qKb2_; have Kb3 := qKb3_; have HB := qHB_; clear qKb2_ qKb3_ qHB_
    clear hb
    refine start_ (n := 29) (S := fun w' => w'.heap[b2]? = some (.cells #[.int .i64 a.f0, .int .i64 a.f1, .int .i64 a.f2, .int .i64 a.f3] 23 (0, 0)) ∧ w'.heap[b3]? = some (.cells #[.int .i64 b.f0, .int .i64 b.f1, .int .i64 b.f2, .int .i64 b.f3] 23 (0, 0))) (ds := []) #[false, false, false, false, false, false, false, false, false, false, false, false, false, false, false, false, false, false, false, false, false, false, false, false, false, false, false, false, false] (by kernel_rfl) rfl rfl ⟨Kb2.out, Kb3.out⟩ (fun hHeld => ?_); refine with_tabW meets.tab5 meets.bits5 (fun HT_ HW_ => ?_)
    generalize wc.drew = wd at HB Kb2 Kb3 hHeld ⊢
    refine pure_ (i := 0) (N := some 74) (v := ?_) (a' := ?_) #[true, false, false, false, false, false, false, false, false, false, false, false, false, false, false, false, false, false, false, false, false, false, false, false, false, false, false, false, false] rfl rfl (any_of HT_.out (by kernel_rfl)) (fun _ _ _ h => h) (Or.inl ⟨by rfl, ?_⟩) ?_ ?_
    rotate_left
    · intro w'; go_simp; with_reducible rfl
    rotate_left
    · simp only [Act.put, List.setIfInBounds_toArray, List.set_cons_zero, List.set_cons_succ, i64_w, i32_w]
      rfl
    refine pure_ (i := 1) (N := some 75) (v := ?_) (a' := ?_) #[true, true, false, false, false, false, false, false, false, false, false, false, false, false, false, false, false, false, false, false, false, false, false, false, false, false, false, false, false] rfl rfl (any_of HT_.out (by kernel_rfl)) (fun _ _ _ h => h) (Or.inl ⟨by rfl, ?_⟩) ?_ ?_
    rotate_left
    · intro w'; go_simp; with_reducible rfl
    rotate_left
    · simp only [Act.put, List.setIfInBounds_toArray, List.set_cons_zero, List.set_cons_succ, i64_w, i32_w]
      rfl
    refine pure_ (i := 2) (N := some 76) (v := ?_) (a' := ?_) #[true, true, true, false, false, false, false, false, false, false, false, false, false, false, false, false, false, false, false, false, false, false, false, false, false, false, false, false, false] rfl rfl (any_of HT_.out (by kernel_rfl)) (fun _ _ _ h => h) (Or.inl ⟨by rfl, ?_⟩) ?_ ?_
    rotate_left
    · intro w'; go_simp; with_reducible rfl
    rotate_left
    · simp only [Act.put, List.setIfInBounds_toArray, List.set_cons_zero, List.set_cons_succ, i64_w, i32_w]
      rfl
    refine pure_ (i := 3) (N := some 77) (v := ?_) (a' := ?_) #[true, true, true, true, false, false, false, false, false, false, false, false, false, false, false, false, false, false, false, false, false, false, false, false, false, false, false, false, false] rfl rfl (any_of HT_.out (by kernel_rfl)) (fun _ _ _ h => h) (Or.inl ⟨by rfl, ?_⟩) ?_ ?_
    rotate_left
    · intro w'; go_simp; with_reducible rfl
    rotate_left
    · simp only [Act.put, List.setIfInBounds_toArray, List.set_cons_zero, List.set_cons_succ, i64_w, i32_w]
      rfl
    refine pure_ (i := 4) (N := some 78) (v := ?_) (a' := ?_) #[true, true, true, true, true, false, false, false, false, false, false, false, false, false, false, false, false, false, false, false, false, false, false, false, false, false, false, false, false] rfl rfl (any_of HT_.out (by kernel_rfl)) (fun _ _ _ h => h) (Or.inl ⟨by rfl, ?_⟩) ?_ ?_
    rotate_left
    · intro w'; go_simp; with_reducible rfl
    rotate_left
    · simp only [Act.put, List.setIfInBounds_toArray, List.set_cons_zero, List.set_cons_succ, i64_w, i32_w]
      rfl
    refine pure_ (i := 5) (N := some 79) (v := ?_) (a' := ?_) #[true, true, true, true, true, true, false, false, false, false, false, false, false, false, false, false, false, false, false, false, false, false, false, false, false, false, false, false, false] rfl rfl (any_of HT_.out (by kernel_rfl)) (fun _ _ _ h => h) (Or.inl ⟨by rfl, ?_⟩) ?_ ?_
    rotate_left
    · intro w'; go_simp; with_reducible rfl
    rotate_left
    · simp only [Act.put, List.setIfInBounds_toArray, List.set_cons_zero, List.set_cons_succ, i64_w, i32_w]
      rfl
    refine pure_ (i := 6) (N := some 80) (v := ?_) (a' := ?_) #[true, true, true, true, true, true, true, false, false, false, false, false, false, false, false, false, false, false, false, false, false, false, false, false, false, false, false, false, false] rfl rfl (any_of HT_.out (by kernel_rfl)) (fun _ _ _ h => h) (Or.inl ⟨by rfl, ?_⟩) ?_ ?_
    rotate_left
    · intro w'; go_simp; with_reducible rfl
    rotate_left
    · simp only [Act.put, List.setIfInBounds_toArray, List.set_cons_zero, List.set_cons_succ, i64_w, i32_w]
      rfl
    refine pure_ (i := 7) (N := some 81) (v := undef) (a' := ?_) #[true, true, true, true, true, true, true, true, false, false, false, false, false, false, false, false, false, false, false, false, false, false, false, false, false, false, false, false, false] rfl rfl (any_of HT_.out (by kernel_rfl)) (fun _ _ _ h => h) (Or.inr ⟨by rfl, rfl⟩) ?_ ?_
    rotate_left
    · simp only [Act.put, List.setIfInBounds_toArray, List.set_cons_zero, List.set_cons_succ, i64_w, i32_w]
      rfl
    refine pure_ (i := 8) (N := some 82) (v := undef) (a' := ?_) #[true, true, true, true, true, true, true, true, true, false, false, false, false, false, false, false, false, false, false, false, false, false, false, false, false, false, false, false, false] rfl rfl (any_of HT_.out (by kernel_rfl)) (fun _ _ _ h => h) (Or.inr ⟨by rfl, rfl⟩) ?_ ?_
    rotate_left
    · simp only [Act.put, List.setIfInBounds_toArray, List.set_cons_zero, List.set_cons_succ, i64_w, i32_w]
      rfl
    refine pure_ (i := 9) (N := some 83) (v := undef) (a' := ?_) #[true, true, true, true, true, true, true, true, true, true, false, false, false, false, false, false, false, false, false, false, false, false, false, false, false, false, false, false, false] rfl rfl (any_of HT_.out (by kernel_rfl)) (fun _ _ _ h => h) (Or.inr ⟨by rfl, rfl⟩) ?_ ?_
    rotate_left
    · simp only [Act.put, List.setIfInBounds_toArray, List.set_cons_zero, List.set_cons_succ, i64_w, i32_w]
      rfl
    refine pure_ (i := 10) (N := some 84) (v := undef) (a' := ?_) #[true, true, true, true, true, true, true, true, true, true, true, false, false, false, false, false, false, false, false, false, false, false, false, false, false, false, false, false, false] rfl rfl (any_of HT_.out (by kernel_rfl)) (fun _ _ _ h => h) (Or.inr ⟨by rfl, rfl⟩) ?_ ?_
    rotate_left
    · simp only [Act.put, List.setIfInBounds_toArray, List.set_cons_zero, List.set_cons_succ, i64_w, i32_w]
      rfl
    refine pure_ (i := 11) (N := some 85) (v := undef) (a' := ?_) #[true, true, true, true, true, true, true, true, true, true, true, true, false, false, false, false, false, false, false, false, false, false, false, false, false, false, false, false, false] rfl rfl (any_of HT_.out (by kernel_rfl)) (fun _ _ _ h => h) (Or.inr ⟨by rfl, rfl⟩) ?_ ?_
    rotate_left
    · simp only [Act.put, List.setIfInBounds_toArray, List.set_cons_zero, List.set_cons_succ, i64_w, i32_w]
      rfl
    refine pure_ (i := 12) (N := some 86) (v := ?_) (a' := ?_) #[true, true, true, true, true, true, true, true, true, true, true, true, true, false, false, false, false, false, false, false, false, false, false, false, false, false, false, false, false] rfl rfl (any_of HT_.out (by kernel_rfl)) (fun _ _ _ h => h) (Or.inl ⟨by rfl, ?_⟩) ?_ ?_
    rotate_left
    · intro w'; go_simp; with_reducible rfl
    rotate_left
    · simp only [Act.put, List.setIfInBounds_toArray, List.set_cons_zero, List.set_cons_succ, i64_w, i32_w]
      rfl
    refine pure_ (i := 13) (N := some 87) (v := ?_) (a' := ?_) #[true, true, true, true, true, true, true, true, true, true, true, true, true, true, false, false, false, false, false, false, false, false, false, false, false, false, false, false, false] rfl rfl (any_of HT_.out (by kernel_rfl)) (fun _ _ _ h => h) (Or.inl ⟨by rfl, ?_⟩) ?_ ?_
    rotate_left
    · intro w'; go_simp; with_reducible rfl
    rotate_left
    · simp only [Act.put, List.setIfInBounds_toArray, List.set_cons_zero, List.set_cons_succ, i64_w, i32_w]
      rfl
    refine pure_ (i := 14) (N := some 88) (v := ?_) (a' := ?_) #[true, true, true, true, true, true, true, true, true, true, true, true, true, true, true, false, false, false, false, false, false, false, false, false, false, false, false, false, false] rfl rfl (any_of HT_.out (by kernel_rfl)) (fun _ _ _ h => h) (Or.inl ⟨by rfl, ?_⟩) ?_ ?_
    rotate_left
    · intro w'; go_simp; with_reducible rfl
    rotate_left
    · simp only [Act.put, List.setIfInBounds_toArray, List.set_cons_zero, List.set_cons_succ, i64_w, i32_w]
      rfl
    refine take_ (i := 15) (N := some 89) (v := ?_) (a' := ?_) #[true, true, true, true, true, true, true, true, true, true, true, true, true, true, true, true, false, false, false, false, false, false, false, false, false, false, false, false, false] rfl rfl (take_ofW HT_.out HW_.out (by kernel_rfl)) (fun _ _ _ h => h) (Or.inl ⟨by rfl, ?_⟩) hHeld ?_ ?_
    rotate_left
    · intro w' hs_
      have c0 := (blk_cell hs_.1 0).trans rfl
      have c1 := (blk_cell hs_.1 1).trans rfl
      have c2 := (blk_cell hs_.1 2).trans rfl
      have c3 := (blk_cell hs_.1 3).trans rfl
      go_simp; with_reducible rfl
    rotate_left
    · simp only [Act.put, List.setIfInBounds_toArray, List.set_cons_zero, List.set_cons_succ, i64_w, i32_w]
      rfl
    refine take_ (i := 16) (N := some 90) (v := ?_) (a' := ?_) #[true, true, true, true, true, true, true, true, true, true, true, true, true, true, true, true, true, false, false, false, false, false, false, false, false, false, false, false, false] rfl rfl (take_ofW HT_.out HW_.out (by kernel_rfl)) (fun _ _ _ h => h) (Or.inl ⟨by rfl, ?_⟩) hHeld ?_ ?_
    rotate_left
    · intro w' hs_
      have c0 := (blk_cell hs_.2 0).trans rfl
      have c1 := (blk_cell hs_.2 1).trans rfl
      have c2 := (blk_cell hs_.2 2).trans rfl
      have c3 := (blk_cell hs_.2 3).trans rfl
      go_simp; with_reducible rfl
    rotate_left
    · simp only [Act.put, List.setIfInBounds_toArray, List.set_cons_zero, List.set_cons_succ, i64_w, i32_w]
      rfl
    refine take_ (i := 19) (N := some 93) (v := ?_) (a' := ?_) #[true, true, true, true, true, true, true, true, true, true, true, true, true, true, true, true, true, false, false, true, false, false, false, false, false, false, false, false, false] rfl rfl (take_ofW HT_.out HW_.out (by kernel_rfl)) (fun _ _ _ h => h) (Or.inl ⟨by rfl, ?_⟩) hHeld ?_ ?_
    rotate_left
    · intro w' hs_
      have c0 := (blk_cell hs_.2 0).trans rfl
      have c1 := (blk_cell hs_.2 1).trans rfl
      have c2 := (blk_cell hs_.2 2).trans rfl
      have c3 := (blk_cell hs_.2 3).trans rfl
      go_simp; with_reducible rfl
    rotate_left
    · simp only [Act.put, List.setIfInBounds_toArray, List.set_cons_zero, List.set_cons_succ, i64_w, i32_w]
      rfl
    refine take_ (i := 20) (N := some 94) (v := ?_) (a' := ?_) #[true, true, true, true, true, true, true, true, true, true, true, true, true, true, true, true, true, false, false, true, true, false, false, false, false, false, false, false, false] rfl rfl (take_ofW HT_.out HW_.out (by kernel_rfl)) (fun _ _ _ h => h) (Or.inl ⟨by rfl, ?_⟩) hHeld ?_ ?_
    rotate_left
    · intro w' hs_
      have c0 := (blk_cell hs_.1 0).trans rfl
      have c1 := (blk_cell hs_.1 1).trans rfl
      have c2 := (blk_cell hs_.1 2).trans rfl
      have c3 := (blk_cell hs_.1 3).trans rfl
      go_simp; with_reducible rfl
    rotate_left
    · simp only [Act.put, List.setIfInBounds_toArray, List.set_cons_zero, List.set_cons_succ, i64_w, i32_w]
      rfl
    refine join_ (σ := Value × Value) 6 #[true, true, true, true, true, true, true, true, true, true, true, true, true, true, true, true, true, true, true, true, true, true, true, false, false, false, false, false, false] (fun s_ => [(91, s_.1), (92, .bool r), (95, s_.2), (96, .bool r)]) (fun s_ w' => Below wd.heap.size wd w') ?_ ?_
    rotate_left
    · intro hCont
      have D := Aside0.mk (Below.refl wd.heap.size wd)
      refine two_ (i := 17) (j := 21) (Ni := some 91) (Nj := some 95) #[true, true, true, true, true, true, true, true, true, true, true, true, true, true, true, true, true, true, false, true, true, false, false, false, false, false, false, false, false] #[true, true, true, true, true, true, true, true, true, true, true, true, true, true, true, true, true, false, false, true, true, true, false, false, false, false, false, false, false] rfl rfl rfl rfl (two_of HT_.out (by kernel_rfl)) (by decide) (by decide) (fun K hK => ?_) (fun K hK => ?_)
      · skip
        refine Kd.R_lit_step k23 _ 23 ?hg (N := 91) ?hd (xs := ([a, b] : List S23)) (inner := [.int .i64 a.f0, .int .i64 a.f1, .int .i64 a.f2, .int .i64 a.f3, .int .i64 b.f0, .int .i64 b.f1, .int .i64 b.f2, .int .i64 b.f3]) (ok := fun _ => True) (okp := fun _ => True) ?hr ?hp (fun _ hk => hk) trivial (Below.refl _ _) (Nat.le_refl _) (by simp) ?_; (case hd => rfl); (case hg => rfl); (case hr => first | (go_simp; done) | (go_simp; rfl)); (case hp => exact (Reps.c4 (show Kd.M k23 _ _ _ a [.int .i64 a.f0, .int .i64 a.f1, .int .i64 a.f2, .int .i64 a.f3] from k23_mkM _ _ _ a) (Reps.c4 (show Kd.M k23 _ _ _ b [.int .i64 b.f0, .int .i64 b.f1, .int .i64 b.f2, .int .i64 b.f3] from k23_mkM _ _ _ b) (Reps.none _ _))))
        intro vq wl ho hb hg_ hnew_
        clear hg_ hnew_
        obtain ⟨Aq, cq, er⟩ := Kd.R_slice ho
        subst er
        have qKb2_ := Aside0.mk (blk_below Kb2.out hb); have qKb3_ := Aside0.mk (blk_below Kb3.out hb); have qHB_ := Aside0.mk (below_step HB.out hb); clear Kb2 Kb3 HB; have Kb2 := qKb2_; have Kb3 := qKb3_; have HB := qHB_; clear qKb2_ qKb3_ qHB_
        have D2 := Aside0.mk (below_step D.out hb)
        clear D
        have D := D2
        clear D2
        have Hq := Aside0.mk (Kd.R_reads' ho).2.2
        have Lq := Aside0.mk (Kd.R_reads' ho).2.1
        clear ho hb
        refine hK.out _ _ ⟨Kb2.out, Kb3.out⟩ (fun hHeld => ?_)
        clear hK K
        refine norm_ (a' := ?_) ?_ ?_
        rotate_left
        · show Act.put _ (some 91) _ = _
          simp only [Act.put, List.setIfInBounds_toArray, List.set_cons_zero, List.set_cons_succ, i64_w, i32_w]
          rfl
        refine two_ (i := 18) (j := 21) (Ni := some 92) (Nj := some 95) #[true, true, true, true, true, true, true, true, true, true, true, true, true, true, true, true, true, true, true, true, true, false, false, false, false, false, false, false, false] #[true, true, true, true, true, true, true, true, true, true, true, true, true, true, true, true, true, true, false, true, true, true, false, false, false, false, false, false, false] rfl rfl rfl rfl (two_of HT_.out (by kernel_rfl)) (by decide) (by decide) (fun K hK => ?_) (fun K hK => ?_)
        · skip
          refine goes_ Try.func69 (by kernel_rfl) rfl #[.slice Aq ([a, b] : List S23).length cq] (by rfl) rfl rfl (by (try simp only [List.map_toArray, List.map_cons, List.map_nil]); first | done | rfl) ?_
          refine (rect_Apart.calls Aq cq [a, b] r _ Hq.out Lq.out A1.out).mono ?_
          rintro e wc2 ⟨rfl, hb⟩
          refine ⟨_, rfl, ?_⟩
          have qHq_ := Aside0.mk (Kd.C_below Hq.out hb); have qKb2_ := Aside0.mk (blk_below Kb2.out hb); have qKb3_ := Aside0.mk (blk_below Kb3.out hb); have qHB_ := Aside0.mk (below_step HB.out hb); clear Hq Kb2 Kb3 HB; have Hq := qHq_; have Kb2 := qKb2_; have Kb3 := qKb3_; have HB := qHB_; clear qHq_ qKb2_ qKb3_ qHB_
          have D2 := Aside0.mk (below_step D.out hb)
          clear D
          have D := D2
          clear D2
          clear hb
          refine hK.out _ _ ⟨Kb2.out, Kb3.out⟩ (fun hHeld => ?_)
          clear hK K
          refine norm_ (a' := ?_) ?_ ?_
          rotate_left
          · show Act.put _ (some 92) _ = _
            simp only [Act.put, List.setIfInBounds_toArray, List.set_cons_zero, List.set_cons_succ, i64_w, i32_w]
            rfl
          refine one_ (i := 21) (N := some 95) #[true, true, true, true, true, true, true, true, true, true, true, true, true, true, true, true, true, true, true, true, true, true, false, false, false, false, false, false, false] rfl rfl (one_of HT_.out (by kernel_rfl)) (by decide) (fun K hK => ?_)
          refine Kd.R_lit_step k23 _ 23 ?hg (N := 95) ?hd (xs := ([b, a] : List S23)) (inner := [.int .i64 b.f0, .int .i64 b.f1, .int .i64 b.f2, .int .i64 b.f3, .int .i64 a.f0, .int .i64 a.f1, .int .i64 a.f2, .int .i64 a.f3]) (ok := fun _ => True) (okp := fun _ => True) ?hr ?hp (fun _ hk => hk) trivial (Below.refl _ _) (Nat.le_refl _) (by simp) ?_; (case hd => rfl); (case hg => rfl); (case hr => first | (go_simp; done) | (go_simp; rfl)); (case hp => exact (Reps.c4 (show Kd.M k23 _ _ _ b [.int .i64 b.f0, .int .i64 b.f1, .int .i64 b.f2, .int .i64 b.f3] from k23_mkM _ _ _ b) (Reps.c4 (show Kd.M k23 _ _ _ a [.int .i64 a.f0, .int .i64 a.f1, .int .i64 a.f2, .int .i64 a.f3] from k23_mkM _ _ _ a) (Reps.none _ _))))
          intro vs wl ho hb hg_ hnew_
          clear hg_ hnew_
          obtain ⟨As, cs, er⟩ := Kd.R_slice ho
          subst er
          have qHq_ := Aside0.mk (Kd.C_below Hq.out hb); have qKb2_ := Aside0.mk (blk_below Kb2.out hb); have qKb3_ := Aside0.mk (blk_below Kb3.out hb); have qHB_ := Aside0.mk (below_step HB.out hb); clear Hq Kb2 Kb3 HB; have Hq := qHq_; have Kb2 := qKb2_; have Kb3 := qKb3_; have HB := qHB_; clear qHq_ qKb2_ qKb3_ qHB_
          have D2 := Aside0.mk (below_step D.out hb)
          clear D
          have D := D2
          clear D2
          have Hs := Aside0.mk (Kd.R_reads' ho).2.2
          have Ls := Aside0.mk (Kd.R_reads' ho).2.1
          clear ho hb
          refine hK.out _ _ ⟨Kb2.out, Kb3.out⟩ (fun hHeld => ?_)
          clear hK K
          refine norm_ (a' := ?_) ?_ ?_
          rotate_left
          · show Act.put _ (some 95) _ = _
            simp only [Act.put, List.setIfInBounds_toArray, List.set_cons_zero, List.set_cons_succ, i64_w, i32_w]
            rfl
          refine one_ (i := 22) (N := some 96) #[true, true, true, true, true, true, true, true, true, true, true, true, true, true, true, true, true, true, true, true, true, true, true, false, false, false, false, false, false] rfl rfl (one_of HT_.out (by kernel_rfl)) (by decide) (fun K hK => ?_)
          refine goes_ Try.func69 (by kernel_rfl) rfl #[.slice As ([b, a] : List S23).length cs] (by rfl) rfl rfl (by (try simp only [List.map_toArray, List.map_cons, List.map_nil]); first | done | rfl) ?_
          refine (rect_Apart.calls As cs [b, a] r _ Hs.out Ls.out C1.out).mono ?_
          rintro e wc2 ⟨rfl, hb⟩
          refine ⟨_, rfl, ?_⟩
          have qHq_ := Aside0.mk (Kd.C_below Hq.out hb); have qHs_ := Aside0.mk (Kd.C_below Hs.out hb); have qKb2_ := Aside0.mk (blk_below Kb2.out hb); have qKb3_ := Aside0.mk (blk_below Kb3.out hb); have qHB_ := Aside0.mk (below_step HB.out hb); clear Hq Hs Kb2 Kb3 HB; have Hq := qHq_; have Hs := qHs_; have Kb2 := qKb2_; have Kb3 := qKb3_; have HB := qHB_; clear qHq_ qHs_ qKb2_ qKb3_ qHB_
          have D2 := Aside0.mk (below_step D.out hb)
          clear D
          have D := D2
          clear D2
          clear hb
          refine hK.out _ _ ⟨Kb2.out, Kb3.out⟩ (fun hHeld => ?_)
          clear hK K
          refine norm_ (a' := ?_) ?_ ?_
          rotate_left
          · show Act.put _ (some 96) _ = _
            simp only [Act.put, List.setIfInBounds_toArray, List.set_cons_zero, List.set_cons_succ, i64_w, i32_w]
            rfl
          exact norm_ (by simp only [putAll, Act.put, List.setIfInBounds_toArray, List.set_cons_zero, List.set_cons_succ]) (hCont (.slice Aq ([a, b] : List S23).length cq, .slice As ([b, a] : List S23).length cs) _ D.out)
        · skip
          refine Kd.R_lit_step k23 _ 23 ?hg (N := 95) ?hd (xs := ([b, a] : List S23)) (inner := [.int .i64 b.f0, .int .i64 b.f1, .int .i64 b.f2, .int .i64 b.f3, .int .i64 a.f0, .int .i64 a.f1, .int .i64 a.f2, .int .i64 a.f3]) (ok := fun _ => True) (okp := fun _ => True) ?hr ?hp (fun _ hk => hk) trivial (Below.refl _ _) (Nat.le_refl _) (by simp) ?_; (case hd => rfl); (case hg => rfl); (case hr => first | (go_simp; done) | (go_simp; rfl)); (case hp => exact (Reps.c4 (show Kd.M k23 _ _ _ b [.int .i64 b.f0, .int .i64 b.f1, .int .i64 b.f2, .int .i64 b.f3] from k23_mkM _ _ _ b) (Reps.c4 (show Kd.M k23 _ _ _ a [.int .i64 a.f0, .int .i64 a.f1, .int .i64 a.f2, .int .i64 a.f3] from k23_mkM _ _ _ a) (Reps.none _ _))))
          intro vs wl ho hb hg_ hnew_
          clear hg_ hnew_
          obtain ⟨As, cs, er⟩ := Kd.R_slice ho
          subst er
          have qHq_ := Aside0.mk (Kd.C_below Hq.out hb); have qKb2_ := Aside0.mk (blk_below Kb2.out hb); have qKb3_ := Aside0.mk (blk_below Kb3.out hb); have qHB_ := Aside0.mk (below_step HB.out hb); clear Hq Kb2 Kb3 HB; have Hq := qHq_; have Kb2 := qKb2_; have Kb3 := qKb3_; have HB := qHB_; clear qHq_ qKb2_ qKb3_ qHB_
          have D2 := Aside0.mk (below_step D.out hb)
          clear D
          have D := D2
          clear D2
          have Hs := Aside0.mk (Kd.R_reads' ho).2.2
          have Ls := Aside0.mk (Kd.R_reads' ho).2.1
          clear ho hb
          refine hK.out _ _ ⟨Kb2.out, Kb3.out⟩ (fun hHeld => ?_)
          clear hK K
          refine norm_ (a' := ?_) ?_ ?_
          rotate_left
          · show Act.put _ (some 95) _ = _
            simp only [Act.put, List.setIfInBounds_toArray, List.set_cons_zero, List.set_cons_succ, i64_w, i32_w]
            rfl
          refine one_ (i := 18) (N := some 92) #[true, true, true, true, true, true, true, true, true, true, true, true, true, true, true, true, true, true, true, true, true, true, false, false, false, false, false, false, false] rfl rfl (one_of HT_.out (by kernel_rfl)) (by decide) (fun K hK => ?_)
          refine goes_ Try.func69 (by kernel_rfl) rfl #[.slice Aq ([a, b] : List S23).length cq] (by rfl) rfl rfl (by (try simp only [List.map_toArray, List.map_cons, List.map_nil]); first | done | rfl) ?_
          refine (rect_Apart.calls Aq cq [a, b] r _ Hq.out Lq.out A1.out).mono ?_
          rintro e wc2 ⟨rfl, hb⟩
          refine ⟨_, rfl, ?_⟩
          have qHq_ := Aside0.mk (Kd.C_below Hq.out hb); have qHs_ := Aside0.mk (Kd.C_below Hs.out hb); have qKb2_ := Aside0.mk (blk_below Kb2.out hb); have qKb3_ := Aside0.mk (blk_below Kb3.out hb); have qHB_ := Aside0.mk (below_step HB.out hb); clear Hq Hs Kb2 Kb3 HB; have Hq := qHq_; have Hs := qHs_; have Kb2 := qKb2_; have Kb3 := qKb3_; have HB := qHB_; clear qHq_ qHs_ qKb2_ qKb3_ qHB_
          have D2 := Aside0.mk (below_step D.out hb)
          clear D
          have D := D2
          clear D2
          clear hb
          refine hK.out _ _ ⟨Kb2.out, Kb3.out⟩ (fun hHeld => ?_)
          clear hK K
          refine norm_ (a' := ?_) ?_ ?_
          rotate_left
          · show Act.put _ (some 92) _ = _
            simp only [Act.put, List.setIfInBounds_toArray, List.set_cons_zero, List.set_cons_succ, i64_w, i32_w]
            rfl
          refine one_ (i := 22) (N := some 96) #[true, true, true, true, true, true, true, true, true, true, true, true, true, true, true, true, true, true, true, true, true, true, true, false, false, false, false, false, false] rfl rfl (one_of HT_.out (by kernel_rfl)) (by decide) (fun K hK => ?_)
          refine goes_ Try.func69 (by kernel_rfl) rfl #[.slice As ([b, a] : List S23).length cs] (by rfl) rfl rfl (by (try simp only [List.map_toArray, List.map_cons, List.map_nil]); first | done | rfl) ?_
          refine (rect_Apart.calls As cs [b, a] r _ Hs.out Ls.out C1.out).mono ?_
          rintro e wc2 ⟨rfl, hb⟩
          refine ⟨_, rfl, ?_⟩
          have qHq_ := Aside0.mk (Kd.C_below Hq.out hb); have qHs_ := Aside0.mk (Kd.C_below Hs.out hb); have qKb2_ := Aside0.mk (blk_below Kb2.out hb); have qKb3_ := Aside0.mk (blk_below Kb3.out hb); have qHB_ := Aside0.mk (below_step HB.out hb); clear Hq Hs Kb2 Kb3 HB; have Hq := qHq_; have Hs := qHs_; have Kb2 := qKb2_; have Kb3 := qKb3_; have HB := qHB_; clear qHq_ qHs_ qKb2_ qKb3_ qHB_
          have D2 := Aside0.mk (below_step D.out hb)
          clear D
          have D := D2
          clear D2
          clear hb
          refine hK.out _ _ ⟨Kb2.out, Kb3.out⟩ (fun hHeld => ?_)
          clear hK K
          refine norm_ (a' := ?_) ?_ ?_
          rotate_left
          · show Act.put _ (some 96) _ = _
            simp only [Act.put, List.setIfInBounds_toArray, List.set_cons_zero, List.set_cons_succ, i64_w, i32_w]
            rfl
          exact norm_ (by simp only [putAll, Act.put, List.setIfInBounds_toArray, List.set_cons_zero, List.set_cons_succ]) (hCont (.slice Aq ([a, b] : List S23).length cq, .slice As ([b, a] : List S23).length cs) _ D.out)
      · skip
        refine Kd.R_lit_step k23 _ 23 ?hg (N := 95) ?hd (xs := ([b, a] : List S23)) (inner := [.int .i64 b.f0, .int .i64 b.f1, .int .i64 b.f2, .int .i64 b.f3, .int .i64 a.f0, .int .i64 a.f1, .int .i64 a.f2, .int .i64 a.f3]) (ok := fun _ => True) (okp := fun _ => True) ?hr ?hp (fun _ hk => hk) trivial (Below.refl _ _) (Nat.le_refl _) (by simp) ?_; (case hd => rfl); (case hg => rfl); (case hr => first | (go_simp; done) | (go_simp; rfl)); (case hp => exact (Reps.c4 (show Kd.M k23 _ _ _ b [.int .i64 b.f0, .int .i64 b.f1, .int .i64 b.f2, .int .i64 b.f3] from k23_mkM _ _ _ b) (Reps.c4 (show Kd.M k23 _ _ _ a [.int .i64 a.f0, .int .i64 a.f1, .int .i64 a.f2, .int .i64 a.f3] from k23_mkM _ _ _ a) (Reps.none _ _))))
        intro vs wl ho hb hg_ hnew_
        clear hg_ hnew_
        obtain ⟨As, cs, er⟩ := Kd.R_slice ho
        subst er
        have qKb2_ := Aside0.mk (blk_below Kb2.out hb); have qKb3_ := Aside0.mk (blk_below Kb3.out hb); have qHB_ := Aside0.mk (below_step HB.out hb); clear Kb2 Kb3 HB; have Kb2 := qKb2_; have Kb3 := qKb3_; have HB := qHB_; clear qKb2_ qKb3_ qHB_
        have D2 := Aside0.mk (below_step D.out hb)
        clear D
        have D := D2
        clear D2
        have Hs := Aside0.mk (Kd.R_reads' ho).2.2
        have Ls := Aside0.mk (Kd.R_reads' ho).2.1
        clear ho hb
        refine hK.out _ _ ⟨Kb2.out, Kb3.out⟩ (fun hHeld => ?_)
        clear hK K
        refine norm_ (a' := ?_) ?_ ?_
        rotate_left
        · show Act.put _ (some 95) _ = _
          simp only [Act.put, List.setIfInBounds_toArray, List.set_cons_zero, List.set_cons_succ, i64_w, i32_w]
          rfl
        refine one_ (i := 17) (N := some 91) #[true, true, true, true, true, true, true, true, true, true, true, true, true, true, true, true, true, true, false, true, true, true, false, false, false, false, false, false, false] rfl rfl (one_of HT_.out (by kernel_rfl)) (by decide) (fun K hK => ?_)
        refine Kd.R_lit_step k23 _ 23 ?hg (N := 91) ?hd (xs := ([a, b] : List S23)) (inner := [.int .i64 a.f0, .int .i64 a.f1, .int .i64 a.f2, .int .i64 a.f3, .int .i64 b.f0, .int .i64 b.f1, .int .i64 b.f2, .int .i64 b.f3]) (ok := fun _ => True) (okp := fun _ => True) ?hr ?hp (fun _ hk => hk) trivial (Below.refl _ _) (Nat.le_refl _) (by simp) ?_; (case hd => rfl); (case hg => rfl); (case hr => first | (go_simp; done) | (go_simp; rfl)); (case hp => exact (Reps.c4 (show Kd.M k23 _ _ _ a [.int .i64 a.f0, .int .i64 a.f1, .int .i64 a.f2, .int .i64 a.f3] from k23_mkM _ _ _ a) (Reps.c4 (show Kd.M k23 _ _ _ b [.int .i64 b.f0, .int .i64 b.f1, .int .i64 b.f2, .int .i64 b.f3] from k23_mkM _ _ _ b) (Reps.none _ _))))
        intro vq wl ho hb hg_ hnew_
        clear hg_ hnew_
        obtain ⟨Aq, cq, er⟩ := Kd.R_slice ho
        subst er
        have qHs_ := Aside0.mk (Kd.C_below Hs.out hb); have qKb2_ := Aside0.mk (blk_below Kb2.out hb); have qKb3_ := Aside0.mk (blk_below Kb3.out hb); have qHB_ := Aside0.mk (below_step HB.out hb); clear Hs Kb2 Kb3 HB; have Hs := qHs_; have Kb2 := qKb2_; have Kb3 := qKb3_; have HB := qHB_; clear qHs_ qKb2_ qKb3_ qHB_
        have D2 := Aside0.mk (below_step D.out hb)
        clear D
        have D := D2
        clear D2
        have Hq := Aside0.mk (Kd.R_reads' ho).2.2
        have Lq := Aside0.mk (Kd.R_reads' ho).2.1
        clear ho hb
        refine hK.out _ _ ⟨Kb2.out, Kb3.out⟩ (fun hHeld => ?_)
        clear hK K
        refine norm_ (a' := ?_) ?_ ?_
        rotate_left
        · show Act.put _ (some 91) _ = _
          simp only [Act.put, List.setIfInBounds_toArray, List.set_cons_zero, List.set_cons_succ, i64_w, i32_w]
          rfl
        refine one_ (i := 18) (N := some 92) #[true, true, true, true, true, true, true, true, true, true, true, true, true, true, true, true, true, true, true, true, true, true, false, false, false, false, false, false, false] rfl rfl (one_of HT_.out (by kernel_rfl)) (by decide) (fun K hK => ?_)
        refine goes_ Try.func69 (by kernel_rfl) rfl #[.slice Aq ([a, b] : List S23).length cq] (by rfl) rfl rfl (by (try simp only [List.map_toArray, List.map_cons, List.map_nil]); first | done | rfl) ?_
        refine (rect_Apart.calls Aq cq [a, b] r _ Hq.out Lq.out A1.out).mono ?_
        rintro e wc2 ⟨rfl, hb⟩
        refine ⟨_, rfl, ?_⟩
        have qHs_ := Aside0.mk (Kd.C_below Hs.out hb); have qHq_ := Aside0.mk (Kd.C_below Hq.out hb); have qKb2_ := Aside0.mk (blk_below Kb2.out hb); have qKb3_ := Aside0.mk (blk_below Kb3.out hb); have qHB_ := Aside0.mk (below_step HB.out hb); clear Hs Hq Kb2 Kb3 HB; have Hs := qHs_; have Hq := qHq_; have Kb2 := qKb2_; have Kb3 := qKb3_; have HB := qHB_; clear qHs_ qHq_ qKb2_ qKb3_ qHB_
        have D2 := Aside0.mk (below_step D.out hb)
        clear D
        have D := D2
        clear D2
        clear hb
        refine hK.out _ _ ⟨Kb2.out, Kb3.out⟩ (fun hHeld => ?_)
        clear hK K
        refine norm_ (a' := ?_) ?_ ?_
        rotate_left
        · show Act.put _ (some 92) _ = _
          simp only [Act.put, List.setIfInBounds_toArray, List.set_cons_zero, List.set_cons_succ, i64_w, i32_w]
          rfl
        refine one_ (i := 22) (N := some 96) #[true, true, true, true, true, true, true, true, true, true, true, true, true, true, true, true, true, true, true, true, true, true, true, false, false, false, false, false, false] rfl rfl (one_of HT_.out (by kernel_rfl)) (by decide) (fun K hK => ?_)
        refine goes_ Try.func69 (by kernel_rfl) rfl #[.slice As ([b, a] : List S23).length cs] (by rfl) rfl rfl (by (try simp only [List.map_toArray, List.map_cons, List.map_nil]); first | done | rfl) ?_
        refine (rect_Apart.calls As cs [b, a] r _ Hs.out Ls.out C1.out).mono ?_
        rintro e wc2 ⟨rfl, hb⟩
        refine ⟨_, rfl, ?_⟩
        have qHs_ := Aside0.mk (Kd.C_below Hs.out hb); have qHq_ := Aside0.mk (Kd.C_below Hq.out hb); have qKb2_ := Aside0.mk (blk_below Kb2.out hb); have qKb3_ := Aside0.mk (blk_below Kb3.out hb); have qHB_ := Aside0.mk (below_step HB.out hb); clear Hs Hq Kb2 Kb3 HB; have Hs := qHs_; have Hq := qHq_; have Kb2 := qKb2_; have Kb3 := qKb3_; have HB := qHB_; clear qHs_ qHq_ qKb2_ qKb3_ qHB_
        have D2 := Aside0.mk (below_step D.out hb)
        clear D
        have D := D2
        clear D2
        clear hb
        refine hK.out _ _ ⟨Kb2.out, Kb3.out⟩ (fun hHeld => ?_)
        clear hK K
        refine norm_ (a' := ?_) ?_ ?_
        rotate_left
        · show Act.put _ (some 96) _ = _
          simp only [Act.put, List.setIfInBounds_toArray, List.set_cons_zero, List.set_cons_succ, i64_w, i32_w]
          rfl
        exact norm_ (by simp only [putAll, Act.put, List.setIfInBounds_toArray, List.set_cons_zero, List.set_cons_succ]) (hCont (.slice Aq ([a, b] : List S23).length cq, .slice As ([b, a] : List S23).length cs) _ D.out)
    rintro ⟨vq, vs⟩ wj hb
    simp only [putAll, Act.put, List.setIfInBounds_toArray, List.set_cons_zero, List.set_cons_succ]
    replace hb : Below wd.heap.size wd wj := hb
    have qKb2_ := Aside0.mk (blk_below Kb2.out hb); have qKb3_ := Aside0.mk (blk_below Kb3.out hb); have qHB_ := Aside0.mk (below_step HB.out hb); clear Kb2 Kb3 HB; have Kb2 := qKb2_; have Kb3 := qKb3_; have HB := qHB_; clear qKb2_ qKb3_ qHB_
    clear hb
    have hHeld : wj.heap[b2]? = some (.cells #[.int .i64 a.f0, .int .i64 a.f1, .int .i64 a.f2, .int .i64 a.f3] 23 (0, 0)) ∧ wj.heap[b3]? = some (.cells #[.int .i64 b.f0, .int .i64 b.f1, .int .i64 b.f2, .int .i64 b.f3] 23 (0, 0)) := ⟨Kb2.out, Kb3.out⟩
    have hrr : (r == r) = true := by simp
    refine pure_ (i := 23) (N := some 97) (v := ?_) (a' := ?_) #[true, true, true, true, true, true, true, true, true, true, true, true, true, true, true, true, true, true, true, true, true, true, true, true, false, false, false, false, false] rfl rfl (any_of HT_.out (by kernel_rfl)) (fun _ _ _ h => h) (Or.inl ⟨by rfl, ?_⟩) ?_ ?_
    rotate_left
    · intro w'; go_simp; with_reducible rfl
    rotate_left
    · simp only [Act.put, List.setIfInBounds_toArray, List.set_cons_zero, List.set_cons_succ, i64_w, i32_w]
      rfl
    refine pure_ (i := 24) (N := some 98) (v := ?_) (a' := ?_) #[true, true, true, true, true, true, true, true, true, true, true, true, true, true, true, true, true, true, true, true, true, true, true, true, true, false, false, false, false] rfl rfl (any_of HT_.out (by kernel_rfl)) (fun _ _ _ h => h) (Or.inl ⟨by rfl, ?_⟩) ?_ ?_
    rotate_left
    · intro w'; go_simp; with_reducible rfl
    rotate_left
    · simp only [Act.put, List.setIfInBounds_toArray, List.set_cons_zero, List.set_cons_succ, i64_w, i32_w]
      rfl
    refine pure_ (i := 25) (N := some 99) (v := ?_) (a' := ?_) #[true, true, true, true, true, true, true, true, true, true, true, true, true, true, true, true, true, true, true, true, true, true, true, true, true, true, false, false, false] rfl rfl (any_of HT_.out (by kernel_rfl)) (fun _ _ _ h => h) (Or.inl ⟨by rfl, ?_⟩) ?_ ?_
    rotate_left
    · intro w'; go_simp; with_reducible rfl
    rotate_left
    · simp only [Act.put, List.setIfInBounds_toArray, List.set_cons_zero, List.set_cons_succ, i64_w, i32_w]
      rfl
    refine one_ (i := 26) (N := some 100) #[true, true, true, true, true, true, true, true, true, true, true, true, true, true, true, true, true, true, true, true, true, true, true, true, true, true, true, false, false] rfl rfl (one_of HT_.out (by kernel_rfl)) (by decide) (fun K hK => ?_)
    refine goes_ Try.func44 (by kernel_rfl) rfl #[] (by rfl) rfl rfl (by (try simp only [List.map_toArray, List.map_cons, List.map_nil]); first | done | rfl) ?_
    refine (sashlaw04_awake.calls ka true _ AW.out).mono ?_
    rintro e wc2 ⟨rfl, hb⟩
    refine ⟨_, rfl, ?_⟩
    have qKb2_ := Aside0.mk (blk_below Kb2.out hb); have qKb3_ := Aside0.mk (blk_below Kb3.out hb); have qHB_ := Aside0.mk (below_step HB.out hb); clear Kb2 Kb3 HB; have Kb2 := qKb2_; have Kb3 := qKb3_; have HB := qHB_; clear qKb2_ qKb3_ qHB_
    clear hb
    refine hK.out _ _ ⟨Kb2.out, Kb3.out⟩ (fun hHeld => ?_)
    clear hK K
    refine norm_ (a' := ?_) ?_ ?_
    rotate_left
    · show Act.put _ (some 100) _ = _
      simp only [Act.put, List.setIfInBounds_toArray, List.set_cons_zero, List.set_cons_succ, i64_w, i32_w]
      rfl
    refine pure_ (i := 27) (N := some 101) (v := ?_) (a' := ?_) #[true, true, true, true, true, true, true, true, true, true, true, true, true, true, true, true, true, true, true, true, true, true, true, true, true, true, true, true, false] rfl rfl (any_of HT_.out (by kernel_rfl)) (fun _ _ _ h => h) (Or.inl ⟨by rfl, ?_⟩) ?_ ?_
    rotate_left
    · intro w'; go_simp; with_reducible rfl
    rotate_left
    · simp only [Act.put, List.setIfInBounds_toArray, List.set_cons_zero, List.set_cons_succ, i64_w, i32_w]
      rfl
    refine pure_ (i := 28) (N := some 4) (v := ?_) (a' := ?_) #[true, true, true, true, true, true, true, true, true, true, true, true, true, true, true, true, true, true, true, true, true, true, true, true, true, true, true, true, true] rfl rfl (any_of HT_.out (by kernel_rfl)) (fun _ _ _ h => h) (Or.inl ⟨by rfl, ?_⟩) ?_ ?_
    rotate_left
    · intro w'; go_simp; with_reducible rfl
    rotate_left
    · simp only [Act.put, List.setIfInBounds_toArray, List.set_cons_zero, List.set_cons_succ, i64_w, i32_w]
      rfl
    refine done_ (done_of HT_.out (by kernel_rfl)) ?_
    go_wp2
    go_ret
    exact ⟨rfl, HB.out⟩
end Go.Proofs.Ytfdmfgaiblfbhaa.P
/- The law RectMeets: what it comes to. No condition. -/
namespace Go.Proofs.Ytfdmfgaiblfbhaa.P
open Go.RowKit Go.Proofs.YtfdmfgaiblfbhaaW.PrintWords Go.Proofs.YtfdmfgaiblfbhaaW.PrintLast Go.Proofs.YtfdmfgaiblfbhaaW.PrintMore

theorem meet_comm (a b : S23) : meetB a b = meetB b a := by
  unfold meetB
  rw [decide_eq_decide]
  omega
theorem apart_two (a b : S23) : apartL [] [a, b] = !meetB b a := by
  simp [apartL]
theorem in_meets {a b : S23} (ha : mayR a = true) (hb : mayR b = true) (h : cornersB a b = true) : meetB b a = true := by
  rw [corners_iff ha hb, decide_eq_true_iff] at h
  have h1 := may_iff.1 ha
  have h2 := may_iff.1 hb
  unfold meetB
  rw [decide_eq_true_iff]
  omega
theorem four_corners {a b : S23} (ha : mayR a = true) (hb : mayR b = true) : cornersB a b = (hasB a b.f0 b.f1 && (hasB a (b.f0 + b.f2 - 1) b.f1 && (hasB a b.f0 (b.f1 + b.f3 - 1) && hasB a (b.f0 + b.f2 - 1) (b.f1 + b.f3 - 1)))) := by
  have h1 := may_iff.1 ha
  have h2 := may_iff.1 hb
  unfold cornersB hasB
  simp only [ha, Bool.true_and, ← Bool.decide_and]
  rw [decide_eq_decide]
  omega
def sashlaw04_RectMeets.f (_ _ _ _ _ _ _ _ : Int) : Option Bool := some true
theorem sashlaw04_RectMeets.calls (a0_0 a0_1 a0_2 a0_3 a1_0 a1_1 a1_2 a1_3 : Int) (r : Bool) (w : World) (h : sashlaw04_RectMeets.f a0_0 a0_1 a0_2 a0_3 a1_0 a1_1 a1_2 a1_3 = some r) :
    Calls Try.prog 13 #[.agg #[.int .i64 a0_0, .int .i64 a0_1, .int .i64 a0_2, .int .i64 a0_3], .agg #[.int .i64 a1_0, .int .i64 a1_1, .int .i64 a1_2, .int .i64 a1_3]] w fun e w' => e = .returned (.bool r) ∧ Below w.heap.size w w' := by
  injection h with h
  subst h
  have awk := awake04.rounds
  let a : S23 := ⟨a0_0, a0_1, a0_2, a0_3⟩
  let b : S23 := ⟨a1_0, a1_1, a1_2, a1_3⟩
  have hI : rect_Inside.f a.f0 a.f1 a.f2 a.f3 [b] = some (mayR a && (mayR b && cornersB a b)) := by simp [rect_Inside.f, mayR]
  have hM : rect_May.f [a, b] = some (mayR a && mayR b) := by simp [rect_May.f]
  have e1 : rect_Apart.f [a, b] = some (mayR a && mayR b && !meetB b a) := by unfold rect_Apart.f; rw [apart_two]; simp
  have e2 : rect_Apart.f [b, a] = some (mayR a && mayR b && !meetB b a) := by unfold rect_Apart.f; rw [apart_two, meet_comm]; simp [Bool.and_comm]
  cases hab : (mayR a && mayR b) with
  | false =>
    have hi : (mayR a && (mayR b && cornersB a b)) = false := by rw [← Bool.and_assoc, hab, Bool.false_and]
    rw [hi] at hI
    rw [hab] at hM e1
    exact meets_none a b w awk hI hM (by rw [e1, Bool.false_and])
  | true =>
    obtain ⟨ha, hb⟩ := Bool.and_eq_true_iff.1 hab
    have h2 := may_iff.1 hb
    rw [hab] at hM e1 e2
    rw [ha, hb, Bool.true_and, Bool.true_and] at hI
    rw [Bool.true_and] at e1 e2
    have hx : wrap64 (wrap64 (b.f0 + b.f2) - 1) = b.f0 + b.f2 - 1 := by rw [wq (x := b.f0 + b.f2) (by omega) (by omega), wq (x := b.f0 + b.f2 - 1) (by omega) (by omega)]
    have hy : wrap64 (wrap64 (b.f1 + b.f3) - 1) = b.f1 + b.f3 - 1 := by rw [wq (x := b.f1 + b.f3) (by omega) (by omega), wq (x := b.f1 + b.f3 - 1) (by omega) (by omega)]
    have h4 := four_corners ha hb
    have p0 := has_some a b.f0 b.f1
    have p1 : rect_Has.f a.f0 a.f1 a.f2 a.f3 (wrap64 (wrap64 (b.f0 + b.f2) - 1)) b.f1 = some (hasB a (b.f0 + b.f2 - 1) b.f1) := by rw [hx]; exact has_some a _ _
    have p2 : rect_Has.f a.f0 a.f1 a.f2 a.f3 b.f0 (wrap64 (wrap64 (b.f1 + b.f3) - 1)) = some (hasB a b.f0 (b.f1 + b.f3 - 1)) := by rw [hy]; exact has_some a _ _
    have p3 : rect_Has.f a.f0 a.f1 a.f2 a.f3 (wrap64 (wrap64 (b.f0 + b.f2) - 1)) (wrap64 (wrap64 (b.f1 + b.f3) - 1)) = some (hasB a (b.f0 + b.f2 - 1) (b.f1 + b.f3 - 1)) := by rw [hx, hy]; exact has_some a _ _
    cases hc : cornersB a b with
    | true =>
      have hm := in_meets ha hb hc
      rw [hc] at h4 hI
      rw [hm] at e1 e2
      exact meets_in a b w awk hI hM _ _ _ _ h4.symm p0 p1 p2 p3 e1 e2
    | false =>
      rw [hc] at h4 hI
      exact meets_out a b w awk hI hM _ _ _ _ h4.symm p0 p1 p2 p3 _ e1 e2
end Go.Proofs.Ytfdmfgaiblfbhaa.P
/- RectMeets, the plain law. No condition. -/
namespace Go.Proofs.Ytfdmfgaiblfbhaa.Pure
open Go.RowKit Go.Proofs.Ytfdmfgaiblfbhaa.P Go.Proofs.YtfdmfgaiblfbhaaW.PrintWords Go.Proofs.YtfdmfgaiblfbhaaW.PrintLast Go.Proofs.YtfdmfgaiblfbhaaW.PrintMore
theorem RectMeets : ∀ (a0 : S23) (a1 : S23), wf23 a0 → wf23 a1 → sashlaw04_RectMeets.f a0.f0 a0.f1 a0.f2 a0.f3 a1.f0 a1.f1 a1.f2 a1.f3 = some true := fun _ _ _ _ => rfl
end Go.Proofs.Ytfdmfgaiblfbhaa.Pure
/- Facts on the program's head, each once: the head's text as a row of signs, its words; what follows of them. -/
namespace Go.Proofs.Ytfdmfgaiblfbhaa.P
open Go.RowKit
def headSigns : List Char := [104, 97, 114, 110, 101, 115, 115, 32, 57, 48, 98, 52, 50, 100, 98, 100, 99, 50, 52, 54, 55, 51, 50, 51, 56, 57, 50, 48, 100, 50, 50, 98, 56, 57, 53, 102, 48, 48, 55, 48, 53, 101, 102, 48, 53, 53, 102, 54, 54, 55, 97, 57, 54, 56, 100, 50, 56, 97, 57, 52, 55, 52, 56, 57, 49, 49, 48, 97, 48, 101, 53, 55, 32, 99, 117, 116, 32, 97, 116, 32, 115, 97, 115, 104, 47, 115, 97, 115, 104, 108, 97, 119, 48, 55, 46, 70, 108, 97, 116, 78, 101, 120, 116, 115, 32, 115, 97, 115, 104, 47, 115, 97, 115, 104, 108, 97, 119, 48, 55, 46, 70, 108, 97, 116, 76, 105, 115, 116, 115, 32, 115, 97, 115, 104, 47, 115, 97, 115, 104, 108, 97, 119, 48, 52, 46, 82, 101, 99, 116, 67, 117, 116, 115, 32, 115, 97, 115, 104, 47, 115, 97, 115, 104, 108, 97, 119, 48, 57, 46, 65, 100, 106, 117, 115, 116, 83, 104, 97, 114, 101, 115, 32, 115, 97, 115, 104, 47, 115, 97, 115, 104, 108, 97, 119, 48, 57, 46, 65, 100, 106, 117, 115, 116, 69, 118, 101, 110, 115, 32, 115, 97, 115, 104, 47, 115, 97, 115, 104, 108, 97, 119, 49, 54, 46, 83, 112, 114, 101, 97, 100, 83, 105, 122, 101, 115, 32, 115, 97, 115, 104, 47, 115, 97, 115, 104, 108, 97, 119, 48, 55, 46, 70, 108, 97, 116, 67, 104, 97, 110, 103, 101, 115, 32, 115, 97, 115, 104, 47, 115, 97, 115, 104, 108, 97, 119, 48, 52, 46, 82, 101, 99, 116, 73, 110, 115, 105, 100, 101, 32, 115, 97, 115, 104, 47, 115, 97, 115, 104, 108, 97, 119, 48, 55, 46, 70, 108, 97, 116, 78, 97, 109, 101, 115, 32, 115, 97, 115, 104, 47, 115, 97, 115, 104, 108, 97, 119, 48, 57, 46, 65, 100, 106, 117, 115, 116, 83, 101, 116, 115, 32, 115, 97, 115, 104, 47, 115, 97, 115, 104, 108, 97, 119, 48, 52, 46, 82, 101, 99, 116, 77, 101, 101, 116, 115, 32, 115, 97, 115, 104, 47, 115, 97, 115, 104, 108, 97, 119, 48, 52, 46, 82, 101, 99, 116, 77, 97, 121, 115, 32, 115, 97, 115, 104, 47, 115, 97, 115, 104, 108, 97, 119, 48, 55, 46, 70, 108, 97, 116, 83, 116, 105, 108, 108, 32, 115, 97, 115, 104, 47, 115, 97, 115, 104, 108, 97, 119, 48, 53, 46, 67, 101, 108, 108, 77, 97, 121, 115, 32, 115, 97, 115, 104, 47, 115, 97, 115, 104, 108, 97, 119, 48, 53, 46, 67, 101, 108, 108, 83, 97, 109, 101, 32, 115, 97, 115, 104, 47, 115, 97, 115, 104, 108, 97, 119, 48, 53, 46, 67, 101, 108, 108, 67, 111, 117, 110, 116, 115, 32, 115, 97, 115, 104, 47, 115, 97, 115, 104, 108, 97, 119, 48, 56, 46, 76, 101, 97, 115, 116, 83, 117, 109, 115, 32, 115, 97, 115, 104, 47, 115, 97, 115, 104, 108, 97, 119, 48, 53, 46, 67, 101, 108, 108, 70, 105, 110, 100, 115, 32, 115, 97, 115, 104, 47, 115, 97, 115, 104, 108, 97, 119, 48, 56, 46, 76, 101, 97, 115, 116, 73, 115, 32, 115, 97, 115, 104, 47, 115, 97, 115, 104, 108, 97, 119, 48, 56, 46, 76, 101, 97, 115, 116, 70, 105, 116, 115, 32, 115, 97, 115, 104, 47, 115, 97, 115, 104, 108, 97, 119, 48, 56, 46, 76, 101, 97, 115, 116, 80, 97, 116, 104, 115, 32, 115, 97, 115, 104, 47, 115, 97, 115, 104, 108, 97, 119, 48, 53, 46, 67, 101, 108, 108, 80, 117, 116, 115, 32, 115, 97, 115, 104, 47, 115, 97, 115, 104, 108, 97, 119, 49, 50, 46, 83, 112, 108, 105, 116, 83, 105, 122, 101, 115, 32, 115, 97, 115, 104, 47, 115, 97, 115, 104, 108, 97, 119, 49, 54, 46, 83, 112, 114, 101, 97, 100, 65, 108, 108, 32, 115, 97, 115, 104, 47, 115, 97, 115, 104, 108, 97, 119, 49, 54, 46, 83, 112, 114, 101, 97, 100, 65, 116, 32, 115, 97, 115, 104, 47, 115, 97, 115, 104, 108, 97, 119, 49, 52, 46, 80, 117, 115, 104, 73, 115, 32, 115, 97, 115, 104, 47, 115, 97, 115, 104, 108, 97, 119, 49, 52, 46, 80, 117, 115, 104, 79, 110, 101, 32, 115, 97, 115, 104, 47, 115, 97, 115, 104, 108, 97, 119, 49, 52, 46, 80, 117, 115, 104, 70, 114, 97, 109, 101, 115, 32, 115, 97, 115, 104, 47, 115, 97, 115, 104, 108, 97, 119, 49, 52, 46, 80, 117, 115, 104, 67, 97, 110, 32, 115, 97, 115, 104, 47, 115, 97, 115, 104, 108, 97, 119, 49, 50, 46, 83, 112, 108, 105, 116, 73, 115, 32, 115, 97, 115, 104, 47, 115, 97, 115, 104, 108, 97, 119, 49, 50, 46, 83, 112, 108, 105, 116, 67, 97, 110].map Char.ofNat
def headWords : List (List Char) := [[104, 97, 114, 110, 101, 115, 115].map Char.ofNat,
  [57, 48, 98, 52, 50, 100, 98, 100, 99, 50, 52, 54, 55, 51, 50, 51, 56, 57, 50, 48, 100, 50, 50, 98, 56, 57, 53, 102, 48, 48, 55, 48, 53, 101, 102, 48, 53, 53, 102, 54, 54, 55, 97, 57, 54, 56, 100, 50, 56, 97, 57, 52, 55, 52, 56, 57, 49, 49, 48, 97, 48, 101, 53, 55].map Char.ofNat,
  [99, 117, 116].map Char.ofNat,
  [97, 116].map Char.ofNat,
  [115, 97, 115, 104, 47, 115, 97, 115, 104, 108, 97, 119, 48, 55, 46, 70, 108, 97, 116, 78, 101, 120, 116, 115].map Char.ofNat,
  [115, 97, 115, 104, 47, 115, 97, 115, 104, 108, 97, 119, 48, 55, 46, 70, 108, 97, 116, 76, 105, 115, 116, 115].map Char.ofNat,
  [115, 97, 115, 104, 47, 115, 97, 115, 104, 108, 97, 119, 48, 52, 46, 82, 101, 99, 116, 67, 117, 116, 115].map Char.ofNat,
  [115, 97, 115, 104, 47, 115, 97, 115, 104, 108, 97, 119, 48, 57, 46, 65, 100, 106, 117, 115, 116, 83, 104, 97, 114, 101, 115].map Char.ofNat,
  [115, 97, 115, 104, 47, 115, 97, 115, 104, 108, 97, 119, 48, 57, 46, 65, 100, 106, 117, 115, 116, 69, 118, 101, 110, 115].map Char.ofNat,
  [115, 97, 115, 104, 47, 115, 97, 115, 104, 108, 97, 119, 49, 54, 46, 83, 112, 114, 101, 97, 100, 83, 105, 122, 101, 115].map Char.ofNat,
  [115, 97, 115, 104, 47, 115, 97, 115, 104, 108, 97, 119, 48, 55, 46, 70, 108, 97, 116, 67, 104, 97, 110, 103, 101, 115].map Char.ofNat,
  [115, 97, 115, 104, 47, 115, 97, 115, 104, 108, 97, 119, 48, 52, 46, 82, 101, 99, 116, 73, 110, 115, 105, 100, 101].map Char.ofNat,
  [115, 97, 115, 104, 47, 115, 97, 115, 104, 108, 97, 119, 48, 55, 46, 70, 108, 97, 116, 78, 97, 109, 101, 115].map Char.ofNat,
  [115, 97, 115, 104, 47, 115, 97, 115, 104, 108, 97, 119, 48, 57, 46, 65, 100, 106, 117, 115, 116, 83, 101, 116, 115].map Char.ofNat,
  [115, 97, 115, 104, 47, 115, 97, 115, 104, 108, 97, 119, 48, 52, 46, 82, 101, 99, 116, 77, 101, 101, 116, 115].map Char.ofNat,
  [115, 97, 115, 104, 47, 115, 97, 115, 104, 108, 97, 119, 48, 52, 46, 82, 101, 99, 116, 77, 97, 121, 115].map Char.ofNat,
  [115, 97, 115, 104, 47, 115, 97, 115, 104, 108, 97, 119, 48, 55, 46, 70, 108, 97, 116, 83, 116, 105, 108, 108].map Char.ofNat,
  [115, 97, 115, 104, 47, 115, 97, 115, 104, 108, 97, 119, 48, 53, 46, 67, 101, 108, 108, 77, 97, 121, 115].map Char.ofNat,
  [115, 97, 115, 104, 47, 115, 97, 115, 104, 108, 97, 119, 48, 53, 46, 67, 101, 108, 108, 83, 97, 109, 101].map Char.ofNat,
  [115, 97, 115, 104, 47, 115, 97, 115, 104, 108, 97, 119, 48, 53, 46, 67, 101, 108, 108, 67, 111, 117, 110, 116, 115].map Char.ofNat,
  [115, 97, 115, 104, 47, 115, 97, 115, 104, 108, 97, 119, 48, 56, 46, 76, 101, 97, 115, 116, 83, 117, 109, 115].map Char.ofNat,
  [115, 97, 115, 104, 47, 115, 97, 115, 104, 108, 97, 119, 48, 53, 46, 67, 101, 108, 108, 70, 105, 110, 100, 115].map Char.ofNat,
  [115, 97, 115, 104, 47, 115, 97, 115, 104, 108, 97, 119, 48, 56, 46, 76, 101, 97, 115, 116, 73, 115].map Char.ofNat,
  [115, 97, 115, 104, 47, 115, 97, 115, 104, 108, 97, 119, 48, 56, 46, 76, 101, 97, 115, 116, 70, 105, 116, 115].map Char.ofNat,
  [115, 97, 115, 104, 47, 115, 97, 115, 104, 108, 97, 119, 48, 56, 46, 76, 101, 97, 115, 116, 80, 97, 116, 104, 115].map Char.ofNat,
  [115, 97, 115, 104, 47, 115, 97, 115, 104, 108, 97, 119, 48, 53, 46, 67, 101, 108, 108, 80, 117, 116, 115].map Char.ofNat,
  [115, 97, 115, 104, 47, 115, 97, 115, 104, 108, 97, 119, 49, 50, 46, 83, 112, 108, 105, 116, 83, 105, 122, 101, 115].map Char.ofNat,
  [115, 97, 115, 104, 47, 115, 97, 115, 104, 108, 97, 119, 49, 54, 46, 83, 112, 114, 101, 97, 100, 65, 108, 108].map Char.ofNat,
  [115, 97, 115, 104, 47, 115, 97, 115, 104, 108, 97, 119, 49, 54, 46, 83, 112, 114, 101, 97, 100, 65, 116].map Char.ofNat,
  [115, 97, 115, 104, 47, 115, 97, 115, 104, 108, 97, 119, 49, 52, 46, 80, 117, 115, 104, 73, 115].map Char.ofNat,
  [115, 97, 115, 104, 47, 115, 97, 115, 104, 108, 97, 119, 49, 52, 46, 80, 117, 115, 104, 79, 110, 101].map Char.ofNat,
  [115, 97, 115, 104, 47, 115, 97, 115, 104, 108, 97, 119, 49, 52, 46, 80, 117, 115, 104, 70, 114, 97, 109, 101, 115].map Char.ofNat,
  [115, 97, 115, 104, 47, 115, 97, 115, 104, 108, 97, 119, 49, 52, 46, 80, 117, 115, 104, 67, 97, 110].map Char.ofNat,
  [115, 97, 115, 104, 47, 115, 97, 115, 104, 108, 97, 119, 49, 50, 46, 83, 112, 108, 105, 116, 73, 115].map Char.ofNat,
  [115, 97, 115, 104, 47, 115, 97, 115, 104, 108, 97, 119, 49, 50, 46, 83, 112, 108, 105, 116, 67, 97, 110].map Char.ofNat]
theorem head_list : Try.prog.initOrder.toList = headSigns := by
  have e : Try.prog.initOrder = String.ofList headSigns := by kernel_rfl
  rw [e, String.toList_ofList]
theorem head_words : wordsSigns Try.prog.initOrder.toList = headWords := by
  rw [head_list]
  kernel_rfl
def headRest : List (List Char) := headWords.drop 3
theorem head_behind : behindMainWord (wordsSigns Try.prog.initOrder.toList) = ([99, 117, 116].map Char.ofNat) :: headRest := by
  rw [head_words]
  kernel_rfl
theorem cut_eq : ([99, 117, 116].map Char.ofNat : List Char) = "cut".toList := by decide +kernel
theorem head_behind' : behindMainWord (wordsSigns Try.prog.initOrder.toList) = "cut".toList :: headRest := head_behind.trans (congrArg (fun c => c :: headRest) cut_eq)
theorem strip_none (rest : List (List Char)) : stripLifts liftWords ("cut".toList :: rest) = ([], "cut".toList :: rest) := by
  have key : ∀ (l : List String), (l.all fun o => !("cut".toList == o.toList)) = true → stripLifts l ("cut".toList :: rest) = ([], "cut".toList :: rest) := by
    intro l
    induction l with
    | nil => intro _; rfl
    | cons o l ih =>
      intro h
      simp only [List.all_cons, Bool.and_eq_true] at h
      unfold stripLifts
      rw [if_neg (by simpa using h.1)]
      exact ih h.2
  exact key _ (by decide +kernel)
theorem make_of (P : Program) (rest : List (List Char)) (h : behindMainWord (wordsSigns P.initOrder.toList) = "cut".toList :: rest) : P.make = some .cut := by
  unfold Program.make
  rw [h]
  simp only
  have h1 : ("cut".toList == "gc".toList) = false := by decide +kernel
  have h2 : ("cut".toList == "spec".toList) = false := by decide +kernel
  rw [h1, h2, if_neg (by simp), if_pos (by simp)]
theorem lifts_of (P : Program) (rest : List (List Char)) (h : behindMainWord (wordsSigns P.initOrder.toList) = "cut".toList :: rest) : P.headLifts = [] := by
  unfold Program.headLifts
  simp only [h, strip_none]
  simp
theorem final_of (P : Program) (rest : List (List Char)) (h : behindMainWord (wordsSigns P.initOrder.toList) = "cut".toList :: rest) : P.liftsFinal = false := by
  have h1 : (some "cut".toList == some "carried".toList) = false := by decide +kernel
  unfold Program.liftsFinal
  simp only [h, lifts_of P rest h, List.head?_cons, h1, Bool.false_and, List.contains_nil, Bool.or_false]
theorem enter_of (P : Program) (rest : List (List Char)) (h : behindMainWord (wordsSigns P.initOrder.toList) = "cut".toList :: rest) (h1 : P.laysLater = false) (h2 : P.bearsReflect = false) (h3 : P.doorFits [] = true) : P.mayEnter = true := by
  unfold Program.mayEnter
  rw [h]
  simp only [strip_none]
  rw [h1, h2, h3]
  simp
theorem head_make : Try.prog.make = some .cut := make_of Try.prog headRest head_behind'
theorem head_final : Try.prog.liftsFinal = false := final_of Try.prog headRest head_behind'
theorem head_later : Try.prog.laysLater = false := by kernel_rfl
theorem head_reflect : Try.prog.bearsReflect = false := by kernel_rfl
theorem head_door : Try.prog.doorFits [] = true := by kernel_rfl
theorem head_enter : Try.prog.mayEnter = true := enter_of Try.prog headRest head_behind' head_later head_reflect head_door
theorem head_keys : (true == Try.prog.plainKeys) = true := by kernel_rfl
theorem head_heard : Try.prog.stopsHeard = true := by kernel_rfl
end Go.Proofs.Ytfdmfgaiblfbhaa.P
/- joinedFacts out of its parts, over any program. -/
namespace Go.Proofs.Ytfdmfgaiblfbhaa.P
open Go.RowKit
theorem joined_mk {P : Program} {f : FuncId} {fn : Func} {s : ChangeSpec} {c : OpenClaim}
    (h0 : (c.wf (OpenSpec.ofChange s)) = true)
    (h1 : (laidOutB P) = true)
    (h2 : (mapsRowed P) = true)
    (h3 : (fn.params.all (P.readableRec ·)) = true)
    (h4 : (namedTie P c.named s.vars) = true)
    (h5 : ((c.stops == [])) = true)
    (h6 : ((P.stops == [])) = true)
    (h7 : ((c.knobs == [])) = true)
    (h8 : ((P.stopKnobs == [])) = true)
    (h9 : ((c.inPlace == P.inPlace f)) = true)
    (h10 : ((c.unfollowed == P.unfollowed f)) = true)
    (h11 : ((c.recurses == P.recurses f)) = true)
    (h12 : ((c.named == P.varsNamed f)) = true)
    (h13 : ((c.maps == (fn.params.toList ++ s.plain.varTypes P).any (P.mapsRec ·))) = true)
    (h14 : ((c.ifaces == (fn.params.toList ++ s.plain.varTypes P).any (P.ifacesRec ·))) = true)
    (h15 : ((c.mapsOut == P.mapsAmong fn.resultTypes.toList)) = true)
    (h16 : ((c.loops == (fn.params.toList ++ s.plain.varTypes P).any (P.loopsFrom ·))) = true)
    (h17 : ((c.wideKeys == (fn.params.toList ++ s.plain.varTypes P ++ fn.resultTypes.toList).any (P.wideKeysFrom ·))) = true)
    (h18 : (s.vars.all (P.varReadable ·)) = true)
    (h19 : (fn.resultTypes.all (fun t => P.readableRec t && decide (t < P.types.size))) = true)
    (h20 : ((c.ifacesOut == fn.resultTypes.toList.any (P.ifacesRec ·))) = true)
    (h21 : ((c.loopsOut == fn.resultTypes.toList.any (P.loopsFrom ·))) = true)
    (h22 : ((c.plainKeys == P.plainKeys)) = true)
    (h23 : (c.shortTexts.isNone) = true)
    (h24 : (P.stopsHeard) = true)
    (h25 : (P.mayEnter) = true)
    (h26 : ((c.lifted == P.liftsFinal)) = true)
    (h27 : ((P.make == some c.make)) = true)
    (hd : c.domain.isEmpty = true) (hk : c.kinds = [])
    (h29 : ((c.pinned == c.pinnedBy)) = true)
    (h30 : ((c.veiled == (fn.params.toList ++ s.plain.varTypes P ++ fn.resultTypes.toList).any (P.veiledRec ·))) = true)
    (h31 : (c.veiledFits P fn.params.toList (fn.params.toList ++ s.plain.varTypes P ++ fn.resultTypes.toList)) = true)
    : joinedFacts P f fn s c = true := by
  unfold joinedFacts
  rw [h0, h1, h2, h3, h4, h5, h6, h7, h8, h9, h10, h11, h12, h13, h14, h15, h16, h17, h18, h19, h20, h21, h22, h23, h24, h25, h26, h27, if_pos hd, hk, h29, h30, h31]
  rfl
end Go.Proofs.Ytfdmfgaiblfbhaa.P
/- The row of the law RectMeets, out of its plain law and its walk. -/
namespace Go.Proofs.Ytfdmfgaiblfbhaa.rectMeets
open Go.ChangeShapes Go.WideShapes Go.ChangeAt Go.RowKit Go.Proofs.Ytfdmfgaiblfbhaa.P Go.Proofs.YtfdmfgaiblfbhaaW.PrintWords
open Go.ChangeMaps (open_string shut_string)
theorem own : ownKnob Try.prog.godebug = none := by kernel_rfl
theorem laidOut : laidOutB Try.prog = true := by kernel_rfl
set_option maxRecDepth 100000 in
theorem lifted (os : Os) (started : os.Started) (H : Type) (enc : TypeId × Value → H) :
    ReturnsInHanded {} Try.checked os 13 .any (Rows.rectMeetsSpec.pre6 enc Try.prog Try.f13 Rows.rectMeetsRow.domain false) (Rows.rectMeetsSpec.post enc Try.prog Try.f13 false true false false) := by
  refine returnsInHanded_of_change_sized (C := Try.checked) own started (by kernel_rfl) Try.func13
    (ChangeSpec.witness6 (enc := enc) (C := Try.checked) false ⟨#[], #[.agg #[.int .i64 0, .int .i64 0, .int .i64 0, .int .i64 0], .agg #[.int .i64 0, .int .i64 0, .int .i64 0, .int .i64 0]], []⟩ 8 (by kernel_rfl) (by kernel_rfl) (by kernel_rfl) (by kernel_rfl)) ?_
  intro W base args ds gs before hval0 hW hcnd hsz0 _
  have hval : ∀ (j : Nat) t v, Try.f13.params[j]? = some t → args[j]? = some v → Value.okWide Try.prog W .any base t v := hval0
  have hW' := hW
  obtain ⟨p, q, hA0, hV, rfl, hfz, hnd⟩ := hW
  have hA : DataW.TrodAll enc Try.prog W 0 (fun _ => true) true Try.f13.params.toList args.toList ds p := hA0
  rw [Try.params13] at hA hval
  obtain ⟨v0, vs0, d0, ds0, p0, q0, hargs, rfl, rfl, h0, r0⟩ := trodAll_cons hA
  obtain ⟨v1, vs1, d1, ds1, p1, q1, rfl, rfl, rfl, h1, r1⟩ := trodAll_cons r0
  obtain ⟨rfl, rfl, rfl⟩ := trodAll_nil r1
  obtain rfl : args = #[v0, v1] := by cases args; simp_all
  obtain ⟨rfl, rfl⟩ := trodVars_none hV
  have k0 := h0
  have lt0 : ∀ x ∈ p0, x.block < W.heap.size := by obtain ⟨m, hm⟩ := k0; exact DataW.trod_lt m _ _ _ hm
  obtain ⟨fuel0, hf0⟩ := h0
  obtain ⟨cs0, rfl, _⟩ := okWide_struct Try.underlying23 (hval 0 23 v0 rfl rfl)
  obtain ⟨a0, b0, w0⟩ := read23 hf0
  have e0 := k23_open b0
  obtain rfl := agg_of e0
  have k1 := h1
  have lt1 : ∀ x ∈ p1, x.block < W.heap.size := by obtain ⟨m, hm⟩ := k1; exact DataW.trod_lt m _ _ _ hm
  obtain ⟨fuel1, hf1⟩ := h1
  obtain ⟨cs1, rfl, _⟩ := okWide_struct Try.underlying23 (hval 1 23 v1 rfl rfl)
  obtain ⟨a1, b1, w1⟩ := read23 hf1
  have e1 := k23_open b1
  obtain rfl := agg_of e1
  have hP := Pure.RectMeets a0 a1 w0 w1
  refine (sashlaw04_RectMeets.calls a0.f0 a0.f1 a0.f2 a0.f3 a1.f0 a1.f1 a1.f2 a1.f3 true W  hP).mono fun e W' ⟨he, bel0⟩ => ?_
  have bel : Below W.heap.size W W' := bel0
  subst he
  exact ⟨_, rfl, _, _, _, [], _, [], hW', trodAll_mk1 (shut_bool Try.underlying4 _), (trodAll_cons_mk (Below.trod laidOut (by kernel_rfl) (of_decide_eq_true (by kernel_rfl)) k0 bel lt0) (trodAll_cons_mk (Below.trod laidOut (by kernel_rfl) (of_decide_eq_true (by kernel_rfl)) k1 bel lt1) trodAll_mk0)), rfl, bel.frame _, fun h => by cases h⟩
theorem j0 : (Rows.rectMeetsRow.wf (OpenSpec.ofChange Rows.rectMeetsSpec)) = true := by kernel_rfl
theorem j1 : (laidOutB Try.prog) = true := by kernel_rfl
theorem j2 : (mapsRowed Try.prog) = true := by kernel_rfl
theorem j3 : (Try.f13.params.all (Try.prog.readableRec ·)) = true := by kernel_rfl
theorem j4 : (namedTie Try.prog Rows.rectMeetsRow.named Rows.rectMeetsSpec.vars) = true := by kernel_rfl
theorem j5 : ((Rows.rectMeetsRow.stops == [])) = true := by kernel_rfl
theorem j6 : ((Try.prog.stops == [])) = true := by kernel_rfl
theorem j7 : ((Rows.rectMeetsRow.knobs == [])) = true := by kernel_rfl
theorem j8 : ((Try.prog.stopKnobs == [])) = true := by kernel_rfl
theorem j9 : ((Rows.rectMeetsRow.inPlace == Try.prog.inPlace 13)) = true := by kernel_rfl
theorem j10 : ((Rows.rectMeetsRow.unfollowed == Try.prog.unfollowed 13)) = true := by kernel_rfl
theorem j11 : ((Rows.rectMeetsRow.recurses == Try.prog.recurses 13)) = true := by kernel_rfl
theorem j12 : ((Rows.rectMeetsRow.named == Try.prog.varsNamed 13)) = true := by kernel_rfl
theorem j13 : ((Rows.rectMeetsRow.maps == (Try.f13.params.toList ++ Rows.rectMeetsSpec.plain.varTypes Try.prog).any (Try.prog.mapsRec ·))) = true := by kernel_rfl
theorem j14 : ((Rows.rectMeetsRow.ifaces == (Try.f13.params.toList ++ Rows.rectMeetsSpec.plain.varTypes Try.prog).any (Try.prog.ifacesRec ·))) = true := by kernel_rfl
theorem j15 : ((Rows.rectMeetsRow.mapsOut == Try.prog.mapsAmong Try.f13.resultTypes.toList)) = true := by kernel_rfl
theorem j16 : ((Rows.rectMeetsRow.loops == (Try.f13.params.toList ++ Rows.rectMeetsSpec.plain.varTypes Try.prog).any (Try.prog.loopsFrom ·))) = true := by kernel_rfl
theorem j17 : ((Rows.rectMeetsRow.wideKeys == (Try.f13.params.toList ++ Rows.rectMeetsSpec.plain.varTypes Try.prog ++ Try.f13.resultTypes.toList).any (Try.prog.wideKeysFrom ·))) = true := by kernel_rfl
theorem j18 : (Rows.rectMeetsSpec.vars.all (Try.prog.varReadable ·)) = true := by kernel_rfl
theorem j19 : (Try.f13.resultTypes.all (fun t => Try.prog.readableRec t && decide (t < Try.prog.types.size))) = true := by kernel_rfl
theorem j20 : ((Rows.rectMeetsRow.ifacesOut == Try.f13.resultTypes.toList.any (Try.prog.ifacesRec ·))) = true := by kernel_rfl
theorem j21 : ((Rows.rectMeetsRow.loopsOut == Try.f13.resultTypes.toList.any (Try.prog.loopsFrom ·))) = true := by kernel_rfl
theorem j23 : (Rows.rectMeetsRow.shortTexts.isNone) = true := by kernel_rfl
theorem j29 : ((Rows.rectMeetsRow.pinned == Rows.rectMeetsRow.pinnedBy)) = true := by kernel_rfl
theorem j30 : ((Rows.rectMeetsRow.veiled == (Try.f13.params.toList ++ Rows.rectMeetsSpec.plain.varTypes Try.prog ++ Try.f13.resultTypes.toList).any (Try.prog.veiledRec ·))) = true := by kernel_rfl
theorem j31 : (Rows.rectMeetsRow.veiledFits Try.prog Try.f13.params.toList (Try.f13.params.toList ++ Rows.rectMeetsSpec.plain.varTypes Try.prog ++ Try.f13.resultTypes.toList)) = true := by kernel_rfl
theorem closed : joinedFacts Try.prog 13 Try.f13 Rows.rectMeetsSpec Rows.rectMeetsRow = true := P.joined_mk j0 j1 j2 j3 j4 j5 j6 j7 j8 j9 j10 j11 j12 j13 j14 j15 j16 j17 j18 j19 j20 j21 P.head_keys j23 P.head_heard P.head_enter (by rw [P.head_final]; rfl) (by rw [P.head_make]; rfl) rfl rfl j29 j30 j31
theorem over : Rows.rectMeetsRow.holds Try.pinned (OpenSpec.ofChange Rows.rectMeetsSpec) :=
  OpenClaim.holds_of_wide 13 Try.f13 rfl rfl rfl rfl rfl rfl rfl ⟨rfl, rfl, rfl, rfl, rfl⟩ rfl rfl rfl rfl rfl (by kernel_rfl) Try.func13 closed
    (of_decide_eq_true (by kernel_rfl)) (by unfold Func.isWrapper; first | (rw [if_pos (by decide +kernel)]; kernel_rfl) | (rw [if_neg (by decide +kernel)]; exact ⟨rfl, rfl⟩))
    (fun os started H enc _ => lifted os started H enc)
theorem proved : Rows.RectMeetsSaid := over
#print axioms proved
end Go.Proofs.Ytfdmfgaiblfbhaa.rectMeets
namespace Go.Proofs.Ytfdmfgaiblfbhaa
/-- The row, under a short name, for the claim. -/
theorem rectMeets_holds : Rows.RectMeetsSaid := rectMeets.proved
end Go.Proofs.Ytfdmfgaiblfbhaa
