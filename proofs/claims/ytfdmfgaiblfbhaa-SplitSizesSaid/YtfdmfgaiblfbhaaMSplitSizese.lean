/- The row of the law SplitSizes, out of its plain law and its walk. -/
import Derived.Test.YtfdmfgaiblfbhaaMSplitSizesc
import Derived.Test.YtfdmfgaiblfbhaaMSplitSizesd
import Derived.Test.YtfdmfgaiblfbhaaRows
import Derived.ProofKit
import Derived.WalkKit
import Derived.OpenShut
import Derived.ShutString
import Derived.ChangeOld
import Derived.Below
import Derived.SizedLaws
namespace Go.Proofs.Ytfdmfgaiblfbhaa.P
open Go.RowKit Go.Proofs.YtfdmfgaiblfbhaaW.PrintWords Go.Proofs.YtfdmfgaiblfbhaaW.PrintLast Go.Proofs.YtfdmfgaiblfbhaaW.PrintMore
attribute [local go_sem] max2_int min2_int max_two min_two max_three min_three max_four min_four   -- for this text's walks alone
set_option linter.unusedVariables false
set_option linter.unusedSimpArgs false

/-! ### cell_At: function 91 -/
def cell_At.l0 : Nat → List Int → Int → Int → Int → Int → Int → Int → Int → Int → List (S26) → Option (Int × Int × Int × Int × Int × Int × (List (S26)) × Bool)
 | 0, _, _, _, _, _, _, _, _, _, _ => none
 | k + 1, x8, x9, x10, x1003000, x1003001, x1003002, x1003003, x1003004, x1003005, x1003006 => if x10 < x9 then (if 0 ≤ x10 then (if x10 < (x8.length : Int) then (if (rd x8 x10) < 0 then (some (0, 0, 0, 0, 0, 0, ([] : List (S26)), false)) else (if (rd x8 x10) ≥ (x1003006.length : Int) then (some (0, 0, 0, 0, 0, 0, ([] : List (S26)), false)) else (if 0 ≤ (rd x8 x10) then (if (rd x8 x10) < (x1003006.length : Int) then (cell_At.l0 k x8 x9 (wrap64 (x10 + 1)) ((rd_T26 x1003006 (rd x8 x10)).f0) ((rd_T26 x1003006 (rd x8 x10)).f1.f0) ((rd_T26 x1003006 (rd x8 x10)).f1.f1) ((rd_T26 x1003006 (rd x8 x10)).f1.f2) ((rd_T26 x1003006 (rd x8 x10)).f1.f3) ((rd_T26 x1003006 (rd x8 x10)).f2) ((rd_T26 x1003006 (rd x8 x10)).f3)) else (none)) else (none)))) else (none)) else (none)) else ((cell_clone.f x1003000 x1003001 x1003002 x1003003 x1003004 x1003005 x1003006).bind fun bt1006 => (some (bt1006.1, bt1006.2.1, bt1006.2.2.1, bt1006.2.2.2.1, bt1006.2.2.2.2.1, bt1006.2.2.2.2.2.1, bt1006.2.2.2.2.2.2, true)))
def cell_At.f (k : Nat) (a0_0 : Int) (a0_1 : Int) (a0_2 : Int) (a0_3 : Int) (a0_4 : Int) (a0_5 : Int) (l0_6 : List (S26)) (l1 : List Int) : Option (Int × Int × Int × Int × Int × Int × (List (S26)) × Bool) := cell_At.l0 k l1 (l1.length : Int) 0 a0_0 a0_1 a0_2 a0_3 a0_4 a0_5 l0_6
set_option maxHeartbeats 8000000 in
set_option maxRecDepth 100000 in
theorem cell_At.calls (k : Nat) (a0_0 : Int) (a0_1 : Int) (a0_2 : Int) (a0_3 : Int) (a0_4 : Int) (a0_5 : Int) (P0_6_ : Nat → Prop) (A0_6 : Option Addr) (c0_6 : Nat) (l0_6 : List (S26)) (A1 : Option Addr) (c1 : Nat) (l1 : List Int) (r1 : Int) (r2 : Int) (r3 : Int) (r4 : Int) (r5 : Int) (r6 : Int) (r7 : List (S26)) (r8 : Bool) (w : World) (hs0_6 : Kd.V k26 26 w w.heap.size (fun k_ => P0_6_ k_) (.slice A0_6 l0_6.length c0_6) l0_6) (hr1 : Kd.C (Kd.int .i64) w A1 l1.length l1) (hc1 : l1.length ≤ c1) (h : cell_At.f k a0_0 a0_1 a0_2 a0_3 a0_4 a0_5 l0_6 l1 = some (r1, r2, r3, r4, r5, r6, r7, r8)) :
  Calls Try.prog 91 #[.agg #[.int .u8 a0_0, .int .i64 a0_1, .int .i64 a0_2, .int .i64 a0_3, .int .i64 a0_4, .int .i64 a0_5, .slice A0_6 l0_6.length c0_6], .slice A1 l1.length c1] w fun e w' => ∃ v6_ : Value, e = .returned (.tuple #[.agg #[.int .u8 r1, .int .i64 r2, .int .i64 r3, .int .i64 r4, .int .i64 r5, .int .i64 r6, v6_], .bool r8]) ∧ Kd.N k26 26 w' w.heap.size (fun k_ => (P0_6_ k_ ∨ w.heap.size ≤ k_)) v6_ r7 ∧ Below w.heap.size w w' := by
 have hu26 := Try.underlying26
 have HO0_6 := Aside0.mk (show Kd.V k26 26 w w.heap.size (fun k_ => (P0_6_ k_ ∨ w.heap.size ≤ k_)) (.slice A0_6 l0_6.length c0_6) l0_6 from Kd.V_mono hs0_6 (fun k_ hk => .inl hk))
 have HR1 := Aside0.mk hr1
 have HC1 := Aside0.mk hc1
 clear hr1 hc1
 have HB := Aside0.mk (Below.refl w.heap.size w)
 have H : (cell_At.l0 k l1 (l1.length : Int) 0 a0_0 a0_1 a0_2 a0_3 a0_4 a0_5 l0_6) = some (r1, r2, r3, r4, r5, r6, r7, r8) := h
 clear h
 have H' := Aside0.mk H
 clear H
 go_enter Try.func91, Try.ntmps91
 go_wp2_with (first | ((with_reducible refine gate_dst (N := 2) rfl ?_); (try (refine gate_guard (by rfl) ?_; dsimp only)); refine box_event ?hg (N := 2) ?hd (cs := #[.int .u8 a0_0, .int .i64 a0_1, .int .i64 a0_2, .int .i64 a0_3, .int .i64 a0_4, .int .i64 a0_5, .slice A0_6 l0_6.length c0_6]) (t := 26) ?hr ?_; (case hd => rfl); (case hg => rfl); (case hr => first | (go_simp; done) | (go_simp; rfl)); intro gb1002 hg w3 hbox hb; have n0_ := Aside0.mk (Kd.V_below (Kd.V_elderB (by (with_reducible repeat (first | apply Kd.V_alloc | apply Kd.V_drewN | apply Kd.V_drew)); exact HO0_6.out) gb1002 (Nat.le_of_eq hg.symm)) hb); have n1_ := Aside0.mk (below_step (by repeat (first | (with_reducible first | exact HB.out | apply below_alloc | apply pw_below_drewN | apply below_drew1) | exact HB.out)) hb); have n2_ := Aside0.mk (hbox); have n3_ := Aside0.mk ((by rw [hg]; exact (below_size (by repeat (first | (with_reducible first | exact HB.out | apply below_alloc | apply pw_below_drewN | apply below_drew1) | exact HB.out))) : w.heap.size ≤ gb1002)); have n4_ := Aside0.mk ((by rw [hg]; exact (below_size (by repeat (first | (with_reducible first | exact HB.out | apply below_alloc | apply pw_below_drewN | apply below_drew1) | exact HB.out))) : w.heap.size ≤ gb1002)); clear HO0_6; clear HB; have HO0_6 := n0_; have HB := n1_; have BK1002 := n2_; have GW1002 := n3_; have GE1002 := n4_; clear n0_ n1_ n2_ n3_ n4_; clear hb hbox hg) | ((with_reducible refine gate_dst (N := 4) rfl ?_); (try (refine gate_guard (by rfl) ?_; dsimp only)); refine box_event ?hg (N := 4) ?hd (cs := #[.int .u8 0, .int .i64 0, .int .i64 0, .int .i64 0, .int .i64 0, .int .i64 0, .slice none 0 0]) (t := 26) ?hr ?_; (case hd => rfl); (case hg => rfl); (case hr => first | (go_simp; done) | (go_simp; rfl)); intro gb1003 hg w4 hbox hb; have n0_ := Aside0.mk (Kd.V_below (Kd.V_elderB (by (with_reducible repeat (first | apply Kd.V_alloc | apply Kd.V_drewN | apply Kd.V_drew)); exact HO0_6.out) gb1003 (Nat.le_of_eq hg.symm)) hb); have n1_ := Aside0.mk (blk_below (g := gb1002) (o := .cells #[.int .u8 a0_0, .int .i64 a0_1, .int .i64 a0_2, .int .i64 a0_3, .int .i64 a0_4, .int .i64 a0_5, .slice A0_6 l0_6.length c0_6] 26 (0, 0)) (by (with_reducible repeat (first | refine blk_drewN ?_ _ | refine blk_drew ?_ | refine blk_alloc ?_ _)); exact BK1002.out) hb); have n2_ := Aside0.mk (below_step (by repeat (first | (with_reducible first | exact HB.out | apply below_alloc | apply pw_below_drewN | apply below_drew1 | refine below_set ?_ GE1002.out) | exact HB.out)) hb); have n3_ := Aside0.mk (hbox); have n4_ := Aside0.mk ((by rw [hg]; exact (below_size (by repeat (first | (with_reducible first | exact HB.out | apply below_alloc | apply pw_below_drewN | apply below_drew1 | refine below_set ?_ GE1002.out) | exact HB.out))) : w.heap.size ≤ gb1003)); have n5_ := Aside0.mk ((by rw [hg]; exact (below_size (by repeat (first | (with_reducible first | exact HB.out | apply below_alloc | apply pw_below_drewN | apply below_drew1 | refine below_set ?_ GE1002.out) | exact HB.out))) : w.heap.size ≤ gb1003)); have n6_ := Aside0.mk ((by rw [hg]; exact Nat.ne_of_lt (blk_lt (g := gb1002) (o := .cells #[.int .u8 a0_0, .int .i64 a0_1, .int .i64 a0_2, .int .i64 a0_3, .int .i64 a0_4, .int .i64 a0_5, .slice A0_6 l0_6.length c0_6] 26 (0, 0)) (by (with_reducible repeat (first | refine blk_drewN ?_ _ | refine blk_drew ?_ | refine blk_alloc ?_ _)); exact BK1002.out)) : gb1002 ≠ gb1003)); have n7_ := Aside0.mk ((by rw [hg]; exact Nat.ne_of_gt (blk_lt (g := gb1002) (o := .cells #[.int .u8 a0_0, .int .i64 a0_1, .int .i64 a0_2, .int .i64 a0_3, .int .i64 a0_4, .int .i64 a0_5, .slice A0_6 l0_6.length c0_6] 26 (0, 0)) (by (with_reducible repeat (first | refine blk_drewN ?_ _ | refine blk_drew ?_ | refine blk_alloc ?_ _)); exact BK1002.out)) : gb1003 ≠ gb1002)); clear HO0_6; clear BK1002; clear HB; have HO0_6 := n0_; have BK1002 := n1_; have HB := n2_; have BK1003 := n3_; have GW1003 := n4_; have GE1003 := n5_; have NB1002_1003 := n6_; have NB1003_1002 := n7_; clear n0_ n1_ n2_ n3_ n4_ n5_ n6_ n7_; clear hb hbox hg))
 go_loopg [10] k (fun kq v10 w' => ∃ (x10_1 : Int) (x1003000_1 : Int) (x1003001_1 : Int) (x1003002_1 : Int) (x1003003_1 : Int) (x1003004_1 : Int) (x1003005_1 : Int) (x1003006_1 : List (S26)) (x1004000_1 : Int) (x1004001_1 : Int) (x1004002_1 : Int) (x1004003_1 : Int) (x1004004_1 : Int) (x1004005_1 : Int) (u1003006 : Value), v10 = .int .i64 x10_1 ∧ Aside0 (cell_At.l0 kq l1 (l1.length : Int) x10_1 x1003000_1 x1003001_1 x1003002_1 x1003003_1 x1003004_1 x1003005_1 x1003006_1 = some (r1, r2, r3, r4, r5, r6, r7, r8)) ∧ Aside0 (kq ≤ k) ∧ Aside0 (Kd.V k26 26 w' w.heap.size (fun k_ => (P0_6_ k_ ∨ w.heap.size ≤ k_) ∧ k_ ≠ gb1002 ∧ k_ ≠ gb1003) u1003006 x1003006_1) ∧ Aside0 (w'.heap[gb1002]? = some (.cells #[.int .u8 x1003000_1, .int .i64 x1003001_1, .int .i64 x1003002_1, .int .i64 x1003003_1, .int .i64 x1003004_1, .int .i64 x1003005_1, u1003006] 26 (0, 0))) ∧ Aside0 (w'.heap[gb1003]? = some (.cells #[.int .u8 x1004000_1, .int .i64 x1004001_1, .int .i64 x1004002_1, .int .i64 x1004003_1, .int .i64 x1004004_1, .int .i64 x1004005_1, (.slice none 0 0)] 26 (0, 0))) ∧ Aside0 (Below w.heap.size w w'))
 case atStart => exact ⟨(0), (a0_0), (a0_1), (a0_2), (a0_3), (a0_4), (a0_5), (l0_6), (0), (0), (0), (0), (0), (0), (.slice A0_6 l0_6.length c0_6), (by first | rfl | (simp; done) | (simp [*]; done)), H', ⟨Nat.le_refl _⟩, ⟨by (with_reducible repeat (first | apply Kd.V_alloc | apply Kd.V_drewN | apply Kd.V_drew)); exact Kd.V_mono HO0_6.out (fun _ hk => ⟨hk.1.1, ⟨hk.1.2, hk.2⟩⟩)⟩, ⟨by (with_reducible repeat (first | refine blk_drewN ?_ _ | refine blk_drew ?_ | refine blk_alloc ?_ _)); exact BK1002.out⟩, ⟨by (with_reducible repeat (first | refine blk_drewN ?_ _ | refine blk_drew ?_ | refine blk_alloc ?_ _)); exact BK1003.out⟩, ⟨by repeat (first | (with_reducible first | exact HB.out | apply below_alloc | apply pw_below_drewN | apply below_drew1 | refine below_set ?_ GE1002.out | refine below_set ?_ GE1003.out) | exact HB.out)⟩⟩
 case round =>
  clear H'
  try clear c1
  try clear p2
  obtain ⟨x10_1, x1003000_1, x1003001_1, x1003002_1, x1003003_1, x1003004_1, x1003005_1, x1003006_1, x1004000_1, x1004001_1, x1004002_1, x1004003_1, x1004004_1, x1004005_1, u1003006, rfl, HA, HK1, HO_1003006, BK1002, BK1003, HB⟩ := hrel
  cases gk with
  | zero => exact absurd HA.out (by simp [cell_At.l0])
  | succ k1 =>
   have H := HA.out
   clear HA
   simp only [cell_At.l0] at H
   by_cases c5 : x10_1 < (l1.length : Int)
   ·rw [if_pos c5] at H
    have c5b0 : decide (x10_1 < (l1.length : Int)) = true := decide_eq_true c5
    clear c5
    by_cases c6 : 0 ≤ x10_1
    ·rw [if_pos c6] at H
     have c6b0 : decide (0 ≤ x10_1) = true := decide_eq_true c6
     clear c6
     by_cases c7 : x10_1 < (l1.length : Int)
     ·rw [if_pos c7] at H
      have c7b0 : decide (x10_1 < (l1.length : Int)) = true := decide_eq_true c7
      clear c7
      by_cases c8 : (rd l1 x10_1) < 0
      ·rw [if_pos c8] at H
       have c8b0 : decide ((rd l1 x10_1) < 0) = true := decide_eq_true c8
       clear c8
       simp only [Option.some.injEq, Prod.mk.injEq] at H
       obtain ⟨rfl, rfl, rfl, rfl, rfl, rfl, rfl, rfl⟩ := H
       have p1004 : 0 ≤ (x10_1 : Int) := of_decide_eq_true (by first | (with_reducible assumption) | assumption)
       have q1004 : x10_1 < (l1.length : Int) := of_decide_eq_true (by first | (with_reducible assumption) | assumption)
       obtain ⟨ad1004, e1004, hx1004_0⟩ := Kd.at_int HR1.out x10_1 p1004 q1004
       cases e1004
       replace hx1004_0 := (HB.out.cell (World.block_lt_of_cell? w _ hx1004_0)).trans hx1004_0
       replace p1004 := eq_true p1004
       replace q1004 := eq_true q1004
       have hnb9 := NB1003_1002.out
       have hnc9 := NB1002_1003.out
       have hcz10_0 : wr.cell? ⟨gb1003, 0, none⟩ = some (.int .u8 x1004000_1) := (blk_cell BK1003.out 0).trans rfl
       have hcz10_1 : wr.cell? ⟨gb1003, 1, none⟩ = some (.int .i64 x1004001_1) := (blk_cell BK1003.out 1).trans rfl
       have hcz10_2 : wr.cell? ⟨gb1003, 2, none⟩ = some (.int .i64 x1004002_1) := (blk_cell BK1003.out 2).trans rfl
       have hcz10_3 : wr.cell? ⟨gb1003, 3, none⟩ = some (.int .i64 x1004003_1) := (blk_cell BK1003.out 3).trans rfl
       have hcz10_4 : wr.cell? ⟨gb1003, 4, none⟩ = some (.int .i64 x1004004_1) := (blk_cell BK1003.out 4).trans rfl
       have hcz10_5 : wr.cell? ⟨gb1003, 5, none⟩ = some (.int .i64 x1004005_1) := (blk_cell BK1003.out 5).trans rfl
       have hcz10_6 : wr.cell? ⟨gb1003, 6, none⟩ = some (.slice none 0 0) := (blk_cell BK1003.out 6).trans rfl
       have hfz10_0 := blk_frozen BK1003.out 0
       have hfz10_1 := blk_frozen BK1003.out 1
       have hfz10_2 := blk_frozen BK1003.out 2
       have hfz10_3 := blk_frozen BK1003.out 3
       have hfz10_4 := blk_frozen BK1003.out 4
       have hfz10_5 := blk_frozen BK1003.out 5
       have hfz10_6 := blk_frozen BK1003.out 6
       go_wp2
       refine bodyPost_ret (results_ct rfl _ _ gb1003 26 #[.int .u8 0, .int .i64 0, .int .i64 0, .int .i64 0, .int .i64 0, .int .i64 0, .slice none 0 0] (0, 0) _ rfl (by (with_reducible repeat (first | refine blk_drewN ?_ _ | refine blk_drew ?_ | refine blk_alloc ?_ _)); refine blk_put (cs := #[.int .u8 0, .int .i64 0, .int .i64 0, .int .i64 0, .int .i64 0, .int .i64 0, .slice none 0 0]) ?_ 6 _ rfl; (with_reducible repeat (first | refine blk_drewN ?_ _ | refine blk_drew ?_ | refine blk_alloc ?_ _)); refine blk_put (cs := #[.int .u8 0, .int .i64 0, .int .i64 0, .int .i64 0, .int .i64 0, .int .i64 x1004005_1, .slice none 0 0]) ?_ 5 _ rfl; (with_reducible repeat (first | refine blk_drewN ?_ _ | refine blk_drew ?_ | refine blk_alloc ?_ _)); refine blk_put (cs := #[.int .u8 0, .int .i64 0, .int .i64 0, .int .i64 0, .int .i64 x1004004_1, .int .i64 x1004005_1, .slice none 0 0]) ?_ 4 _ rfl; (with_reducible repeat (first | refine blk_drewN ?_ _ | refine blk_drew ?_ | refine blk_alloc ?_ _)); refine blk_put (cs := #[.int .u8 0, .int .i64 0, .int .i64 0, .int .i64 x1004003_1, .int .i64 x1004004_1, .int .i64 x1004005_1, .slice none 0 0]) ?_ 3 _ rfl; (with_reducible repeat (first | refine blk_drewN ?_ _ | refine blk_drew ?_ | refine blk_alloc ?_ _)); refine blk_put (cs := #[.int .u8 0, .int .i64 0, .int .i64 x1004002_1, .int .i64 x1004003_1, .int .i64 x1004004_1, .int .i64 x1004005_1, .slice none 0 0]) ?_ 2 _ rfl; (with_reducible repeat (first | refine blk_drewN ?_ _ | refine blk_drew ?_ | refine blk_alloc ?_ _)); refine blk_put (cs := #[.int .u8 0, .int .i64 x1004001_1, .int .i64 x1004002_1, .int .i64 x1004003_1, .int .i64 x1004004_1, .int .i64 x1004005_1, .slice none 0 0]) ?_ 1 _ rfl; (with_reducible repeat (first | refine blk_drewN ?_ _ | refine blk_drew ?_ | refine blk_alloc ?_ _)); refine blk_put (cs := #[.int .u8 x1004000_1, .int .i64 x1004001_1, .int .i64 x1004002_1, .int .i64 x1004003_1, .int .i64 x1004004_1, .int .i64 x1004005_1, .slice none 0 0]) ?_ 0 _ rfl; (with_reducible repeat (first | refine blk_drewN ?_ _ | refine blk_drew ?_ | refine blk_alloc ?_ _)); exact BK1003.out) Try.underlying26 rfl (by kernel_rfl)) rfl ?_
       exact ⟨_, by first | rfl | (simp [errW_none, errW_some] <;> rfl) | (simp [*, errW_none, errW_some] <;> rfl), by first | exact Kd.R_nil _ _ _ _ _ | exact Kd.N_nil _ _ _ _ _ | exact Kd.V_nil _ _ _ _ _ | exact Kd.Q_nil _ _ _ _ _ | exact Kd.S_nil _ _ _ _ _, by repeat (first | (with_reducible first | exact HB.out | apply below_alloc | apply pw_below_drewN | apply below_drew1 | refine below_set ?_ GE1002.out | refine below_set ?_ GE1003.out) | exact HB.out)⟩
      ·rw [if_neg c8] at H
       have c8b0 : decide ((rd l1 x10_1) < 0) = false := decide_eq_false c8
       clear c8
       by_cases c11 : (rd l1 x10_1) ≥ (x1003006_1.length : Int)
       ·rw [if_pos c11] at H
        have c11b0 : decide ((x1003006_1.length : Int) ≤ (rd l1 x10_1)) = true := decide_eq_true c11
        clear c11
        simp only [Option.some.injEq, Prod.mk.injEq] at H
        obtain ⟨rfl, rfl, rfl, rfl, rfl, rfl, rfl, rfl⟩ := H
        have p1004 : 0 ≤ (x10_1 : Int) := of_decide_eq_true (by first | (with_reducible assumption) | assumption)
        have q1004 : x10_1 < (l1.length : Int) := of_decide_eq_true (by first | (with_reducible assumption) | assumption)
        obtain ⟨ad1004, e1004, hx1004_0⟩ := Kd.at_int HR1.out x10_1 p1004 q1004
        cases e1004
        replace hx1004_0 := (HB.out.cell (World.block_lt_of_cell? w _ hx1004_0)).trans hx1004_0
        replace p1004 := eq_true p1004
        replace q1004 := eq_true q1004
        have hnb12 := NB1002_1003.out
        have hnc12 := NB1003_1002.out
        have hcz13_0 : wr.cell? ⟨gb1002, 0, none⟩ = some (.int .u8 x1003000_1) := (blk_cell BK1002.out 0).trans rfl
        have hcz13_1 : wr.cell? ⟨gb1002, 1, none⟩ = some (.int .i64 x1003001_1) := (blk_cell BK1002.out 1).trans rfl
        have hcz13_2 : wr.cell? ⟨gb1002, 2, none⟩ = some (.int .i64 x1003002_1) := (blk_cell BK1002.out 2).trans rfl
        have hcz13_3 : wr.cell? ⟨gb1002, 3, none⟩ = some (.int .i64 x1003003_1) := (blk_cell BK1002.out 3).trans rfl
        have hcz13_4 : wr.cell? ⟨gb1002, 4, none⟩ = some (.int .i64 x1003004_1) := (blk_cell BK1002.out 4).trans rfl
        have hcz13_5 : wr.cell? ⟨gb1002, 5, none⟩ = some (.int .i64 x1003005_1) := (blk_cell BK1002.out 5).trans rfl
        have hcz13_6 : wr.cell? ⟨gb1002, 6, none⟩ = some (u1003006) := (blk_cell BK1002.out 6).trans rfl
        have hfz13_0 := blk_frozen BK1002.out 0
        have hfz13_1 := blk_frozen BK1002.out 1
        have hfz13_2 := blk_frozen BK1002.out 2
        have hfz13_3 := blk_frozen BK1002.out 3
        have hfz13_4 := blk_frozen BK1002.out 4
        have hfz13_5 := blk_frozen BK1002.out 5
        have hfz13_6 := blk_frozen BK1002.out 6
        obtain ⟨Ao14, co14, eo14⟩ := Kd.V_slice HO_1003006.out
        subst eo14
        have hcz15_0 : wr.cell? ⟨gb1003, 0, none⟩ = some (.int .u8 x1004000_1) := (blk_cell BK1003.out 0).trans rfl
        have hcz15_1 : wr.cell? ⟨gb1003, 1, none⟩ = some (.int .i64 x1004001_1) := (blk_cell BK1003.out 1).trans rfl
        have hcz15_2 : wr.cell? ⟨gb1003, 2, none⟩ = some (.int .i64 x1004002_1) := (blk_cell BK1003.out 2).trans rfl
        have hcz15_3 : wr.cell? ⟨gb1003, 3, none⟩ = some (.int .i64 x1004003_1) := (blk_cell BK1003.out 3).trans rfl
        have hcz15_4 : wr.cell? ⟨gb1003, 4, none⟩ = some (.int .i64 x1004004_1) := (blk_cell BK1003.out 4).trans rfl
        have hcz15_5 : wr.cell? ⟨gb1003, 5, none⟩ = some (.int .i64 x1004005_1) := (blk_cell BK1003.out 5).trans rfl
        have hcz15_6 : wr.cell? ⟨gb1003, 6, none⟩ = some (.slice none 0 0) := (blk_cell BK1003.out 6).trans rfl
        have hfz15_0 := blk_frozen BK1003.out 0
        have hfz15_1 := blk_frozen BK1003.out 1
        have hfz15_2 := blk_frozen BK1003.out 2
        have hfz15_3 := blk_frozen BK1003.out 3
        have hfz15_4 := blk_frozen BK1003.out 4
        have hfz15_5 := blk_frozen BK1003.out 5
        have hfz15_6 := blk_frozen BK1003.out 6
        go_wp2
        refine bodyPost_ret (results_ct rfl _ _ gb1003 26 #[.int .u8 0, .int .i64 0, .int .i64 0, .int .i64 0, .int .i64 0, .int .i64 0, .slice none 0 0] (0, 0) _ rfl (by (with_reducible repeat (first | refine blk_drewN ?_ _ | refine blk_drew ?_ | refine blk_alloc ?_ _)); refine blk_put (cs := #[.int .u8 0, .int .i64 0, .int .i64 0, .int .i64 0, .int .i64 0, .int .i64 0, .slice none 0 0]) ?_ 6 _ rfl; (with_reducible repeat (first | refine blk_drewN ?_ _ | refine blk_drew ?_ | refine blk_alloc ?_ _)); refine blk_put (cs := #[.int .u8 0, .int .i64 0, .int .i64 0, .int .i64 0, .int .i64 0, .int .i64 x1004005_1, .slice none 0 0]) ?_ 5 _ rfl; (with_reducible repeat (first | refine blk_drewN ?_ _ | refine blk_drew ?_ | refine blk_alloc ?_ _)); refine blk_put (cs := #[.int .u8 0, .int .i64 0, .int .i64 0, .int .i64 0, .int .i64 x1004004_1, .int .i64 x1004005_1, .slice none 0 0]) ?_ 4 _ rfl; (with_reducible repeat (first | refine blk_drewN ?_ _ | refine blk_drew ?_ | refine blk_alloc ?_ _)); refine blk_put (cs := #[.int .u8 0, .int .i64 0, .int .i64 0, .int .i64 x1004003_1, .int .i64 x1004004_1, .int .i64 x1004005_1, .slice none 0 0]) ?_ 3 _ rfl; (with_reducible repeat (first | refine blk_drewN ?_ _ | refine blk_drew ?_ | refine blk_alloc ?_ _)); refine blk_put (cs := #[.int .u8 0, .int .i64 0, .int .i64 x1004002_1, .int .i64 x1004003_1, .int .i64 x1004004_1, .int .i64 x1004005_1, .slice none 0 0]) ?_ 2 _ rfl; (with_reducible repeat (first | refine blk_drewN ?_ _ | refine blk_drew ?_ | refine blk_alloc ?_ _)); refine blk_put (cs := #[.int .u8 0, .int .i64 x1004001_1, .int .i64 x1004002_1, .int .i64 x1004003_1, .int .i64 x1004004_1, .int .i64 x1004005_1, .slice none 0 0]) ?_ 1 _ rfl; (with_reducible repeat (first | refine blk_drewN ?_ _ | refine blk_drew ?_ | refine blk_alloc ?_ _)); refine blk_put (cs := #[.int .u8 x1004000_1, .int .i64 x1004001_1, .int .i64 x1004002_1, .int .i64 x1004003_1, .int .i64 x1004004_1, .int .i64 x1004005_1, .slice none 0 0]) ?_ 0 _ rfl; (with_reducible repeat (first | refine blk_drewN ?_ _ | refine blk_drew ?_ | refine blk_alloc ?_ _)); exact BK1003.out) Try.underlying26 rfl (by kernel_rfl)) rfl ?_
        exact ⟨_, by first | rfl | (simp [errW_none, errW_some] <;> rfl) | (simp [*, errW_none, errW_some] <;> rfl), by first | exact Kd.R_nil _ _ _ _ _ | exact Kd.N_nil _ _ _ _ _ | exact Kd.V_nil _ _ _ _ _ | exact Kd.Q_nil _ _ _ _ _ | exact Kd.S_nil _ _ _ _ _, by repeat (first | (with_reducible first | exact HB.out | apply below_alloc | apply pw_below_drewN | apply below_drew1 | refine below_set ?_ GE1002.out | refine below_set ?_ GE1003.out) | exact HB.out)⟩
       ·rw [if_neg c11] at H
        have c11b0 : decide ((x1003006_1.length : Int) ≤ (rd l1 x10_1)) = false := decide_eq_false c11
        clear c11
        by_cases c16 : 0 ≤ (rd l1 x10_1)
        ·rw [if_pos c16] at H
         have c16b0 : decide (0 ≤ (rd l1 x10_1)) = true := decide_eq_true c16
         clear c16
         by_cases c17 : (rd l1 x10_1) < (x1003006_1.length : Int)
         ·rw [if_pos c17] at H
          have c17b0 : decide ((rd l1 x10_1) < (x1003006_1.length : Int)) = true := decide_eq_true c17
          clear c17
          have H' := Aside0.mk H
          clear H
          have p1004 : 0 ≤ (x10_1 : Int) := of_decide_eq_true (by first | (with_reducible assumption) | assumption)
          have q1004 : x10_1 < (l1.length : Int) := of_decide_eq_true (by first | (with_reducible assumption) | assumption)
          obtain ⟨ad1004, e1004, hx1004_0⟩ := Kd.at_int HR1.out x10_1 p1004 q1004
          cases e1004
          replace hx1004_0 := (HB.out.cell (World.block_lt_of_cell? w _ hx1004_0)).trans hx1004_0
          replace p1004 := eq_true p1004
          replace q1004 := eq_true q1004
          have hnb18 := NB1002_1003.out
          have hnc18 := NB1003_1002.out
          have hcz19_0 : wr.cell? ⟨gb1002, 0, none⟩ = some (.int .u8 x1003000_1) := (blk_cell BK1002.out 0).trans rfl
          have hcz19_1 : wr.cell? ⟨gb1002, 1, none⟩ = some (.int .i64 x1003001_1) := (blk_cell BK1002.out 1).trans rfl
          have hcz19_2 : wr.cell? ⟨gb1002, 2, none⟩ = some (.int .i64 x1003002_1) := (blk_cell BK1002.out 2).trans rfl
          have hcz19_3 : wr.cell? ⟨gb1002, 3, none⟩ = some (.int .i64 x1003003_1) := (blk_cell BK1002.out 3).trans rfl
          have hcz19_4 : wr.cell? ⟨gb1002, 4, none⟩ = some (.int .i64 x1003004_1) := (blk_cell BK1002.out 4).trans rfl
          have hcz19_5 : wr.cell? ⟨gb1002, 5, none⟩ = some (.int .i64 x1003005_1) := (blk_cell BK1002.out 5).trans rfl
          have hcz19_6 : wr.cell? ⟨gb1002, 6, none⟩ = some (u1003006) := (blk_cell BK1002.out 6).trans rfl
          have hfz19_0 := blk_frozen BK1002.out 0
          have hfz19_1 := blk_frozen BK1002.out 1
          have hfz19_2 := blk_frozen BK1002.out 2
          have hfz19_3 := blk_frozen BK1002.out 3
          have hfz19_4 := blk_frozen BK1002.out 4
          have hfz19_5 := blk_frozen BK1002.out 5
          have hfz19_6 := blk_frozen BK1002.out 6
          obtain ⟨Ao20, co20, eo20⟩ := Kd.V_slice HO_1003006.out
          subst eo20
          have p1005 : 0 ≤ ((rd l1 x10_1) : Int) := of_decide_eq_true (by first | (with_reducible assumption) | assumption)
          have q1005 : (rd l1 x10_1) < (x1003006_1.length : Int) := of_decide_eq_true (by first | (with_reducible assumption) | assumption)
          obtain ⟨ad1005, A1005_6, c1005_6, e1005, hx1005_0, hx1005_1, hx1005_2, hx1005_3, hx1005_4, hx1005_5, hx1005_6, hl1005_6, hi1005_6⟩ := at_T26 (Kd.V_reads' HO_1003006.out).2.2 (rd l1 x10_1) p1005 q1005
          cases e1005
          obtain ⟨ce1005, hce1005, hMe1005, hcc1005⟩ := Kd.V_get HO_1003006.out z26 (rd l1 x10_1) p1005 (by first | exact q1005 | exact of_decide_eq_true (by first | (with_reducible assumption) | assumption) | (have e_ := (Kd.V_reads' HO_1003006.out).1; omega))
          obtain ⟨ua1005_6, uc1005_6, rfl, ul1005_6, ge1005_6⟩ := k26_openF hMe1005
          have hv1005_6 := hcc1005 6 _ rfl
          rw [add_field _ _ 6 (by omega)] at hv1005_6
          replace hv1005_6 := Option.some.inj (hv1005_6.symm.trans hx1005_6)
          injection hv1005_6 with hva_ hvn_ hvc_
          rw [hva_] at ge1005_6
          rw [hvc_] at ul1005_6
          have HL1005_6 := Aside0.mk (show Kd.V k26 26 _ w.heap.size _ _ ((rd_T26 x1003006_1 (rd l1 x10_1)).f3) from Kd.V_mk ul1005_6 ge1005_6)
          clear hva_ hvn_ hvc_ ge1005_6 ul1005_6
          clear hcc1005 hce1005
          have HR1005_6 := Aside0.mk hi1005_6
          have HC1005_6 := Aside0.mk hl1005_6
          clear hi1005_6 hl1005_6
          replace p1005 := eq_true p1005
          replace q1005 := eq_true q1005
          go_wp2
          go_roundg k1
          case measure => have := HK1.out; omega
          case rel => exact ⟨(wrap64 (x10_1 + 1)), ((rd_T26 x1003006_1 (rd l1 x10_1)).f0), ((rd_T26 x1003006_1 (rd l1 x10_1)).f1.f0), ((rd_T26 x1003006_1 (rd l1 x10_1)).f1.f1), ((rd_T26 x1003006_1 (rd l1 x10_1)).f1.f2), ((rd_T26 x1003006_1 (rd l1 x10_1)).f1.f3), ((rd_T26 x1003006_1 (rd l1 x10_1)).f2), ((rd_T26 x1003006_1 (rd l1 x10_1)).f3), (x1004000_1), (x1004001_1), (x1004002_1), (x1004003_1), (x1004004_1), (x1004005_1), (.slice A1005_6 ((rd_T26 x1003006_1 (rd l1 x10_1)).f3).length c1005_6), (by first | rfl | (simp; done) | (simp [*]; done)), H', ⟨by have := HK1.out; omega⟩, ⟨by (with_reducible repeat (first | apply Kd.V_alloc | apply Kd.V_drewN | apply Kd.V_drew)); exact Kd.V_mono (Kd.V_far (p := ⟨gb1002, 6, none⟩) (Kd.V_far (p := ⟨gb1002, 5, none⟩) (Kd.V_far (p := ⟨gb1002, 4, none⟩) (Kd.V_far (p := ⟨gb1002, 3, none⟩) (Kd.V_far (p := ⟨gb1002, 2, none⟩) (Kd.V_far (p := ⟨gb1002, 1, none⟩) (Kd.V_far (p := ⟨gb1002, 0, none⟩) (Kd.V_mono HL1005_6.out (fun k_ hk => (⟨hk, hk.2.1⟩ : _ ∧ k_ ≠ gb1002))) (fun _ hk => hk.2) (.int .u8 ((rd_T26 x1003006_1 (rd l1 x10_1)).f0))) (fun _ hk => hk.2) (.int .i64 ((rd_T26 x1003006_1 (rd l1 x10_1)).f1.f0))) (fun _ hk => hk.2) (.int .i64 ((rd_T26 x1003006_1 (rd l1 x10_1)).f1.f1))) (fun _ hk => hk.2) (.int .i64 ((rd_T26 x1003006_1 (rd l1 x10_1)).f1.f2))) (fun _ hk => hk.2) (.int .i64 ((rd_T26 x1003006_1 (rd l1 x10_1)).f1.f3))) (fun _ hk => hk.2) (.int .i64 ((rd_T26 x1003006_1 (rd l1 x10_1)).f2))) (fun _ hk => hk.2) (.slice A1005_6 ((rd_T26 x1003006_1 (rd l1 x10_1)).f3).length c1005_6)) (fun _ hk => ⟨hk.1.1, ⟨hk.1.2.1, hk.1.2.2⟩⟩)⟩, ⟨by (with_reducible repeat (first | refine blk_drewN ?_ _ | refine blk_drew ?_ | refine blk_alloc ?_ _)); refine blk_put (cs := #[.int .u8 ((rd_T26 x1003006_1 (rd l1 x10_1)).f0), .int .i64 ((rd_T26 x1003006_1 (rd l1 x10_1)).f1.f0), .int .i64 ((rd_T26 x1003006_1 (rd l1 x10_1)).f1.f1), .int .i64 ((rd_T26 x1003006_1 (rd l1 x10_1)).f1.f2), .int .i64 ((rd_T26 x1003006_1 (rd l1 x10_1)).f1.f3), .int .i64 ((rd_T26 x1003006_1 (rd l1 x10_1)).f2), .slice (some ad1005) x1003006_1.length co20]) ?_ 6 _ rfl; (with_reducible repeat (first | refine blk_drewN ?_ _ | refine blk_drew ?_ | refine blk_alloc ?_ _)); refine blk_put (cs := #[.int .u8 ((rd_T26 x1003006_1 (rd l1 x10_1)).f0), .int .i64 ((rd_T26 x1003006_1 (rd l1 x10_1)).f1.f0), .int .i64 ((rd_T26 x1003006_1 (rd l1 x10_1)).f1.f1), .int .i64 ((rd_T26 x1003006_1 (rd l1 x10_1)).f1.f2), .int .i64 ((rd_T26 x1003006_1 (rd l1 x10_1)).f1.f3), .int .i64 x1003005_1, .slice (some ad1005) x1003006_1.length co20]) ?_ 5 _ rfl; (with_reducible repeat (first | refine blk_drewN ?_ _ | refine blk_drew ?_ | refine blk_alloc ?_ _)); refine blk_put (cs := #[.int .u8 ((rd_T26 x1003006_1 (rd l1 x10_1)).f0), .int .i64 ((rd_T26 x1003006_1 (rd l1 x10_1)).f1.f0), .int .i64 ((rd_T26 x1003006_1 (rd l1 x10_1)).f1.f1), .int .i64 ((rd_T26 x1003006_1 (rd l1 x10_1)).f1.f2), .int .i64 x1003004_1, .int .i64 x1003005_1, .slice (some ad1005) x1003006_1.length co20]) ?_ 4 _ rfl; (with_reducible repeat (first | refine blk_drewN ?_ _ | refine blk_drew ?_ | refine blk_alloc ?_ _)); refine blk_put (cs := #[.int .u8 ((rd_T26 x1003006_1 (rd l1 x10_1)).f0), .int .i64 ((rd_T26 x1003006_1 (rd l1 x10_1)).f1.f0), .int .i64 ((rd_T26 x1003006_1 (rd l1 x10_1)).f1.f1), .int .i64 x1003003_1, .int .i64 x1003004_1, .int .i64 x1003005_1, .slice (some ad1005) x1003006_1.length co20]) ?_ 3 _ rfl; (with_reducible repeat (first | refine blk_drewN ?_ _ | refine blk_drew ?_ | refine blk_alloc ?_ _)); refine blk_put (cs := #[.int .u8 ((rd_T26 x1003006_1 (rd l1 x10_1)).f0), .int .i64 ((rd_T26 x1003006_1 (rd l1 x10_1)).f1.f0), .int .i64 x1003002_1, .int .i64 x1003003_1, .int .i64 x1003004_1, .int .i64 x1003005_1, .slice (some ad1005) x1003006_1.length co20]) ?_ 2 _ rfl; (with_reducible repeat (first | refine blk_drewN ?_ _ | refine blk_drew ?_ | refine blk_alloc ?_ _)); refine blk_put (cs := #[.int .u8 ((rd_T26 x1003006_1 (rd l1 x10_1)).f0), .int .i64 x1003001_1, .int .i64 x1003002_1, .int .i64 x1003003_1, .int .i64 x1003004_1, .int .i64 x1003005_1, .slice (some ad1005) x1003006_1.length co20]) ?_ 1 _ rfl; (with_reducible repeat (first | refine blk_drewN ?_ _ | refine blk_drew ?_ | refine blk_alloc ?_ _)); refine blk_put (cs := #[.int .u8 x1003000_1, .int .i64 x1003001_1, .int .i64 x1003002_1, .int .i64 x1003003_1, .int .i64 x1003004_1, .int .i64 x1003005_1, .slice (some ad1005) x1003006_1.length co20]) ?_ 0 _ rfl; (with_reducible repeat (first | refine blk_drewN ?_ _ | refine blk_drew ?_ | refine blk_alloc ?_ _)); exact BK1002.out⟩, ⟨by (with_reducible repeat (first | refine blk_drewN ?_ _ | refine blk_drew ?_ | refine blk_alloc ?_ _)); refine blk_far ?_ NB1003_1002.out _; (with_reducible repeat (first | refine blk_drewN ?_ _ | refine blk_drew ?_ | refine blk_alloc ?_ _)); refine blk_far ?_ NB1003_1002.out _; (with_reducible repeat (first | refine blk_drewN ?_ _ | refine blk_drew ?_ | refine blk_alloc ?_ _)); refine blk_far ?_ NB1003_1002.out _; (with_reducible repeat (first | refine blk_drewN ?_ _ | refine blk_drew ?_ | refine blk_alloc ?_ _)); refine blk_far ?_ NB1003_1002.out _; (with_reducible repeat (first | refine blk_drewN ?_ _ | refine blk_drew ?_ | refine blk_alloc ?_ _)); refine blk_far ?_ NB1003_1002.out _; (with_reducible repeat (first | refine blk_drewN ?_ _ | refine blk_drew ?_ | refine blk_alloc ?_ _)); refine blk_far ?_ NB1003_1002.out _; (with_reducible repeat (first | refine blk_drewN ?_ _ | refine blk_drew ?_ | refine blk_alloc ?_ _)); refine blk_far ?_ NB1003_1002.out _; (with_reducible repeat (first | refine blk_drewN ?_ _ | refine blk_drew ?_ | refine blk_alloc ?_ _)); exact BK1003.out⟩, ⟨by repeat (first | (with_reducible first | exact HB.out | apply below_alloc | apply pw_below_drewN | apply below_drew1 | refine below_set ?_ GE1002.out | refine below_set ?_ GE1003.out) | exact HB.out)⟩⟩
         ·rw [if_neg c17] at H
          exact absurd H (by simp)
        ·rw [if_neg c16] at H
         exact absurd H (by simp)
     ·rw [if_neg c7] at H
      exact absurd H (by simp)
    ·rw [if_neg c6] at H
     exact absurd H (by simp)
   ·rw [if_neg c5] at H
    have c5b0 : decide (x10_1 < (l1.length : Int)) = false := decide_eq_false c5
    clear c5
    replace H := Option.bind_eq_some_iff.mp H
    obtain ⟨⟨t1006, t1007, t1008, t1009, t1010, t1011, t1012⟩, A210, H⟩ := H
    replace H : (some (t1006, t1007, t1008, t1009, t1010, t1011, t1012, true)) = some (r1, r2, r3, r4, r5, r6, r7, r8) := H
    have A21 := Aside0.mk A210
    clear A210
    simp only [Option.some.injEq, Prod.mk.injEq] at H
    obtain ⟨rfl, rfl, rfl, rfl, rfl, rfl, rfl, rfl⟩ := H
    have hnb22 := NB1002_1003.out
    have hnc22 := NB1003_1002.out
    have hcz23_0 : wr.cell? ⟨gb1002, 0, none⟩ = some (.int .u8 x1003000_1) := (blk_cell BK1002.out 0).trans rfl
    have hcz23_1 : wr.cell? ⟨gb1002, 1, none⟩ = some (.int .i64 x1003001_1) := (blk_cell BK1002.out 1).trans rfl
    have hcz23_2 : wr.cell? ⟨gb1002, 2, none⟩ = some (.int .i64 x1003002_1) := (blk_cell BK1002.out 2).trans rfl
    have hcz23_3 : wr.cell? ⟨gb1002, 3, none⟩ = some (.int .i64 x1003003_1) := (blk_cell BK1002.out 3).trans rfl
    have hcz23_4 : wr.cell? ⟨gb1002, 4, none⟩ = some (.int .i64 x1003004_1) := (blk_cell BK1002.out 4).trans rfl
    have hcz23_5 : wr.cell? ⟨gb1002, 5, none⟩ = some (.int .i64 x1003005_1) := (blk_cell BK1002.out 5).trans rfl
    have hcz23_6 : wr.cell? ⟨gb1002, 6, none⟩ = some (u1003006) := (blk_cell BK1002.out 6).trans rfl
    have hfz23_0 := blk_frozen BK1002.out 0
    have hfz23_1 := blk_frozen BK1002.out 1
    have hfz23_2 := blk_frozen BK1002.out 2
    have hfz23_3 := blk_frozen BK1002.out 3
    have hfz23_4 := blk_frozen BK1002.out 4
    have hfz23_5 := blk_frozen BK1002.out 5
    have hfz23_6 := blk_frozen BK1002.out 6
    obtain ⟨Ao24, co24, eo24⟩ := Kd.V_slice HO_1003006.out
    subst eo24
    go_wp2_with (first | ((with_reducible refine gate_callee (f := 151) rfl ?_); refine goesL_ (some 31) rfl rfl Try.func151 (by kernel_rfl) rfl #[.agg #[.int .u8 x1003000_1, .int .i64 x1003001_1, .int .i64 x1003002_1, .int .i64 x1003003_1, .int .i64 x1003004_1, .int .i64 x1003005_1, .slice Ao24 x1003006_1.length co24]] rfl (by (try simp only [List.map_toArray, List.map_cons, List.map_nil]); first | done | rfl | (simp only [List.length_drop, List.length_take]; rfl)) ?_; (with_reducible refine (cell_clone.calls x1003000_1 x1003001_1 x1003002_1 x1003003_1 x1003004_1 x1003005_1 (fun k_ => ((P0_6_ k_ ∨ w.heap.size ≤ k_) ∧ (k_ ≠ gb1002 ∧ k_ ≠ gb1003))) _ _ x1003006_1 t1006 t1007 t1008 t1009 t1010 t1011 t1012 _ ?side1 A21.out).mono ?_); (case side1 => exact HO_1003006.out); rintro e w25 ⟨v1013, rfl, ho0, hb⟩; refine ⟨_, rfl, ?_⟩; have n0_ := Aside0.mk (Kd.V_elder' (by (with_reducible repeat (first | apply Kd.V_alloc | apply Kd.V_drewN | apply Kd.V_drew)); exact HO_1003006.out) (Kd.N_base ho0) hb); have n1_ := Aside0.mk (Kd.N_lower (Kd.N_mono (ok' := fun k_ => (P0_6_ k_ ∨ w.heap.size ≤ k_) ∧ k_ ≠ gb1002 ∧ k_ ≠ gb1003) ho0 (fun k_ hk_ => ⟨Or.elim hk_ (fun hs_ => hs_.1) (fun hn_ => (.inr (Nat.le_trans (below_size (by repeat (first | (with_reducible first | exact HB.out | apply below_alloc | apply pw_below_drewN | apply below_drew1 | refine below_set ?_ GE1002.out | refine below_set ?_ GE1003.out) | exact HB.out))) hn_))), Or.elim hk_ (fun hs_ => hs_.2.1) (fun hn_ => (Kd.freshB (g := gb1002) (o := .cells #[.int .u8 x1003000_1, .int .i64 x1003001_1, .int .i64 x1003002_1, .int .i64 x1003003_1, .int .i64 x1003004_1, .int .i64 x1003005_1, .slice Ao24 x1003006_1.length co24] 26 (0, 0)) (by (with_reducible repeat (first | refine blk_drewN ?_ _ | refine blk_drew ?_ | refine blk_alloc ?_ _)); exact BK1002.out) k_ hn_)), Or.elim hk_ (fun hs_ => hs_.2.2) (fun hn_ => (Kd.freshB (g := gb1003) (o := .cells #[.int .u8 x1004000_1, .int .i64 x1004001_1, .int .i64 x1004002_1, .int .i64 x1004003_1, .int .i64 x1004004_1, .int .i64 x1004005_1, .slice none 0 0] 26 (0, 0)) (by (with_reducible repeat (first | refine blk_drewN ?_ _ | refine blk_drew ?_ | refine blk_alloc ?_ _)); exact BK1003.out) k_ hn_))⟩)) (below_size (by repeat (first | (with_reducible first | exact HB.out | apply below_alloc | apply pw_below_drewN | apply below_drew1 | refine below_set ?_ GE1002.out | refine below_set ?_ GE1003.out) | exact HB.out)))); have n2_ := Aside0.mk (blk_below (g := gb1002) (o := .cells #[.int .u8 x1003000_1, .int .i64 x1003001_1, .int .i64 x1003002_1, .int .i64 x1003003_1, .int .i64 x1003004_1, .int .i64 x1003005_1, .slice Ao24 x1003006_1.length co24] 26 (0, 0)) (by (with_reducible repeat (first | refine blk_drewN ?_ _ | refine blk_drew ?_ | refine blk_alloc ?_ _)); exact BK1002.out) hb); have n3_ := Aside0.mk (blk_below (g := gb1003) (o := .cells #[.int .u8 x1004000_1, .int .i64 x1004001_1, .int .i64 x1004002_1, .int .i64 x1004003_1, .int .i64 x1004004_1, .int .i64 x1004005_1, .slice none 0 0] 26 (0, 0)) (by (with_reducible repeat (first | refine blk_drewN ?_ _ | refine blk_drew ?_ | refine blk_alloc ?_ _)); exact BK1003.out) hb); have n4_ := Aside0.mk (below_step (by repeat (first | (with_reducible first | exact HB.out | apply below_alloc | apply pw_below_drewN | apply below_drew1 | refine below_set ?_ GE1002.out | refine below_set ?_ GE1003.out) | exact HB.out)) hb); clear HO_1003006; clear BK1002; clear BK1003; clear HB; have HO_1003006 := n0_; have HO1014 := n1_; have BK1002 := n2_; have BK1003 := n3_; have HB := n4_; clear n0_ n1_ n2_ n3_ n4_; (try clear hb); (try clear hb2); (try clear hk); (try clear hi); (try clear ho0); have hcz26_0 : w25.cell? ⟨gb1003, 0, none⟩ = some (.int .u8 x1004000_1) := (blk_cell BK1003.out 0).trans rfl; have hcz26_1 : w25.cell? ⟨gb1003, 1, none⟩ = some (.int .i64 x1004001_1) := (blk_cell BK1003.out 1).trans rfl; have hcz26_2 : w25.cell? ⟨gb1003, 2, none⟩ = some (.int .i64 x1004002_1) := (blk_cell BK1003.out 2).trans rfl; have hcz26_3 : w25.cell? ⟨gb1003, 3, none⟩ = some (.int .i64 x1004003_1) := (blk_cell BK1003.out 3).trans rfl; have hcz26_4 : w25.cell? ⟨gb1003, 4, none⟩ = some (.int .i64 x1004004_1) := (blk_cell BK1003.out 4).trans rfl; have hcz26_5 : w25.cell? ⟨gb1003, 5, none⟩ = some (.int .i64 x1004005_1) := (blk_cell BK1003.out 5).trans rfl; have hcz26_6 : w25.cell? ⟨gb1003, 6, none⟩ = some (.slice none 0 0) := (blk_cell BK1003.out 6).trans rfl; have hfz26_0 := blk_frozen BK1003.out 0; have hfz26_1 := blk_frozen BK1003.out 1; have hfz26_2 := blk_frozen BK1003.out 2; have hfz26_3 := blk_frozen BK1003.out 3; have hfz26_4 := blk_frozen BK1003.out 4; have hfz26_5 := blk_frozen BK1003.out 5; have hfz26_6 := blk_frozen BK1003.out 6; obtain ⟨Ao27, co27, eo27⟩ := Kd.N_slice HO1014.out; subst eo27))
    refine bodyPost_ret (results_ct rfl _ _ gb1003 26 #[.int .u8 t1006, .int .i64 t1007, .int .i64 t1008, .int .i64 t1009, .int .i64 t1010, .int .i64 t1011, .slice Ao27 t1012.length co27] (0, 0) _ rfl (by (with_reducible repeat (first | refine blk_drewN ?_ _ | refine blk_drew ?_ | refine blk_alloc ?_ _)); refine blk_put (cs := #[.int .u8 t1006, .int .i64 t1007, .int .i64 t1008, .int .i64 t1009, .int .i64 t1010, .int .i64 t1011, .slice none 0 0]) ?_ 6 _ rfl; (with_reducible repeat (first | refine blk_drewN ?_ _ | refine blk_drew ?_ | refine blk_alloc ?_ _)); refine blk_put (cs := #[.int .u8 t1006, .int .i64 t1007, .int .i64 t1008, .int .i64 t1009, .int .i64 t1010, .int .i64 x1004005_1, .slice none 0 0]) ?_ 5 _ rfl; (with_reducible repeat (first | refine blk_drewN ?_ _ | refine blk_drew ?_ | refine blk_alloc ?_ _)); refine blk_put (cs := #[.int .u8 t1006, .int .i64 t1007, .int .i64 t1008, .int .i64 t1009, .int .i64 x1004004_1, .int .i64 x1004005_1, .slice none 0 0]) ?_ 4 _ rfl; (with_reducible repeat (first | refine blk_drewN ?_ _ | refine blk_drew ?_ | refine blk_alloc ?_ _)); refine blk_put (cs := #[.int .u8 t1006, .int .i64 t1007, .int .i64 t1008, .int .i64 x1004003_1, .int .i64 x1004004_1, .int .i64 x1004005_1, .slice none 0 0]) ?_ 3 _ rfl; (with_reducible repeat (first | refine blk_drewN ?_ _ | refine blk_drew ?_ | refine blk_alloc ?_ _)); refine blk_put (cs := #[.int .u8 t1006, .int .i64 t1007, .int .i64 x1004002_1, .int .i64 x1004003_1, .int .i64 x1004004_1, .int .i64 x1004005_1, .slice none 0 0]) ?_ 2 _ rfl; (with_reducible repeat (first | refine blk_drewN ?_ _ | refine blk_drew ?_ | refine blk_alloc ?_ _)); refine blk_put (cs := #[.int .u8 t1006, .int .i64 x1004001_1, .int .i64 x1004002_1, .int .i64 x1004003_1, .int .i64 x1004004_1, .int .i64 x1004005_1, .slice none 0 0]) ?_ 1 _ rfl; (with_reducible repeat (first | refine blk_drewN ?_ _ | refine blk_drew ?_ | refine blk_alloc ?_ _)); refine blk_put (cs := #[.int .u8 x1004000_1, .int .i64 x1004001_1, .int .i64 x1004002_1, .int .i64 x1004003_1, .int .i64 x1004004_1, .int .i64 x1004005_1, .slice none 0 0]) ?_ 0 _ rfl; (with_reducible repeat (first | refine blk_drewN ?_ _ | refine blk_drew ?_ | refine blk_alloc ?_ _)); exact BK1003.out) Try.underlying26 rfl (by kernel_rfl)) rfl ?_
    exact ⟨_, by first | rfl | (simp [errW_none, errW_some] <;> rfl) | (simp [*, errW_none, errW_some] <;> rfl), by (with_reducible repeat (first | apply Kd.N_alloc | apply Kd.N_drewN | apply Kd.N_drew)); exact Kd.N_mono (Kd.N_far (p := ⟨gb1003, 6, none⟩) (Kd.N_far (p := ⟨gb1003, 5, none⟩) (Kd.N_far (p := ⟨gb1003, 4, none⟩) (Kd.N_far (p := ⟨gb1003, 3, none⟩) (Kd.N_far (p := ⟨gb1003, 2, none⟩) (Kd.N_far (p := ⟨gb1003, 1, none⟩) (Kd.N_far (p := ⟨gb1003, 0, none⟩) (Kd.N_mono HO1014.out (fun k_ hk => (⟨hk, hk.2.2⟩ : _ ∧ k_ ≠ gb1003))) (fun _ hk => hk.2) (.int .u8 t1006)) (fun _ hk => hk.2) (.int .i64 t1007)) (fun _ hk => hk.2) (.int .i64 t1008)) (fun _ hk => hk.2) (.int .i64 t1009)) (fun _ hk => hk.2) (.int .i64 t1010)) (fun _ hk => hk.2) (.int .i64 t1011)) (fun _ hk => hk.2) (.slice Ao27 t1012.length co27)) (fun _ hk => hk.1.1), by repeat (first | (with_reducible first | exact HB.out | apply below_alloc | apply pw_below_drewN | apply below_drew1 | refine below_set ?_ GE1002.out | refine below_set ?_ GE1003.out) | exact HB.out)⟩

end Go.Proofs.Ytfdmfgaiblfbhaa.P
/- The contract of sashref05.At: the cell at a path. -/
namespace Go.Proofs.Ytfdmfgaiblfbhaa.P
open Go.RowKit Go.Proofs.YtfdmfgaiblfbhaaW.PrintWords Go.Proofs.YtfdmfgaiblfbhaaW.PrintLast Go.Proofs.YtfdmfgaiblfbhaaW.PrintMore
set_option linter.unusedVariables false
set_option linter.unusedSimpArgs false
def atC (c : S26) : List Int → Option S26
  | [] => some c
  | i :: is => if i < 0 ∨ i ≥ (c.f3.length : Int) then none else atC (rd_T26 c.f3 i) is
def AtP (w : World) (P : Nat → Prop) (r : Option S26) (e : Ending) (w' : World) : Prop := ∃ v : Value, e = .returned (.tuple #[.agg #[.int .u8 (r.getD z26).f0, .int .i64 (r.getD z26).f1.f0, .int .i64 (r.getD z26).f1.f1, .int .i64 (r.getD z26).f1.f2, .int .i64 (r.getD z26).f1.f3, .int .i64 (r.getD z26).f2, v], .bool r.isSome]) ∧ Kd.V k26 26 w' w.heap.size (fun k => P k ∨ w.heap.size ≤ k) v (r.getD z26).f3 ∧ Below w.heap.size w w'
def ref_at.T5 : Bool × List (List Nat × List Nat) := (true, [([], []), ([0], [0]), ([], []), ([2], [2]), ([3], [3]), ([1, 4], [1, 4]), ([5], [5]), ([], []), ([7], [7]), ([6, 8], [6, 8]), ([9], [9]), ([9], [9]), ([10, 9, 0, 1, 2, 3, 4, 5, 6, 7, 8, 9, 10, 11], [10]), ([11, 12, 0, 1, 2, 3, 4, 5, 6, 7, 8, 9, 10, 11, 12], [11])])
def ref_at.B5 : List Nat := [0, 1, 0, 4, 12, 31, 63, 0, 128, 511, 1023, 1023, 4095, 8191]
def atT (r : Option S26) : Int × Int × Int × Int × Int × Int × List S26 × Bool := ((r.getD z26).f0, (r.getD z26).f1.f0, (r.getD z26).f1.f1, (r.getD z26).f1.f2, (r.getD z26).f1.f3, (r.getD z26).f2, (r.getD z26).f3, r.isSome)
def sashref05_At.f (a0 a1 a2 a3 a4 a5 : Int) (l : List S26) (l1 : List Int) : Option (Int × Int × Int × Int × Int × Int × (List (S26)) × Bool) := some (atT (atC ⟨a0, ⟨a1, a2, a3, a4⟩, a5, l⟩ l1))
end Go.Proofs.Ytfdmfgaiblfbhaa.P
/- The path to a leaf, and the cell at a path, by the code and by the reference: plain data. -/
namespace Go.Proofs.Ytfdmfgaiblfbhaa.P
open Go.RowKit Go.Proofs.YtfdmfgaiblfbhaaW.PrintWords Go.Proofs.YtfdmfgaiblfbhaaW.PrintLast Go.Proofs.YtfdmfgaiblfbhaaW.PrintMore

theorem rd_mem (l : List S26) (i : Int) (h0 : 0 ≤ i) (h1 : i < (l.length : Int)) : rd_T26 l i ∈ l := by
  unfold rd_T26
  rw [List.getD_eq_getElem?_getD, List.getElem?_eq_getElem (by omega), Option.getD_some]
  exact List.getElem_mem _
theorem sz_mem {l : List S26} {k : S26} (h : k ∈ l) : sz k ≤ szL l := by
  obtain ⟨p, q, e⟩ := List.append_of_mem h
  rw [e, szL_app, szL_cons]
  omega
theorem rd_at_in (pre : List Int) (p : Int) (rest : List Int) : rd (pre ++ p :: rest) (pre.length : Int) = p := by
  simp [rd, List.getD_eq_getElem?_getD]
theorem cell_at_ev (path : List Int) (hp : path.length ≤ 1048576) : ∀ (rest pre : List Int), pre ++ rest = path → ∀ c : S26, sz c ≤ 1000000 → Ev (fun k => cell_At.l0 k path (path.length : Int) (pre.length : Int) c.f0 c.f1.f0 c.f1.f1 c.f1.f2 c.f1.f3 c.f2 c.f3) (atT (atC c rest)) := by
  intro rest
  induction rest with
  | nil =>
    intro pre hpp c hc
    rw [List.append_nil] at hpp
    refine Ev.step (f := fun _ => some (atT (some c))) (fun k => ?_) (Ev.now _)
    simp only [cell_At.l0]
    rw [if_neg (by rw [hpp]; omega)]
    unfold cell_clone.f
    rw [eta26, if_pos hc]
    rfl
  | cons i is ih =>
    intro pre hpp c hc
    have hlt : (pre.length : Int) < (path.length : Int) := by rw [← hpp, List.length_append, List.length_cons]; omega
    have hr : rd path (pre.length : Int) = i := by rw [← hpp]; exact rd_at_in pre i is
    have hu : wrap64 ((pre.length : Int) + 1) = ((pre ++ [i]).length : Int) := by
      have h1 : (pre ++ [i]).length = pre.length + 1 := by simp
      rw [wq (by omega) (by omega), h1]
      omega
    simp only [atC]
    by_cases h0 : i < 0
    · rw [if_pos (.inl h0)]
      refine Ev.step (f := fun _ => some (atT none)) (fun k => ?_) (Ev.now _)
      simp only [cell_At.l0]
      rw [if_pos hlt, if_pos (by omega), if_pos hlt, hr, if_pos h0]
      rfl
    · by_cases h1 : i ≥ (c.f3.length : Int)
      · rw [if_pos (.inr h1)]
        refine Ev.step (f := fun _ => some (atT none)) (fun k => ?_) (Ev.now _)
        simp only [cell_At.l0]
        rw [if_pos hlt, if_pos (by omega), if_pos hlt, hr, if_neg h0, if_pos h1]
        rfl
      · rw [if_neg (fun h => h.elim h0 h1)]
        have h2 := sz_mem (rd_mem c.f3 i (by omega) (by omega))
        have h3 := sz_eq c
        refine Ev.step (fun k => ?_) (ih (pre ++ [i]) (by rw [List.append_assoc]; exact hpp) (rd_T26 c.f3 i) (by omega))
        simp only [cell_At.l0]
        rw [if_pos hlt, if_pos (by omega), if_pos hlt, hr, if_neg h0, if_neg h1, if_pos (by omega), if_pos (by omega), hu]
theorem cell_At_ev (c : S26) (path : List Int) (hp : path.length ≤ 1048576) (hc : sz c ≤ 1000000) : Ev (fun k => cell_At.f k c.f0 c.f1.f0 c.f1.f1 c.f1.f2 c.f1.f3 c.f2 c.f3 path) (atT (atC c path)) := by
  unfold cell_At.f
  exact cell_at_ev path hp path [] rfl c hc
end Go.Proofs.Ytfdmfgaiblfbhaa.P
namespace Go.Proofs.Ytfdmfgaiblfbhaa.P
open Go.RowKit Go.Proofs.YtfdmfgaiblfbhaaW.PrintWords Go.Proofs.YtfdmfgaiblfbhaaW.PrintLast Go.Proofs.YtfdmfgaiblfbhaaW.PrintMore
attribute [local go_sem] max2_int min2_int max_two min_two max_three min_three max_four min_four   -- for this text's walks alone
set_option linter.unusedVariables false
set_option linter.unusedSimpArgs false

/-! ### least_Size: function 98 -/
def least_Size.f (a0_0 : Int) (a0_1 : Int) (a0_2 : Int) (a0_3 : Int) (a1 : Int) : Option (Int) := if a1 = 2 then (some a0_3) else (if a1 = 1 then (some a0_2) else (some 0))
set_option maxHeartbeats 8000000 in
set_option maxRecDepth 100000 in
theorem least_Size.calls (a0_0 : Int) (a0_1 : Int) (a0_2 : Int) (a0_3 : Int) (a1 : Int) (r : Int) (w : World) (h : least_Size.f a0_0 a0_1 a0_2 a0_3 a1 = some r) :
  Calls Try.prog 98 #[.agg #[.int .i64 a0_0, .int .i64 a0_1, .int .i64 a0_2, .int .i64 a0_3], .int .u8 a1] w fun e w' => e = .returned (.int .i64 r) ∧ Below w.heap.size w w' := by
 have hu23 := Try.underlying23
 have HB := Aside0.mk (Below.refl w.heap.size w)
 have H : (if a1 = 2 then (some a0_3) else (if a1 = 1 then (some a0_2) else (some 0))) = some r := h
 clear h
 by_cases c3 : a1 = 2
 ·rw [if_pos c3] at H
  have c3b0 : (a1 == 2) = true := beq_iff_eq.mpr c3
  have c3b1 : (a1 != 2) = false := bne_eq_false_iff_eq.mpr c3
  clear c3
  obtain rfl := Option.some.inj H
  go_enter Try.func98, Try.ntmps98
  go_wp2_with (first | ((with_reducible refine gate_dst (N := 2) rfl ?_); refine box_event ?hg (N := 2) ?hd (cs := #[.int .i64 a0_0, .int .i64 a0_1, .int .i64 a0_2, .int .i64 a0_3]) (t := 23) ?hr ?_; (case hd => rfl); (case hg => rfl); (case hr => first | (go_simp; done) | (go_simp; rfl)); intro gb950 hg w4 hbox hb; have n0_ := Aside0.mk (below_step (by repeat (first | (with_reducible first | exact HB.out | apply below_alloc | apply pw_below_drewN | apply below_drew1) | exact HB.out)) hb); have n1_ := Aside0.mk (hbox); have n2_ := Aside0.mk ((by rw [hg]; exact (below_size (by repeat (first | (with_reducible first | exact HB.out | apply below_alloc | apply pw_below_drewN | apply below_drew1) | exact HB.out))) : w.heap.size ≤ gb950)); have n3_ := Aside0.mk ((by rw [hg]; exact (below_size (by repeat (first | (with_reducible first | exact HB.out | apply below_alloc | apply pw_below_drewN | apply below_drew1) | exact HB.out))) : w.heap.size ≤ gb950)); clear HB; have HB := n0_; have BK950 := n1_; have GW950 := n2_; have GE950 := n3_; clear n0_ n1_ n2_ n3_; clear hb hbox hg; have hcz5_0 : w4.cell? ⟨gb950, 0, none⟩ = some (.int .i64 a0_0) := (blk_cell BK950.out 0).trans rfl; have hcz5_1 : w4.cell? ⟨gb950, 1, none⟩ = some (.int .i64 a0_1) := (blk_cell BK950.out 1).trans rfl; have hcz5_2 : w4.cell? ⟨gb950, 2, none⟩ = some (.int .i64 a0_2) := (blk_cell BK950.out 2).trans rfl; have hcz5_3 : w4.cell? ⟨gb950, 3, none⟩ = some (.int .i64 a0_3) := (blk_cell BK950.out 3).trans rfl; have hfz5_0 := blk_frozen BK950.out 0; have hfz5_1 := blk_frozen BK950.out 1; have hfz5_2 := blk_frozen BK950.out 2; have hfz5_3 := blk_frozen BK950.out 3))
  go_ret
  exact ⟨by first | rfl | (simp [errW_none, errW_some] <;> rfl) | (simp [*, errW_none, errW_some] <;> rfl), by repeat (first | (with_reducible first | exact HB.out | apply below_alloc | apply pw_below_drewN | apply below_drew1 | refine below_set ?_ GE950.out) | exact HB.out)⟩
 ·rw [if_neg c3] at H
  have c3b0 : (a1 == 2) = false := beq_eq_false_iff_ne.mpr c3
  have c3b1 : (a1 != 2) = true := bne_iff_ne.mpr c3
  by_cases c6 : a1 = 1
  ·rw [if_pos c6] at H
   have c6b0 : (a1 == 1) = true := beq_iff_eq.mpr c6
   have c6b1 : (a1 != 1) = false := bne_eq_false_iff_eq.mpr c6
   clear c6
   obtain rfl := Option.some.inj H
   go_enter Try.func98, Try.ntmps98
   go_wp2_with (first | ((with_reducible refine gate_dst (N := 2) rfl ?_); refine box_event ?hg (N := 2) ?hd (cs := #[.int .i64 a0_0, .int .i64 a0_1, .int .i64 a0_2, .int .i64 a0_3]) (t := 23) ?hr ?_; (case hd => rfl); (case hg => rfl); (case hr => first | (go_simp; done) | (go_simp; rfl)); intro gb950 hg w7 hbox hb; have n0_ := Aside0.mk (below_step (by repeat (first | (with_reducible first | exact HB.out | apply below_alloc | apply pw_below_drewN | apply below_drew1) | exact HB.out)) hb); have n1_ := Aside0.mk (hbox); have n2_ := Aside0.mk ((by rw [hg]; exact (below_size (by repeat (first | (with_reducible first | exact HB.out | apply below_alloc | apply pw_below_drewN | apply below_drew1) | exact HB.out))) : w.heap.size ≤ gb950)); have n3_ := Aside0.mk ((by rw [hg]; exact (below_size (by repeat (first | (with_reducible first | exact HB.out | apply below_alloc | apply pw_below_drewN | apply below_drew1) | exact HB.out))) : w.heap.size ≤ gb950)); clear HB; have HB := n0_; have BK950 := n1_; have GW950 := n2_; have GE950 := n3_; clear n0_ n1_ n2_ n3_; clear hb hbox hg; have hcz8_0 : w7.cell? ⟨gb950, 0, none⟩ = some (.int .i64 a0_0) := (blk_cell BK950.out 0).trans rfl; have hcz8_1 : w7.cell? ⟨gb950, 1, none⟩ = some (.int .i64 a0_1) := (blk_cell BK950.out 1).trans rfl; have hcz8_2 : w7.cell? ⟨gb950, 2, none⟩ = some (.int .i64 a0_2) := (blk_cell BK950.out 2).trans rfl; have hcz8_3 : w7.cell? ⟨gb950, 3, none⟩ = some (.int .i64 a0_3) := (blk_cell BK950.out 3).trans rfl; have hfz8_0 := blk_frozen BK950.out 0; have hfz8_1 := blk_frozen BK950.out 1; have hfz8_2 := blk_frozen BK950.out 2; have hfz8_3 := blk_frozen BK950.out 3))
   go_ret
   exact ⟨by first | rfl | (simp [errW_none, errW_some] <;> rfl) | (simp [*, errW_none, errW_some] <;> rfl), by repeat (first | (with_reducible first | exact HB.out | apply below_alloc | apply pw_below_drewN | apply below_drew1 | refine below_set ?_ GE950.out) | exact HB.out)⟩
  ·rw [if_neg c6] at H
   have c6b0 : (a1 == 1) = false := beq_eq_false_iff_ne.mpr c6
   have c6b1 : (a1 != 1) = true := bne_iff_ne.mpr c6
   obtain rfl := Option.some.inj H
   go_enter Try.func98, Try.ntmps98
   go_wp2_with (first | ((with_reducible refine gate_dst (N := 2) rfl ?_); refine box_event ?hg (N := 2) ?hd (cs := #[.int .i64 a0_0, .int .i64 a0_1, .int .i64 a0_2, .int .i64 a0_3]) (t := 23) ?hr ?_; (case hd => rfl); (case hg => rfl); (case hr => first | (go_simp; done) | (go_simp; rfl)); intro gb950 hg w9 hbox hb; have n0_ := Aside0.mk (below_step (by repeat (first | (with_reducible first | exact HB.out | apply below_alloc | apply pw_below_drewN | apply below_drew1) | exact HB.out)) hb); have n1_ := Aside0.mk (hbox); have n2_ := Aside0.mk ((by rw [hg]; exact (below_size (by repeat (first | (with_reducible first | exact HB.out | apply below_alloc | apply pw_below_drewN | apply below_drew1) | exact HB.out))) : w.heap.size ≤ gb950)); have n3_ := Aside0.mk ((by rw [hg]; exact (below_size (by repeat (first | (with_reducible first | exact HB.out | apply below_alloc | apply pw_below_drewN | apply below_drew1) | exact HB.out))) : w.heap.size ≤ gb950)); clear HB; have HB := n0_; have BK950 := n1_; have GW950 := n2_; have GE950 := n3_; clear n0_ n1_ n2_ n3_; clear hb hbox hg))
   go_ret
   exact ⟨by first | rfl | (simp [errW_none, errW_some] <;> rfl) | (simp [*, errW_none, errW_some] <;> rfl), by repeat (first | (with_reducible first | exact HB.out | apply below_alloc | apply pw_below_drewN | apply below_drew1 | refine below_set ?_ GE950.out) | exact HB.out)⟩

end Go.Proofs.Ytfdmfgaiblfbhaa.P
/- least.Size: plain data. -/
namespace Go.Proofs.Ytfdmfgaiblfbhaa.P
open Go.RowKit Go.Proofs.YtfdmfgaiblfbhaaW.PrintWords Go.Proofs.YtfdmfgaiblfbhaaW.PrintLast Go.Proofs.YtfdmfgaiblfbhaaW.PrintMore
def sizeR (ax : Int) (r : S23) : Int := if ax = 1 then r.f2 else if ax = 2 then r.f3 else 0
theorem size_some (r : S23) (ax : Int) : least_Size.f r.f0 r.f1 r.f2 r.f3 ax = some (sizeR ax r) := by
  unfold least_Size.f sizeR
  by_cases h1 : ax = 1
  · rw [if_neg (by omega), if_pos h1, if_pos h1]
  · by_cases h2 : ax = 2
    · rw [if_pos h2, if_neg h1, if_pos h2]
    · rw [if_neg h2, if_neg h1, if_neg h1, if_neg h2]
end Go.Proofs.Ytfdmfgaiblfbhaa.P
/- The contract of split.Can (and of its closure): whether a leaf can be split along any axes. Condition: at most 1000000 cells. -/
namespace Go.Proofs.Ytfdmfgaiblfbhaa.P
open Go.RowKit Go.Proofs.YtfdmfgaiblfbhaaW.PrintWords Go.Proofs.YtfdmfgaiblfbhaaW.PrintLast Go.Proofs.YtfdmfgaiblfbhaaW.PrintMore
set_option linter.unusedVariables false
set_option linter.unusedSimpArgs false
set_option maxHeartbeats 1000000 in
theorem clo170 (x : Int) (z : S26) (Az : Option Addr) (cz b9 : Nat) (W : World) (hk : W.heap[b9]? = some (.cells #[.int .u8 z.f0, .int .i64 z.f1.f0, .int .i64 z.f1.f1, .int .i64 z.f1.f2, .int .i64 z.f1.f3, .int .i64 z.f2, .slice Az z.f3.length cz] 26 (0, 0))) :
    Calls Try.prog 170 (#[.int .u8 x] ++ #[.pointer (some ⟨b9, 0, none⟩)]) W fun e w' => e = .returned (.bool (decide (sizeR x z.f1 < 3))) ∧ Below W.heap.size W w' := by
  have HC := Aside0.mk (fun W' => least_Size.calls z.f1.f0 z.f1.f1 z.f1.f2 z.f1.f3 x (sizeR x z.f1) W' (size_some z.f1 x))
  simp only [List.append_toArray, List.cons_append, List.nil_append]
  have c1 := (blk_cell hk 1).trans rfl
  have c2 := (blk_cell hk 2).trans rfl
  have c3 := (blk_cell hk 3).trans rfl
  have c4 := (blk_cell hk 4).trans rfl
  generalize sizeR x z.f1 = n at HC ⊢
  go_enter Try.func170, Try.ntmps170
  go_wp2_with fail
  refine (HC.out _).mono ?_
  rintro e w' ⟨rfl, hb⟩
  have HB := Aside0.mk hb
  clear hb
  go_wp2
  go_ret
  exact ⟨rfl, HB.out⟩
noncomputable def canC (id : Int) (axes : List Int) (c : S26) : Bool := (findC id c).isSome && (tilesC c && !(axes.any fun x => decide (sizeR x ((atC c ((findC id c).getD [])).getD z26).f1 < 3)))
set_option maxHeartbeats 4000000 in
set_option maxRecDepth 100000 in
theorem can123 (id : Int) (axes : List Int) (c : S26) (hz : sz c ≤ 1000000) (A : Option Addr) (cc : Nat) (B : Option Addr) (cb : Nat) (w : World) (hr : Kd.C k26 w A c.f3.length c.f3) (hc : c.f3.length ≤ cc) (hA : Kd.C (Kd.int .u8) w B axes.length axes) (hb0 : axes.length ≤ cb) :
    Calls Try.prog 123 #[.agg #[.int .u8 c.f0, .int .i64 c.f1.f0, .int .i64 c.f1.f1, .int .i64 c.f1.f2, .int .i64 c.f1.f3, .int .i64 c.f2, .slice A c.f3.length cc], .int .i64 id, .slice B axes.length cb] w fun e w' => e = .returned (.bool (canC id axes c)) ∧ Below w.heap.size w w' := by
  have hfl : ((findC id c).getD []).length ≤ 1048576 := by
    cases hf : findC id c with
    | none => simp
    | some q => have := (find_len id (sz c)).1 c (Nat.le_refl _) q hf; simp; omega
  have hF : ∀ W, Below w.heap.size w W → Calls Try.prog 89 #[.agg #[.int .u8 c.f0, .int .i64 c.f1.f0, .int .i64 c.f1.f1, .int .i64 c.f1.f2, .int .i64 c.f1.f3, .int .i64 c.f2, .slice A c.f3.length cc], .int .i64 id] W fun e w' => ∃ v0_ : Value, e = .returned (.tuple #[v0_, .bool (findC id c).isSome]) ∧ Kd.R (Kd.int .i64) 3 w' W.heap.size (fun _ => True) v0_ ((findC id c).getD []) ∧ Below W.heap.size W w' := fun W hW => find89 id 1000000 c hz (Nat.le_refl _) A cc W (Kd.C_below hr hW) hc
  obtain ⟨ka, hka⟩ := (cell_At_ev c ((findC id c).getD []) hfl hz).rounds
  have hT : ∀ (A1 : Option Addr) (c1 : Nat) W, Kd.C k26 W A1 1 [c] → 1 ≤ c1 → Calls Try.prog 148 #[.slice A1 1 c1] W fun e w' => e = .returned (.bool (tilesC c)) ∧ Below W.heap.size W w' := fun A1 c1 W h1 h2 => by
    have h := tiles148 [c] (fun x hx => by rw [List.mem_singleton.1 hx]; omega) A1 c1 W h1 h2
    simpa using h
  have hCn : ∀ (z : S26) (Az : Option Addr) (cz b9 : Nat) W, W.heap[b9]? = some (.cells #[.int .u8 z.f0, .int .i64 z.f1.f0, .int .i64 z.f1.f1, .int .i64 z.f1.f2, .int .i64 z.f1.f3, .int .i64 z.f2, .slice Az z.f3.length cz] 26 (0, 0)) → Below w.heap.size w W → Calls Try.prog 162 #[.slice B axes.length cb, .func (.func 170) #[] #[.pointer (some ⟨b9, 0, none⟩)]] W fun e w' => e = .returned (.bool (axes.any fun x => decide (sizeR x z.f1 < 3))) ∧ Below W.heap.size W w' := fun z Az cz b9 W h1 h2 =>
    con162 (fun x => decide (sizeR x z.f1 < 3)) 170 #[.pointer (some ⟨b9, 0, none⟩)] (enters_fn Try.func170 (by decide +kernel) (by kernel_rfl)) axes B cb W (Kd.C_below hA h2) (fun x W' _ hW => clo170 x z Az cz b9 W' (blk_below h1 hW))
  unfold canC
  generalize (findC id c).isSome = ok at hF ⊢
  generalize (findC id c).getD [] = path at hF hka hfl ⊢
  unfold atT at hka
  have HA := Aside0.mk hka
  generalize (atC c path).getD z26 = z at HA ⊢
  generalize (atC c path).isSome = there at HA
  have HR := Aside0.mk hr
  have HC := Aside0.mk hc
  have HF := Aside0.mk hF
  have HT := Aside0.mk hT
  have HCn := Aside0.mk hCn
  have HB := Aside0.mk (Below.refl w.heap.size w)
  clear hr hc hA hb0 hF hT hCn hka hfl hz
  obtain ⟨ck, ⟨cx, cy, cw, ch⟩, cid, l⟩ := c
  simp only [] at HR HC HF HA
  generalize tilesC (⟨ck, ⟨cx, cy, cw, ch⟩, cid, l⟩ : S26) = til at HT ⊢
  cases ok with
  | false =>
    simp only [Bool.false_and]
    go_enter Try.func123, Try.ntmps123
    go_wp2_with (first
      | ((with_reducible refine gate_dst (N := 3) rfl ?_); refine box_event ?hg (N := 3) ?hd (cs := #[.int .u8 ck, .int .i64 cx, .int .i64 cy, .int .i64 cw, .int .i64 ch, .int .i64 cid, .slice A l.length cc]) (t := 26) ?hr ?_; (case hd => rfl); (case hg => rfl); (case hr => first | (go_simp; done) | (go_simp; rfl)); intro b3 hg wb3 hbox hb; have Kb3 := Aside0.mk hbox; have q_HB := Aside0.mk (below_step HB.out hb); clear HB; have HB := q_HB; clear q_HB; have c0 := (blk_cell Kb3.out 0).trans rfl; have c1 := (blk_cell Kb3.out 1).trans rfl; have c2 := (blk_cell Kb3.out 2).trans rfl; have c3 := (blk_cell Kb3.out 3).trans rfl; have c4 := (blk_cell Kb3.out 4).trans rfl; have c5 := (blk_cell Kb3.out 5).trans rfl; have c6 := (blk_cell Kb3.out 6).trans rfl; clear hb hbox hg)
      | fail)
    clear c0 c1 c2 c3 c4 c5 c6
    refine (HF.out _ HB.out).mono ?_
    rintro e w1 ⟨v, rfl, ho, hb⟩
    have q_HB := Aside0.mk (below_step HB.out hb); have q_Kb3 := Aside0.mk (blk_below Kb3.out hb); clear HB Kb3; have HB := q_HB; have Kb3 := q_Kb3; clear q_HB q_Kb3
    clear hb
    obtain ⟨Ap, cp, ep⟩ := Kd.R_slice ho
    subst ep
    have HP := Aside0.mk (Kd.R_reads' ho).2.2
    have LP := Aside0.mk (Kd.R_reads' ho).2.1
    clear ho
    have c0 := (blk_cell Kb3.out 0).trans rfl; have c1 := (blk_cell Kb3.out 1).trans rfl; have c2 := (blk_cell Kb3.out 2).trans rfl; have c3 := (blk_cell Kb3.out 3).trans rfl; have c4 := (blk_cell Kb3.out 4).trans rfl; have c5 := (blk_cell Kb3.out 5).trans rfl; have c6 := (blk_cell Kb3.out 6).trans rfl
    go_wp2_with fail
    clear c0 c1 c2 c3 c4 c5 c6
    refine (cell_At.calls ka ck cx cy cw ch cid (fun _ => True) A cc l Ap cp path _ _ _ _ _ _ _ _ w1 (Kd.V_mk HC.out (Kd.F_mono (Kd.C_F k26_heap (Kd.C_below HR.out HB.out)) (fun _ _ => trivial))) HP.out LP.out HA.out).mono ?_
    rintro e w2 ⟨u, rfl, ho, hb⟩
    have q_HB := Aside0.mk (below_step HB.out hb); have q_Kb3 := Aside0.mk (blk_below Kb3.out hb); clear HB Kb3; have HB := q_HB; have Kb3 := q_Kb3; clear q_HB q_Kb3
    clear hb
    obtain ⟨Az, cz, eu⟩ := Kd.N_slice ho
    subst eu
    clear ho
    go_wp2_with (first
      | ((with_reducible refine gate_dst (N := 9) rfl ?_); refine box_event ?hg (N := 9) ?hd (cs := #[.int .u8 0, .int .i64 0, .int .i64 0, .int .i64 0, .int .i64 0, .int .i64 0, .slice none 0 0]) (t := 26) ?hr ?_; (case hd => rfl); (case hg => rfl); (case hr => first | (go_simp; done) | (go_simp; rfl)); intro b9 hg wb9 hbox hb; have Kb9 := Aside0.mk hbox; have G9 := Aside0.mk (show w.heap.size ≤ b9 by rw [hg]; exact HB.out.size); have NE := Aside0.mk (show b3 ≠ b9 by rw [hg]; exact Nat.ne_of_lt (blk_lt Kb3.out)); have q_HB := Aside0.mk (below_step HB.out hb); have q_Kb3 := Aside0.mk (blk_below Kb3.out hb); clear HB Kb3; have HB := q_HB; have Kb3 := q_Kb3; clear q_HB q_Kb3; clear hb hbox hg)
      | ((with_reducible refine gate_ (.store 26 (.tmp 9) (.tmp 21)) rfl ?_); go_loud (refine box_store (w0 := w) rfl rfl 26 (.tmp 9) (.tmp 21) rfl (g := b9) (j := 0) (base := w.heap.size) #[.int .u8 z.f0, .int .i64 z.f1.f0, .int .i64 z.f1.f1, .int .i64 z.f1.f2, .int .i64 z.f1.f3, .int .i64 z.f2, .slice Az z.f3.length cz] (u := .agg #[.int .u8 z.f0, .int .i64 z.f1.f0, .int .i64 z.f1.f1, .int .i64 z.f1.f2, .int .i64 z.f1.f3, .int .i64 z.f2, .slice Az z.f3.length cz]) (seg := [.int .u8 z.f0, .int .i64 z.f1.f0, .int .i64 z.f1.f1, .int .i64 z.f1.f2, .int .i64 z.f1.f3, .int .i64 z.f2, .slice Az z.f3.length cz]) ?sA ?sX rfl ?sT ?s1 Kb9.out ?sJ rfl HB.out HB.out.size G9.out ?_; (case sA => rfl); (case sX => rfl); (case sT => rfl); (case s1 => (simp [Value.oneCell'])); (case sJ => (first | decide | simp)); intro ws hbk hbb hgg; have q3_ := Aside0.mk (blk_grown Kb3.out hgg (fun e_ => absurd (Option.some.inj e_) NE.out)); clear Kb3 Kb9 HB; have Kb3 := q3_; have Kb9 := Aside0.mk hbk; have HB := Aside0.mk hbb; clear hbk hbb hgg q3_; have c0 := (blk_cell Kb3.out 0).trans rfl; have c1 := (blk_cell Kb3.out 1).trans rfl; have c2 := (blk_cell Kb3.out 2).trans rfl; have c3 := (blk_cell Kb3.out 3).trans rfl; have c4 := (blk_cell Kb3.out 4).trans rfl; have c5 := (blk_cell Kb3.out 5).trans rfl; have c6 := (blk_cell Kb3.out 6).trans rfl))
      | fail)
    go_ret
    exact ⟨rfl, HB.out⟩
  | true =>
    simp only [Bool.true_and]
    cases til with
    | false =>
      simp only [Bool.false_and]
      go_enter Try.func123, Try.ntmps123
      go_wp2_with (first
        | ((with_reducible refine gate_dst (N := 3) rfl ?_); refine box_event ?hg (N := 3) ?hd (cs := #[.int .u8 ck, .int .i64 cx, .int .i64 cy, .int .i64 cw, .int .i64 ch, .int .i64 cid, .slice A l.length cc]) (t := 26) ?hr ?_; (case hd => rfl); (case hg => rfl); (case hr => first | (go_simp; done) | (go_simp; rfl)); intro b3 hg wb3 hbox hb; have Kb3 := Aside0.mk hbox; have q_HB := Aside0.mk (below_step HB.out hb); clear HB; have HB := q_HB; clear q_HB; have c0 := (blk_cell Kb3.out 0).trans rfl; have c1 := (blk_cell Kb3.out 1).trans rfl; have c2 := (blk_cell Kb3.out 2).trans rfl; have c3 := (blk_cell Kb3.out 3).trans rfl; have c4 := (blk_cell Kb3.out 4).trans rfl; have c5 := (blk_cell Kb3.out 5).trans rfl; have c6 := (blk_cell Kb3.out 6).trans rfl; clear hb hbox hg)
        | fail)
      clear c0 c1 c2 c3 c4 c5 c6
      refine (HF.out _ HB.out).mono ?_
      rintro e w1 ⟨v, rfl, ho, hb⟩
      have q_HB := Aside0.mk (below_step HB.out hb); have q_Kb3 := Aside0.mk (blk_below Kb3.out hb); clear HB Kb3; have HB := q_HB; have Kb3 := q_Kb3; clear q_HB q_Kb3
      clear hb
      obtain ⟨Ap, cp, ep⟩ := Kd.R_slice ho
      subst ep
      have HP := Aside0.mk (Kd.R_reads' ho).2.2
      have LP := Aside0.mk (Kd.R_reads' ho).2.1
      clear ho
      have c0 := (blk_cell Kb3.out 0).trans rfl; have c1 := (blk_cell Kb3.out 1).trans rfl; have c2 := (blk_cell Kb3.out 2).trans rfl; have c3 := (blk_cell Kb3.out 3).trans rfl; have c4 := (blk_cell Kb3.out 4).trans rfl; have c5 := (blk_cell Kb3.out 5).trans rfl; have c6 := (blk_cell Kb3.out 6).trans rfl
      go_wp2_with fail
      clear c0 c1 c2 c3 c4 c5 c6
      refine (cell_At.calls ka ck cx cy cw ch cid (fun _ => True) A cc l Ap cp path _ _ _ _ _ _ _ _ w1 (Kd.V_mk HC.out (Kd.F_mono (Kd.C_F k26_heap (Kd.C_below HR.out HB.out)) (fun _ _ => trivial))) HP.out LP.out HA.out).mono ?_
      rintro e w2 ⟨u, rfl, ho, hb⟩
      have q_HB := Aside0.mk (below_step HB.out hb); have q_Kb3 := Aside0.mk (blk_below Kb3.out hb); clear HB Kb3; have HB := q_HB; have Kb3 := q_Kb3; clear q_HB q_Kb3
      clear hb
      obtain ⟨Az, cz, eu⟩ := Kd.N_slice ho
      subst eu
      clear ho
      go_wp2_with (first
        | ((with_reducible refine gate_dst (N := 9) rfl ?_); refine box_event ?hg (N := 9) ?hd (cs := #[.int .u8 0, .int .i64 0, .int .i64 0, .int .i64 0, .int .i64 0, .int .i64 0, .slice none 0 0]) (t := 26) ?hr ?_; (case hd => rfl); (case hg => rfl); (case hr => first | (go_simp; done) | (go_simp; rfl)); intro b9 hg wb9 hbox hb; have Kb9 := Aside0.mk hbox; have G9 := Aside0.mk (show w.heap.size ≤ b9 by rw [hg]; exact HB.out.size); have NE := Aside0.mk (show b3 ≠ b9 by rw [hg]; exact Nat.ne_of_lt (blk_lt Kb3.out)); have q_HB := Aside0.mk (below_step HB.out hb); have q_Kb3 := Aside0.mk (blk_below Kb3.out hb); clear HB Kb3; have HB := q_HB; have Kb3 := q_Kb3; clear q_HB q_Kb3; clear hb hbox hg)
        | ((with_reducible refine gate_ (.store 26 (.tmp 9) (.tmp 21)) rfl ?_); go_loud (refine box_store (w0 := w) rfl rfl 26 (.tmp 9) (.tmp 21) rfl (g := b9) (j := 0) (base := w.heap.size) #[.int .u8 z.f0, .int .i64 z.f1.f0, .int .i64 z.f1.f1, .int .i64 z.f1.f2, .int .i64 z.f1.f3, .int .i64 z.f2, .slice Az z.f3.length cz] (u := .agg #[.int .u8 z.f0, .int .i64 z.f1.f0, .int .i64 z.f1.f1, .int .i64 z.f1.f2, .int .i64 z.f1.f3, .int .i64 z.f2, .slice Az z.f3.length cz]) (seg := [.int .u8 z.f0, .int .i64 z.f1.f0, .int .i64 z.f1.f1, .int .i64 z.f1.f2, .int .i64 z.f1.f3, .int .i64 z.f2, .slice Az z.f3.length cz]) ?sA ?sX rfl ?sT ?s1 Kb9.out ?sJ rfl HB.out HB.out.size G9.out ?_; (case sA => rfl); (case sX => rfl); (case sT => rfl); (case s1 => (simp [Value.oneCell'])); (case sJ => (first | decide | simp)); intro ws hbk hbb hgg; have q3_ := Aside0.mk (blk_grown Kb3.out hgg (fun e_ => absurd (Option.some.inj e_) NE.out)); clear Kb3 Kb9 HB; have Kb3 := q3_; have Kb9 := Aside0.mk hbk; have HB := Aside0.mk hbb; clear hbk hbb hgg q3_; have c0 := (blk_cell Kb3.out 0).trans rfl; have c1 := (blk_cell Kb3.out 1).trans rfl; have c2 := (blk_cell Kb3.out 2).trans rfl; have c3 := (blk_cell Kb3.out 3).trans rfl; have c4 := (blk_cell Kb3.out 4).trans rfl; have c5 := (blk_cell Kb3.out 5).trans rfl; have c6 := (blk_cell Kb3.out 6).trans rfl))
        | ((with_reducible refine gate_dst (N := 26) rfl ?_); (try (refine gate_guard (by rfl) ?_; dsimp only)); refine Kd.N_lit k26 _ 26 ?hg (N' := 26) ?hd (xs := [(⟨ck, ⟨cx, cy, cw, ch⟩, cid, l⟩ : S26)]) (inner := [.int .u8 ck, .int .i64 cx, .int .i64 cy, .int .i64 cw, .int .i64 ch, .int .i64 cid, .slice A l.length cc]) (ok := fun _ => True) (okp := fun _ => True) ?hr ?hp (fun _ hk => hk) trivial (Below.refl _ _) (Nat.le_refl _) (by simp) ?_; (case hd => rfl); (case hg => rfl); (case hr => first | (go_simp; done) | (go_simp; rfl)); (case hp => exact (Reps.c7 (k26_mkF _ _ (⟨ck, ⟨cx, cy, cw, ch⟩, cid, l⟩ : S26) HC.out (Kd.F_mono (Kd.C_F k26_heap (Kd.C_below HR.out HB.out)) (fun _ _ => trivial))) (Reps.none _ _))); intro vr wr ho hb hg_ hnew_; clear hg_ hnew_; obtain ⟨Am, cm, er⟩ := Kd.N_slice ho; subst er; have q_HB := Aside0.mk (below_step HB.out hb); have q_Kb3 := Aside0.mk (blk_below Kb3.out hb); have q_Kb9 := Aside0.mk (blk_below Kb9.out hb); clear HB Kb3 Kb9; have HB := q_HB; have Kb3 := q_Kb3; have Kb9 := q_Kb9; clear q_HB q_Kb3 q_Kb9; have Hm := Aside0.mk (Kd.N_reads' ho).2.2; have Lm := Aside0.mk (Kd.N_reads' ho).2.1; clear ho hb; clear c0 c1 c2 c3 c4 c5 c6)
        | fail)
      refine (HT.out Am cm _ Hm.out Lm.out).mono ?_
      rintro e w3 ⟨rfl, hb⟩
      have q_HB := Aside0.mk (below_step HB.out hb); have q_Kb3 := Aside0.mk (blk_below Kb3.out hb); have q_Kb9 := Aside0.mk (blk_below Kb9.out hb); clear HB Kb3 Kb9; have HB := q_HB; have Kb3 := q_Kb3; have Kb9 := q_Kb9; clear q_HB q_Kb3 q_Kb9
      clear hb Hm Lm
      go_wp2
      go_ret
      exact ⟨rfl, HB.out⟩
    | true =>
      simp only [Bool.true_and]
      have HQ := Aside0.mk (fun (Az : Option Addr) (cz b9 : Nat) (W : World) => HCn.out z Az cz b9 W)
      generalize (axes.any fun x => decide (sizeR x z.f1 < 3)) = q at HQ ⊢
      cases q
      all_goals
        go_enter Try.func123, Try.ntmps123
        go_wp2_with (first
          | ((with_reducible refine gate_dst (N := 3) rfl ?_); refine box_event ?hg (N := 3) ?hd (cs := #[.int .u8 ck, .int .i64 cx, .int .i64 cy, .int .i64 cw, .int .i64 ch, .int .i64 cid, .slice A l.length cc]) (t := 26) ?hr ?_; (case hd => rfl); (case hg => rfl); (case hr => first | (go_simp; done) | (go_simp; rfl)); intro b3 hg wb3 hbox hb; have Kb3 := Aside0.mk hbox; have q_HB := Aside0.mk (below_step HB.out hb); clear HB; have HB := q_HB; clear q_HB; have c0 := (blk_cell Kb3.out 0).trans rfl; have c1 := (blk_cell Kb3.out 1).trans rfl; have c2 := (blk_cell Kb3.out 2).trans rfl; have c3 := (blk_cell Kb3.out 3).trans rfl; have c4 := (blk_cell Kb3.out 4).trans rfl; have c5 := (blk_cell Kb3.out 5).trans rfl; have c6 := (blk_cell Kb3.out 6).trans rfl; clear hb hbox hg)
          | fail)
        clear c0 c1 c2 c3 c4 c5 c6
        refine (HF.out _ HB.out).mono ?_
        rintro e w1 ⟨v, rfl, ho, hb⟩
        have q_HB := Aside0.mk (below_step HB.out hb); have q_Kb3 := Aside0.mk (blk_below Kb3.out hb); clear HB Kb3; have HB := q_HB; have Kb3 := q_Kb3; clear q_HB q_Kb3
        clear hb
        obtain ⟨Ap, cp, ep⟩ := Kd.R_slice ho
        subst ep
        have HP := Aside0.mk (Kd.R_reads' ho).2.2
        have LP := Aside0.mk (Kd.R_reads' ho).2.1
        clear ho
        have c0 := (blk_cell Kb3.out 0).trans rfl; have c1 := (blk_cell Kb3.out 1).trans rfl; have c2 := (blk_cell Kb3.out 2).trans rfl; have c3 := (blk_cell Kb3.out 3).trans rfl; have c4 := (blk_cell Kb3.out 4).trans rfl; have c5 := (blk_cell Kb3.out 5).trans rfl; have c6 := (blk_cell Kb3.out 6).trans rfl
        go_wp2_with fail
        clear c0 c1 c2 c3 c4 c5 c6
        refine (cell_At.calls ka ck cx cy cw ch cid (fun _ => True) A cc l Ap cp path _ _ _ _ _ _ _ _ w1 (Kd.V_mk HC.out (Kd.F_mono (Kd.C_F k26_heap (Kd.C_below HR.out HB.out)) (fun _ _ => trivial))) HP.out LP.out HA.out).mono ?_
        rintro e w2 ⟨u, rfl, ho, hb⟩
        have q_HB := Aside0.mk (below_step HB.out hb); have q_Kb3 := Aside0.mk (blk_below Kb3.out hb); clear HB Kb3; have HB := q_HB; have Kb3 := q_Kb3; clear q_HB q_Kb3
        clear hb
        obtain ⟨Az, cz, eu⟩ := Kd.N_slice ho
        subst eu
        clear ho
        go_wp2_with (first
          | ((with_reducible refine gate_dst (N := 9) rfl ?_); refine box_event ?hg (N := 9) ?hd (cs := #[.int .u8 0, .int .i64 0, .int .i64 0, .int .i64 0, .int .i64 0, .int .i64 0, .slice none 0 0]) (t := 26) ?hr ?_; (case hd => rfl); (case hg => rfl); (case hr => first | (go_simp; done) | (go_simp; rfl)); intro b9 hg wb9 hbox hb; have Kb9 := Aside0.mk hbox; have G9 := Aside0.mk (show w.heap.size ≤ b9 by rw [hg]; exact HB.out.size); have NE := Aside0.mk (show b3 ≠ b9 by rw [hg]; exact Nat.ne_of_lt (blk_lt Kb3.out)); have q_HB := Aside0.mk (below_step HB.out hb); have q_Kb3 := Aside0.mk (blk_below Kb3.out hb); clear HB Kb3; have HB := q_HB; have Kb3 := q_Kb3; clear q_HB q_Kb3; clear hb hbox hg)
          | ((with_reducible refine gate_ (.store 26 (.tmp 9) (.tmp 21)) rfl ?_); go_loud (refine box_store (w0 := w) rfl rfl 26 (.tmp 9) (.tmp 21) rfl (g := b9) (j := 0) (base := w.heap.size) #[.int .u8 z.f0, .int .i64 z.f1.f0, .int .i64 z.f1.f1, .int .i64 z.f1.f2, .int .i64 z.f1.f3, .int .i64 z.f2, .slice Az z.f3.length cz] (u := .agg #[.int .u8 z.f0, .int .i64 z.f1.f0, .int .i64 z.f1.f1, .int .i64 z.f1.f2, .int .i64 z.f1.f3, .int .i64 z.f2, .slice Az z.f3.length cz]) (seg := [.int .u8 z.f0, .int .i64 z.f1.f0, .int .i64 z.f1.f1, .int .i64 z.f1.f2, .int .i64 z.f1.f3, .int .i64 z.f2, .slice Az z.f3.length cz]) ?sA ?sX rfl ?sT ?s1 Kb9.out ?sJ rfl HB.out HB.out.size G9.out ?_; (case sA => rfl); (case sX => rfl); (case sT => rfl); (case s1 => (simp [Value.oneCell'])); (case sJ => (first | decide | simp)); intro ws hbk hbb hgg; have q3_ := Aside0.mk (blk_grown Kb3.out hgg (fun e_ => absurd (Option.some.inj e_) NE.out)); clear Kb3 Kb9 HB; have Kb3 := q3_; have Kb9 := Aside0.mk hbk; have HB := Aside0.mk hbb; clear hbk hbb hgg q3_; have c0 := (blk_cell Kb3.out 0).trans rfl; have c1 := (blk_cell Kb3.out 1).trans rfl; have c2 := (blk_cell Kb3.out 2).trans rfl; have c3 := (blk_cell Kb3.out 3).trans rfl; have c4 := (blk_cell Kb3.out 4).trans rfl; have c5 := (blk_cell Kb3.out 5).trans rfl; have c6 := (blk_cell Kb3.out 6).trans rfl))
          | ((with_reducible refine gate_dst (N := 26) rfl ?_); (try (refine gate_guard (by rfl) ?_; dsimp only)); refine Kd.N_lit k26 _ 26 ?hg (N' := 26) ?hd (xs := [(⟨ck, ⟨cx, cy, cw, ch⟩, cid, l⟩ : S26)]) (inner := [.int .u8 ck, .int .i64 cx, .int .i64 cy, .int .i64 cw, .int .i64 ch, .int .i64 cid, .slice A l.length cc]) (ok := fun _ => True) (okp := fun _ => True) ?hr ?hp (fun _ hk => hk) trivial (Below.refl _ _) (Nat.le_refl _) (by simp) ?_; (case hd => rfl); (case hg => rfl); (case hr => first | (go_simp; done) | (go_simp; rfl)); (case hp => exact (Reps.c7 (k26_mkF _ _ (⟨ck, ⟨cx, cy, cw, ch⟩, cid, l⟩ : S26) HC.out (Kd.F_mono (Kd.C_F k26_heap (Kd.C_below HR.out HB.out)) (fun _ _ => trivial))) (Reps.none _ _))); intro vr wr ho hb hg_ hnew_; clear hg_ hnew_; obtain ⟨Am, cm, er⟩ := Kd.N_slice ho; subst er; have q_HB := Aside0.mk (below_step HB.out hb); have q_Kb3 := Aside0.mk (blk_below Kb3.out hb); have q_Kb9 := Aside0.mk (blk_below Kb9.out hb); clear HB Kb3 Kb9; have HB := q_HB; have Kb3 := q_Kb3; have Kb9 := q_Kb9; clear q_HB q_Kb3 q_Kb9; have Hm := Aside0.mk (Kd.N_reads' ho).2.2; have Lm := Aside0.mk (Kd.N_reads' ho).2.1; clear ho hb; clear c0 c1 c2 c3 c4 c5 c6)
          | fail)
        refine (HT.out Am cm _ Hm.out Lm.out).mono ?_
        rintro e w3 ⟨rfl, hb⟩
        have q_HB := Aside0.mk (below_step HB.out hb); have q_Kb3 := Aside0.mk (blk_below Kb3.out hb); have q_Kb9 := Aside0.mk (blk_below Kb9.out hb); clear HB Kb3 Kb9; have HB := q_HB; have Kb3 := q_Kb3; have Kb9 := q_Kb9; clear q_HB q_Kb3 q_Kb9
        clear hb Hm Lm
        go_wp2_with fail
        refine (HQ.out Az cz b9 _ Kb9.out HB.out).mono ?_
        rintro e w4 ⟨rfl, hb⟩
        have q_HB := Aside0.mk (below_step HB.out hb); clear HB; have HB := q_HB; clear q_HB
        clear hb
        go_wp2
        go_ret
        exact ⟨rfl, HB.out⟩
noncomputable def split_Can.f (a0 a1 a2 a3 a4 a5 : Int) (l : List S26) (id : Int) (axes : List Int) : Option Bool := if sz ⟨a0, ⟨a1, a2, a3, a4⟩, a5, l⟩ ≤ 1000000 then some (canC id axes ⟨a0, ⟨a1, a2, a3, a4⟩, a5, l⟩) else none
theorem split_Can.calls (a0_0 a0_1 a0_2 a0_3 a0_4 a0_5 : Int) (A0_6 : Option Addr) (c0_6 : Nat) (l0_6 : List S26) (a1 : Int) (A2 : Option Addr) (c2 : Nat) (l2 : List Int) (r : Bool) (w : World) (hr0_6 : Kd.C k26 w A0_6 l0_6.length l0_6) (hc0_6 : l0_6.length ≤ c0_6) (hr2 : Kd.C (Kd.int .u8) w A2 l2.length l2) (hc2 : l2.length ≤ c2) (h : split_Can.f a0_0 a0_1 a0_2 a0_3 a0_4 a0_5 l0_6 a1 l2 = some r) :
    Calls Try.prog 123 #[.agg #[.int .u8 a0_0, .int .i64 a0_1, .int .i64 a0_2, .int .i64 a0_3, .int .i64 a0_4, .int .i64 a0_5, .slice A0_6 l0_6.length c0_6], .int .i64 a1, .slice A2 l2.length c2] w fun e w' => e = .returned (.bool r) ∧ Below w.heap.size w w' := by
  unfold split_Can.f at h
  split at h
  · rename_i hz
    injection h with h
    subst h
    exact can123 a1 l2 ⟨a0_0, ⟨a0_1, a0_2, a0_3, a0_4⟩, a0_5, l0_6⟩ hz A0_6 c0_6 A2 c2 w hr0_6 hc0_6 hr2 hc2
  · exact absurd h (by simp)
end Go.Proofs.Ytfdmfgaiblfbhaa.P
namespace Go.Proofs.Ytfdmfgaiblfbhaa.P
open Go.RowKit Go.Proofs.YtfdmfgaiblfbhaaW.PrintWords Go.Proofs.YtfdmfgaiblfbhaaW.PrintLast Go.Proofs.YtfdmfgaiblfbhaaW.PrintMore
attribute [local go_sem] max2_int min2_int max_two min_two max_three min_three max_four min_four   -- for this text's walks alone
set_option linter.unusedVariables false
set_option linter.unusedSimpArgs false

/-! ### sashlaw12_awake: function 106 -/
noncomputable def sashlaw12_awake.f (k : Nat)  : Option (Bool) := (split_Sizes.f k 80 0).bind fun bt1259 => (if bt1259.2.2 = true then (if bt1259.1 = 40 then (if bt1259.2.1 = 39 then ((split_Can.f 1 0 0 3 3 4 ([] : List (S26)) 4 (([2] : List Int))).bind fun t1265 => (some t1265)) else (some false)) else (some false)) else (some false))
set_option maxHeartbeats 8000000 in
set_option maxRecDepth 100000 in
theorem sashlaw12_awake.calls (k : Nat)  (r : Bool) (w : World) (h : sashlaw12_awake.f k  = some r) :
  Calls Try.prog 106 #[] w fun e w' => e = .returned (.bool r) ∧ Below w.heap.size w w' := by
 have hu23 := Try.underlying23
 have hu26 := Try.underlying26
 have HB := Aside0.mk (Below.refl w.heap.size w)
 have H : ((split_Sizes.f k 80 0).bind fun bt1259 => (if bt1259.2.2 = true then (if bt1259.1 = 40 then (if bt1259.2.1 = 39 then ((split_Can.f 1 0 0 3 3 4 ([] : List (S26)) 4 (([2] : List Int))).bind fun t1265 => (some t1265)) else (some false)) else (some false)) else (some false))) = some r := h
 clear h
 replace H := Option.bind_eq_some_iff.mp H
 obtain ⟨⟨t1259, t1260, t1261⟩, A10, H⟩ := H
 replace H : (if t1261 = true then (if t1259 = 40 then (if t1260 = 39 then ((split_Can.f 1 0 0 3 3 4 ([] : List (S26)) 4 (([2] : List Int))).bind fun t1265 => (some t1265)) else (some false)) else (some false)) else (some false)) = some r := H
 have A1 := Aside0.mk A10
 clear A10
 by_cases c2 : t1261 = true
 ·subst c2
  have H1 : (if t1259 = 40 then (if t1260 = 39 then ((split_Can.f 1 0 0 3 3 4 ([] : List (S26)) 4 (([2] : List Int))).bind fun t1265 => (some t1265)) else (some false)) else (some false)) = some r := by rw [if_pos rfl] at H; exact H
  clear H
  have H := H1
  clear H1
  by_cases c3 : t1259 = 40
  ·rw [if_pos c3] at H
   have c3b0 : (t1259 == 40) = true := beq_iff_eq.mpr c3
   have c3b1 : (t1259 != 40) = false := bne_eq_false_iff_eq.mpr c3
   clear c3
   by_cases c4 : t1260 = 39
   ·rw [if_pos c4] at H
    have c4b0 : (t1260 == 39) = true := beq_iff_eq.mpr c4
    have c4b1 : (t1260 != 39) = false := bne_eq_false_iff_eq.mpr c4
    clear c4
    obtain ⟨y1262, hy1262⟩ : ∃ y_ : List Int, y_ = (([2] : List Int)) := ⟨_, rfl⟩
    replace H : ((split_Can.f 1 0 0 3 3 4 ([] : List (S26)) 4 y1262).bind fun t1265 => (some t1265)) = some r := by first | (rw [hy1262]; with_reducible exact H) | (have H2_ := (Option.bind_some _ _).symm.trans H; rw [hy1262]; with_reducible exact H2_) | (have H2_ := (Option.bind_some _ _).symm.trans H; with_reducible exact H2_) | with_reducible exact H | (rw [hy1262]; exact H) | exact H
    have Ny1262 := Aside0.mk hy1262
    clear hy1262
    replace H := Option.bind_eq_some_iff.mp H
    obtain ⟨t1265, A50, H⟩ := H
    replace H : (some t1265) = some r := H
    have A5 := Aside0.mk A50
    clear A50
    obtain rfl := Option.some.inj H
    go_enter Try.func106, Try.ntmps106
    go_wp2_with (first | ((with_reducible refine gate_callee (f := 104) rfl ?_); refine goesL_ (some 5) rfl rfl Try.func104 (by kernel_rfl) rfl #[.int .i64 80, .int .i64 0] rfl (by (try simp only [List.map_toArray, List.map_cons, List.map_nil]); first | done | rfl | (simp only [List.length_drop, List.length_take]; rfl)) ?_; (with_reducible refine (split_Sizes.calls k 80 0 t1259 t1260 true _ A1.out).mono ?_); rintro e w6 ⟨rfl, hb⟩; refine ⟨_, rfl, ?_⟩; have n0_ := Aside0.mk (below_step (by repeat (first | (with_reducible first | exact HB.out | apply below_alloc | apply pw_below_drewN | apply below_drew1) | exact HB.out)) hb); clear HB; have HB := n0_; clear n0_; (try clear hb); (try clear hb2); (try clear hk); (try clear hi)) | ((with_reducible refine gate_dst (N := 21) rfl ?_); (try (refine gate_guard (by rfl) ?_; dsimp only)); refine Kd.R_lit (Kd.int .u8) _ 5 ?hg (N := 21) ?hd (xs := ([2] : List Int)) (inner := [.int .u8 2]) (ok := fun _ => True) (okp := fun _ => True) ?hr ?hp (fun _ hk => hk) trivial (Below.refl _ _) (Nat.le_refl _) (by simp) ?_; (case hd => rfl); (case hg => rfl); (case hr => first | (go_simp; done) | (go_simp; rfl)); (case hp => exact (Reps.one (show Kd.M (Kd.int .u8) _ _ _ 2 [.int .u8 2] from rfl) (Reps.none _ _))); intro v1263 w7 ho8 hb hg_ hnew_; clear hg_ hnew_; (first | rw [← Ny1262.out] at ho8 | (simp only [Int.reduceToNat] at ho8; rw [← Ny1262.out] at ho8)); have n0_ := Aside0.mk (Kd.R_lower ho8 (below_size (by repeat (first | (with_reducible first | exact HB.out | apply below_alloc | apply pw_below_drewN | apply below_drew1) | exact HB.out)))); have n1_ := Aside0.mk (below_step (by repeat (first | (with_reducible first | exact HB.out | apply below_alloc | apply pw_below_drewN | apply below_drew1) | exact HB.out)) hb); clear HB; have HO1264 := n0_; have HB := n1_; clear n0_ n1_; clear hb ho8; obtain ⟨Ao9, co9, eo9⟩ := Kd.R_slice HO1264.out; subst eo9) | (go_at_call 123; (refine (split_Can.calls 1 0 0 3 3 4 _ _ ([] : List (S26)) 4 _ _ y1262 t1265 _ ?side1 ?side2 ?side3 ?side4 A5.out).mono ?_); (case side1 => exact Kd.C_nil _ _); (case side2 => exact Nat.le_refl _); (case side3 => repeat (first | exact (Kd.R_reads' HO1264.out).2.2 | (with_reducible refine Kd.C_alloc ?_ _) | (with_reducible refine Kd.C_drewN ?_ _) | (with_reducible refine Kd.C_drew ?_))); (case side4 => exact (Kd.R_reads' HO1264.out).2.1); rintro e w10 ⟨rfl, hb⟩; have n0_ := Aside0.mk (Kd.R_below (by (with_reducible repeat (first | apply Kd.R_alloc | apply Kd.R_drewN | apply Kd.R_drew)); exact HO1264.out) hb); have n1_ := Aside0.mk (below_step (by repeat (first | (with_reducible first | exact HB.out | apply below_alloc | apply pw_below_drewN | apply below_drew1) | exact HB.out)) hb); clear HO1264; clear HB; have HO1264 := n0_; have HB := n1_; clear n0_ n1_; (try clear hb); (try clear hb2); (try clear hk); (try clear hi)))
    go_ret
    exact ⟨by first | rfl | (simp [errW_none, errW_some] <;> rfl) | (simp [*, errW_none, errW_some] <;> rfl), by repeat (first | (with_reducible first | exact HB.out | apply below_alloc | apply pw_below_drewN | apply below_drew1) | exact HB.out)⟩
   ·rw [if_neg c4] at H
    have c4b0 : (t1260 == 39) = false := beq_eq_false_iff_ne.mpr c4
    have c4b1 : (t1260 != 39) = true := bne_iff_ne.mpr c4
    obtain rfl := Option.some.inj H
    go_enter Try.func106, Try.ntmps106
    go_wp2_with (first | ((with_reducible refine gate_callee (f := 104) rfl ?_); refine goesL_ (some 5) rfl rfl Try.func104 (by kernel_rfl) rfl #[.int .i64 80, .int .i64 0] rfl (by (try simp only [List.map_toArray, List.map_cons, List.map_nil]); first | done | rfl | (simp only [List.length_drop, List.length_take]; rfl)) ?_; (with_reducible refine (split_Sizes.calls k 80 0 t1259 t1260 true _ A1.out).mono ?_); rintro e w11 ⟨rfl, hb⟩; refine ⟨_, rfl, ?_⟩; have n0_ := Aside0.mk (below_step (by repeat (first | (with_reducible first | exact HB.out | apply below_alloc | apply pw_below_drewN | apply below_drew1) | exact HB.out)) hb); clear HB; have HB := n0_; clear n0_; (try clear hb); (try clear hb2); (try clear hk); (try clear hi)))
    go_ret
    exact ⟨by first | rfl | (simp [errW_none, errW_some] <;> rfl) | (simp [*, errW_none, errW_some] <;> rfl), by repeat (first | (with_reducible first | exact HB.out | apply below_alloc | apply pw_below_drewN | apply below_drew1) | exact HB.out)⟩
  ·rw [if_neg c3] at H
   have c3b0 : (t1259 == 40) = false := beq_eq_false_iff_ne.mpr c3
   have c3b1 : (t1259 != 40) = true := bne_iff_ne.mpr c3
   obtain rfl := Option.some.inj H
   go_enter Try.func106, Try.ntmps106
   go_wp2_with (first | ((with_reducible refine gate_callee (f := 104) rfl ?_); refine goesL_ (some 5) rfl rfl Try.func104 (by kernel_rfl) rfl #[.int .i64 80, .int .i64 0] rfl (by (try simp only [List.map_toArray, List.map_cons, List.map_nil]); first | done | rfl | (simp only [List.length_drop, List.length_take]; rfl)) ?_; (with_reducible refine (split_Sizes.calls k 80 0 t1259 t1260 true _ A1.out).mono ?_); rintro e w12 ⟨rfl, hb⟩; refine ⟨_, rfl, ?_⟩; have n0_ := Aside0.mk (below_step (by repeat (first | (with_reducible first | exact HB.out | apply below_alloc | apply pw_below_drewN | apply below_drew1) | exact HB.out)) hb); clear HB; have HB := n0_; clear n0_; (try clear hb); (try clear hb2); (try clear hk); (try clear hi)))
   go_ret
   exact ⟨by first | rfl | (simp [errW_none, errW_some] <;> rfl) | (simp [*, errW_none, errW_some] <;> rfl), by repeat (first | (with_reducible first | exact HB.out | apply below_alloc | apply pw_below_drewN | apply below_drew1) | exact HB.out)⟩
 ·replace c2 := Bool.eq_false_iff.mpr c2
  subst c2
  have H1 : (some false) = some r := by rw [if_neg (show ¬ (false = true) by decide)] at H; exact H
  clear H
  have H := H1
  clear H1
  obtain rfl := Option.some.inj H
  go_enter Try.func106, Try.ntmps106
  go_wp2_with (first | ((with_reducible refine gate_callee (f := 104) rfl ?_); refine goesL_ (some 5) rfl rfl Try.func104 (by kernel_rfl) rfl #[.int .i64 80, .int .i64 0] rfl (by (try simp only [List.map_toArray, List.map_cons, List.map_nil]); first | done | rfl | (simp only [List.length_drop, List.length_take]; rfl)) ?_; (with_reducible refine (split_Sizes.calls k 80 0 t1259 t1260 false _ A1.out).mono ?_); rintro e w13 ⟨rfl, hb⟩; refine ⟨_, rfl, ?_⟩; have n0_ := Aside0.mk (below_step (by repeat (first | (with_reducible first | exact HB.out | apply below_alloc | apply pw_below_drewN | apply below_drew1) | exact HB.out)) hb); clear HB; have HB := n0_; clear n0_; (try clear hb); (try clear hb2); (try clear hk); (try clear hi)))
  go_ret
  exact ⟨by first | rfl | (simp [errW_none, errW_some] <;> rfl) | (simp [*, errW_none, errW_some] <;> rfl), by repeat (first | (with_reducible first | exact HB.out | apply below_alloc | apply pw_below_drewN | apply below_drew1) | exact HB.out)⟩

end Go.Proofs.Ytfdmfgaiblfbhaa.P
namespace Go.Proofs.Ytfdmfgaiblfbhaa.P
open Go.RowKit Go.Proofs.YtfdmfgaiblfbhaaW.PrintWords Go.Proofs.YtfdmfgaiblfbhaaW.PrintLast Go.Proofs.YtfdmfgaiblfbhaaW.PrintMore
attribute [local go_sem] max2_int min2_int max_two min_two max_three min_three max_four min_four   -- for this text's walks alone
set_option linter.unusedVariables false
set_option linter.unusedSimpArgs false

/-! ### sashlaw12_SplitSizes: function 25 -/
noncomputable def sashlaw12_SplitSizes.f (k : Nat) (a0 : Int) (a1 : Int) : Option (Bool) := (split_Sizes.f k a0 a1).bind fun bt1266 => ((sashref12_Sizes.f k a0 a1).bind fun bt1269 => (if bt1266.1 = bt1269.1 then (if bt1266.2.1 = bt1269.2.1 then (if (bt1266.2.2 != bt1269.2.2) = true then (some false) else (if bt1266.2.2 = true then (if bt1266.1 ≥ 1 then (if bt1266.2.1 ≥ 1 then (if bt1266.1 = (wrap64 ((wrap64 (a0 - 1)) - bt1266.2.1)) then (if a1 = 0 then (if (wrap64 (bt1266.1 - bt1266.2.1)) ≤ 1 then (if (wrap64 (bt1266.1 - bt1266.2.1)) ≥ 0 then ((sashlaw12_awake.f k).bind fun t1272 => (some t1272)) else (some false)) else (some false)) else ((sashlaw12_awake.f k).bind fun t1273 => (some t1273))) else (some false)) else (some false)) else (some false)) else ((sashlaw12_awake.f k).bind fun t1274 => (some t1274)))) else (some false)) else (some false)))
set_option maxHeartbeats 8000000 in
set_option maxRecDepth 100000 in
theorem sashlaw12_SplitSizes.calls (k : Nat) (a0 : Int) (a1 : Int) (r : Bool) (w : World) (h : sashlaw12_SplitSizes.f k a0 a1 = some r) :
  Calls Try.prog 25 #[.int .i64 a0, .int .i64 a1] w fun e w' => e = .returned (.bool r) ∧ Below w.heap.size w w' := by
 have HB := Aside0.mk (Below.refl w.heap.size w)
 have H : ((split_Sizes.f k a0 a1).bind fun bt1266 => ((sashref12_Sizes.f k a0 a1).bind fun bt1269 => (if bt1266.1 = bt1269.1 then (if bt1266.2.1 = bt1269.2.1 then (if (bt1266.2.2 != bt1269.2.2) = true then (some false) else (if bt1266.2.2 = true then (if bt1266.1 ≥ 1 then (if bt1266.2.1 ≥ 1 then (if bt1266.1 = (wrap64 ((wrap64 (a0 - 1)) - bt1266.2.1)) then (if a1 = 0 then (if (wrap64 (bt1266.1 - bt1266.2.1)) ≤ 1 then (if (wrap64 (bt1266.1 - bt1266.2.1)) ≥ 0 then ((sashlaw12_awake.f k).bind fun t1272 => (some t1272)) else (some false)) else (some false)) else ((sashlaw12_awake.f k).bind fun t1273 => (some t1273))) else (some false)) else (some false)) else (some false)) else ((sashlaw12_awake.f k).bind fun t1274 => (some t1274)))) else (some false)) else (some false)))) = some r := h
 clear h
 replace H := Option.bind_eq_some_iff.mp H
 obtain ⟨⟨t1266, t1267, t1268⟩, A30, H⟩ := H
 replace H : ((sashref12_Sizes.f k a0 a1).bind fun bt1269 => (if t1266 = bt1269.1 then (if t1267 = bt1269.2.1 then (if (t1268 != bt1269.2.2) = true then (some false) else (if t1268 = true then (if t1266 ≥ 1 then (if t1267 ≥ 1 then (if t1266 = (wrap64 ((wrap64 (a0 - 1)) - t1267)) then (if a1 = 0 then (if (wrap64 (t1266 - t1267)) ≤ 1 then (if (wrap64 (t1266 - t1267)) ≥ 0 then ((sashlaw12_awake.f k).bind fun t1272 => (some t1272)) else (some false)) else (some false)) else ((sashlaw12_awake.f k).bind fun t1273 => (some t1273))) else (some false)) else (some false)) else (some false)) else ((sashlaw12_awake.f k).bind fun t1274 => (some t1274)))) else (some false)) else (some false))) = some r := H
 have A3 := Aside0.mk A30
 clear A30
 replace H := Option.bind_eq_some_iff.mp H
 obtain ⟨⟨t1269, t1270, t1271⟩, A40, H⟩ := H
 replace H : (if t1266 = t1269 then (if t1267 = t1270 then (if (t1268 != t1271) = true then (some false) else (if t1268 = true then (if t1266 ≥ 1 then (if t1267 ≥ 1 then (if t1266 = (wrap64 ((wrap64 (a0 - 1)) - t1267)) then (if a1 = 0 then (if (wrap64 (t1266 - t1267)) ≤ 1 then (if (wrap64 (t1266 - t1267)) ≥ 0 then ((sashlaw12_awake.f k).bind fun t1272 => (some t1272)) else (some false)) else (some false)) else ((sashlaw12_awake.f k).bind fun t1273 => (some t1273))) else (some false)) else (some false)) else (some false)) else ((sashlaw12_awake.f k).bind fun t1274 => (some t1274)))) else (some false)) else (some false)) = some r := H
 have A4 := Aside0.mk A40
 clear A40
 by_cases c5 : t1266 = t1269
 ·rw [if_pos c5] at H
  have c5b0 : (t1266 == t1269) = true := beq_iff_eq.mpr c5
  have c5b1 : (t1266 != t1269) = false := bne_eq_false_iff_eq.mpr c5
  clear c5
  by_cases c6 : t1267 = t1270
  ·rw [if_pos c6] at H
   have c6b0 : (t1267 == t1270) = true := beq_iff_eq.mpr c6
   have c6b1 : (t1267 != t1270) = false := bne_eq_false_iff_eq.mpr c6
   clear c6
   by_cases c7 : (t1268 != t1271) = true
   ·rw [if_pos c7] at H
    have c7b0 : (t1268 != t1271) = true := c7
    (try (have c7b1 : decide (t1268 = t1271) = false := by simpa using c7))
    (try (have c7b2 : (t1268 == t1271) = false := by simpa using c7))
    (try (have c7b3 : ¬ (t1268 = t1271) := by simpa using c7))
    clear c7
    obtain rfl := Option.some.inj H
    go_enter Try.func25, Try.ntmps25
    go_wp2_with (first | ((with_reducible refine gate_callee (f := 104) rfl ?_); refine goesL_ (some 14) rfl rfl Try.func104 (by kernel_rfl) rfl #[.int .i64 a0, .int .i64 a1] rfl (by (try simp only [List.map_toArray, List.map_cons, List.map_nil]); first | done | rfl | (simp only [List.length_drop, List.length_take]; rfl)) ?_; (with_reducible refine (split_Sizes.calls k a0 a1 t1266 t1267 t1268 _ A3.out).mono ?_); rintro e w8 ⟨rfl, hb⟩; refine ⟨_, rfl, ?_⟩; have n0_ := Aside0.mk (below_step (by repeat (first | (with_reducible first | exact HB.out | apply below_alloc | apply pw_below_drewN | apply below_drew1) | exact HB.out)) hb); clear HB; have HB := n0_; clear n0_; (try clear hb); (try clear hb2); (try clear hk); (try clear hi)) | ((with_reducible refine gate_callee (f := 105) rfl ?_); refine goesL_ (some 21) rfl rfl Try.func105 (by kernel_rfl) rfl #[.int .i64 a0, .int .i64 a1] rfl (by (try simp only [List.map_toArray, List.map_cons, List.map_nil]); first | done | rfl | (simp only [List.length_drop, List.length_take]; rfl)) ?_; (with_reducible refine (sashref12_Sizes.calls k a0 a1 t1269 t1270 t1271 _ A4.out).mono ?_); rintro e w' ⟨rfl, ⟨nd, rfl⟩⟩; refine ⟨_, rfl, ?_⟩))
    go_ret
    exact ⟨by first | rfl | (simp [errW_none, errW_some] <;> rfl) | (simp [*, errW_none, errW_some] <;> rfl), by repeat (first | (with_reducible first | exact HB.out | apply below_alloc | apply pw_below_drewN | apply below_drew1) | exact HB.out)⟩
   ·rw [if_neg c7] at H
    have c7b0 : (t1268 != t1271) = false := by simpa using c7
    (try (have c7b1 : decide (t1268 = t1271) = true := by simpa using c7))
    (try (have c7b2 : (t1268 == t1271) = true := by simpa using c7))
    clear c7
    by_cases c9 : t1268 = true
    ·subst c9
     have H1 : (if t1266 ≥ 1 then (if t1267 ≥ 1 then (if t1266 = (wrap64 ((wrap64 (a0 - 1)) - t1267)) then (if a1 = 0 then (if (wrap64 (t1266 - t1267)) ≤ 1 then (if (wrap64 (t1266 - t1267)) ≥ 0 then ((sashlaw12_awake.f k).bind fun t1272 => (some t1272)) else (some false)) else (some false)) else ((sashlaw12_awake.f k).bind fun t1273 => (some t1273))) else (some false)) else (some false)) else (some false)) = some r := by rw [if_pos rfl] at H; exact H
     clear H
     have H := H1
     clear H1
     by_cases c10 : t1266 ≥ 1
     ·rw [if_pos c10] at H
      have c10b0 : decide (1 ≤ t1266) = true := decide_eq_true c10
      clear c10
      by_cases c11 : t1267 ≥ 1
      ·rw [if_pos c11] at H
       have c11b0 : decide (1 ≤ t1267) = true := decide_eq_true c11
       clear c11
       by_cases c12 : t1266 = (wrap64 ((wrap64 (a0 - 1)) - t1267))
       ·rw [if_pos c12] at H
        have c12b0 : (t1266 == (wrap64 ((wrap64 (a0 - 1)) - t1267))) = true := beq_iff_eq.mpr c12
        have c12b1 : (t1266 != (wrap64 ((wrap64 (a0 - 1)) - t1267))) = false := bne_eq_false_iff_eq.mpr c12
        clear c12
        by_cases c13 : a1 = 0
        ·rw [if_pos c13] at H
         have c13b0 : (a1 == 0) = true := beq_iff_eq.mpr c13
         have c13b1 : (a1 != 0) = false := bne_eq_false_iff_eq.mpr c13
         clear c13
         by_cases c14 : (wrap64 (t1266 - t1267)) ≤ 1
         ·rw [if_pos c14] at H
          have c14b0 : decide ((wrap64 (t1266 - t1267)) ≤ 1) = true := decide_eq_true c14
          clear c14
          by_cases c15 : (wrap64 (t1266 - t1267)) ≥ 0
          ·rw [if_pos c15] at H
           have c15b0 : decide (0 ≤ (wrap64 (t1266 - t1267))) = true := decide_eq_true c15
           clear c15
           replace H := Option.bind_eq_some_iff.mp H
           obtain ⟨t1272, A160, H⟩ := H
           replace H : (some t1272) = some r := H
           have A16 := Aside0.mk A160
           clear A160
           obtain rfl := Option.some.inj H
           go_enter Try.func25, Try.ntmps25
           go_wp2_with (first | ((with_reducible refine gate_callee (f := 104) rfl ?_); refine goesL_ (some 14) rfl rfl Try.func104 (by kernel_rfl) rfl #[.int .i64 a0, .int .i64 a1] rfl (by (try simp only [List.map_toArray, List.map_cons, List.map_nil]); first | done | rfl | (simp only [List.length_drop, List.length_take]; rfl)) ?_; (with_reducible refine (split_Sizes.calls k a0 a1 t1266 t1267 true _ A3.out).mono ?_); rintro e w17 ⟨rfl, hb⟩; refine ⟨_, rfl, ?_⟩; have n0_ := Aside0.mk (below_step (by repeat (first | (with_reducible first | exact HB.out | apply below_alloc | apply pw_below_drewN | apply below_drew1) | exact HB.out)) hb); clear HB; have HB := n0_; clear n0_; (try clear hb); (try clear hb2); (try clear hk); (try clear hi)) | ((with_reducible refine gate_callee (f := 105) rfl ?_); refine goesL_ (some 21) rfl rfl Try.func105 (by kernel_rfl) rfl #[.int .i64 a0, .int .i64 a1] rfl (by (try simp only [List.map_toArray, List.map_cons, List.map_nil]); first | done | rfl | (simp only [List.length_drop, List.length_take]; rfl)) ?_; (with_reducible refine (sashref12_Sizes.calls k a0 a1 t1269 t1270 t1271 _ A4.out).mono ?_); rintro e w' ⟨rfl, ⟨nd, rfl⟩⟩; refine ⟨_, rfl, ?_⟩) | (go_at_call 106; (with_reducible refine (sashlaw12_awake.calls k  t1272 _ A16.out).mono ?_); rintro e w18 ⟨rfl, hb⟩; have n0_ := Aside0.mk (below_step (by repeat (first | (with_reducible first | exact HB.out | apply below_alloc | apply pw_below_drewN | apply below_drew1) | exact HB.out)) hb); clear HB; have HB := n0_; clear n0_; (try clear hb); (try clear hb2); (try clear hk); (try clear hi)))
           go_ret
           exact ⟨by first | rfl | (simp [errW_none, errW_some] <;> rfl) | (simp [*, errW_none, errW_some] <;> rfl), by repeat (first | (with_reducible first | exact HB.out | apply below_alloc | apply pw_below_drewN | apply below_drew1) | exact HB.out)⟩
          ·rw [if_neg c15] at H
           have c15b0 : decide (0 ≤ (wrap64 (t1266 - t1267))) = false := decide_eq_false c15
           clear c15
           obtain rfl := Option.some.inj H
           go_enter Try.func25, Try.ntmps25
           go_wp2_with (first | ((with_reducible refine gate_callee (f := 104) rfl ?_); refine goesL_ (some 14) rfl rfl Try.func104 (by kernel_rfl) rfl #[.int .i64 a0, .int .i64 a1] rfl (by (try simp only [List.map_toArray, List.map_cons, List.map_nil]); first | done | rfl | (simp only [List.length_drop, List.length_take]; rfl)) ?_; (with_reducible refine (split_Sizes.calls k a0 a1 t1266 t1267 true _ A3.out).mono ?_); rintro e w19 ⟨rfl, hb⟩; refine ⟨_, rfl, ?_⟩; have n0_ := Aside0.mk (below_step (by repeat (first | (with_reducible first | exact HB.out | apply below_alloc | apply pw_below_drewN | apply below_drew1) | exact HB.out)) hb); clear HB; have HB := n0_; clear n0_; (try clear hb); (try clear hb2); (try clear hk); (try clear hi)) | ((with_reducible refine gate_callee (f := 105) rfl ?_); refine goesL_ (some 21) rfl rfl Try.func105 (by kernel_rfl) rfl #[.int .i64 a0, .int .i64 a1] rfl (by (try simp only [List.map_toArray, List.map_cons, List.map_nil]); first | done | rfl | (simp only [List.length_drop, List.length_take]; rfl)) ?_; (with_reducible refine (sashref12_Sizes.calls k a0 a1 t1269 t1270 t1271 _ A4.out).mono ?_); rintro e w' ⟨rfl, ⟨nd, rfl⟩⟩; refine ⟨_, rfl, ?_⟩))
           go_ret
           exact ⟨by first | rfl | (simp [errW_none, errW_some] <;> rfl) | (simp [*, errW_none, errW_some] <;> rfl), by repeat (first | (with_reducible first | exact HB.out | apply below_alloc | apply pw_below_drewN | apply below_drew1) | exact HB.out)⟩
         ·rw [if_neg c14] at H
          have c14b0 : decide ((wrap64 (t1266 - t1267)) ≤ 1) = false := decide_eq_false c14
          clear c14
          obtain rfl := Option.some.inj H
          go_enter Try.func25, Try.ntmps25
          go_wp2_with (first | ((with_reducible refine gate_callee (f := 104) rfl ?_); refine goesL_ (some 14) rfl rfl Try.func104 (by kernel_rfl) rfl #[.int .i64 a0, .int .i64 a1] rfl (by (try simp only [List.map_toArray, List.map_cons, List.map_nil]); first | done | rfl | (simp only [List.length_drop, List.length_take]; rfl)) ?_; (with_reducible refine (split_Sizes.calls k a0 a1 t1266 t1267 true _ A3.out).mono ?_); rintro e w20 ⟨rfl, hb⟩; refine ⟨_, rfl, ?_⟩; have n0_ := Aside0.mk (below_step (by repeat (first | (with_reducible first | exact HB.out | apply below_alloc | apply pw_below_drewN | apply below_drew1) | exact HB.out)) hb); clear HB; have HB := n0_; clear n0_; (try clear hb); (try clear hb2); (try clear hk); (try clear hi)) | ((with_reducible refine gate_callee (f := 105) rfl ?_); refine goesL_ (some 21) rfl rfl Try.func105 (by kernel_rfl) rfl #[.int .i64 a0, .int .i64 a1] rfl (by (try simp only [List.map_toArray, List.map_cons, List.map_nil]); first | done | rfl | (simp only [List.length_drop, List.length_take]; rfl)) ?_; (with_reducible refine (sashref12_Sizes.calls k a0 a1 t1269 t1270 t1271 _ A4.out).mono ?_); rintro e w' ⟨rfl, ⟨nd, rfl⟩⟩; refine ⟨_, rfl, ?_⟩))
          go_ret
          exact ⟨by first | rfl | (simp [errW_none, errW_some] <;> rfl) | (simp [*, errW_none, errW_some] <;> rfl), by repeat (first | (with_reducible first | exact HB.out | apply below_alloc | apply pw_below_drewN | apply below_drew1) | exact HB.out)⟩
        ·rw [if_neg c13] at H
         have c13b0 : (a1 == 0) = false := beq_eq_false_iff_ne.mpr c13
         have c13b1 : (a1 != 0) = true := bne_iff_ne.mpr c13
         replace H := Option.bind_eq_some_iff.mp H
         obtain ⟨t1273, A210, H⟩ := H
         replace H : (some t1273) = some r := H
         have A21 := Aside0.mk A210
         clear A210
         obtain rfl := Option.some.inj H
         go_enter Try.func25, Try.ntmps25
         go_wp2_with (first | ((with_reducible refine gate_callee (f := 104) rfl ?_); refine goesL_ (some 14) rfl rfl Try.func104 (by kernel_rfl) rfl #[.int .i64 a0, .int .i64 a1] rfl (by (try simp only [List.map_toArray, List.map_cons, List.map_nil]); first | done | rfl | (simp only [List.length_drop, List.length_take]; rfl)) ?_; (with_reducible refine (split_Sizes.calls k a0 a1 t1266 t1267 true _ A3.out).mono ?_); rintro e w22 ⟨rfl, hb⟩; refine ⟨_, rfl, ?_⟩; have n0_ := Aside0.mk (below_step (by repeat (first | (with_reducible first | exact HB.out | apply below_alloc | apply pw_below_drewN | apply below_drew1) | exact HB.out)) hb); clear HB; have HB := n0_; clear n0_; (try clear hb); (try clear hb2); (try clear hk); (try clear hi)) | ((with_reducible refine gate_callee (f := 105) rfl ?_); refine goesL_ (some 21) rfl rfl Try.func105 (by kernel_rfl) rfl #[.int .i64 a0, .int .i64 a1] rfl (by (try simp only [List.map_toArray, List.map_cons, List.map_nil]); first | done | rfl | (simp only [List.length_drop, List.length_take]; rfl)) ?_; (with_reducible refine (sashref12_Sizes.calls k a0 a1 t1269 t1270 t1271 _ A4.out).mono ?_); rintro e w' ⟨rfl, ⟨nd, rfl⟩⟩; refine ⟨_, rfl, ?_⟩) | (go_at_call 106; (with_reducible refine (sashlaw12_awake.calls k  t1273 _ A21.out).mono ?_); rintro e w23 ⟨rfl, hb⟩; have n0_ := Aside0.mk (below_step (by repeat (first | (with_reducible first | exact HB.out | apply below_alloc | apply pw_below_drewN | apply below_drew1) | exact HB.out)) hb); clear HB; have HB := n0_; clear n0_; (try clear hb); (try clear hb2); (try clear hk); (try clear hi)))
         go_ret
         exact ⟨by first | rfl | (simp [errW_none, errW_some] <;> rfl) | (simp [*, errW_none, errW_some] <;> rfl), by repeat (first | (with_reducible first | exact HB.out | apply below_alloc | apply pw_below_drewN | apply below_drew1) | exact HB.out)⟩
       ·rw [if_neg c12] at H
        have c12b0 : (t1266 == (wrap64 ((wrap64 (a0 - 1)) - t1267))) = false := beq_eq_false_iff_ne.mpr c12
        have c12b1 : (t1266 != (wrap64 ((wrap64 (a0 - 1)) - t1267))) = true := bne_iff_ne.mpr c12
        obtain rfl := Option.some.inj H
        go_enter Try.func25, Try.ntmps25
        go_wp2_with (first | ((with_reducible refine gate_callee (f := 104) rfl ?_); refine goesL_ (some 14) rfl rfl Try.func104 (by kernel_rfl) rfl #[.int .i64 a0, .int .i64 a1] rfl (by (try simp only [List.map_toArray, List.map_cons, List.map_nil]); first | done | rfl | (simp only [List.length_drop, List.length_take]; rfl)) ?_; (with_reducible refine (split_Sizes.calls k a0 a1 t1266 t1267 true _ A3.out).mono ?_); rintro e w24 ⟨rfl, hb⟩; refine ⟨_, rfl, ?_⟩; have n0_ := Aside0.mk (below_step (by repeat (first | (with_reducible first | exact HB.out | apply below_alloc | apply pw_below_drewN | apply below_drew1) | exact HB.out)) hb); clear HB; have HB := n0_; clear n0_; (try clear hb); (try clear hb2); (try clear hk); (try clear hi)) | ((with_reducible refine gate_callee (f := 105) rfl ?_); refine goesL_ (some 21) rfl rfl Try.func105 (by kernel_rfl) rfl #[.int .i64 a0, .int .i64 a1] rfl (by (try simp only [List.map_toArray, List.map_cons, List.map_nil]); first | done | rfl | (simp only [List.length_drop, List.length_take]; rfl)) ?_; (with_reducible refine (sashref12_Sizes.calls k a0 a1 t1269 t1270 t1271 _ A4.out).mono ?_); rintro e w' ⟨rfl, ⟨nd, rfl⟩⟩; refine ⟨_, rfl, ?_⟩))
        go_ret
        exact ⟨by first | rfl | (simp [errW_none, errW_some] <;> rfl) | (simp [*, errW_none, errW_some] <;> rfl), by repeat (first | (with_reducible first | exact HB.out | apply below_alloc | apply pw_below_drewN | apply below_drew1) | exact HB.out)⟩
      ·rw [if_neg c11] at H
       have c11b0 : decide (1 ≤ t1267) = false := decide_eq_false c11
       clear c11
       obtain rfl := Option.some.inj H
       go_enter Try.func25, Try.ntmps25
       go_wp2_with (first | ((with_reducible refine gate_callee (f := 104) rfl ?_); refine goesL_ (some 14) rfl rfl Try.func104 (by kernel_rfl) rfl #[.int .i64 a0, .int .i64 a1] rfl (by (try simp only [List.map_toArray, List.map_cons, List.map_nil]); first | done | rfl | (simp only [List.length_drop, List.length_take]; rfl)) ?_; (with_reducible refine (split_Sizes.calls k a0 a1 t1266 t1267 true _ A3.out).mono ?_); rintro e w25 ⟨rfl, hb⟩; refine ⟨_, rfl, ?_⟩; have n0_ := Aside0.mk (below_step (by repeat (first | (with_reducible first | exact HB.out | apply below_alloc | apply pw_below_drewN | apply below_drew1) | exact HB.out)) hb); clear HB; have HB := n0_; clear n0_; (try clear hb); (try clear hb2); (try clear hk); (try clear hi)) | ((with_reducible refine gate_callee (f := 105) rfl ?_); refine goesL_ (some 21) rfl rfl Try.func105 (by kernel_rfl) rfl #[.int .i64 a0, .int .i64 a1] rfl (by (try simp only [List.map_toArray, List.map_cons, List.map_nil]); first | done | rfl | (simp only [List.length_drop, List.length_take]; rfl)) ?_; (with_reducible refine (sashref12_Sizes.calls k a0 a1 t1269 t1270 t1271 _ A4.out).mono ?_); rintro e w' ⟨rfl, ⟨nd, rfl⟩⟩; refine ⟨_, rfl, ?_⟩))
       go_ret
       exact ⟨by first | rfl | (simp [errW_none, errW_some] <;> rfl) | (simp [*, errW_none, errW_some] <;> rfl), by repeat (first | (with_reducible first | exact HB.out | apply below_alloc | apply pw_below_drewN | apply below_drew1) | exact HB.out)⟩
     ·rw [if_neg c10] at H
      have c10b0 : decide (1 ≤ t1266) = false := decide_eq_false c10
      clear c10
      obtain rfl := Option.some.inj H
      go_enter Try.func25, Try.ntmps25
      go_wp2_with (first | ((with_reducible refine gate_callee (f := 104) rfl ?_); refine goesL_ (some 14) rfl rfl Try.func104 (by kernel_rfl) rfl #[.int .i64 a0, .int .i64 a1] rfl (by (try simp only [List.map_toArray, List.map_cons, List.map_nil]); first | done | rfl | (simp only [List.length_drop, List.length_take]; rfl)) ?_; (with_reducible refine (split_Sizes.calls k a0 a1 t1266 t1267 true _ A3.out).mono ?_); rintro e w26 ⟨rfl, hb⟩; refine ⟨_, rfl, ?_⟩; have n0_ := Aside0.mk (below_step (by repeat (first | (with_reducible first | exact HB.out | apply below_alloc | apply pw_below_drewN | apply below_drew1) | exact HB.out)) hb); clear HB; have HB := n0_; clear n0_; (try clear hb); (try clear hb2); (try clear hk); (try clear hi)) | ((with_reducible refine gate_callee (f := 105) rfl ?_); refine goesL_ (some 21) rfl rfl Try.func105 (by kernel_rfl) rfl #[.int .i64 a0, .int .i64 a1] rfl (by (try simp only [List.map_toArray, List.map_cons, List.map_nil]); first | done | rfl | (simp only [List.length_drop, List.length_take]; rfl)) ?_; (with_reducible refine (sashref12_Sizes.calls k a0 a1 t1269 t1270 t1271 _ A4.out).mono ?_); rintro e w' ⟨rfl, ⟨nd, rfl⟩⟩; refine ⟨_, rfl, ?_⟩))
      go_ret
      exact ⟨by first | rfl | (simp [errW_none, errW_some] <;> rfl) | (simp [*, errW_none, errW_some] <;> rfl), by repeat (first | (with_reducible first | exact HB.out | apply below_alloc | apply pw_below_drewN | apply below_drew1) | exact HB.out)⟩
    ·replace c9 := Bool.eq_false_iff.mpr c9
     subst c9
     have H1 : ((sashlaw12_awake.f k).bind fun t1274 => (some t1274)) = some r := by rw [if_neg (show ¬ (false = true) by decide)] at H; exact H
     clear H
     have H := H1
     clear H1
     replace H := Option.bind_eq_some_iff.mp H
     obtain ⟨t1274, A270, H⟩ := H
     replace H : (some t1274) = some r := H
     have A27 := Aside0.mk A270
     clear A270
     obtain rfl := Option.some.inj H
     go_enter Try.func25, Try.ntmps25
     go_wp2_with (first | ((with_reducible refine gate_callee (f := 104) rfl ?_); refine goesL_ (some 14) rfl rfl Try.func104 (by kernel_rfl) rfl #[.int .i64 a0, .int .i64 a1] rfl (by (try simp only [List.map_toArray, List.map_cons, List.map_nil]); first | done | rfl | (simp only [List.length_drop, List.length_take]; rfl)) ?_; (with_reducible refine (split_Sizes.calls k a0 a1 t1266 t1267 false _ A3.out).mono ?_); rintro e w28 ⟨rfl, hb⟩; refine ⟨_, rfl, ?_⟩; have n0_ := Aside0.mk (below_step (by repeat (first | (with_reducible first | exact HB.out | apply below_alloc | apply pw_below_drewN | apply below_drew1) | exact HB.out)) hb); clear HB; have HB := n0_; clear n0_; (try clear hb); (try clear hb2); (try clear hk); (try clear hi)) | ((with_reducible refine gate_callee (f := 105) rfl ?_); refine goesL_ (some 21) rfl rfl Try.func105 (by kernel_rfl) rfl #[.int .i64 a0, .int .i64 a1] rfl (by (try simp only [List.map_toArray, List.map_cons, List.map_nil]); first | done | rfl | (simp only [List.length_drop, List.length_take]; rfl)) ?_; (with_reducible refine (sashref12_Sizes.calls k a0 a1 t1269 t1270 t1271 _ A4.out).mono ?_); rintro e w' ⟨rfl, ⟨nd, rfl⟩⟩; refine ⟨_, rfl, ?_⟩) | (go_at_call 106; (with_reducible refine (sashlaw12_awake.calls k  t1274 _ A27.out).mono ?_); rintro e w29 ⟨rfl, hb⟩; have n0_ := Aside0.mk (below_step (by repeat (first | (with_reducible first | exact HB.out | apply below_alloc | apply pw_below_drewN | apply below_drew1) | exact HB.out)) hb); clear HB; have HB := n0_; clear n0_; (try clear hb); (try clear hb2); (try clear hk); (try clear hi)))
     go_ret
     exact ⟨by first | rfl | (simp [errW_none, errW_some] <;> rfl) | (simp [*, errW_none, errW_some] <;> rfl), by repeat (first | (with_reducible first | exact HB.out | apply below_alloc | apply pw_below_drewN | apply below_drew1) | exact HB.out)⟩
  ·rw [if_neg c6] at H
   have c6b0 : (t1267 == t1270) = false := beq_eq_false_iff_ne.mpr c6
   have c6b1 : (t1267 != t1270) = true := bne_iff_ne.mpr c6
   obtain rfl := Option.some.inj H
   go_enter Try.func25, Try.ntmps25
   go_wp2_with (first | ((with_reducible refine gate_callee (f := 104) rfl ?_); refine goesL_ (some 14) rfl rfl Try.func104 (by kernel_rfl) rfl #[.int .i64 a0, .int .i64 a1] rfl (by (try simp only [List.map_toArray, List.map_cons, List.map_nil]); first | done | rfl | (simp only [List.length_drop, List.length_take]; rfl)) ?_; (with_reducible refine (split_Sizes.calls k a0 a1 t1266 t1267 t1268 _ A3.out).mono ?_); rintro e w30 ⟨rfl, hb⟩; refine ⟨_, rfl, ?_⟩; have n0_ := Aside0.mk (below_step (by repeat (first | (with_reducible first | exact HB.out | apply below_alloc | apply pw_below_drewN | apply below_drew1) | exact HB.out)) hb); clear HB; have HB := n0_; clear n0_; (try clear hb); (try clear hb2); (try clear hk); (try clear hi)) | ((with_reducible refine gate_callee (f := 105) rfl ?_); refine goesL_ (some 21) rfl rfl Try.func105 (by kernel_rfl) rfl #[.int .i64 a0, .int .i64 a1] rfl (by (try simp only [List.map_toArray, List.map_cons, List.map_nil]); first | done | rfl | (simp only [List.length_drop, List.length_take]; rfl)) ?_; (with_reducible refine (sashref12_Sizes.calls k a0 a1 t1269 t1270 t1271 _ A4.out).mono ?_); rintro e w' ⟨rfl, ⟨nd, rfl⟩⟩; refine ⟨_, rfl, ?_⟩))
   go_ret
   exact ⟨by first | rfl | (simp [errW_none, errW_some] <;> rfl) | (simp [*, errW_none, errW_some] <;> rfl), by repeat (first | (with_reducible first | exact HB.out | apply below_alloc | apply pw_below_drewN | apply below_drew1) | exact HB.out)⟩
 ·rw [if_neg c5] at H
  have c5b0 : (t1266 == t1269) = false := beq_eq_false_iff_ne.mpr c5
  have c5b1 : (t1266 != t1269) = true := bne_iff_ne.mpr c5
  obtain rfl := Option.some.inj H
  go_enter Try.func25, Try.ntmps25
  go_wp2_with (first | ((with_reducible refine gate_callee (f := 104) rfl ?_); refine goesL_ (some 14) rfl rfl Try.func104 (by kernel_rfl) rfl #[.int .i64 a0, .int .i64 a1] rfl (by (try simp only [List.map_toArray, List.map_cons, List.map_nil]); first | done | rfl | (simp only [List.length_drop, List.length_take]; rfl)) ?_; (with_reducible refine (split_Sizes.calls k a0 a1 t1266 t1267 t1268 _ A3.out).mono ?_); rintro e w31 ⟨rfl, hb⟩; refine ⟨_, rfl, ?_⟩; have n0_ := Aside0.mk (below_step (by repeat (first | (with_reducible first | exact HB.out | apply below_alloc | apply pw_below_drewN | apply below_drew1) | exact HB.out)) hb); clear HB; have HB := n0_; clear n0_; (try clear hb); (try clear hb2); (try clear hk); (try clear hi)) | ((with_reducible refine gate_callee (f := 105) rfl ?_); refine goesL_ (some 21) rfl rfl Try.func105 (by kernel_rfl) rfl #[.int .i64 a0, .int .i64 a1] rfl (by (try simp only [List.map_toArray, List.map_cons, List.map_nil]); first | done | rfl | (simp only [List.length_drop, List.length_take]; rfl)) ?_; (with_reducible refine (sashref12_Sizes.calls k a0 a1 t1269 t1270 t1271 _ A4.out).mono ?_); rintro e w' ⟨rfl, ⟨nd, rfl⟩⟩; refine ⟨_, rfl, ?_⟩))
  go_ret
  exact ⟨by first | rfl | (simp [errW_none, errW_some] <;> rfl) | (simp [*, errW_none, errW_some] <;> rfl), by repeat (first | (with_reducible first | exact HB.out | apply below_alloc | apply pw_below_drewN | apply below_drew1) | exact HB.out)⟩

/-- THE ONE PURE STATEMENT of sashlaw12_SplitSizes: yours. -/
def sashlaw12_SplitSizes.Pure : Prop := ∀ (a0 : Int) (a1 : Int), (Lit.int .i64 a0).wf = true → (Lit.int .i64 a1).wf = true → ∃ k, sashlaw12_SplitSizes.f k a0 a1 = some true
theorem sashlaw12_SplitSizes.walk (P : sashlaw12_SplitSizes.Pure) (a0 : Int) (a1 : Int) (w : World) (w0 : (Lit.int .i64 a0).wf = true) (w1 : (Lit.int .i64 a1).wf = true) :
  Calls Try.prog 25 #[.int .i64 a0, .int .i64 a1] w fun e w' => e = .returned (.bool true) ∧ Below w.heap.size w w' := by
 obtain ⟨k, h⟩ := P a0 a1 w0 w1
 refine (sashlaw12_SplitSizes.calls k a0 a1 true w h).mono ?_
 rintro e w' ⟨rfl, hd⟩
 exact ⟨rfl, hd⟩

end Go.Proofs.Ytfdmfgaiblfbhaa.P
/- What both have, by the code and by the reference: plain data. The document's example of chapter 12 holds. -/
namespace Go.Proofs.Ytfdmfgaiblfbhaa.P
open Go.RowKit Go.Proofs.YtfdmfgaiblfbhaaW.PrintWords Go.Proofs.YtfdmfgaiblfbhaaW.PrintLast Go.Proofs.YtfdmfgaiblfbhaaW.PrintMore
def newS (s size : Int) : Int := if size = 0 then s / 2 + s % 2 - 1 else max 1 (min size (s - 2))
def bothS (s size : Int) : Int × Int × Bool := if s < 3 ∨ size < 0 then (0, 0, false) else (s - 1 - newS s size, newS s size, true)
theorem newS_bd {s size : Int} (h3 : 3 ≤ s) (_ : 0 ≤ size) : 1 ≤ newS s size ∧ newS s size ≤ s - 2 := by
  unfold newS
  split <;> omega
theorem tdiv2 {s : Int} (h : 0 ≤ s) : Int.tdiv s 2 = s / 2 := Int.tdiv_eq_ediv_of_nonneg h
theorem tmod2 {s : Int} (h : 0 ≤ s) : Int.tmod s 2 = s % 2 := Int.tmod_eq_emod_of_nonneg h
theorem mxmax (a b : Int) : mx a b = max a b := by unfold mx; split <;> omega
theorem mnmin (a b : Int) : mn a b = min a b := by unfold mn; split <;> omega
theorem sizes12_ev (s size : Int) (hs : I64 s) (hz : I64 size) : Ev (fun k => split_Sizes.f k s size) (bothS s size) := by
  unfold I64 at hs hz
  have no : Ev (fun k => split_Sizes.j0 k s size true) (0, 0, false) := by
    refine Ev.step (f := fun _ => some (0, 0, false)) (fun k => ?_) (Ev.now _)
    simp only [split_Sizes.j0]
    rw [if_pos trivial]
  unfold bothS split_Sizes.f
  by_cases h3 : s < 3
  · rw [if_pos (.inl h3)]
    exact ev_pos h3 no
  · refine ev_neg h3 ?_
    by_cases h0 : size < 0
    · rw [if_pos (.inr h0), decide_eq_true h0]
      exact no
    · rw [if_neg (fun h => h.elim h3 h0), decide_eq_false h0]
      have hb := newS_bd (s := s) (size := size) (by omega) (by omega)
      refine Ev.step (f := fun _ => some (s - 1 - newS s size, newS s size, true)) (fun k => ?_) (Ev.now _)
      simp only [split_Sizes.j0]
      rw [if_neg (by simp)]
      unfold newS at hb ⊢
      by_cases hz0 : size = 0
      · rw [if_pos hz0] at hb
        rw [if_pos hz0, if_pos hz0, tdiv2 (by omega), tmod2 (by omega), wq (x := s / 2) (by omega) (by omega), wq (x := s / 2 + s % 2) (by omega) (by omega), wq (x := s / 2 + s % 2 - 1) (by omega) (by omega), wq (x := s - 1) (by omega) (by omega), wq (by omega) (by omega)]
      · rw [if_neg hz0] at hb
        rw [if_neg hz0, if_neg hz0, mxmax, mnmin, wq (x := s - 2) (by omega) (by omega), wq (x := s - 1) (by omega) (by omega), wq (by omega) (by omega)]
theorem rsizes12_ev (s size : Int) (hs : I64 s) (_ : I64 size) : Ev (fun k => sashref12_Sizes.f k s size) (bothS s size) := by
  unfold I64 at hs
  have no : Ev (fun k => sashref12_Sizes.j0 k s size true) (0, 0, false) := by
    refine Ev.step (f := fun _ => some (0, 0, false)) (fun k => ?_) (Ev.now _)
    simp only [sashref12_Sizes.j0]
    rw [if_pos trivial]
  unfold bothS sashref12_Sizes.f
  by_cases h3 : s < 3
  · rw [if_pos (.inl h3)]
    exact ev_pos h3 no
  · refine ev_neg h3 ?_
    by_cases h0 : size < 0
    · rw [if_pos (.inr h0), decide_eq_true h0]
      exact no
    · rw [if_neg (fun h => h.elim h3 h0), decide_eq_false h0]
      have j1 : ∀ n : Int, max 1 (min n (s - 2)) = newS s size → Ev (fun k => sashref12_Sizes.j1 k s n) (s - 1 - newS s size, newS s size, true) := by
        intro n hn
        refine Ev.step (f := fun _ => some (s - 1 - newS s size, newS s size, true)) (fun k => ?_) (Ev.now _)
        have hw : wrap64 (s - 2) = s - 2 := wq (by omega) (by omega)
        have hw1 : wrap64 (s - 1) = s - 1 := wq (by omega) (by omega)
        simp only [sashref12_Sizes.j1]
        rw [hw, hw1, ← hn]
        by_cases n1 : n < 1
        · rw [if_pos n1, if_neg (by omega), wq (by omega) (by omega), show max 1 (min n (s - 2)) = 1 from by omega]
        · rw [if_neg n1]
          by_cases n2 : n > s - 2
          · rw [if_pos n2, wq (by omega) (by omega), show max 1 (min n (s - 2)) = s - 2 from by omega]
          · rw [if_neg n2, wq (by omega) (by omega), show max 1 (min n (s - 2)) = n from by omega]
      by_cases hz0 : size = 0
      · have ht := tdiv2 (s := s) (by omega)
        have hm := tmod2 (s := s) (by omega)
        by_cases hodd : s % 2 = 1
        · refine Ev.step (fun k => ?_) (j1 (s / 2) (by unfold newS; rw [if_pos hz0]; omega))
          simp only [sashref12_Sizes.j0]
          rw [if_neg (by simp), if_pos hz0, ht, hm, if_pos hodd, wq (by omega) (by omega)]
        · refine Ev.step (fun k => ?_) (j1 (s / 2 - 1) (by unfold newS; rw [if_pos hz0]; omega))
          simp only [sashref12_Sizes.j0]
          rw [if_neg (by simp), if_pos hz0, ht, hm, if_neg hodd, wq (x := s / 2) (by omega) (by omega), wq (by omega) (by omega)]
      · refine Ev.step (fun k => ?_) (j1 size (by unfold newS; rw [if_neg hz0]))
        simp only [sashref12_Sizes.j0]
        rw [if_neg (by simp), if_neg hz0]
def leaf12 : S26 := ⟨1, ⟨0, 0, 3, 3⟩, 4, []⟩
theorem tiles_leaf12 : tilesC leaf12 = true := by
  unfold tilesC tilesB oneB oneT
  rw [show mayC leaf12 = true from by decide +kernel, show allC leaf12 = [leaf12] from by rw [allC_eq]; show leaf12 :: allL [] = _; rw [allL_nil]]
  simp [leaf12]
theorem can12 : canC 4 [2] leaf12 = true := by
  unfold canC
  rw [tiles_leaf12]
  decide +kernel
theorem awake12 : Ev (fun k => sashlaw12_awake.f k) true := by
  unfold sashlaw12_awake.f
  have e := sizes12_ev 80 0 (by unfold I64; omega) (by unfold I64; omega)
  rw [show bothS 80 0 = (40, 39, true) from by decide +kernel] at e
  have hc : split_Can.f 1 0 0 3 3 4 ([] : List S26) 4 [2] = some true := by
    unfold split_Can.f
    rw [if_pos (by decide +kernel)]
    exact congrArg some can12
  exact Ev.bind e (ev_pos rfl (ev_pos rfl (ev_pos rfl (Ev.bind (ev_some fun _ => hc) (Ev.now _)))))
end Go.Proofs.Ytfdmfgaiblfbhaa.P
/- SplitSizes, the plain law: what both have of any size is the reference's: together as much, less what is between; each at least 1. No condition. -/
namespace Go.Proofs.Ytfdmfgaiblfbhaa.Pure
open Go.RowKit Go.Proofs.Ytfdmfgaiblfbhaa.P Go.Proofs.YtfdmfgaiblfbhaaW.PrintWords Go.Proofs.YtfdmfgaiblfbhaaW.PrintLast Go.Proofs.YtfdmfgaiblfbhaaW.PrintMore
theorem SplitSizes : ∀ (a0 : Int) (a1 : Int), I64 a0 → I64 a1 → ∃ k, sashlaw12_SplitSizes.f k a0 a1 = some true := by
  intro s size hs hz
  refine Ev.rounds (g := fun k => sashlaw12_SplitSizes.f k s size) ?_
  unfold sashlaw12_SplitSizes.f
  have aw : Ev (fun k => (sashlaw12_awake.f k).bind fun t => some t) true := Ev.bind awake12 (Ev.now _)
  refine Ev.bind (sizes12_ev s size hs hz) (Ev.bind (rsizes12_ev s size hs hz) (ev_pos rfl (ev_pos rfl (ev_neg (by simp) ?_))))
  unfold I64 at hs hz
  unfold bothS
  by_cases h : s < 3 ∨ size < 0
  · rw [if_pos h]
    exact ev_neg (by simp) aw
  · rw [if_neg h]
    have hb := newS_bd (s := s) (size := size) (by omega) (by omega)
    refine ev_pos rfl (ev_pos (by show s - 1 - newS s size ≥ 1; omega) (ev_pos hb.1 (ev_pos ?_ ?_)))
    · show s - 1 - newS s size = wrap64 (wrap64 (s - 1) - newS s size)
      rw [wq (x := s - 1) (by omega) (by omega), wq (by omega) (by omega)]
    · by_cases hz0 : size = 0
      · have hn : newS s size = s / 2 + s % 2 - 1 := by unfold newS; rw [if_pos hz0]
        refine ev_pos hz0 (ev_pos ?_ (ev_pos ?_ aw))
        · show wrap64 (s - 1 - newS s size - newS s size) ≤ 1
          rw [wq (by omega) (by omega)]
          omega
        · show wrap64 (s - 1 - newS s size - newS s size) ≥ 0
          rw [wq (by omega) (by omega)]
          omega
      · exact ev_neg hz0 aw
end Go.Proofs.Ytfdmfgaiblfbhaa.Pure
/- Facts on the program's head, each once: the head's text as a row of signs, its words; what follows of them. -/
namespace Go.Proofs.Ytfdmfgaiblfbhaa.P
open Go.RowKit
def headSigns : List Char := [104, 97, 114, 110, 101, 115, 115, 32, 57, 48, 98, 52, 50, 100, 98, 100, 99, 50, 52, 54, 55, 51, 50, 51, 56, 57, 50, 48, 100, 50, 50, 98, 56, 57, 53, 102, 48, 48, 55, 48, 53, 101, 102, 48, 53, 53, 102, 54, 54, 55, 97, 57, 54, 56, 100, 50, 56, 97, 57, 52, 55, 52, 56, 57, 49, 49, 48, 97, 48, 101, 53, 55, 32, 99, 117, 116, 32, 97, 116, 32, 115, 97, 115, 104, 47, 115, 97, 115, 104, 108, 97, 119, 48, 55, 46, 70, 108, 97, 116, 78, 101, 120, 116, 115, 32, 115, 97, 115, 104, 47, 115, 97, 115, 104, 108, 97, 119, 48, 55, 46, 70, 108, 97, 116, 76, 105, 115, 116, 115, 32, 115, 97, 115, 104, 47, 115, 97, 115, 104, 108, 97, 119, 48, 52, 46, 82, 101, 99, 116, 67, 117, 116, 115, 32, 115, 97, 115, 104, 47, 115, 97, 115, 104, 108, 97, 119, 48, 57, 46, 65, 100, 106, 117, 115, 116, 83, 104, 97, 114, 101, 115, 32, 115, 97, 115, 104, 47, 115, 97, 115, 104, 108, 97, 119, 48, 57, 46, 65, 100, 106, 117, 115, 116, 69, 118, 101, 110, 115, 32, 115, 97, 115, 104, 47, 115, 97, 115, 104, 108, 97, 119, 49, 54, 46, 83, 112, 114, 101, 97, 100, 83, 105, 122, 101, 115, 32, 115, 97, 115, 104, 47, 115, 97, 115, 104, 108, 97, 119, 48, 55, 46, 70, 108, 97, 116, 67, 104, 97, 110, 103, 101, 115, 32, 115, 97, 115, 104, 47, 115, 97, 115, 104, 108, 97, 119, 48, 52, 46, 82, 101, 99, 116, 73, 110, 115, 105, 100, 101, 32, 115, 97, 115, 104, 47, 115, 97, 115, 104, 108, 97, 119, 48, 55, 46, 70, 108, 97, 116, 78, 97, 109, 101, 115, 32, 115, 97, 115, 104, 47, 115, 97, 115, 104, 108, 97, 119, 48, 57, 46, 65, 100, 106, 117, 115, 116, 83, 101, 116, 115, 32, 115, 97, 115, 104, 47, 115, 97, 115, 104, 108, 97, 119, 48, 52, 46, 82, 101, 99, 116, 77, 101, 101, 116, 115, 32, 115, 97, 115, 104, 47, 115, 97, 115, 104, 108, 97, 119, 48, 52, 46, 82, 101, 99, 116, 77, 97, 121, 115, 32, 115, 97, 115, 104, 47, 115, 97, 115, 104, 108, 97, 119, 48, 55, 46, 70, 108, 97, 116, 83, 116, 105, 108, 108, 32, 115, 97, 115, 104, 47, 115, 97, 115, 104, 108, 97, 119, 48, 53, 46, 67, 101, 108, 108, 77, 97, 121, 115, 32, 115, 97, 115, 104, 47, 115, 97, 115, 104, 108, 97, 119, 48, 53, 46, 67, 101, 108, 108, 83, 97, 109, 101, 32, 115, 97, 115, 104, 47, 115, 97, 115, 104, 108, 97, 119, 48, 53, 46, 67, 101, 108, 108, 67, 111, 117, 110, 116, 115, 32, 115, 97, 115, 104, 47, 115, 97, 115, 104, 108, 97, 119, 48, 56, 46, 76, 101, 97, 115, 116, 83, 117, 109, 115, 32, 115, 97, 115, 104, 47, 115, 97, 115, 104, 108, 97, 119, 48, 53, 46, 67, 101, 108, 108, 70, 105, 110, 100, 115, 32, 115, 97, 115, 104, 47, 115, 97, 115, 104, 108, 97, 119, 48, 56, 46, 76, 101, 97, 115, 116, 73, 115, 32, 115, 97, 115, 104, 47, 115, 97, 115, 104, 108, 97, 119, 48, 56, 46, 76, 101, 97, 115, 116, 70, 105, 116, 115, 32, 115, 97, 115, 104, 47, 115, 97, 115, 104, 108, 97, 119, 48, 56, 46, 76, 101, 97, 115, 116, 80, 97, 116, 104, 115, 32, 115, 97, 115, 104, 47, 115, 97, 115, 104, 108, 97, 119, 48, 53, 46, 67, 101, 108, 108, 80, 117, 116, 115, 32, 115, 97, 115, 104, 47, 115, 97, 115, 104, 108, 97, 119, 49, 50, 46, 83, 112, 108, 105, 116, 83, 105, 122, 101, 115, 32, 115, 97, 115, 104, 47, 115, 97, 115, 104, 108, 97, 119, 49, 54, 46, 83, 112, 114, 101, 97, 100, 65, 108, 108, 32, 115, 97, 115, 104, 47, 115, 97, 115, 104, 108, 97, 119, 49, 54, 46, 83, 112, 114, 101, 97, 100, 65, 116, 32, 115, 97, 115, 104, 47, 115, 97, 115, 104, 108, 97, 119, 49, 52, 46, 80, 117, 115, 104, 73, 115, 32, 115, 97, 115, 104, 47, 115, 97, 115, 104, 108, 97, 119, 49, 52, 46, 80, 117, 115, 104, 79, 110, 101, 32, 115, 97, 115, 104, 47, 115, 97, 115, 104, 108, 97, 119, 49, 52, 46, 80, 117, 115, 104, 70, 114, 97, 109, 101, 115, 32, 115, 97, 115, 104, 47, 115, 97, 115, 104, 108, 97, 119, 49, 52, 46, 80, 117, 115, 104, 67, 97, 110, 32, 115, 97, 115, 104, 47, 115, 97, 115, 104, 108, 97, 119, 49, 50, 46, 83, 112, 108, 105, 116, 73, 115, 32, 115, 97, 115, 104, 47, 115, 97, 115, 104, 108, 97, 119, 49, 50, 46, 83, 112, 108, 105, 116, 67, 97, 110].map Char.ofNat
def headWords : List (List Char) := [[104, 97, 114, 110, 101, 115, 115].map Char.ofNat,
  [57, 48, 98, 52, 50, 100, 98, 100, 99, 50, 52, 54, 55, 51, 50, 51, 56, 57, 50, 48, 100, 50, 50, 98, 56, 57, 53, 102, 48, 48, 55, 48, 53, 101, 102, 48, 53, 53, 102, 54, 54, 55, 97, 57, 54, 56, 100, 50, 56, 97, 57, 52, 55, 52, 56, 57, 49, 49, 48, 97, 48, 101, 53, 55].map Char.ofNat,
  [99, 117, 116].map Char.ofNat,
  [97, 116].map Char.ofNat,
  [115, 97, 115, 104, 47, 115, 97, 115, 104, 108, 97, 119, 48, 55, 46, 70, 108, 97, 116, 78, 101, 120, 116, 115].map Char.ofNat,
  [115, 97, 115, 104, 47, 115, 97, 115, 104, 108, 97, 119, 48, 55, 46, 70, 108, 97, 116, 76, 105, 115, 116, 115].map Char.ofNat,
  [115, 97, 115, 104, 47, 115, 97, 115, 104, 108, 97, 119, 48, 52, 46, 82, 101, 99, 116, 67, 117, 116, 115].map Char.ofNat,
  [115, 97, 115, 104, 47, 115, 97, 115, 104, 108, 97, 119, 48, 57, 46, 65, 100, 106, 117, 115, 116, 83, 104, 97, 114, 101, 115].map Char.ofNat,
  [115, 97, 115, 104, 47, 115, 97, 115, 104, 108, 97, 119, 48, 57, 46, 65, 100, 106, 117, 115, 116, 69, 118, 101, 110, 115].map Char.ofNat,
  [115, 97, 115, 104, 47, 115, 97, 115, 104, 108, 97, 119, 49, 54, 46, 83, 112, 114, 101, 97, 100, 83, 105, 122, 101, 115].map Char.ofNat,
  [115, 97, 115, 104, 47, 115, 97, 115, 104, 108, 97, 119, 48, 55, 46, 70, 108, 97, 116, 67, 104, 97, 110, 103, 101, 115].map Char.ofNat,
  [115, 97, 115, 104, 47, 115, 97, 115, 104, 108, 97, 119, 48, 52, 46, 82, 101, 99, 116, 73, 110, 115, 105, 100, 101].map Char.ofNat,
  [115, 97, 115, 104, 47, 115, 97, 115, 104, 108, 97, 119, 48, 55, 46, 70, 108, 97, 116, 78, 97, 109, 101, 115].map Char.ofNat,
  [115, 97, 115, 104, 47, 115, 97, 115, 104, 108, 97, 119, 48, 57, 46, 65, 100, 106, 117, 115, 116, 83, 101, 116, 115].map Char.ofNat,
  [115, 97, 115, 104, 47, 115, 97, 115, 104, 108, 97, 119, 48, 52, 46, 82, 101, 99, 116, 77, 101, 101, 116, 115].map Char.ofNat,
  [115, 97, 115, 104, 47, 115, 97, 115, 104, 108, 97, 119, 48, 52, 46, 82, 101, 99, 116, 77, 97, 121, 115].map Char.ofNat,
  [115, 97, 115, 104, 47, 115, 97, 115, 104, 108, 97, 119, 48, 55, 46, 70, 108, 97, 116, 83, 116, 105, 108, 108].map Char.ofNat,
  [115, 97, 115, 104, 47, 115, 97, 115, 104, 108, 97, 119, 48, 53, 46, 67, 101, 108, 108, 77, 97, 121, 115].map Char.ofNat,
  [115, 97, 115, 104, 47, 115, 97, 115, 104, 108, 97, 119, 48, 53, 46, 67, 101, 108, 108, 83, 97, 109, 101].map Char.ofNat,
  [115, 97, 115, 104, 47, 115, 97, 115, 104, 108, 97, 119, 48, 53, 46, 67, 101, 108, 108, 67, 111, 117, 110, 116, 115].map Char.ofNat,
  [115, 97, 115, 104, 47, 115, 97, 115, 104, 108, 97, 119, 48, 56, 46, 76, 101, 97, 115, 116, 83, 117, 109, 115].map Char.ofNat,
  [115, 97, 115, 104, 47, 115, 97, 115, 104, 108, 97, 119, 48, 53, 46, 67, 101, 108, 108, 70, 105, 110, 100, 115].map Char.ofNat,
  [115, 97, 115, 104, 47, 115, 97, 115, 104, 108, 97, 119, 48, 56, 46, 76, 101, 97, 115, 116, 73, 115].map Char.ofNat,
  [115, 97, 115, 104, 47, 115, 97, 115, 104, 108, 97, 119, 48, 56, 46, 76, 101, 97, 115, 116, 70, 105, 116, 115].map Char.ofNat,
  [115, 97, 115, 104, 47, 115, 97, 115, 104, 108, 97, 119, 48, 56, 46, 76, 101, 97, 115, 116, 80, 97, 116, 104, 115].map Char.ofNat,
  [115, 97, 115, 104, 47, 115, 97, 115, 104, 108, 97, 119, 48, 53, 46, 67, 101, 108, 108, 80, 117, 116, 115].map Char.ofNat,
  [115, 97, 115, 104, 47, 115, 97, 115, 104, 108, 97, 119, 49, 50, 46, 83, 112, 108, 105, 116, 83, 105, 122, 101, 115].map Char.ofNat,
  [115, 97, 115, 104, 47, 115, 97, 115, 104, 108, 97, 119, 49, 54, 46, 83, 112, 114, 101, 97, 100, 65, 108, 108].map Char.ofNat,
  [115, 97, 115, 104, 47, 115, 97, 115, 104, 108, 97, 119, 49, 54, 46, 83, 112, 114, 101, 97, 100, 65, 116].map Char.ofNat,
  [115, 97, 115, 104, 47, 115, 97, 115, 104, 108, 97, 119, 49, 52, 46, 80, 117, 115, 104, 73, 115].map Char.ofNat,
  [115, 97, 115, 104, 47, 115, 97, 115, 104, 108, 97, 119, 49, 52, 46, 80, 117, 115, 104, 79, 110, 101].map Char.ofNat,
  [115, 97, 115, 104, 47, 115, 97, 115, 104, 108, 97, 119, 49, 52, 46, 80, 117, 115, 104, 70, 114, 97, 109, 101, 115].map Char.ofNat,
  [115, 97, 115, 104, 47, 115, 97, 115, 104, 108, 97, 119, 49, 52, 46, 80, 117, 115, 104, 67, 97, 110].map Char.ofNat,
  [115, 97, 115, 104, 47, 115, 97, 115, 104, 108, 97, 119, 49, 50, 46, 83, 112, 108, 105, 116, 73, 115].map Char.ofNat,
  [115, 97, 115, 104, 47, 115, 97, 115, 104, 108, 97, 119, 49, 50, 46, 83, 112, 108, 105, 116, 67, 97, 110].map Char.ofNat]
theorem head_list : Try.prog.initOrder.toList = headSigns := by
  have e : Try.prog.initOrder = String.ofList headSigns := by kernel_rfl
  rw [e, String.toList_ofList]
theorem head_words : wordsSigns Try.prog.initOrder.toList = headWords := by
  rw [head_list]
  kernel_rfl
def headRest : List (List Char) := headWords.drop 3
theorem head_behind : behindMainWord (wordsSigns Try.prog.initOrder.toList) = ([99, 117, 116].map Char.ofNat) :: headRest := by
  rw [head_words]
  kernel_rfl
theorem cut_eq : ([99, 117, 116].map Char.ofNat : List Char) = "cut".toList := by decide +kernel
theorem head_behind' : behindMainWord (wordsSigns Try.prog.initOrder.toList) = "cut".toList :: headRest := head_behind.trans (congrArg (fun c => c :: headRest) cut_eq)
theorem strip_none (rest : List (List Char)) : stripLifts liftWords ("cut".toList :: rest) = ([], "cut".toList :: rest) := by
  have key : ∀ (l : List String), (l.all fun o => !("cut".toList == o.toList)) = true → stripLifts l ("cut".toList :: rest) = ([], "cut".toList :: rest) := by
    intro l
    induction l with
    | nil => intro _; rfl
    | cons o l ih =>
      intro h
      simp only [List.all_cons, Bool.and_eq_true] at h
      unfold stripLifts
      rw [if_neg (by simpa using h.1)]
      exact ih h.2
  exact key _ (by decide +kernel)
theorem make_of (P : Program) (rest : List (List Char)) (h : behindMainWord (wordsSigns P.initOrder.toList) = "cut".toList :: rest) : P.make = some .cut := by
  unfold Program.make
  rw [h]
  simp only
  have h1 : ("cut".toList == "gc".toList) = false := by decide +kernel
  have h2 : ("cut".toList == "spec".toList) = false := by decide +kernel
  rw [h1, h2, if_neg (by simp), if_pos (by simp)]
theorem lifts_of (P : Program) (rest : List (List Char)) (h : behindMainWord (wordsSigns P.initOrder.toList) = "cut".toList :: rest) : P.headLifts = [] := by
  unfold Program.headLifts
  simp only [h, strip_none]
  simp
theorem final_of (P : Program) (rest : List (List Char)) (h : behindMainWord (wordsSigns P.initOrder.toList) = "cut".toList :: rest) : P.liftsFinal = false := by
  have h1 : (some "cut".toList == some "carried".toList) = false := by decide +kernel
  unfold Program.liftsFinal
  simp only [h, lifts_of P rest h, List.head?_cons, h1, Bool.false_and, List.contains_nil, Bool.or_false]
theorem enter_of (P : Program) (rest : List (List Char)) (h : behindMainWord (wordsSigns P.initOrder.toList) = "cut".toList :: rest) (h1 : P.laysLater = false) (h2 : P.bearsReflect = false) (h3 : P.doorFits [] = true) : P.mayEnter = true := by
  unfold Program.mayEnter
  rw [h]
  simp only [strip_none]
  rw [h1, h2, h3]
  simp
theorem head_make : Try.prog.make = some .cut := make_of Try.prog headRest head_behind'
theorem head_final : Try.prog.liftsFinal = false := final_of Try.prog headRest head_behind'
theorem head_later : Try.prog.laysLater = false := by kernel_rfl
theorem head_reflect : Try.prog.bearsReflect = false := by kernel_rfl
theorem head_door : Try.prog.doorFits [] = true := by kernel_rfl
theorem head_enter : Try.prog.mayEnter = true := enter_of Try.prog headRest head_behind' head_later head_reflect head_door
theorem head_keys : (true == Try.prog.plainKeys) = true := by kernel_rfl
theorem head_heard : Try.prog.stopsHeard = true := by kernel_rfl
end Go.Proofs.Ytfdmfgaiblfbhaa.P
/- joinedFacts out of its parts, over any program. -/
namespace Go.Proofs.Ytfdmfgaiblfbhaa.P
open Go.RowKit
theorem joined_mk {P : Program} {f : FuncId} {fn : Func} {s : ChangeSpec} {c : OpenClaim}
    (h0 : (c.wf (OpenSpec.ofChange s)) = true)
    (h1 : (laidOutB P) = true)
    (h2 : (mapsRowed P) = true)
    (h3 : (fn.params.all (P.readableRec ·)) = true)
    (h4 : (namedTie P c.named s.vars) = true)
    (h5 : ((c.stops == [])) = true)
    (h6 : ((P.stops == [])) = true)
    (h7 : ((c.knobs == [])) = true)
    (h8 : ((P.stopKnobs == [])) = true)
    (h9 : ((c.inPlace == P.inPlace f)) = true)
    (h10 : ((c.unfollowed == P.unfollowed f)) = true)
    (h11 : ((c.recurses == P.recurses f)) = true)
    (h12 : ((c.named == P.varsNamed f)) = true)
    (h13 : ((c.maps == (fn.params.toList ++ s.plain.varTypes P).any (P.mapsRec ·))) = true)
    (h14 : ((c.ifaces == (fn.params.toList ++ s.plain.varTypes P).any (P.ifacesRec ·))) = true)
    (h15 : ((c.mapsOut == P.mapsAmong fn.resultTypes.toList)) = true)
    (h16 : ((c.loops == (fn.params.toList ++ s.plain.varTypes P).any (P.loopsFrom ·))) = true)
    (h17 : ((c.wideKeys == (fn.params.toList ++ s.plain.varTypes P ++ fn.resultTypes.toList).any (P.wideKeysFrom ·))) = true)
    (h18 : (s.vars.all (P.varReadable ·)) = true)
    (h19 : (fn.resultTypes.all (fun t => P.readableRec t && decide (t < P.types.size))) = true)
    (h20 : ((c.ifacesOut == fn.resultTypes.toList.any (P.ifacesRec ·))) = true)
    (h21 : ((c.loopsOut == fn.resultTypes.toList.any (P.loopsFrom ·))) = true)
    (h22 : ((c.plainKeys == P.plainKeys)) = true)
    (h23 : (c.shortTexts.isNone) = true)
    (h24 : (P.stopsHeard) = true)
    (h25 : (P.mayEnter) = true)
    (h26 : ((c.lifted == P.liftsFinal)) = true)
    (h27 : ((P.make == some c.make)) = true)
    (hd : c.domain.isEmpty = true) (hk : c.kinds = [])
    (h29 : ((c.pinned == c.pinnedBy)) = true)
    (h30 : ((c.veiled == (fn.params.toList ++ s.plain.varTypes P ++ fn.resultTypes.toList).any (P.veiledRec ·))) = true)
    (h31 : (c.veiledFits P fn.params.toList (fn.params.toList ++ s.plain.varTypes P ++ fn.resultTypes.toList)) = true)
    : joinedFacts P f fn s c = true := by
  unfold joinedFacts
  rw [h0, h1, h2, h3, h4, h5, h6, h7, h8, h9, h10, h11, h12, h13, h14, h15, h16, h17, h18, h19, h20, h21, h22, h23, h24, h25, h26, h27, if_pos hd, hk, h29, h30, h31]
  rfl
end Go.Proofs.Ytfdmfgaiblfbhaa.P
/- The row of the law SplitSizes, out of its plain law and its walk. -/
namespace Go.Proofs.Ytfdmfgaiblfbhaa.splitSizes
open Go.ChangeShapes Go.WideShapes Go.ChangeAt Go.RowKit Go.Proofs.Ytfdmfgaiblfbhaa.P Go.Proofs.YtfdmfgaiblfbhaaW.PrintWords
open Go.ChangeMaps (open_string shut_string)
theorem own : ownKnob Try.prog.godebug = none := by kernel_rfl
theorem laidOut : laidOutB Try.prog = true := by kernel_rfl
set_option maxRecDepth 100000 in
theorem lifted (os : Os) (started : os.Started) (H : Type) (enc : TypeId × Value → H) :
  ReturnsInHanded {} Try.checked os 25 .any (Rows.splitSizesSpec.pre6 enc Try.prog Try.f25 Rows.splitSizesRow.domain false) (Rows.splitSizesSpec.post enc Try.prog Try.f25 false true false false) := by
 refine returnsInHanded_of_change_sized (C := Try.checked) own started (by kernel_rfl) Try.func25
  (ChangeSpec.witness6 (enc := enc) (C := Try.checked) false ⟨#[], #[.int .i64 0, .int .i64 0], []⟩ 8 (by kernel_rfl) (by kernel_rfl) (by kernel_rfl) (by kernel_rfl)) ?_
 intro W base args ds gs before hval0 hW hcnd hsz0 _
 have hval : ∀ (j : Nat) t v, Try.f25.params[j]? = some t → args[j]? = some v → Value.okWide Try.prog W .any base t v := hval0
 have hW' := hW
 obtain ⟨p, q, hA0, hV, rfl, hfz, hnd⟩ := hW
 have hA : DataW.TrodAll enc Try.prog W 0 (fun _ => true) true Try.f25.params.toList args.toList ds p := hA0
 rw [Try.params25] at hA hval
 obtain ⟨v0, vs0, d0, ds0, p0, q0, hargs, rfl, rfl, h0, r0⟩ := trodAll_cons hA
 obtain ⟨v1, vs1, d1, ds1, p1, q1, rfl, rfl, rfl, h1, r1⟩ := trodAll_cons r0
 obtain ⟨rfl, rfl, rfl⟩ := trodAll_nil r1
 obtain rfl : args = #[v0, v1] := by cases args; simp_all
 obtain ⟨rfl, rfl⟩ := trodVars_none hV
 obtain ⟨a0, rfl, rfl, rfl, w0⟩ := open_int Try.underlying3 (hval 0 3 v0 rfl rfl) h0
 obtain ⟨a1, rfl, rfl, rfl, w1⟩ := open_int Try.underlying3 (hval 1 3 v1 rfl rfl) h1
 obtain ⟨k, hP⟩ := Pure.SplitSizes a0 a1 (i64_of w0) (i64_of w1)
 refine (sashlaw12_SplitSizes.calls k a0 a1 true W  hP).mono fun e W' ⟨he, bel0⟩ => ?_
 have bel : Below W.heap.size W W' := bel0
 subst he
 exact ⟨_, rfl, _, _, _, [], _, [], hW', trodAll_mk1 (shut_bool Try.underlying4 _), (trodAll_cons_mk (shut_int Try.underlying3 w0) (trodAll_cons_mk (shut_int Try.underlying3 w1) trodAll_mk0)), rfl, bel.frame _, fun h => by cases h⟩
theorem j0 : (Rows.splitSizesRow.wf (OpenSpec.ofChange Rows.splitSizesSpec)) = true := by kernel_rfl
theorem j1 : (laidOutB Try.prog) = true := by kernel_rfl
theorem j2 : (mapsRowed Try.prog) = true := by kernel_rfl
theorem j3 : (Try.f25.params.all (Try.prog.readableRec ·)) = true := by kernel_rfl
theorem j4 : (namedTie Try.prog Rows.splitSizesRow.named Rows.splitSizesSpec.vars) = true := by kernel_rfl
theorem j5 : ((Rows.splitSizesRow.stops == [])) = true := by kernel_rfl
theorem j6 : ((Try.prog.stops == [])) = true := by kernel_rfl
theorem j7 : ((Rows.splitSizesRow.knobs == [])) = true := by kernel_rfl
theorem j8 : ((Try.prog.stopKnobs == [])) = true := by kernel_rfl
theorem j9 : ((Rows.splitSizesRow.inPlace == Try.prog.inPlace 25)) = true := by kernel_rfl
theorem j10 : ((Rows.splitSizesRow.unfollowed == Try.prog.unfollowed 25)) = true := by kernel_rfl
theorem j11 : ((Rows.splitSizesRow.recurses == Try.prog.recurses 25)) = true := by kernel_rfl
theorem j12 : ((Rows.splitSizesRow.named == Try.prog.varsNamed 25)) = true := by kernel_rfl
theorem j13 : ((Rows.splitSizesRow.maps == (Try.f25.params.toList ++ Rows.splitSizesSpec.plain.varTypes Try.prog).any (Try.prog.mapsRec ·))) = true := by kernel_rfl
theorem j14 : ((Rows.splitSizesRow.ifaces == (Try.f25.params.toList ++ Rows.splitSizesSpec.plain.varTypes Try.prog).any (Try.prog.ifacesRec ·))) = true := by kernel_rfl
theorem j15 : ((Rows.splitSizesRow.mapsOut == Try.prog.mapsAmong Try.f25.resultTypes.toList)) = true := by kernel_rfl
theorem j16 : ((Rows.splitSizesRow.loops == (Try.f25.params.toList ++ Rows.splitSizesSpec.plain.varTypes Try.prog).any (Try.prog.loopsFrom ·))) = true := by kernel_rfl
theorem j17 : ((Rows.splitSizesRow.wideKeys == (Try.f25.params.toList ++ Rows.splitSizesSpec.plain.varTypes Try.prog ++ Try.f25.resultTypes.toList).any (Try.prog.wideKeysFrom ·))) = true := by kernel_rfl
theorem j18 : (Rows.splitSizesSpec.vars.all (Try.prog.varReadable ·)) = true := by kernel_rfl
theorem j19 : (Try.f25.resultTypes.all (fun t => Try.prog.readableRec t && decide (t < Try.prog.types.size))) = true := by kernel_rfl
theorem j20 : ((Rows.splitSizesRow.ifacesOut == Try.f25.resultTypes.toList.any (Try.prog.ifacesRec ·))) = true := by kernel_rfl
theorem j21 : ((Rows.splitSizesRow.loopsOut == Try.f25.resultTypes.toList.any (Try.prog.loopsFrom ·))) = true := by kernel_rfl
theorem j23 : (Rows.splitSizesRow.shortTexts.isNone) = true := by kernel_rfl
theorem j29 : ((Rows.splitSizesRow.pinned == Rows.splitSizesRow.pinnedBy)) = true := by kernel_rfl
theorem j30 : ((Rows.splitSizesRow.veiled == (Try.f25.params.toList ++ Rows.splitSizesSpec.plain.varTypes Try.prog ++ Try.f25.resultTypes.toList).any (Try.prog.veiledRec ·))) = true := by kernel_rfl
theorem j31 : (Rows.splitSizesRow.veiledFits Try.prog Try.f25.params.toList (Try.f25.params.toList ++ Rows.splitSizesSpec.plain.varTypes Try.prog ++ Try.f25.resultTypes.toList)) = true := by kernel_rfl
theorem closed : joinedFacts Try.prog 25 Try.f25 Rows.splitSizesSpec Rows.splitSizesRow = true := P.joined_mk j0 j1 j2 j3 j4 j5 j6 j7 j8 j9 j10 j11 j12 j13 j14 j15 j16 j17 j18 j19 j20 j21 P.head_keys j23 P.head_heard P.head_enter (by rw [P.head_final]; rfl) (by rw [P.head_make]; rfl) rfl rfl j29 j30 j31
theorem over : Rows.splitSizesRow.holds Try.pinned (OpenSpec.ofChange Rows.splitSizesSpec) :=
 OpenClaim.holds_of_wide 25 Try.f25 rfl rfl rfl rfl rfl rfl rfl ⟨rfl, rfl, rfl, rfl, rfl⟩ rfl rfl rfl rfl rfl (by kernel_rfl) Try.func25 closed
  (of_decide_eq_true (by kernel_rfl)) (by unfold Func.isWrapper; first | (rw [if_pos (by decide +kernel)]; kernel_rfl) | (rw [if_neg (by decide +kernel)]; exact ⟨rfl, rfl⟩))
  (fun os started H enc _ => lifted os started H enc)
theorem proved : Rows.SplitSizesSaid := over
#print axioms proved
end Go.Proofs.Ytfdmfgaiblfbhaa.splitSizes
namespace Go.Proofs.Ytfdmfgaiblfbhaa
/-- The row, under a short name, for the claim. -/
theorem splitSizes_holds : Rows.SplitSizesSaid := splitSizes.proved
end Go.Proofs.Ytfdmfgaiblfbhaa
