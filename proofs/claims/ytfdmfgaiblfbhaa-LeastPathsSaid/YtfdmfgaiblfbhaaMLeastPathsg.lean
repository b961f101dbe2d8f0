/- The row of the law LeastPaths, out of its plain law and its walk. -/
import Derived.Test.YtfdmfgaiblfbhaaMLeastPathsc
import Derived.Test.YtfdmfgaiblfbhaaMLeastPathse
import Derived.Test.YtfdmfgaiblfbhaaMLeastPathsf
import Derived.Test.YtfdmfgaiblfbhaaMLeastPathsd
import Derived.Test.YtfdmfgaiblfbhaaRows
import Derived.ProofKit
import Derived.WalkKit
import Derived.OpenShut
import Derived.ShutString
import Derived.ChangeOld
import Derived.Below
import Derived.SizedLaws
namespace Go.Proofs.Ytfdmfgaiblfbhaa.P
open Go.RowKit Go.Proofs.YtfdmfgaiblfbhaaW.PrintWords Go.Proofs.YtfdmfgaiblfbhaaW.PrintLast Go.Proofs.YtfdmfgaiblfbhaaW.PrintMore
attribute [local go_sem] max2_int min2_int max_two min_two max_three min_three max_four min_four   -- for this text's walks alone
set_option linter.unusedVariables false
set_option linter.unusedSimpArgs false

/-! ### sashlaw08_LeastPaths: function 23 -/
noncomputable def sashlaw08_LeastPaths.j0 : Nat → Int → List Int → Bool → Int → Int → Int → Int → Int → Int → List (S26) → Int → Int → Int → Int → Option (Bool)
 | 0, _, _, _, _, _, _, _, _, _, _, _, _, _, _ => none
 | k + 1, x2, x3, x15, x1153000, x1153001, x1153002, x1153003, x1153004, x1153005, x1153006, x1154000, x1154001, x1154002, x1154003 => if x15 = true then ((sashlaw08_awake.f k).bind fun t1155 => (some t1155)) else ((least_Size.f x1154000 x1154001 x1154002 x1154003 x2).bind fun t1156 => ((sashref08_Size.f x1154000 x1154001 x1154002 x1154003 x2).bind fun t1157 => (if t1156 = t1157 then ((least_Along.f x1153000 x1153001 x1153002 x1153003 x1153004 x1153005 x1153006 x2).bind fun t1158 => ((sashref08_Along.f x1153000 x1153001 x1153002 x1153003 x1153004 x1153005 x1153006 x2).bind fun t1159 => (if (t1158 == t1159) = true then ((least_Path.f k x1153000 x1153001 x1153002 x1153003 x1153004 x1153005 x1153006 x2 x3).bind fun t1160 => ((sashref08_Path.f k x1153000 x1153001 x1153002 x1153003 x1153004 x1153005 x1153006 x2 x3).bind fun t1161 => (if t1160 = t1161 then ((sashlaw08_awake.f k).bind fun t1162 => (some t1162)) else (some false)))) else (some false)))) else (some false))))
noncomputable def sashlaw08_LeastPaths.f (k : Nat) (a0_0 : Int) (a0_1 : Int) (a0_2 : Int) (a0_3 : Int) (a0_4 : Int) (a0_5 : Int) (l0_6 : List (S26)) (a1_0 : Int) (a1_1 : Int) (a1_2 : Int) (a1_3 : Int) (a2 : Int) (l3 : List Int) : Option (Bool) := (sashref05_Great.f k a0_0 a0_1 a0_2 a0_3 a0_4 a0_5 l0_6).bind fun t1154 => (if t1154 = true then (sashlaw08_LeastPaths.j0 k a2 l3 true a0_0 a0_1 a0_2 a0_3 a0_4 a0_5 l0_6 a1_0 a1_1 a1_2 a1_3) else (sashlaw08_LeastPaths.j0 k a2 l3 (decide ((l3.length : Int) > 50)) a0_0 a0_1 a0_2 a0_3 a0_4 a0_5 l0_6 a1_0 a1_1 a1_2 a1_3))
def sashlaw08_LeastPaths.T3 : Bool × List (List Nat × List Nat) := (true, [([], []), ([], []), ([0, 1], [0, 1]), ([], []), ([], []), ([3, 4, 2], [3, 4]), ([2, 5], [2, 5]), ([6, 5], [6]), ([7], [7]), ([7], [7]), ([8, 9, 7, 7], [7, 8, 9]), ([7], [7]), ([7], [7]), ([11, 12, 10, 7], [7, 11, 12]), ([10, 13, 7], [7, 10, 13]), ([7, 14], [7, 14]), ([15, 13], [15]), ([16], [16]), ([16], [16]), ([16], [16]), ([17, 18, 19, 16, 16], [16, 17, 18, 19]), ([16], [16]), ([16], [16]), ([16], [16]), ([21, 22, 23, 20, 16], [16, 21, 22, 23]), ([20, 24, 16], [16, 20, 24]), ([16, 25], [16, 25]), ([26, 24], [26]), ([27, 27], [27]), ([27, 28], [27, 28]), ([29, 28, 0, 1, 2, 3, 4, 5, 6, 7, 8, 9, 10, 11, 12, 13, 14, 15, 16, 17, 18, 19, 20, 21, 22, 23, 24, 25, 26, 27, 28, 29], [29])])
def sashlaw08_LeastPaths.B3 : List Nat := [0, 0, 3, 0, 0, 31, 63, 127, 255, 255, 1023, 255, 255, 8191, 16383, 32767, 65535, 131071, 131071, 131071, 1048575, 131071, 131071, 131071, 16777215, 33554431, 67108863, 134217727, 268435455, 536870911, 1073741823]
theorem sashlaw08_LeastPaths.tab3 : rtab .any (opsOf Try.f23 3) = sashlaw08_LeastPaths.T3 := by kernel_rfl
theorem sashlaw08_LeastPaths.bits3 : waitsOk sashlaw08_LeastPaths.T3.2 sashlaw08_LeastPaths.B3 = true := by kernel_rfl
set_option maxHeartbeats 8000000 in
set_option maxRecDepth 100000 in
theorem sashlaw08_LeastPaths.calls (k : Nat) (a0_0 : Int) (a0_1 : Int) (a0_2 : Int) (a0_3 : Int) (a0_4 : Int) (a0_5 : Int) (A0_6 : Option Addr) (c0_6 : Nat) (l0_6 : List (S26)) (a1_0 : Int) (a1_1 : Int) (a1_2 : Int) (a1_3 : Int) (a2 : Int) (A3 : Option Addr) (c3 : Nat) (l3 : List Int) (r : Bool) (w : World) (hr0_6 : Kd.C k26 w A0_6 l0_6.length l0_6) (hc0_6 : l0_6.length ≤ c0_6) (hr3 : Kd.C (Kd.int .i64) w A3 l3.length l3) (hc3 : l3.length ≤ c3) (h : sashlaw08_LeastPaths.f k a0_0 a0_1 a0_2 a0_3 a0_4 a0_5 l0_6 a1_0 a1_1 a1_2 a1_3 a2 l3 = some r) :
  Calls Try.prog 23 #[.agg #[.int .u8 a0_0, .int .i64 a0_1, .int .i64 a0_2, .int .i64 a0_3, .int .i64 a0_4, .int .i64 a0_5, .slice A0_6 l0_6.length c0_6], .agg #[.int .i64 a1_0, .int .i64 a1_1, .int .i64 a1_2, .int .i64 a1_3], .int .u8 a2, .slice A3 l3.length c3] w fun e w' => e = .returned (.bool r) ∧ Below w.heap.size w w' := by
 have hu26 := Try.underlying26
 have hu23 := Try.underlying23
 have HR0_6 := Aside0.mk hr0_6
 have HC0_6 := Aside0.mk hc0_6
 clear hr0_6 hc0_6
 have HR3 := Aside0.mk hr3
 have HC3 := Aside0.mk hc3
 clear hr3 hc3
 have HB := Aside0.mk (Below.refl w.heap.size w)
 have H : ((sashref05_Great.f k a0_0 a0_1 a0_2 a0_3 a0_4 a0_5 l0_6).bind fun t1154 => (if t1154 = true then (sashlaw08_LeastPaths.j0 k a2 l3 true a0_0 a0_1 a0_2 a0_3 a0_4 a0_5 l0_6 a1_0 a1_1 a1_2 a1_3) else (sashlaw08_LeastPaths.j0 k a2 l3 (decide ((l3.length : Int) > 50)) a0_0 a0_1 a0_2 a0_3 a0_4 a0_5 l0_6 a1_0 a1_1 a1_2 a1_3))) = some r := h
 clear h
 have HC5 := Aside0.mk H
 clear H
 go_enter Try.func23, Try.ntmps23
 go_upto_region 1 with (first | ((with_reducible refine gate_dst (N := 4) rfl ?_); (try (refine gate_guard (by rfl) ?_; dsimp only)); refine box_event ?hg (N := 4) ?hd (cs := #[.int .u8 a0_0, .int .i64 a0_1, .int .i64 a0_2, .int .i64 a0_3, .int .i64 a0_4, .int .i64 a0_5, .slice A0_6 l0_6.length c0_6]) (t := 26) ?hr ?_; (case hd => rfl); (case hg => rfl); (case hr => first | (go_simp; done) | (go_simp; rfl)); intro gb1152 hg w6 hbox hb; have n0_ := Aside0.mk (below_step (by repeat (first | (with_reducible first | exact HB.out | apply below_alloc | apply pw_below_drewN | apply below_drew1) | exact HB.out)) hb); have n1_ := Aside0.mk (hbox); have n2_ := Aside0.mk ((by rw [hg]; exact (below_size (by repeat (first | (with_reducible first | exact HB.out | apply below_alloc | apply pw_below_drewN | apply below_drew1) | exact HB.out))) : w.heap.size ≤ gb1152)); have n3_ := Aside0.mk ((by rw [hg]; exact (below_size (by repeat (first | (with_reducible first | exact HB.out | apply below_alloc | apply pw_below_drewN | apply below_drew1) | exact HB.out))) : w.heap.size ≤ gb1152)); clear HB; have HB := n0_; have BK1152 := n1_; have GW1152 := n2_; have GE1152 := n3_; clear n0_ n1_ n2_ n3_; clear hb hbox hg) | ((with_reducible refine gate_dst (N := 5) rfl ?_); (try (refine gate_guard (by rfl) ?_; dsimp only)); refine box_event ?hg (N := 5) ?hd (cs := #[.int .i64 a1_0, .int .i64 a1_1, .int .i64 a1_2, .int .i64 a1_3]) (t := 23) ?hr ?_; (case hd => rfl); (case hg => rfl); (case hr => first | (go_simp; done) | (go_simp; rfl)); intro gb1153 hg w7 hbox hb; have n0_ := Aside0.mk (blk_below (g := gb1152) (o := .cells #[.int .u8 a0_0, .int .i64 a0_1, .int .i64 a0_2, .int .i64 a0_3, .int .i64 a0_4, .int .i64 a0_5, .slice A0_6 l0_6.length c0_6] 26 (0, 0)) (by (with_reducible repeat (first | refine blk_drewN ?_ _ | refine blk_drew ?_ | refine blk_alloc ?_ _)); exact BK1152.out) hb); have n1_ := Aside0.mk (below_step (by repeat (first | (with_reducible first | exact HB.out | apply below_alloc | apply pw_below_drewN | apply below_drew1 | refine below_set ?_ GE1152.out) | exact HB.out)) hb); have n2_ := Aside0.mk (hbox); have n3_ := Aside0.mk ((by rw [hg]; exact (below_size (by repeat (first | (with_reducible first | exact HB.out | apply below_alloc | apply pw_below_drewN | apply below_drew1 | refine below_set ?_ GE1152.out) | exact HB.out))) : w.heap.size ≤ gb1153)); have n4_ := Aside0.mk ((by rw [hg]; exact (below_size (by repeat (first | (with_reducible first | exact HB.out | apply below_alloc | apply pw_below_drewN | apply below_drew1 | refine below_set ?_ GE1152.out) | exact HB.out))) : w.heap.size ≤ gb1153)); have n5_ := Aside0.mk ((by rw [hg]; exact Nat.ne_of_lt (blk_lt (g := gb1152) (o := .cells #[.int .u8 a0_0, .int .i64 a0_1, .int .i64 a0_2, .int .i64 a0_3, .int .i64 a0_4, .int .i64 a0_5, .slice A0_6 l0_6.length c0_6] 26 (0, 0)) (by (with_reducible repeat (first | refine blk_drewN ?_ _ | refine blk_drew ?_ | refine blk_alloc ?_ _)); exact BK1152.out)) : gb1152 ≠ gb1153)); have n6_ := Aside0.mk ((by rw [hg]; exact Nat.ne_of_gt (blk_lt (g := gb1152) (o := .cells #[.int .u8 a0_0, .int .i64 a0_1, .int .i64 a0_2, .int .i64 a0_3, .int .i64 a0_4, .int .i64 a0_5, .slice A0_6 l0_6.length c0_6] 26 (0, 0)) (by (with_reducible repeat (first | refine blk_drewN ?_ _ | refine blk_drew ?_ | refine blk_alloc ?_ _)); exact BK1152.out)) : gb1153 ≠ gb1152)); clear BK1152; clear HB; have BK1152 := n0_; have HB := n1_; have BK1153 := n2_; have GW1153 := n3_; have GE1153 := n4_; have NB1152_1153 := n5_; have NB1153_1152 := n6_; clear n0_ n1_ n2_ n3_ n4_ n5_ n6_; clear hb hbox hg))
 (try simp only [Act.put, List.setIfInBounds_toArray, List.set_cons_zero, List.set_cons_succ])
 go_cut [15] (fun v15 wc => ∃ (kq : Nat) (x15_4 : Bool), v15 = .bool x15_4 ∧ Aside0 (sashlaw08_LeastPaths.j0 kq a2 l3 x15_4 a0_0 a0_1 a0_2 a0_3 a0_4 a0_5 l0_6 a1_0 a1_1 a1_2 a1_3 = some r) ∧ Aside0 (kq ≤ k) ∧ Aside0 (wc.heap[gb1152]? = some (.cells #[.int .u8 a0_0, .int .i64 a0_1, .int .i64 a0_2, .int .i64 a0_3, .int .i64 a0_4, .int .i64 a0_5, (.slice A0_6 l0_6.length c0_6)] 26 (0, 0))) ∧ Aside0 (wc.heap[gb1153]? = some (.cells #[.int .i64 a1_0, .int .i64 a1_1, .int .i64 a1_2, .int .i64 a1_3] 23 (0, 0))) ∧ Aside0 (Below w.heap.size w wc))
 case first =>
  have H := HC5.out
  clear HC5
  replace H := Option.bind_eq_some_iff.mp H
  obtain ⟨t1154, A80, H⟩ := H
  replace H : (if t1154 = true then (sashlaw08_LeastPaths.j0 k a2 l3 true a0_0 a0_1 a0_2 a0_3 a0_4 a0_5 l0_6 a1_0 a1_1 a1_2 a1_3) else (sashlaw08_LeastPaths.j0 k a2 l3 (decide ((l3.length : Int) > 50)) a0_0 a0_1 a0_2 a0_3 a0_4 a0_5 l0_6 a1_0 a1_1 a1_2 a1_3)) = some r := H
  have A8 := Aside0.mk A80
  clear A80
  by_cases c9 : t1154 = true
  ·subst c9
   have H1 : (sashlaw08_LeastPaths.j0 k a2 l3 true a0_0 a0_1 a0_2 a0_3 a0_4 a0_5 l0_6 a1_0 a1_1 a1_2 a1_3) = some r := by rw [if_pos rfl] at H; exact H
   clear H
   have H := H1
   clear H1
   have H' := Aside0.mk H
   clear H
   have hnb10 := NB1152_1153.out
   have hnc10 := NB1153_1152.out
   have hcz11_0 : w7.cell? ⟨gb1152, 0, none⟩ = some (.int .u8 a0_0) := (blk_cell BK1152.out 0).trans rfl
   have hcz11_1 : w7.cell? ⟨gb1152, 1, none⟩ = some (.int .i64 a0_1) := (blk_cell BK1152.out 1).trans rfl
   have hcz11_2 : w7.cell? ⟨gb1152, 2, none⟩ = some (.int .i64 a0_2) := (blk_cell BK1152.out 2).trans rfl
   have hcz11_3 : w7.cell? ⟨gb1152, 3, none⟩ = some (.int .i64 a0_3) := (blk_cell BK1152.out 3).trans rfl
   have hcz11_4 : w7.cell? ⟨gb1152, 4, none⟩ = some (.int .i64 a0_4) := (blk_cell BK1152.out 4).trans rfl
   have hcz11_5 : w7.cell? ⟨gb1152, 5, none⟩ = some (.int .i64 a0_5) := (blk_cell BK1152.out 5).trans rfl
   have hcz11_6 : w7.cell? ⟨gb1152, 6, none⟩ = some (.slice A0_6 l0_6.length c0_6) := (blk_cell BK1152.out 6).trans rfl
   have hfz11_0 := blk_frozen BK1152.out 0
   have hfz11_1 := blk_frozen BK1152.out 1
   have hfz11_2 := blk_frozen BK1152.out 2
   have hfz11_3 := blk_frozen BK1152.out 3
   have hfz11_4 := blk_frozen BK1152.out 4
   have hfz11_5 := blk_frozen BK1152.out 5
   have hfz11_6 := blk_frozen BK1152.out 6
   go_wp2_with (first | ((with_reducible refine gate_callee (f := 34) rfl ?_); refine goesL_ (some 10) rfl rfl Try.func34 (by kernel_rfl) rfl #[.agg #[.int .u8 a0_0, .int .i64 a0_1, .int .i64 a0_2, .int .i64 a0_3, .int .i64 a0_4, .int .i64 a0_5, .slice A0_6 l0_6.length c0_6]] rfl (by (try simp only [List.map_toArray, List.map_cons, List.map_nil]); first | done | rfl | (simp only [List.length_drop, List.length_take]; rfl)) ?_; (with_reducible refine (sashref05_Great.calls k a0_0 a0_1 a0_2 a0_3 a0_4 a0_5 _ _ l0_6 true _ ?side1 ?side2 A8.out).mono ?_); (case side1 => repeat (first | exact (Kd.C_below HR0_6.out HB.out) | (with_reducible refine Kd.C_alloc ?_ _) | (with_reducible refine Kd.C_drewN ?_ _) | (with_reducible refine Kd.C_drew ?_))); (case side2 => exact HC0_6.out); rintro e w12 ⟨rfl, hb⟩; refine ⟨_, rfl, ?_⟩; have n0_ := Aside0.mk (blk_below (g := gb1152) (o := .cells #[.int .u8 a0_0, .int .i64 a0_1, .int .i64 a0_2, .int .i64 a0_3, .int .i64 a0_4, .int .i64 a0_5, .slice A0_6 l0_6.length c0_6] 26 (0, 0)) (by (with_reducible repeat (first | refine blk_drewN ?_ _ | refine blk_drew ?_ | refine blk_alloc ?_ _)); exact BK1152.out) hb); have n1_ := Aside0.mk (blk_below (g := gb1153) (o := .cells #[.int .i64 a1_0, .int .i64 a1_1, .int .i64 a1_2, .int .i64 a1_3] 23 (0, 0)) (by (with_reducible repeat (first | refine blk_drewN ?_ _ | refine blk_drew ?_ | refine blk_alloc ?_ _)); exact BK1153.out) hb); have n2_ := Aside0.mk (below_step (by repeat (first | (with_reducible first | exact HB.out | apply below_alloc | apply pw_below_drewN | apply below_drew1 | refine below_set ?_ GE1152.out | refine below_set ?_ GE1153.out) | exact HB.out)) hb); clear BK1152; clear BK1153; clear HB; have BK1152 := n0_; have BK1153 := n1_; have HB := n2_; clear n0_ n1_ n2_; (try clear hb); (try clear hb2); (try clear hk); (try clear hi)))
   go_meet
   case rel => exact ⟨_, (true), (by first | rfl | (simp; done) | (simp [*]; done)), H', ⟨by first | omega | exact Nat.le_refl _⟩, ⟨by (with_reducible repeat (first | refine blk_drewN ?_ _ | refine blk_drew ?_ | refine blk_alloc ?_ _)); exact BK1152.out⟩, ⟨by (with_reducible repeat (first | refine blk_drewN ?_ _ | refine blk_drew ?_ | refine blk_alloc ?_ _)); exact BK1153.out⟩, ⟨by repeat (first | (with_reducible first | exact HB.out | apply below_alloc | apply pw_below_drewN | apply below_drew1 | refine below_set ?_ GE1152.out | refine below_set ?_ GE1153.out) | exact HB.out)⟩⟩
  ·replace c9 := Bool.eq_false_iff.mpr c9
   subst c9
   have H1 : (sashlaw08_LeastPaths.j0 k a2 l3 (decide ((l3.length : Int) > 50)) a0_0 a0_1 a0_2 a0_3 a0_4 a0_5 l0_6 a1_0 a1_1 a1_2 a1_3) = some r := by rw [if_neg (show ¬ (false = true) by decide)] at H; exact H
   clear H
   have H := H1
   clear H1
   have H' := Aside0.mk H
   clear H
   have hnb13 := NB1152_1153.out
   have hnc13 := NB1153_1152.out
   have hcz14_0 : w7.cell? ⟨gb1152, 0, none⟩ = some (.int .u8 a0_0) := (blk_cell BK1152.out 0).trans rfl
   have hcz14_1 : w7.cell? ⟨gb1152, 1, none⟩ = some (.int .i64 a0_1) := (blk_cell BK1152.out 1).trans rfl
   have hcz14_2 : w7.cell? ⟨gb1152, 2, none⟩ = some (.int .i64 a0_2) := (blk_cell BK1152.out 2).trans rfl
   have hcz14_3 : w7.cell? ⟨gb1152, 3, none⟩ = some (.int .i64 a0_3) := (blk_cell BK1152.out 3).trans rfl
   have hcz14_4 : w7.cell? ⟨gb1152, 4, none⟩ = some (.int .i64 a0_4) := (blk_cell BK1152.out 4).trans rfl
   have hcz14_5 : w7.cell? ⟨gb1152, 5, none⟩ = some (.int .i64 a0_5) := (blk_cell BK1152.out 5).trans rfl
   have hcz14_6 : w7.cell? ⟨gb1152, 6, none⟩ = some (.slice A0_6 l0_6.length c0_6) := (blk_cell BK1152.out 6).trans rfl
   have hfz14_0 := blk_frozen BK1152.out 0
   have hfz14_1 := blk_frozen BK1152.out 1
   have hfz14_2 := blk_frozen BK1152.out 2
   have hfz14_3 := blk_frozen BK1152.out 3
   have hfz14_4 := blk_frozen BK1152.out 4
   have hfz14_5 := blk_frozen BK1152.out 5
   have hfz14_6 := blk_frozen BK1152.out 6
   go_wp2_with (first | ((with_reducible refine gate_callee (f := 34) rfl ?_); refine goesL_ (some 10) rfl rfl Try.func34 (by kernel_rfl) rfl #[.agg #[.int .u8 a0_0, .int .i64 a0_1, .int .i64 a0_2, .int .i64 a0_3, .int .i64 a0_4, .int .i64 a0_5, .slice A0_6 l0_6.length c0_6]] rfl (by (try simp only [List.map_toArray, List.map_cons, List.map_nil]); first | done | rfl | (simp only [List.length_drop, List.length_take]; rfl)) ?_; (with_reducible refine (sashref05_Great.calls k a0_0 a0_1 a0_2 a0_3 a0_4 a0_5 _ _ l0_6 false _ ?side1 ?side2 A8.out).mono ?_); (case side1 => repeat (first | exact (Kd.C_below HR0_6.out HB.out) | (with_reducible refine Kd.C_alloc ?_ _) | (with_reducible refine Kd.C_drewN ?_ _) | (with_reducible refine Kd.C_drew ?_))); (case side2 => exact HC0_6.out); rintro e w15 ⟨rfl, hb⟩; refine ⟨_, rfl, ?_⟩; have n0_ := Aside0.mk (blk_below (g := gb1152) (o := .cells #[.int .u8 a0_0, .int .i64 a0_1, .int .i64 a0_2, .int .i64 a0_3, .int .i64 a0_4, .int .i64 a0_5, .slice A0_6 l0_6.length c0_6] 26 (0, 0)) (by (with_reducible repeat (first | refine blk_drewN ?_ _ | refine blk_drew ?_ | refine blk_alloc ?_ _)); exact BK1152.out) hb); have n1_ := Aside0.mk (blk_below (g := gb1153) (o := .cells #[.int .i64 a1_0, .int .i64 a1_1, .int .i64 a1_2, .int .i64 a1_3] 23 (0, 0)) (by (with_reducible repeat (first | refine blk_drewN ?_ _ | refine blk_drew ?_ | refine blk_alloc ?_ _)); exact BK1153.out) hb); have n2_ := Aside0.mk (below_step (by repeat (first | (with_reducible first | exact HB.out | apply below_alloc | apply pw_below_drewN | apply below_drew1 | refine below_set ?_ GE1152.out | refine below_set ?_ GE1153.out) | exact HB.out)) hb); clear BK1152; clear BK1153; clear HB; have BK1152 := n0_; have BK1153 := n1_; have HB := n2_; clear n0_ n1_ n2_; (try clear hb); (try clear hb2); (try clear hk); (try clear hi)))
   go_meet
   case rel => exact ⟨_, (decide ((l3.length : Int) > 50)), (by first | rfl | (simp; done) | (simp [*]; done)), H', ⟨by first | omega | exact Nat.le_refl _⟩, ⟨by (with_reducible repeat (first | refine blk_drewN ?_ _ | refine blk_drew ?_ | refine blk_alloc ?_ _)); exact BK1152.out⟩, ⟨by (with_reducible repeat (first | refine blk_drewN ?_ _ | refine blk_drew ?_ | refine blk_alloc ?_ _)); exact BK1153.out⟩, ⟨by repeat (first | (with_reducible first | exact HB.out | apply below_alloc | apply pw_below_drewN | apply below_drew1 | refine below_set ?_ GE1152.out | refine below_set ?_ GE1153.out) | exact HB.out)⟩⟩
 case rest =>
  clear HC5
  try clear c1
  try clear c2
  try clear p2
  try clear c3
  try clear c9
  try clear c10
  try clear c13
  try clear hcz11_0
  try clear hcz11_1
  try clear hcz11_2
  try clear hcz11_3
  try clear hcz11_4
  try clear hcz11_5
  try clear hcz11_6
  try clear hcz14_0
  try clear hcz14_1
  try clear hcz14_2
  try clear hcz14_3
  try clear hcz14_4
  try clear hcz14_5
  try clear hcz14_6
  try clear hfz11_0
  try clear hfz11_1
  try clear hfz11_2
  try clear hfz11_3
  try clear hfz11_4
  try clear hfz11_5
  try clear hfz11_6
  try clear hfz14_0
  try clear hfz14_1
  try clear hfz14_2
  try clear hfz14_3
  try clear hfz14_4
  try clear hfz14_5
  try clear hfz14_6
  obtain ⟨kq, x15_4, rfl, HA, HJ4, BK1152, BK1153, HB⟩ := hcut
  cases kq with
  | zero => exact absurd HA.out (by simp [sashlaw08_LeastPaths.j0])
  | succ kj4 =>
   have H := HA.out
   clear HA
   simp only [sashlaw08_LeastPaths.j0] at H
   by_cases c16 : x15_4 = true
   ·subst c16
    have H1 : ((sashlaw08_awake.f kj4).bind fun t1155 => (some t1155)) = some r := by rw [if_pos rfl] at H; exact H
    clear H
    have H := H1
    clear H1
    replace H := Option.bind_eq_some_iff.mp H
    obtain ⟨t1155, A170, H⟩ := H
    replace H : (some t1155) = some r := H
    have A17 := Aside0.mk A170
    clear A170
    obtain rfl := Option.some.inj H
    go_wp2_with (first | ((with_reducible refine gate_callee (f := 85) rfl ?_); refine goesL_ (some 16) rfl rfl Try.func85 (by kernel_rfl) rfl #[] rfl (by (try simp only [List.map_toArray, List.map_cons, List.map_nil]); first | done | rfl | (simp only [List.length_drop, List.length_take]; rfl)) ?_; (with_reducible refine (sashlaw08_awake.calls kj4  t1155 _ A17.out).mono ?_); rintro e w18 ⟨rfl, hb⟩; refine ⟨_, rfl, ?_⟩; have n0_ := Aside0.mk (blk_below (g := gb1152) (o := .cells #[.int .u8 a0_0, .int .i64 a0_1, .int .i64 a0_2, .int .i64 a0_3, .int .i64 a0_4, .int .i64 a0_5, .slice A0_6 l0_6.length c0_6] 26 (0, 0)) (by (with_reducible repeat (first | refine blk_drewN ?_ _ | refine blk_drew ?_ | refine blk_alloc ?_ _)); exact BK1152.out) hb); have n1_ := Aside0.mk (blk_below (g := gb1153) (o := .cells #[.int .i64 a1_0, .int .i64 a1_1, .int .i64 a1_2, .int .i64 a1_3] 23 (0, 0)) (by (with_reducible repeat (first | refine blk_drewN ?_ _ | refine blk_drew ?_ | refine blk_alloc ?_ _)); exact BK1153.out) hb); have n2_ := Aside0.mk (below_step (by repeat (first | (with_reducible first | exact HB.out | apply below_alloc | apply pw_below_drewN | apply below_drew1 | refine below_set ?_ GE1152.out | refine below_set ?_ GE1153.out) | exact HB.out)) hb); clear BK1152; clear BK1153; clear HB; have BK1152 := n0_; have BK1153 := n1_; have HB := n2_; clear n0_ n1_ n2_; (try clear hb); (try clear hb2); (try clear hk); (try clear hi)))
    go_ret
    exact ⟨by first | rfl | (simp [errW_none, errW_some] <;> rfl) | (simp [*, errW_none, errW_some] <;> rfl), by repeat (first | (with_reducible first | exact HB.out | apply below_alloc | apply pw_below_drewN | apply below_drew1 | refine below_set ?_ GE1152.out | refine below_set ?_ GE1153.out) | exact HB.out)⟩
   ·replace c16 := Bool.eq_false_iff.mpr c16
    subst c16
    have H1 : ((least_Size.f a1_0 a1_1 a1_2 a1_3 a2).bind fun t1156 => ((sashref08_Size.f a1_0 a1_1 a1_2 a1_3 a2).bind fun t1157 => (if t1156 = t1157 then ((least_Along.f a0_0 a0_1 a0_2 a0_3 a0_4 a0_5 l0_6 a2).bind fun t1158 => ((sashref08_Along.f a0_0 a0_1 a0_2 a0_3 a0_4 a0_5 l0_6 a2).bind fun t1159 => (if (t1158 == t1159) = true then ((least_Path.f kj4 a0_0 a0_1 a0_2 a0_3 a0_4 a0_5 l0_6 a2 l3).bind fun t1160 => ((sashref08_Path.f kj4 a0_0 a0_1 a0_2 a0_3 a0_4 a0_5 l0_6 a2 l3).bind fun t1161 => (if t1160 = t1161 then ((sashlaw08_awake.f kj4).bind fun t1162 => (some t1162)) else (some false)))) else (some false)))) else (some false)))) = some r := by rw [if_neg (show ¬ (false = true) by decide)] at H; exact H
    clear H
    have H := H1
    clear H1
    replace H := Option.bind_eq_some_iff.mp H
    obtain ⟨t1156, A190, H⟩ := H
    replace H : ((sashref08_Size.f a1_0 a1_1 a1_2 a1_3 a2).bind fun t1157 => (if t1156 = t1157 then ((least_Along.f a0_0 a0_1 a0_2 a0_3 a0_4 a0_5 l0_6 a2).bind fun t1158 => ((sashref08_Along.f a0_0 a0_1 a0_2 a0_3 a0_4 a0_5 l0_6 a2).bind fun t1159 => (if (t1158 == t1159) = true then ((least_Path.f kj4 a0_0 a0_1 a0_2 a0_3 a0_4 a0_5 l0_6 a2 l3).bind fun t1160 => ((sashref08_Path.f kj4 a0_0 a0_1 a0_2 a0_3 a0_4 a0_5 l0_6 a2 l3).bind fun t1161 => (if t1160 = t1161 then ((sashlaw08_awake.f kj4).bind fun t1162 => (some t1162)) else (some false)))) else (some false)))) else (some false))) = some r := H
    have A19 := Aside0.mk A190
    clear A190
    replace H := Option.bind_eq_some_iff.mp H
    obtain ⟨t1157, A200, H⟩ := H
    replace H : (if t1156 = t1157 then ((least_Along.f a0_0 a0_1 a0_2 a0_3 a0_4 a0_5 l0_6 a2).bind fun t1158 => ((sashref08_Along.f a0_0 a0_1 a0_2 a0_3 a0_4 a0_5 l0_6 a2).bind fun t1159 => (if (t1158 == t1159) = true then ((least_Path.f kj4 a0_0 a0_1 a0_2 a0_3 a0_4 a0_5 l0_6 a2 l3).bind fun t1160 => ((sashref08_Path.f kj4 a0_0 a0_1 a0_2 a0_3 a0_4 a0_5 l0_6 a2 l3).bind fun t1161 => (if t1160 = t1161 then ((sashlaw08_awake.f kj4).bind fun t1162 => (some t1162)) else (some false)))) else (some false)))) else (some false)) = some r := H
    have A20 := Aside0.mk A200
    clear A200
    by_cases c21 : t1156 = t1157
    ·rw [if_pos c21] at H
     have c21b0 : (t1156 == t1157) = true := beq_iff_eq.mpr c21
     have c21b1 : (t1156 != t1157) = false := bne_eq_false_iff_eq.mpr c21
     clear c21
     replace H := Option.bind_eq_some_iff.mp H
     obtain ⟨t1158, A220, H⟩ := H
     replace H : ((sashref08_Along.f a0_0 a0_1 a0_2 a0_3 a0_4 a0_5 l0_6 a2).bind fun t1159 => (if (t1158 == t1159) = true then ((least_Path.f kj4 a0_0 a0_1 a0_2 a0_3 a0_4 a0_5 l0_6 a2 l3).bind fun t1160 => ((sashref08_Path.f kj4 a0_0 a0_1 a0_2 a0_3 a0_4 a0_5 l0_6 a2 l3).bind fun t1161 => (if t1160 = t1161 then ((sashlaw08_awake.f kj4).bind fun t1162 => (some t1162)) else (some false)))) else (some false))) = some r := H
     have A22 := Aside0.mk A220
     clear A220
     replace H := Option.bind_eq_some_iff.mp H
     obtain ⟨t1159, A230, H⟩ := H
     replace H : (if (t1158 == t1159) = true then ((least_Path.f kj4 a0_0 a0_1 a0_2 a0_3 a0_4 a0_5 l0_6 a2 l3).bind fun t1160 => ((sashref08_Path.f kj4 a0_0 a0_1 a0_2 a0_3 a0_4 a0_5 l0_6 a2 l3).bind fun t1161 => (if t1160 = t1161 then ((sashlaw08_awake.f kj4).bind fun t1162 => (some t1162)) else (some false)))) else (some false)) = some r := H
     have A23 := Aside0.mk A230
     clear A230
     by_cases c24 : (t1158 == t1159) = true
     ·rw [if_pos c24] at H
      have c24b0 : (t1158 == t1159) = true := c24
      (try (have c24b1 : decide (t1158 = t1159) = true := by simpa using c24))
      (try (have c24b2 : (t1158 == t1159) = true := by simpa using c24))
      clear c24
      replace H := Option.bind_eq_some_iff.mp H
      obtain ⟨t1160, A250, H⟩ := H
      replace H : ((sashref08_Path.f kj4 a0_0 a0_1 a0_2 a0_3 a0_4 a0_5 l0_6 a2 l3).bind fun t1161 => (if t1160 = t1161 then ((sashlaw08_awake.f kj4).bind fun t1162 => (some t1162)) else (some false))) = some r := H
      have A25 := Aside0.mk A250
      clear A250
      replace H := Option.bind_eq_some_iff.mp H
      obtain ⟨t1161, A260, H⟩ := H
      replace H : (if t1160 = t1161 then ((sashlaw08_awake.f kj4).bind fun t1162 => (some t1162)) else (some false)) = some r := H
      have A26 := Aside0.mk A260
      clear A260
      by_cases c27 : t1160 = t1161
      ·rw [if_pos c27] at H
       have c27b0 : (t1160 == t1161) = true := beq_iff_eq.mpr c27
       have c27b1 : (t1160 != t1161) = false := bne_eq_false_iff_eq.mpr c27
       clear c27
       replace H := Option.bind_eq_some_iff.mp H
       obtain ⟨t1162, A280, H⟩ := H
       replace H : (some t1162) = some r := H
       have A28 := Aside0.mk A280
       clear A280
       obtain rfl := Option.some.inj H
       try go_wp2
       have n0_ := Aside0.mk (blk_drew BK1152.out)
       have n1_ := Aside0.mk (blk_drew BK1153.out)
       have n2_ := Aside0.mk (below_drew1 HB.out)
       clear BK1152
       clear BK1153
       clear HB
       have BK1152 := n0_
       have BK1153 := n1_
       have HB := n2_
       clear n0_ n1_ n2_
       refine start_ (n := 31) (S := fun w' => w'.cell? ⟨gb1153, 0, none⟩ = some (.int .i64 a1_0) ∧ w'.cell? ⟨gb1153, 1, none⟩ = some (.int .i64 a1_1) ∧ w'.cell? ⟨gb1153, 2, none⟩ = some (.int .i64 a1_2) ∧ w'.cell? ⟨gb1153, 3, none⟩ = some (.int .i64 a1_3) ∧ w'.cell? ⟨gb1152, 0, none⟩ = some (.int .u8 a0_0) ∧ w'.cell? ⟨gb1152, 1, none⟩ = some (.int .i64 a0_1) ∧ w'.cell? ⟨gb1152, 2, none⟩ = some (.int .i64 a0_2) ∧ w'.cell? ⟨gb1152, 3, none⟩ = some (.int .i64 a0_3) ∧ w'.cell? ⟨gb1152, 4, none⟩ = some (.int .i64 a0_4) ∧ w'.cell? ⟨gb1152, 5, none⟩ = some (.int .i64 a0_5) ∧ w'.cell? ⟨gb1152, 6, none⟩ = some (.slice A0_6 l0_6.length c0_6)) (ds := []) #[false, false, false, false, false, false, false, false, false, false, false, false, false, false, false, false, false, false, false, false, false, false, false, false, false, false, false, false, false, false, false] (by kernel_rfl) rfl rfl ⟨(blk_cell BK1153.out 0).trans rfl, (blk_cell BK1153.out 1).trans rfl, (blk_cell BK1153.out 2).trans rfl, (blk_cell BK1153.out 3).trans rfl, (blk_cell BK1152.out 0).trans rfl, (blk_cell BK1152.out 1).trans rfl, (blk_cell BK1152.out 2).trans rfl, (blk_cell BK1152.out 3).trans rfl, (blk_cell BK1152.out 4).trans rfl, (blk_cell BK1152.out 5).trans rfl, (blk_cell BK1152.out 6).trans rfl⟩ (fun hHeld => ?_); refine with_tabW sashlaw08_LeastPaths.tab3 sashlaw08_LeastPaths.bits3 (fun HT_ HW_ => ?_)
       generalize wc.drew = w29 at BK1152 BK1153 HB hHeld ⊢
       refine pure_ (i := 1) (N := some 18) (v := ?_) (a' := ?_) #[false, true, false, false, false, false, false, false, false, false, false, false, false, false, false, false, false, false, false, false, false, false, false, false, false, false, false, false, false, false, false] rfl rfl (any_of HT_.out (by kernel_rfl)) (fun _ _ _ h => h) (Or.inl ⟨by rfl, ?_⟩) ?_ ?_
       rotate_left
       ·intro w'
        go_simp
        with_reducible rfl
       rotate_left
       ·simp only [Act.put, List.setIfInBounds_toArray, List.set_cons_zero, List.set_cons_succ, i64_w, i32_w]
        rfl
       refine pure_ (i := 4) (N := some 21) (v := ?_) (a' := ?_) #[false, true, false, false, true, false, false, false, false, false, false, false, false, false, false, false, false, false, false, false, false, false, false, false, false, false, false, false, false, false, false] rfl rfl (any_of HT_.out (by kernel_rfl)) (fun _ _ _ h => h) (Or.inl ⟨by rfl, ?_⟩) ?_ ?_
       rotate_left
       ·intro w'
        go_simp
        with_reducible rfl
       rotate_left
       ·simp only [Act.put, List.setIfInBounds_toArray, List.set_cons_zero, List.set_cons_succ, i64_w, i32_w]
        rfl
       refine take_ (i := 0) (N := some 17) (v := ?_) (a' := ?_) #[true, true, false, false, true, false, false, false, false, false, false, false, false, false, false, false, false, false, false, false, false, false, false, false, false, false, false, false, false, false, false] rfl rfl (take_ofW HT_.out HW_.out (by kernel_rfl)) (fun _ _ _ h => h) (Or.inl ⟨by rfl, ?_⟩) hHeld ?_ ?_
       rotate_left
       ·rintro w' ⟨s0, s1, s2, s3, s4, s5, s6, s7, s8, s9, s10⟩
        go_simp
        with_reducible rfl
       rotate_left
       ·simp only [Act.put, List.setIfInBounds_toArray, List.set_cons_zero, List.set_cons_succ, i64_w, i32_w]
        rfl
       refine take_ (i := 3) (N := some 20) (v := ?_) (a' := ?_) #[true, true, false, true, true, false, false, false, false, false, false, false, false, false, false, false, false, false, false, false, false, false, false, false, false, false, false, false, false, false, false] rfl rfl (take_ofW HT_.out HW_.out (by kernel_rfl)) (fun _ _ _ h => h) (Or.inl ⟨by rfl, ?_⟩) hHeld ?_ ?_
       rotate_left
       ·rintro w' ⟨s0, s1, s2, s3, s4, s5, s6, s7, s8, s9, s10⟩
        go_simp
        with_reducible rfl
       rotate_left
       ·simp only [Act.put, List.setIfInBounds_toArray, List.set_cons_zero, List.set_cons_succ, i64_w, i32_w]
        rfl
       refine one_ (i := 2) (N := some 19) #[true, true, true, true, true, false, false, false, false, false, false, false, false, false, false, false, false, false, false, false, false, false, false, false, false, false, false, false, false, false, false] rfl rfl (one_of HT_.out (by kernel_rfl)) (by decide) (fun K hK => ?_)
       refine goes_ Try.func98 (by kernel_rfl) rfl #[.agg #[.int .i64 a1_0, .int .i64 a1_1, .int .i64 a1_2, .int .i64 a1_3], .int .u8 a2] (by rfl) rfl rfl (by (try simp only [List.map_toArray, List.map_cons, List.map_nil]); first | done | rfl | (simp only [List.length_drop, List.length_take]; rfl)) ?_
       with_reducible refine (least_Size.calls a1_0 a1_1 a1_2 a1_3 a2 t1156 _ A19.out).mono ?_
       rintro e w30 ⟨rfl, hb⟩
       refine ⟨_, rfl, ?_⟩
       have n0_ := Aside0.mk (blk_below (g := gb1152) (o := .cells #[.int .u8 a0_0, .int .i64 a0_1, .int .i64 a0_2, .int .i64 a0_3, .int .i64 a0_4, .int .i64 a0_5, .slice A0_6 l0_6.length c0_6] 26 (0, 0)) (by (with_reducible repeat (first | refine blk_drewN ?_ _ | refine blk_drew ?_ | refine blk_alloc ?_ _)); exact BK1152.out) hb)
       have n1_ := Aside0.mk (blk_below (g := gb1153) (o := .cells #[.int .i64 a1_0, .int .i64 a1_1, .int .i64 a1_2, .int .i64 a1_3] 23 (0, 0)) (by (with_reducible repeat (first | refine blk_drewN ?_ _ | refine blk_drew ?_ | refine blk_alloc ?_ _)); exact BK1153.out) hb)
       have n2_ := Aside0.mk (below_step (by repeat (first | (with_reducible first | exact HB.out | apply below_alloc | apply pw_below_drewN | apply below_drew1 | refine below_set ?_ GE1152.out | refine below_set ?_ GE1153.out) | exact HB.out)) hb)
       clear BK1152
       clear BK1153
       clear HB
       have BK1152 := n0_
       have BK1153 := n1_
       have HB := n2_
       clear n0_ n1_ n2_
       (try clear hb)
       (try clear hb2)
       (try clear hk)
       (try clear hi)
       refine hK.out _ _ ⟨(blk_cell BK1153.out 0).trans rfl, (blk_cell BK1153.out 1).trans rfl, (blk_cell BK1153.out 2).trans rfl, (blk_cell BK1153.out 3).trans rfl, (blk_cell BK1152.out 0).trans rfl, (blk_cell BK1152.out 1).trans rfl, (blk_cell BK1152.out 2).trans rfl, (blk_cell BK1152.out 3).trans rfl, (blk_cell BK1152.out 4).trans rfl, (blk_cell BK1152.out 5).trans rfl, (blk_cell BK1152.out 6).trans rfl⟩ (fun hHeld => ?_)
       clear hK K
       refine norm_ (a' := ?_) ?_ ?_
       rotate_left
       ·show Act.put _ (some 19) _ = _
        simp only [Act.put, List.setIfInBounds_toArray, List.set_cons_zero, List.set_cons_succ, i64_w, i32_w]
        rfl
       refine one_ (i := 5) (N := some 22) #[true, true, true, true, true, true, false, false, false, false, false, false, false, false, false, false, false, false, false, false, false, false, false, false, false, false, false, false, false, false, false] rfl rfl (one_of HT_.out (by kernel_rfl)) (by decide) (fun K hK => ?_)
       refine goes_ Try.func87 (by kernel_rfl) rfl #[.agg #[.int .i64 a1_0, .int .i64 a1_1, .int .i64 a1_2, .int .i64 a1_3], .int .u8 a2] (by rfl) rfl rfl (by (try simp only [List.map_toArray, List.map_cons, List.map_nil]); first | done | rfl | (simp only [List.length_drop, List.length_take]; rfl)) ?_
       with_reducible refine (sashref08_Size.calls a1_0 a1_1 a1_2 a1_3 a2 t1157 _ A20.out).mono ?_
       rintro e w31 ⟨rfl, hb⟩
       refine ⟨_, rfl, ?_⟩
       have n0_ := Aside0.mk (blk_below (g := gb1152) (o := .cells #[.int .u8 a0_0, .int .i64 a0_1, .int .i64 a0_2, .int .i64 a0_3, .int .i64 a0_4, .int .i64 a0_5, .slice A0_6 l0_6.length c0_6] 26 (0, 0)) (by (with_reducible repeat (first | refine blk_drewN ?_ _ | refine blk_drew ?_ | refine blk_alloc ?_ _)); exact BK1152.out) hb)
       have n1_ := Aside0.mk (blk_below (g := gb1153) (o := .cells #[.int .i64 a1_0, .int .i64 a1_1, .int .i64 a1_2, .int .i64 a1_3] 23 (0, 0)) (by (with_reducible repeat (first | refine blk_drewN ?_ _ | refine blk_drew ?_ | refine blk_alloc ?_ _)); exact BK1153.out) hb)
       have n2_ := Aside0.mk (below_step (by repeat (first | (with_reducible first | exact HB.out | apply below_alloc | apply pw_below_drewN | apply below_drew1 | refine below_set ?_ GE1152.out | refine below_set ?_ GE1153.out) | exact HB.out)) hb)
       clear BK1152
       clear BK1153
       clear HB
       have BK1152 := n0_
       have BK1153 := n1_
       have HB := n2_
       clear n0_ n1_ n2_
       (try clear hb)
       (try clear hb2)
       (try clear hk)
       (try clear hi)
       refine hK.out _ _ ⟨(blk_cell BK1153.out 0).trans rfl, (blk_cell BK1153.out 1).trans rfl, (blk_cell BK1153.out 2).trans rfl, (blk_cell BK1153.out 3).trans rfl, (blk_cell BK1152.out 0).trans rfl, (blk_cell BK1152.out 1).trans rfl, (blk_cell BK1152.out 2).trans rfl, (blk_cell BK1152.out 3).trans rfl, (blk_cell BK1152.out 4).trans rfl, (blk_cell BK1152.out 5).trans rfl, (blk_cell BK1152.out 6).trans rfl⟩ (fun hHeld => ?_)
       clear hK K
       refine norm_ (a' := ?_) ?_ ?_
       rotate_left
       ·show Act.put _ (some 22) _ = _
        simp only [Act.put, List.setIfInBounds_toArray, List.set_cons_zero, List.set_cons_succ, i64_w, i32_w]
        rfl
       refine pure_ (i := 6) (N := some 23) (v := ?_) (a' := ?_) #[true, true, true, true, true, true, true, false, false, false, false, false, false, false, false, false, false, false, false, false, false, false, false, false, false, false, false, false, false, false, false] rfl rfl (any_of HT_.out (by kernel_rfl)) (fun _ _ _ h => h) (Or.inl ⟨by rfl, ?_⟩) ?_ ?_
       rotate_left
       ·intro w'
        go_simp
        with_reducible rfl
       rotate_left
       ·simp only [Act.put, List.setIfInBounds_toArray, List.set_cons_zero, List.set_cons_succ, i64_w, i32_w]
        rfl
       refine pure_ (i := 7) (N := some 24) (v := ?_) (a' := ?_) #[true, true, true, true, true, true, true, true, false, false, false, false, false, false, false, false, false, false, false, false, false, false, false, false, false, false, false, false, false, false, false] rfl rfl (any_of HT_.out (by kernel_rfl)) (fun _ _ _ h => h) (Or.inl ⟨by rfl, ?_⟩) ?_ ?_
       rotate_left
       ·intro w'
        go_simp
        with_reducible rfl
       rotate_left
       ·simp only [Act.put, List.setIfInBounds_toArray, List.set_cons_zero, List.set_cons_succ, i64_w, i32_w]
        rfl
       refine pure_ (i := 9) (N := some 26) (v := ?_) (a' := ?_) #[true, true, true, true, true, true, true, true, false, true, false, false, false, false, false, false, false, false, false, false, false, false, false, false, false, false, false, false, false, false, false] rfl rfl (any_of HT_.out (by kernel_rfl)) (fun _ _ _ h => h) (Or.inl ⟨by rfl, ?_⟩) ?_ ?_
       rotate_left
       ·intro w'
        go_simp
        with_reducible rfl
       rotate_left
       ·simp only [Act.put, List.setIfInBounds_toArray, List.set_cons_zero, List.set_cons_succ, i64_w, i32_w]
        rfl
       refine pure_ (i := 12) (N := some 29) (v := ?_) (a' := ?_) #[true, true, true, true, true, true, true, true, false, true, false, false, true, false, false, false, false, false, false, false, false, false, false, false, false, false, false, false, false, false, false] rfl rfl (any_of HT_.out (by kernel_rfl)) (fun _ _ _ h => h) (Or.inl ⟨by rfl, ?_⟩) ?_ ?_
       rotate_left
       ·intro w'
        go_simp
        with_reducible rfl
       rotate_left
       ·simp only [Act.put, List.setIfInBounds_toArray, List.set_cons_zero, List.set_cons_succ, i64_w, i32_w]
        rfl
       refine take_ (i := 8) (N := some 25) (v := ?_) (a' := ?_) #[true, true, true, true, true, true, true, true, true, true, false, false, true, false, false, false, false, false, false, false, false, false, false, false, false, false, false, false, false, false, false] rfl rfl (take_ofW HT_.out HW_.out (by kernel_rfl)) (fun _ _ _ h => h) (Or.inl ⟨by rfl, ?_⟩) hHeld ?_ ?_
       rotate_left
       ·rintro w' ⟨s0, s1, s2, s3, s4, s5, s6, s7, s8, s9, s10⟩
        go_simp
        with_reducible rfl
       rotate_left
       ·simp only [Act.put, List.setIfInBounds_toArray, List.set_cons_zero, List.set_cons_succ, i64_w, i32_w]
        rfl
       refine take_ (i := 11) (N := some 28) (v := ?_) (a' := ?_) #[true, true, true, true, true, true, true, true, true, true, false, true, true, false, false, false, false, false, false, false, false, false, false, false, false, false, false, false, false, false, false] rfl rfl (take_ofW HT_.out HW_.out (by kernel_rfl)) (fun _ _ _ h => h) (Or.inl ⟨by rfl, ?_⟩) hHeld ?_ ?_
       rotate_left
       ·rintro w' ⟨s0, s1, s2, s3, s4, s5, s6, s7, s8, s9, s10⟩
        go_simp
        with_reducible rfl
       rotate_left
       ·simp only [Act.put, List.setIfInBounds_toArray, List.set_cons_zero, List.set_cons_succ, i64_w, i32_w]
        rfl
       refine one_ (i := 10) (N := some 27) #[true, true, true, true, true, true, true, true, true, true, true, true, true, false, false, false, false, false, false, false, false, false, false, false, false, false, false, false, false, false, false] rfl rfl (one_of HT_.out (by kernel_rfl)) (by decide) (fun K hK => ?_)
       refine goes_ Try.func99 (by kernel_rfl) rfl #[.agg #[.int .u8 a0_0, .int .i64 a0_1, .int .i64 a0_2, .int .i64 a0_3, .int .i64 a0_4, .int .i64 a0_5, .slice A0_6 l0_6.length c0_6], .int .u8 a2] (by rfl) rfl rfl (by (try simp only [List.map_toArray, List.map_cons, List.map_nil]); first | done | rfl | (simp only [List.length_drop, List.length_take]; rfl)) ?_
       with_reducible refine (least_Along.calls a0_0 a0_1 a0_2 a0_3 a0_4 a0_5 _ _ l0_6 a2 t1158 _ ?side1 ?side2 A22.out).mono ?_
       (case side1 => repeat (first | exact (Kd.C_below HR0_6.out HB.out) | (with_reducible refine Kd.C_alloc ?_ _) | (with_reducible refine Kd.C_drewN ?_ _) | (with_reducible refine Kd.C_drew ?_)))
       (case side2 => exact HC0_6.out)
       rintro e w32 ⟨rfl, hb⟩
       refine ⟨_, rfl, ?_⟩
       have n0_ := Aside0.mk (blk_below (g := gb1152) (o := .cells #[.int .u8 a0_0, .int .i64 a0_1, .int .i64 a0_2, .int .i64 a0_3, .int .i64 a0_4, .int .i64 a0_5, .slice A0_6 l0_6.length c0_6] 26 (0, 0)) (by (with_reducible repeat (first | refine blk_drewN ?_ _ | refine blk_drew ?_ | refine blk_alloc ?_ _)); exact BK1152.out) hb)
       have n1_ := Aside0.mk (blk_below (g := gb1153) (o := .cells #[.int .i64 a1_0, .int .i64 a1_1, .int .i64 a1_2, .int .i64 a1_3] 23 (0, 0)) (by (with_reducible repeat (first | refine blk_drewN ?_ _ | refine blk_drew ?_ | refine blk_alloc ?_ _)); exact BK1153.out) hb)
       have n2_ := Aside0.mk (below_step (by repeat (first | (with_reducible first | exact HB.out | apply below_alloc | apply pw_below_drewN | apply below_drew1 | refine below_set ?_ GE1152.out | refine below_set ?_ GE1153.out) | exact HB.out)) hb)
       clear BK1152
       clear BK1153
       clear HB
       have BK1152 := n0_
       have BK1153 := n1_
       have HB := n2_
       clear n0_ n1_ n2_
       (try clear hb)
       (try clear hb2)
       (try clear hk)
       (try clear hi)
       refine hK.out _ _ ⟨(blk_cell BK1153.out 0).trans rfl, (blk_cell BK1153.out 1).trans rfl, (blk_cell BK1153.out 2).trans rfl, (blk_cell BK1153.out 3).trans rfl, (blk_cell BK1152.out 0).trans rfl, (blk_cell BK1152.out 1).trans rfl, (blk_cell BK1152.out 2).trans rfl, (blk_cell BK1152.out 3).trans rfl, (blk_cell BK1152.out 4).trans rfl, (blk_cell BK1152.out 5).trans rfl, (blk_cell BK1152.out 6).trans rfl⟩ (fun hHeld => ?_)
       clear hK K
       refine norm_ (a' := ?_) ?_ ?_
       rotate_left
       ·show Act.put _ (some 27) _ = _
        simp only [Act.put, List.setIfInBounds_toArray, List.set_cons_zero, List.set_cons_succ, i64_w, i32_w]
        rfl
       refine one_ (i := 13) (N := some 30) #[true, true, true, true, true, true, true, true, true, true, true, true, true, true, false, false, false, false, false, false, false, false, false, false, false, false, false, false, false, false, false] rfl rfl (one_of HT_.out (by kernel_rfl)) (by decide) (fun K hK => ?_)
       refine goes_ Try.func88 (by kernel_rfl) rfl #[.agg #[.int .u8 a0_0, .int .i64 a0_1, .int .i64 a0_2, .int .i64 a0_3, .int .i64 a0_4, .int .i64 a0_5, .slice A0_6 l0_6.length c0_6], .int .u8 a2] (by rfl) rfl rfl (by (try simp only [List.map_toArray, List.map_cons, List.map_nil]); first | done | rfl | (simp only [List.length_drop, List.length_take]; rfl)) ?_
       with_reducible refine (sashref08_Along.calls a0_0 a0_1 a0_2 a0_3 a0_4 a0_5 _ _ l0_6 a2 t1159 _ ?side1 ?side2 A23.out).mono ?_
       (case side1 => repeat (first | exact (Kd.C_below HR0_6.out HB.out) | (with_reducible refine Kd.C_alloc ?_ _) | (with_reducible refine Kd.C_drewN ?_ _) | (with_reducible refine Kd.C_drew ?_)))
       (case side2 => exact HC0_6.out)
       rintro e w33 ⟨rfl, hb⟩
       refine ⟨_, rfl, ?_⟩
       have n0_ := Aside0.mk (blk_below (g := gb1152) (o := .cells #[.int .u8 a0_0, .int .i64 a0_1, .int .i64 a0_2, .int .i64 a0_3, .int .i64 a0_4, .int .i64 a0_5, .slice A0_6 l0_6.length c0_6] 26 (0, 0)) (by (with_reducible repeat (first | refine blk_drewN ?_ _ | refine blk_drew ?_ | refine blk_alloc ?_ _)); exact BK1152.out) hb)
       have n1_ := Aside0.mk (blk_below (g := gb1153) (o := .cells #[.int .i64 a1_0, .int .i64 a1_1, .int .i64 a1_2, .int .i64 a1_3] 23 (0, 0)) (by (with_reducible repeat (first | refine blk_drewN ?_ _ | refine blk_drew ?_ | refine blk_alloc ?_ _)); exact BK1153.out) hb)
       have n2_ := Aside0.mk (below_step (by repeat (first | (with_reducible first | exact HB.out | apply below_alloc | apply pw_below_drewN | apply below_drew1 | refine below_set ?_ GE1152.out | refine below_set ?_ GE1153.out) | exact HB.out)) hb)
       clear BK1152
       clear BK1153
       clear HB
       have BK1152 := n0_
       have BK1153 := n1_
       have HB := n2_
       clear n0_ n1_ n2_
       (try clear hb)
       (try clear hb2)
       (try clear hk)
       (try clear hi)
       refine hK.out _ _ ⟨(blk_cell BK1153.out 0).trans rfl, (blk_cell BK1153.out 1).trans rfl, (blk_cell BK1153.out 2).trans rfl, (blk_cell BK1153.out 3).trans rfl, (blk_cell BK1152.out 0).trans rfl, (blk_cell BK1152.out 1).trans rfl, (blk_cell BK1152.out 2).trans rfl, (blk_cell BK1152.out 3).trans rfl, (blk_cell BK1152.out 4).trans rfl, (blk_cell BK1152.out 5).trans rfl, (blk_cell BK1152.out 6).trans rfl⟩ (fun hHeld => ?_)
       clear hK K
       refine norm_ (a' := ?_) ?_ ?_
       rotate_left
       ·show Act.put _ (some 30) _ = _
        simp only [Act.put, List.setIfInBounds_toArray, List.set_cons_zero, List.set_cons_succ, i64_w, i32_w]
        rfl
       refine pure_ (i := 14) (N := some 31) (v := ?_) (a' := ?_) #[true, true, true, true, true, true, true, true, true, true, true, true, true, true, true, false, false, false, false, false, false, false, false, false, false, false, false, false, false, false, false] rfl rfl (any_of HT_.out (by kernel_rfl)) (fun _ _ _ h => h) (Or.inl ⟨by rfl, ?_⟩) ?_ ?_
       rotate_left
       ·intro w'
        go_simp
        with_reducible rfl
       rotate_left
       ·simp only [Act.put, List.setIfInBounds_toArray, List.set_cons_zero, List.set_cons_succ, i64_w, i32_w]
        rfl
       refine pure_ (i := 15) (N := some 32) (v := ?_) (a' := ?_) #[true, true, true, true, true, true, true, true, true, true, true, true, true, true, true, true, false, false, false, false, false, false, false, false, false, false, false, false, false, false, false] rfl rfl (any_of HT_.out (by kernel_rfl)) (fun _ _ _ h => h) (Or.inl ⟨by rfl, ?_⟩) ?_ ?_
       rotate_left
       ·intro w'
        go_simp
        with_reducible rfl
       rotate_left
       ·simp only [Act.put, List.setIfInBounds_toArray, List.set_cons_zero, List.set_cons_succ, i64_w, i32_w]
        rfl
       refine pure_ (i := 16) (N := some 33) (v := ?_) (a' := ?_) #[true, true, true, true, true, true, true, true, true, true, true, true, true, true, true, true, true, false, false, false, false, false, false, false, false, false, false, false, false, false, false] rfl rfl (any_of HT_.out (by kernel_rfl)) (fun _ _ _ h => h) (Or.inl ⟨by rfl, ?_⟩) ?_ ?_
       rotate_left
       ·intro w'
        go_simp
        with_reducible rfl
       rotate_left
       ·simp only [Act.put, List.setIfInBounds_toArray, List.set_cons_zero, List.set_cons_succ, i64_w, i32_w]
        rfl
       refine pure_ (i := 18) (N := some 35) (v := ?_) (a' := ?_) #[true, true, true, true, true, true, true, true, true, true, true, true, true, true, true, true, true, false, true, false, false, false, false, false, false, false, false, false, false, false, false] rfl rfl (any_of HT_.out (by kernel_rfl)) (fun _ _ _ h => h) (Or.inl ⟨by rfl, ?_⟩) ?_ ?_
       rotate_left
       ·intro w'
        go_simp
        with_reducible rfl
       rotate_left
       ·simp only [Act.put, List.setIfInBounds_toArray, List.set_cons_zero, List.set_cons_succ, i64_w, i32_w]
        rfl
       refine pure_ (i := 19) (N := some 36) (v := ?_) (a' := ?_) #[true, true, true, true, true, true, true, true, true, true, true, true, true, true, true, true, true, false, true, true, false, false, false, false, false, false, false, false, false, false, false] rfl rfl (any_of HT_.out (by kernel_rfl)) (fun _ _ _ h => h) (Or.inl ⟨by rfl, ?_⟩) ?_ ?_
       rotate_left
       ·intro w'
        go_simp
        with_reducible rfl
       rotate_left
       ·simp only [Act.put, List.setIfInBounds_toArray, List.set_cons_zero, List.set_cons_succ, i64_w, i32_w]
        rfl
       refine pure_ (i := 22) (N := some 39) (v := ?_) (a' := ?_) #[true, true, true, true, true, true, true, true, true, true, true, true, true, true, true, true, true, false, true, true, false, false, true, false, false, false, false, false, false, false, false] rfl rfl (any_of HT_.out (by kernel_rfl)) (fun _ _ _ h => h) (Or.inl ⟨by rfl, ?_⟩) ?_ ?_
       rotate_left
       ·intro w'
        go_simp
        with_reducible rfl
       rotate_left
       ·simp only [Act.put, List.setIfInBounds_toArray, List.set_cons_zero, List.set_cons_succ, i64_w, i32_w]
        rfl
       refine pure_ (i := 23) (N := some 40) (v := ?_) (a' := ?_) #[true, true, true, true, true, true, true, true, true, true, true, true, true, true, true, true, true, false, true, true, false, false, true, true, false, false, false, false, false, false, false] rfl rfl (any_of HT_.out (by kernel_rfl)) (fun _ _ _ h => h) (Or.inl ⟨by rfl, ?_⟩) ?_ ?_
       rotate_left
       ·intro w'
        go_simp
        with_reducible rfl
       rotate_left
       ·simp only [Act.put, List.setIfInBounds_toArray, List.set_cons_zero, List.set_cons_succ, i64_w, i32_w]
        rfl
       refine take_ (i := 17) (N := some 34) (v := ?_) (a' := ?_) #[true, true, true, true, true, true, true, true, true, true, true, true, true, true, true, true, true, true, true, true, false, false, true, true, false, false, false, false, false, false, false] rfl rfl (take_ofW HT_.out HW_.out (by kernel_rfl)) (fun _ _ _ h => h) (Or.inl ⟨by rfl, ?_⟩) hHeld ?_ ?_
       rotate_left
       ·rintro w' ⟨s0, s1, s2, s3, s4, s5, s6, s7, s8, s9, s10⟩
        go_simp
        with_reducible rfl
       rotate_left
       ·simp only [Act.put, List.setIfInBounds_toArray, List.set_cons_zero, List.set_cons_succ, i64_w, i32_w]
        rfl
       refine take_ (i := 21) (N := some 38) (v := ?_) (a' := ?_) #[true, true, true, true, true, true, true, true, true, true, true, true, true, true, true, true, true, true, true, true, false, true, true, true, false, false, false, false, false, false, false] rfl rfl (take_ofW HT_.out HW_.out (by kernel_rfl)) (fun _ _ _ h => h) (Or.inl ⟨by rfl, ?_⟩) hHeld ?_ ?_
       rotate_left
       ·rintro w' ⟨s0, s1, s2, s3, s4, s5, s6, s7, s8, s9, s10⟩
        go_simp
        with_reducible rfl
       rotate_left
       ·simp only [Act.put, List.setIfInBounds_toArray, List.set_cons_zero, List.set_cons_succ, i64_w, i32_w]
        rfl
       refine one_ (i := 20) (N := some 37) #[true, true, true, true, true, true, true, true, true, true, true, true, true, true, true, true, true, true, true, true, true, true, true, true, false, false, false, false, false, false, false] rfl rfl (one_of HT_.out (by kernel_rfl)) (by decide) (fun K hK => ?_)
       refine goes_ Try.func100 (by kernel_rfl) rfl #[.agg #[.int .u8 a0_0, .int .i64 a0_1, .int .i64 a0_2, .int .i64 a0_3, .int .i64 a0_4, .int .i64 a0_5, .slice A0_6 l0_6.length c0_6], .int .u8 a2, .slice A3 l3.length c3] (by rfl) rfl rfl (by (try simp only [List.map_toArray, List.map_cons, List.map_nil]); first | done | rfl | (simp only [List.length_drop, List.length_take]; rfl)) ?_
       with_reducible refine (least_Path.calls kj4 a0_0 a0_1 a0_2 a0_3 a0_4 a0_5 (fun k_ => k_ < w.heap.size) _ _ l0_6 a2 _ _ l3 t1160 _ ?side1 ?side2 ?side3 A25.out).mono ?_
       (case side1 => exact Kd.V_mk HC0_6.out (Kd.F_below (Kd.C_F k26_heap HR0_6.out) (by repeat (first | (with_reducible first | exact HB.out | apply below_alloc | apply pw_below_drewN | apply below_drew1 | refine below_set ?_ GE1152.out | refine below_set ?_ GE1153.out) | exact HB.out))))
       (case side2 => repeat (first | exact (Kd.C_below HR3.out HB.out) | (with_reducible refine Kd.C_alloc ?_ _) | (with_reducible refine Kd.C_drewN ?_ _) | (with_reducible refine Kd.C_drew ?_)))
       (case side3 => exact HC3.out)
       rintro e w34 ⟨rfl, hb⟩
       refine ⟨_, rfl, ?_⟩
       have n0_ := Aside0.mk (blk_below (g := gb1152) (o := .cells #[.int .u8 a0_0, .int .i64 a0_1, .int .i64 a0_2, .int .i64 a0_3, .int .i64 a0_4, .int .i64 a0_5, .slice A0_6 l0_6.length c0_6] 26 (0, 0)) (by (with_reducible repeat (first | refine blk_drewN ?_ _ | refine blk_drew ?_ | refine blk_alloc ?_ _)); exact BK1152.out) hb)
       have n1_ := Aside0.mk (blk_below (g := gb1153) (o := .cells #[.int .i64 a1_0, .int .i64 a1_1, .int .i64 a1_2, .int .i64 a1_3] 23 (0, 0)) (by (with_reducible repeat (first | refine blk_drewN ?_ _ | refine blk_drew ?_ | refine blk_alloc ?_ _)); exact BK1153.out) hb)
       have n2_ := Aside0.mk (below_step (by repeat (first | (with_reducible first | exact HB.out | apply below_alloc | apply pw_below_drewN | apply below_drew1 | refine below_set ?_ GE1152.out | refine below_set ?_ GE1153.out) | exact HB.out)) hb)
       clear BK1152
       clear BK1153
       clear HB
       have BK1152 := n0_
       have BK1153 := n1_
       have HB := n2_
       clear n0_ n1_ n2_
       (try clear hb)
       (try clear hb2)
       (try clear hk)
       (try clear hi)
       refine hK.out _ _ ⟨(blk_cell BK1153.out 0).trans rfl, (blk_cell BK1153.out 1).trans rfl, (blk_cell BK1153.out 2).trans rfl, (blk_cell BK1153.out 3).trans rfl, (blk_cell BK1152.out 0).trans rfl, (blk_cell BK1152.out 1).trans rfl, (blk_cell BK1152.out 2).trans rfl, (blk_cell BK1152.out 3).trans rfl, (blk_cell BK1152.out 4).trans rfl, (blk_cell BK1152.out 5).trans rfl, (blk_cell BK1152.out 6).trans rfl⟩ (fun hHeld => ?_)
       clear hK K
       refine norm_ (a' := ?_) ?_ ?_
       rotate_left
       ·show Act.put _ (some 37) _ = _
        simp only [Act.put, List.setIfInBounds_toArray, List.set_cons_zero, List.set_cons_succ, i64_w, i32_w]
        rfl
       refine one_ (i := 24) (N := some 41) #[true, true, true, true, true, true, true, true, true, true, true, true, true, true, true, true, true, true, true, true, true, true, true, true, true, false, false, false, false, false, false] rfl rfl (one_of HT_.out (by kernel_rfl)) (by decide) (fun K hK => ?_)
       refine goes_ Try.func101 (by kernel_rfl) rfl #[.agg #[.int .u8 a0_0, .int .i64 a0_1, .int .i64 a0_2, .int .i64 a0_3, .int .i64 a0_4, .int .i64 a0_5, .slice A0_6 l0_6.length c0_6], .int .u8 a2, .slice A3 l3.length c3] (by rfl) rfl rfl (by (try simp only [List.map_toArray, List.map_cons, List.map_nil]); first | done | rfl | (simp only [List.length_drop, List.length_take]; rfl)) ?_
       with_reducible refine (sashref08_Path.calls kj4 a0_0 a0_1 a0_2 a0_3 a0_4 a0_5 _ _ l0_6 a2 _ _ l3 t1161 _ ?side1 ?side2 ?side3 ?side4 A26.out).mono ?_
       (case side1 => repeat (first | exact (Kd.C_below HR0_6.out HB.out) | (with_reducible refine Kd.C_alloc ?_ _) | (with_reducible refine Kd.C_drewN ?_ _) | (with_reducible refine Kd.C_drew ?_)))
       (case side2 => exact HC0_6.out)
       (case side3 => repeat (first | exact (Kd.C_below HR3.out HB.out) | (with_reducible refine Kd.C_alloc ?_ _) | (with_reducible refine Kd.C_drewN ?_ _) | (with_reducible refine Kd.C_drew ?_)))
       (case side4 => exact HC3.out)
       rintro e w35 ⟨rfl, hb⟩
       refine ⟨_, rfl, ?_⟩
       have n0_ := Aside0.mk (blk_below (g := gb1152) (o := .cells #[.int .u8 a0_0, .int .i64 a0_1, .int .i64 a0_2, .int .i64 a0_3, .int .i64 a0_4, .int .i64 a0_5, .slice A0_6 l0_6.length c0_6] 26 (0, 0)) (by (with_reducible repeat (first | refine blk_drewN ?_ _ | refine blk_drew ?_ | refine blk_alloc ?_ _)); exact BK1152.out) hb)
       have n1_ := Aside0.mk (blk_below (g := gb1153) (o := .cells #[.int .i64 a1_0, .int .i64 a1_1, .int .i64 a1_2, .int .i64 a1_3] 23 (0, 0)) (by (with_reducible repeat (first | refine blk_drewN ?_ _ | refine blk_drew ?_ | refine blk_alloc ?_ _)); exact BK1153.out) hb)
       have n2_ := Aside0.mk (below_step (by repeat (first | (with_reducible first | exact HB.out | apply below_alloc | apply pw_below_drewN | apply below_drew1 | refine below_set ?_ GE1152.out | refine below_set ?_ GE1153.out) | exact HB.out)) hb)
       clear BK1152
       clear BK1153
       clear HB
       have BK1152 := n0_
       have BK1153 := n1_
       have HB := n2_
       clear n0_ n1_ n2_
       (try clear hb)
       (try clear hb2)
       (try clear hk)
       (try clear hi)
       refine hK.out _ _ ⟨(blk_cell BK1153.out 0).trans rfl, (blk_cell BK1153.out 1).trans rfl, (blk_cell BK1153.out 2).trans rfl, (blk_cell BK1153.out 3).trans rfl, (blk_cell BK1152.out 0).trans rfl, (blk_cell BK1152.out 1).trans rfl, (blk_cell BK1152.out 2).trans rfl, (blk_cell BK1152.out 3).trans rfl, (blk_cell BK1152.out 4).trans rfl, (blk_cell BK1152.out 5).trans rfl, (blk_cell BK1152.out 6).trans rfl⟩ (fun hHeld => ?_)
       clear hK K
       refine norm_ (a' := ?_) ?_ ?_
       rotate_left
       ·show Act.put _ (some 41) _ = _
        simp only [Act.put, List.setIfInBounds_toArray, List.set_cons_zero, List.set_cons_succ, i64_w, i32_w]
        rfl
       refine pure_ (i := 25) (N := some 42) (v := ?_) (a' := ?_) #[true, true, true, true, true, true, true, true, true, true, true, true, true, true, true, true, true, true, true, true, true, true, true, true, true, true, false, false, false, false, false] rfl rfl (any_of HT_.out (by kernel_rfl)) (fun _ _ _ h => h) (Or.inl ⟨by rfl, ?_⟩) ?_ ?_
       rotate_left
       ·intro w'
        go_simp
        with_reducible rfl
       rotate_left
       ·simp only [Act.put, List.setIfInBounds_toArray, List.set_cons_zero, List.set_cons_succ, i64_w, i32_w]
        rfl
       refine pure_ (i := 26) (N := some 43) (v := ?_) (a' := ?_) #[true, true, true, true, true, true, true, true, true, true, true, true, true, true, true, true, true, true, true, true, true, true, true, true, true, true, true, false, false, false, false] rfl rfl (any_of HT_.out (by kernel_rfl)) (fun _ _ _ h => h) (Or.inl ⟨by rfl, ?_⟩) ?_ ?_
       rotate_left
       ·intro w'
        go_simp
        with_reducible rfl
       rotate_left
       ·simp only [Act.put, List.setIfInBounds_toArray, List.set_cons_zero, List.set_cons_succ, i64_w, i32_w]
        rfl
       refine pure_ (i := 27) (N := some 44) (v := ?_) (a' := ?_) #[true, true, true, true, true, true, true, true, true, true, true, true, true, true, true, true, true, true, true, true, true, true, true, true, true, true, true, true, false, false, false] rfl rfl (any_of HT_.out (by kernel_rfl)) (fun _ _ _ h => h) (Or.inl ⟨by rfl, ?_⟩) ?_ ?_
       rotate_left
       ·intro w'
        go_simp
        with_reducible rfl
       rotate_left
       ·simp only [Act.put, List.setIfInBounds_toArray, List.set_cons_zero, List.set_cons_succ, i64_w, i32_w]
        rfl
       refine one_ (i := 28) (N := some 45) #[true, true, true, true, true, true, true, true, true, true, true, true, true, true, true, true, true, true, true, true, true, true, true, true, true, true, true, true, true, false, false] rfl rfl (one_of HT_.out (by kernel_rfl)) (by decide) (fun K hK => ?_)
       refine goes_ Try.func85 (by kernel_rfl) rfl #[] (by rfl) rfl rfl (by (try simp only [List.map_toArray, List.map_cons, List.map_nil]); first | done | rfl | (simp only [List.length_drop, List.length_take]; rfl)) ?_
       with_reducible refine (sashlaw08_awake.calls kj4  t1162 _ A28.out).mono ?_
       rintro e w36 ⟨rfl, hb⟩
       refine ⟨_, rfl, ?_⟩
       have n0_ := Aside0.mk (blk_below (g := gb1152) (o := .cells #[.int .u8 a0_0, .int .i64 a0_1, .int .i64 a0_2, .int .i64 a0_3, .int .i64 a0_4, .int .i64 a0_5, .slice A0_6 l0_6.length c0_6] 26 (0, 0)) (by (with_reducible repeat (first | refine blk_drewN ?_ _ | refine blk_drew ?_ | refine blk_alloc ?_ _)); exact BK1152.out) hb)
       have n1_ := Aside0.mk (blk_below (g := gb1153) (o := .cells #[.int .i64 a1_0, .int .i64 a1_1, .int .i64 a1_2, .int .i64 a1_3] 23 (0, 0)) (by (with_reducible repeat (first | refine blk_drewN ?_ _ | refine blk_drew ?_ | refine blk_alloc ?_ _)); exact BK1153.out) hb)
       have n2_ := Aside0.mk (below_step (by repeat (first | (with_reducible first | exact HB.out | apply below_alloc | apply pw_below_drewN | apply below_drew1 | refine below_set ?_ GE1152.out | refine below_set ?_ GE1153.out) | exact HB.out)) hb)
       clear BK1152
       clear BK1153
       clear HB
       have BK1152 := n0_
       have BK1153 := n1_
       have HB := n2_
       clear n0_ n1_ n2_
       (try clear hb)
       (try clear hb2)
       (try clear hk)
       (try clear hi)
       refine hK.out _ _ ⟨(blk_cell BK1153.out 0).trans rfl, (blk_cell BK1153.out 1).trans rfl, (blk_cell BK1153.out 2).trans rfl, (blk_cell BK1153.out 3).trans rfl, (blk_cell BK1152.out 0).trans rfl, (blk_cell BK1152.out 1).trans rfl, (blk_cell BK1152.out 2).trans rfl, (blk_cell BK1152.out 3).trans rfl, (blk_cell BK1152.out 4).trans rfl, (blk_cell BK1152.out 5).trans rfl, (blk_cell BK1152.out 6).trans rfl⟩ (fun hHeld => ?_)
       clear hK K
       refine norm_ (a' := ?_) ?_ ?_
       rotate_left
       ·show Act.put _ (some 45) _ = _
        simp only [Act.put, List.setIfInBounds_toArray, List.set_cons_zero, List.set_cons_succ, i64_w, i32_w]
        rfl
       refine pure_ (i := 29) (N := some 46) (v := ?_) (a' := ?_) #[true, true, true, true, true, true, true, true, true, true, true, true, true, true, true, true, true, true, true, true, true, true, true, true, true, true, true, true, true, true, false] rfl rfl (any_of HT_.out (by kernel_rfl)) (fun _ _ _ h => h) (Or.inl ⟨by rfl, ?_⟩) ?_ ?_
       rotate_left
       ·intro w'
        go_simp
        with_reducible rfl
       rotate_left
       ·simp only [Act.put, List.setIfInBounds_toArray, List.set_cons_zero, List.set_cons_succ, i64_w, i32_w]
        rfl
       refine pure_ (i := 30) (N := some 8) (v := ?_) (a' := ?_) #[true, true, true, true, true, true, true, true, true, true, true, true, true, true, true, true, true, true, true, true, true, true, true, true, true, true, true, true, true, true, true] rfl rfl (any_of HT_.out (by kernel_rfl)) (fun _ _ _ h => h) (Or.inl ⟨by rfl, ?_⟩) ?_ ?_
       rotate_left
       ·intro w'
        go_simp
        with_reducible rfl
       rotate_left
       ·simp only [Act.put, List.setIfInBounds_toArray, List.set_cons_zero, List.set_cons_succ, i64_w, i32_w]
        rfl
       refine done_ (done_of HT_.out (by kernel_rfl)) ?_
       try go_wp2
       go_ret
       exact ⟨by first | rfl | (simp [errW_none, errW_some] <;> rfl) | (simp [*, errW_none, errW_some] <;> rfl), by repeat (first | (with_reducible first | exact HB.out | apply below_alloc | apply pw_below_drewN | apply below_drew1 | refine below_set ?_ GE1152.out | refine below_set ?_ GE1153.out) | exact HB.out)⟩
      ·rw [if_neg c27] at H
       have c27b0 : (t1160 == t1161) = false := beq_eq_false_iff_ne.mpr c27
       have c27b1 : (t1160 != t1161) = true := bne_iff_ne.mpr c27
       obtain rfl := Option.some.inj H
       try go_wp2
       have n0_ := Aside0.mk (blk_drew BK1152.out)
       have n1_ := Aside0.mk (blk_drew BK1153.out)
       have n2_ := Aside0.mk (below_drew1 HB.out)
       clear BK1152
       clear BK1153
       clear HB
       have BK1152 := n0_
       have BK1153 := n1_
       have HB := n2_
       clear n0_ n1_ n2_
       refine start_ (n := 31) (S := fun w' => w'.cell? ⟨gb1153, 0, none⟩ = some (.int .i64 a1_0) ∧ w'.cell? ⟨gb1153, 1, none⟩ = some (.int .i64 a1_1) ∧ w'.cell? ⟨gb1153, 2, none⟩ = some (.int .i64 a1_2) ∧ w'.cell? ⟨gb1153, 3, none⟩ = some (.int .i64 a1_3) ∧ w'.cell? ⟨gb1152, 0, none⟩ = some (.int .u8 a0_0) ∧ w'.cell? ⟨gb1152, 1, none⟩ = some (.int .i64 a0_1) ∧ w'.cell? ⟨gb1152, 2, none⟩ = some (.int .i64 a0_2) ∧ w'.cell? ⟨gb1152, 3, none⟩ = some (.int .i64 a0_3) ∧ w'.cell? ⟨gb1152, 4, none⟩ = some (.int .i64 a0_4) ∧ w'.cell? ⟨gb1152, 5, none⟩ = some (.int .i64 a0_5) ∧ w'.cell? ⟨gb1152, 6, none⟩ = some (.slice A0_6 l0_6.length c0_6)) (ds := []) #[false, false, false, false, false, false, false, false, false, false, false, false, false, false, false, false, false, false, false, false, false, false, false, false, false, false, false, false, false, false, false] (by kernel_rfl) rfl rfl ⟨(blk_cell BK1153.out 0).trans rfl, (blk_cell BK1153.out 1).trans rfl, (blk_cell BK1153.out 2).trans rfl, (blk_cell BK1153.out 3).trans rfl, (blk_cell BK1152.out 0).trans rfl, (blk_cell BK1152.out 1).trans rfl, (blk_cell BK1152.out 2).trans rfl, (blk_cell BK1152.out 3).trans rfl, (blk_cell BK1152.out 4).trans rfl, (blk_cell BK1152.out 5).trans rfl, (blk_cell BK1152.out 6).trans rfl⟩ (fun hHeld => ?_); refine with_tabW sashlaw08_LeastPaths.tab3 sashlaw08_LeastPaths.bits3 (fun HT_ HW_ => ?_)
       generalize wc.drew = w37 at BK1152 BK1153 HB hHeld ⊢
       refine pure_ (i := 1) (N := some 18) (v := ?_) (a' := ?_) #[false, true, false, false, false, false, false, false, false, false, false, false, false, false, false, false, false, false, false, false, false, false, false, false, false, false, false, false, false, false, false] rfl rfl (any_of HT_.out (by kernel_rfl)) (fun _ _ _ h => h) (Or.inl ⟨by rfl, ?_⟩) ?_ ?_
       rotate_left
       ·intro w'
        go_simp
        with_reducible rfl
       rotate_left
       ·simp only [Act.put, List.setIfInBounds_toArray, List.set_cons_zero, List.set_cons_succ, i64_w, i32_w]
        rfl
       refine pure_ (i := 4) (N := some 21) (v := ?_) (a' := ?_) #[false, true, false, false, true, false, false, false, false, false, false, false, false, false, false, false, false, false, false, false, false, false, false, false, false, false, false, false, false, false, false] rfl rfl (any_of HT_.out (by kernel_rfl)) (fun _ _ _ h => h) (Or.inl ⟨by rfl, ?_⟩) ?_ ?_
       rotate_left
       ·intro w'
        go_simp
        with_reducible rfl
       rotate_left
       ·simp only [Act.put, List.setIfInBounds_toArray, List.set_cons_zero, List.set_cons_succ, i64_w, i32_w]
        rfl
       refine take_ (i := 0) (N := some 17) (v := ?_) (a' := ?_) #[true, true, false, false, true, false, false, false, false, false, false, false, false, false, false, false, false, false, false, false, false, false, false, false, false, false, false, false, false, false, false] rfl rfl (take_ofW HT_.out HW_.out (by kernel_rfl)) (fun _ _ _ h => h) (Or.inl ⟨by rfl, ?_⟩) hHeld ?_ ?_
       rotate_left
       ·rintro w' ⟨s0, s1, s2, s3, s4, s5, s6, s7, s8, s9, s10⟩
        go_simp
        with_reducible rfl
       rotate_left
       ·simp only [Act.put, List.setIfInBounds_toArray, List.set_cons_zero, List.set_cons_succ, i64_w, i32_w]
        rfl
       refine take_ (i := 3) (N := some 20) (v := ?_) (a' := ?_) #[true, true, false, true, true, false, false, false, false, false, false, false, false, false, false, false, false, false, false, false, false, false, false, false, false, false, false, false, false, false, false] rfl rfl (take_ofW HT_.out HW_.out (by kernel_rfl)) (fun _ _ _ h => h) (Or.inl ⟨by rfl, ?_⟩) hHeld ?_ ?_
       rotate_left
       ·rintro w' ⟨s0, s1, s2, s3, s4, s5, s6, s7, s8, s9, s10⟩
        go_simp
        with_reducible rfl
       rotate_left
       ·simp only [Act.put, List.setIfInBounds_toArray, List.set_cons_zero, List.set_cons_succ, i64_w, i32_w]
        rfl
       refine one_ (i := 2) (N := some 19) #[true, true, true, true, true, false, false, false, false, false, false, false, false, false, false, false, false, false, false, false, false, false, false, false, false, false, false, false, false, false, false] rfl rfl (one_of HT_.out (by kernel_rfl)) (by decide) (fun K hK => ?_)
       refine goes_ Try.func98 (by kernel_rfl) rfl #[.agg #[.int .i64 a1_0, .int .i64 a1_1, .int .i64 a1_2, .int .i64 a1_3], .int .u8 a2] (by rfl) rfl rfl (by (try simp only [List.map_toArray, List.map_cons, List.map_nil]); first | done | rfl | (simp only [List.length_drop, List.length_take]; rfl)) ?_
       with_reducible refine (least_Size.calls a1_0 a1_1 a1_2 a1_3 a2 t1156 _ A19.out).mono ?_
       rintro e w38 ⟨rfl, hb⟩
       refine ⟨_, rfl, ?_⟩
       have n0_ := Aside0.mk (blk_below (g := gb1152) (o := .cells #[.int .u8 a0_0, .int .i64 a0_1, .int .i64 a0_2, .int .i64 a0_3, .int .i64 a0_4, .int .i64 a0_5, .slice A0_6 l0_6.length c0_6] 26 (0, 0)) (by (with_reducible repeat (first | refine blk_drewN ?_ _ | refine blk_drew ?_ | refine blk_alloc ?_ _)); exact BK1152.out) hb)
       have n1_ := Aside0.mk (blk_below (g := gb1153) (o := .cells #[.int .i64 a1_0, .int .i64 a1_1, .int .i64 a1_2, .int .i64 a1_3] 23 (0, 0)) (by (with_reducible repeat (first | refine blk_drewN ?_ _ | refine blk_drew ?_ | refine blk_alloc ?_ _)); exact BK1153.out) hb)
       have n2_ := Aside0.mk (below_step (by repeat (first | (with_reducible first | exact HB.out | apply below_alloc | apply pw_below_drewN | apply below_drew1 | refine below_set ?_ GE1152.out | refine below_set ?_ GE1153.out) | exact HB.out)) hb)
       clear BK1152
       clear BK1153
       clear HB
       have BK1152 := n0_
       have BK1153 := n1_
       have HB := n2_
       clear n0_ n1_ n2_
       (try clear hb)
       (try clear hb2)
       (try clear hk)
       (try clear hi)
       refine hK.out _ _ ⟨(blk_cell BK1153.out 0).trans rfl, (blk_cell BK1153.out 1).trans rfl, (blk_cell BK1153.out 2).trans rfl, (blk_cell BK1153.out 3).trans rfl, (blk_cell BK1152.out 0).trans rfl, (blk_cell BK1152.out 1).trans rfl, (blk_cell BK1152.out 2).trans rfl, (blk_cell BK1152.out 3).trans rfl, (blk_cell BK1152.out 4).trans rfl, (blk_cell BK1152.out 5).trans rfl, (blk_cell BK1152.out 6).trans rfl⟩ (fun hHeld => ?_)
       clear hK K
       refine norm_ (a' := ?_) ?_ ?_
       rotate_left
       ·show Act.put _ (some 19) _ = _
        simp only [Act.put, List.setIfInBounds_toArray, List.set_cons_zero, List.set_cons_succ, i64_w, i32_w]
        rfl
       refine one_ (i := 5) (N := some 22) #[true, true, true, true, true, true, false, false, false, false, false, false, false, false, false, false, false, false, false, false, false, false, false, false, false, false, false, false, false, false, false] rfl rfl (one_of HT_.out (by kernel_rfl)) (by decide) (fun K hK => ?_)
       refine goes_ Try.func87 (by kernel_rfl) rfl #[.agg #[.int .i64 a1_0, .int .i64 a1_1, .int .i64 a1_2, .int .i64 a1_3], .int .u8 a2] (by rfl) rfl rfl (by (try simp only [List.map_toArray, List.map_cons, List.map_nil]); first | done | rfl | (simp only [List.length_drop, List.length_take]; rfl)) ?_
       with_reducible refine (sashref08_Size.calls a1_0 a1_1 a1_2 a1_3 a2 t1157 _ A20.out).mono ?_
       rintro e w39 ⟨rfl, hb⟩
       refine ⟨_, rfl, ?_⟩
       have n0_ := Aside0.mk (blk_below (g := gb1152) (o := .cells #[.int .u8 a0_0, .int .i64 a0_1, .int .i64 a0_2, .int .i64 a0_3, .int .i64 a0_4, .int .i64 a0_5, .slice A0_6 l0_6.length c0_6] 26 (0, 0)) (by (with_reducible repeat (first | refine blk_drewN ?_ _ | refine blk_drew ?_ | refine blk_alloc ?_ _)); exact BK1152.out) hb)
       have n1_ := Aside0.mk (blk_below (g := gb1153) (o := .cells #[.int .i64 a1_0, .int .i64 a1_1, .int .i64 a1_2, .int .i64 a1_3] 23 (0, 0)) (by (with_reducible repeat (first | refine blk_drewN ?_ _ | refine blk_drew ?_ | refine blk_alloc ?_ _)); exact BK1153.out) hb)
       have n2_ := Aside0.mk (below_step (by repeat (first | (with_reducible first | exact HB.out | apply below_alloc | apply pw_below_drewN | apply below_drew1 | refine below_set ?_ GE1152.out | refine below_set ?_ GE1153.out) | exact HB.out)) hb)
       clear BK1152
       clear BK1153
       clear HB
       have BK1152 := n0_
       have BK1153 := n1_
       have HB := n2_
       clear n0_ n1_ n2_
       (try clear hb)
       (try clear hb2)
       (try clear hk)
       (try clear hi)
       refine hK.out _ _ ⟨(blk_cell BK1153.out 0).trans rfl, (blk_cell BK1153.out 1).trans rfl, (blk_cell BK1153.out 2).trans rfl, (blk_cell BK1153.out 3).trans rfl, (blk_cell BK1152.out 0).trans rfl, (blk_cell BK1152.out 1).trans rfl, (blk_cell BK1152.out 2).trans rfl, (blk_cell BK1152.out 3).trans rfl, (blk_cell BK1152.out 4).trans rfl, (blk_cell BK1152.out 5).trans rfl, (blk_cell BK1152.out 6).trans rfl⟩ (fun hHeld => ?_)
       clear hK K
       refine norm_ (a' := ?_) ?_ ?_
       rotate_left
       ·show Act.put _ (some 22) _ = _
        simp only [Act.put, List.setIfInBounds_toArray, List.set_cons_zero, List.set_cons_succ, i64_w, i32_w]
        rfl
       refine pure_ (i := 6) (N := some 23) (v := ?_) (a' := ?_) #[true, true, true, true, true, true, true, false, false, false, false, false, false, false, false, false, false, false, false, false, false, false, false, false, false, false, false, false, false, false, false] rfl rfl (any_of HT_.out (by kernel_rfl)) (fun _ _ _ h => h) (Or.inl ⟨by rfl, ?_⟩) ?_ ?_
       rotate_left
       ·intro w'
        go_simp
        with_reducible rfl
       rotate_left
       ·simp only [Act.put, List.setIfInBounds_toArray, List.set_cons_zero, List.set_cons_succ, i64_w, i32_w]
        rfl
       refine pure_ (i := 7) (N := some 24) (v := ?_) (a' := ?_) #[true, true, true, true, true, true, true, true, false, false, false, false, false, false, false, false, false, false, false, false, false, false, false, false, false, false, false, false, false, false, false] rfl rfl (any_of HT_.out (by kernel_rfl)) (fun _ _ _ h => h) (Or.inl ⟨by rfl, ?_⟩) ?_ ?_
       rotate_left
       ·intro w'
        go_simp
        with_reducible rfl
       rotate_left
       ·simp only [Act.put, List.setIfInBounds_toArray, List.set_cons_zero, List.set_cons_succ, i64_w, i32_w]
        rfl
       refine pure_ (i := 9) (N := some 26) (v := ?_) (a' := ?_) #[true, true, true, true, true, true, true, true, false, true, false, false, false, false, false, false, false, false, false, false, false, false, false, false, false, false, false, false, false, false, false] rfl rfl (any_of HT_.out (by kernel_rfl)) (fun _ _ _ h => h) (Or.inl ⟨by rfl, ?_⟩) ?_ ?_
       rotate_left
       ·intro w'
        go_simp
        with_reducible rfl
       rotate_left
       ·simp only [Act.put, List.setIfInBounds_toArray, List.set_cons_zero, List.set_cons_succ, i64_w, i32_w]
        rfl
       refine pure_ (i := 12) (N := some 29) (v := ?_) (a' := ?_) #[true, true, true, true, true, true, true, true, false, true, false, false, true, false, false, false, false, false, false, false, false, false, false, false, false, false, false, false, false, false, false] rfl rfl (any_of HT_.out (by kernel_rfl)) (fun _ _ _ h => h) (Or.inl ⟨by rfl, ?_⟩) ?_ ?_
       rotate_left
       ·intro w'
        go_simp
        with_reducible rfl
       rotate_left
       ·simp only [Act.put, List.setIfInBounds_toArray, List.set_cons_zero, List.set_cons_succ, i64_w, i32_w]
        rfl
       refine take_ (i := 8) (N := some 25) (v := ?_) (a' := ?_) #[true, true, true, true, true, true, true, true, true, true, false, false, true, false, false, false, false, false, false, false, false, false, false, false, false, false, false, false, false, false, false] rfl rfl (take_ofW HT_.out HW_.out (by kernel_rfl)) (fun _ _ _ h => h) (Or.inl ⟨by rfl, ?_⟩) hHeld ?_ ?_
       rotate_left
       ·rintro w' ⟨s0, s1, s2, s3, s4, s5, s6, s7, s8, s9, s10⟩
        go_simp
        with_reducible rfl
       rotate_left
       ·simp only [Act.put, List.setIfInBounds_toArray, List.set_cons_zero, List.set_cons_succ, i64_w, i32_w]
        rfl
       refine take_ (i := 11) (N := some 28) (v := ?_) (a' := ?_) #[true, true, true, true, true, true, true, true, true, true, false, true, true, false, false, false, false, false, false, false, false, false, false, false, false, false, false, false, false, false, false] rfl rfl (take_ofW HT_.out HW_.out (by kernel_rfl)) (fun _ _ _ h => h) (Or.inl ⟨by rfl, ?_⟩) hHeld ?_ ?_
       rotate_left
       ·rintro w' ⟨s0, s1, s2, s3, s4, s5, s6, s7, s8, s9, s10⟩
        go_simp
        with_reducible rfl
       rotate_left
       ·simp only [Act.put, List.setIfInBounds_toArray, List.set_cons_zero, List.set_cons_succ, i64_w, i32_w]
        rfl
       refine one_ (i := 10) (N := some 27) #[true, true, true, true, true, true, true, true, true, true, true, true, true, false, false, false, false, false, false, false, false, false, false, false, false, false, false, false, false, false, false] rfl rfl (one_of HT_.out (by kernel_rfl)) (by decide) (fun K hK => ?_)
       refine goes_ Try.func99 (by kernel_rfl) rfl #[.agg #[.int .u8 a0_0, .int .i64 a0_1, .int .i64 a0_2, .int .i64 a0_3, .int .i64 a0_4, .int .i64 a0_5, .slice A0_6 l0_6.length c0_6], .int .u8 a2] (by rfl) rfl rfl (by (try simp only [List.map_toArray, List.map_cons, List.map_nil]); first | done | rfl | (simp only [List.length_drop, List.length_take]; rfl)) ?_
       with_reducible refine (least_Along.calls a0_0 a0_1 a0_2 a0_3 a0_4 a0_5 _ _ l0_6 a2 t1158 _ ?side1 ?side2 A22.out).mono ?_
       (case side1 => repeat (first | exact (Kd.C_below HR0_6.out HB.out) | (with_reducible refine Kd.C_alloc ?_ _) | (with_reducible refine Kd.C_drewN ?_ _) | (with_reducible refine Kd.C_drew ?_)))
       (case side2 => exact HC0_6.out)
       rintro e w40 ⟨rfl, hb⟩
       refine ⟨_, rfl, ?_⟩
       have n0_ := Aside0.mk (blk_below (g := gb1152) (o := .cells #[.int .u8 a0_0, .int .i64 a0_1, .int .i64 a0_2, .int .i64 a0_3, .int .i64 a0_4, .int .i64 a0_5, .slice A0_6 l0_6.length c0_6] 26 (0, 0)) (by (with_reducible repeat (first | refine blk_drewN ?_ _ | refine blk_drew ?_ | refine blk_alloc ?_ _)); exact BK1152.out) hb)
       have n1_ := Aside0.mk (blk_below (g := gb1153) (o := .cells #[.int .i64 a1_0, .int .i64 a1_1, .int .i64 a1_2, .int .i64 a1_3] 23 (0, 0)) (by (with_reducible repeat (first | refine blk_drewN ?_ _ | refine blk_drew ?_ | refine blk_alloc ?_ _)); exact BK1153.out) hb)
       have n2_ := Aside0.mk (below_step (by repeat (first | (with_reducible first | exact HB.out | apply below_alloc | apply pw_below_drewN | apply below_drew1 | refine below_set ?_ GE1152.out | refine below_set ?_ GE1153.out) | exact HB.out)) hb)
       clear BK1152
       clear BK1153
       clear HB
       have BK1152 := n0_
       have BK1153 := n1_
       have HB := n2_
       clear n0_ n1_ n2_
       (try clear hb)
       (try clear hb2)
       (try clear hk)
       (try clear hi)
       refine hK.out _ _ ⟨(blk_cell BK1153.out 0).trans rfl, (blk_cell BK1153.out 1).trans rfl, (blk_cell BK1153.out 2).trans rfl, (blk_cell BK1153.out 3).trans rfl, (blk_cell BK1152.out 0).trans rfl, (blk_cell BK1152.out 1).trans rfl, (blk_cell BK1152.out 2).trans rfl, (blk_cell BK1152.out 3).trans rfl, (blk_cell BK1152.out 4).trans rfl, (blk_cell BK1152.out 5).trans rfl, (blk_cell BK1152.out 6).trans rfl⟩ (fun hHeld => ?_)
       clear hK K
       refine norm_ (a' := ?_) ?_ ?_
       rotate_left
       ·show Act.put _ (some 27) _ = _
        simp only [Act.put, List.setIfInBounds_toArray, List.set_cons_zero, List.set_cons_succ, i64_w, i32_w]
        rfl
       refine one_ (i := 13) (N := some 30) #[true, true, true, true, true, true, true, true, true, true, true, true, true, true, false, false, false, false, false, false, false, false, false, false, false, false, false, false, false, false, false] rfl rfl (one_of HT_.out (by kernel_rfl)) (by decide) (fun K hK => ?_)
       refine goes_ Try.func88 (by kernel_rfl) rfl #[.agg #[.int .u8 a0_0, .int .i64 a0_1, .int .i64 a0_2, .int .i64 a0_3, .int .i64 a0_4, .int .i64 a0_5, .slice A0_6 l0_6.length c0_6], .int .u8 a2] (by rfl) rfl rfl (by (try simp only [List.map_toArray, List.map_cons, List.map_nil]); first | done | rfl | (simp only [List.length_drop, List.length_take]; rfl)) ?_
       with_reducible refine (sashref08_Along.calls a0_0 a0_1 a0_2 a0_3 a0_4 a0_5 _ _ l0_6 a2 t1159 _ ?side1 ?side2 A23.out).mono ?_
       (case side1 => repeat (first | exact (Kd.C_below HR0_6.out HB.out) | (with_reducible refine Kd.C_alloc ?_ _) | (with_reducible refine Kd.C_drewN ?_ _) | (with_reducible refine Kd.C_drew ?_)))
       (case side2 => exact HC0_6.out)
       rintro e w41 ⟨rfl, hb⟩
       refine ⟨_, rfl, ?_⟩
       have n0_ := Aside0.mk (blk_below (g := gb1152) (o := .cells #[.int .u8 a0_0, .int .i64 a0_1, .int .i64 a0_2, .int .i64 a0_3, .int .i64 a0_4, .int .i64 a0_5, .slice A0_6 l0_6.length c0_6] 26 (0, 0)) (by (with_reducible repeat (first | refine blk_drewN ?_ _ | refine blk_drew ?_ | refine blk_alloc ?_ _)); exact BK1152.out) hb)
       have n1_ := Aside0.mk (blk_below (g := gb1153) (o := .cells #[.int .i64 a1_0, .int .i64 a1_1, .int .i64 a1_2, .int .i64 a1_3] 23 (0, 0)) (by (with_reducible repeat (first | refine blk_drewN ?_ _ | refine blk_drew ?_ | refine blk_alloc ?_ _)); exact BK1153.out) hb)
       have n2_ := Aside0.mk (below_step (by repeat (first | (with_reducible first | exact HB.out | apply below_alloc | apply pw_below_drewN | apply below_drew1 | refine below_set ?_ GE1152.out | refine below_set ?_ GE1153.out) | exact HB.out)) hb)
       clear BK1152
       clear BK1153
       clear HB
       have BK1152 := n0_
       have BK1153 := n1_
       have HB := n2_
       clear n0_ n1_ n2_
       (try clear hb)
       (try clear hb2)
       (try clear hk)
       (try clear hi)
       refine hK.out _ _ ⟨(blk_cell BK1153.out 0).trans rfl, (blk_cell BK1153.out 1).trans rfl, (blk_cell BK1153.out 2).trans rfl, (blk_cell BK1153.out 3).trans rfl, (blk_cell BK1152.out 0).trans rfl, (blk_cell BK1152.out 1).trans rfl, (blk_cell BK1152.out 2).trans rfl, (blk_cell BK1152.out 3).trans rfl, (blk_cell BK1152.out 4).trans rfl, (blk_cell BK1152.out 5).trans rfl, (blk_cell BK1152.out 6).trans rfl⟩ (fun hHeld => ?_)
       clear hK K
       refine norm_ (a' := ?_) ?_ ?_
       rotate_left
       ·show Act.put _ (some 30) _ = _
        simp only [Act.put, List.setIfInBounds_toArray, List.set_cons_zero, List.set_cons_succ, i64_w, i32_w]
        rfl
       refine pure_ (i := 14) (N := some 31) (v := ?_) (a' := ?_) #[true, true, true, true, true, true, true, true, true, true, true, true, true, true, true, false, false, false, false, false, false, false, false, false, false, false, false, false, false, false, false] rfl rfl (any_of HT_.out (by kernel_rfl)) (fun _ _ _ h => h) (Or.inl ⟨by rfl, ?_⟩) ?_ ?_
       rotate_left
       ·intro w'
        go_simp
        with_reducible rfl
       rotate_left
       ·simp only [Act.put, List.setIfInBounds_toArray, List.set_cons_zero, List.set_cons_succ, i64_w, i32_w]
        rfl
       refine pure_ (i := 15) (N := some 32) (v := ?_) (a' := ?_) #[true, true, true, true, true, true, true, true, true, true, true, true, true, true, true, true, false, false, false, false, false, false, false, false, false, false, false, false, false, false, false] rfl rfl (any_of HT_.out (by kernel_rfl)) (fun _ _ _ h => h) (Or.inl ⟨by rfl, ?_⟩) ?_ ?_
       rotate_left
       ·intro w'
        go_simp
        with_reducible rfl
       rotate_left
       ·simp only [Act.put, List.setIfInBounds_toArray, List.set_cons_zero, List.set_cons_succ, i64_w, i32_w]
        rfl
       refine pure_ (i := 16) (N := some 33) (v := ?_) (a' := ?_) #[true, true, true, true, true, true, true, true, true, true, true, true, true, true, true, true, true, false, false, false, false, false, false, false, false, false, false, false, false, false, false] rfl rfl (any_of HT_.out (by kernel_rfl)) (fun _ _ _ h => h) (Or.inl ⟨by rfl, ?_⟩) ?_ ?_
       rotate_left
       ·intro w'
        go_simp
        with_reducible rfl
       rotate_left
       ·simp only [Act.put, List.setIfInBounds_toArray, List.set_cons_zero, List.set_cons_succ, i64_w, i32_w]
        rfl
       refine pure_ (i := 18) (N := some 35) (v := ?_) (a' := ?_) #[true, true, true, true, true, true, true, true, true, true, true, true, true, true, true, true, true, false, true, false, false, false, false, false, false, false, false, false, false, false, false] rfl rfl (any_of HT_.out (by kernel_rfl)) (fun _ _ _ h => h) (Or.inl ⟨by rfl, ?_⟩) ?_ ?_
       rotate_left
       ·intro w'
        go_simp
        with_reducible rfl
       rotate_left
       ·simp only [Act.put, List.setIfInBounds_toArray, List.set_cons_zero, List.set_cons_succ, i64_w, i32_w]
        rfl
       refine pure_ (i := 19) (N := some 36) (v := ?_) (a' := ?_) #[true, true, true, true, true, true, true, true, true, true, true, true, true, true, true, true, true, false, true, true, false, false, false, false, false, false, false, false, false, false, false] rfl rfl (any_of HT_.out (by kernel_rfl)) (fun _ _ _ h => h) (Or.inl ⟨by rfl, ?_⟩) ?_ ?_
       rotate_left
       ·intro w'
        go_simp
        with_reducible rfl
       rotate_left
       ·simp only [Act.put, List.setIfInBounds_toArray, List.set_cons_zero, List.set_cons_succ, i64_w, i32_w]
        rfl
       refine pure_ (i := 22) (N := some 39) (v := ?_) (a' := ?_) #[true, true, true, true, true, true, true, true, true, true, true, true, true, true, true, true, true, false, true, true, false, false, true, false, false, false, false, false, false, false, false] rfl rfl (any_of HT_.out (by kernel_rfl)) (fun _ _ _ h => h) (Or.inl ⟨by rfl, ?_⟩) ?_ ?_
       rotate_left
       ·intro w'
        go_simp
        with_reducible rfl
       rotate_left
       ·simp only [Act.put, List.setIfInBounds_toArray, List.set_cons_zero, List.set_cons_succ, i64_w, i32_w]
        rfl
       refine pure_ (i := 23) (N := some 40) (v := ?_) (a' := ?_) #[true, true, true, true, true, true, true, true, true, true, true, true, true, true, true, true, true, false, true, true, false, false, true, true, false, false, false, false, false, false, false] rfl rfl (any_of HT_.out (by kernel_rfl)) (fun _ _ _ h => h) (Or.inl ⟨by rfl, ?_⟩) ?_ ?_
       rotate_left
       ·intro w'
        go_simp
        with_reducible rfl
       rotate_left
       ·simp only [Act.put, List.setIfInBounds_toArray, List.set_cons_zero, List.set_cons_succ, i64_w, i32_w]
        rfl
       refine take_ (i := 17) (N := some 34) (v := ?_) (a' := ?_) #[true, true, true, true, true, true, true, true, true, true, true, true, true, true, true, true, true, true, true, true, false, false, true, true, false, false, false, false, false, false, false] rfl rfl (take_ofW HT_.out HW_.out (by kernel_rfl)) (fun _ _ _ h => h) (Or.inl ⟨by rfl, ?_⟩) hHeld ?_ ?_
       rotate_left
       ·rintro w' ⟨s0, s1, s2, s3, s4, s5, s6, s7, s8, s9, s10⟩
        go_simp
        with_reducible rfl
       rotate_left
       ·simp only [Act.put, List.setIfInBounds_toArray, List.set_cons_zero, List.set_cons_succ, i64_w, i32_w]
        rfl
       refine take_ (i := 21) (N := some 38) (v := ?_) (a' := ?_) #[true, true, true, true, true, true, true, true, true, true, true, true, true, true, true, true, true, true, true, true, false, true, true, true, false, false, false, false, false, false, false] rfl rfl (take_ofW HT_.out HW_.out (by kernel_rfl)) (fun _ _ _ h => h) (Or.inl ⟨by rfl, ?_⟩) hHeld ?_ ?_
       rotate_left
       ·rintro w' ⟨s0, s1, s2, s3, s4, s5, s6, s7, s8, s9, s10⟩
        go_simp
        with_reducible rfl
       rotate_left
       ·simp only [Act.put, List.setIfInBounds_toArray, List.set_cons_zero, List.set_cons_succ, i64_w, i32_w]
        rfl
       refine one_ (i := 20) (N := some 37) #[true, true, true, true, true, true, true, true, true, true, true, true, true, true, true, true, true, true, true, true, true, true, true, true, false, false, false, false, false, false, false] rfl rfl (one_of HT_.out (by kernel_rfl)) (by decide) (fun K hK => ?_)
       refine goes_ Try.func100 (by kernel_rfl) rfl #[.agg #[.int .u8 a0_0, .int .i64 a0_1, .int .i64 a0_2, .int .i64 a0_3, .int .i64 a0_4, .int .i64 a0_5, .slice A0_6 l0_6.length c0_6], .int .u8 a2, .slice A3 l3.length c3] (by rfl) rfl rfl (by (try simp only [List.map_toArray, List.map_cons, List.map_nil]); first | done | rfl | (simp only [List.length_drop, List.length_take]; rfl)) ?_
       with_reducible refine (least_Path.calls kj4 a0_0 a0_1 a0_2 a0_3 a0_4 a0_5 (fun k_ => k_ < w.heap.size) _ _ l0_6 a2 _ _ l3 t1160 _ ?side1 ?side2 ?side3 A25.out).mono ?_
       (case side1 => exact Kd.V_mk HC0_6.out (Kd.F_below (Kd.C_F k26_heap HR0_6.out) (by repeat (first | (with_reducible first | exact HB.out | apply below_alloc | apply pw_below_drewN | apply below_drew1 | refine below_set ?_ GE1152.out | refine below_set ?_ GE1153.out) | exact HB.out))))
       (case side2 => repeat (first | exact (Kd.C_below HR3.out HB.out) | (with_reducible refine Kd.C_alloc ?_ _) | (with_reducible refine Kd.C_drewN ?_ _) | (with_reducible refine Kd.C_drew ?_)))
       (case side3 => exact HC3.out)
       rintro e w42 ⟨rfl, hb⟩
       refine ⟨_, rfl, ?_⟩
       have n0_ := Aside0.mk (blk_below (g := gb1152) (o := .cells #[.int .u8 a0_0, .int .i64 a0_1, .int .i64 a0_2, .int .i64 a0_3, .int .i64 a0_4, .int .i64 a0_5, .slice A0_6 l0_6.length c0_6] 26 (0, 0)) (by (with_reducible repeat (first | refine blk_drewN ?_ _ | refine blk_drew ?_ | refine blk_alloc ?_ _)); exact BK1152.out) hb)
       have n1_ := Aside0.mk (blk_below (g := gb1153) (o := .cells #[.int .i64 a1_0, .int .i64 a1_1, .int .i64 a1_2, .int .i64 a1_3] 23 (0, 0)) (by (with_reducible repeat (first | refine blk_drewN ?_ _ | refine blk_drew ?_ | refine blk_alloc ?_ _)); exact BK1153.out) hb)
       have n2_ := Aside0.mk (below_step (by repeat (first | (with_reducible first | exact HB.out | apply below_alloc | apply pw_below_drewN | apply below_drew1 | refine below_set ?_ GE1152.out | refine below_set ?_ GE1153.out) | exact HB.out)) hb)
       clear BK1152
       clear BK1153
       clear HB
       have BK1152 := n0_
       have BK1153 := n1_
       have HB := n2_
       clear n0_ n1_ n2_
       (try clear hb)
       (try clear hb2)
       (try clear hk)
       (try clear hi)
       refine hK.out _ _ ⟨(blk_cell BK1153.out 0).trans rfl, (blk_cell BK1153.out 1).trans rfl, (blk_cell BK1153.out 2).trans rfl, (blk_cell BK1153.out 3).trans rfl, (blk_cell BK1152.out 0).trans rfl, (blk_cell BK1152.out 1).trans rfl, (blk_cell BK1152.out 2).trans rfl, (blk_cell BK1152.out 3).trans rfl, (blk_cell BK1152.out 4).trans rfl, (blk_cell BK1152.out 5).trans rfl, (blk_cell BK1152.out 6).trans rfl⟩ (fun hHeld => ?_)
       clear hK K
       refine norm_ (a' := ?_) ?_ ?_
       rotate_left
       ·show Act.put _ (some 37) _ = _
        simp only [Act.put, List.setIfInBounds_toArray, List.set_cons_zero, List.set_cons_succ, i64_w, i32_w]
        rfl
       refine one_ (i := 24) (N := some 41) #[true, true, true, true, true, true, true, true, true, true, true, true, true, true, true, true, true, true, true, true, true, true, true, true, true, false, false, false, false, false, false] rfl rfl (one_of HT_.out (by kernel_rfl)) (by decide) (fun K hK => ?_)
       refine goes_ Try.func101 (by kernel_rfl) rfl #[.agg #[.int .u8 a0_0, .int .i64 a0_1, .int .i64 a0_2, .int .i64 a0_3, .int .i64 a0_4, .int .i64 a0_5, .slice A0_6 l0_6.length c0_6], .int .u8 a2, .slice A3 l3.length c3] (by rfl) rfl rfl (by (try simp only [List.map_toArray, List.map_cons, List.map_nil]); first | done | rfl | (simp only [List.length_drop, List.length_take]; rfl)) ?_
       with_reducible refine (sashref08_Path.calls kj4 a0_0 a0_1 a0_2 a0_3 a0_4 a0_5 _ _ l0_6 a2 _ _ l3 t1161 _ ?side1 ?side2 ?side3 ?side4 A26.out).mono ?_
       (case side1 => repeat (first | exact (Kd.C_below HR0_6.out HB.out) | (with_reducible refine Kd.C_alloc ?_ _) | (with_reducible refine Kd.C_drewN ?_ _) | (with_reducible refine Kd.C_drew ?_)))
       (case side2 => exact HC0_6.out)
       (case side3 => repeat (first | exact (Kd.C_below HR3.out HB.out) | (with_reducible refine Kd.C_alloc ?_ _) | (with_reducible refine Kd.C_drewN ?_ _) | (with_reducible refine Kd.C_drew ?_)))
       (case side4 => exact HC3.out)
       rintro e w43 ⟨rfl, hb⟩
       refine ⟨_, rfl, ?_⟩
       have n0_ := Aside0.mk (blk_below (g := gb1152) (o := .cells #[.int .u8 a0_0, .int .i64 a0_1, .int .i64 a0_2, .int .i64 a0_3, .int .i64 a0_4, .int .i64 a0_5, .slice A0_6 l0_6.length c0_6] 26 (0, 0)) (by (with_reducible repeat (first | refine blk_drewN ?_ _ | refine blk_drew ?_ | refine blk_alloc ?_ _)); exact BK1152.out) hb)
       have n1_ := Aside0.mk (blk_below (g := gb1153) (o := .cells #[.int .i64 a1_0, .int .i64 a1_1, .int .i64 a1_2, .int .i64 a1_3] 23 (0, 0)) (by (with_reducible repeat (first | refine blk_drewN ?_ _ | refine blk_drew ?_ | refine blk_alloc ?_ _)); exact BK1153.out) hb)
       have n2_ := Aside0.mk (below_step (by repeat (first | (with_reducible first | exact HB.out | apply below_alloc | apply pw_below_drewN | apply below_drew1 | refine below_set ?_ GE1152.out | refine below_set ?_ GE1153.out) | exact HB.out)) hb)
       clear BK1152
       clear BK1153
       clear HB
       have BK1152 := n0_
       have BK1153 := n1_
       have HB := n2_
       clear n0_ n1_ n2_
       (try clear hb)
       (try clear hb2)
       (try clear hk)
       (try clear hi)
       refine hK.out _ _ ⟨(blk_cell BK1153.out 0).trans rfl, (blk_cell BK1153.out 1).trans rfl, (blk_cell BK1153.out 2).trans rfl, (blk_cell BK1153.out 3).trans rfl, (blk_cell BK1152.out 0).trans rfl, (blk_cell BK1152.out 1).trans rfl, (blk_cell BK1152.out 2).trans rfl, (blk_cell BK1152.out 3).trans rfl, (blk_cell BK1152.out 4).trans rfl, (blk_cell BK1152.out 5).trans rfl, (blk_cell BK1152.out 6).trans rfl⟩ (fun hHeld => ?_)
       clear hK K
       refine norm_ (a' := ?_) ?_ ?_
       rotate_left
       ·show Act.put _ (some 41) _ = _
        simp only [Act.put, List.setIfInBounds_toArray, List.set_cons_zero, List.set_cons_succ, i64_w, i32_w]
        rfl
       refine pure_ (i := 25) (N := some 42) (v := ?_) (a' := ?_) #[true, true, true, true, true, true, true, true, true, true, true, true, true, true, true, true, true, true, true, true, true, true, true, true, true, true, false, false, false, false, false] rfl rfl (any_of HT_.out (by kernel_rfl)) (fun _ _ _ h => h) (Or.inl ⟨by rfl, ?_⟩) ?_ ?_
       rotate_left
       ·intro w'
        go_simp
        with_reducible rfl
       rotate_left
       ·simp only [Act.put, List.setIfInBounds_toArray, List.set_cons_zero, List.set_cons_succ, i64_w, i32_w]
        rfl
       refine pure_ (i := 26) (N := some 43) (v := ?_) (a' := ?_) #[true, true, true, true, true, true, true, true, true, true, true, true, true, true, true, true, true, true, true, true, true, true, true, true, true, true, true, false, false, false, false] rfl rfl (any_of HT_.out (by kernel_rfl)) (fun _ _ _ h => h) (Or.inl ⟨by rfl, ?_⟩) ?_ ?_
       rotate_left
       ·intro w'
        go_simp
        with_reducible rfl
       rotate_left
       ·simp only [Act.put, List.setIfInBounds_toArray, List.set_cons_zero, List.set_cons_succ, i64_w, i32_w]
        rfl
       refine pure_ (i := 27) (N := some 44) (v := ?_) (a' := ?_) #[true, true, true, true, true, true, true, true, true, true, true, true, true, true, true, true, true, true, true, true, true, true, true, true, true, true, true, true, false, false, false] rfl rfl (any_of HT_.out (by kernel_rfl)) (fun _ _ _ h => h) (Or.inl ⟨by rfl, ?_⟩) ?_ ?_
       rotate_left
       ·intro w'
        go_simp
        with_reducible rfl
       rotate_left
       ·simp only [Act.put, List.setIfInBounds_toArray, List.set_cons_zero, List.set_cons_succ, i64_w, i32_w]
        rfl
       refine pure_ (i := 28) (N := some 45) (v := undef) (a' := ?_) #[true, true, true, true, true, true, true, true, true, true, true, true, true, true, true, true, true, true, true, true, true, true, true, true, true, true, true, true, true, false, false] rfl rfl (any_of HT_.out (by kernel_rfl)) (fun _ _ _ h => h) (Or.inr ⟨by rfl, rfl⟩) ?_ ?_
       rotate_left
       ·simp only [Act.put, List.setIfInBounds_toArray, List.set_cons_zero, List.set_cons_succ, i64_w, i32_w]
        rfl
       refine pure_ (i := 29) (N := some 46) (v := ?_) (a' := ?_) #[true, true, true, true, true, true, true, true, true, true, true, true, true, true, true, true, true, true, true, true, true, true, true, true, true, true, true, true, true, true, false] rfl rfl (any_of HT_.out (by kernel_rfl)) (fun _ _ _ h => h) (Or.inl ⟨by rfl, ?_⟩) ?_ ?_
       rotate_left
       ·intro w'
        go_simp
        with_reducible rfl
       rotate_left
       ·simp only [Act.put, List.setIfInBounds_toArray, List.set_cons_zero, List.set_cons_succ, i64_w, i32_w]
        rfl
       refine pure_ (i := 30) (N := some 8) (v := ?_) (a' := ?_) #[true, true, true, true, true, true, true, true, true, true, true, true, true, true, true, true, true, true, true, true, true, true, true, true, true, true, true, true, true, true, true] rfl rfl (any_of HT_.out (by kernel_rfl)) (fun _ _ _ h => h) (Or.inl ⟨by rfl, ?_⟩) ?_ ?_
       rotate_left
       ·intro w'
        go_simp
        with_reducible rfl
       rotate_left
       ·simp only [Act.put, List.setIfInBounds_toArray, List.set_cons_zero, List.set_cons_succ, i64_w, i32_w]
        rfl
       refine done_ (done_of HT_.out (by kernel_rfl)) ?_
       try go_wp2
       go_ret
       exact ⟨by first | rfl | (simp [errW_none, errW_some] <;> rfl) | (simp [*, errW_none, errW_some] <;> rfl), by repeat (first | (with_reducible first | exact HB.out | apply below_alloc | apply pw_below_drewN | apply below_drew1 | refine below_set ?_ GE1152.out | refine below_set ?_ GE1153.out) | exact HB.out)⟩
     ·rw [if_neg c24] at H
      have c24b0 : (t1158 == t1159) = false := by simpa using c24
      (try (have c24b1 : decide (t1158 = t1159) = false := by simpa using c24))
      (try (have c24b2 : (t1158 == t1159) = false := by simpa using c24))
      (try (have c24b3 : ¬ (t1158 = t1159) := by simpa using c24))
      clear c24
      obtain rfl := Option.some.inj H
      try go_wp2
      have n0_ := Aside0.mk (blk_drew BK1152.out)
      have n1_ := Aside0.mk (blk_drew BK1153.out)
      have n2_ := Aside0.mk (below_drew1 HB.out)
      clear BK1152
      clear BK1153
      clear HB
      have BK1152 := n0_
      have BK1153 := n1_
      have HB := n2_
      clear n0_ n1_ n2_
      refine start_ (n := 31) (S := fun w' => w'.cell? ⟨gb1153, 0, none⟩ = some (.int .i64 a1_0) ∧ w'.cell? ⟨gb1153, 1, none⟩ = some (.int .i64 a1_1) ∧ w'.cell? ⟨gb1153, 2, none⟩ = some (.int .i64 a1_2) ∧ w'.cell? ⟨gb1153, 3, none⟩ = some (.int .i64 a1_3) ∧ w'.cell? ⟨gb1152, 0, none⟩ = some (.int .u8 a0_0) ∧ w'.cell? ⟨gb1152, 1, none⟩ = some (.int .i64 a0_1) ∧ w'.cell? ⟨gb1152, 2, none⟩ = some (.int .i64 a0_2) ∧ w'.cell? ⟨gb1152, 3, none⟩ = some (.int .i64 a0_3) ∧ w'.cell? ⟨gb1152, 4, none⟩ = some (.int .i64 a0_4) ∧ w'.cell? ⟨gb1152, 5, none⟩ = some (.int .i64 a0_5) ∧ w'.cell? ⟨gb1152, 6, none⟩ = some (.slice A0_6 l0_6.length c0_6)) (ds := []) #[false, false, false, false, false, false, false, false, false, false, false, false, false, false, false, false, false, false, false, false, false, false, false, false, false, false, false, false, false, false, false] (by kernel_rfl) rfl rfl ⟨(blk_cell BK1153.out 0).trans rfl, (blk_cell BK1153.out 1).trans rfl, (blk_cell BK1153.out 2).trans rfl, (blk_cell BK1153.out 3).trans rfl, (blk_cell BK1152.out 0).trans rfl, (blk_cell BK1152.out 1).trans rfl, (blk_cell BK1152.out 2).trans rfl, (blk_cell BK1152.out 3).trans rfl, (blk_cell BK1152.out 4).trans rfl, (blk_cell BK1152.out 5).trans rfl, (blk_cell BK1152.out 6).trans rfl⟩ (fun hHeld => ?_); refine with_tabW sashlaw08_LeastPaths.tab3 sashlaw08_LeastPaths.bits3 (fun HT_ HW_ => ?_)
      generalize wc.drew = w44 at BK1152 BK1153 HB hHeld ⊢
      refine pure_ (i := 1) (N := some 18) (v := ?_) (a' := ?_) #[false, true, false, false, false, false, false, false, false, false, false, false, false, false, false, false, false, false, false, false, false, false, false, false, false, false, false, false, false, false, false] rfl rfl (any_of HT_.out (by kernel_rfl)) (fun _ _ _ h => h) (Or.inl ⟨by rfl, ?_⟩) ?_ ?_
      rotate_left
      ·intro w'
       go_simp
       with_reducible rfl
      rotate_left
      ·simp only [Act.put, List.setIfInBounds_toArray, List.set_cons_zero, List.set_cons_succ, i64_w, i32_w]
       rfl
      refine pure_ (i := 4) (N := some 21) (v := ?_) (a' := ?_) #[false, true, false, false, true, false, false, false, false, false, false, false, false, false, false, false, false, false, false, false, false, false, false, false, false, false, false, false, false, false, false] rfl rfl (any_of HT_.out (by kernel_rfl)) (fun _ _ _ h => h) (Or.inl ⟨by rfl, ?_⟩) ?_ ?_
      rotate_left
      ·intro w'
       go_simp
       with_reducible rfl
      rotate_left
      ·simp only [Act.put, List.setIfInBounds_toArray, List.set_cons_zero, List.set_cons_succ, i64_w, i32_w]
       rfl
      refine take_ (i := 0) (N := some 17) (v := ?_) (a' := ?_) #[true, true, false, false, true, false, false, false, false, false, false, false, false, false, false, false, false, false, false, false, false, false, false, false, false, false, false, false, false, false, false] rfl rfl (take_ofW HT_.out HW_.out (by kernel_rfl)) (fun _ _ _ h => h) (Or.inl ⟨by rfl, ?_⟩) hHeld ?_ ?_
      rotate_left
      ·rintro w' ⟨s0, s1, s2, s3, s4, s5, s6, s7, s8, s9, s10⟩
       go_simp
       with_reducible rfl
      rotate_left
      ·simp only [Act.put, List.setIfInBounds_toArray, List.set_cons_zero, List.set_cons_succ, i64_w, i32_w]
       rfl
      refine take_ (i := 3) (N := some 20) (v := ?_) (a' := ?_) #[true, true, false, true, true, false, false, false, false, false, false, false, false, false, false, false, false, false, false, false, false, false, false, false, false, false, false, false, false, false, false] rfl rfl (take_ofW HT_.out HW_.out (by kernel_rfl)) (fun _ _ _ h => h) (Or.inl ⟨by rfl, ?_⟩) hHeld ?_ ?_
      rotate_left
      ·rintro w' ⟨s0, s1, s2, s3, s4, s5, s6, s7, s8, s9, s10⟩
       go_simp
       with_reducible rfl
      rotate_left
      ·simp only [Act.put, List.setIfInBounds_toArray, List.set_cons_zero, List.set_cons_succ, i64_w, i32_w]
       rfl
      refine one_ (i := 2) (N := some 19) #[true, true, true, true, true, false, false, false, false, false, false, false, false, false, false, false, false, false, false, false, false, false, false, false, false, false, false, false, false, false, false] rfl rfl (one_of HT_.out (by kernel_rfl)) (by decide) (fun K hK => ?_)
      refine goes_ Try.func98 (by kernel_rfl) rfl #[.agg #[.int .i64 a1_0, .int .i64 a1_1, .int .i64 a1_2, .int .i64 a1_3], .int .u8 a2] (by rfl) rfl rfl (by (try simp only [List.map_toArray, List.map_cons, List.map_nil]); first | done | rfl | (simp only [List.length_drop, List.length_take]; rfl)) ?_
      with_reducible refine (least_Size.calls a1_0 a1_1 a1_2 a1_3 a2 t1156 _ A19.out).mono ?_
      rintro e w45 ⟨rfl, hb⟩
      refine ⟨_, rfl, ?_⟩
      have n0_ := Aside0.mk (blk_below (g := gb1152) (o := .cells #[.int .u8 a0_0, .int .i64 a0_1, .int .i64 a0_2, .int .i64 a0_3, .int .i64 a0_4, .int .i64 a0_5, .slice A0_6 l0_6.length c0_6] 26 (0, 0)) (by (with_reducible repeat (first | refine blk_drewN ?_ _ | refine blk_drew ?_ | refine blk_alloc ?_ _)); exact BK1152.out) hb)
      have n1_ := Aside0.mk (blk_below (g := gb1153) (o := .cells #[.int .i64 a1_0, .int .i64 a1_1, .int .i64 a1_2, .int .i64 a1_3] 23 (0, 0)) (by (with_reducible repeat (first | refine blk_drewN ?_ _ | refine blk_drew ?_ | refine blk_alloc ?_ _)); exact BK1153.out) hb)
      have n2_ := Aside0.mk (below_step (by repeat (first | (with_reducible first | exact HB.out | apply below_alloc | apply pw_below_drewN | apply below_drew1 | refine below_set ?_ GE1152.out | refine below_set ?_ GE1153.out) | exact HB.out)) hb)
      clear BK1152
      clear BK1153
      clear HB
      have BK1152 := n0_
      have BK1153 := n1_
      have HB := n2_
      clear n0_ n1_ n2_
      (try clear hb)
      (try clear hb2)
      (try clear hk)
      (try clear hi)
      refine hK.out _ _ ⟨(blk_cell BK1153.out 0).trans rfl, (blk_cell BK1153.out 1).trans rfl, (blk_cell BK1153.out 2).trans rfl, (blk_cell BK1153.out 3).trans rfl, (blk_cell BK1152.out 0).trans rfl, (blk_cell BK1152.out 1).trans rfl, (blk_cell BK1152.out 2).trans rfl, (blk_cell BK1152.out 3).trans rfl, (blk_cell BK1152.out 4).trans rfl, (blk_cell BK1152.out 5).trans rfl, (blk_cell BK1152.out 6).trans rfl⟩ (fun hHeld => ?_)
      clear hK K
      refine norm_ (a' := ?_) ?_ ?_
      rotate_left
      ·show Act.put _ (some 19) _ = _
       simp only [Act.put, List.setIfInBounds_toArray, List.set_cons_zero, List.set_cons_succ, i64_w, i32_w]
       rfl
      refine one_ (i := 5) (N := some 22) #[true, true, true, true, true, true, false, false, false, false, false, false, false, false, false, false, false, false, false, false, false, false, false, false, false, false, false, false, false, false, false] rfl rfl (one_of HT_.out (by kernel_rfl)) (by decide) (fun K hK => ?_)
      refine goes_ Try.func87 (by kernel_rfl) rfl #[.agg #[.int .i64 a1_0, .int .i64 a1_1, .int .i64 a1_2, .int .i64 a1_3], .int .u8 a2] (by rfl) rfl rfl (by (try simp only [List.map_toArray, List.map_cons, List.map_nil]); first | done | rfl | (simp only [List.length_drop, List.length_take]; rfl)) ?_
      with_reducible refine (sashref08_Size.calls a1_0 a1_1 a1_2 a1_3 a2 t1157 _ A20.out).mono ?_
      rintro e w46 ⟨rfl, hb⟩
      refine ⟨_, rfl, ?_⟩
      have n0_ := Aside0.mk (blk_below (g := gb1152) (o := .cells #[.int .u8 a0_0, .int .i64 a0_1, .int .i64 a0_2, .int .i64 a0_3, .int .i64 a0_4, .int .i64 a0_5, .slice A0_6 l0_6.length c0_6] 26 (0, 0)) (by (with_reducible repeat (first | refine blk_drewN ?_ _ | refine blk_drew ?_ | refine blk_alloc ?_ _)); exact BK1152.out) hb)
      have n1_ := Aside0.mk (blk_below (g := gb1153) (o := .cells #[.int .i64 a1_0, .int .i64 a1_1, .int .i64 a1_2, .int .i64 a1_3] 23 (0, 0)) (by (with_reducible repeat (first | refine blk_drewN ?_ _ | refine blk_drew ?_ | refine blk_alloc ?_ _)); exact BK1153.out) hb)
      have n2_ := Aside0.mk (below_step (by repeat (first | (with_reducible first | exact HB.out | apply below_alloc | apply pw_below_drewN | apply below_drew1 | refine below_set ?_ GE1152.out | refine below_set ?_ GE1153.out) | exact HB.out)) hb)
      clear BK1152
      clear BK1153
      clear HB
      have BK1152 := n0_
      have BK1153 := n1_
      have HB := n2_
      clear n0_ n1_ n2_
      (try clear hb)
      (try clear hb2)
      (try clear hk)
      (try clear hi)
      refine hK.out _ _ ⟨(blk_cell BK1153.out 0).trans rfl, (blk_cell BK1153.out 1).trans rfl, (blk_cell BK1153.out 2).trans rfl, (blk_cell BK1153.out 3).trans rfl, (blk_cell BK1152.out 0).trans rfl, (blk_cell BK1152.out 1).trans rfl, (blk_cell BK1152.out 2).trans rfl, (blk_cell BK1152.out 3).trans rfl, (blk_cell BK1152.out 4).trans rfl, (blk_cell BK1152.out 5).trans rfl, (blk_cell BK1152.out 6).trans rfl⟩ (fun hHeld => ?_)
      clear hK K
      refine norm_ (a' := ?_) ?_ ?_
      rotate_left
      ·show Act.put _ (some 22) _ = _
       simp only [Act.put, List.setIfInBounds_toArray, List.set_cons_zero, List.set_cons_succ, i64_w, i32_w]
       rfl
      refine pure_ (i := 6) (N := some 23) (v := ?_) (a' := ?_) #[true, true, true, true, true, true, true, false, false, false, false, false, false, false, false, false, false, false, false, false, false, false, false, false, false, false, false, false, false, false, false] rfl rfl (any_of HT_.out (by kernel_rfl)) (fun _ _ _ h => h) (Or.inl ⟨by rfl, ?_⟩) ?_ ?_
      rotate_left
      ·intro w'
       go_simp
       with_reducible rfl
      rotate_left
      ·simp only [Act.put, List.setIfInBounds_toArray, List.set_cons_zero, List.set_cons_succ, i64_w, i32_w]
       rfl
      refine pure_ (i := 7) (N := some 24) (v := ?_) (a' := ?_) #[true, true, true, true, true, true, true, true, false, false, false, false, false, false, false, false, false, false, false, false, false, false, false, false, false, false, false, false, false, false, false] rfl rfl (any_of HT_.out (by kernel_rfl)) (fun _ _ _ h => h) (Or.inl ⟨by rfl, ?_⟩) ?_ ?_
      rotate_left
      ·intro w'
       go_simp
       with_reducible rfl
      rotate_left
      ·simp only [Act.put, List.setIfInBounds_toArray, List.set_cons_zero, List.set_cons_succ, i64_w, i32_w]
       rfl
      refine pure_ (i := 9) (N := some 26) (v := ?_) (a' := ?_) #[true, true, true, true, true, true, true, true, false, true, false, false, false, false, false, false, false, false, false, false, false, false, false, false, false, false, false, false, false, false, false] rfl rfl (any_of HT_.out (by kernel_rfl)) (fun _ _ _ h => h) (Or.inl ⟨by rfl, ?_⟩) ?_ ?_
      rotate_left
      ·intro w'
       go_simp
       with_reducible rfl
      rotate_left
      ·simp only [Act.put, List.setIfInBounds_toArray, List.set_cons_zero, List.set_cons_succ, i64_w, i32_w]
       rfl
      refine pure_ (i := 12) (N := some 29) (v := ?_) (a' := ?_) #[true, true, true, true, true, true, true, true, false, true, false, false, true, false, false, false, false, false, false, false, false, false, false, false, false, false, false, false, false, false, false] rfl rfl (any_of HT_.out (by kernel_rfl)) (fun _ _ _ h => h) (Or.inl ⟨by rfl, ?_⟩) ?_ ?_
      rotate_left
      ·intro w'
       go_simp
       with_reducible rfl
      rotate_left
      ·simp only [Act.put, List.setIfInBounds_toArray, List.set_cons_zero, List.set_cons_succ, i64_w, i32_w]
       rfl
      refine take_ (i := 8) (N := some 25) (v := ?_) (a' := ?_) #[true, true, true, true, true, true, true, true, true, true, false, false, true, false, false, false, false, false, false, false, false, false, false, false, false, false, false, false, false, false, false] rfl rfl (take_ofW HT_.out HW_.out (by kernel_rfl)) (fun _ _ _ h => h) (Or.inl ⟨by rfl, ?_⟩) hHeld ?_ ?_
      rotate_left
      ·rintro w' ⟨s0, s1, s2, s3, s4, s5, s6, s7, s8, s9, s10⟩
       go_simp
       with_reducible rfl
      rotate_left
      ·simp only [Act.put, List.setIfInBounds_toArray, List.set_cons_zero, List.set_cons_succ, i64_w, i32_w]
       rfl
      refine take_ (i := 11) (N := some 28) (v := ?_) (a' := ?_) #[true, true, true, true, true, true, true, true, true, true, false, true, true, false, false, false, false, false, false, false, false, false, false, false, false, false, false, false, false, false, false] rfl rfl (take_ofW HT_.out HW_.out (by kernel_rfl)) (fun _ _ _ h => h) (Or.inl ⟨by rfl, ?_⟩) hHeld ?_ ?_
      rotate_left
      ·rintro w' ⟨s0, s1, s2, s3, s4, s5, s6, s7, s8, s9, s10⟩
       go_simp
       with_reducible rfl
      rotate_left
      ·simp only [Act.put, List.setIfInBounds_toArray, List.set_cons_zero, List.set_cons_succ, i64_w, i32_w]
       rfl
      refine one_ (i := 10) (N := some 27) #[true, true, true, true, true, true, true, true, true, true, true, true, true, false, false, false, false, false, false, false, false, false, false, false, false, false, false, false, false, false, false] rfl rfl (one_of HT_.out (by kernel_rfl)) (by decide) (fun K hK => ?_)
      refine goes_ Try.func99 (by kernel_rfl) rfl #[.agg #[.int .u8 a0_0, .int .i64 a0_1, .int .i64 a0_2, .int .i64 a0_3, .int .i64 a0_4, .int .i64 a0_5, .slice A0_6 l0_6.length c0_6], .int .u8 a2] (by rfl) rfl rfl (by (try simp only [List.map_toArray, List.map_cons, List.map_nil]); first | done | rfl | (simp only [List.length_drop, List.length_take]; rfl)) ?_
      with_reducible refine (least_Along.calls a0_0 a0_1 a0_2 a0_3 a0_4 a0_5 _ _ l0_6 a2 t1158 _ ?side1 ?side2 A22.out).mono ?_
      (case side1 => repeat (first | exact (Kd.C_below HR0_6.out HB.out) | (with_reducible refine Kd.C_alloc ?_ _) | (with_reducible refine Kd.C_drewN ?_ _) | (with_reducible refine Kd.C_drew ?_)))
      (case side2 => exact HC0_6.out)
      rintro e w47 ⟨rfl, hb⟩
      refine ⟨_, rfl, ?_⟩
      have n0_ := Aside0.mk (blk_below (g := gb1152) (o := .cells #[.int .u8 a0_0, .int .i64 a0_1, .int .i64 a0_2, .int .i64 a0_3, .int .i64 a0_4, .int .i64 a0_5, .slice A0_6 l0_6.length c0_6] 26 (0, 0)) (by (with_reducible repeat (first | refine blk_drewN ?_ _ | refine blk_drew ?_ | refine blk_alloc ?_ _)); exact BK1152.out) hb)
      have n1_ := Aside0.mk (blk_below (g := gb1153) (o := .cells #[.int .i64 a1_0, .int .i64 a1_1, .int .i64 a1_2, .int .i64 a1_3] 23 (0, 0)) (by (with_reducible repeat (first | refine blk_drewN ?_ _ | refine blk_drew ?_ | refine blk_alloc ?_ _)); exact BK1153.out) hb)
      have n2_ := Aside0.mk (below_step (by repeat (first | (with_reducible first | exact HB.out | apply below_alloc | apply pw_below_drewN | apply below_drew1 | refine below_set ?_ GE1152.out | refine below_set ?_ GE1153.out) | exact HB.out)) hb)
      clear BK1152
      clear BK1153
      clear HB
      have BK1152 := n0_
      have BK1153 := n1_
      have HB := n2_
      clear n0_ n1_ n2_
      (try clear hb)
      (try clear hb2)
      (try clear hk)
      (try clear hi)
      refine hK.out _ _ ⟨(blk_cell BK1153.out 0).trans rfl, (blk_cell BK1153.out 1).trans rfl, (blk_cell BK1153.out 2).trans rfl, (blk_cell BK1153.out 3).trans rfl, (blk_cell BK1152.out 0).trans rfl, (blk_cell BK1152.out 1).trans rfl, (blk_cell BK1152.out 2).trans rfl, (blk_cell BK1152.out 3).trans rfl, (blk_cell BK1152.out 4).trans rfl, (blk_cell BK1152.out 5).trans rfl, (blk_cell BK1152.out 6).trans rfl⟩ (fun hHeld => ?_)
      clear hK K
      refine norm_ (a' := ?_) ?_ ?_
      rotate_left
      ·show Act.put _ (some 27) _ = _
       simp only [Act.put, List.setIfInBounds_toArray, List.set_cons_zero, List.set_cons_succ, i64_w, i32_w]
       rfl
      refine one_ (i := 13) (N := some 30) #[true, true, true, true, true, true, true, true, true, true, true, true, true, true, false, false, false, false, false, false, false, false, false, false, false, false, false, false, false, false, false] rfl rfl (one_of HT_.out (by kernel_rfl)) (by decide) (fun K hK => ?_)
      refine goes_ Try.func88 (by kernel_rfl) rfl #[.agg #[.int .u8 a0_0, .int .i64 a0_1, .int .i64 a0_2, .int .i64 a0_3, .int .i64 a0_4, .int .i64 a0_5, .slice A0_6 l0_6.length c0_6], .int .u8 a2] (by rfl) rfl rfl (by (try simp only [List.map_toArray, List.map_cons, List.map_nil]); first | done | rfl | (simp only [List.length_drop, List.length_take]; rfl)) ?_
      with_reducible refine (sashref08_Along.calls a0_0 a0_1 a0_2 a0_3 a0_4 a0_5 _ _ l0_6 a2 t1159 _ ?side1 ?side2 A23.out).mono ?_
      (case side1 => repeat (first | exact (Kd.C_below HR0_6.out HB.out) | (with_reducible refine Kd.C_alloc ?_ _) | (with_reducible refine Kd.C_drewN ?_ _) | (with_reducible refine Kd.C_drew ?_)))
      (case side2 => exact HC0_6.out)
      rintro e w48 ⟨rfl, hb⟩
      refine ⟨_, rfl, ?_⟩
      have n0_ := Aside0.mk (blk_below (g := gb1152) (o := .cells #[.int .u8 a0_0, .int .i64 a0_1, .int .i64 a0_2, .int .i64 a0_3, .int .i64 a0_4, .int .i64 a0_5, .slice A0_6 l0_6.length c0_6] 26 (0, 0)) (by (with_reducible repeat (first | refine blk_drewN ?_ _ | refine blk_drew ?_ | refine blk_alloc ?_ _)); exact BK1152.out) hb)
      have n1_ := Aside0.mk (blk_below (g := gb1153) (o := .cells #[.int .i64 a1_0, .int .i64 a1_1, .int .i64 a1_2, .int .i64 a1_3] 23 (0, 0)) (by (with_reducible repeat (first | refine blk_drewN ?_ _ | refine blk_drew ?_ | refine blk_alloc ?_ _)); exact BK1153.out) hb)
      have n2_ := Aside0.mk (below_step (by repeat (first | (with_reducible first | exact HB.out | apply below_alloc | apply pw_below_drewN | apply below_drew1 | refine below_set ?_ GE1152.out | refine below_set ?_ GE1153.out) | exact HB.out)) hb)
      clear BK1152
      clear BK1153
      clear HB
      have BK1152 := n0_
      have BK1153 := n1_
      have HB := n2_
      clear n0_ n1_ n2_
      (try clear hb)
      (try clear hb2)
      (try clear hk)
      (try clear hi)
      refine hK.out _ _ ⟨(blk_cell BK1153.out 0).trans rfl, (blk_cell BK1153.out 1).trans rfl, (blk_cell BK1153.out 2).trans rfl, (blk_cell BK1153.out 3).trans rfl, (blk_cell BK1152.out 0).trans rfl, (blk_cell BK1152.out 1).trans rfl, (blk_cell BK1152.out 2).trans rfl, (blk_cell BK1152.out 3).trans rfl, (blk_cell BK1152.out 4).trans rfl, (blk_cell BK1152.out 5).trans rfl, (blk_cell BK1152.out 6).trans rfl⟩ (fun hHeld => ?_)
      clear hK K
      refine norm_ (a' := ?_) ?_ ?_
      rotate_left
      ·show Act.put _ (some 30) _ = _
       simp only [Act.put, List.setIfInBounds_toArray, List.set_cons_zero, List.set_cons_succ, i64_w, i32_w]
       rfl
      refine pure_ (i := 14) (N := some 31) (v := ?_) (a' := ?_) #[true, true, true, true, true, true, true, true, true, true, true, true, true, true, true, false, false, false, false, false, false, false, false, false, false, false, false, false, false, false, false] rfl rfl (any_of HT_.out (by kernel_rfl)) (fun _ _ _ h => h) (Or.inl ⟨by rfl, ?_⟩) ?_ ?_
      rotate_left
      ·intro w'
       go_simp
       with_reducible rfl
      rotate_left
      ·simp only [Act.put, List.setIfInBounds_toArray, List.set_cons_zero, List.set_cons_succ, i64_w, i32_w]
       rfl
      refine pure_ (i := 15) (N := some 32) (v := ?_) (a' := ?_) #[true, true, true, true, true, true, true, true, true, true, true, true, true, true, true, true, false, false, false, false, false, false, false, false, false, false, false, false, false, false, false] rfl rfl (any_of HT_.out (by kernel_rfl)) (fun _ _ _ h => h) (Or.inl ⟨by rfl, ?_⟩) ?_ ?_
      rotate_left
      ·intro w'
       go_simp
       with_reducible rfl
      rotate_left
      ·simp only [Act.put, List.setIfInBounds_toArray, List.set_cons_zero, List.set_cons_succ, i64_w, i32_w]
       rfl
      refine pure_ (i := 16) (N := some 33) (v := ?_) (a' := ?_) #[true, true, true, true, true, true, true, true, true, true, true, true, true, true, true, true, true, false, false, false, false, false, false, false, false, false, false, false, false, false, false] rfl rfl (any_of HT_.out (by kernel_rfl)) (fun _ _ _ h => h) (Or.inl ⟨by rfl, ?_⟩) ?_ ?_
      rotate_left
      ·intro w'
       go_simp
       with_reducible rfl
      rotate_left
      ·simp only [Act.put, List.setIfInBounds_toArray, List.set_cons_zero, List.set_cons_succ, i64_w, i32_w]
       rfl
      refine pure_ (i := 17) (N := some 34) (v := undef) (a' := ?_) #[true, true, true, true, true, true, true, true, true, true, true, true, true, true, true, true, true, true, false, false, false, false, false, false, false, false, false, false, false, false, false] rfl rfl (any_of HT_.out (by kernel_rfl)) (fun _ _ _ h => h) (Or.inr ⟨by rfl, rfl⟩) ?_ ?_
      rotate_left
      ·simp only [Act.put, List.setIfInBounds_toArray, List.set_cons_zero, List.set_cons_succ, i64_w, i32_w]
       rfl
      refine pure_ (i := 18) (N := some 35) (v := undef) (a' := ?_) #[true, true, true, true, true, true, true, true, true, true, true, true, true, true, true, true, true, true, true, false, false, false, false, false, false, false, false, false, false, false, false] rfl rfl (any_of HT_.out (by kernel_rfl)) (fun _ _ _ h => h) (Or.inr ⟨by rfl, rfl⟩) ?_ ?_
      rotate_left
      ·simp only [Act.put, List.setIfInBounds_toArray, List.set_cons_zero, List.set_cons_succ, i64_w, i32_w]
       rfl
      refine pure_ (i := 19) (N := some 36) (v := undef) (a' := ?_) #[true, true, true, true, true, true, true, true, true, true, true, true, true, true, true, true, true, true, true, true, false, false, false, false, false, false, false, false, false, false, false] rfl rfl (any_of HT_.out (by kernel_rfl)) (fun _ _ _ h => h) (Or.inr ⟨by rfl, rfl⟩) ?_ ?_
      rotate_left
      ·simp only [Act.put, List.setIfInBounds_toArray, List.set_cons_zero, List.set_cons_succ, i64_w, i32_w]
       rfl
      refine pure_ (i := 20) (N := some 37) (v := undef) (a' := ?_) #[true, true, true, true, true, true, true, true, true, true, true, true, true, true, true, true, true, true, true, true, true, false, false, false, false, false, false, false, false, false, false] rfl rfl (any_of HT_.out (by kernel_rfl)) (fun _ _ _ h => h) (Or.inr ⟨by rfl, rfl⟩) ?_ ?_
      rotate_left
      ·simp only [Act.put, List.setIfInBounds_toArray, List.set_cons_zero, List.set_cons_succ, i64_w, i32_w]
       rfl
      refine pure_ (i := 21) (N := some 38) (v := undef) (a' := ?_) #[true, true, true, true, true, true, true, true, true, true, true, true, true, true, true, true, true, true, true, true, true, true, false, false, false, false, false, false, false, false, false] rfl rfl (any_of HT_.out (by kernel_rfl)) (fun _ _ _ h => h) (Or.inr ⟨by rfl, rfl⟩) ?_ ?_
      rotate_left
      ·simp only [Act.put, List.setIfInBounds_toArray, List.set_cons_zero, List.set_cons_succ, i64_w, i32_w]
       rfl
      refine pure_ (i := 22) (N := some 39) (v := undef) (a' := ?_) #[true, true, true, true, true, true, true, true, true, true, true, true, true, true, true, true, true, true, true, true, true, true, true, false, false, false, false, false, false, false, false] rfl rfl (any_of HT_.out (by kernel_rfl)) (fun _ _ _ h => h) (Or.inr ⟨by rfl, rfl⟩) ?_ ?_
      rotate_left
      ·simp only [Act.put, List.setIfInBounds_toArray, List.set_cons_zero, List.set_cons_succ, i64_w, i32_w]
       rfl
      refine pure_ (i := 23) (N := some 40) (v := undef) (a' := ?_) #[true, true, true, true, true, true, true, true, true, true, true, true, true, true, true, true, true, true, true, true, true, true, true, true, false, false, false, false, false, false, false] rfl rfl (any_of HT_.out (by kernel_rfl)) (fun _ _ _ h => h) (Or.inr ⟨by rfl, rfl⟩) ?_ ?_
      rotate_left
      ·simp only [Act.put, List.setIfInBounds_toArray, List.set_cons_zero, List.set_cons_succ, i64_w, i32_w]
       rfl
      refine pure_ (i := 24) (N := some 41) (v := undef) (a' := ?_) #[true, true, true, true, true, true, true, true, true, true, true, true, true, true, true, true, true, true, true, true, true, true, true, true, true, false, false, false, false, false, false] rfl rfl (any_of HT_.out (by kernel_rfl)) (fun _ _ _ h => h) (Or.inr ⟨by rfl, rfl⟩) ?_ ?_
      rotate_left
      ·simp only [Act.put, List.setIfInBounds_toArray, List.set_cons_zero, List.set_cons_succ, i64_w, i32_w]
       rfl
      refine pure_ (i := 25) (N := some 42) (v := undef) (a' := ?_) #[true, true, true, true, true, true, true, true, true, true, true, true, true, true, true, true, true, true, true, true, true, true, true, true, true, true, false, false, false, false, false] rfl rfl (any_of HT_.out (by kernel_rfl)) (fun _ _ _ h => h) (Or.inr ⟨by rfl, rfl⟩) ?_ ?_
      rotate_left
      ·simp only [Act.put, List.setIfInBounds_toArray, List.set_cons_zero, List.set_cons_succ, i64_w, i32_w]
       rfl
      refine pure_ (i := 26) (N := some 43) (v := ?_) (a' := ?_) #[true, true, true, true, true, true, true, true, true, true, true, true, true, true, true, true, true, true, true, true, true, true, true, true, true, true, true, false, false, false, false] rfl rfl (any_of HT_.out (by kernel_rfl)) (fun _ _ _ h => h) (Or.inl ⟨by rfl, ?_⟩) ?_ ?_
      rotate_left
      ·intro w'
       go_simp
       with_reducible rfl
      rotate_left
      ·simp only [Act.put, List.setIfInBounds_toArray, List.set_cons_zero, List.set_cons_succ, i64_w, i32_w]
       rfl
      refine pure_ (i := 27) (N := some 44) (v := ?_) (a' := ?_) #[true, true, true, true, true, true, true, true, true, true, true, true, true, true, true, true, true, true, true, true, true, true, true, true, true, true, true, true, false, false, false] rfl rfl (any_of HT_.out (by kernel_rfl)) (fun _ _ _ h => h) (Or.inl ⟨by rfl, ?_⟩) ?_ ?_
      rotate_left
      ·intro w'
       go_simp
       with_reducible rfl
      rotate_left
      ·simp only [Act.put, List.setIfInBounds_toArray, List.set_cons_zero, List.set_cons_succ, i64_w, i32_w]
       rfl
      refine pure_ (i := 28) (N := some 45) (v := undef) (a' := ?_) #[true, true, true, true, true, true, true, true, true, true, true, true, true, true, true, true, true, true, true, true, true, true, true, true, true, true, true, true, true, false, false] rfl rfl (any_of HT_.out (by kernel_rfl)) (fun _ _ _ h => h) (Or.inr ⟨by rfl, rfl⟩) ?_ ?_
      rotate_left
      ·simp only [Act.put, List.setIfInBounds_toArray, List.set_cons_zero, List.set_cons_succ, i64_w, i32_w]
       rfl
      refine pure_ (i := 29) (N := some 46) (v := ?_) (a' := ?_) #[true, true, true, true, true, true, true, true, true, true, true, true, true, true, true, true, true, true, true, true, true, true, true, true, true, true, true, true, true, true, false] rfl rfl (any_of HT_.out (by kernel_rfl)) (fun _ _ _ h => h) (Or.inl ⟨by rfl, ?_⟩) ?_ ?_
      rotate_left
      ·intro w'
       go_simp
       with_reducible rfl
      rotate_left
      ·simp only [Act.put, List.setIfInBounds_toArray, List.set_cons_zero, List.set_cons_succ, i64_w, i32_w]
       rfl
      refine pure_ (i := 30) (N := some 8) (v := ?_) (a' := ?_) #[true, true, true, true, true, true, true, true, true, true, true, true, true, true, true, true, true, true, true, true, true, true, true, true, true, true, true, true, true, true, true] rfl rfl (any_of HT_.out (by kernel_rfl)) (fun _ _ _ h => h) (Or.inl ⟨by rfl, ?_⟩) ?_ ?_
      rotate_left
      ·intro w'
       go_simp
       with_reducible rfl
      rotate_left
      ·simp only [Act.put, List.setIfInBounds_toArray, List.set_cons_zero, List.set_cons_succ, i64_w, i32_w]
       rfl
      refine done_ (done_of HT_.out (by kernel_rfl)) ?_
      try go_wp2
      go_ret
      exact ⟨by first | rfl | (simp [errW_none, errW_some] <;> rfl) | (simp [*, errW_none, errW_some] <;> rfl), by repeat (first | (with_reducible first | exact HB.out | apply below_alloc | apply pw_below_drewN | apply below_drew1 | refine below_set ?_ GE1152.out | refine below_set ?_ GE1153.out) | exact HB.out)⟩
    ·rw [if_neg c21] at H
     have c21b0 : (t1156 == t1157) = false := beq_eq_false_iff_ne.mpr c21
     have c21b1 : (t1156 != t1157) = true := bne_iff_ne.mpr c21
     obtain rfl := Option.some.inj H
     try go_wp2
     have n0_ := Aside0.mk (blk_drew BK1152.out)
     have n1_ := Aside0.mk (blk_drew BK1153.out)
     have n2_ := Aside0.mk (below_drew1 HB.out)
     clear BK1152
     clear BK1153
     clear HB
     have BK1152 := n0_
     have BK1153 := n1_
     have HB := n2_
     clear n0_ n1_ n2_
     refine start_ (n := 31) (S := fun w' => w'.cell? ⟨gb1153, 0, none⟩ = some (.int .i64 a1_0) ∧ w'.cell? ⟨gb1153, 1, none⟩ = some (.int .i64 a1_1) ∧ w'.cell? ⟨gb1153, 2, none⟩ = some (.int .i64 a1_2) ∧ w'.cell? ⟨gb1153, 3, none⟩ = some (.int .i64 a1_3)) (ds := []) #[false, false, false, false, false, false, false, false, false, false, false, false, false, false, false, false, false, false, false, false, false, false, false, false, false, false, false, false, false, false, false] (by kernel_rfl) rfl rfl ⟨(blk_cell BK1153.out 0).trans rfl, (blk_cell BK1153.out 1).trans rfl, (blk_cell BK1153.out 2).trans rfl, (blk_cell BK1153.out 3).trans rfl⟩ (fun hHeld => ?_); refine with_tabW sashlaw08_LeastPaths.tab3 sashlaw08_LeastPaths.bits3 (fun HT_ HW_ => ?_)
     generalize wc.drew = w49 at BK1152 BK1153 HB hHeld ⊢
     refine pure_ (i := 1) (N := some 18) (v := ?_) (a' := ?_) #[false, true, false, false, false, false, false, false, false, false, false, false, false, false, false, false, false, false, false, false, false, false, false, false, false, false, false, false, false, false, false] rfl rfl (any_of HT_.out (by kernel_rfl)) (fun _ _ _ h => h) (Or.inl ⟨by rfl, ?_⟩) ?_ ?_
     rotate_left
     ·intro w'
      go_simp
      with_reducible rfl
     rotate_left
     ·simp only [Act.put, List.setIfInBounds_toArray, List.set_cons_zero, List.set_cons_succ, i64_w, i32_w]
      rfl
     refine pure_ (i := 4) (N := some 21) (v := ?_) (a' := ?_) #[false, true, false, false, true, false, false, false, false, false, false, false, false, false, false, false, false, false, false, false, false, false, false, false, false, false, false, false, false, false, false] rfl rfl (any_of HT_.out (by kernel_rfl)) (fun _ _ _ h => h) (Or.inl ⟨by rfl, ?_⟩) ?_ ?_
     rotate_left
     ·intro w'
      go_simp
      with_reducible rfl
     rotate_left
     ·simp only [Act.put, List.setIfInBounds_toArray, List.set_cons_zero, List.set_cons_succ, i64_w, i32_w]
      rfl
     refine take_ (i := 0) (N := some 17) (v := ?_) (a' := ?_) #[true, true, false, false, true, false, false, false, false, false, false, false, false, false, false, false, false, false, false, false, false, false, false, false, false, false, false, false, false, false, false] rfl rfl (take_ofW HT_.out HW_.out (by kernel_rfl)) (fun _ _ _ h => h) (Or.inl ⟨by rfl, ?_⟩) hHeld ?_ ?_
     rotate_left
     ·rintro w' ⟨s0, s1, s2, s3⟩
      go_simp
      with_reducible rfl
     rotate_left
     ·simp only [Act.put, List.setIfInBounds_toArray, List.set_cons_zero, List.set_cons_succ, i64_w, i32_w]
      rfl
     refine take_ (i := 3) (N := some 20) (v := ?_) (a' := ?_) #[true, true, false, true, true, false, false, false, false, false, false, false, false, false, false, false, false, false, false, false, false, false, false, false, false, false, false, false, false, false, false] rfl rfl (take_ofW HT_.out HW_.out (by kernel_rfl)) (fun _ _ _ h => h) (Or.inl ⟨by rfl, ?_⟩) hHeld ?_ ?_
     rotate_left
     ·rintro w' ⟨s0, s1, s2, s3⟩
      go_simp
      with_reducible rfl
     rotate_left
     ·simp only [Act.put, List.setIfInBounds_toArray, List.set_cons_zero, List.set_cons_succ, i64_w, i32_w]
      rfl
     refine one_ (i := 2) (N := some 19) #[true, true, true, true, true, false, false, false, false, false, false, false, false, false, false, false, false, false, false, false, false, false, false, false, false, false, false, false, false, false, false] rfl rfl (one_of HT_.out (by kernel_rfl)) (by decide) (fun K hK => ?_)
     refine goes_ Try.func98 (by kernel_rfl) rfl #[.agg #[.int .i64 a1_0, .int .i64 a1_1, .int .i64 a1_2, .int .i64 a1_3], .int .u8 a2] (by rfl) rfl rfl (by (try simp only [List.map_toArray, List.map_cons, List.map_nil]); first | done | rfl | (simp only [List.length_drop, List.length_take]; rfl)) ?_
     with_reducible refine (least_Size.calls a1_0 a1_1 a1_2 a1_3 a2 t1156 _ A19.out).mono ?_
     rintro e w50 ⟨rfl, hb⟩
     refine ⟨_, rfl, ?_⟩
     have n0_ := Aside0.mk (blk_below (g := gb1152) (o := .cells #[.int .u8 a0_0, .int .i64 a0_1, .int .i64 a0_2, .int .i64 a0_3, .int .i64 a0_4, .int .i64 a0_5, .slice A0_6 l0_6.length c0_6] 26 (0, 0)) (by (with_reducible repeat (first | refine blk_drewN ?_ _ | refine blk_drew ?_ | refine blk_alloc ?_ _)); exact BK1152.out) hb)
     have n1_ := Aside0.mk (blk_below (g := gb1153) (o := .cells #[.int .i64 a1_0, .int .i64 a1_1, .int .i64 a1_2, .int .i64 a1_3] 23 (0, 0)) (by (with_reducible repeat (first | refine blk_drewN ?_ _ | refine blk_drew ?_ | refine blk_alloc ?_ _)); exact BK1153.out) hb)
     have n2_ := Aside0.mk (below_step (by repeat (first | (with_reducible first | exact HB.out | apply below_alloc | apply pw_below_drewN | apply below_drew1 | refine below_set ?_ GE1152.out | refine below_set ?_ GE1153.out) | exact HB.out)) hb)
     clear BK1152
     clear BK1153
     clear HB
     have BK1152 := n0_
     have BK1153 := n1_
     have HB := n2_
     clear n0_ n1_ n2_
     (try clear hb)
     (try clear hb2)
     (try clear hk)
     (try clear hi)
     refine hK.out _ _ ⟨(blk_cell BK1153.out 0).trans rfl, (blk_cell BK1153.out 1).trans rfl, (blk_cell BK1153.out 2).trans rfl, (blk_cell BK1153.out 3).trans rfl⟩ (fun hHeld => ?_)
     clear hK K
     refine norm_ (a' := ?_) ?_ ?_
     rotate_left
     ·show Act.put _ (some 19) _ = _
      simp only [Act.put, List.setIfInBounds_toArray, List.set_cons_zero, List.set_cons_succ, i64_w, i32_w]
      rfl
     refine one_ (i := 5) (N := some 22) #[true, true, true, true, true, true, false, false, false, false, false, false, false, false, false, false, false, false, false, false, false, false, false, false, false, false, false, false, false, false, false] rfl rfl (one_of HT_.out (by kernel_rfl)) (by decide) (fun K hK => ?_)
     refine goes_ Try.func87 (by kernel_rfl) rfl #[.agg #[.int .i64 a1_0, .int .i64 a1_1, .int .i64 a1_2, .int .i64 a1_3], .int .u8 a2] (by rfl) rfl rfl (by (try simp only [List.map_toArray, List.map_cons, List.map_nil]); first | done | rfl | (simp only [List.length_drop, List.length_take]; rfl)) ?_
     with_reducible refine (sashref08_Size.calls a1_0 a1_1 a1_2 a1_3 a2 t1157 _ A20.out).mono ?_
     rintro e w51 ⟨rfl, hb⟩
     refine ⟨_, rfl, ?_⟩
     have n0_ := Aside0.mk (blk_below (g := gb1152) (o := .cells #[.int .u8 a0_0, .int .i64 a0_1, .int .i64 a0_2, .int .i64 a0_3, .int .i64 a0_4, .int .i64 a0_5, .slice A0_6 l0_6.length c0_6] 26 (0, 0)) (by (with_reducible repeat (first | refine blk_drewN ?_ _ | refine blk_drew ?_ | refine blk_alloc ?_ _)); exact BK1152.out) hb)
     have n1_ := Aside0.mk (blk_below (g := gb1153) (o := .cells #[.int .i64 a1_0, .int .i64 a1_1, .int .i64 a1_2, .int .i64 a1_3] 23 (0, 0)) (by (with_reducible repeat (first | refine blk_drewN ?_ _ | refine blk_drew ?_ | refine blk_alloc ?_ _)); exact BK1153.out) hb)
     have n2_ := Aside0.mk (below_step (by repeat (first | (with_reducible first | exact HB.out | apply below_alloc | apply pw_below_drewN | apply below_drew1 | refine below_set ?_ GE1152.out | refine below_set ?_ GE1153.out) | exact HB.out)) hb)
     clear BK1152
     clear BK1153
     clear HB
     have BK1152 := n0_
     have BK1153 := n1_
     have HB := n2_
     clear n0_ n1_ n2_
     (try clear hb)
     (try clear hb2)
     (try clear hk)
     (try clear hi)
     refine hK.out _ _ ⟨(blk_cell BK1153.out 0).trans rfl, (blk_cell BK1153.out 1).trans rfl, (blk_cell BK1153.out 2).trans rfl, (blk_cell BK1153.out 3).trans rfl⟩ (fun hHeld => ?_)
     clear hK K
     refine norm_ (a' := ?_) ?_ ?_
     rotate_left
     ·show Act.put _ (some 22) _ = _
      simp only [Act.put, List.setIfInBounds_toArray, List.set_cons_zero, List.set_cons_succ, i64_w, i32_w]
      rfl
     refine pure_ (i := 6) (N := some 23) (v := ?_) (a' := ?_) #[true, true, true, true, true, true, true, false, false, false, false, false, false, false, false, false, false, false, false, false, false, false, false, false, false, false, false, false, false, false, false] rfl rfl (any_of HT_.out (by kernel_rfl)) (fun _ _ _ h => h) (Or.inl ⟨by rfl, ?_⟩) ?_ ?_
     rotate_left
     ·intro w'
      go_simp
      with_reducible rfl
     rotate_left
     ·simp only [Act.put, List.setIfInBounds_toArray, List.set_cons_zero, List.set_cons_succ, i64_w, i32_w]
      rfl
     refine pure_ (i := 7) (N := some 24) (v := ?_) (a' := ?_) #[true, true, true, true, true, true, true, true, false, false, false, false, false, false, false, false, false, false, false, false, false, false, false, false, false, false, false, false, false, false, false] rfl rfl (any_of HT_.out (by kernel_rfl)) (fun _ _ _ h => h) (Or.inl ⟨by rfl, ?_⟩) ?_ ?_
     rotate_left
     ·intro w'
      go_simp
      with_reducible rfl
     rotate_left
     ·simp only [Act.put, List.setIfInBounds_toArray, List.set_cons_zero, List.set_cons_succ, i64_w, i32_w]
      rfl
     refine pure_ (i := 8) (N := some 25) (v := undef) (a' := ?_) #[true, true, true, true, true, true, true, true, true, false, false, false, false, false, false, false, false, false, false, false, false, false, false, false, false, false, false, false, false, false, false] rfl rfl (any_of HT_.out (by kernel_rfl)) (fun _ _ _ h => h) (Or.inr ⟨by rfl, rfl⟩) ?_ ?_
     rotate_left
     ·simp only [Act.put, List.setIfInBounds_toArray, List.set_cons_zero, List.set_cons_succ, i64_w, i32_w]
      rfl
     refine pure_ (i := 9) (N := some 26) (v := undef) (a' := ?_) #[true, true, true, true, true, true, true, true, true, true, false, false, false, false, false, false, false, false, false, false, false, false, false, false, false, false, false, false, false, false, false] rfl rfl (any_of HT_.out (by kernel_rfl)) (fun _ _ _ h => h) (Or.inr ⟨by rfl, rfl⟩) ?_ ?_
     rotate_left
     ·simp only [Act.put, List.setIfInBounds_toArray, List.set_cons_zero, List.set_cons_succ, i64_w, i32_w]
      rfl
     refine pure_ (i := 10) (N := some 27) (v := undef) (a' := ?_) #[true, true, true, true, true, true, true, true, true, true, true, false, false, false, false, false, false, false, false, false, false, false, false, false, false, false, false, false, false, false, false] rfl rfl (any_of HT_.out (by kernel_rfl)) (fun _ _ _ h => h) (Or.inr ⟨by rfl, rfl⟩) ?_ ?_
     rotate_left
     ·simp only [Act.put, List.setIfInBounds_toArray, List.set_cons_zero, List.set_cons_succ, i64_w, i32_w]
      rfl
     refine pure_ (i := 11) (N := some 28) (v := undef) (a' := ?_) #[true, true, true, true, true, true, true, true, true, true, true, true, false, false, false, false, false, false, false, false, false, false, false, false, false, false, false, false, false, false, false] rfl rfl (any_of HT_.out (by kernel_rfl)) (fun _ _ _ h => h) (Or.inr ⟨by rfl, rfl⟩) ?_ ?_
     rotate_left
     ·simp only [Act.put, List.setIfInBounds_toArray, List.set_cons_zero, List.set_cons_succ, i64_w, i32_w]
      rfl
     refine pure_ (i := 12) (N := some 29) (v := undef) (a' := ?_) #[true, true, true, true, true, true, true, true, true, true, true, true, true, false, false, false, false, false, false, false, false, false, false, false, false, false, false, false, false, false, false] rfl rfl (any_of HT_.out (by kernel_rfl)) (fun _ _ _ h => h) (Or.inr ⟨by rfl, rfl⟩) ?_ ?_
     rotate_left
     ·simp only [Act.put, List.setIfInBounds_toArray, List.set_cons_zero, List.set_cons_succ, i64_w, i32_w]
      rfl
     refine pure_ (i := 13) (N := some 30) (v := undef) (a' := ?_) #[true, true, true, true, true, true, true, true, true, true, true, true, true, true, false, false, false, false, false, false, false, false, false, false, false, false, false, false, false, false, false] rfl rfl (any_of HT_.out (by kernel_rfl)) (fun _ _ _ h => h) (Or.inr ⟨by rfl, rfl⟩) ?_ ?_
     rotate_left
     ·simp only [Act.put, List.setIfInBounds_toArray, List.set_cons_zero, List.set_cons_succ, i64_w, i32_w]
      rfl
     refine pure_ (i := 14) (N := some 31) (v := undef) (a' := ?_) #[true, true, true, true, true, true, true, true, true, true, true, true, true, true, true, false, false, false, false, false, false, false, false, false, false, false, false, false, false, false, false] rfl rfl (any_of HT_.out (by kernel_rfl)) (fun _ _ _ h => h) (Or.inr ⟨by rfl, rfl⟩) ?_ ?_
     rotate_left
     ·simp only [Act.put, List.setIfInBounds_toArray, List.set_cons_zero, List.set_cons_succ, i64_w, i32_w]
      rfl
     refine pure_ (i := 15) (N := some 32) (v := ?_) (a' := ?_) #[true, true, true, true, true, true, true, true, true, true, true, true, true, true, true, true, false, false, false, false, false, false, false, false, false, false, false, false, false, false, false] rfl rfl (any_of HT_.out (by kernel_rfl)) (fun _ _ _ h => h) (Or.inl ⟨by rfl, ?_⟩) ?_ ?_
     rotate_left
     ·intro w'
      go_simp
      with_reducible rfl
     rotate_left
     ·simp only [Act.put, List.setIfInBounds_toArray, List.set_cons_zero, List.set_cons_succ, i64_w, i32_w]
      rfl
     refine pure_ (i := 16) (N := some 33) (v := ?_) (a' := ?_) #[true, true, true, true, true, true, true, true, true, true, true, true, true, true, true, true, true, false, false, false, false, false, false, false, false, false, false, false, false, false, false] rfl rfl (any_of HT_.out (by kernel_rfl)) (fun _ _ _ h => h) (Or.inl ⟨by rfl, ?_⟩) ?_ ?_
     rotate_left
     ·intro w'
      go_simp
      with_reducible rfl
     rotate_left
     ·simp only [Act.put, List.setIfInBounds_toArray, List.set_cons_zero, List.set_cons_succ, i64_w, i32_w]
      rfl
     refine pure_ (i := 17) (N := some 34) (v := undef) (a' := ?_) #[true, true, true, true, true, true, true, true, true, true, true, true, true, true, true, true, true, true, false, false, false, false, false, false, false, false, false, false, false, false, false] rfl rfl (any_of HT_.out (by kernel_rfl)) (fun _ _ _ h => h) (Or.inr ⟨by rfl, rfl⟩) ?_ ?_
     rotate_left
     ·simp only [Act.put, List.setIfInBounds_toArray, List.set_cons_zero, List.set_cons_succ, i64_w, i32_w]
      rfl
     refine pure_ (i := 18) (N := some 35) (v := undef) (a' := ?_) #[true, true, true, true, true, true, true, true, true, true, true, true, true, true, true, true, true, true, true, false, false, false, false, false, false, false, false, false, false, false, false] rfl rfl (any_of HT_.out (by kernel_rfl)) (fun _ _ _ h => h) (Or.inr ⟨by rfl, rfl⟩) ?_ ?_
     rotate_left
     ·simp only [Act.put, List.setIfInBounds_toArray, List.set_cons_zero, List.set_cons_succ, i64_w, i32_w]
      rfl
     refine pure_ (i := 19) (N := some 36) (v := undef) (a' := ?_) #[true, true, true, true, true, true, true, true, true, true, true, true, true, true, true, true, true, true, true, true, false, false, false, false, false, false, false, false, false, false, false] rfl rfl (any_of HT_.out (by kernel_rfl)) (fun _ _ _ h => h) (Or.inr ⟨by rfl, rfl⟩) ?_ ?_
     rotate_left
     ·simp only [Act.put, List.setIfInBounds_toArray, List.set_cons_zero, List.set_cons_succ, i64_w, i32_w]
      rfl
     refine pure_ (i := 20) (N := some 37) (v := undef) (a' := ?_) #[true, true, true, true, true, true, true, true, true, true, true, true, true, true, true, true, true, true, true, true, true, false, false, false, false, false, false, false, false, false, false] rfl rfl (any_of HT_.out (by kernel_rfl)) (fun _ _ _ h => h) (Or.inr ⟨by rfl, rfl⟩) ?_ ?_
     rotate_left
     ·simp only [Act.put, List.setIfInBounds_toArray, List.set_cons_zero, List.set_cons_succ, i64_w, i32_w]
      rfl
     refine pure_ (i := 21) (N := some 38) (v := undef) (a' := ?_) #[true, true, true, true, true, true, true, true, true, true, true, true, true, true, true, true, true, true, true, true, true, true, false, false, false, false, false, false, false, false, false] rfl rfl (any_of HT_.out (by kernel_rfl)) (fun _ _ _ h => h) (Or.inr ⟨by rfl, rfl⟩) ?_ ?_
     rotate_left
     ·simp only [Act.put, List.setIfInBounds_toArray, List.set_cons_zero, List.set_cons_succ, i64_w, i32_w]
      rfl
     refine pure_ (i := 22) (N := some 39) (v := undef) (a' := ?_) #[true, true, true, true, true, true, true, true, true, true, true, true, true, true, true, true, true, true, true, true, true, true, true, false, false, false, false, false, false, false, false] rfl rfl (any_of HT_.out (by kernel_rfl)) (fun _ _ _ h => h) (Or.inr ⟨by rfl, rfl⟩) ?_ ?_
     rotate_left
     ·simp only [Act.put, List.setIfInBounds_toArray, List.set_cons_zero, List.set_cons_succ, i64_w, i32_w]
      rfl
     refine pure_ (i := 23) (N := some 40) (v := undef) (a' := ?_) #[true, true, true, true, true, true, true, true, true, true, true, true, true, true, true, true, true, true, true, true, true, true, true, true, false, false, false, false, false, false, false] rfl rfl (any_of HT_.out (by kernel_rfl)) (fun _ _ _ h => h) (Or.inr ⟨by rfl, rfl⟩) ?_ ?_
     rotate_left
     ·simp only [Act.put, List.setIfInBounds_toArray, List.set_cons_zero, List.set_cons_succ, i64_w, i32_w]
      rfl
     refine pure_ (i := 24) (N := some 41) (v := undef) (a' := ?_) #[true, true, true, true, true, true, true, true, true, true, true, true, true, true, true, true, true, true, true, true, true, true, true, true, true, false, false, false, false, false, false] rfl rfl (any_of HT_.out (by kernel_rfl)) (fun _ _ _ h => h) (Or.inr ⟨by rfl, rfl⟩) ?_ ?_
     rotate_left
     ·simp only [Act.put, List.setIfInBounds_toArray, List.set_cons_zero, List.set_cons_succ, i64_w, i32_w]
      rfl
     refine pure_ (i := 25) (N := some 42) (v := undef) (a' := ?_) #[true, true, true, true, true, true, true, true, true, true, true, true, true, true, true, true, true, true, true, true, true, true, true, true, true, true, false, false, false, false, false] rfl rfl (any_of HT_.out (by kernel_rfl)) (fun _ _ _ h => h) (Or.inr ⟨by rfl, rfl⟩) ?_ ?_
     rotate_left
     ·simp only [Act.put, List.setIfInBounds_toArray, List.set_cons_zero, List.set_cons_succ, i64_w, i32_w]
      rfl
     refine pure_ (i := 26) (N := some 43) (v := ?_) (a' := ?_) #[true, true, true, true, true, true, true, true, true, true, true, true, true, true, true, true, true, true, true, true, true, true, true, true, true, true, true, false, false, false, false] rfl rfl (any_of HT_.out (by kernel_rfl)) (fun _ _ _ h => h) (Or.inl ⟨by rfl, ?_⟩) ?_ ?_
     rotate_left
     ·intro w'
      go_simp
      with_reducible rfl
     rotate_left
     ·simp only [Act.put, List.setIfInBounds_toArray, List.set_cons_zero, List.set_cons_succ, i64_w, i32_w]
      rfl
     refine pure_ (i := 27) (N := some 44) (v := ?_) (a' := ?_) #[true, true, true, true, true, true, true, true, true, true, true, true, true, true, true, true, true, true, true, true, true, true, true, true, true, true, true, true, false, false, false] rfl rfl (any_of HT_.out (by kernel_rfl)) (fun _ _ _ h => h) (Or.inl ⟨by rfl, ?_⟩) ?_ ?_
     rotate_left
     ·intro w'
      go_simp
      with_reducible rfl
     rotate_left
     ·simp only [Act.put, List.setIfInBounds_toArray, List.set_cons_zero, List.set_cons_succ, i64_w, i32_w]
      rfl
     refine pure_ (i := 28) (N := some 45) (v := undef) (a' := ?_) #[true, true, true, true, true, true, true, true, true, true, true, true, true, true, true, true, true, true, true, true, true, true, true, true, true, true, true, true, true, false, false] rfl rfl (any_of HT_.out (by kernel_rfl)) (fun _ _ _ h => h) (Or.inr ⟨by rfl, rfl⟩) ?_ ?_
     rotate_left
     ·simp only [Act.put, List.setIfInBounds_toArray, List.set_cons_zero, List.set_cons_succ, i64_w, i32_w]
      rfl
     refine pure_ (i := 29) (N := some 46) (v := ?_) (a' := ?_) #[true, true, true, true, true, true, true, true, true, true, true, true, true, true, true, true, true, true, true, true, true, true, true, true, true, true, true, true, true, true, false] rfl rfl (any_of HT_.out (by kernel_rfl)) (fun _ _ _ h => h) (Or.inl ⟨by rfl, ?_⟩) ?_ ?_
     rotate_left
     ·intro w'
      go_simp
      with_reducible rfl
     rotate_left
     ·simp only [Act.put, List.setIfInBounds_toArray, List.set_cons_zero, List.set_cons_succ, i64_w, i32_w]
      rfl
     refine pure_ (i := 30) (N := some 8) (v := ?_) (a' := ?_) #[true, true, true, true, true, true, true, true, true, true, true, true, true, true, true, true, true, true, true, true, true, true, true, true, true, true, true, true, true, true, true] rfl rfl (any_of HT_.out (by kernel_rfl)) (fun _ _ _ h => h) (Or.inl ⟨by rfl, ?_⟩) ?_ ?_
     rotate_left
     ·intro w'
      go_simp
      with_reducible rfl
     rotate_left
     ·simp only [Act.put, List.setIfInBounds_toArray, List.set_cons_zero, List.set_cons_succ, i64_w, i32_w]
      rfl
     refine done_ (done_of HT_.out (by kernel_rfl)) ?_
     try go_wp2
     go_ret
     exact ⟨by first | rfl | (simp [errW_none, errW_some] <;> rfl) | (simp [*, errW_none, errW_some] <;> rfl), by repeat (first | (with_reducible first | exact HB.out | apply below_alloc | apply pw_below_drewN | apply below_drew1 | refine below_set ?_ GE1152.out | refine below_set ?_ GE1153.out) | exact HB.out)⟩

end Go.Proofs.Ytfdmfgaiblfbhaa.P
namespace Go.Proofs.Ytfdmfgaiblfbhaa.P
open Go.RowKit Go.Proofs.YtfdmfgaiblfbhaaW.PrintWords Go.Proofs.YtfdmfgaiblfbhaaW.PrintLast Go.Proofs.YtfdmfgaiblfbhaaW.PrintMore
attribute [local go_sem] max2_int min2_int max_two min_two max_three min_three max_four min_four   -- for this text's walks alone
set_option linter.unusedVariables false
set_option linter.unusedSimpArgs false

/-! ### sashref05_May: function 38 -/
mutual
def sashref05_May.l0 : Nat → List (S26) → Int → Int → Int → Int → Int → Int → Int → Int → List (S26) → Option (Bool)
 | 0, _, _, _, _, _, _, _, _, _, _ => none
 | k + 1, x3, x14, x15, x175000, x175001, x175002, x175003, x175004, x175005, x175006 => if x15 < x14 then (if 0 ≤ x15 then (if x15 < (x3.length : Int) then ((sashref04_May.f ((rd_T26 x3 x15).f1.f0) ((rd_T26 x3 x15).f1.f1) ((rd_T26 x3 x15).f1.f2) ((rd_T26 x3 x15).f1.f3)).bind fun t179 => (if t179 = true then (if ((rd_T26 x3 x15).f0) < 1 then (sashref05_May.j1 k x3 x15 x14 x15 true x175000 x175001 x175002 x175003 x175004 x175005 x175006) else (sashref05_May.j1 k x3 x15 x14 x15 (decide (((rd_T26 x3 x15).f0) > 3)) x175000 x175001 x175002 x175003 x175004 x175005 x175006)) else (sashref05_May.j1 k x3 x15 x14 x15 true x175000 x175001 x175002 x175003 x175004 x175005 x175006))) else (none)) else (none)) else ((sashref05_Leaves.f k x175000 x175001 x175002 x175003 x175004 x175005 x175006).bind fun t192 => (sashref05_May.l1 k t192 (t192.length : Int) 0))
def sashref05_May.j1 : Nat → List (S26) → Int → Int → Int → Bool → Int → Int → Int → Int → Int → Int → List (S26) → Option (Bool)
 | 0, _, _, _, _, _, _, _, _, _, _, _, _ => none
 | k + 1, x3, x4, x14, x15, x40, x175000, x175001, x175002, x175003, x175004, x175005, x175006 => if x40 = true then (some false) else (if 0 ≤ x4 then (if x4 < (x3.length : Int) then (if ((rd_T26 x3 x4).f0) = 1 then (if (((rd_T26 x3 x4).f3).length : Int) > 0 then (some false) else (if ((rd_T26 x3 x4).f2) < 0 then (some false) else (if ((rd_T26 x3 x4).f2) > 2147483647 then (some false) else (if ((rd_T26 x3 x4).f0) > 1 then (if (((rd_T26 x3 x4).f3).length : Int) < 2 then (some false) else (if ((rd_T26 x3 x4).f2) = 0 then (sashref05_May.l0 k x3 x14 (wrap64 (x15 + 1)) x175000 x175001 x175002 x175003 x175004 x175005 x175006) else (some false))) else (sashref05_May.l0 k x3 x14 (wrap64 (x15 + 1)) x175000 x175001 x175002 x175003 x175004 x175005 x175006))))) else (if ((rd_T26 x3 x4).f0) > 1 then (if (((rd_T26 x3 x4).f3).length : Int) < 2 then (some false) else (if ((rd_T26 x3 x4).f2) = 0 then (sashref05_May.l0 k x3 x14 (wrap64 (x15 + 1)) x175000 x175001 x175002 x175003 x175004 x175005 x175006) else (some false))) else (sashref05_May.l0 k x3 x14 (wrap64 (x15 + 1)) x175000 x175001 x175002 x175003 x175004 x175005 x175006))) else (none)) else (none))
def sashref05_May.l1 : Nat → List (S26) → Int → Int → Option (Bool)
 | 0, _, _, _ => none
 | k + 1, x5, x101, x102 => if x102 < x101 then (sashref05_May.l2 k x5 x102 0 x101 x102) else (some true)
def sashref05_May.l2 : Nat → List (S26) → Int → Int → Int → Int → Option (Bool)
 | 0, _, _, _, _, _ => none
 | k + 1, x5, x6, x7, x101, x102 => if x7 < x6 then (if 0 ≤ x6 then (if x6 < (x5.length : Int) then (if 0 ≤ x7 then (if x7 < (x5.length : Int) then (if ((rd_T26 x5 x6).f2) = ((rd_T26 x5 x7).f2) then (some false) else (sashref05_May.l2 k x5 x6 (wrap64 (x7 + 1)) x101 x102)) else (none)) else (none)) else (none)) else (none)) else (sashref05_May.l1 k x5 x101 (wrap64 (x102 + 1)))
end
def sashref05_May.f (k : Nat) (a0_0 : Int) (a0_1 : Int) (a0_2 : Int) (a0_3 : Int) (a0_4 : Int) (a0_5 : Int) (l0_6 : List (S26)) : Option (Bool) := (sashref05_All.f k a0_0 a0_1 a0_2 a0_3 a0_4 a0_5 l0_6).bind fun t175 => (if (t175.length : Int) > 20000 then (some false) else (sashref05_May.l0 k t175 (t175.length : Int) 0 a0_0 a0_1 a0_2 a0_3 a0_4 a0_5 l0_6))
theorem sashref05_May.mono_l : ∀ k, (∀ y0 y1 y2 y3 y4 y5 y6 y7 y8 y9, LeO (sashref05_May.l0 k y0 y1 y2 y3 y4 y5 y6 y7 y8 y9) (sashref05_May.l0 (k + 1) y0 y1 y2 y3 y4 y5 y6 y7 y8 y9)) ∧ (∀ y0 y1 y2 y3 y4 y5 y6 y7 y8 y9 y10 y11, LeO (sashref05_May.j1 k y0 y1 y2 y3 y4 y5 y6 y7 y8 y9 y10 y11) (sashref05_May.j1 (k + 1) y0 y1 y2 y3 y4 y5 y6 y7 y8 y9 y10 y11)) ∧ (∀ y0 y1 y2, LeO (sashref05_May.l1 k y0 y1 y2) (sashref05_May.l1 (k + 1) y0 y1 y2)) ∧ (∀ y0 y1 y2 y3 y4, LeO (sashref05_May.l2 k y0 y1 y2 y3 y4) (sashref05_May.l2 (k + 1) y0 y1 y2 y3 y4))
 | 0 => ⟨fun _ _ _ _ _ _ _ _ _ _ r h => by simp [sashref05_May.l0] at h, fun _ _ _ _ _ _ _ _ _ _ _ _ r h => by simp [sashref05_May.j1] at h, fun _ _ _ r h => by simp [sashref05_May.l1] at h, fun _ _ _ _ _ r h => by simp [sashref05_May.l2] at h⟩
 | k + 1 => by
  obtain ⟨ih0, ih1, ih2, ih3⟩ := sashref05_May.mono_l k
  refine ⟨?_, ?_, ?_, ?_⟩
  ·intro y0 y1 y2 y3 y4 y5 y6 y7 y8 y9
   unfold sashref05_May.l0
   repeat' first
   | (with_reducible exact ih0 _ _ _ _ _ _ _ _ _ _)
   | (with_reducible exact ih1 _ _ _ _ _ _ _ _ _ _ _ _)
   | (with_reducible exact ih2 _ _ _)
   | (with_reducible exact ih3 _ _ _ _ _)
   | (with_reducible exact sashref05_All.mono _ _ _ _ _ _ _ _)
   | (with_reducible exact sashref05_Leaves.mono _ _ _ _ _ _ _ _)
   | (with_reducible exact LeO.refl _)
   | (with_reducible exact LeO.none _)
   | (with_reducible refine LeO.ite ?_ ?_)
   | (with_reducible refine LeO.bind ?_ (fun _ => ?_))
   | exact ih0 _ _ _ _ _ _ _ _ _ _
   | exact ih1 _ _ _ _ _ _ _ _ _ _ _ _
   | exact ih2 _ _ _
   | exact ih3 _ _ _ _ _
   | exact sashref05_All.mono _ _ _ _ _ _ _ _
   | exact sashref05_Leaves.mono _ _ _ _ _ _ _ _
   | exact LeO.none _
   | refine LeO.ite ?_ ?_
   | refine LeO.bind ?_ (fun _ => ?_)
  ·intro y0 y1 y2 y3 y4 y5 y6 y7 y8 y9 y10 y11
   unfold sashref05_May.j1
   repeat' first
   | (with_reducible exact ih0 _ _ _ _ _ _ _ _ _ _)
   | (with_reducible exact ih1 _ _ _ _ _ _ _ _ _ _ _ _)
   | (with_reducible exact ih2 _ _ _)
   | (with_reducible exact ih3 _ _ _ _ _)
   | (with_reducible exact sashref05_All.mono _ _ _ _ _ _ _ _)
   | (with_reducible exact sashref05_Leaves.mono _ _ _ _ _ _ _ _)
   | (with_reducible exact LeO.refl _)
   | (with_reducible exact LeO.none _)
   | (with_reducible refine LeO.ite ?_ ?_)
   | (with_reducible refine LeO.bind ?_ (fun _ => ?_))
   | exact ih0 _ _ _ _ _ _ _ _ _ _
   | exact ih1 _ _ _ _ _ _ _ _ _ _ _ _
   | exact ih2 _ _ _
   | exact ih3 _ _ _ _ _
   | exact sashref05_All.mono _ _ _ _ _ _ _ _
   | exact sashref05_Leaves.mono _ _ _ _ _ _ _ _
   | exact LeO.none _
   | refine LeO.ite ?_ ?_
   | refine LeO.bind ?_ (fun _ => ?_)
  ·intro y0 y1 y2
   unfold sashref05_May.l1
   repeat' first
   | (with_reducible exact ih0 _ _ _ _ _ _ _ _ _ _)
   | (with_reducible exact ih1 _ _ _ _ _ _ _ _ _ _ _ _)
   | (with_reducible exact ih2 _ _ _)
   | (with_reducible exact ih3 _ _ _ _ _)
   | (with_reducible exact sashref05_All.mono _ _ _ _ _ _ _ _)
   | (with_reducible exact sashref05_Leaves.mono _ _ _ _ _ _ _ _)
   | (with_reducible exact LeO.refl _)
   | (with_reducible exact LeO.none _)
   | (with_reducible refine LeO.ite ?_ ?_)
   | (with_reducible refine LeO.bind ?_ (fun _ => ?_))
   | exact ih0 _ _ _ _ _ _ _ _ _ _
   | exact ih1 _ _ _ _ _ _ _ _ _ _ _ _
   | exact ih2 _ _ _
   | exact ih3 _ _ _ _ _
   | exact sashref05_All.mono _ _ _ _ _ _ _ _
   | exact sashref05_Leaves.mono _ _ _ _ _ _ _ _
   | exact LeO.none _
   | refine LeO.ite ?_ ?_
   | refine LeO.bind ?_ (fun _ => ?_)
  ·intro y0 y1 y2 y3 y4
   unfold sashref05_May.l2
   repeat' first
   | (with_reducible exact ih0 _ _ _ _ _ _ _ _ _ _)
   | (with_reducible exact ih1 _ _ _ _ _ _ _ _ _ _ _ _)
   | (with_reducible exact ih2 _ _ _)
   | (with_reducible exact ih3 _ _ _ _ _)
   | (with_reducible exact sashref05_All.mono _ _ _ _ _ _ _ _)
   | (with_reducible exact sashref05_Leaves.mono _ _ _ _ _ _ _ _)
   | (with_reducible exact LeO.refl _)
   | (with_reducible exact LeO.none _)
   | (with_reducible refine LeO.ite ?_ ?_)
   | (with_reducible refine LeO.bind ?_ (fun _ => ?_))
   | exact ih0 _ _ _ _ _ _ _ _ _ _
   | exact ih1 _ _ _ _ _ _ _ _ _ _ _ _
   | exact ih2 _ _ _
   | exact ih3 _ _ _ _ _
   | exact sashref05_All.mono _ _ _ _ _ _ _ _
   | exact sashref05_Leaves.mono _ _ _ _ _ _ _ _
   | exact LeO.none _
   | refine LeO.ite ?_ ?_
   | refine LeO.bind ?_ (fun _ => ?_)
theorem sashref05_May.mono : ∀ a0 a1 a2 a3 a4 a5 a6 k, LeO (sashref05_May.f k a0 a1 a2 a3 a4 a5 a6) (sashref05_May.f (k + 1) a0 a1 a2 a3 a4 a5 a6) := by
 intro a0 a1 a2 a3 a4 a5 a6 k
 obtain ⟨ih0, ih1, ih2, ih3⟩ := sashref05_May.mono_l k
 unfold sashref05_May.f
 repeat' first
   | (with_reducible exact ih0 _ _ _ _ _ _ _ _ _ _)
   | (with_reducible exact ih1 _ _ _ _ _ _ _ _ _ _ _ _)
   | (with_reducible exact ih2 _ _ _)
   | (with_reducible exact ih3 _ _ _ _ _)
   | (with_reducible exact sashref05_All.mono _ _ _ _ _ _ _ _)
   | (with_reducible exact sashref05_Leaves.mono _ _ _ _ _ _ _ _)
   | (with_reducible exact LeO.refl _)
   | (with_reducible exact LeO.none _)
   | (with_reducible refine LeO.ite ?_ ?_)
   | (with_reducible refine LeO.bind ?_ (fun _ => ?_))
   | exact ih0 _ _ _ _ _ _ _ _ _ _
   | exact ih1 _ _ _ _ _ _ _ _ _ _ _ _
   | exact ih2 _ _ _
   | exact ih3 _ _ _ _ _
   | exact sashref05_All.mono _ _ _ _ _ _ _ _
   | exact sashref05_Leaves.mono _ _ _ _ _ _ _ _
   | exact LeO.none _
   | refine LeO.ite ?_ ?_
   | refine LeO.bind ?_ (fun _ => ?_)
end Go.Proofs.Ytfdmfgaiblfbhaa.P
/- May a tree be, by the reference: plain data. -/
namespace Go.Proofs.Ytfdmfgaiblfbhaa.P
open Go.RowKit Go.Proofs.YtfdmfgaiblfbhaaW.PrintWords Go.Proofs.YtfdmfgaiblfbhaaW.PrintLast Go.Proofs.YtfdmfgaiblfbhaaW.PrintMore

theorem may_ev (c : S26) (h : sz c ≤ 1048576) : Ev (fun k => sashref05_May.f k c.f0 c.f1.f0 c.f1.f1 c.f1.f2 c.f1.f3 c.f2 c.f3) (mayC c) := by
  unfold sashref05_May.f
  refine Ev.bind (all_cells _ c h (Nat.le_refl _)) ?_
  by_cases h2 : ((allC c).length : Int) > 20000
  · refine ev_pos h2 ?_
    have : mayC c = false := by
      unfold mayC sz
      rw [decide_eq_false (by omega), Bool.false_and]
    rw [this]
    exact Ev.now _
  refine ev_neg h2 ?_
  have hm : mayC c = ((allC c).all okC && distinctC (leavesC c)) := by
    unfold mayC sz
    rw [decide_eq_true (by omega), Bool.true_and]
  have hlv : (leavesC c).length ≤ 1048576 := by have := leaves_len c; omega
  -- the leaves' numbers
  have inner : ∀ (pre : List S26) (x : S26) (rest : List S26), pre ++ x :: rest = leavesC c → ∀ b : Bool, (apartTo pre x = true → Ev (fun k => sashref05_May.l1 k (leavesC c) ((leavesC c).length : Int) ((pre ++ [x]).length : Int)) b) → (apartTo pre x = false → b = false) →
      ∀ (q p : List S26), p ++ q = pre → apartTo p x = true → Ev (fun k => sashref05_May.l2 k (leavesC c) (pre.length : Int) (p.length : Int) ((leavesC c).length : Int) (pre.length : Int)) b := by
    intro pre x rest hp b hb hf q
    have hl : (pre.length : Int) < ((leavesC c).length : Int) := by rw [← hp, List.length_append, List.length_cons]; omega
    have hr : rd_T26 (leavesC c) (pre.length : Int) = x := by rw [← hp]; exact rd26_in pre x rest
    have hu : wrap64 ((pre.length : Int) + 1) = ((pre ++ [x]).length : Int) := up_in pre x rest (by rw [hp]; omega)
    induction q with
    | nil =>
      intro p hq ha
      rw [List.append_nil] at hq
      subst hq
      refine Ev.step (fun k => ?_) (hb ha)
      simp only [sashref05_May.l2]
      rw [if_neg (by omega), hu]
    | cons y ys ihq =>
      intro p hq ha
      have hpl : (p.length : Int) < (pre.length : Int) := by rw [← hq, List.length_append, List.length_cons]; omega
      have hpr : rd_T26 (leavesC c) (p.length : Int) = y := by rw [← hp, ← hq, List.append_assoc, List.cons_append]; exact rd26_in p y _
      have hpu : wrap64 ((p.length : Int) + 1) = ((p ++ [y]).length : Int) := up_in p y ys (by rw [hq]; omega)
      by_cases he : x.f2 = y.f2
      · have hbf : b = false := hf (by
          unfold apartTo
          rw [← hq, List.all_append, List.all_cons, decide_eq_false (by simpa using he), Bool.false_and, Bool.and_false])
        rw [hbf]
        refine Ev.step (f := fun _ => some false) (fun k => ?_) (Ev.now _)
        simp only [sashref05_May.l2]
        rw [if_pos hpl, if_pos (by omega), if_pos hl, if_pos (by omega), if_pos (by omega), hr, hpr, if_pos he]
      · have e2 := ihq (p ++ [y]) (by rw [List.append_assoc]; exact hq) (by
          unfold apartTo at ha ⊢
          rw [List.all_append, ha, Bool.true_and, List.all_cons, decide_eq_true (by simpa using he)]
          rfl)
        refine Ev.step (fun k => ?_) e2
        simp only [sashref05_May.l2]
        rw [if_pos hpl, if_pos (by omega), if_pos hl, if_pos (by omega), if_pos (by omega), hr, hpr, if_neg he, hpu]
  have outer : ∀ (rest pre : List S26), pre ++ rest = leavesC c → distinctC pre = true → Ev (fun k => sashref05_May.l1 k (leavesC c) ((leavesC c).length : Int) (pre.length : Int)) (distinctC (leavesC c)) := by
    intro rest
    induction rest with
    | nil =>
      intro pre hp hd
      rw [List.append_nil] at hp
      have hd2 : distinctC (leavesC c) = true := by rw [← hp]; exact hd
      rw [hd2]
      refine Ev.step (f := fun _ => some true) (fun k => ?_) (Ev.now _)
      simp only [sashref05_May.l1]
      rw [if_neg (by rw [← hp]; omega)]
    | cons x xs ihr =>
      intro pre hp hd
      have hl : (pre.length : Int) < ((leavesC c).length : Int) := by rw [← hp, List.length_append, List.length_cons]; omega
      have e := inner pre x xs hp (distinctC (leavesC c)) (fun ha => ihr (pre ++ [x]) (by rw [List.append_assoc]; exact hp) (by rw [distinctC_app, hd, ha]; rfl)) (fun ha => by
        have := distinctC_pre (pre ++ [x]) xs (by rw [distinctC_app, ha, Bool.and_false])
        rwa [List.append_assoc, List.singleton_append, hp] at this) pre [] rfl rfl
      refine Ev.step (fun k => ?_) e
      simp only [sashref05_May.l1]
      rw [if_pos hl]
      rfl
  -- the cells
  have cells : ∀ (rest pre : List S26), pre ++ rest = allC c → pre.all okC = true → Ev (fun k => sashref05_May.l0 k (allC c) ((allC c).length : Int) (pre.length : Int) c.f0 c.f1.f0 c.f1.f1 c.f1.f2 c.f1.f3 c.f2 c.f3) (mayC c) := by
    intro rest
    induction rest with
    | nil =>
      intro pre hp ha
      rw [List.append_nil] at hp
      rw [hm, ← hp, ha, Bool.true_and, hp]
      refine Ev.step (f := fun k => (sashref05_Leaves.f k c.f0 c.f1.f0 c.f1.f1 c.f1.f2 c.f1.f3 c.f2 c.f3).bind fun t => sashref05_May.l1 k t (t.length : Int) 0) (fun k => ?_) (Ev.bind (leaves_ev c h) (outer (leavesC c) [] rfl rfl))
      simp only [sashref05_May.l0]
      rw [if_neg (by omega)]
    | cons x xs ihr =>
      intro pre hp ha
      have hsz : (allC c).length ≤ 1048576 := h
      have hl : (pre.length : Int) < ((allC c).length : Int) := by rw [← hp, List.length_append, List.length_cons]; omega
      have hr : rd_T26 (allC c) (pre.length : Int) = x := by rw [← hp]; exact rd26_in pre x xs
      have hu : wrap64 ((pre.length : Int) + 1) = ((pre ++ [x]).length : Int) := up_in pre x xs (by rw [hp]; omega)
      have hno : okC x = false → mayC c = false := fun hx => by
        rw [hm, ← hp, List.all_append, List.all_cons, hx, Bool.false_and, Bool.and_false, Bool.false_and]
      have hyes : okC x = true → Ev (fun k => sashref05_May.l0 k (allC c) ((allC c).length : Int) ((pre ++ [x]).length : Int) c.f0 c.f1.f0 c.f1.f1 c.f1.f2 c.f1.f3 c.f2 c.f3) (mayC c) := fun hx =>
        ihr (pre ++ [x]) (by rw [List.append_assoc]; exact hp) (by rw [List.all_append, ha, Bool.true_and, List.all_cons, hx]; rfl)
      have j1t : okC x = false → Ev (fun k => sashref05_May.j1 k (allC c) (pre.length : Int) ((allC c).length : Int) (pre.length : Int) true c.f0 c.f1.f0 c.f1.f1 c.f1.f2 c.f1.f3 c.f2 c.f3) (mayC c) := fun hx => by
        rw [hno hx]
        refine Ev.step (f := fun _ => some false) (fun k => ?_) (Ev.now _)
        simp only [sashref05_May.j1]
        rw [if_pos trivial]
      refine Ev.step (f := fun k => (sashref04_May.f x.f1.f0 x.f1.f1 x.f1.f2 x.f1.f3).bind fun t179 => (if t179 = true then (if x.f0 < 1 then (sashref05_May.j1 k (allC c) (pre.length : Int) ((allC c).length : Int) (pre.length : Int) true c.f0 c.f1.f0 c.f1.f1 c.f1.f2 c.f1.f3 c.f2 c.f3) else (sashref05_May.j1 k (allC c) (pre.length : Int) ((allC c).length : Int) (pre.length : Int) (decide (x.f0 > 3)) c.f0 c.f1.f0 c.f1.f1 c.f1.f2 c.f1.f3 c.f2 c.f3)) else (sashref05_May.j1 k (allC c) (pre.length : Int) ((allC c).length : Int) (pre.length : Int) true c.f0 c.f1.f0 c.f1.f1 c.f1.f2 c.f1.f3 c.f2 c.f3))) (fun k => ?_) ?_
      · simp only [sashref05_May.l0]
        rw [if_pos hl, if_pos (by omega), if_pos hl, hr]
      · refine Ev.bind (a := mayR x.f1) (ev_some fun k => refmay_some _ _ _ _) ?_
        by_cases hmr : mayR x.f1 = true
        · refine ev_pos hmr ?_
          by_cases h1 : x.f0 < 1
          · refine ev_pos h1 (j1t ?_)
            unfold okC
            rw [decide_eq_false (p := 1 ≤ x.f0 ∧ x.f0 ≤ 3) (by omega)]
            simp
          · refine ev_neg h1 ?_
            by_cases h3 : x.f0 > 3
            · rw [decide_eq_true h3]
              refine j1t ?_
              unfold okC
              rw [decide_eq_false (p := 1 ≤ x.f0 ∧ x.f0 ≤ 3) (by omega)]
              simp
            · rw [decide_eq_false h3]
              have hk : okC x = (decide (x.f0 = 1 → x.f3.length = 0 ∧ 0 ≤ x.f2 ∧ x.f2 ≤ 2147483647) && decide (x.f0 > 1 → 2 ≤ x.f3.length ∧ x.f2 = 0)) := by
                unfold okC
                rw [hmr, decide_eq_true (p := 1 ≤ x.f0 ∧ x.f0 ≤ 3) (by omega), Bool.true_and, Bool.true_and]
              have go : ∀ {f : Nat → Option Bool}, Ev f (mayC c) → (∀ k, sashref05_May.j1 (k + 1) (allC c) (pre.length : Int) ((allC c).length : Int) (pre.length : Int) false c.f0 c.f1.f0 c.f1.f1 c.f1.f2 c.f1.f3 c.f2 c.f3 = f k) → Ev (fun k => sashref05_May.j1 k (allC c) (pre.length : Int) ((allC c).length : Int) (pre.length : Int) false c.f0 c.f1.f0 c.f1.f1 c.f1.f2 c.f1.f3 c.f2 c.f3) (mayC c) := fun he hs => Ev.step hs he
              have base : ∀ k, sashref05_May.j1 (k + 1) (allC c) (pre.length : Int) ((allC c).length : Int) (pre.length : Int) false c.f0 c.f1.f0 c.f1.f1 c.f1.f2 c.f1.f3 c.f2 c.f3 =
                  (if x.f0 = 1 then (if (x.f3.length : Int) > 0 then (some false) else (if x.f2 < 0 then (some false) else (if x.f2 > 2147483647 then (some false) else (if x.f0 > 1 then (if (x.f3.length : Int) < 2 then (some false) else (if x.f2 = 0 then (sashref05_May.l0 k (allC c) ((allC c).length : Int) ((pre ++ [x]).length : Int) c.f0 c.f1.f0 c.f1.f1 c.f1.f2 c.f1.f3 c.f2 c.f3) else (some false))) else (sashref05_May.l0 k (allC c) ((allC c).length : Int) ((pre ++ [x]).length : Int) c.f0 c.f1.f0 c.f1.f1 c.f1.f2 c.f1.f3 c.f2 c.f3))))) else (if x.f0 > 1 then (if (x.f3.length : Int) < 2 then (some false) else (if x.f2 = 0 then (sashref05_May.l0 k (allC c) ((allC c).length : Int) ((pre ++ [x]).length : Int) c.f0 c.f1.f0 c.f1.f1 c.f1.f2 c.f1.f3 c.f2 c.f3) else (some false))) else (sashref05_May.l0 k (allC c) ((allC c).length : Int) ((pre ++ [x]).length : Int) c.f0 c.f1.f0 c.f1.f1 c.f1.f2 c.f1.f3 c.f2 c.f3))) := by
                intro k
                simp only [sashref05_May.j1]
                rw [if_neg (by simp), if_pos (by omega), if_pos hl, hr, hu]
              have bad : okC x = false → Ev (fun _ : Nat => some false) (mayC c) := fun hx => by rw [hno hx]; exact Ev.now _
              by_cases g1 : x.f0 = 1
              · by_cases g2 : (x.f3.length : Int) > 0
                · exact go (bad (by rw [hk, decide_eq_false (by omega), Bool.false_and])) (fun k => by rw [base, if_pos g1, if_pos g2])
                · by_cases g3 : x.f2 < 0
                  · exact go (bad (by rw [hk, decide_eq_false (by omega), Bool.false_and])) (fun k => by rw [base, if_pos g1, if_neg g2, if_pos g3])
                  · by_cases g4 : x.f2 > 2147483647
                    · exact go (bad (by rw [hk, decide_eq_false (by omega), Bool.false_and])) (fun k => by rw [base, if_pos g1, if_neg g2, if_neg g3, if_pos g4])
                    · exact go (hyes (by rw [hk, decide_eq_true (by omega), decide_eq_true (by omega)]; rfl)) (fun k => by rw [base, if_pos g1, if_neg g2, if_neg g3, if_neg g4, if_neg (by omega)])
              · by_cases g2 : (x.f3.length : Int) < 2
                · exact go (bad (by rw [hk, decide_eq_false (p := x.f0 > 1 → 2 ≤ x.f3.length ∧ x.f2 = 0) (by omega), Bool.and_false])) (fun k => by rw [base, if_neg g1, if_pos (by omega), if_pos g2])
                · by_cases g3 : x.f2 = 0
                  · exact go (hyes (by rw [hk, decide_eq_true (by omega), decide_eq_true (by omega)]; rfl)) (fun k => by rw [base, if_neg g1, if_pos (by omega), if_neg g2, if_pos g3])
                  · exact go (bad (by rw [hk, decide_eq_false (p := x.f0 > 1 → 2 ≤ x.f3.length ∧ x.f2 = 0) (by omega), Bool.and_false])) (fun k => by rw [base, if_neg g1, if_pos (by omega), if_neg g2, if_neg g3])
        · refine ev_neg hmr (j1t ?_)
          unfold okC
          rw [Bool.eq_false_iff.2 hmr, Bool.false_and, Bool.false_and, Bool.false_and]
  exact cells (allC c) [] rfl rfl
end Go.Proofs.Ytfdmfgaiblfbhaa.P
namespace Go.Proofs.Ytfdmfgaiblfbhaa.P
open Go.RowKit Go.Proofs.YtfdmfgaiblfbhaaW.PrintWords Go.Proofs.YtfdmfgaiblfbhaaW.PrintLast Go.Proofs.YtfdmfgaiblfbhaaW.PrintMore
attribute [local go_sem] max2_int min2_int max_two min_two max_three min_three max_four min_four   -- for this text's walks alone
set_option linter.unusedVariables false
set_option linter.unusedSimpArgs false

/-! ### sashref06_Sizes: function 194 -/
def sashref06_Sizes.l0 : Nat → List Int → Int → Int → Int → Int → Int → Int → Int → Int → List (S26) → Option (List Int)
 | 0, _, _, _, _, _, _, _, _, _, _ => none
 | k + 1, x3, x8, x9, x895000, x895001, x895002, x895003, x895004, x895005, x895006 => if x9 < x8 then (if x895000 = 2 then (if 0 ≤ x9 then (if x9 < (x895006.length : Int) then (if x3.length < 17592186044416 then (sashref06_Sizes.l0 k (x3 ++ [(rd_T26 x895006 x9).f1.f2]) x8 (wrap64 (x9 + 1)) x895000 x895001 x895002 x895003 x895004 x895005 x895006) else (none)) else (none)) else (none)) else (if 0 ≤ x9 then (if x9 < (x895006.length : Int) then (if x3.length < 17592186044416 then (sashref06_Sizes.l0 k (x3 ++ [(rd_T26 x895006 x9).f1.f3]) x8 (wrap64 (x9 + 1)) x895000 x895001 x895002 x895003 x895004 x895005 x895006) else (none)) else (none)) else (none))) else (some x3)
def sashref06_Sizes.f (k : Nat) (a0_0 : Int) (a0_1 : Int) (a0_2 : Int) (a0_3 : Int) (a0_4 : Int) (a0_5 : Int) (l0_6 : List (S26)) : Option (List Int) := sashref06_Sizes.l0 k (([] : List Int)) (l0_6.length : Int) 0 a0_0 a0_1 a0_2 a0_3 a0_4 a0_5 l0_6
theorem sashref06_Sizes.mono_l : ∀ k, (∀ y0 y1 y2 y3 y4 y5 y6 y7 y8 y9, LeO (sashref06_Sizes.l0 k y0 y1 y2 y3 y4 y5 y6 y7 y8 y9) (sashref06_Sizes.l0 (k + 1) y0 y1 y2 y3 y4 y5 y6 y7 y8 y9))
 | 0 => fun _ _ _ _ _ _ _ _ _ _ r h => by simp [sashref06_Sizes.l0] at h
 | k + 1 => by
  have ih0 := sashref06_Sizes.mono_l k
  ·intro y0 y1 y2 y3 y4 y5 y6 y7 y8 y9
   unfold sashref06_Sizes.l0
   repeat' first
   | (with_reducible exact ih0 _ _ _ _ _ _ _ _ _ _)
   | (with_reducible exact LeO.refl _)
   | (with_reducible exact LeO.none _)
   | (with_reducible refine LeO.ite ?_ ?_)
   | (with_reducible refine LeO.bind ?_ (fun _ => ?_))
   | exact ih0 _ _ _ _ _ _ _ _ _ _
   | exact LeO.none _
   | refine LeO.ite ?_ ?_
   | refine LeO.bind ?_ (fun _ => ?_)
theorem sashref06_Sizes.mono : ∀ a0 a1 a2 a3 a4 a5 a6 k, LeO (sashref06_Sizes.f k a0 a1 a2 a3 a4 a5 a6) (sashref06_Sizes.f (k + 1) a0 a1 a2 a3 a4 a5 a6) := by
 intro a0 a1 a2 a3 a4 a5 a6 k
 have ih0 := sashref06_Sizes.mono_l k
 unfold sashref06_Sizes.f
 repeat' first
   | (with_reducible exact ih0 _ _ _ _ _ _ _ _ _ _)
   | (with_reducible exact LeO.refl _)
   | (with_reducible exact LeO.none _)
   | (with_reducible refine LeO.ite ?_ ?_)
   | (with_reducible refine LeO.bind ?_ (fun _ => ?_))
   | exact ih0 _ _ _ _ _ _ _ _ _ _
   | exact LeO.none _
   | refine LeO.ite ?_ ?_
   | refine LeO.bind ?_ (fun _ => ?_)
end Go.Proofs.Ytfdmfgaiblfbhaa.P
namespace Go.Proofs.Ytfdmfgaiblfbhaa.P
open Go.RowKit Go.Proofs.YtfdmfgaiblfbhaaW.PrintWords Go.Proofs.YtfdmfgaiblfbhaaW.PrintLast Go.Proofs.YtfdmfgaiblfbhaaW.PrintMore
attribute [local go_sem] max2_int min2_int max_two min_two max_three min_three max_four min_four   -- for this text's walks alone
set_option linter.unusedVariables false
set_option linter.unusedSimpArgs false

attribute [local go_sem high] eqA23
/-! ### sashref06_one: function 178 -/
def sashref06_one.l0 : Nat → List (S23) → List (S23) → Int → Int → Int → Int → Int → Int → Int → Int → List (S26) → Option ((List (S23)) × Bool)
 | 0, _, _, _, _, _, _, _, _, _, _, _ => none
 | k + 1, x4, x5, x28, x29, x907000, x907001, x907002, x907003, x907004, x907005, x907006 => if x29 < x28 then (if 0 ≤ x29 then (if x29 < (x4.length : Int) then (if x29 < (x907006.length : Int) then (if (!(((rd_T23 x4 x29).f0) == ((rd_T26 x907006 x29).f1.f0)) || (!(((rd_T23 x4 x29).f1) == ((rd_T26 x907006 x29).f1.f1)) || (!(((rd_T23 x4 x29).f2) == ((rd_T26 x907006 x29).f1.f2)) || (!(((rd_T23 x4 x29).f3) == ((rd_T26 x907006 x29).f1.f3)))))) = true then (some ((([] : List (S23))), false)) else (sashref06_one.l0 k x4 x5 x28 (wrap64 (x29 + 1)) x907000 x907001 x907002 x907003 x907004 x907005 x907006)) else (none)) else (none)) else (none)) else (some (x5, true))
def sashref06_one.f (k : Nat) (a0_0 : Int) (a0_1 : Int) (a0_2 : Int) (a0_3 : Int) (a0_4 : Int) (a0_5 : Int) (l0_6 : List (S26)) : Option ((List (S23)) × Bool) := if a0_0 = 1 then (some ((([] : List (S23))), true)) else ((sashref06_Sizes.f k a0_0 a0_1 a0_2 a0_3 a0_4 a0_5 l0_6).bind fun t910 => ((sashref04_Cut.f k a0_1 a0_2 a0_3 a0_4 ((a0_0 - 1) % 256) t910).bind fun bt913 => (if bt913.2.2 = true then (sashref06_one.l0 k bt913.1 bt913.2.1 (bt913.1.length : Int) 0 a0_0 a0_1 a0_2 a0_3 a0_4 a0_5 l0_6) else (some (bt913.2.1, false)))))
theorem sashref06_one.mono_l : ∀ k, (∀ y0 y1 y2 y3 y4 y5 y6 y7 y8 y9 y10, LeO (sashref06_one.l0 k y0 y1 y2 y3 y4 y5 y6 y7 y8 y9 y10) (sashref06_one.l0 (k + 1) y0 y1 y2 y3 y4 y5 y6 y7 y8 y9 y10))
 | 0 => fun _ _ _ _ _ _ _ _ _ _ _ r h => by simp [sashref06_one.l0] at h
 | k + 1 => by
  have ih0 := sashref06_one.mono_l k
  ·intro y0 y1 y2 y3 y4 y5 y6 y7 y8 y9 y10
   unfold sashref06_one.l0
   repeat' first
   | (with_reducible exact ih0 _ _ _ _ _ _ _ _ _ _ _)
   | (with_reducible exact sashref04_Cut.mono _ _ _ _ _ _ _)
   | (with_reducible exact sashref06_Sizes.mono _ _ _ _ _ _ _ _)
   | (with_reducible exact LeO.refl _)
   | (with_reducible exact LeO.none _)
   | (with_reducible refine LeO.ite ?_ ?_)
   | (with_reducible refine LeO.bind ?_ (fun _ => ?_))
   | exact ih0 _ _ _ _ _ _ _ _ _ _ _
   | exact sashref04_Cut.mono _ _ _ _ _ _ _
   | exact sashref06_Sizes.mono _ _ _ _ _ _ _ _
   | exact LeO.none _
   | refine LeO.ite ?_ ?_
   | refine LeO.bind ?_ (fun _ => ?_)
theorem sashref06_one.mono : ∀ a0 a1 a2 a3 a4 a5 a6 k, LeO (sashref06_one.f k a0 a1 a2 a3 a4 a5 a6) (sashref06_one.f (k + 1) a0 a1 a2 a3 a4 a5 a6) := by
 intro a0 a1 a2 a3 a4 a5 a6 k
 have ih0 := sashref06_one.mono_l k
 unfold sashref06_one.f
 repeat' first
   | (with_reducible exact ih0 _ _ _ _ _ _ _ _ _ _ _)
   | (with_reducible exact sashref04_Cut.mono _ _ _ _ _ _ _)
   | (with_reducible exact sashref06_Sizes.mono _ _ _ _ _ _ _ _)
   | (with_reducible exact LeO.refl _)
   | (with_reducible exact LeO.none _)
   | (with_reducible refine LeO.ite ?_ ?_)
   | (with_reducible refine LeO.bind ?_ (fun _ => ?_))
   | exact ih0 _ _ _ _ _ _ _ _ _ _ _
   | exact sashref04_Cut.mono _ _ _ _ _ _ _
   | exact sashref06_Sizes.mono _ _ _ _ _ _ _ _
   | exact LeO.none _
   | refine LeO.ite ?_ ?_
   | refine LeO.bind ?_ (fun _ => ?_)
def sashref06_one.T3 : Bool × List (List Nat × List Nat) := (true, [([], []), ([0], [0]), ([], []), ([2], [2]), ([3], [3]), ([], []), ([5], [5]), ([1, 4, 6, 6], [1, 4, 6]), ([7], [7]), ([8], [8]), ([8], [8]), ([8], [8]), ([9, 7, 0, 1, 2, 3, 4, 5, 6, 7, 8, 9], [9]), ([10, 12, 0, 1, 2, 3, 4, 5, 6, 7, 8, 9, 10, 12], [10]), ([11, 13, 0, 1, 2, 3, 4, 5, 6, 7, 8, 9, 10, 11, 12, 13], [11])])
def sashref06_one.B3 : List Nat := [0, 1, 0, 4, 12, 0, 32, 127, 255, 511, 511, 511, 1023, 6143, 16383]
def sashref06_one.T9 : Bool × List (List Nat × List Nat) := (true, [([], []), ([], []), ([0, 1], [0, 1]), ([2], [2]), ([], []), ([4], [4]), ([], []), ([5, 6], [5, 6]), ([7], [7]), ([8], [8]), ([3, 9], [3, 9])])
def sashref06_one.B9 : List Nat := [0, 0, 3, 7, 0, 16, 0, 112, 240, 496, 1023]
end Go.Proofs.Ytfdmfgaiblfbhaa.P
namespace Go.Proofs.Ytfdmfgaiblfbhaa.P
open Go.RowKit Go.Proofs.YtfdmfgaiblfbhaaW.PrintWords Go.Proofs.YtfdmfgaiblfbhaaW.PrintLast Go.Proofs.YtfdmfgaiblfbhaaW.PrintMore
attribute [local go_sem] max2_int min2_int max_two min_two max_three min_three max_four min_four   -- for this text's walks alone
set_option linter.unusedVariables false
set_option linter.unusedSimpArgs false

/-! ### sashref06_Check: function 146 -/
def sashref06_Check.l0 : Nat → List (S23) → List (S26) → List (S23) → Int → Int → Option ((List (S23)) × Int × Int)
 | 0, _, _, _, _, _ => none
 | k + 1, x5, x6, x7, x20, x21 => if x21 < x20 then (if 0 ≤ x21 then (if x21 < (x6.length : Int) then ((sashref06_one.f k ((rd_T26 x6 x21).f0) ((rd_T26 x6 x21).f1.f0) ((rd_T26 x6 x21).f1.f1) ((rd_T26 x6 x21).f1.f2) ((rd_T26 x6 x21).f1.f3) ((rd_T26 x6 x21).f2) ((rd_T26 x6 x21).f3)).bind fun bt937 => (if bt937.2 = true then (if x7.length + bt937.1.length < 4398046511104 then (sashref06_Check.l0 k x5 x6 (x7 ++ bt937.1) x20 (wrap64 (x21 + 1))) else (none)) else (some (x5, 5, x21)))) else (none)) else (none)) else (some (x7, 0, 0))
def sashref06_Check.f (k : Nat) (a0_0 : Int) (a0_1 : Int) (a0_2 : Int) (a0_3 : Int) (a0_4 : Int) (a0_5 : Int) (l0_6 : List (S26)) : Option ((List (S23)) × Int × Int) := (some (([] : List (S23)) : List (S23))).bind fun y926 => ((sashref05_May.f k a0_0 a0_1 a0_2 a0_3 a0_4 a0_5 l0_6).bind fun t929 => (if t929 = true then ((sashref05_All.f k a0_0 a0_1 a0_2 a0_3 a0_4 a0_5 l0_6).bind fun t930 => (sashref06_Check.l0 k y926 t930 (([] : List (S23))) (t930.length : Int) 0)) else (some (y926, 1, 0))))
theorem sashref06_Check.mono_l : ∀ k, (∀ y0 y1 y2 y3 y4, LeO (sashref06_Check.l0 k y0 y1 y2 y3 y4) (sashref06_Check.l0 (k + 1) y0 y1 y2 y3 y4))
 | 0 => fun _ _ _ _ _ r h => by simp [sashref06_Check.l0] at h
 | k + 1 => by
  have ih0 := sashref06_Check.mono_l k
  ·intro y0 y1 y2 y3 y4
   unfold sashref06_Check.l0
   repeat' first
   | (with_reducible exact ih0 _ _ _ _ _)
   | (with_reducible exact sashref05_All.mono _ _ _ _ _ _ _ _)
   | (with_reducible exact sashref05_May.mono _ _ _ _ _ _ _ _)
   | (with_reducible exact sashref06_one.mono _ _ _ _ _ _ _ _)
   | (with_reducible exact LeO.refl _)
   | (with_reducible exact LeO.none _)
   | (with_reducible refine LeO.ite ?_ ?_)
   | (with_reducible refine LeO.bind ?_ (fun _ => ?_))
   | exact ih0 _ _ _ _ _
   | exact sashref05_All.mono _ _ _ _ _ _ _ _
   | exact sashref05_May.mono _ _ _ _ _ _ _ _
   | exact sashref06_one.mono _ _ _ _ _ _ _ _
   | exact LeO.none _
   | refine LeO.ite ?_ ?_
   | refine LeO.bind ?_ (fun _ => ?_)
theorem sashref06_Check.mono : ∀ a0 a1 a2 a3 a4 a5 a6 k, LeO (sashref06_Check.f k a0 a1 a2 a3 a4 a5 a6) (sashref06_Check.f (k + 1) a0 a1 a2 a3 a4 a5 a6) := by
 intro a0 a1 a2 a3 a4 a5 a6 k
 have ih0 := sashref06_Check.mono_l k
 unfold sashref06_Check.f
 repeat' first
   | (with_reducible exact ih0 _ _ _ _ _)
   | (with_reducible exact sashref05_All.mono _ _ _ _ _ _ _ _)
   | (with_reducible exact sashref05_May.mono _ _ _ _ _ _ _ _)
   | (with_reducible exact sashref06_one.mono _ _ _ _ _ _ _ _)
   | (with_reducible exact LeO.refl _)
   | (with_reducible exact LeO.none _)
   | (with_reducible refine LeO.ite ?_ ?_)
   | (with_reducible refine LeO.bind ?_ (fun _ => ?_))
   | exact ih0 _ _ _ _ _
   | exact sashref05_All.mono _ _ _ _ _ _ _ _
   | exact sashref05_May.mono _ _ _ _ _ _ _ _
   | exact sashref06_one.mono _ _ _ _ _ _ _ _
   | exact LeO.none _
   | refine LeO.ite ?_ ?_
   | refine LeO.bind ?_ (fun _ => ?_)
end Go.Proofs.Ytfdmfgaiblfbhaa.P
namespace Go.Proofs.Ytfdmfgaiblfbhaa.P
open Go.RowKit Go.Proofs.YtfdmfgaiblfbhaaW.PrintWords Go.Proofs.YtfdmfgaiblfbhaaW.PrintLast Go.Proofs.YtfdmfgaiblfbhaaW.PrintMore
attribute [local go_sem] max2_int min2_int max_two min_two max_three min_three max_four min_four   -- for this text's walks alone
set_option linter.unusedVariables false
set_option linter.unusedSimpArgs false

/-! ### sashref06_Tiles: function 84 -/
def sashref06_Tiles.f (k : Nat) (a0_0 : Int) (a0_1 : Int) (a0_2 : Int) (a0_3 : Int) (a0_4 : Int) (a0_5 : Int) (l0_6 : List (S26)) : Option (Bool) := (sashref06_Check.f k a0_0 a0_1 a0_2 a0_3 a0_4 a0_5 l0_6).bind fun bt945 => (some (bt945.2.1 == 0))
theorem sashref06_Tiles.mono : ∀ a0 a1 a2 a3 a4 a5 a6 k, LeO (sashref06_Tiles.f k a0 a1 a2 a3 a4 a5 a6) (sashref06_Tiles.f (k + 1) a0 a1 a2 a3 a4 a5 a6) := by
 intro a0 a1 a2 a3 a4 a5 a6 k
 unfold sashref06_Tiles.f
 repeat' first
   | (with_reducible exact sashref06_Check.mono _ _ _ _ _ _ _ _)
   | (with_reducible exact LeO.refl _)
   | (with_reducible exact LeO.none _)
   | (with_reducible refine LeO.ite ?_ ?_)
   | (with_reducible refine LeO.bind ?_ (fun _ => ?_))
   | exact sashref06_Check.mono _ _ _ _ _ _ _ _
   | exact LeO.none _
   | refine LeO.ite ?_ ?_
   | refine LeO.bind ?_ (fun _ => ?_)
end Go.Proofs.Ytfdmfgaiblfbhaa.P
/- Whether a tree tiles, by the reference: plain data. -/
namespace Go.Proofs.Ytfdmfgaiblfbhaa.P
open Go.RowKit Go.Proofs.YtfdmfgaiblfbhaaW.PrintWords Go.Proofs.YtfdmfgaiblfbhaaW.PrintLast Go.Proofs.YtfdmfgaiblfbhaaW.PrintMore
theorem all_sz : ∀ (N : Nat), (∀ c : S26, sz c ≤ N → ∀ d, d ∈ allC c → sz d ≤ sz c) ∧ (∀ l : List S26, szL l ≤ N → ∀ d, d ∈ allL l → sz d ≤ szL l) := by
  intro N
  induction N with
  | zero =>
    refine ⟨fun c h => ?_, fun l h => ?_⟩
    · rw [sz_eq] at h; omega
    · cases l with
      | nil => intro d hd; rw [allL_nil] at hd; cases hd
      | cons z zs => rw [szL_cons, sz_eq] at h; omega
  | succ N ih =>
    have hC : ∀ c : S26, sz c ≤ N + 1 → ∀ d, d ∈ allC c → sz d ≤ sz c := by
      intro c h d hd
      have hs := sz_eq c
      rw [allC_eq] at hd
      rcases List.mem_cons.1 hd with rfl | hd
      · exact Nat.le_refl _
      · have := ih.2 c.f3 (by omega) d hd
        omega
    refine ⟨hC, fun l => ?_⟩
    induction l with
    | nil => intro _ d hd; rw [allL_nil] at hd; cases hd
    | cons x xs ihl =>
      intro h d hd
      rw [szL_cons] at h ⊢
      rw [allL_cons] at hd
      rcases List.mem_append.1 hd with hd | hd
      · have := hC x (by omega) d hd
        omega
      · have := ihl (by omega) d hd
        omega
theorem cutP_len (ax X Y W H : Int) : ∀ (ns : List Int) (off : Int), (cutP ax X Y W H off ns).length = ns.length := by
  intro ns
  induction ns with
  | nil => intro off; rfl
  | cons n ns ih => intro off; simp [cutP, ih]
theorem sizes_ev (c : S26) (h : c.f3.length ≤ 1048576) : Ev (fun k => sashref06_Sizes.f k c.f0 c.f1.f0 c.f1.f1 c.f1.f2 c.f1.f3 c.f2 c.f3) (sizesC c) := by
  have key : ∀ (rest pre : List S26), pre ++ rest = c.f3 → Ev (fun k => sashref06_Sizes.l0 k (pre.map (szK c)) (c.f3.length : Int) (pre.length : Int) c.f0 c.f1.f0 c.f1.f1 c.f1.f2 c.f1.f3 c.f2 c.f3) (sizesC c) := by
    intro rest
    induction rest with
    | nil =>
      intro pre hp
      rw [List.append_nil] at hp
      subst hp
      refine Ev.step (f := fun _ => some (sizesC c)) (fun k => ?_) (Ev.now _)
      simp only [sashref06_Sizes.l0]
      rw [if_neg (by omega)]
      rfl
    | cons x xs ih =>
      intro pre hp
      have hl : (pre.length : Int) < (c.f3.length : Int) := by rw [← hp, List.length_append, List.length_cons]; omega
      have hr : rd_T26 c.f3 (pre.length : Int) = x := by rw [← hp]; exact rd26_in pre x xs
      have hu : wrap64 ((pre.length : Int) + 1) = ((pre ++ [x]).length : Int) := up_in pre x xs (by rw [hp]; omega)
      have e2 := ih (pre ++ [x]) (by rw [List.append_assoc]; exact hp)
      have hm : (pre ++ [x]).map (szK c) = pre.map (szK c) ++ [szK c x] := by simp
      rw [hm] at e2
      refine Ev.step (fun k => ?_) e2
      simp only [sashref06_Sizes.l0]
      rw [if_pos hl, hr, hu, List.length_map]
      by_cases h2 : c.f0 = 2
      · rw [if_pos h2, if_pos (by omega), if_pos hl, if_pos (by omega), show szK c x = x.f1.f2 from if_pos h2]
      · rw [if_neg h2, if_pos (by omega), if_pos hl, if_pos (by omega), show szK c x = x.f1.f3 from if_neg h2]
  unfold sashref06_Sizes.f
  exact key c.f3 [] rfl
theorem one_ev (c : S26) (h : c.f3.length ≤ 20000) : ∃ ls : List S23, ls.length ≤ c.f3.length ∧ Ev (fun k => sashref06_one.f k c.f0 c.f1.f0 c.f1.f1 c.f1.f2 c.f1.f3 c.f2 c.f3) (ls, oneB c) := by
  unfold oneB oneT
  by_cases h1 : c.f0 = 1
  · refine ⟨[], by simp, Ev.congr (f := fun _ => some ([], true)) (fun k => ?_) ?_⟩
    · unfold sashref06_one.f
      rw [if_pos h1]
    · rw [show (c.f0 == 1) = true from by simp [h1], Bool.true_or]
      exact Ev.now _
  · rw [show (c.f0 == 1) = false from by simp [h1], Bool.false_or]
    obtain ⟨⟨l1, l2⟩, hg, _, t2⟩ := cutT_spec c h
    have hax : (c.f0 - 1) % 256 = axC c.f0 := by unfold axC; omega
    generalize cutT c = t at l1 l2 hg t2
    have main : ∀ ls : List S23, ∀ b : Bool, Ev (fun k => if t.2.2 = true then (sashref06_one.l0 k t.1 t.2.1 (t.1.length : Int) 0 c.f0 c.f1.f0 c.f1.f1 c.f1.f2 c.f1.f3 c.f2 c.f3) else (some (t.2.1, false))) (ls, b) → Ev (fun k => sashref06_one.f k c.f0 c.f1.f0 c.f1.f1 c.f1.f2 c.f1.f3 c.f2 c.f3) (ls, b) := by
      intro ls b he
      refine Ev.congr (f := fun k => (sashref06_Sizes.f k c.f0 c.f1.f0 c.f1.f1 c.f1.f2 c.f1.f3 c.f2 c.f3).bind fun s => (sashref04_Cut.f k c.f1.f0 c.f1.f1 c.f1.f2 c.f1.f3 (axC c.f0) s).bind fun bt => (if bt.2.2 = true then (sashref06_one.l0 k bt.1 bt.2.1 (bt.1.length : Int) 0 c.f0 c.f1.f0 c.f1.f1 c.f1.f2 c.f1.f3 c.f2 c.f3) else (some (bt.2.1, false)))) (fun k => ?_) (Ev.bind (sizes_ev c (by omega)) (Ev.bind t2 he))
      unfold sashref06_one.f
      rw [if_neg h1, hax]
    cases ht : t.2.2 with
    | false =>
      rw [Bool.false_and]
      exact ⟨t.2.1, l2, main _ _ (ev_neg (by rw [ht]; simp) (Ev.now _))⟩
    | true =>
      obtain ⟨_, gp, _, _⟩ := hg ht
      have hlen : t.1.length = c.f3.length := by rw [gp, cutP_len]; simp [sizesC]
      rw [show (c.f3.length == t.1.length) = true from by simp [hlen], Bool.true_and, Bool.true_and]
      have key : ∀ (rest pre : List S23) (rb pb : List S26), pre ++ rest = t.1 → pb ++ rb = c.f3 → pre.length = pb.length → ∃ ls : List S23, ls.length ≤ c.f3.length ∧ Ev (fun k => sashref06_one.l0 k t.1 t.2.1 (t.1.length : Int) (pre.length : Int) c.f0 c.f1.f0 c.f1.f1 c.f1.f2 c.f1.f3 c.f2 c.f3) (ls, eqL (fun k r => rectB k.f1 r) rb rest) := by
        intro rest
        induction rest with
        | nil =>
          intro pre rb pb hp hb he
          rw [List.append_nil] at hp
          have hr : rb = [] := by
            apply List.eq_nil_of_length_eq_zero
            have h2 := congrArg List.length hb
            rw [List.length_append] at h2
            rw [← hp] at hlen
            omega
          subst hr
          refine ⟨t.2.1, l2, Ev.step (f := fun _ => some (t.2.1, true)) (fun k => ?_) (Ev.now _)⟩
          simp only [sashref06_one.l0]
          rw [if_neg (by rw [hp]; omega)]
        | cons r rs ih =>
          intro pre rb pb hp hb he
          have h4 : t.1.length = pre.length + (rs.length + 1) := by rw [← hp, List.length_append, List.length_cons]
          cases rb with
          | nil => rw [List.append_nil] at hb; rw [← hb] at hlen; omega
          | cons x xs =>
            have hl : (pre.length : Int) < (t.1.length : Int) := by omega
            have hr : rd_T26 c.f3 (pre.length : Int) = x := by rw [he, ← hb]; exact rd26_in pb x xs
            have hr2 : rd_T23 t.1 (pre.length : Int) = r := by rw [← hp]; simp [rd_T23, List.getD_eq_getElem?_getD]
            have hu : wrap64 ((pre.length : Int) + 1) = ((pre ++ [r]).length : Int) := up_in pre r rs (by rw [hp]; omega)
            have hq : (!(r.f0 == x.f1.f0) || (!(r.f1 == x.f1.f1) || (!(r.f2 == x.f1.f2) || (!(r.f3 == x.f1.f3))))) = !(rectB x.f1 r) := by
              unfold rectB
              rw [Bool.not_and, Bool.not_and, Bool.not_and, Bool.beq_comm (a := r.f0), Bool.beq_comm (a := r.f1), Bool.beq_comm (a := r.f2), Bool.beq_comm (a := r.f3)]
            simp only [eqL]
            cases hx : rectB x.f1 r with
            | false =>
              refine ⟨[], by simp, Ev.step (f := fun _ => some ([], false)) (fun k => ?_) (Ev.now _)⟩
              simp only [sashref06_one.l0]
              rw [if_pos hl, if_pos (by omega), if_pos hl, if_pos (by omega), hr, hr2, hq, hx, if_pos (by rfl)]
            | true =>
              obtain ⟨ls, a1, a2⟩ := ih (pre ++ [r]) xs (pb ++ [x]) (by rw [List.append_assoc]; exact hp) (by rw [List.append_assoc]; exact hb) (by rw [List.length_append, List.length_append, he]; rfl)
              refine ⟨ls, a1, Ev.step (fun k => ?_) a2⟩
              simp only [sashref06_one.l0]
              rw [if_pos hl, if_pos (by omega), if_pos hl, if_pos (by omega), hr, hr2, hq, hx, if_neg (by simp), hu]
      obtain ⟨ls, a1, a2⟩ := key t.1 [] c.f3 [] rfl rfl rfl
      exact ⟨ls, a1, main _ _ (ev_pos ht a2)⟩
theorem ref_tiles_ev (c : S26) (hz : sz c ≤ 1048576) : Ev (fun k => sashref06_Tiles.f k c.f0 c.f1.f0 c.f1.f1 c.f1.f2 c.f1.f3 c.f2 c.f3) (tilesC c) := by
  unfold tilesC
  cases hm : mayC c with
  | false =>
    rw [Bool.false_and]
    refine Ev.congr (fun k => ?_) (Ev.bind (a := (([], 1, 0) : List S23 × Int × Int)) (g := fun k => sashref06_Check.f k c.f0 c.f1.f0 c.f1.f1 c.f1.f2 c.f1.f3 c.f2 c.f3) (f := fun _ bt => some (bt.2.1 == 0)) ?_ (Ev.now _))
    · rfl
    · unfold sashref06_Check.f
      have e := may_ev c hz
      rw [hm] at e
      exact Ev.bind (Ev.now ([] : List S23)) (Ev.bind e (ev_neg (by simp) (Ev.now _)))
  | true =>
    rw [Bool.true_and]
    have hs := may_small hm
    have hlen : ∀ d, d ∈ allC c → d.f3.length ≤ 20000 := fun d hd => by
      have h1 := (all_sz (sz c)).1 c (Nat.le_refl _) d hd
      have h2 := sz_eq d
      have h3 := szL_len d.f3
      omega
    have key : ∀ (rest pre : List S26), pre ++ rest = allC c → ∀ out : List S23, out.length ≤ 20001 * pre.length → ∃ r : List S23 × Int × Int, Ev (fun k => sashref06_Check.l0 k ([] : List S23) (allC c) out ((allC c).length : Int) (pre.length : Int)) r ∧ (r.2.1 == 0) = rest.all oneB := by
      intro rest
      induction rest with
      | nil =>
        intro pre hp out ho
        rw [List.append_nil] at hp
        refine ⟨(out, 0, 0), Ev.step (f := fun _ => some (out, 0, 0)) (fun k => ?_) (Ev.now _), rfl⟩
        simp only [sashref06_Check.l0]
        rw [if_neg (by rw [hp]; omega)]
      | cons x xs ih =>
        intro pre hp out ho
        have hl : (pre.length : Int) < ((allC c).length : Int) := by rw [← hp, List.length_append, List.length_cons]; omega
        have hl2 : (allC c).length = sz c := rfl
        have hr : rd_T26 (allC c) (pre.length : Int) = x := by rw [← hp]; exact rd26_in pre x xs
        have hu : wrap64 ((pre.length : Int) + 1) = ((pre ++ [x]).length : Int) := up_in pre x xs (by rw [hp]; omega)
        have hx := hlen x (by rw [← hp]; simp)
        obtain ⟨ls, b1, b2⟩ := one_ev x hx
        rw [List.all_cons]
        cases ho1 : oneB x with
        | false =>
          rw [ho1] at b2
          refine ⟨([], 5, (pre.length : Int)), Ev.step (f := fun k => (sashref06_one.f k x.f0 x.f1.f0 x.f1.f1 x.f1.f2 x.f1.f3 x.f2 x.f3).bind fun bt => (if bt.2 = true then (if out.length + bt.1.length < 4398046511104 then (sashref06_Check.l0 k ([] : List S23) (allC c) (out ++ bt.1) ((allC c).length : Int) (wrap64 ((pre.length : Int) + 1))) else (none)) else (some (([] : List S23), 5, (pre.length : Int))))) (fun k => ?_) (Ev.bind b2 (ev_neg (by simp) (Ev.now _))), by rfl⟩
          simp only [sashref06_Check.l0]
          rw [if_pos hl, if_pos (by omega), if_pos hl, hr]
        | true =>
          rw [ho1] at b2
          obtain ⟨r, c1, c2⟩ := ih (pre ++ [x]) (by rw [List.append_assoc]; exact hp) (out ++ ls) (by rw [List.length_append, List.length_append, List.length_singleton]; omega)
          refine ⟨r, Ev.step (f := fun k => (sashref06_one.f k x.f0 x.f1.f0 x.f1.f1 x.f1.f2 x.f1.f3 x.f2 x.f3).bind fun bt => (if bt.2 = true then (if out.length + bt.1.length < 4398046511104 then (sashref06_Check.l0 k ([] : List S23) (allC c) (out ++ bt.1) ((allC c).length : Int) (wrap64 ((pre.length : Int) + 1))) else (none)) else (some (([] : List S23), 5, (pre.length : Int))))) (fun k => ?_) (Ev.bind b2 (ev_pos rfl (ev_pos ?_ ?_))), by rw [c2, Bool.true_and]⟩
          · simp only [sashref06_Check.l0]
            rw [if_pos hl, if_pos (by omega), if_pos hl, hr]
          · have : pre.length ≤ 20000 := by omega
            show out.length + ls.length < 4398046511104
            omega
          · rw [hu]
            exact c1
    obtain ⟨r, e1, e2⟩ := key (allC c) [] rfl [] (by simp)
    have e3 : Ev (fun k => sashref06_Check.f k c.f0 c.f1.f0 c.f1.f1 c.f1.f2 c.f1.f3 c.f2 c.f3) r := by
      unfold sashref06_Check.f
      have e := may_ev c hz
      rw [hm] at e
      exact Ev.bind (Ev.now ([] : List S23)) (Ev.bind e (ev_pos rfl (Ev.bind (all_cells _ c hz (Nat.le_refl _)) e1)))
    have e4 := Ev.bind (f := fun _ bt => some (bt.2.1 == 0)) e3 (Ev.now (r.2.1 == 0))
    rw [e2] at e4
    exact e4
end Go.Proofs.Ytfdmfgaiblfbhaa.P
namespace Go.Proofs.Ytfdmfgaiblfbhaa.P
open Go.RowKit Go.Proofs.YtfdmfgaiblfbhaaW.PrintWords Go.Proofs.YtfdmfgaiblfbhaaW.PrintLast Go.Proofs.YtfdmfgaiblfbhaaW.PrintMore
attribute [local go_sem] max2_int min2_int max_two min_two max_three min_three max_four min_four   -- for this text's walks alone
set_option linter.unusedVariables false
set_option linter.unusedSimpArgs false

/-! ### sashref08_Of: function 152 -/
mutual
def sashref08_Of.l0 : Nat → Int → Int → Int → Int → Int → Int → Int → Int → Int → Int → List (S26) → Option (Int)
 | 0, _, _, _, _, _, _, _, _, _, _, _ => none
 | k + 1, x1, x5, x14, x15, x1037000, x1037001, x1037002, x1037003, x1037004, x1037005, x1037006 => if x15 < x14 then (if 0 ≤ x15 then (if x15 < (x1037006.length : Int) then ((sashref08_Of.f k ((rd_T26 x1037006 x15).f0) ((rd_T26 x1037006 x15).f1.f0) ((rd_T26 x1037006 x15).f1.f1) ((rd_T26 x1037006 x15).f1.f2) ((rd_T26 x1037006 x15).f1.f3) ((rd_T26 x1037006 x15).f2) ((rd_T26 x1037006 x15).f3) x1).bind fun t1038 => ((sashref08_Along.f x1037000 x1037001 x1037002 x1037003 x1037004 x1037005 x1037006 x1).bind fun t1039 => (if t1039 = true then (if x15 > 0 then (sashref08_Of.l0 k x1 (wrap64 ((wrap64 (x5 + t1038)) + 1)) x14 (wrap64 (x15 + 1)) x1037000 x1037001 x1037002 x1037003 x1037004 x1037005 x1037006) else (sashref08_Of.l0 k x1 (wrap64 (x5 + t1038)) x14 (wrap64 (x15 + 1)) x1037000 x1037001 x1037002 x1037003 x1037004 x1037005 x1037006)) else (if t1038 > x5 then (sashref08_Of.l0 k x1 t1038 x14 (wrap64 (x15 + 1)) x1037000 x1037001 x1037002 x1037003 x1037004 x1037005 x1037006) else (sashref08_Of.l0 k x1 x5 x14 (wrap64 (x15 + 1)) x1037000 x1037001 x1037002 x1037003 x1037004 x1037005 x1037006))))) else (none)) else (none)) else (some x5)
def sashref08_Of.f : Nat → Int → Int → Int → Int → Int → Int → List (S26) → Int → Option (Int)
 | 0, _, _, _, _, _, _, _, _ => none
 | k + 1, a0_0, a0_1, a0_2, a0_3, a0_4, a0_5, l0_6, a1 => if (l0_6.length : Int) = 0 then (some 1) else (sashref08_Of.l0 k a1 0 (l0_6.length : Int) 0 a0_0 a0_1 a0_2 a0_3 a0_4 a0_5 l0_6)
end
end Go.Proofs.Ytfdmfgaiblfbhaa.P
/- The least size of a tree, by the code and by the reference: plain data. -/
namespace Go.Proofs.Ytfdmfgaiblfbhaa.P
open Go.RowKit Go.Proofs.YtfdmfgaiblfbhaaW.PrintWords Go.Proofs.YtfdmfgaiblfbhaaW.PrintLast Go.Proofs.YtfdmfgaiblfbhaaW.PrintMore
def alongK (ax k : Int) : Bool := (k == 2 && ax == 1) || (k == 3 && ax == 2)
theorem along_some (c : S26) (ax : Int) : least_Along.f c.f0 c.f1.f0 c.f1.f1 c.f1.f2 c.f1.f3 c.f2 c.f3 ax = some (alongK ax c.f0) := by
  unfold least_Along.f alongK
  by_cases h2 : c.f0 = 2
  · by_cases h1 : ax = 1
    · rw [if_pos h2, if_pos h1]; simp [h2, h1]
    · rw [if_pos h2, if_neg h1, if_neg (by omega)]; simp [h2, h1]
  · rw [if_neg h2]
    by_cases h3 : c.f0 = 3
    · rw [if_pos h3]; simp [h3]
    · rw [if_neg h3]; simp [h2, h3]
theorem ralong_some (c : S26) (ax : Int) : sashref08_Along.f c.f0 c.f1.f0 c.f1.f1 c.f1.f2 c.f1.f3 c.f2 c.f3 ax = some (alongK ax c.f0) := along_some c ax
mutual
def leastC (ax : Int) : S26 → Int
  | ⟨a, _, _, l⟩ => if a = 1 then 1 else if alongK ax a = true then ((l.length : Int) - 1) + sumL ax l else mostL ax 0 l
def sumL (ax : Int) : List S26 → Int
  | [] => 0
  | k :: ks => leastC ax k + sumL ax ks
def mostL (ax : Int) : Int → List S26 → Int
  | m, [] => m
  | m, k :: ks => mostL ax (mx m (leastC ax k)) ks
end
theorem leastC_eq (ax : Int) (c : S26) : leastC ax c = if c.f0 = 1 then 1 else if alongK ax c.f0 = true then ((c.f3.length : Int) - 1) + sumL ax c.f3 else mostL ax 0 c.f3 := by cases c; simp [leastC]
theorem sumL_nil (ax : Int) : sumL ax [] = 0 := by simp [sumL]
theorem sumL_cons (ax : Int) (k : S26) (ks : List S26) : sumL ax (k :: ks) = leastC ax k + sumL ax ks := by simp [sumL]
theorem sumL_app (ax : Int) (a b : List S26) : sumL ax (a ++ b) = sumL ax a + sumL ax b := by
  induction a with
  | nil => rw [List.nil_append, sumL_nil]; omega
  | cons x xs ih => rw [List.cons_append, sumL_cons, sumL_cons, ih]; omega
theorem mostL_nil (ax m : Int) : mostL ax m [] = m := by simp [mostL]
theorem mostL_cons (ax m : Int) (k : S26) (ks : List S26) : mostL ax m (k :: ks) = mostL ax (mx m (leastC ax k)) ks := by simp [mostL]
theorem mx_le {a b c : Int} (h : a ≤ c) (k : b ≤ c) : mx a b ≤ c := by unfold mx; split <;> omega
theorem le_mx1 (a b : Int) : a ≤ mx a b := by unfold mx; split <;> omega
theorem leastC_bd (ax : Int) : ∀ (N : Nat), (∀ c : S26, sz c ≤ N → -(sz c : Int) ≤ leastC ax c ∧ leastC ax c ≤ 2 * (sz c : Int) - 1) ∧
    (∀ l : List S26, szL l ≤ N → -(szL l : Int) ≤ sumL ax l ∧ sumL ax l ≤ 2 * (szL l : Int) - (l.length : Int)) ∧ (∀ l : List S26, szL l ≤ N → ∀ m : Int, m ≤ mostL ax m l ∧ ∀ u, m ≤ u → 2 * (szL l : Int) ≤ u → mostL ax m l ≤ u) := by
  intro N
  induction N with
  | zero =>
    refine ⟨fun c h => ?_, fun l h => ?_, fun l h => ?_⟩
    · rw [sz_eq] at h; omega
    · cases l with
      | nil => rw [sumL_nil, szL_nil]; simp
      | cons z zs => rw [szL_cons, sz_eq] at h; omega
    · cases l with
      | nil => intro m; rw [mostL_nil]; exact ⟨Int.le_refl _, fun u h _ => h⟩
      | cons z zs => rw [szL_cons, sz_eq] at h; omega
  | succ N ih =>
    have hC : ∀ c : S26, sz c ≤ N + 1 → -(sz c : Int) ≤ leastC ax c ∧ leastC ax c ≤ 2 * (sz c : Int) - 1 := by
      intro c h
      have hs := sz_eq c
      have h1 := ih.2.1 c.f3 (by omega)
      have h2 := ih.2.2 c.f3 (by omega) 0
      have h3 := h2.2 (2 * (szL c.f3 : Int)) (by omega) (Int.le_refl _)
      rw [leastC_eq]
      split
      · omega
      · split
        · omega
        · omega
    refine ⟨hC, fun l => ?_, fun l => ?_⟩
    · induction l with
      | nil => intro _; rw [sumL_nil, szL_nil]; simp
      | cons x xs ihl =>
        intro h
        rw [szL_cons] at h ⊢
        have h1 := hC x (by omega)
        have h2 := ihl (by omega)
        rw [sumL_cons, List.length_cons]
        omega
    · induction l with
      | nil => intro _ m; rw [mostL_nil]; exact ⟨Int.le_refl _, fun u h _ => h⟩
      | cons x xs ihl =>
        intro h m
        rw [szL_cons] at h ⊢
        have h1 := hC x (by omega)
        have h2 := ihl (by omega) (mx m (leastC ax x))
        rw [mostL_cons]
        refine ⟨Int.le_trans (le_mx1 m (leastC ax x)) h2.1, fun u hu hu2 => h2.2 u (mx_le hu (by omega)) (by omega)⟩
theorem least_ev (ax : Int) : ∀ (N : Nat) (c : S26), sz c ≤ N → N ≤ 1048576 → Ev (fun k => least_least.f k c.f0 c.f1.f0 c.f1.f1 c.f1.f2 c.f1.f3 c.f2 c.f3 ax) (leastC ax c) := by
  intro N
  induction N with
  | zero => intro c h _; rw [sz_eq] at h; omega
  | succ N ih =>
    intro c hc hN
    have hs := sz_eq c
    have hlen := szL_len c.f3
    rw [leastC_eq]
    by_cases h1 : c.f0 = 1
    · rw [if_pos h1]
      refine Ev.step (f := fun _ => some 1) (fun k => ?_) (Ev.now _)
      simp only [least_least.f]
      rw [if_pos h1]
    · rw [if_neg h1]
      have key : ∀ (rest pre : List S26), pre ++ rest = c.f3 → ∀ m : Int, Ev (fun k => least_least.l0 k ax (((c.f3.length : Int) - 1) + sumL ax pre) m c.f3 (c.f3.length : Int) (pre.length : Int) c.f0 c.f1.f0 c.f1.f1 c.f1.f2 c.f1.f3 c.f2 c.f3) (if alongK ax c.f0 = true then ((c.f3.length : Int) - 1) + sumL ax c.f3 else mostL ax m rest) := by
        intro rest
        induction rest with
        | nil =>
          intro pre hp m
          rw [List.append_nil] at hp
          subst hp
          rw [mostL_nil]
          refine Ev.step (f := fun _ => some (if alongK ax c.f0 = true then ((c.f3.length : Int) - 1) + sumL ax c.f3 else m)) (fun k => ?_) (Ev.now _)
          simp only [least_least.l0]
          rw [if_neg (by omega), along_some]
          simp only [Option.bind_some]
          split <;> rfl
        | cons x xs ihr =>
          intro pre hp m
          have hl : (pre.length : Int) < (c.f3.length : Int) := by rw [← hp, List.length_append, List.length_cons]; omega
          have hsum : szL c.f3 = szL pre + (sz x + szL xs) := by rw [← hp, szL_app, szL_cons]
          have hr : rd_T26 c.f3 (pre.length : Int) = x := by rw [← hp]; exact rd26_in pre x xs
          have hu : wrap64 ((pre.length : Int) + 1) = ((pre ++ [x]).length : Int) := up_in pre x xs (by rw [hp]; omega)
          have e2 := ihr (pre ++ [x]) (by rw [List.append_assoc]; exact hp) (mx m (leastC ax x))
          have b1 := (leastC_bd ax (sz x)).1 x (Nat.le_refl _)
          have b2 := (leastC_bd ax (szL pre)).2.1 pre (Nat.le_refl _)
          have hw : wrap64 ((((c.f3.length : Int) - 1) + sumL ax pre) + leastC ax x) = ((c.f3.length : Int) - 1) + sumL ax (pre ++ [x]) := by
            rw [wq (by omega) (by omega), sumL_app, sumL_cons, sumL_nil]
            omega
          rw [mostL_cons]
          refine Ev.step (f := fun k => (least_least.f k x.f0 x.f1.f0 x.f1.f1 x.f1.f2 x.f1.f3 x.f2 x.f3 ax).bind fun t => least_least.l0 k ax (wrap64 ((((c.f3.length : Int) - 1) + sumL ax pre) + t)) (mx m t) c.f3 (c.f3.length : Int) (wrap64 ((pre.length : Int) + 1)) c.f0 c.f1.f0 c.f1.f1 c.f1.f2 c.f1.f3 c.f2 c.f3) (fun k => ?_) (Ev.bind (ih x (by omega) (by omega)) ?_)
          · simp only [least_least.l0]
            rw [if_pos hl, if_pos (by omega), if_pos hl, hr]
          · rw [hu, hw]
            exact e2
      have e := key c.f3 [] rfl 0
      rw [sumL_nil, Int.add_zero] at e
      refine Ev.step (fun k => ?_) e
      simp only [least_least.f]
      rw [if_neg h1, wq (by omega) (by omega)]
      rfl
end Go.Proofs.Ytfdmfgaiblfbhaa.P
namespace Go.Proofs.Ytfdmfgaiblfbhaa.P
open Go.RowKit Go.Proofs.YtfdmfgaiblfbhaaW.PrintWords Go.Proofs.YtfdmfgaiblfbhaaW.PrintLast Go.Proofs.YtfdmfgaiblfbhaaW.PrintMore
attribute [local go_sem] max2_int min2_int max_two min_two max_three min_three max_four min_four   -- for this text's walks alone
set_option linter.unusedVariables false
set_option linter.unusedSimpArgs false

/-! ### sashref08_Least: function 94 -/
def sashref08_Least.f (k : Nat) (a0_0 : Int) (a0_1 : Int) (a0_2 : Int) (a0_3 : Int) (a0_4 : Int) (a0_5 : Int) (l0_6 : List (S26)) (a1 : Int) : Option (Int) := if a1 < 1 then (some 0) else (if a1 > 2 then (some 0) else ((sashref05_May.f k a0_0 a0_1 a0_2 a0_3 a0_4 a0_5 l0_6).bind fun t1041 => (if t1041 = true then ((sashref08_Of.f k a0_0 a0_1 a0_2 a0_3 a0_4 a0_5 l0_6 a1).bind fun t1042 => (some t1042)) else (some 0))))
end Go.Proofs.Ytfdmfgaiblfbhaa.P
namespace Go.Proofs.Ytfdmfgaiblfbhaa.P
open Go.RowKit Go.Proofs.YtfdmfgaiblfbhaaW.PrintWords Go.Proofs.YtfdmfgaiblfbhaaW.PrintLast Go.Proofs.YtfdmfgaiblfbhaaW.PrintMore
attribute [local go_sem] max2_int min2_int max_two min_two max_three min_three max_four min_four   -- for this text's walks alone
set_option linter.unusedVariables false
set_option linter.unusedSimpArgs false

/-! ### sashref08_Gives: function 95 -/
def sashref08_Gives.j0 : Nat → Int → Bool → Int → Int → Int → Int → Int → Int → List (S26) → Option (Int)
 | 0, _, _, _, _, _, _, _, _, _ => none
 | k + 1, x1, x15, x1044000, x1044001, x1044002, x1044003, x1044004, x1044005, x1044006 => if x15 = true then (some 0) else ((sashref08_Size.f x1044001 x1044002 x1044003 x1044004 x1).bind fun t1045 => ((sashref08_Of.f k x1044000 x1044001 x1044002 x1044003 x1044004 x1044005 x1044006 x1).bind fun t1046 => (some (wrap64 (t1045 - t1046)))))
def sashref08_Gives.f (k : Nat) (a0_0 : Int) (a0_1 : Int) (a0_2 : Int) (a0_3 : Int) (a0_4 : Int) (a0_5 : Int) (l0_6 : List (S26)) (a1 : Int) : Option (Int) := if a1 < 1 then (sashref08_Gives.j0 k a1 true a0_0 a0_1 a0_2 a0_3 a0_4 a0_5 l0_6) else (if a1 > 2 then (sashref08_Gives.j0 k a1 true a0_0 a0_1 a0_2 a0_3 a0_4 a0_5 l0_6) else ((sashref06_Tiles.f k a0_0 a0_1 a0_2 a0_3 a0_4 a0_5 l0_6).bind fun t1044 => (sashref08_Gives.j0 k a1 (!t1044) a0_0 a0_1 a0_2 a0_3 a0_4 a0_5 l0_6)))
def sashref08_Gives.T3 : Bool × List (List Nat × List Nat) := (true, [([], []), ([0], [0]), ([], []), ([1, 2], [1, 2]), ([], []), ([], []), ([4, 5, 3], [4, 5]), ([3, 6], [3, 6]), ([7, 6, 0, 1, 2, 3, 4, 5, 6, 7], [7])])
def sashref08_Gives.B3 : List Nat := [0, 1, 0, 7, 0, 0, 63, 127, 255]
end Go.Proofs.Ytfdmfgaiblfbhaa.P
namespace Go.Proofs.Ytfdmfgaiblfbhaa.P
open Go.RowKit Go.Proofs.YtfdmfgaiblfbhaaW.PrintWords Go.Proofs.YtfdmfgaiblfbhaaW.PrintLast Go.Proofs.YtfdmfgaiblfbhaaW.PrintMore
attribute [local go_sem] max2_int min2_int max_two min_two max_three min_three max_four min_four   -- for this text's walks alone
set_option linter.unusedVariables false
set_option linter.unusedSimpArgs false

/-! ### least_Fits: function 96 -/
def least_Fits.f (k : Nat) (a0_0 : Int) (a0_1 : Int) (a0_2 : Int) (a0_3 : Int) (a0_4 : Int) (a0_5 : Int) (l0_6 : List (S26)) (a1 : Int) (a2 : Int) : Option (Bool) := (cell_May.f (([(⟨a0_0, (⟨a0_1, a0_2, a0_3, a0_4⟩ : S23), a0_5, l0_6⟩ : S26)] : List (S26)))).bind fun t1105 => (if t1105 = true then ((least_least.f k a0_0 a0_1 a0_2 a0_3 a0_4 a0_5 l0_6 1).bind fun t1106 => (if a1 ≥ t1106 then ((least_least.f k a0_0 a0_1 a0_2 a0_3 a0_4 a0_5 l0_6 2).bind fun t1107 => (if a2 ≥ t1107 then (if a1 ≤ (wrap64 (10000 - a0_1)) then (some (decide (a2 ≤ (wrap64 (10000 - a0_2))))) else (some false)) else (some false))) else (some false))) else (some false))
end Go.Proofs.Ytfdmfgaiblfbhaa.P
namespace Go.Proofs.Ytfdmfgaiblfbhaa.P
open Go.RowKit Go.Proofs.YtfdmfgaiblfbhaaW.PrintWords Go.Proofs.YtfdmfgaiblfbhaaW.PrintLast Go.Proofs.YtfdmfgaiblfbhaaW.PrintMore
attribute [local go_sem] max2_int min2_int max_two min_two max_three min_three max_four min_four   -- for this text's walks alone
set_option linter.unusedVariables false
set_option linter.unusedSimpArgs false

/-! ### sashref08_Fits: function 97 -/
def sashref08_Fits.f (k : Nat) (a0_0 : Int) (a0_1 : Int) (a0_2 : Int) (a0_3 : Int) (a0_4 : Int) (a0_5 : Int) (l0_6 : List (S26)) (a1 : Int) (a2 : Int) : Option (Bool) := (sashref05_May.f k a0_0 a0_1 a0_2 a0_3 a0_4 a0_5 l0_6).bind fun t1052 => (if t1052 = true then ((sashref08_Of.f k a0_0 a0_1 a0_2 a0_3 a0_4 a0_5 l0_6 1).bind fun t1053 => (if a1 ≥ t1053 then (if a1 ≤ (wrap64 (10000 - a0_1)) then ((sashref08_Of.f k a0_0 a0_1 a0_2 a0_3 a0_4 a0_5 l0_6 2).bind fun t1054 => (if a2 ≥ t1054 then (some (decide (a2 ≤ (wrap64 (10000 - a0_2))))) else (some false))) else (some false)) else (some false))) else (some false))
end Go.Proofs.Ytfdmfgaiblfbhaa.P
/- What a tree can give, its least size, whether a size fits it, by the code and by the reference: plain data. The document's example of chapter 08 holds. -/
namespace Go.Proofs.Ytfdmfgaiblfbhaa.P
open Go.RowKit Go.Proofs.YtfdmfgaiblfbhaaW.PrintWords Go.Proofs.YtfdmfgaiblfbhaaW.PrintLast Go.Proofs.YtfdmfgaiblfbhaaW.PrintMore
theorem Ev.unique {α : Type} {g : Nat → Option α} {a b : α} (h : Ev g a) (k : Ev g b) : a = b := by
  obtain ⟨n, hn⟩ := h
  obtain ⟨m, hm⟩ := k
  have e := (hn (max n m) (by omega)).symm.trans (hm (max n m) (by omega))
  exact Option.some.inj e
def sizeR (ax : Int) (r : S23) : Int := if ax = 1 then r.f2 else if ax = 2 then r.f3 else 0
theorem size_some (r : S23) (ax : Int) : least_Size.f r.f0 r.f1 r.f2 r.f3 ax = some (sizeR ax r) := by
  unfold least_Size.f sizeR
  by_cases h1 : ax = 1
  · rw [if_neg (by omega), if_pos h1, if_pos h1]
  · by_cases h2 : ax = 2
    · rw [if_pos h2, if_neg h1, if_pos h2]
    · rw [if_neg h2, if_neg h1, if_neg h1, if_neg h2]
theorem rsize_some (r : S23) (ax : Int) : sashref08_Size.f r.f0 r.f1 r.f2 r.f3 ax = some (sizeR ax r) := by
  unfold sashref08_Size.f sizeR
  split
  · rfl
  · split <;> rfl
theorem may1_some (c : S26) (hz : sz c ≤ 1048576) : cell_May.f ([(⟨c.f0, (⟨c.f1.f0, c.f1.f1, c.f1.f2, c.f1.f3⟩ : S23), c.f2, c.f3⟩ : S26)] : List S26) = some (mayC c) := by
  rw [eta26]
  unfold cell_May.f
  rw [if_pos (by simp [hz])]
  simp
theorem tiles1_some (c : S26) (hz : sz c ≤ 1048576) : tile_Tiles.f ([(⟨c.f0, (⟨c.f1.f0, c.f1.f1, c.f1.f2, c.f1.f3⟩ : S23), c.f2, c.f3⟩ : S26)] : List S26) = some (tilesC c) := by
  rw [eta26]
  unfold tile_Tiles.f
  rw [if_pos (by simp [hz])]
  simp
noncomputable def givesC (ax : Int) (c : S26) : Int := if (ax = 1 ∨ ax = 2) ∧ tilesC c = true then wrap64 (sizeR ax c.f1 - leastC ax c) else 0
def lstC (ax : Int) (c : S26) : Int := if (ax = 1 ∨ ax = 2) ∧ mayC c = true then leastC ax c else 0
def fitsC (c : S26) (w h : Int) : Bool := mayC c && (decide (w ≥ leastC 1 c) && (decide (h ≥ leastC 2 c) && (decide (w ≤ wrap64 (10000 - c.f1.f0)) && decide (h ≤ wrap64 (10000 - c.f1.f1)))))
theorem gives_ev (c : S26) (hz : sz c ≤ 1048576) (ax : Int) : Ev (fun k => least_Gives.f k c.f0 c.f1.f0 c.f1.f1 c.f1.f2 c.f1.f3 c.f2 c.f3 ax) (givesC ax c) := by
  have no : Ev (fun k => least_Gives.j0 k ax true c.f0 c.f1.f0 c.f1.f1 c.f1.f2 c.f1.f3 c.f2 c.f3) 0 := by
    refine Ev.step (f := fun _ => some 0) (fun k => ?_) (Ev.now _)
    simp only [least_Gives.j0]
    rw [if_pos trivial]
  unfold givesC
  by_cases hax : ax = 1 ∨ ax = 2
  · have ha : least_axes.f ax = some true := by
      unfold least_axes.f
      rcases hax with rfl | rfl <;> rfl
    cases ht : tilesC c with
    | false =>
      rw [if_neg (by simp)]
      refine Ev.congr (f := fun k => least_Gives.j0 k ax true c.f0 c.f1.f0 c.f1.f1 c.f1.f2 c.f1.f3 c.f2 c.f3) (fun k => ?_) no
      unfold least_Gives.f
      rw [ha]
      simp only [Option.bind_some, if_true]
      rw [tiles1_some c hz, ht]
      rfl
    | true =>
      rw [if_pos ⟨hax, rfl⟩]
      refine Ev.congr (f := fun k => least_Gives.j0 k ax false c.f0 c.f1.f0 c.f1.f1 c.f1.f2 c.f1.f3 c.f2 c.f3) (fun k => ?_) (Ev.step (f := fun k => (least_least.f k c.f0 c.f1.f0 c.f1.f1 c.f1.f2 c.f1.f3 c.f2 c.f3 ax).bind fun t => some (wrap64 (sizeR ax c.f1 - t))) (fun k => ?_) (Ev.bind (least_ev ax (sz c) c (Nat.le_refl _) hz) (Ev.now _)))
      · unfold least_Gives.f
        rw [ha]
        simp only [Option.bind_some, if_true]
        rw [tiles1_some c hz, ht]
        rfl
      · simp only [least_Gives.j0]
        rw [if_neg (by simp), size_some c.f1 ax]
        rfl
  · rw [if_neg (fun h => hax h.1)]
    refine Ev.congr (f := fun k => least_Gives.j0 k ax true c.f0 c.f1.f0 c.f1.f1 c.f1.f2 c.f1.f3 c.f2 c.f3) (fun k => ?_) no
    unfold least_Gives.f least_axes.f
    rw [if_neg (fun h => hax (.inl h)), show (ax == 2) = false from by simp; exact fun h => hax (.inr h)]
    simp only [Option.bind_some, Bool.false_eq_true, if_false]
theorem lst_ev (c : S26) (hz : sz c ≤ 1048576) (ax : Int) : Ev (fun k => least_Least.f k c.f0 c.f1.f0 c.f1.f1 c.f1.f2 c.f1.f3 c.f2 c.f3 ax) (lstC ax c) := by
  unfold lstC least_Least.f
  by_cases hax : ax = 1 ∨ ax = 2
  · have ha : least_axes.f ax = some true := by
      unfold least_axes.f
      rcases hax with rfl | rfl <;> rfl
    rw [ha, may1_some c hz]
    simp only [Option.bind_some, if_true]
    cases hm : mayC c with
    | false =>
      rw [if_neg (by simp)]
      exact ev_neg (by simp) (Ev.now _)
    | true =>
      rw [if_pos ⟨hax, rfl⟩]
      exact ev_pos rfl (Ev.bind (least_ev ax (sz c) c (Nat.le_refl _) hz) (Ev.now _))
  · rw [if_neg (fun h => hax h.1)]
    unfold least_axes.f
    rw [if_neg (fun h => hax (.inl h)), show (ax == 2) = false from by simp; exact fun h => hax (.inr h)]
    simp only [Option.bind_some, Bool.false_eq_true, if_false]
    exact Ev.now _
def tree08 : S26 := ⟨2, ⟨0, 0, 7, 2⟩, 0, [⟨1, ⟨0, 0, 3, 2⟩, 1, []⟩, ⟨1, ⟨4, 0, 3, 2⟩, 2, []⟩]⟩
theorem tree08_tiles : tilesC tree08 = true :=
  Ev.unique (ref_tiles_ev tree08 (by decide +kernel)) (Ev.of (k := 60) (fun k => sashref06_Tiles.mono _ _ _ _ _ _ _ k) (by decide +kernel))
theorem awake08 : Ev (fun k => sashlaw08_awake.f k) true := by
  unfold sashlaw08_awake.f
  simp only [Option.bind_some]
  have l1 : lstC 1 tree08 = 3 := by decide +kernel
  have l2 : lstC 2 tree08 = 1 := by decide +kernel
  have l3 : leastC 1 tree08 = 3 := by decide +kernel
  have l4 : givesC 1 tree08 = 4 := by
    unfold givesC
    rw [if_pos ⟨.inl rfl, tree08_tiles⟩, l3]
    decide +kernel
  have e1 := lst_ev tree08 (by decide +kernel) 1
  have e2 := lst_ev tree08 (by decide +kernel) 2
  have e3 := gives_ev tree08 (by decide +kernel) 1
  rw [l1] at e1
  rw [l2] at e2
  rw [l4] at e3
  exact Ev.bind e1 (ev_pos rfl (Ev.bind e2 (ev_pos rfl (Ev.bind e3 (Ev.now _)))))
end Go.Proofs.Ytfdmfgaiblfbhaa.P
/- The reference's count and sameness of any tree that can be read: no bound on its size. -/
namespace Go.Proofs.Ytfdmfgaiblfbhaa.P
open Go.RowKit Go.Proofs.YtfdmfgaiblfbhaaW.PrintWords Go.Proofs.YtfdmfgaiblfbhaaW.PrintLast Go.Proofs.YtfdmfgaiblfbhaaW.PrintMore
theorem count_any (L : Int) : ∀ (N : Nat) (c : S26), wfn26 N c → ∃ n : Int, Ev (fun k => sashref05_count.f k c.f0 c.f1.f0 c.f1.f1 c.f1.f2 c.f1.f3 c.f2 c.f3 L) n := by
  intro N
  induction N with
  | zero => intro c h; exact h.elim
  | succ N ih =>
    intro c hc
    have hl0 := hc.2.2.2.1
    have hk := hc.2.2.2.2
    have key : ∀ (rest pre : List S26), pre ++ rest = c.f3 → ∀ acc : Int, ∃ n : Int, Ev (fun k => sashref05_count.l0 k L acc (c.f3.length : Int) (pre.length : Int) c.f0 c.f1.f0 c.f1.f1 c.f1.f2 c.f1.f3 c.f2 c.f3) n := by
      intro rest
      induction rest with
      | nil =>
        intro pre hp acc
        rw [List.append_nil] at hp
        refine ⟨acc, Ev.step (f := fun _ => some acc) (fun k => ?_) (Ev.now _)⟩
        simp only [sashref05_count.l0]
        rw [if_neg (by rw [hp]; omega)]
      | cons x xs ihr =>
        intro pre hp acc
        have hl : (pre.length : Int) < (c.f3.length : Int) := by rw [← hp, List.length_append, List.length_cons]; omega
        by_cases hL : acc > L
        · refine ⟨acc, Ev.step (f := fun _ => some acc) (fun k => ?_) (Ev.now _)⟩
          simp only [sashref05_count.l0]
          rw [if_pos hl, if_pos hL]
        · obtain ⟨n1, e1⟩ := ih x (hk x (by rw [← hp]; simp))
          obtain ⟨n, e2⟩ := ihr (pre ++ [x]) (by rw [List.append_assoc]; exact hp) (wrap64 (acc + n1))
          refine ⟨n, ?_⟩
          have hr : rd_T26 c.f3 (pre.length : Int) = x := by rw [← hp]; exact rd26_in pre x xs
          have hu : wrap64 ((pre.length : Int) + 1) = ((pre ++ [x]).length : Int) := up_in pre x xs (by rw [hp]; omega)
          refine Ev.step (f := fun k => (sashref05_count.f k x.f0 x.f1.f0 x.f1.f1 x.f1.f2 x.f1.f3 x.f2 x.f3 L).bind fun t => sashref05_count.l0 k L (wrap64 (acc + t)) (c.f3.length : Int) (wrap64 ((pre.length : Int) + 1)) c.f0 c.f1.f0 c.f1.f1 c.f1.f2 c.f1.f3 c.f2 c.f3) (fun k => ?_) (Ev.bind e1 ?_)
          · simp only [sashref05_count.l0]
            rw [if_pos hl, if_neg hL, if_pos (by omega), if_pos hl, hr]
          · rw [hu]
            exact e2
    obtain ⟨n, e⟩ := key c.f3 [] rfl 1
    refine ⟨n, Ev.step (fun k => ?_) e⟩
    simp only [sashref05_count.f]
    rfl
theorem great_any (c : S26) (h : wf26 c) : ∃ b : Bool, Ev (fun k => sashref05_Great.f k c.f0 c.f1.f0 c.f1.f1 c.f1.f2 c.f1.f3 c.f2 c.f3) b := by
  obtain ⟨N, hN⟩ := h
  obtain ⟨n, e⟩ := count_any 200 N c hN
  refine ⟨decide (n > 200), ?_⟩
  unfold sashref05_Great.f
  exact Ev.bind e (Ev.now _)
end Go.Proofs.Ytfdmfgaiblfbhaa.P
/- LeastPaths, the plain law: the size of any rectangle, whether a cell is along any axis, and how many of a path are, are the reference's. No condition. -/
namespace Go.Proofs.Ytfdmfgaiblfbhaa.Pure
open Go.RowKit Go.Proofs.Ytfdmfgaiblfbhaa.P Go.Proofs.YtfdmfgaiblfbhaaW.PrintWords Go.Proofs.YtfdmfgaiblfbhaaW.PrintLast Go.Proofs.YtfdmfgaiblfbhaaW.PrintMore
def pathC (ax : Int) (c : S26) : List Int → Int
  | [] => 0
  | i :: is => (if alongK ax c.f0 = true then 1 else 0) + (if i < 0 ∨ i ≥ (c.f3.length : Int) then 0 else pathC ax (rd_T26 c.f3 i) is)
theorem path_bd (ax : Int) : ∀ (is : List Int) (c : S26), 0 ≤ pathC ax c is ∧ pathC ax c is ≤ (is.length : Int) := by
  intro is
  induction is with
  | nil => intro c; simp [pathC]
  | cons i is ih =>
    intro c
    have h := ih (rd_T26 c.f3 i)
    simp only [pathC, List.length_cons]
    split <;> split <;> omega
theorem rd_path (pre : List Int) (p : Int) (rest : List Int) : rd (pre ++ p :: rest) (pre.length : Int) = p := by
  simp [rd, List.getD_eq_getElem?_getD]
theorem path_ev (ax : Int) (path : List Int) (hp : path.length ≤ 50) : ∀ (rest pre : List Int), pre ++ rest = path → ∀ (c : S26) (n : Int), 0 ≤ n → n ≤ (pre.length : Int) → Ev (fun k => least_Path.l0 k ax n path (path.length : Int) (pre.length : Int) c.f0 c.f1.f0 c.f1.f1 c.f1.f2 c.f1.f3 c.f2 c.f3) (n + pathC ax c rest) := by
  intro rest
  induction rest with
  | nil =>
    intro pre hpp c n h0 h1
    rw [List.append_nil] at hpp
    simp only [pathC, Int.add_zero]
    refine Ev.step (f := fun _ => some n) (fun k => ?_) (Ev.now _)
    simp only [least_Path.l0]
    rw [if_neg (by rw [hpp]; omega)]
  | cons i is ih =>
    intro pre hpp c n h0 h1
    have hll : path.length = pre.length + (is.length + 1) := by rw [← hpp, List.length_append, List.length_cons]
    have hlt : (pre.length : Int) < (path.length : Int) := by omega
    have hr : rd path (pre.length : Int) = i := by rw [← hpp]; exact rd_path pre i is
    have hu : wrap64 ((pre.length : Int) + 1) = ((pre ++ [i]).length : Int) := up_in pre i is (by rw [hpp]; omega)
    have hl1 : ((pre ++ [i]).length : Int) = (pre.length : Int) + 1 := by simp
    simp only [pathC]
    cases ha : alongK ax c.f0 with
    | true =>
      have hw : wrap64 (n + 1) = n + 1 := wq (by omega) (by omega)
      simp only [if_true]
      by_cases hi0 : i < 0
      · rw [if_pos (.inl hi0)]
        refine Ev.step (f := fun _ => some (n + (1 + 0))) (fun k => ?_) (Ev.now _)
        simp only [least_Path.l0]
        rw [if_pos hlt, if_pos (by omega), if_pos hlt, along_some, ha]
        simp only [Option.bind_some, if_true]
        rw [hr, if_pos hi0, hw]
        congr 1
      · by_cases hi1 : i ≥ (c.f3.length : Int)
        · rw [if_pos (.inr hi1)]
          refine Ev.step (f := fun _ => some (n + (1 + 0))) (fun k => ?_) (Ev.now _)
          simp only [least_Path.l0]
          rw [if_pos hlt, if_pos (by omega), if_pos hlt, along_some, ha]
          simp only [Option.bind_some, if_true]
          rw [hr, if_neg hi0, if_pos hi1, hw]
          congr 1
        · rw [if_neg (fun h => h.elim hi0 hi1)]
          have e := ih (pre ++ [i]) (by rw [List.append_assoc]; exact hpp) (rd_T26 c.f3 i) (n + 1) (by omega) (by omega)
          rw [show n + (1 + pathC ax (rd_T26 c.f3 i) is) = n + 1 + pathC ax (rd_T26 c.f3 i) is from by omega]
          refine Ev.step (fun k => ?_) e
          simp only [least_Path.l0]
          rw [if_pos hlt, if_pos (by omega), if_pos hlt, along_some, ha]
          simp only [Option.bind_some, if_true]
          rw [hr, if_neg hi0, if_neg hi1, if_pos (by omega), if_pos (by omega), hu, hw]
    | false =>
      simp only [Bool.false_eq_true, if_false, Int.zero_add]
      by_cases hi0 : i < 0
      · rw [if_pos (.inl hi0), Int.add_zero]
        refine Ev.step (f := fun _ => some n) (fun k => ?_) (Ev.now _)
        simp only [least_Path.l0]
        rw [if_pos hlt, if_pos (by omega), if_pos hlt, along_some, ha]
        simp only [Option.bind_some, Bool.false_eq_true, if_false]
        rw [hr, if_pos hi0]
      · by_cases hi1 : i ≥ (c.f3.length : Int)
        · rw [if_pos (.inr hi1), Int.add_zero]
          refine Ev.step (f := fun _ => some n) (fun k => ?_) (Ev.now _)
          simp only [least_Path.l0]
          rw [if_pos hlt, if_pos (by omega), if_pos hlt, along_some, ha]
          simp only [Option.bind_some, Bool.false_eq_true, if_false]
          rw [hr, if_neg hi0, if_pos hi1]
        · rw [if_neg (fun h => h.elim hi0 hi1)]
          have e := ih (pre ++ [i]) (by rw [List.append_assoc]; exact hpp) (rd_T26 c.f3 i) n (by omega) (by omega)
          refine Ev.step (fun k => ?_) e
          simp only [least_Path.l0]
          rw [if_pos hlt, if_pos (by omega), if_pos hlt, along_some, ha]
          simp only [Option.bind_some, Bool.false_eq_true, if_false]
          rw [hr, if_neg hi0, if_neg hi1, if_pos (by omega), if_pos (by omega), hu]
theorem rpath_ev (ax : Int) : ∀ (is : List Int), is.length ≤ 50 → ∀ c : S26, Ev (fun k => sashref08_Path.f k c.f0 c.f1.f0 c.f1.f1 c.f1.f2 c.f1.f3 c.f2 c.f3 ax is) (pathC ax c is) := by
  intro is
  induction is with
  | nil =>
    intro _ c
    refine Ev.step (f := fun _ => some 0) (fun k => ?_) (Ev.now _)
    simp only [sashref08_Path.f]
    rw [if_pos (by simp)]
  | cons i is ih =>
    intro hl c
    rw [List.length_cons] at hl
    have h0 : ((i :: is).length : Int) = (is.length : Int) + 1 := by simp
    have hr : rd (i :: is) 0 = i := rfl
    have hb := path_bd ax is (rd_T26 c.f3 i)
    have e := ih (by omega) (rd_T26 c.f3 i)
    simp only [pathC]
    cases ha : alongK ax c.f0 with
    | true =>
      simp only [if_true]
      by_cases hi0 : i < 0
      · rw [if_pos (.inl hi0), Int.add_zero]
        refine Ev.step (f := fun _ => some 1) (fun k => ?_) (Ev.now _)
        simp only [sashref08_Path.f]
        rw [if_neg (by omega), ralong_some, ha]
        simp only [Option.bind_some, if_true]
        rw [if_pos (by omega), hr, if_pos hi0]
      · by_cases hi1 : i ≥ (c.f3.length : Int)
        · rw [if_pos (.inr hi1), Int.add_zero]
          refine Ev.step (f := fun _ => some 1) (fun k => ?_) (Ev.now _)
          simp only [sashref08_Path.f]
          rw [if_neg (by omega), ralong_some, ha]
          simp only [Option.bind_some, if_true]
          rw [if_pos (by omega), hr, if_neg hi0, if_pos hi1]
        · rw [if_neg (fun h => h.elim hi0 hi1)]
          have e2 := Ev.bind (f := fun _ t => some (wrap64 (1 + t))) e (Ev.now _)
          rw [wq (x := 1 + pathC ax (rd_T26 c.f3 i) is) (by omega) (by omega)] at e2
          refine Ev.step (fun k => ?_) e2
          simp only [sashref08_Path.f]
          rw [if_neg (by omega), ralong_some, ha]
          simp only [Option.bind_some, if_true]
          rw [if_pos (by omega), hr, if_neg hi0, if_neg hi1, if_pos (by omega), if_pos (by omega), if_pos (by omega)]
          rfl
    | false =>
      simp only [Bool.false_eq_true, if_false, Int.zero_add]
      by_cases hi0 : i < 0
      · rw [if_pos (.inl hi0)]
        refine Ev.step (f := fun _ => some 0) (fun k => ?_) (Ev.now _)
        simp only [sashref08_Path.f]
        rw [if_neg (by omega), ralong_some, ha]
        simp only [Option.bind_some, Bool.false_eq_true, if_false]
        rw [if_pos (by omega), hr, if_pos hi0]
      · by_cases hi1 : i ≥ (c.f3.length : Int)
        · rw [if_pos (.inr hi1)]
          refine Ev.step (f := fun _ => some 0) (fun k => ?_) (Ev.now _)
          simp only [sashref08_Path.f]
          rw [if_neg (by omega), ralong_some, ha]
          simp only [Option.bind_some, Bool.false_eq_true, if_false]
          rw [if_pos (by omega), hr, if_neg hi0, if_pos hi1]
        · rw [if_neg (fun h => h.elim hi0 hi1)]
          have e2 := Ev.bind (f := fun _ t => some (wrap64 (0 + t))) e (Ev.now _)
          rw [wq (x := 0 + pathC ax (rd_T26 c.f3 i) is) (by omega) (by omega), Int.zero_add] at e2
          refine Ev.step (fun k => ?_) e2
          simp only [sashref08_Path.f]
          rw [if_neg (by omega), ralong_some, ha]
          simp only [Option.bind_some, Bool.false_eq_true, if_false]
          rw [if_pos (by omega), hr, if_neg hi0, if_neg hi1, if_pos (by omega), if_pos (by omega), if_pos (by omega)]
          rfl
theorem LeastPaths : ∀ (a0 : S26) (a1 : S23) (a2 : Int) (a3 : List Int), wf26 a0 → wf23 a1 → U8 a2 → a3.length ≤ 9223372036854775807 → (∀ x, x ∈ a3 → I64 x) → ∃ k, sashlaw08_LeastPaths.f k a0.f0 a0.f1.f0 a0.f1.f1 a0.f1.f2 a0.f1.f3 a0.f2 a0.f3 a1.f0 a1.f1 a1.f2 a1.f3 a2 a3 = some true := by
  intro c r ax path hw _ _ _ _
  refine Ev.rounds (g := fun k => sashlaw08_LeastPaths.f k c.f0 c.f1.f0 c.f1.f1 c.f1.f2 c.f1.f3 c.f2 c.f3 r.f0 r.f1 r.f2 r.f3 ax path) ?_
  unfold sashlaw08_LeastPaths.f
  have aw : Ev (fun k => (sashlaw08_awake.f k).bind fun t => some t) true := Ev.bind awake08 (Ev.now _)
  have big : Ev (fun k => sashlaw08_LeastPaths.j0 k ax path true c.f0 c.f1.f0 c.f1.f1 c.f1.f2 c.f1.f3 c.f2 c.f3 r.f0 r.f1 r.f2 r.f3) true := by
    refine Ev.step (fun k => ?_) aw
    simp only [sashlaw08_LeastPaths.j0]
    rw [if_pos trivial]
  obtain ⟨g, eg⟩ := great_any c hw
  refine Ev.bind eg ?_
  cases g with
  | true => exact ev_pos rfl big
  | false =>
    refine ev_neg (by simp) ?_
    by_cases h50 : (path.length : Int) > 50
    · rw [decide_eq_true h50]
      exact big
    · rw [decide_eq_false h50]
      have e1 := path_ev ax path (by omega) path [] rfl c 0 (Int.le_refl _) (by simp)
      rw [Int.zero_add] at e1
      have e2 := rpath_ev ax path (by omega) c
      refine Ev.step (f := fun k => (least_Path.f k c.f0 c.f1.f0 c.f1.f1 c.f1.f2 c.f1.f3 c.f2 c.f3 ax path).bind fun t1 => (sashref08_Path.f k c.f0 c.f1.f0 c.f1.f1 c.f1.f2 c.f1.f3 c.f2 c.f3 ax path).bind fun t2 => (if t1 = t2 then ((sashlaw08_awake.f k).bind fun t => (some t)) else (some false))) (fun k => ?_) (Ev.bind e1 (Ev.bind e2 (ev_pos rfl aw)))
      simp only [sashlaw08_LeastPaths.j0]
      rw [if_neg (by simp), size_some r ax, rsize_some r ax, along_some, ralong_some]
      simp only [Option.bind_some, beq_self_eq_true, if_true]
end Go.Proofs.Ytfdmfgaiblfbhaa.Pure
/- Facts on the program's head, each once: the head's text as a row of signs, its words; what follows of them. -/
namespace Go.Proofs.Ytfdmfgaiblfbhaa.P
open Go.RowKit
def headSigns : List Char := [104, 97, 114, 110, 101, 115, 115, 32, 57, 48, 98, 52, 50, 100, 98, 100, 99, 50, 52, 54, 55, 51, 50, 51, 56, 57, 50, 48, 100, 50, 50, 98, 56, 57, 53, 102, 48, 48, 55, 48, 53, 101, 102, 48, 53, 53, 102, 54, 54, 55, 97, 57, 54, 56, 100, 50, 56, 97, 57, 52, 55, 52, 56, 57, 49, 49, 48, 97, 48, 101, 53, 55, 32, 99, 117, 116, 32, 97, 116, 32, 115, 97, 115, 104, 47, 115, 97, 115, 104, 108, 97, 119, 48, 55, 46, 70, 108, 97, 116, 78, 101, 120, 116, 115, 32, 115, 97, 115, 104, 47, 115, 97, 115, 104, 108, 97, 119, 48, 55, 46, 70, 108, 97, 116, 76, 105, 115, 116, 115, 32, 115, 97, 115, 104, 47, 115, 97, 115, 104, 108, 97, 119, 48, 52, 46, 82, 101, 99, 116, 67, 117, 116, 115, 32, 115, 97, 115, 104, 47, 115, 97, 115, 104, 108, 97, 119, 48, 57, 46, 65, 100, 106, 117, 115, 116, 83, 104, 97, 114, 101, 115, 32, 115, 97, 115, 104, 47, 115, 97, 115, 104, 108, 97, 119, 48, 57, 46, 65, 100, 106, 117, 115, 116, 69, 118, 101, 110, 115, 32, 115, 97, 115, 104, 47, 115, 97, 115, 104, 108, 97, 119, 49, 54, 46, 83, 112, 114, 101, 97, 100, 83, 105, 122, 101, 115, 32, 115, 97, 115, 104, 47, 115, 97, 115, 104, 108, 97, 119, 48, 55, 46, 70, 108, 97, 116, 67, 104, 97, 110, 103, 101, 115, 32, 115, 97, 115, 104, 47, 115, 97, 115, 104, 108, 97, 119, 48, 52, 46, 82, 101, 99, 116, 73, 110, 115, 105, 100, 101, 32, 115, 97, 115, 104, 47, 115, 97, 115, 104, 108, 97, 119, 48, 55, 46, 70, 108, 97, 116, 78, 97, 109, 101, 115, 32, 115, 97, 115, 104, 47, 115, 97, 115, 104, 108, 97, 119, 48, 57, 46, 65, 100, 106, 117, 115, 116, 83, 101, 116, 115, 32, 115, 97, 115, 104, 47, 115, 97, 115, 104, 108, 97, 119, 48, 52, 46, 82, 101, 99, 116, 77, 101, 101, 116, 115, 32, 115, 97, 115, 104, 47, 115, 97, 115, 104, 108, 97, 119, 48, 52, 46, 82, 101, 99, 116, 77, 97, 121, 115, 32, 115, 97, 115, 104, 47, 115, 97, 115, 104, 108, 97, 119, 48, 55, 46, 70, 108, 97, 116, 83, 116, 105, 108, 108, 32, 115, 97, 115, 104, 47, 115, 97, 115, 104, 108, 97, 119, 48, 53, 46, 67, 101, 108, 108, 77, 97, 121, 115, 32, 115, 97, 115, 104, 47, 115, 97, 115, 104, 108, 97, 119, 48, 53, 46, 67, 101, 108, 108, 83, 97, 109, 101, 32, 115, 97, 115, 104, 47, 115, 97, 115, 104, 108, 97, 119, 48, 53, 46, 67, 101, 108, 108, 67, 111, 117, 110, 116, 115, 32, 115, 97, 115, 104, 47, 115, 97, 115, 104, 108, 97, 119, 48, 56, 46, 76, 101, 97, 115, 116, 83, 117, 109, 115, 32, 115, 97, 115, 104, 47, 115, 97, 115, 104, 108, 97, 119, 48, 53, 46, 67, 101, 108, 108, 70, 105, 110, 100, 115, 32, 115, 97, 115, 104, 47, 115, 97, 115, 104, 108, 97, 119, 48, 56, 46, 76, 101, 97, 115, 116, 73, 115, 32, 115, 97, 115, 104, 47, 115, 97, 115, 104, 108, 97, 119, 48, 56, 46, 76, 101, 97, 115, 116, 70, 105, 116, 115, 32, 115, 97, 115, 104, 47, 115, 97, 115, 104, 108, 97, 119, 48, 56, 46, 76, 101, 97, 115, 116, 80, 97, 116, 104, 115, 32, 115, 97, 115, 104, 47, 115, 97, 115, 104, 108, 97, 119, 48, 53, 46, 67, 101, 108, 108, 80, 117, 116, 115, 32, 115, 97, 115, 104, 47, 115, 97, 115, 104, 108, 97, 119, 49, 50, 46, 83, 112, 108, 105, 116, 83, 105, 122, 101, 115, 32, 115, 97, 115, 104, 47, 115, 97, 115, 104, 108, 97, 119, 49, 54, 46, 83, 112, 114, 101, 97, 100, 65, 108, 108, 32, 115, 97, 115, 104, 47, 115, 97, 115, 104, 108, 97, 119, 49, 54, 46, 83, 112, 114, 101, 97, 100, 65, 116, 32, 115, 97, 115, 104, 47, 115, 97, 115, 104, 108, 97, 119, 49, 52, 46, 80, 117, 115, 104, 73, 115, 32, 115, 97, 115, 104, 47, 115, 97, 115, 104, 108, 97, 119, 49, 52, 46, 80, 117, 115, 104, 79, 110, 101, 32, 115, 97, 115, 104, 47, 115, 97, 115, 104, 108, 97, 119, 49, 52, 46, 80, 117, 115, 104, 70, 114, 97, 109, 101, 115, 32, 115, 97, 115, 104, 47, 115, 97, 115, 104, 108, 97, 119, 49, 52, 46, 80, 117, 115, 104, 67, 97, 110, 32, 115, 97, 115, 104, 47, 115, 97, 115, 104, 108, 97, 119, 49, 50, 46, 83, 112, 108, 105, 116, 73, 115, 32, 115, 97, 115, 104, 47, 115, 97, 115, 104, 108, 97, 119, 49, 50, 46, 83, 112, 108, 105, 116, 67, 97, 110].map Char.ofNat
def headWords : List (List Char) := [[104, 97, 114, 110, 101, 115, 115].map Char.ofNat,
  [57, 48, 98, 52, 50, 100, 98, 100, 99, 50, 52, 54, 55, 51, 50, 51, 56, 57, 50, 48, 100, 50, 50, 98, 56, 57, 53, 102, 48, 48, 55, 48, 53, 101, 102, 48, 53, 53, 102, 54, 54, 55, 97, 57, 54, 56, 100, 50, 56, 97, 57, 52, 55, 52, 56, 57, 49, 49, 48, 97, 48, 101, 53, 55].map Char.ofNat,
  [99, 117, 116].map Char.ofNat,
  [97, 116].map Char.ofNat,
  [115, 97, 115, 104, 47, 115, 97, 115, 104, 108, 97, 119, 48, 55, 46, 70, 108, 97, 116, 78, 101, 120, 116, 115].map Char.ofNat,
  [115, 97, 115, 104, 47, 115, 97, 115, 104, 108, 97, 119, 48, 55, 46, 70, 108, 97, 116, 76, 105, 115, 116, 115].map Char.ofNat,
  [115, 97, 115, 104, 47, 115, 97, 115, 104, 108, 97, 119, 48, 52, 46, 82, 101, 99, 116, 67, 117, 116, 115].map Char.ofNat,
  [115, 97, 115, 104, 47, 115, 97, 115, 104, 108, 97, 119, 48, 57, 46, 65, 100, 106, 117, 115, 116, 83, 104, 97, 114, 101, 115].map Char.ofNat,
  [115, 97, 115, 104, 47, 115, 97, 115, 104, 108, 97, 119, 48, 57, 46, 65, 100, 106, 117, 115, 116, 69, 118, 101, 110, 115].map Char.ofNat,
  [115, 97, 115, 104, 47, 115, 97, 115, 104, 108, 97, 119, 49, 54, 46, 83, 112, 114, 101, 97, 100, 83, 105, 122, 101, 115].map Char.ofNat,
  [115, 97, 115, 104, 47, 115, 97, 115, 104, 108, 97, 119, 48, 55, 46, 70, 108, 97, 116, 67, 104, 97, 110, 103, 101, 115].map Char.ofNat,
  [115, 97, 115, 104, 47, 115, 97, 115, 104, 108, 97, 119, 48, 52, 46, 82, 101, 99, 116, 73, 110, 115, 105, 100, 101].map Char.ofNat,
  [115, 97, 115, 104, 47, 115, 97, 115, 104, 108, 97, 119, 48, 55, 46, 70, 108, 97, 116, 78, 97, 109, 101, 115].map Char.ofNat,
  [115, 97, 115, 104, 47, 115, 97, 115, 104, 108, 97, 119, 48, 57, 46, 65, 100, 106, 117, 115, 116, 83, 101, 116, 115].map Char.ofNat,
  [115, 97, 115, 104, 47, 115, 97, 115, 104, 108, 97, 119, 48, 52, 46, 82, 101, 99, 116, 77, 101, 101, 116, 115].map Char.ofNat,
  [115, 97, 115, 104, 47, 115, 97, 115, 104, 108, 97, 119, 48, 52, 46, 82, 101, 99, 116, 77, 97, 121, 115].map Char.ofNat,
  [115, 97, 115, 104, 47, 115, 97, 115, 104, 108, 97, 119, 48, 55, 46, 70, 108, 97, 116, 83, 116, 105, 108, 108].map Char.ofNat,
  [115, 97, 115, 104, 47, 115, 97, 115, 104, 108, 97, 119, 48, 53, 46, 67, 101, 108, 108, 77, 97, 121, 115].map Char.ofNat,
  [115, 97, 115, 104, 47, 115, 97, 115, 104, 108, 97, 119, 48, 53, 46, 67, 101, 108, 108, 83, 97, 109, 101].map Char.ofNat,
  [115, 97, 115, 104, 47, 115, 97, 115, 104, 108, 97, 119, 48, 53, 46, 67, 101, 108, 108, 67, 111, 117, 110, 116, 115].map Char.ofNat,
  [115, 97, 115, 104, 47, 115, 97, 115, 104, 108, 97, 119, 48, 56, 46, 76, 101, 97, 115, 116, 83, 117, 109, 115].map Char.ofNat,
  [115, 97, 115, 104, 47, 115, 97, 115, 104, 108, 97, 119, 48, 53, 46, 67, 101, 108, 108, 70, 105, 110, 100, 115].map Char.ofNat,
  [115, 97, 115, 104, 47, 115, 97, 115, 104, 108, 97, 119, 48, 56, 46, 76, 101, 97, 115, 116, 73, 115].map Char.ofNat,
  [115, 97, 115, 104, 47, 115, 97, 115, 104, 108, 97, 119, 48, 56, 46, 76, 101, 97, 115, 116, 70, 105, 116, 115].map Char.ofNat,
  [115, 97, 115, 104, 47, 115, 97, 115, 104, 108, 97, 119, 48, 56, 46, 76, 101, 97, 115, 116, 80, 97, 116, 104, 115].map Char.ofNat,
  [115, 97, 115, 104, 47, 115, 97, 115, 104, 108, 97, 119, 48, 53, 46, 67, 101, 108, 108, 80, 117, 116, 115].map Char.ofNat,
  [115, 97, 115, 104, 47, 115, 97, 115, 104, 108, 97, 119, 49, 50, 46, 83, 112, 108, 105, 116, 83, 105, 122, 101, 115].map Char.ofNat,
  [115, 97, 115, 104, 47, 115, 97, 115, 104, 108, 97, 119, 49, 54, 46, 83, 112, 114, 101, 97, 100, 65, 108, 108].map Char.ofNat,
  [115, 97, 115, 104, 47, 115, 97, 115, 104, 108, 97, 119, 49, 54, 46, 83, 112, 114, 101, 97, 100, 65, 116].map Char.ofNat,
  [115, 97, 115, 104, 47, 115, 97, 115, 104, 108, 97, 119, 49, 52, 46, 80, 117, 115, 104, 73, 115].map Char.ofNat,
  [115, 97, 115, 104, 47, 115, 97, 115, 104, 108, 97, 119, 49, 52, 46, 80, 117, 115, 104, 79, 110, 101].map Char.ofNat,
  [115, 97, 115, 104, 47, 115, 97, 115, 104, 108, 97, 119, 49, 52, 46, 80, 117, 115, 104, 70, 114, 97, 109, 101, 115].map Char.ofNat,
  [115, 97, 115, 104, 47, 115, 97, 115, 104, 108, 97, 119, 49, 52, 46, 80, 117, 115, 104, 67, 97, 110].map Char.ofNat,
  [115, 97, 115, 104, 47, 115, 97, 115, 104, 108, 97, 119, 49, 50, 46, 83, 112, 108, 105, 116, 73, 115].map Char.ofNat,
  [115, 97, 115, 104, 47, 115, 97, 115, 104, 108, 97, 119, 49, 50, 46, 83, 112, 108, 105, 116, 67, 97, 110].map Char.ofNat]
theorem head_list : Try.prog.initOrder.toList = headSigns := by
  have e : Try.prog.initOrder = String.ofList headSigns := by kernel_rfl
  rw [e, String.toList_ofList]
theorem head_words : wordsSigns Try.prog.initOrder.toList = headWords := by
  rw [head_list]
  kernel_rfl
def headRest : List (List Char) := headWords.drop 3
theorem head_behind : behindMainWord (wordsSigns Try.prog.initOrder.toList) = ([99, 117, 116].map Char.ofNat) :: headRest := by
  rw [head_words]
  kernel_rfl
theorem cut_eq : ([99, 117, 116].map Char.ofNat : List Char) = "cut".toList := by decide +kernel
theorem head_behind' : behindMainWord (wordsSigns Try.prog.initOrder.toList) = "cut".toList :: headRest := head_behind.trans (congrArg (fun c => c :: headRest) cut_eq)
theorem strip_none (rest : List (List Char)) : stripLifts liftWords ("cut".toList :: rest) = ([], "cut".toList :: rest) := by
  have key : ∀ (l : List String), (l.all fun o => !("cut".toList == o.toList)) = true → stripLifts l ("cut".toList :: rest) = ([], "cut".toList :: rest) := by
    intro l
    induction l with
    | nil => intro _; rfl
    | cons o l ih =>
      intro h
      simp only [List.all_cons, Bool.and_eq_true] at h
      unfold stripLifts
      rw [if_neg (by simpa using h.1)]
      exact ih h.2
  exact key _ (by decide +kernel)
theorem make_of (P : Program) (rest : List (List Char)) (h : behindMainWord (wordsSigns P.initOrder.toList) = "cut".toList :: rest) : P.make = some .cut := by
  unfold Program.make
  rw [h]
  simp only
  have h1 : ("cut".toList == "gc".toList) = false := by decide +kernel
  have h2 : ("cut".toList == "spec".toList) = false := by decide +kernel
  rw [h1, h2, if_neg (by simp), if_pos (by simp)]
theorem lifts_of (P : Program) (rest : List (List Char)) (h : behindMainWord (wordsSigns P.initOrder.toList) = "cut".toList :: rest) : P.headLifts = [] := by
  unfold Program.headLifts
  simp only [h, strip_none]
  simp
theorem final_of (P : Program) (rest : List (List Char)) (h : behindMainWord (wordsSigns P.initOrder.toList) = "cut".toList :: rest) : P.liftsFinal = false := by
  have h1 : (some "cut".toList == some "carried".toList) = false := by decide +kernel
  unfold Program.liftsFinal
  simp only [h, lifts_of P rest h, List.head?_cons, h1, Bool.false_and, List.contains_nil, Bool.or_false]
theorem enter_of (P : Program) (rest : List (List Char)) (h : behindMainWord (wordsSigns P.initOrder.toList) = "cut".toList :: rest) (h1 : P.laysLater = false) (h2 : P.bearsReflect = false) (h3 : P.doorFits [] = true) : P.mayEnter = true := by
  unfold Program.mayEnter
  rw [h]
  simp only [strip_none]
  rw [h1, h2, h3]
  simp
theorem head_make : Try.prog.make = some .cut := make_of Try.prog headRest head_behind'
theorem head_final : Try.prog.liftsFinal = false := final_of Try.prog headRest head_behind'
theorem head_later : Try.prog.laysLater = false := by kernel_rfl
theorem head_reflect : Try.prog.bearsReflect = false := by kernel_rfl
theorem head_door : Try.prog.doorFits [] = true := by kernel_rfl
theorem head_enter : Try.prog.mayEnter = true := enter_of Try.prog headRest head_behind' head_later head_reflect head_door
theorem head_keys : (true == Try.prog.plainKeys) = true := by kernel_rfl
theorem head_heard : Try.prog.stopsHeard = true := by kernel_rfl
end Go.Proofs.Ytfdmfgaiblfbhaa.P
/- joinedFacts out of its parts, over any program. -/
namespace Go.Proofs.Ytfdmfgaiblfbhaa.P
open Go.RowKit
theorem joined_mk {P : Program} {f : FuncId} {fn : Func} {s : ChangeSpec} {c : OpenClaim}
    (h0 : (c.wf (OpenSpec.ofChange s)) = true)
    (h1 : (laidOutB P) = true)
    (h2 : (mapsRowed P) = true)
    (h3 : (fn.params.all (P.readableRec ·)) = true)
    (h4 : (namedTie P c.named s.vars) = true)
    (h5 : ((c.stops == [])) = true)
    (h6 : ((P.stops == [])) = true)
    (h7 : ((c.knobs == [])) = true)
    (h8 : ((P.stopKnobs == [])) = true)
    (h9 : ((c.inPlace == P.inPlace f)) = true)
    (h10 : ((c.unfollowed == P.unfollowed f)) = true)
    (h11 : ((c.recurses == P.recurses f)) = true)
    (h12 : ((c.named == P.varsNamed f)) = true)
    (h13 : ((c.maps == (fn.params.toList ++ s.plain.varTypes P).any (P.mapsRec ·))) = true)
    (h14 : ((c.ifaces == (fn.params.toList ++ s.plain.varTypes P).any (P.ifacesRec ·))) = true)
    (h15 : ((c.mapsOut == P.mapsAmong fn.resultTypes.toList)) = true)
    (h16 : ((c.loops == (fn.params.toList ++ s.plain.varTypes P).any (P.loopsFrom ·))) = true)
    (h17 : ((c.wideKeys == (fn.params.toList ++ s.plain.varTypes P ++ fn.resultTypes.toList).any (P.wideKeysFrom ·))) = true)
    (h18 : (s.vars.all (P.varReadable ·)) = true)
    (h19 : (fn.resultTypes.all (fun t => P.readableRec t && decide (t < P.types.size))) = true)
    (h20 : ((c.ifacesOut == fn.resultTypes.toList.any (P.ifacesRec ·))) = true)
    (h21 : ((c.loopsOut == fn.resultTypes.toList.any (P.loopsFrom ·))) = true)
    (h22 : ((c.plainKeys == P.plainKeys)) = true)
    (h23 : (c.shortTexts.isNone) = true)
    (h24 : (P.stopsHeard) = true)
    (h25 : (P.mayEnter) = true)
    (h26 : ((c.lifted == P.liftsFinal)) = true)
    (h27 : ((P.make == some c.make)) = true)
    (hd : c.domain.isEmpty = true) (hk : c.kinds = [])
    (h29 : ((c.pinned == c.pinnedBy)) = true)
    (h30 : ((c.veiled == (fn.params.toList ++ s.plain.varTypes P ++ fn.resultTypes.toList).any (P.veiledRec ·))) = true)
    (h31 : (c.veiledFits P fn.params.toList (fn.params.toList ++ s.plain.varTypes P ++ fn.resultTypes.toList)) = true)
    : joinedFacts P f fn s c = true := by
  unfold joinedFacts
  rw [h0, h1, h2, h3, h4, h5, h6, h7, h8, h9, h10, h11, h12, h13, h14, h15, h16, h17, h18, h19, h20, h21, h22, h23, h24, h25, h26, h27, if_pos hd, hk, h29, h30, h31]
  rfl
end Go.Proofs.Ytfdmfgaiblfbhaa.P
/- The row of the law LeastPaths, out of its plain law and its walk. -/
namespace Go.Proofs.Ytfdmfgaiblfbhaa.leastPaths
open Go.ChangeShapes Go.WideShapes Go.ChangeAt Go.RowKit Go.Proofs.Ytfdmfgaiblfbhaa.P Go.Proofs.YtfdmfgaiblfbhaaW.PrintWords
open Go.ChangeMaps (open_string shut_string)
theorem own : ownKnob Try.prog.godebug = none := by kernel_rfl
theorem laidOut : laidOutB Try.prog = true := by kernel_rfl
set_option maxRecDepth 100000 in
theorem lifted (os : Os) (started : os.Started) (H : Type) (enc : TypeId × Value → H) :
  ReturnsInHanded {} Try.checked os 23 .any (Rows.leastPathsSpec.pre6 enc Try.prog Try.f23 Rows.leastPathsRow.domain false) (Rows.leastPathsSpec.post enc Try.prog Try.f23 false true false false) := by
 refine returnsInHanded_of_change_sized (C := Try.checked) own started (by kernel_rfl) Try.func23
  (ChangeSpec.witness6 (enc := enc) (C := Try.checked) false ⟨#[], #[.agg #[.int .u8 0, .int .i64 0, .int .i64 0, .int .i64 0, .int .i64 0, .int .i64 0, .slice none 0 0], .agg #[.int .i64 0, .int .i64 0, .int .i64 0, .int .i64 0], .int .u8 0, .slice none 0 0], []⟩ 8 (by kernel_rfl) (by kernel_rfl) (by kernel_rfl) (by kernel_rfl)) ?_
 intro W base args ds gs before hval0 hW hcnd hsz0 _
 have hval : ∀ (j : Nat) t v, Try.f23.params[j]? = some t → args[j]? = some v → Value.okWide Try.prog W .any base t v := hval0
 have hW' := hW
 obtain ⟨p, q, hA0, hV, rfl, hfz, hnd⟩ := hW
 have hA : DataW.TrodAll enc Try.prog W 0 (fun _ => true) true Try.f23.params.toList args.toList ds p := hA0
 rw [Try.params23] at hA hval
 obtain ⟨v0, vs0, d0, ds0, p0, q0, hargs, rfl, rfl, h0, r0⟩ := trodAll_cons hA
 obtain ⟨v1, vs1, d1, ds1, p1, q1, rfl, rfl, rfl, h1, r1⟩ := trodAll_cons r0
 obtain ⟨v2, vs2, d2, ds2, p2, q2, rfl, rfl, rfl, h2, r2⟩ := trodAll_cons r1
 obtain ⟨v3, vs3, d3, ds3, p3, q3, rfl, rfl, rfl, h3, r3⟩ := trodAll_cons r2
 obtain ⟨rfl, rfl, rfl⟩ := trodAll_nil r3
 obtain rfl : args = #[v0, v1, v2, v3] := by cases args; simp_all
 obtain ⟨rfl, rfl⟩ := trodVars_none hV
 have k0 := h0
 have lt0 : ∀ x ∈ p0, x.block < W.heap.size := by obtain ⟨m, hm⟩ := k0; exact DataW.trod_lt m _ _ _ hm
 obtain ⟨fuel0, hf0⟩ := h0
 obtain ⟨cs0, rfl, _⟩ := okWide_struct Try.underlying26 (hval 0 26 v0 rfl rfl)
 obtain ⟨a0, b0, w0⟩ := read26 hf0
 obtain ⟨A0, c0, e0, hc0, hr0⟩ := k26_open b0
 obtain rfl := agg_of e0
 have k1 := h1
 have lt1 : ∀ x ∈ p1, x.block < W.heap.size := by obtain ⟨m, hm⟩ := k1; exact DataW.trod_lt m _ _ _ hm
 obtain ⟨fuel1, hf1⟩ := h1
 obtain ⟨cs1, rfl, _⟩ := okWide_struct Try.underlying23 (hval 1 23 v1 rfl rfl)
 obtain ⟨a1, b1, w1⟩ := read23 hf1
 have e1 := k23_open b1
 obtain rfl := agg_of e1
 obtain ⟨a2, rfl, rfl, rfl, w2⟩ := open_int Try.underlying5 (hval 2 5 v2 rfl rfl) h2
 have k3 := h3
 have lt3 : ∀ x ∈ p3, x.block < W.heap.size := by obtain ⟨m, hm⟩ := k3; exact DataW.trod_lt m _ _ _ hm
 obtain ⟨fuel3, hf3⟩ := h3
 obtain ⟨A3, len3, cap3, rfl⟩ := okWide_slice Try.underlying41 (hval 3 41 v3 rfl rfl)
 obtain ⟨B3, c3, a3, e3, hc3, hr3, w3⟩ := open_row (k := Kd.int .i64) (ok := I64) Try.underlying41 (by kernel_rfl) (fun n _ cs y hy => by obtain ⟨x, rfl, _, hw⟩ := DataW.trod_int Try.underlying3 hy; exact ⟨x, rfl, i64_of hw⟩) hf3
 simp only [Value.cells, List.cons.injEq, Value.slice.injEq, and_true] at e3
 obtain ⟨rfl, rfl, rfl⟩ := e3
 obtain ⟨k, hP⟩ := Pure.LeastPaths a0 a1 a2 a3 w0 w1 (u8_of w2) hr3.2.1 w3
 refine (sashlaw08_LeastPaths.calls k a0.f0 a0.f1.f0 a0.f1.f1 a0.f1.f2 a0.f1.f3 a0.f2 _ _ a0.f3 a1.f0 a1.f1 a1.f2 a1.f3 a2 _ _ a3 true W hr0 hc0 hr3 hc3 hP).mono fun e W' ⟨he, bel0⟩ => ?_
 have bel : Below W.heap.size W W' := bel0
 subst he
 exact ⟨_, rfl, _, _, _, [], _, [], hW', trodAll_mk1 (shut_bool Try.underlying4 _), (trodAll_cons_mk (Below.trod laidOut (by kernel_rfl) (of_decide_eq_true (by kernel_rfl)) k0 bel lt0) (trodAll_cons_mk (Below.trod laidOut (by kernel_rfl) (of_decide_eq_true (by kernel_rfl)) k1 bel lt1) (trodAll_cons_mk (shut_int Try.underlying5 w2) (trodAll_cons_mk (Below.trod laidOut (by kernel_rfl) (of_decide_eq_true (by kernel_rfl)) k3 bel lt3) trodAll_mk0)))), rfl, bel.frame _, fun h => by cases h⟩
theorem j0 : (Rows.leastPathsRow.wf (OpenSpec.ofChange Rows.leastPathsSpec)) = true := by kernel_rfl
theorem j1 : (laidOutB Try.prog) = true := by kernel_rfl
theorem j2 : (mapsRowed Try.prog) = true := by kernel_rfl
theorem j3 : (Try.f23.params.all (Try.prog.readableRec ·)) = true := by kernel_rfl
theorem j4 : (namedTie Try.prog Rows.leastPathsRow.named Rows.leastPathsSpec.vars) = true := by kernel_rfl
theorem j5 : ((Rows.leastPathsRow.stops == [])) = true := by kernel_rfl
theorem j6 : ((Try.prog.stops == [])) = true := by kernel_rfl
theorem j7 : ((Rows.leastPathsRow.knobs == [])) = true := by kernel_rfl
theorem j8 : ((Try.prog.stopKnobs == [])) = true := by kernel_rfl
theorem j9 : ((Rows.leastPathsRow.inPlace == Try.prog.inPlace 23)) = true := by kernel_rfl
theorem j10 : ((Rows.leastPathsRow.unfollowed == Try.prog.unfollowed 23)) = true := by kernel_rfl
theorem j11 : ((Rows.leastPathsRow.recurses == Try.prog.recurses 23)) = true := by kernel_rfl
theorem j12 : ((Rows.leastPathsRow.named == Try.prog.varsNamed 23)) = true := by kernel_rfl
theorem j13 : ((Rows.leastPathsRow.maps == (Try.f23.params.toList ++ Rows.leastPathsSpec.plain.varTypes Try.prog).any (Try.prog.mapsRec ·))) = true := by kernel_rfl
theorem j14 : ((Rows.leastPathsRow.ifaces == (Try.f23.params.toList ++ Rows.leastPathsSpec.plain.varTypes Try.prog).any (Try.prog.ifacesRec ·))) = true := by kernel_rfl
theorem j15 : ((Rows.leastPathsRow.mapsOut == Try.prog.mapsAmong Try.f23.resultTypes.toList)) = true := by kernel_rfl
theorem j16 : ((Rows.leastPathsRow.loops == (Try.f23.params.toList ++ Rows.leastPathsSpec.plain.varTypes Try.prog).any (Try.prog.loopsFrom ·))) = true := by kernel_rfl
theorem j17 : ((Rows.leastPathsRow.wideKeys == (Try.f23.params.toList ++ Rows.leastPathsSpec.plain.varTypes Try.prog ++ Try.f23.resultTypes.toList).any (Try.prog.wideKeysFrom ·))) = true := by kernel_rfl
theorem j18 : (Rows.leastPathsSpec.vars.all (Try.prog.varReadable ·)) = true := by kernel_rfl
theorem j19 : (Try.f23.resultTypes.all (fun t => Try.prog.readableRec t && decide (t < Try.prog.types.size))) = true := by kernel_rfl
theorem j20 : ((Rows.leastPathsRow.ifacesOut == Try.f23.resultTypes.toList.any (Try.prog.ifacesRec ·))) = true := by kernel_rfl
theorem j21 : ((Rows.leastPathsRow.loopsOut == Try.f23.resultTypes.toList.any (Try.prog.loopsFrom ·))) = true := by kernel_rfl
theorem j23 : (Rows.leastPathsRow.shortTexts.isNone) = true := by kernel_rfl
theorem j29 : ((Rows.leastPathsRow.pinned == Rows.leastPathsRow.pinnedBy)) = true := by kernel_rfl
theorem j30 : ((Rows.leastPathsRow.veiled == (Try.f23.params.toList ++ Rows.leastPathsSpec.plain.varTypes Try.prog ++ Try.f23.resultTypes.toList).any (Try.prog.veiledRec ·))) = true := by kernel_rfl
theorem j31 : (Rows.leastPathsRow.veiledFits Try.prog Try.f23.params.toList (Try.f23.params.toList ++ Rows.leastPathsSpec.plain.varTypes Try.prog ++ Try.f23.resultTypes.toList)) = true := by kernel_rfl
theorem closed : joinedFacts Try.prog 23 Try.f23 Rows.leastPathsSpec Rows.leastPathsRow = true := P.joined_mk j0 j1 j2 j3 j4 j5 j6 j7 j8 j9 j10 j11 j12 j13 j14 j15 j16 j17 j18 j19 j20 j21 P.head_keys j23 P.head_heard P.head_enter (by rw [P.head_final]; rfl) (by rw [P.head_make]; rfl) rfl rfl j29 j30 j31
theorem over : Rows.leastPathsRow.holds Try.pinned (OpenSpec.ofChange Rows.leastPathsSpec) :=
 OpenClaim.holds_of_wide 23 Try.f23 rfl rfl rfl rfl rfl rfl rfl ⟨rfl, rfl, rfl, rfl, rfl⟩ rfl rfl rfl rfl rfl (by kernel_rfl) Try.func23 closed
  (of_decide_eq_true (by kernel_rfl)) (by unfold Func.isWrapper; first | (rw [if_pos (by decide +kernel)]; kernel_rfl) | (rw [if_neg (by decide +kernel)]; exact ⟨rfl, rfl⟩))
  (fun os started H enc _ => lifted os started H enc)
theorem proved : Rows.LeastPathsSaid := over
#print axioms proved
end Go.Proofs.Ytfdmfgaiblfbhaa.leastPaths
namespace Go.Proofs.Ytfdmfgaiblfbhaa
/-- The row, under a short name, for the claim. -/
theorem leastPaths_holds : Rows.LeastPathsSaid := leastPaths.proved
end Go.Proofs.Ytfdmfgaiblfbhaa
