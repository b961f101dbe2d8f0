/- LeastFits: part 4 of 7 of this claim's texts, one behind the other. The words of the kit's printer stand in it cut down, by a program, to those that are used. -/
import Derived.Test.YtfdmfgaiblfbhaaMLeastFitsc
import Derived.Lib.Hide
namespace Go.Proofs.Ytfdmfgaiblfbhaa.P
open Go.RowKit Go.Proofs.YtfdmfgaiblfbhaaW.PrintWords Go.Proofs.YtfdmfgaiblfbhaaW.PrintLast Go.Proofs.YtfdmfgaiblfbhaaW.PrintMore
attribute [local go_sem] max2_int min2_int max_two min_two max_three min_three max_four min_four   -- for this text's walks alone
set_option linter.unusedVariables false
set_option linter.unusedSimpArgs false

/-! ### sashref04_Cut: function 46 -/
mutual
def sashref04_Cut.j0 : Nat → Int → List Int → List (S23) → Bool → Int → Int → Int → Int → Option ((List (S23)) × (List (S23)) × Bool)
 | 0, _, _, _, _, _, _, _, _ => none
 | k + 1, x1, x2, x9, x31, x295000, x295001, x295002, x295003 => if x31 = true then (some (x9, x9, false)) else (if x1 = 2 then (sashref04_Cut.j1 k x1 x2 x9 x295003 x295000 x295001 x295002 x295003) else (sashref04_Cut.j1 k x1 x2 x9 x295002 x295000 x295001 x295002 x295003))
def sashref04_Cut.j1 : Nat → Int → List Int → List (S23) → Int → Int → Int → Int → Int → Option ((List (S23)) × (List (S23)) × Bool)
 | 0, _, _, _, _, _, _, _, _ => none
 | k + 1, x1, x2, x9, x10, x295000, x295001, x295002, x295003 => sashref04_Cut.l0 k x1 x2 x9 x10 (([] : List (S23))) (([] : List (S23))) 0 (x2.length : Int) 0 x295000 x295001 x295002 x295003
def sashref04_Cut.l0 : Nat → Int → List Int → List (S23) → Int → List (S23) → List (S23) → Int → Int → Int → Int → Int → Int → Int → Option ((List (S23)) × (List (S23)) × Bool)
 | 0, _, _, _, _, _, _, _, _, _, _, _, _, _ => none
 | k + 1, x1, x2, x9, x10, x11, x12, x13, x43, x44, x295000, x295001, x295002, x295003 => if x44 < x43 then (if x44 > 0 then (if x1 = 1 then (if x12.length < 4398046511104 then (sashref04_Cut.j3 k x1 x2 x9 x10 x11 (x12 ++ [(⟨wrap64 (x295000 + x13), x295001, 1, x295003⟩ : S23)]) (wrap64 (x13 + 1)) x44 x43 x44 x295000 x295001 x295002 x295003) else (none)) else (if x12.length < 4398046511104 then (sashref04_Cut.j3 k x1 x2 x9 x10 x11 (x12 ++ [(⟨x295000, wrap64 (x295001 + x13), x295002, 1⟩ : S23)]) (wrap64 (x13 + 1)) x44 x43 x44 x295000 x295001 x295002 x295003) else (none))) else (sashref04_Cut.j3 k x1 x2 x9 x10 x11 x12 x13 x44 x43 x44 x295000 x295001 x295002 x295003)) else (if x13 = x10 then (some (x11, x12, true)) else (some (x9, x9, false)))
def sashref04_Cut.j3 : Nat → Int → List Int → List (S23) → Int → List (S23) → List (S23) → Int → Int → Int → Int → Int → Int → Int → Int → Option ((List (S23)) × (List (S23)) × Bool)
 | 0, _, _, _, _, _, _, _, _, _, _, _, _, _, _ => none
 | k + 1, x1, x2, x9, x10, x11, x12, x13, x14, x43, x44, x295000, x295001, x295002, x295003 => if 0 ≤ x14 then (if x14 < (x2.length : Int) then (if (rd x2 x14) < 1 then (sashref04_Cut.j4 k x1 x2 x9 x10 x11 x12 x13 x14 x43 x44 true x295000 x295001 x295002 x295003) else (if (rd x2 x14) > x10 then (sashref04_Cut.j4 k x1 x2 x9 x10 x11 x12 x13 x14 x43 x44 true x295000 x295001 x295002 x295003) else (sashref04_Cut.j4 k x1 x2 x9 x10 x11 x12 x13 x14 x43 x44 (decide ((wrap64 (x13 + (rd x2 x14))) > x10)) x295000 x295001 x295002 x295003))) else (none)) else (none)
def sashref04_Cut.j4 : Nat → Int → List Int → List (S23) → Int → List (S23) → List (S23) → Int → Int → Int → Int → Bool → Int → Int → Int → Int → Option ((List (S23)) × (List (S23)) × Bool)
 | 0, _, _, _, _, _, _, _, _, _, _, _, _, _, _, _ => none
 | k + 1, x1, x2, x9, x10, x11, x12, x13, x14, x43, x44, x99, x295000, x295001, x295002, x295003 => if x99 = true then (some (x9, x9, false)) else (if x1 = 1 then (if 0 ≤ x14 then (if x14 < (x2.length : Int) then (if x11.length < 4398046511104 then (sashref04_Cut.l0 k x1 x2 x9 x10 (x11 ++ [(⟨wrap64 (x295000 + x13), x295001, rd x2 x14, x295003⟩ : S23)]) x12 (wrap64 (x13 + (rd x2 x14))) x43 (wrap64 (x44 + 1)) x295000 x295001 x295002 x295003) else (none)) else (none)) else (none)) else (if 0 ≤ x14 then (if x14 < (x2.length : Int) then (if x11.length < 4398046511104 then (sashref04_Cut.l0 k x1 x2 x9 x10 (x11 ++ [(⟨x295000, wrap64 (x295001 + x13), x295002, rd x2 x14⟩ : S23)]) x12 (wrap64 (x13 + (rd x2 x14))) x43 (wrap64 (x44 + 1)) x295000 x295001 x295002 x295003) else (none)) else (none)) else (none)))
end
def sashref04_Cut.f (k : Nat) (a0_0 : Int) (a0_1 : Int) (a0_2 : Int) (a0_3 : Int) (a1 : Int) (l2 : List Int) : Option ((List (S23)) × (List (S23)) × Bool) := (some (([] : List (S23)) : List (S23))).bind fun y295 => ((sashref04_May.f a0_0 a0_1 a0_2 a0_3).bind fun t298 => (if t298 = true then (if a1 < 1 then (sashref04_Cut.j0 k a1 l2 y295 true a0_0 a0_1 a0_2 a0_3) else (if a1 > 2 then (sashref04_Cut.j0 k a1 l2 y295 true a0_0 a0_1 a0_2 a0_3) else (sashref04_Cut.j0 k a1 l2 y295 ((l2.length : Int) == 0) a0_0 a0_1 a0_2 a0_3))) else (sashref04_Cut.j0 k a1 l2 y295 true a0_0 a0_1 a0_2 a0_3)))
theorem sashref04_Cut.mono_l : ∀ k, (∀ y0 y1 y2 y3 y4 y5 y6 y7, LeO (sashref04_Cut.j0 k y0 y1 y2 y3 y4 y5 y6 y7) (sashref04_Cut.j0 (k + 1) y0 y1 y2 y3 y4 y5 y6 y7)) ∧ (∀ y0 y1 y2 y3 y4 y5 y6 y7, LeO (sashref04_Cut.j1 k y0 y1 y2 y3 y4 y5 y6 y7) (sashref04_Cut.j1 (k + 1) y0 y1 y2 y3 y4 y5 y6 y7)) ∧ (∀ y0 y1 y2 y3 y4 y5 y6 y7 y8 y9 y10 y11 y12, LeO (sashref04_Cut.l0 k y0 y1 y2 y3 y4 y5 y6 y7 y8 y9 y10 y11 y12) (sashref04_Cut.l0 (k + 1) y0 y1 y2 y3 y4 y5 y6 y7 y8 y9 y10 y11 y12)) ∧ (∀ y0 y1 y2 y3 y4 y5 y6 y7 y8 y9 y10 y11 y12 y13, LeO (sashref04_Cut.j3 k y0 y1 y2 y3 y4 y5 y6 y7 y8 y9 y10 y11 y12 y13) (sashref04_Cut.j3 (k + 1) y0 y1 y2 y3 y4 y5 y6 y7 y8 y9 y10 y11 y12 y13)) ∧ (∀ y0 y1 y2 y3 y4 y5 y6 y7 y8 y9 y10 y11 y12 y13 y14, LeO (sashref04_Cut.j4 k y0 y1 y2 y3 y4 y5 y6 y7 y8 y9 y10 y11 y12 y13 y14) (sashref04_Cut.j4 (k + 1) y0 y1 y2 y3 y4 y5 y6 y7 y8 y9 y10 y11 y12 y13 y14))
 | 0 => ⟨fun _ _ _ _ _ _ _ _ r h => by simp [sashref04_Cut.j0] at h, fun _ _ _ _ _ _ _ _ r h => by simp [sashref04_Cut.j1] at h, fun _ _ _ _ _ _ _ _ _ _ _ _ _ r h => by simp [sashref04_Cut.l0] at h, fun _ _ _ _ _ _ _ _ _ _ _ _ _ _ r h => by simp [sashref04_Cut.j3] at h, fun _ _ _ _ _ _ _ _ _ _ _ _ _ _ _ r h => by simp [sashref04_Cut.j4] at h⟩
 | k + 1 => by
  obtain ⟨ih0, ih1, ih2, ih3, ih4⟩ := sashref04_Cut.mono_l k
  refine ⟨?_, ?_, ?_, ?_, ?_⟩
  ·intro y0 y1 y2 y3 y4 y5 y6 y7
   unfold sashref04_Cut.j0
   repeat' first | (with_reducible exact ih1 _ _ _ _ _ _ _ _) | (with_reducible exact LeO.refl _) | (with_reducible refine LeO.ite ?_ ?_)
  ·intro y0 y1 y2 y3 y4 y5 y6 y7
   unfold sashref04_Cut.j1
   repeat' (with_reducible exact ih2 _ _ _ _ _ _ _ _ _ _ _ _ _)
  ·intro y0 y1 y2 y3 y4 y5 y6 y7 y8 y9 y10 y11 y12
   unfold sashref04_Cut.l0
   repeat' first | (with_reducible exact ih3 _ _ _ _ _ _ _ _ _ _ _ _ _ _) | (with_reducible exact LeO.refl _) | (with_reducible refine LeO.ite ?_ ?_)
  ·intro y0 y1 y2 y3 y4 y5 y6 y7 y8 y9 y10 y11 y12 y13
   unfold sashref04_Cut.j3
   repeat' first | (with_reducible exact ih4 _ _ _ _ _ _ _ _ _ _ _ _ _ _ _) | (with_reducible exact LeO.refl _) | (with_reducible refine LeO.ite ?_ ?_)
  ·intro y0 y1 y2 y3 y4 y5 y6 y7 y8 y9 y10 y11 y12 y13 y14
   unfold sashref04_Cut.j4
   repeat' first | (with_reducible exact ih2 _ _ _ _ _ _ _ _ _ _ _ _ _) | (with_reducible exact LeO.refl _) | (with_reducible refine LeO.ite ?_ ?_)
theorem sashref04_Cut.mono : ∀ a0 a1 a2 a3 a4 a5 k, LeO (sashref04_Cut.f k a0 a1 a2 a3 a4 a5) (sashref04_Cut.f (k + 1) a0 a1 a2 a3 a4 a5) := by
 intro a0 a1 a2 a3 a4 a5 k
 obtain ⟨ih0, ih1, ih2, ih3, ih4⟩ := sashref04_Cut.mono_l k
 unfold sashref04_Cut.f
 repeat' first | (with_reducible exact ih0 _ _ _ _ _ _ _ _) | (with_reducible exact LeO.refl _) | (with_reducible refine LeO.ite ?_ ?_) | (with_reducible refine LeO.bind ?_ (fun _ => ?_))
def sashref04_Cut.T20 : Bool × List (List Nat × List Nat) := (true, [([], []), ([], []), ([1], [1]), ([], []), ([2, 3], [2, 3]), ([], []), ([5], [5]), ([], []), ([], []), ([7, 8], [7, 8]), ([9], [9]), ([], []), ([11], [11]), ([4, 6, 10, 12], [4, 6, 10, 12]), ([13], [13]), ([0, 14], [0, 14]), ([15, 15, 0, 1, 2, 3, 4, 5, 6, 7, 8, 9, 10, 11, 12, 13, 14, 15], [0, 15])])
def sashref04_Cut.B20 : List Nat := [0, 0, 2, 0, 14, 0, 32, 0, 0, 384, 896, 0, 2048, 8190, 16382, 32767, 65535]
theorem sashref04_Cut.tab20 : rtab .any (opsOf Try.f46 20) = sashref04_Cut.T20 := by kernel_rfl
theorem sashref04_Cut.bits20 : waitsOk sashref04_Cut.T20.2 sashref04_Cut.B20 = true := by kernel_rfl
def sashref04_Cut.T21 : Bool × List (List Nat × List Nat) := (true, [([], []), ([], []), ([1], [1]), ([], []), ([3], [3]), ([], []), ([4, 5], [4, 5]), ([], []), ([7], [7]), ([], []), ([], []), ([9, 10], [9, 10]), ([11], [11]), ([2, 6, 8, 12], [2, 6, 8, 12]), ([13], [13]), ([0, 14], [0, 14]), ([15, 15, 0, 1, 2, 3, 4, 5, 6, 7, 8, 9, 10, 11, 12, 13, 14, 15], [0, 15])])
def sashref04_Cut.B21 : List Nat := [0, 0, 2, 0, 8, 0, 56, 0, 128, 0, 0, 1536, 3584, 8190, 16382, 32767, 65535]
theorem sashref04_Cut.tab21 : rtab .any (opsOf Try.f46 21) = sashref04_Cut.T21 := by kernel_rfl
theorem sashref04_Cut.bits21 : waitsOk sashref04_Cut.T21.2 sashref04_Cut.B21 = true := by kernel_rfl
set_option maxHeartbeats 8000000 in
set_option maxRecDepth 100000 in
theorem sashref04_Cut.calls (k : Nat) (a0_0 : Int) (a0_1 : Int) (a0_2 : Int) (a0_3 : Int) (a1 : Int) (A2 : Option Addr) (c2 : Nat) (l2 : List Int) (r1 : List (S23)) (r2 : List (S23)) (r3 : Bool) (w : World) (hr2 : Kd.C (Kd.int .i64) w A2 l2.length l2) (hc2 : l2.length ≤ c2) (h : sashref04_Cut.f k a0_0 a0_1 a0_2 a0_3 a1 l2 = some (r1, r2, r3)) :
  Calls Try.prog 46 #[.agg #[.int .i64 a0_0, .int .i64 a0_1, .int .i64 a0_2, .int .i64 a0_3], .int .u8 a1, .slice A2 l2.length c2] w fun e w' => ∃ v0_ v1_ : Value, e = .returned (.tuple #[v0_, v1_, .bool r3]) ∧ Kd.V k23 23 w' w.heap.size (fun k_ => (w.heap.size ≤ k_)) v0_ r1 ∧ Kd.V k23 23 w' w.heap.size (fun k_ => (w.heap.size ≤ k_)) v1_ r2 ∧ Below w.heap.size w w' := by
 have hu23 := Try.underlying23
 have HR2 := Aside0.mk hr2
 clear hr2 hc2
 have HB := Aside0.mk (Below.refl w.heap.size w)
 have H : ((some (([] : List (S23)) : List (S23))).bind fun y295 => ((sashref04_May.f a0_0 a0_1 a0_2 a0_3).bind fun t298 => (if t298 = true then (if a1 < 1 then (sashref04_Cut.j0 k a1 l2 y295 true a0_0 a0_1 a0_2 a0_3) else (if a1 > 2 then (sashref04_Cut.j0 k a1 l2 y295 true a0_0 a0_1 a0_2 a0_3) else (sashref04_Cut.j0 k a1 l2 y295 ((l2.length : Int) == 0) a0_0 a0_1 a0_2 a0_3))) else (sashref04_Cut.j0 k a1 l2 y295 true a0_0 a0_1 a0_2 a0_3)))) = some (r1, r2, r3) := h
 clear h
 obtain ⟨y295, hy295⟩ : ∃ y_ : List (S23), y_ = (([] : List (S23))) := ⟨_, rfl⟩
 replace H : ((sashref04_May.f a0_0 a0_1 a0_2 a0_3).bind fun t298 => (if t298 = true then (if a1 < 1 then (sashref04_Cut.j0 k a1 l2 y295 true a0_0 a0_1 a0_2 a0_3) else (if a1 > 2 then (sashref04_Cut.j0 k a1 l2 y295 true a0_0 a0_1 a0_2 a0_3) else (sashref04_Cut.j0 k a1 l2 y295 ((l2.length : Int) == 0) a0_0 a0_1 a0_2 a0_3))) else (sashref04_Cut.j0 k a1 l2 y295 true a0_0 a0_1 a0_2 a0_3))) = some (r1, r2, r3) := by (have H2_ := (Option.bind_some _ _).symm.trans H; rw [hy295]; with_reducible exact H2_)
 have Ny295 := Aside0.mk hy295
 clear hy295
 have HC4 := Aside0.mk H
 clear H
 go_enter Try.func46, Try.ntmps46
 go_upto_region 2 with (first | ((with_reducible refine gate_dst (N := 3) rfl ?_); (try (refine gate_guard (by rfl) ?_; dsimp only)); refine box_event ?hg (N := 3) ?hd (cs := #[.int .i64 a0_0, .int .i64 a0_1, .int .i64 a0_2, .int .i64 a0_3]) (t := 23) ?hr ?_; (case hd => rfl); (case hg => rfl); (case hr => (go_simp; done)); intro gb294 hg w5 hbox hb; have BK294 := Aside0.mk (hbox); replace HB := Aside0.mk (below_step (by repeat ((with_reducible exact HB.out))) hb); clear hb hbox hg) | ((with_reducible refine gate_dst (N := 15) rfl ?_); (try (refine gate_guard (by rfl) ?_; dsimp only)); refine Kd.R_lit k23 _ 23 ?hg (N := 15) ?hd (xs := ([] : List (S23))) (inner := []) (ok := fun _ => True) (okp := fun _ => True) ?hr ?hp (fun _ hk => hk) trivial (Below.refl _ _) (Nat.le_refl _) (by simp) ?_; (case hd => rfl); (case hg => rfl); (case hr => (go_simp; done)); (case hp => exact (Reps.none _ _)); intro v296 w6 ho7 hb hg_ hnew_; clear hg_ hnew_; (rw [← Ny295.out] at ho7); have HO297 := Aside0.mk (Kd.R_lower (Kd.R_newB (Kd.R_newM (M := fun k_ => (w.heap.size ≤ k_)) ho7 (below_size (by repeat ((with_reducible exact HB.out)))) (fun k_ h_ => h_)) (g := gb294) (o := .cells #[.int .i64 a0_0, .int .i64 a0_1, .int .i64 a0_2, .int .i64 a0_3] 23 (0, 0)) BK294.out) (below_size (by repeat ((with_reducible exact HB.out))))); replace BK294 := Aside0.mk (blk_below BK294.out hb); replace HB := Aside0.mk (below_step (by repeat ((with_reducible exact HB.out))) hb); clear hb ho7))
 (skip)
 go_cut [31] (fun v31 wc => ∃ (kq : Nat) (x31_3 : Bool), v31 = .bool x31_3 ∧ Aside0 (sashref04_Cut.j0 kq a1 l2 y295 x31_3 a0_0 a0_1 a0_2 a0_3 = some (r1, r2, r3)) ∧ Aside0 (kq ≤ k) ∧ Aside0 (Kd.R k23 23 wc w.heap.size (fun k_ => (w.heap.size ≤ k_) ∧ k_ ≠ gb294) v296 y295) ∧ Aside0 (wc.heap[gb294]? = some (.cells #[.int .i64 a0_0, .int .i64 a0_1, .int .i64 a0_2, .int .i64 a0_3] 23 (0, 0))) ∧ Aside0 (Below w.heap.size w wc))
 case first =>
  have H := HC4.out
  clear HC4
  replace H := Option.bind_eq_some_iff.mp H
  obtain ⟨t298, A80, H⟩ := H
  replace H : (if t298 = true then (if a1 < 1 then (sashref04_Cut.j0 k a1 l2 y295 true a0_0 a0_1 a0_2 a0_3) else (if a1 > 2 then (sashref04_Cut.j0 k a1 l2 y295 true a0_0 a0_1 a0_2 a0_3) else (sashref04_Cut.j0 k a1 l2 y295 ((l2.length : Int) == 0) a0_0 a0_1 a0_2 a0_3))) else (sashref04_Cut.j0 k a1 l2 y295 true a0_0 a0_1 a0_2 a0_3)) = some (r1, r2, r3) := H
  have A8 := Aside0.mk A80
  clear A80
  by_cases c9 : t298 = true
  ·subst c9
   have H1 : (if a1 < 1 then (sashref04_Cut.j0 k a1 l2 y295 true a0_0 a0_1 a0_2 a0_3) else (if a1 > 2 then (sashref04_Cut.j0 k a1 l2 y295 true a0_0 a0_1 a0_2 a0_3) else (sashref04_Cut.j0 k a1 l2 y295 ((l2.length : Int) == 0) a0_0 a0_1 a0_2 a0_3))) = some (r1, r2, r3) := by rw [if_pos rfl] at H; exact H
   clear H
   have H := H1
   clear H1
   by_cases c10 : a1 < 1
   ·rw [if_pos c10] at H
    have c10b0 : decide (a1 < 1) = true := decide_eq_true c10
    clear c10
    (skip)
    have H' := Aside0.mk H
    clear H
    have hcz11_0 : w6.cell? ⟨gb294, 0, none⟩ = some (.int .i64 a0_0) := (blk_cell BK294.out 0).trans rfl
    have hcz11_1 : w6.cell? ⟨gb294, 1, none⟩ = some (.int .i64 a0_1) := (blk_cell BK294.out 1).trans rfl
    have hcz11_2 : w6.cell? ⟨gb294, 2, none⟩ = some (.int .i64 a0_2) := (blk_cell BK294.out 2).trans rfl
    have hcz11_3 : w6.cell? ⟨gb294, 3, none⟩ = some (.int .i64 a0_3) := (blk_cell BK294.out 3).trans rfl
    have hfz11_0 := blk_frozen BK294.out 0
    have hfz11_1 := blk_frozen BK294.out 1
    have hfz11_2 := blk_frozen BK294.out 2
    have hfz11_3 := blk_frozen BK294.out 3
    go_wp2_with (((with_reducible refine gate_callee (f := 57) rfl ?_); refine goesL_ (some 17) rfl rfl Try.func57 (by kernel_rfl) rfl #[.agg #[.int .i64 a0_0, .int .i64 a0_1, .int .i64 a0_2, .int .i64 a0_3]] rfl (by (try simp only [List.map_toArray, List.map_cons, List.map_nil]); rfl) ?_; (with_reducible refine (sashref04_May.calls a0_0 a0_1 a0_2 a0_3 true _ A8.out).mono ?_); rintro e w12 ⟨rfl, hb⟩; refine ⟨_, rfl, ?_⟩; replace HO297 := Aside0.mk (Kd.R_below HO297.out hb); replace BK294 := Aside0.mk (blk_below BK294.out hb); replace HB := Aside0.mk (below_step (by repeat ((with_reducible exact HB.out))) hb); (try clear hb)))
    go_meet
    case rel => exact ⟨_, (true), (by rfl), H', ⟨by omega⟩, ⟨by exact Kd.R_mono HO297.out (fun _ hk => ⟨hk.1.1, hk.2⟩)⟩, ⟨by exact BK294.out⟩, ⟨by repeat ((with_reducible exact HB.out))⟩⟩
   ·rw [if_neg c10] at H
    have c10b0 : decide (a1 < 1) = false := decide_eq_false c10
    clear c10
    (skip)
    by_cases c13 : a1 > 2
    ·rw [if_pos c13] at H
     have c13b0 : decide (2 < a1) = true := decide_eq_true c13
     clear c13
     have H' := Aside0.mk H
     clear H
     have hcz14_0 : w6.cell? ⟨gb294, 0, none⟩ = some (.int .i64 a0_0) := (blk_cell BK294.out 0).trans rfl
     have hcz14_1 : w6.cell? ⟨gb294, 1, none⟩ = some (.int .i64 a0_1) := (blk_cell BK294.out 1).trans rfl
     have hcz14_2 : w6.cell? ⟨gb294, 2, none⟩ = some (.int .i64 a0_2) := (blk_cell BK294.out 2).trans rfl
     have hcz14_3 : w6.cell? ⟨gb294, 3, none⟩ = some (.int .i64 a0_3) := (blk_cell BK294.out 3).trans rfl
     have hfz14_0 := blk_frozen BK294.out 0
     have hfz14_1 := blk_frozen BK294.out 1
     have hfz14_2 := blk_frozen BK294.out 2
     have hfz14_3 := blk_frozen BK294.out 3
     go_wp2_with (((with_reducible refine gate_callee (f := 57) rfl ?_); refine goesL_ (some 17) rfl rfl Try.func57 (by kernel_rfl) rfl #[.agg #[.int .i64 a0_0, .int .i64 a0_1, .int .i64 a0_2, .int .i64 a0_3]] rfl (by (try simp only [List.map_toArray, List.map_cons, List.map_nil]); rfl) ?_; (with_reducible refine (sashref04_May.calls a0_0 a0_1 a0_2 a0_3 true _ A8.out).mono ?_); rintro e w15 ⟨rfl, hb⟩; refine ⟨_, rfl, ?_⟩; replace HO297 := Aside0.mk (Kd.R_below HO297.out hb); replace BK294 := Aside0.mk (blk_below BK294.out hb); replace HB := Aside0.mk (below_step (by repeat ((with_reducible exact HB.out))) hb); (try clear hb)))
     go_meet
     case rel => exact ⟨_, (true), (by rfl), H', ⟨by omega⟩, ⟨by exact Kd.R_mono HO297.out (fun _ hk => ⟨hk.1.1, hk.2⟩)⟩, ⟨by exact BK294.out⟩, ⟨by repeat ((with_reducible exact HB.out))⟩⟩
    ·rw [if_neg c13] at H
     have c13b0 : decide (2 < a1) = false := decide_eq_false c13
     clear c13
     have H' := Aside0.mk H
     clear H
     have hcz16_0 : w6.cell? ⟨gb294, 0, none⟩ = some (.int .i64 a0_0) := (blk_cell BK294.out 0).trans rfl
     have hcz16_1 : w6.cell? ⟨gb294, 1, none⟩ = some (.int .i64 a0_1) := (blk_cell BK294.out 1).trans rfl
     have hcz16_2 : w6.cell? ⟨gb294, 2, none⟩ = some (.int .i64 a0_2) := (blk_cell BK294.out 2).trans rfl
     have hcz16_3 : w6.cell? ⟨gb294, 3, none⟩ = some (.int .i64 a0_3) := (blk_cell BK294.out 3).trans rfl
     have hfz16_0 := blk_frozen BK294.out 0
     have hfz16_1 := blk_frozen BK294.out 1
     have hfz16_2 := blk_frozen BK294.out 2
     have hfz16_3 := blk_frozen BK294.out 3
     go_wp2_with (((with_reducible refine gate_callee (f := 57) rfl ?_); refine goesL_ (some 17) rfl rfl Try.func57 (by kernel_rfl) rfl #[.agg #[.int .i64 a0_0, .int .i64 a0_1, .int .i64 a0_2, .int .i64 a0_3]] rfl (by (try simp only [List.map_toArray, List.map_cons, List.map_nil]); rfl) ?_; (with_reducible refine (sashref04_May.calls a0_0 a0_1 a0_2 a0_3 true _ A8.out).mono ?_); rintro e w17 ⟨rfl, hb⟩; refine ⟨_, rfl, ?_⟩; replace HO297 := Aside0.mk (Kd.R_below HO297.out hb); replace BK294 := Aside0.mk (blk_below BK294.out hb); replace HB := Aside0.mk (below_step (by repeat ((with_reducible exact HB.out))) hb); (try clear hb)))
     go_meet
     case rel => exact ⟨_, (((l2.length : Int) == 0)), (by rfl), H', ⟨by omega⟩, ⟨by exact Kd.R_mono HO297.out (fun _ hk => ⟨hk.1.1, hk.2⟩)⟩, ⟨by exact BK294.out⟩, ⟨by repeat ((with_reducible exact HB.out))⟩⟩
  ·replace c9 := Bool.eq_false_iff.mpr c9
   subst c9
   have H1 : (sashref04_Cut.j0 k a1 l2 y295 true a0_0 a0_1 a0_2 a0_3) = some (r1, r2, r3) := by rw [if_neg (show ¬ (false = true) by decide)] at H; exact H
   clear H
   have H := H1
   clear H1
   have H' := Aside0.mk H
   clear H
   have hcz18_0 : w6.cell? ⟨gb294, 0, none⟩ = some (.int .i64 a0_0) := (blk_cell BK294.out 0).trans rfl
   have hcz18_1 : w6.cell? ⟨gb294, 1, none⟩ = some (.int .i64 a0_1) := (blk_cell BK294.out 1).trans rfl
   have hcz18_2 : w6.cell? ⟨gb294, 2, none⟩ = some (.int .i64 a0_2) := (blk_cell BK294.out 2).trans rfl
   have hcz18_3 : w6.cell? ⟨gb294, 3, none⟩ = some (.int .i64 a0_3) := (blk_cell BK294.out 3).trans rfl
   have hfz18_0 := blk_frozen BK294.out 0
   have hfz18_1 := blk_frozen BK294.out 1
   have hfz18_2 := blk_frozen BK294.out 2
   have hfz18_3 := blk_frozen BK294.out 3
   go_wp2_with (((with_reducible refine gate_callee (f := 57) rfl ?_); refine goesL_ (some 17) rfl rfl Try.func57 (by kernel_rfl) rfl #[.agg #[.int .i64 a0_0, .int .i64 a0_1, .int .i64 a0_2, .int .i64 a0_3]] rfl (by (try simp only [List.map_toArray, List.map_cons, List.map_nil]); rfl) ?_; (with_reducible refine (sashref04_May.calls a0_0 a0_1 a0_2 a0_3 false _ A8.out).mono ?_); rintro e w19 ⟨rfl, hb⟩; refine ⟨_, rfl, ?_⟩; replace HO297 := Aside0.mk (Kd.R_below HO297.out hb); replace BK294 := Aside0.mk (blk_below BK294.out hb); replace HB := Aside0.mk (below_step (by repeat ((with_reducible exact HB.out))) hb); (try clear hb)))
   go_meet
   case rel => exact ⟨_, (true), (by rfl), H', ⟨by omega⟩, ⟨by exact Kd.R_mono HO297.out (fun _ hk => ⟨hk.1.1, hk.2⟩)⟩, ⟨by exact BK294.out⟩, ⟨by repeat ((with_reducible exact HB.out))⟩⟩
 case rest =>
  clear HC4
  obtain ⟨kq, x31_3, rfl, HA, HJ3, HO_9, BK294, HB⟩ := hcut
  cases kq with
  | zero => exact absurd HA.out (by simp [sashref04_Cut.j0])
  | succ kj3 =>
   have H := HA.out
   clear HA
   simp only [sashref04_Cut.j0] at H
   by_cases c20 : x31_3 = true
   ·subst c20
    have H1 : (some (y295, y295, false)) = some (r1, r2, r3) := by rw [if_pos rfl] at H; exact H
    clear H
    have H := H1
    clear H1
    simp only [Option.some.injEq, Prod.mk.injEq] at H
    obtain ⟨rfl, rfl, rfl⟩ := H
    go_wp2
    go_ret3
    exact ⟨_, _, by rfl, Kd.R_V (by exact Kd.R_mono HO_9.out (fun _ hk => hk.1)), Kd.R_V (by exact Kd.R_mono HO_9.out (fun _ hk => hk.1)), by repeat ((with_reducible exact HB.out))⟩
   ·replace c20 := Bool.eq_false_iff.mpr c20
    subst c20
    have H1 : (if a1 = 2 then (sashref04_Cut.j1 kj3 a1 l2 y295 a0_3 a0_0 a0_1 a0_2 a0_3) else (sashref04_Cut.j1 kj3 a1 l2 y295 a0_2 a0_0 a0_1 a0_2 a0_3)) = some (r1, r2, r3) := by rw [if_neg (show ¬ (false = true) by decide)] at H; exact H
    clear H
    have H := H1
    clear H1
    have HC21 := Aside0.mk H
    clear H
    have hcz22_0 : wc.cell? ⟨gb294, 0, none⟩ = some (.int .i64 a0_0) := (blk_cell BK294.out 0).trans rfl
    have hcz22_1 : wc.cell? ⟨gb294, 1, none⟩ = some (.int .i64 a0_1) := (blk_cell BK294.out 1).trans rfl
    have hcz22_2 : wc.cell? ⟨gb294, 2, none⟩ = some (.int .i64 a0_2) := (blk_cell BK294.out 2).trans rfl
    have hcz22_3 : wc.cell? ⟨gb294, 3, none⟩ = some (.int .i64 a0_3) := (blk_cell BK294.out 3).trans rfl
    have hfz22_0 := blk_frozen BK294.out 0
    have hfz22_1 := blk_frozen BK294.out 1
    have hfz22_2 := blk_frozen BK294.out 2
    have hfz22_3 := blk_frozen BK294.out 3
    go_upto_if 37 with (fail)
    go_cut [10] (fun v10 wc => ∃ (kq : Nat) (x10_20 : Int), v10 = .int .i64 x10_20 ∧ Aside0 (sashref04_Cut.j1 kq a1 l2 y295 x10_20 a0_0 a0_1 a0_2 a0_3 = some (r1, r2, r3)) ∧ Aside0 (kq ≤ kj3) ∧ Aside0 (Kd.R k23 23 wc w.heap.size (fun k_ => (w.heap.size ≤ k_) ∧ k_ ≠ gb294) v296 y295) ∧ Aside0 (wc.heap[gb294]? = some (.cells #[.int .i64 a0_0, .int .i64 a0_1, .int .i64 a0_2, .int .i64 a0_3] 23 (0, 0))) ∧ Aside0 (Below w.heap.size w wc))
    case first =>
     have H := HC21.out
     clear HC21
     by_cases c23 : a1 = 2
     ·rw [if_pos c23] at H
      have c23b0 : (a1 == 2) = true := beq_iff_eq.mpr c23
      have c23b1 : (a1 != 2) = false := bne_eq_false_iff_eq.mpr c23
      clear c23
      (rw [c23b0])
      have H' := Aside0.mk H
      clear H
      have hcz24_0 : wc.cell? ⟨gb294, 0, none⟩ = some (.int .i64 a0_0) := (blk_cell BK294.out 0).trans rfl
      have hcz24_1 : wc.cell? ⟨gb294, 1, none⟩ = some (.int .i64 a0_1) := (blk_cell BK294.out 1).trans rfl
      have hcz24_2 : wc.cell? ⟨gb294, 2, none⟩ = some (.int .i64 a0_2) := (blk_cell BK294.out 2).trans rfl
      have hcz24_3 : wc.cell? ⟨gb294, 3, none⟩ = some (.int .i64 a0_3) := (blk_cell BK294.out 3).trans rfl
      have hfz24_0 := blk_frozen BK294.out 0
      have hfz24_1 := blk_frozen BK294.out 1
      have hfz24_2 := blk_frozen BK294.out 2
      have hfz24_3 := blk_frozen BK294.out 3
      go_wp2
      go_meet
      case rel => exact ⟨_, (a0_3), (by rfl), H', ⟨by have := HJ3.out; omega⟩, ⟨by exact HO_9.out⟩, ⟨by exact BK294.out⟩, ⟨by repeat ((with_reducible exact HB.out))⟩⟩
     ·rw [if_neg c23] at H
      have c23b0 : (a1 == 2) = false := beq_eq_false_iff_ne.mpr c23
      have c23b1 : (a1 != 2) = true := bne_iff_ne.mpr c23
      (rw [c23b0])
      have H' := Aside0.mk H
      clear H
      go_wp2
      go_meet
      case rel => exact ⟨_, (a0_2), (by rfl), H', ⟨by have := HJ3.out; omega⟩, ⟨by exact HO_9.out⟩, ⟨by exact BK294.out⟩, ⟨by repeat ((with_reducible exact HB.out))⟩⟩
    case rest =>
     clear HC21
     clear hcz22_0 hcz22_1 hcz22_2 hcz22_3 hfz22_0 hfz22_1 hfz22_2 hfz22_3
     obtain ⟨kq, x10_20, rfl, HA, HJ20, HO_9, BK294, HB⟩ := hcut
     cases kq with
     | zero => exact absurd HA.out (by simp [sashref04_Cut.j1])
     | succ kj20 =>
      have H := HA.out
      clear HA
      simp only [sashref04_Cut.j1] at H
      obtain ⟨y299, hy299⟩ : ∃ y_ : List (S23), y_ = (([] : List (S23))) := ⟨_, rfl⟩
      replace H : (sashref04_Cut.l0 kj20 a1 l2 y295 x10_20 y299 (([] : List (S23))) 0 (l2.length : Int) 0 a0_0 a0_1 a0_2 a0_3) = some (r1, r2, r3) := by (rw [hy299]; with_reducible exact H)
      have Ny299 := Aside0.mk hy299
      clear hy299
      obtain ⟨y302, hy302⟩ : ∃ y_ : List (S23), y_ = (([] : List (S23))) := ⟨_, rfl⟩
      replace H : (sashref04_Cut.l0 kj20 a1 l2 y295 x10_20 y299 y302 0 (l2.length : Int) 0 a0_0 a0_1 a0_2 a0_3) = some (r1, r2, r3) := by (rw [hy302]; with_reducible exact H)
      have Ny302 := Aside0.mk hy302
      clear hy302
      have H' := Aside0.mk H
      clear H
      go_wp2_with (first | ((with_reducible refine gate_dst (N := 40) rfl ?_); (try (refine gate_guard (by rfl) ?_; dsimp only)); refine Kd.R_lit k23 _ 23 ?hg (N := 40) ?hd (xs := ([] : List (S23))) (inner := []) (ok := fun _ => True) (okp := fun _ => True) ?hr ?hp (fun _ hk => hk) trivial (Below.refl _ _) (Nat.le_refl _) (by simp) ?_; (case hd => rfl); (case hg => rfl); (case hr => (go_simp; done)); (case hp => exact (Reps.none _ _)); intro v300 w25 ho26 hb hg_ hnew_; clear hg_ hnew_; (rw [← Ny299.out] at ho26); have HO301 := Aside0.mk (Kd.R_lower (Kd.R_newB (Kd.R_new' (Kd.R_newM (M := fun k_ => (w.heap.size ≤ k_)) ho26 (below_size (by repeat ((with_reducible exact HB.out)))) (fun k_ h_ => h_)) (Kd.R_lt HO_9.out)) (g := gb294) (o := .cells #[.int .i64 a0_0, .int .i64 a0_1, .int .i64 a0_2, .int .i64 a0_3] 23 (0, 0)) BK294.out) (below_size (by repeat ((with_reducible exact HB.out))))); replace HO_9 := Aside0.mk (Kd.R_elder' HO_9.out (Kd.R_base ho26) hb); replace BK294 := Aside0.mk (blk_below BK294.out hb); replace HB := Aside0.mk (below_step (by repeat ((with_reducible exact HB.out))) hb); clear hb ho26) | ((with_reducible refine gate_dst (N := 41) rfl ?_); (try (refine gate_guard (by rfl) ?_; dsimp only)); refine Kd.R_lit k23 _ 23 ?hg (N := 41) ?hd (xs := ([] : List (S23))) (inner := []) (ok := fun _ => True) (okp := fun _ => True) ?hr ?hp (fun _ hk => hk) trivial (Below.refl _ _) (Nat.le_refl _) (by simp) ?_; (case hd => rfl); (case hg => rfl); (case hr => (go_simp; done)); (case hp => exact (Reps.none _ _)); intro v303 w27 ho28 hb hg_ hnew_; clear hg_ hnew_; (rw [← Ny302.out] at ho28); have HO304 := Aside0.mk (Kd.R_lower (Kd.R_newB (Kd.R_new' (Kd.R_new' (Kd.R_newM (M := fun k_ => (w.heap.size ≤ k_)) ho28 (below_size (by repeat ((with_reducible exact HB.out)))) (fun k_ h_ => h_)) (Kd.R_lt HO_9.out)) (Kd.R_lt HO301.out)) (g := gb294) (o := .cells #[.int .i64 a0_0, .int .i64 a0_1, .int .i64 a0_2, .int .i64 a0_3] 23 (0, 0)) BK294.out) (below_size (by repeat ((with_reducible exact HB.out))))); replace HO_9 := Aside0.mk (Kd.R_elder' HO_9.out (Kd.R_base ho28) hb); replace HO301 := Aside0.mk (Kd.R_elder' HO301.out (Kd.R_base ho28) hb); replace BK294 := Aside0.mk (blk_below BK294.out hb); replace HB := Aside0.mk (below_step (by repeat ((with_reducible exact HB.out))) hb); clear hb ho28))
      go_loopg [11, 12, 13, 44] kj20 (fun kq v11 v12 v13 v44 w' => ∃ (x11_3 : List (S23)) (x12_3 : List (S23)) (x13_3 : Int) (x44_3 : Int), v13 = .int .i64 x13_3 ∧ v44 = .int .i64 x44_3 ∧ Aside0 (sashref04_Cut.l0 kq a1 l2 y295 x10_20 x11_3 x12_3 x13_3 (l2.length : Int) x44_3 a0_0 a0_1 a0_2 a0_3 = some (r1, r2, r3)) ∧ Aside0 (kq ≤ kj20) ∧ Aside0 (Kd.R k23 23 w' w.heap.size (fun k_ => (w.heap.size ≤ k_) ∧ some k_ ≠ (v11 : Value).ownBlock ∧ some k_ ≠ (v12 : Value).ownBlock ∧ k_ ≠ gb294) v296 y295) ∧ Aside0 (Kd.R k23 23 w' w.heap.size (fun k_ => (w.heap.size ≤ k_) ∧ some k_ ≠ (v296 : Value).ownBlock ∧ some k_ ≠ (v12 : Value).ownBlock ∧ k_ ≠ gb294) v11 x11_3) ∧ Aside0 (Kd.R k23 23 w' w.heap.size (fun k_ => (w.heap.size ≤ k_) ∧ some k_ ≠ (v296 : Value).ownBlock ∧ some k_ ≠ (v11 : Value).ownBlock ∧ k_ ≠ gb294) v12 x12_3) ∧ Aside0 (w'.heap[gb294]? = some (.cells #[.int .i64 a0_0, .int .i64 a0_1, .int .i64 a0_2, .int .i64 a0_3] 23 (0, 0))) ∧ Aside0 (Below w.heap.size w w'))
      case atStart => exact ⟨(y299), (y302), (0), (0), (by rfl), (by rfl), H', ⟨Nat.le_refl _⟩, ⟨by exact Kd.R_mono HO_9.out (fun _ hk => ⟨hk.1.1.1, ⟨hk.1.2, ⟨hk.2, hk.1.1.2⟩⟩⟩)⟩, ⟨by exact Kd.R_mono HO301.out (fun _ hk => ⟨hk.1.1.1.1, ⟨hk.1.1.2, ⟨hk.2, hk.1.2⟩⟩⟩)⟩, ⟨by exact Kd.R_mono HO304.out (fun _ hk => ⟨hk.1.1.1.1, ⟨hk.1.1.2, ⟨hk.1.2, hk.2⟩⟩⟩)⟩, ⟨by exact BK294.out⟩, ⟨by repeat ((with_reducible exact HB.out))⟩⟩
      case round =>
       clear H'
       obtain ⟨x11_3, x12_3, x13_3, x44_3, rfl, rfl, HA, HK3, HO_9, HO_11, HO_12, BK294, HB⟩ := hrel
       cases gk with
       | zero => exact absurd HA.out (by simp [sashref04_Cut.l0])
       | succ k3 =>
        have H := HA.out
        clear HA
        simp only [sashref04_Cut.l0] at H
        by_cases c29 : x44_3 < (l2.length : Int)
        ·rw [if_pos c29] at H
         have c29b0 : decide (x44_3 < (l2.length : Int)) = true := decide_eq_true c29
         clear c29
         have HC30 := Aside0.mk H
         clear H
         go_upto_if 48 with (fail)
         go_cut [12, 13] (fun v12 v13 wc => ∃ (kq : Nat) (x12_29 : List (S23)) (x13_29 : Int), v13 = .int .i64 x13_29 ∧ Aside0 (sashref04_Cut.j3 kq a1 l2 y295 x10_20 x11_3 x12_29 x13_29 x44_3 (l2.length : Int) x44_3 a0_0 a0_1 a0_2 a0_3 = some (r1, r2, r3)) ∧ Aside0 (kq ≤ k3) ∧ Aside0 (Kd.R k23 23 wc w.heap.size (fun k_ => (w.heap.size ≤ k_) ∧ some k_ ≠ (u11 : Value).ownBlock ∧ some k_ ≠ (v12 : Value).ownBlock ∧ k_ ≠ gb294) v296 y295) ∧ Aside0 (Kd.R k23 23 wc w.heap.size (fun k_ => (w.heap.size ≤ k_) ∧ some k_ ≠ (v296 : Value).ownBlock ∧ some k_ ≠ (v12 : Value).ownBlock ∧ k_ ≠ gb294) u11 x11_3) ∧ Aside0 (Kd.R k23 23 wc w.heap.size (fun k_ => (w.heap.size ≤ k_) ∧ some k_ ≠ (v296 : Value).ownBlock ∧ some k_ ≠ (u11 : Value).ownBlock ∧ k_ ≠ gb294) v12 x12_29) ∧ Aside0 (wc.heap[gb294]? = some (.cells #[.int .i64 a0_0, .int .i64 a0_1, .int .i64 a0_2, .int .i64 a0_3] 23 (0, 0))) ∧ Aside0 (Below w.heap.size w wc))
         case first =>
          have H := HC30.out
          clear HC30
          by_cases c31 : x44_3 > 0
          ·rw [if_pos c31] at H
           have c31b0 : decide (0 < x44_3) = true := decide_eq_true c31
           clear c31
           (rw [c31b0])
           by_cases c32 : a1 = 1
           ·rw [if_pos c32] at H
            have c32b0 : (a1 == 1) = true := beq_iff_eq.mpr c32
            have c32b1 : (a1 != 1) = false := bne_eq_false_iff_eq.mpr c32
            clear c32
            by_cases c33 : x12_3.length < 4398046511104
            ·rw [if_pos c33] at H
             have LMc33 := Aside0.mk c33
             clear c33
             obtain ⟨y305, hy305⟩ : ∃ y_ : List (S23), y_ = (x12_3 ++ [(⟨wrap64 (a0_0 + x13_3), a0_1, 1, a0_3⟩ : S23)]) := ⟨_, rfl⟩
             replace H : (sashref04_Cut.j3 k3 a1 l2 y295 x10_20 x11_3 y305 (wrap64 (x13_3 + 1)) x44_3 (l2.length : Int) x44_3 a0_0 a0_1 a0_2 a0_3) = some (r1, r2, r3) := by (rw [hy305]; with_reducible exact H)
             have Ny305 := Aside0.mk hy305
             clear hy305
             have H' := Aside0.mk H
             clear H
             have hcz34_0 : wr.cell? ⟨gb294, 0, none⟩ = some (.int .i64 a0_0) := (blk_cell BK294.out 0).trans rfl
             have hcz34_1 : wr.cell? ⟨gb294, 1, none⟩ = some (.int .i64 a0_1) := (blk_cell BK294.out 1).trans rfl
             have hcz34_2 : wr.cell? ⟨gb294, 2, none⟩ = some (.int .i64 a0_2) := (blk_cell BK294.out 2).trans rfl
             have hcz34_3 : wr.cell? ⟨gb294, 3, none⟩ = some (.int .i64 a0_3) := (blk_cell BK294.out 3).trans rfl
             have hfz34_0 := blk_frozen BK294.out 0
             have hfz34_1 := blk_frozen BK294.out 1
             have hfz34_2 := blk_frozen BK294.out 2
             have hfz34_3 := blk_frozen BK294.out 3
             go_wp2_with (((with_reducible refine gate_builtin (b := .append) (xs := #[.tmp 51, .tmp 61]) rfl ?_); (try (refine gate_guard (by rfl) ?_; dsimp only)); at_builtin; refine Kd.R_append k23 (w0 := w) w.heap.size rfl (.tmp 51) (.tmp 61) 42 23 (.agg #[(.int .i64 0), (.int .i64 0), (.int .i64 0), (.int .i64 0)]) 32 rfl Try.underlying42 info23 rfl (by decide) (by omega) u12 x12_3 (⟨wrap64 (a0_0 + x13_3), a0_1, 1, a0_3⟩ : S23) [.int .i64 (wrap64 (a0_0 + x13_3)), .int .i64 a0_1, .int .i64 1, .int .i64 a0_3] (fun k_ => (w.heap.size ≤ k_) ∧ some k_ ≠ (v296 : Value).ownBlock ∧ some k_ ≠ (u11 : Value).ownBlock ∧ k_ ≠ gb294) (fun _ => False) rfl rfl ?aP (fun _ hk => hk.elim) ?aF ?aO ?aB ?aS ?aL ?_; (case aP => exact k23_mkM _ _ _ (⟨wrap64 (a0_0 + x13_3), a0_1, 1, a0_3⟩ : S23)); (case aB => exact (by repeat ((with_reducible exact HB.out)))); (case aF => exact (fun k_ hk => ⟨(Nat.le_trans (below_size (by repeat ((with_reducible exact HB.out)))) hk), Kd.fresh' (Kd.R_lt HO_9.out) k_ hk, Kd.fresh' (Kd.R_lt HO_11.out) k_ hk, Kd.freshB BK294.out k_ hk⟩)); (case aO => exact HO_12.out); (case aS => exact (below_size (by repeat ((with_reducible exact HB.out))))); (case aL => have := LMc33.out; omega); intro v306 w35 ho hb hg hat; rw [← Ny305.out] at ho; have HO307 := Aside0.mk (ho); replace HO_9 := Aside0.mk (Kd.R_after (ok := (fun k_ => (w.heap.size ≤ k_) ∧ some k_ ≠ (u11 : Value).ownBlock ∧ k_ ≠ gb294)) (by exact Kd.R_mono HO_9.out (fun _ hk => ⟨⟨hk.1, ⟨hk.2.1, hk.2.2.2⟩⟩, hk.2.2.1⟩)) hg hat); replace HO_11 := Aside0.mk (Kd.R_after (ok := (fun k_ => (w.heap.size ≤ k_) ∧ some k_ ≠ (v296 : Value).ownBlock ∧ k_ ≠ gb294)) (by exact Kd.R_mono HO_11.out (fun _ hk => ⟨⟨hk.1, ⟨hk.2.1, hk.2.2.2⟩⟩, hk.2.2.1⟩)) hg hat); replace BK294 := Aside0.mk (blk_grown BK294.out hg (Kd.R_away HO_12.out (fun _ hk => hk.2.2.2))); replace HB := Aside0.mk (hb); clear HO_12; clear ho hb hg hat))
             go_meet
             case rel => exact ⟨_, (y305), (wrap64 (x13_3 + 1)), (by rfl), H', ⟨by have := HJ3.out; have := HJ20.out; have := HK3.out; omega⟩, ⟨by exact Kd.R_mono HO_9.out (fun _ hk => ⟨hk.1.1, ⟨hk.1.2.1, ⟨hk.2, hk.1.2.2⟩⟩⟩)⟩, ⟨by exact Kd.R_mono HO_11.out (fun _ hk => ⟨hk.1.1, ⟨hk.1.2.1, ⟨hk.2, hk.1.2.2⟩⟩⟩)⟩, ⟨by exact HO307.out⟩, ⟨by exact BK294.out⟩, ⟨by repeat ((with_reducible exact HB.out))⟩⟩
            ·rw [if_neg c33] at H
             exact absurd H (by simp)
           ·rw [if_neg c32] at H
            have c32b0 : (a1 == 1) = false := beq_eq_false_iff_ne.mpr c32
            have c32b1 : (a1 != 1) = true := bne_iff_ne.mpr c32
            by_cases c36 : x12_3.length < 4398046511104
            ·rw [if_pos c36] at H
             have LMc36 := Aside0.mk c36
             clear c36
             obtain ⟨y308, hy308⟩ : ∃ y_ : List (S23), y_ = (x12_3 ++ [(⟨a0_0, wrap64 (a0_1 + x13_3), a0_2, 1⟩ : S23)]) := ⟨_, rfl⟩
             replace H : (sashref04_Cut.j3 k3 a1 l2 y295 x10_20 x11_3 y308 (wrap64 (x13_3 + 1)) x44_3 (l2.length : Int) x44_3 a0_0 a0_1 a0_2 a0_3) = some (r1, r2, r3) := by (rw [hy308]; with_reducible exact H)
             have Ny308 := Aside0.mk hy308
             clear hy308
             have H' := Aside0.mk H
             clear H
             have hcz37_0 : wr.cell? ⟨gb294, 0, none⟩ = some (.int .i64 a0_0) := (blk_cell BK294.out 0).trans rfl
             have hcz37_1 : wr.cell? ⟨gb294, 1, none⟩ = some (.int .i64 a0_1) := (blk_cell BK294.out 1).trans rfl
             have hcz37_2 : wr.cell? ⟨gb294, 2, none⟩ = some (.int .i64 a0_2) := (blk_cell BK294.out 2).trans rfl
             have hcz37_3 : wr.cell? ⟨gb294, 3, none⟩ = some (.int .i64 a0_3) := (blk_cell BK294.out 3).trans rfl
             have hfz37_0 := blk_frozen BK294.out 0
             have hfz37_1 := blk_frozen BK294.out 1
             have hfz37_2 := blk_frozen BK294.out 2
             have hfz37_3 := blk_frozen BK294.out 3
             go_wp2_with (((with_reducible refine gate_builtin (b := .append) (xs := #[.tmp 63, .tmp 73]) rfl ?_); (try (refine gate_guard (by rfl) ?_; dsimp only)); at_builtin; refine Kd.R_append k23 (w0 := w) w.heap.size rfl (.tmp 63) (.tmp 73) 42 23 (.agg #[(.int .i64 0), (.int .i64 0), (.int .i64 0), (.int .i64 0)]) 32 rfl Try.underlying42 info23 rfl (by decide) (by omega) u12 x12_3 (⟨a0_0, wrap64 (a0_1 + x13_3), a0_2, 1⟩ : S23) [.int .i64 a0_0, .int .i64 (wrap64 (a0_1 + x13_3)), .int .i64 a0_2, .int .i64 1] (fun k_ => (w.heap.size ≤ k_) ∧ some k_ ≠ (v296 : Value).ownBlock ∧ some k_ ≠ (u11 : Value).ownBlock ∧ k_ ≠ gb294) (fun _ => False) rfl rfl ?aP (fun _ hk => hk.elim) ?aF ?aO ?aB ?aS ?aL ?_; (case aP => exact k23_mkM _ _ _ (⟨a0_0, wrap64 (a0_1 + x13_3), a0_2, 1⟩ : S23)); (case aB => exact (by repeat ((with_reducible exact HB.out)))); (case aF => exact (fun k_ hk => ⟨(Nat.le_trans (below_size (by repeat ((with_reducible exact HB.out)))) hk), Kd.fresh' (Kd.R_lt HO_9.out) k_ hk, Kd.fresh' (Kd.R_lt HO_11.out) k_ hk, Kd.freshB BK294.out k_ hk⟩)); (case aO => exact HO_12.out); (case aS => exact (below_size (by repeat ((with_reducible exact HB.out))))); (case aL => have := LMc36.out; omega); intro v309 w38 ho hb hg hat; rw [← Ny308.out] at ho; have HO310 := Aside0.mk (ho); replace HO_9 := Aside0.mk (Kd.R_after (ok := (fun k_ => (w.heap.size ≤ k_) ∧ some k_ ≠ (u11 : Value).ownBlock ∧ k_ ≠ gb294)) (by exact Kd.R_mono HO_9.out (fun _ hk => ⟨⟨hk.1, ⟨hk.2.1, hk.2.2.2⟩⟩, hk.2.2.1⟩)) hg hat); replace HO_11 := Aside0.mk (Kd.R_after (ok := (fun k_ => (w.heap.size ≤ k_) ∧ some k_ ≠ (v296 : Value).ownBlock ∧ k_ ≠ gb294)) (by exact Kd.R_mono HO_11.out (fun _ hk => ⟨⟨hk.1, ⟨hk.2.1, hk.2.2.2⟩⟩, hk.2.2.1⟩)) hg hat); replace BK294 := Aside0.mk (blk_grown BK294.out hg (Kd.R_away HO_12.out (fun _ hk => hk.2.2.2))); replace HB := Aside0.mk (hb); clear HO_12; clear ho hb hg hat))
             go_meet
             case rel => exact ⟨_, (y308), (wrap64 (x13_3 + 1)), (by rfl), H', ⟨by have := HJ3.out; have := HJ20.out; have := HK3.out; omega⟩, ⟨by exact Kd.R_mono HO_9.out (fun _ hk => ⟨hk.1.1, ⟨hk.1.2.1, ⟨hk.2, hk.1.2.2⟩⟩⟩)⟩, ⟨by exact Kd.R_mono HO_11.out (fun _ hk => ⟨hk.1.1, ⟨hk.1.2.1, ⟨hk.2, hk.1.2.2⟩⟩⟩)⟩, ⟨by exact HO310.out⟩, ⟨by exact BK294.out⟩, ⟨by repeat ((with_reducible exact HB.out))⟩⟩
            ·rw [if_neg c36] at H
             exact absurd H (by simp)
          ·rw [if_neg c31] at H
           have c31b0 : decide (0 < x44_3) = false := decide_eq_false c31
           clear c31
           (rw [c31b0])
           have H' := Aside0.mk H
           clear H
           go_wp2
           go_meet
           case rel => exact ⟨_, (x12_3), (x13_3), (by rfl), H', ⟨by have := HJ3.out; have := HJ20.out; have := HK3.out; omega⟩, ⟨by exact HO_9.out⟩, ⟨by exact HO_11.out⟩, ⟨by exact HO_12.out⟩, ⟨by exact BK294.out⟩, ⟨by repeat ((with_reducible exact HB.out))⟩⟩
         case rest =>
          clear HC30
          clear c29b0
          obtain ⟨kq, x12_29, x13_29, rfl, HA, HJ29, HO_9, HO_11, HO_12, BK294, HB⟩ := hcut
          cases kq with
          | zero => exact absurd HA.out (by simp [sashref04_Cut.j3])
          | succ kj29 =>
           have H := HA.out
           clear HA
           simp only [sashref04_Cut.j3] at H
           have HC39 := Aside0.mk H
           clear H
           go_upto_region 17 with (fail)
           go_cut [99] (fun v99 wc => ∃ (kq : Nat) (x99_38 : Bool), v99 = .bool x99_38 ∧ Aside0 (sashref04_Cut.j4 kq a1 l2 y295 x10_20 x11_3 x12_29 x13_29 x44_3 (l2.length : Int) x44_3 x99_38 a0_0 a0_1 a0_2 a0_3 = some (r1, r2, r3)) ∧ Aside0 (kq ≤ kj29) ∧ Aside0 (Kd.R k23 23 wc w.heap.size (fun k_ => (w.heap.size ≤ k_) ∧ some k_ ≠ (u11 : Value).ownBlock ∧ some k_ ≠ (u12 : Value).ownBlock ∧ k_ ≠ gb294) v296 y295) ∧ Aside0 (Kd.R k23 23 wc w.heap.size (fun k_ => (w.heap.size ≤ k_) ∧ some k_ ≠ (v296 : Value).ownBlock ∧ some k_ ≠ (u12 : Value).ownBlock ∧ k_ ≠ gb294) u11 x11_3) ∧ Aside0 (Kd.R k23 23 wc w.heap.size (fun k_ => (w.heap.size ≤ k_) ∧ some k_ ≠ (v296 : Value).ownBlock ∧ some k_ ≠ (u11 : Value).ownBlock ∧ k_ ≠ gb294) u12 x12_29) ∧ Aside0 (wc.heap[gb294]? = some (.cells #[.int .i64 a0_0, .int .i64 a0_1, .int .i64 a0_2, .int .i64 a0_3] 23 (0, 0))) ∧ Aside0 (Below w.heap.size w wc))
           case first =>
            have H := HC39.out
            clear HC39
            by_cases c40 : 0 ≤ x44_3
            ·rw [if_pos c40] at H
             have c40b0 : decide (0 ≤ x44_3) = true := decide_eq_true c40
             clear c40
             (skip)
             by_cases c41 : x44_3 < (l2.length : Int)
             ·rw [if_pos c41] at H
              have c41b0 : decide (x44_3 < (l2.length : Int)) = true := decide_eq_true c41
              clear c41
              by_cases c42 : (rd l2 x44_3) < 1
              ·rw [if_pos c42] at H
               have c42b0 : decide ((rd l2 x44_3) < 1) = true := decide_eq_true c42
               clear c42
               have H' := Aside0.mk H
               clear H
               have p311 : 0 ≤ (x44_3 : Int) := of_decide_eq_true (by (with_reducible assumption))
               have q311 : x44_3 < (l2.length : Int) := of_decide_eq_true (by (with_reducible assumption))
               obtain ⟨ad311, e311, hx311_0⟩ := Kd.at_int HR2.out x44_3 p311 q311
               cases e311
               replace hx311_0 := (HB.out.cell (World.block_lt_of_cell? w _ hx311_0)).trans hx311_0
               replace p311 := eq_true p311
               replace q311 := eq_true q311
               go_wp2
               go_meet
               case rel => exact ⟨_, (true), (by rfl), H', ⟨by have := HJ3.out; have := HJ20.out; have := HK3.out; have := HJ29.out; omega⟩, ⟨by exact HO_9.out⟩, ⟨by exact HO_11.out⟩, ⟨by exact HO_12.out⟩, ⟨by exact BK294.out⟩, ⟨by repeat ((with_reducible exact HB.out))⟩⟩
              ·rw [if_neg c42] at H
               have c42b0 : decide ((rd l2 x44_3) < 1) = false := decide_eq_false c42
               clear c42
               by_cases c43 : (rd l2 x44_3) > x10_20
               ·rw [if_pos c43] at H
                have c43b0 : decide (x10_20 < (rd l2 x44_3)) = true := decide_eq_true c43
                clear c43
                have H' := Aside0.mk H
                clear H
                have p311 : 0 ≤ (x44_3 : Int) := of_decide_eq_true (by (with_reducible assumption))
                have q311 : x44_3 < (l2.length : Int) := of_decide_eq_true (by (with_reducible assumption))
                obtain ⟨ad311, e311, hx311_0⟩ := Kd.at_int HR2.out x44_3 p311 q311
                cases e311
                replace hx311_0 := (HB.out.cell (World.block_lt_of_cell? w _ hx311_0)).trans hx311_0
                replace p311 := eq_true p311
                replace q311 := eq_true q311
                have p312 : 0 ≤ (x44_3 : Int) := of_decide_eq_true (by (with_reducible assumption))
                have q312 : x44_3 < (l2.length : Int) := of_decide_eq_true (by (with_reducible assumption))
                obtain ⟨ad312, e312, hx312_0⟩ := Kd.at_int HR2.out x44_3 p312 q312
                obtain rfl : ad311 = ad312 := (by injection e312)
                replace hx312_0 := (HB.out.cell (World.block_lt_of_cell? w _ hx312_0)).trans hx312_0
                replace p312 := eq_true p312
                replace q312 := eq_true q312
                go_wp2
                go_meet
                case rel => exact ⟨_, (true), (by rfl), H', ⟨by have := HJ3.out; have := HJ20.out; have := HK3.out; have := HJ29.out; omega⟩, ⟨by exact HO_9.out⟩, ⟨by exact HO_11.out⟩, ⟨by exact HO_12.out⟩, ⟨by exact BK294.out⟩, ⟨by repeat ((with_reducible exact HB.out))⟩⟩
               ·rw [if_neg c43] at H
                have c43b0 : decide (x10_20 < (rd l2 x44_3)) = false := decide_eq_false c43
                clear c43
                have H' := Aside0.mk H
                clear H
                have p311 : 0 ≤ (x44_3 : Int) := of_decide_eq_true (by (with_reducible assumption))
                have q311 : x44_3 < (l2.length : Int) := of_decide_eq_true (by (with_reducible assumption))
                obtain ⟨ad311, e311, hx311_0⟩ := Kd.at_int HR2.out x44_3 p311 q311
                cases e311
                replace hx311_0 := (HB.out.cell (World.block_lt_of_cell? w _ hx311_0)).trans hx311_0
                replace p311 := eq_true p311
                replace q311 := eq_true q311
                have p312 : 0 ≤ (x44_3 : Int) := of_decide_eq_true (by (with_reducible assumption))
                have q312 : x44_3 < (l2.length : Int) := of_decide_eq_true (by (with_reducible assumption))
                obtain ⟨ad312, e312, hx312_0⟩ := Kd.at_int HR2.out x44_3 p312 q312
                obtain rfl : ad311 = ad312 := (by injection e312)
                replace hx312_0 := (HB.out.cell (World.block_lt_of_cell? w _ hx312_0)).trans hx312_0
                replace p312 := eq_true p312
                replace q312 := eq_true q312
                have p313 : 0 ≤ (x44_3 : Int) := of_decide_eq_true (by (with_reducible assumption))
                have q313 : x44_3 < (l2.length : Int) := of_decide_eq_true (by (with_reducible assumption))
                obtain ⟨ad313, e313, hx313_0⟩ := Kd.at_int HR2.out x44_3 p313 q313
                obtain rfl : ad311 = ad313 := (by injection e313)
                replace hx313_0 := (HB.out.cell (World.block_lt_of_cell? w _ hx313_0)).trans hx313_0
                replace p313 := eq_true p313
                replace q313 := eq_true q313
                go_wp2
                go_meet
                case rel => exact ⟨_, (decide ((wrap64 (x13_29 + (rd l2 x44_3))) > x10_20)), (by rfl), H', ⟨by have := HJ3.out; have := HJ20.out; have := HK3.out; have := HJ29.out; omega⟩, ⟨by exact HO_9.out⟩, ⟨by exact HO_11.out⟩, ⟨by exact HO_12.out⟩, ⟨by exact BK294.out⟩, ⟨by repeat ((with_reducible exact HB.out))⟩⟩
             ·rw [if_neg c41] at H
              exact absurd H (by simp)
            ·rw [if_neg c40] at H
             exact absurd H (by simp)
           case rest =>
            clear HC39
            obtain ⟨kq, x99_38, rfl, HA, HJ38, HO_9, HO_11, HO_12, BK294, HB⟩ := hcut
            cases kq with
            | zero => exact absurd HA.out (by simp [sashref04_Cut.j4])
            | succ kj38 =>
             have H := HA.out
             clear HA
             simp only [sashref04_Cut.j4] at H
             by_cases c44 : x99_38 = true
             ·subst c44
              have H1 : (some (y295, y295, false)) = some (r1, r2, r3) := by rw [if_pos rfl] at H; exact H
              clear H
              have H := H1
              clear H1
              simp only [Option.some.injEq, Prod.mk.injEq] at H
              obtain ⟨rfl, rfl, rfl⟩ := H
              go_wp2
              go_ret3
              exact ⟨_, _, by rfl, Kd.R_V (by exact Kd.R_mono HO_9.out (fun _ hk => hk.1)), Kd.R_V (by exact Kd.R_mono HO_9.out (fun _ hk => hk.1)), by repeat ((with_reducible exact HB.out))⟩
             ·replace c44 := Bool.eq_false_iff.mpr c44
              subst c44
              have H1 : (if a1 = 1 then (if 0 ≤ x44_3 then (if x44_3 < (l2.length : Int) then (if x11_3.length < 4398046511104 then (sashref04_Cut.l0 kj38 a1 l2 y295 x10_20 (x11_3 ++ [(⟨wrap64 (a0_0 + x13_29), a0_1, rd l2 x44_3, a0_3⟩ : S23)]) x12_29 (wrap64 (x13_29 + (rd l2 x44_3))) (l2.length : Int) (wrap64 (x44_3 + 1)) a0_0 a0_1 a0_2 a0_3) else (none)) else (none)) else (none)) else (if 0 ≤ x44_3 then (if x44_3 < (l2.length : Int) then (if x11_3.length < 4398046511104 then (sashref04_Cut.l0 kj38 a1 l2 y295 x10_20 (x11_3 ++ [(⟨a0_0, wrap64 (a0_1 + x13_29), a0_2, rd l2 x44_3⟩ : S23)]) x12_29 (wrap64 (x13_29 + (rd l2 x44_3))) (l2.length : Int) (wrap64 (x44_3 + 1)) a0_0 a0_1 a0_2 a0_3) else (none)) else (none)) else (none))) = some (r1, r2, r3) := by rw [if_neg (show ¬ (false = true) by decide)] at H; exact H
              clear H
              have H := H1
              clear H1
              by_cases c45 : a1 = 1
              ·rw [if_pos c45] at H
               have c45b0 : (a1 == 1) = true := beq_iff_eq.mpr c45
               have c45b1 : (a1 != 1) = false := bne_eq_false_iff_eq.mpr c45
               clear c45
               by_cases c46 : 0 ≤ x44_3
               ·rw [if_pos c46] at H
                have c46b0 : decide (0 ≤ x44_3) = true := decide_eq_true c46
                clear c46
                by_cases c47 : x44_3 < (l2.length : Int)
                ·rw [if_pos c47] at H
                 have c47b0 : decide (x44_3 < (l2.length : Int)) = true := decide_eq_true c47
                 clear c47
                 by_cases c48 : x11_3.length < 4398046511104
                 ·rw [if_pos c48] at H
                  have LMc48 := Aside0.mk c48
                  clear c48
                  obtain ⟨y315, hy315⟩ : ∃ y_ : List (S23), y_ = (x11_3 ++ [(⟨wrap64 (a0_0 + x13_29), a0_1, rd l2 x44_3, a0_3⟩ : S23)]) := ⟨_, rfl⟩
                  replace H : (sashref04_Cut.l0 kj38 a1 l2 y295 x10_20 y315 x12_29 (wrap64 (x13_29 + (rd l2 x44_3))) (l2.length : Int) (wrap64 (x44_3 + 1)) a0_0 a0_1 a0_2 a0_3) = some (r1, r2, r3) := by (rw [hy315]; with_reducible exact H)
                  have Ny315 := Aside0.mk hy315
                  clear hy315
                  have H' := Aside0.mk H
                  clear H
                  try go_wp2
                  replace HO_9 := Aside0.mk (Kd.R_drew HO_9.out); replace HO_11 := Aside0.mk (Kd.R_drew HO_11.out); replace HO_12 := Aside0.mk (Kd.R_drew HO_12.out); replace BK294 := Aside0.mk (blk_drew BK294.out); replace HB := Aside0.mk (below_drew1 HB.out)
                  have p314 : 0 ≤ (x44_3 : Int) := of_decide_eq_true (by (with_reducible assumption))
                  have q314 : x44_3 < (l2.length : Int) := of_decide_eq_true (by (with_reducible assumption))
                  obtain ⟨ad314, e314, hx314_0⟩ := Kd.at_int HR2.out x44_3 p314 q314
                  have hw314_0 := hx314_0
                  cases e314
                  replace hx314_0 := (HB.out.cell (World.block_lt_of_cell? w _ hx314_0)).trans hx314_0
                  replace p314 := eq_true p314
                  replace q314 := eq_true q314
                  refine start_ (n := 17) (S := fun w' => w'.cell? ⟨gb294, 0, none⟩ = some (.int .i64 a0_0) ∧ w'.cell? ⟨gb294, 1, none⟩ = some (.int .i64 a0_1) ∧ w'.cell? ⟨gb294, 2, none⟩ = some (.int .i64 a0_2) ∧ w'.cell? ⟨gb294, 3, none⟩ = some (.int .i64 a0_3) ∧ w'.cell? (ad314.add (x44_3).toNat) = some (.int .i64 (rd l2 x44_3))) (ds := []) #[false, false, false, false, false, false, false, false, false, false, false, false, false, false, false, false, false] (by kernel_rfl) rfl rfl ⟨(blk_cell BK294.out 0).trans rfl, (blk_cell BK294.out 1).trans rfl, (blk_cell BK294.out 2).trans rfl, (blk_cell BK294.out 3).trans rfl, ((HB.out.cell (World.block_lt_of_cell? w _ hw314_0)).trans hw314_0)⟩ (fun hHeld => ?_); refine with_tabW sashref04_Cut.tab20 sashref04_Cut.bits20 (fun HT_ HW_ => ?_)
                  generalize wc.drew = w49 at HO_9 HO_11 HO_12 BK294 HB hx314_0 hHeld ⊢
                  refine pure_ (i := 0) (N := some 104) (v := ?_) (a' := ?_) #[true, false, false, false, false, false, false, false, false, false, false, false, false, false, false, false, false] rfl rfl (any_of HT_.out (by kernel_rfl)) (fun _ _ _ h => h) (Or.inl ⟨by rfl, ?_⟩) ?_ ?_
                  rotate_left
                  ·intro w'
                   go_simp
                   with_reducible rfl
                  rotate_left
                  ·simp only [Act.put, List.setIfInBounds_toArray, List.set_cons_zero, List.set_cons_succ, i64_w, i32_w]
                   rfl
                  refine pure_ (i := 1) (N := some 105) (v := ?_) (a' := ?_) #[true, true, false, false, false, false, false, false, false, false, false, false, false, false, false, false, false] rfl rfl (any_of HT_.out (by kernel_rfl)) (fun _ _ _ h => h) (Or.inl ⟨by rfl, ?_⟩) ?_ ?_
                  rotate_left
                  ·intro w'
                   go_simp
                   with_reducible rfl
                  rotate_left
                  ·simp only [Act.put, List.setIfInBounds_toArray, List.set_cons_zero, List.set_cons_succ, i64_w, i32_w]
                   rfl
                  refine pure_ (i := 3) (N := some 107) (v := ?_) (a' := ?_) #[true, true, false, true, false, false, false, false, false, false, false, false, false, false, false, false, false] rfl rfl (any_of HT_.out (by kernel_rfl)) (fun _ _ _ h => h) (Or.inl ⟨by rfl, ?_⟩) ?_ ?_
                  rotate_left
                  ·intro w'
                   go_simp
                   with_reducible rfl
                  rotate_left
                  ·simp only [Act.put, List.setIfInBounds_toArray, List.set_cons_zero, List.set_cons_succ, i64_w, i32_w]
                   rfl
                  refine pure_ (i := 5) (N := some 109) (v := ?_) (a' := ?_) #[true, true, false, true, false, true, false, false, false, false, false, false, false, false, false, false, false] rfl rfl (any_of HT_.out (by kernel_rfl)) (fun _ _ _ h => h) (Or.inl ⟨by rfl, ?_⟩) ?_ ?_
                  rotate_left
                  ·intro w'
                   go_simp
                   with_reducible rfl
                  rotate_left
                  ·simp only [Act.put, List.setIfInBounds_toArray, List.set_cons_zero, List.set_cons_succ, i64_w, i32_w]
                   rfl
                  refine pure_ (i := 7) (N := some 111) (v := ?_) (a' := ?_) #[true, true, false, true, false, true, false, true, false, false, false, false, false, false, false, false, false] rfl rfl (any_of HT_.out (by kernel_rfl)) (fun _ _ _ h => h) (Or.inl ⟨by rfl, ?_⟩) ?_ ?_
                  rotate_left
                  ·intro w'
                   go_simp
                   with_reducible rfl
                  rotate_left
                  ·simp only [Act.put, List.setIfInBounds_toArray, List.set_cons_zero, List.set_cons_succ, i64_w, i32_w]
                   rfl
                  refine pure_ (i := 8) (N := some 112) (v := ?_) (a' := ?_) #[true, true, false, true, false, true, false, true, true, false, false, false, false, false, false, false, false] rfl rfl (any_of HT_.out (by kernel_rfl)) (fun _ _ _ h => h) (Or.inl ⟨by rfl, ?_⟩) ?_ ?_
                  rotate_left
                  ·intro w'
                   go_simp
                   with_reducible rfl
                  rotate_left
                  ·simp only [Act.put, List.setIfInBounds_toArray, List.set_cons_zero, List.set_cons_succ, i64_w, i32_w]
                   rfl
                  refine pure_ (i := 9) (N := some 113) (v := ?_) (a' := ?_) #[true, true, false, true, false, true, false, true, true, true, false, false, false, false, false, false, false] rfl rfl (any_of HT_.out (by kernel_rfl)) (fun _ _ _ h => h) (Or.inl ⟨by rfl, ?_⟩) ?_ ?_
                  rotate_left
                  ·intro w'
                   go_simp
                   with_reducible rfl
                  rotate_left
                  ·simp only [Act.put, List.setIfInBounds_toArray, List.set_cons_zero, List.set_cons_succ, i64_w, i32_w]
                   rfl
                  refine pure_ (i := 11) (N := some 115) (v := ?_) (a' := ?_) #[true, true, false, true, false, true, false, true, true, true, false, true, false, false, false, false, false] rfl rfl (any_of HT_.out (by kernel_rfl)) (fun _ _ _ h => h) (Or.inl ⟨by rfl, ?_⟩) ?_ ?_
                  rotate_left
                  ·intro w'
                   go_simp
                   with_reducible rfl
                  rotate_left
                  ·simp only [Act.put, List.setIfInBounds_toArray, List.set_cons_zero, List.set_cons_succ, i64_w, i32_w]
                   rfl
                  refine take_ (i := 2) (N := some 106) (v := ?_) (a' := ?_) #[true, true, true, true, false, true, false, true, true, true, false, true, false, false, false, false, false] rfl rfl (take_ofW HT_.out HW_.out (by kernel_rfl)) (fun _ _ _ h => h) (Or.inl ⟨by rfl, ?_⟩) hHeld ?_ ?_
                  rotate_left
                  ·rintro w' ⟨s0, s1, s2, s3, s4⟩
                   go_simp
                   with_reducible rfl
                  rotate_left
                  ·simp only [Act.put, List.setIfInBounds_toArray, List.set_cons_zero, List.set_cons_succ, i64_w, i32_w]
                   rfl
                  refine pure_ (i := 4) (N := some 108) (v := ?_) (a' := ?_) #[true, true, true, true, true, true, false, true, true, true, false, true, false, false, false, false, false] rfl rfl (any_of HT_.out (by kernel_rfl)) (fun _ _ _ h => h) (Or.inl ⟨by rfl, ?_⟩) ?_ ?_
                  rotate_left
                  ·intro w'
                   go_simp
                   with_reducible rfl
                  rotate_left
                  ·simp only [Act.put, List.setIfInBounds_toArray, List.set_cons_zero, List.set_cons_succ, i64_w, i32_w]
                   rfl
                  refine take_ (i := 6) (N := some 110) (v := ?_) (a' := ?_) #[true, true, true, true, true, true, true, true, true, true, false, true, false, false, false, false, false] rfl rfl (take_ofW HT_.out HW_.out (by kernel_rfl)) (fun _ _ _ h => h) (Or.inl ⟨by rfl, ?_⟩) hHeld ?_ ?_
                  rotate_left
                  ·rintro w' ⟨s0, s1, s2, s3, s4⟩
                   go_simp
                   with_reducible rfl
                  rotate_left
                  ·simp only [Act.put, List.setIfInBounds_toArray, List.set_cons_zero, List.set_cons_succ, i64_w, i32_w]
                   rfl
                  refine take_ (i := 10) (N := some 114) (v := ?_) (a' := ?_) #[true, true, true, true, true, true, true, true, true, true, true, true, false, false, false, false, false] rfl rfl (take_ofW HT_.out HW_.out (by kernel_rfl)) (fun _ _ _ h => h) (Or.inl ⟨by rfl, ?_⟩) hHeld ?_ ?_
                  rotate_left
                  ·rintro w' ⟨s0, s1, s2, s3, s4⟩
                   go_simp
                   with_reducible rfl
                  rotate_left
                  ·simp only [Act.put, List.setIfInBounds_toArray, List.set_cons_zero, List.set_cons_succ, i64_w, i32_w]
                   rfl
                  refine take_ (i := 12) (N := some 116) (v := ?_) (a' := ?_) #[true, true, true, true, true, true, true, true, true, true, true, true, true, false, false, false, false] rfl rfl (take_ofW HT_.out HW_.out (by kernel_rfl)) (fun _ _ _ h => h) (Or.inl ⟨by rfl, ?_⟩) hHeld ?_ ?_
                  rotate_left
                  ·rintro w' ⟨s0, s1, s2, s3, s4⟩
                   go_simp
                   with_reducible rfl
                  rotate_left
                  ·simp only [Act.put, List.setIfInBounds_toArray, List.set_cons_zero, List.set_cons_succ, i64_w, i32_w]
                   rfl
                  refine pure_ (i := 13) (N := some 117) (v := ?_) (a' := ?_) #[true, true, true, true, true, true, true, true, true, true, true, true, true, true, false, false, false] rfl rfl (any_of HT_.out (by kernel_rfl)) (fun _ _ _ h => h) (Or.inl ⟨by rfl, ?_⟩) ?_ ?_
                  rotate_left
                  ·intro w'
                   go_simp
                   with_reducible rfl
                  rotate_left
                  ·simp only [Act.put, List.setIfInBounds_toArray, List.set_cons_zero, List.set_cons_succ, i64_w, i32_w]
                   rfl
                  refine one_ (i := 14) (N := some 118) #[true, true, true, true, true, true, true, true, true, true, true, true, true, true, true, false, false] rfl rfl (one_of HT_.out (by kernel_rfl)) (by decide) (fun K hK => ?_)
                  refine value_ (w1 := ?_) (v := ?_) (by rfl) rfl ?_ ?_
                  rotate_left 2
                  ·go_simp
                   constructor
                   ·rfl
                   ·rfl
                  refine hK.out _ _ ⟨(blk_cell (blk_alloc BK294.out _) 0).trans rfl, (blk_cell (blk_alloc BK294.out _) 1).trans rfl, (blk_cell (blk_alloc BK294.out _) 2).trans rfl, (blk_cell (blk_alloc BK294.out _) 3).trans rfl, (World.cell?_alloc_lt _ _ _ (World.block_lt_of_cell? _ _ (((HB.out.cell (World.block_lt_of_cell? w _ hw314_0)).trans hw314_0)))).trans (((HB.out.cell (World.block_lt_of_cell? w _ hw314_0)).trans hw314_0))⟩ (fun hHeld => ?_)
                  clear hK K
                  refine norm_ (a' := ?_) ?_ ?_
                  rotate_left
                  ·show Act.put _ (some 118) _ = _
                   simp only [Act.put, List.setIfInBounds_toArray, List.set_cons_zero, List.set_cons_succ, i64_w, i32_w]
                   rfl
                  refine one_ (i := 15) (N := some 119) #[true, true, true, true, true, true, true, true, true, true, true, true, true, true, true, true, false] rfl rfl (one_of HT_.out (by kernel_rfl)) (by decide) (fun K hK => ?_)
                  refine Kd.R_append_step k23 (w0 := w) w.heap.size (by rfl) (.tmp 104) (.tmp 118) 42 23 (.agg #[(.int .i64 0), (.int .i64 0), (.int .i64 0), (.int .i64 0)]) 32 rfl Try.underlying42 info23 rfl (by decide) (by omega) u11 x11_3 (⟨wrap64 (a0_0 + x13_29), a0_1, rd l2 x44_3, a0_3⟩ : S23) [.int .i64 (wrap64 (a0_0 + x13_29)), .int .i64 a0_1, .int .i64 (rd l2 x44_3), .int .i64 a0_3] (fun k_ => (w.heap.size ≤ k_) ∧ some k_ ≠ (v296 : Value).ownBlock ∧ some k_ ≠ (u12 : Value).ownBlock ∧ k_ ≠ gb294) (fun _ => False) rfl rfl ?aP (fun _ hk => hk.elim) ?aF ?aO ?aB ?aS ?aL ?_
                  (case aP => exact k23_mkM _ _ _ (⟨wrap64 (a0_0 + x13_29), a0_1, rd l2 x44_3, a0_3⟩ : S23))
                  (case aB => exact (by repeat ((with_reducible exact HB.out))))
                  (case aF => exact (fun k_ hk => ⟨(Nat.le_trans (below_size (by repeat ((with_reducible exact HB.out)))) hk), Kd.fresh' (Kd.R_lt HO_9.out) k_ hk, Kd.fresh' (Kd.R_lt HO_12.out) k_ hk, Kd.freshB BK294.out k_ hk⟩))
                  (case aO => exact HO_11.out)
                  (case aS => exact (below_size (by repeat ((with_reducible exact HB.out)))))
                  (case aL => have := LMc48.out; omega)
                  intro v316 w50 ho hb hg hat
                  rw [← Ny315.out] at ho
                  have HO317 := Aside0.mk (ho); replace HO_9 := Aside0.mk (Kd.R_after (ok := (fun k_ => (w.heap.size ≤ k_) ∧ some k_ ≠ (u12 : Value).ownBlock ∧ k_ ≠ gb294)) (by exact Kd.R_mono HO_9.out (fun _ hk => ⟨⟨hk.1, ⟨hk.2.2.1, hk.2.2.2⟩⟩, hk.2.1⟩)) hg hat); replace HO_12 := Aside0.mk (Kd.R_after (ok := (fun k_ => (w.heap.size ≤ k_) ∧ some k_ ≠ (v296 : Value).ownBlock ∧ k_ ≠ gb294)) (by exact Kd.R_mono HO_12.out (fun _ hk => ⟨⟨hk.1, ⟨hk.2.1, hk.2.2.2⟩⟩, hk.2.2.1⟩)) hg hat); replace BK294 := Aside0.mk (blk_grown BK294.out hg (Kd.R_away HO_11.out (fun _ hk => hk.2.2.2))); replace HB := Aside0.mk (hb); clear HO_11
                  clear ho hb hg hat
                  refine hK.out _ _ ⟨(blk_cell BK294.out 0).trans rfl, (blk_cell BK294.out 1).trans rfl, (blk_cell BK294.out 2).trans rfl, (blk_cell BK294.out 3).trans rfl, ((HB.out.cell (World.block_lt_of_cell? w _ hw314_0)).trans hw314_0)⟩ (fun hHeld => ?_)
                  clear hK K
                  refine norm_ (a' := ?_) ?_ ?_
                  rotate_left
                  ·show Act.put _ (some 119) _ = _
                   simp only [Act.put, List.setIfInBounds_toArray, List.set_cons_zero, List.set_cons_succ, i64_w, i32_w]
                   rfl
                  refine pure_ (i := 16) (N := some 11) (v := ?_) (a' := ?_) #[true, true, true, true, true, true, true, true, true, true, true, true, true, true, true, true, true] rfl rfl (any_of HT_.out (by kernel_rfl)) (fun _ _ _ h => h) (Or.inl ⟨by rfl, ?_⟩) ?_ ?_
                  rotate_left
                  ·intro w'
                   go_simp
                   with_reducible rfl
                  rotate_left
                  ·simp only [Act.put, List.setIfInBounds_toArray, List.set_cons_zero, List.set_cons_succ, i64_w, i32_w]
                   rfl
                  refine done_ (done_of HT_.out (by kernel_rfl)) ?_
                  have p318 : 0 ≤ (x44_3 : Int) := of_decide_eq_true (by (with_reducible assumption))
                  have q318 : x44_3 < (l2.length : Int) := of_decide_eq_true (by (with_reducible assumption))
                  obtain ⟨ad318, e318, hx318_0⟩ := Kd.at_int HR2.out x44_3 p318 q318
                  obtain rfl : ad314 = ad318 := (by injection e318)
                  replace hx318_0 := (HB.out.cell (World.block_lt_of_cell? w _ hx318_0)).trans hx318_0
                  replace p318 := eq_true p318
                  replace q318 := eq_true q318
                  try go_wp2
                  go_roundg kj38
                  case measure => have := HJ3.out; have := HJ20.out; have := HK3.out; have := HJ29.out; have := HJ38.out; omega
                  case rel => exact ⟨(y315), (x12_29), (wrap64 (x13_29 + (rd l2 x44_3))), (wrap64 (x44_3 + 1)), (by rfl), (by rfl), H', ⟨by have := HJ3.out; have := HJ20.out; have := HK3.out; have := HJ29.out; have := HJ38.out; omega⟩, ⟨by exact Kd.R_mono HO_9.out (fun _ hk => ⟨hk.1.1, ⟨hk.2, ⟨hk.1.2.1, hk.1.2.2⟩⟩⟩)⟩, ⟨by exact HO317.out⟩, ⟨by exact Kd.R_mono HO_12.out (fun _ hk => ⟨hk.1.1, ⟨hk.1.2.1, ⟨hk.2, hk.1.2.2⟩⟩⟩)⟩, ⟨by exact BK294.out⟩, ⟨by repeat ((with_reducible exact HB.out))⟩⟩
                 ·rw [if_neg c48] at H
                  exact absurd H (by simp)
                ·rw [if_neg c47] at H
                 exact absurd H (by simp)
               ·rw [if_neg c46] at H
                exact absurd H (by simp)
              ·rw [if_neg c45] at H
               have c45b0 : (a1 == 1) = false := beq_eq_false_iff_ne.mpr c45
               have c45b1 : (a1 != 1) = true := bne_iff_ne.mpr c45
               by_cases c51 : 0 ≤ x44_3
               ·rw [if_pos c51] at H
                have c51b0 : decide (0 ≤ x44_3) = true := decide_eq_true c51
                clear c51
                by_cases c52 : x44_3 < (l2.length : Int)
                ·rw [if_pos c52] at H
                 have c52b0 : decide (x44_3 < (l2.length : Int)) = true := decide_eq_true c52
                 clear c52
                 by_cases c53 : x11_3.length < 4398046511104
                 ·rw [if_pos c53] at H
                  have LMc53 := Aside0.mk c53
                  clear c53
                  obtain ⟨y320, hy320⟩ : ∃ y_ : List (S23), y_ = (x11_3 ++ [(⟨a0_0, wrap64 (a0_1 + x13_29), a0_2, rd l2 x44_3⟩ : S23)]) := ⟨_, rfl⟩
                  replace H : (sashref04_Cut.l0 kj38 a1 l2 y295 x10_20 y320 x12_29 (wrap64 (x13_29 + (rd l2 x44_3))) (l2.length : Int) (wrap64 (x44_3 + 1)) a0_0 a0_1 a0_2 a0_3) = some (r1, r2, r3) := by (rw [hy320]; with_reducible exact H)
                  have Ny320 := Aside0.mk hy320
                  clear hy320
                  have H' := Aside0.mk H
                  clear H
                  try go_wp2
                  replace HO_9 := Aside0.mk (Kd.R_drew HO_9.out); replace HO_11 := Aside0.mk (Kd.R_drew HO_11.out); replace HO_12 := Aside0.mk (Kd.R_drew HO_12.out); replace BK294 := Aside0.mk (blk_drew BK294.out); replace HB := Aside0.mk (below_drew1 HB.out)
                  have p319 : 0 ≤ (x44_3 : Int) := of_decide_eq_true (by (with_reducible assumption))
                  have q319 : x44_3 < (l2.length : Int) := of_decide_eq_true (by (with_reducible assumption))
                  obtain ⟨ad319, e319, hx319_0⟩ := Kd.at_int HR2.out x44_3 p319 q319
                  have hw319_0 := hx319_0
                  cases e319
                  replace hx319_0 := (HB.out.cell (World.block_lt_of_cell? w _ hx319_0)).trans hx319_0
                  replace p319 := eq_true p319
                  replace q319 := eq_true q319
                  refine start_ (n := 17) (S := fun w' => w'.cell? ⟨gb294, 0, none⟩ = some (.int .i64 a0_0) ∧ w'.cell? ⟨gb294, 1, none⟩ = some (.int .i64 a0_1) ∧ w'.cell? ⟨gb294, 2, none⟩ = some (.int .i64 a0_2) ∧ w'.cell? ⟨gb294, 3, none⟩ = some (.int .i64 a0_3) ∧ w'.cell? (ad319.add (x44_3).toNat) = some (.int .i64 (rd l2 x44_3))) (ds := []) #[false, false, false, false, false, false, false, false, false, false, false, false, false, false, false, false, false] (by kernel_rfl) rfl rfl ⟨(blk_cell BK294.out 0).trans rfl, (blk_cell BK294.out 1).trans rfl, (blk_cell BK294.out 2).trans rfl, (blk_cell BK294.out 3).trans rfl, ((HB.out.cell (World.block_lt_of_cell? w _ hw319_0)).trans hw319_0)⟩ (fun hHeld => ?_); refine with_tabW sashref04_Cut.tab21 sashref04_Cut.bits21 (fun HT_ HW_ => ?_)
                  generalize wc.drew = w54 at HO_9 HO_11 HO_12 BK294 HB hx319_0 hHeld ⊢
                  refine pure_ (i := 0) (N := some 120) (v := ?_) (a' := ?_) #[true, false, false, false, false, false, false, false, false, false, false, false, false, false, false, false, false] rfl rfl (any_of HT_.out (by kernel_rfl)) (fun _ _ _ h => h) (Or.inl ⟨by rfl, ?_⟩) ?_ ?_
                  rotate_left
                  ·intro w'
                   go_simp
                   with_reducible rfl
                  rotate_left
                  ·simp only [Act.put, List.setIfInBounds_toArray, List.set_cons_zero, List.set_cons_succ, i64_w, i32_w]
                   rfl
                  refine pure_ (i := 1) (N := some 121) (v := ?_) (a' := ?_) #[true, true, false, false, false, false, false, false, false, false, false, false, false, false, false, false, false] rfl rfl (any_of HT_.out (by kernel_rfl)) (fun _ _ _ h => h) (Or.inl ⟨by rfl, ?_⟩) ?_ ?_
                  rotate_left
                  ·intro w'
                   go_simp
                   with_reducible rfl
                  rotate_left
                  ·simp only [Act.put, List.setIfInBounds_toArray, List.set_cons_zero, List.set_cons_succ, i64_w, i32_w]
                   rfl
                  refine pure_ (i := 3) (N := some 123) (v := ?_) (a' := ?_) #[true, true, false, true, false, false, false, false, false, false, false, false, false, false, false, false, false] rfl rfl (any_of HT_.out (by kernel_rfl)) (fun _ _ _ h => h) (Or.inl ⟨by rfl, ?_⟩) ?_ ?_
                  rotate_left
                  ·intro w'
                   go_simp
                   with_reducible rfl
                  rotate_left
                  ·simp only [Act.put, List.setIfInBounds_toArray, List.set_cons_zero, List.set_cons_succ, i64_w, i32_w]
                   rfl
                  refine pure_ (i := 5) (N := some 125) (v := ?_) (a' := ?_) #[true, true, false, true, false, true, false, false, false, false, false, false, false, false, false, false, false] rfl rfl (any_of HT_.out (by kernel_rfl)) (fun _ _ _ h => h) (Or.inl ⟨by rfl, ?_⟩) ?_ ?_
                  rotate_left
                  ·intro w'
                   go_simp
                   with_reducible rfl
                  rotate_left
                  ·simp only [Act.put, List.setIfInBounds_toArray, List.set_cons_zero, List.set_cons_succ, i64_w, i32_w]
                   rfl
                  refine pure_ (i := 7) (N := some 127) (v := ?_) (a' := ?_) #[true, true, false, true, false, true, false, true, false, false, false, false, false, false, false, false, false] rfl rfl (any_of HT_.out (by kernel_rfl)) (fun _ _ _ h => h) (Or.inl ⟨by rfl, ?_⟩) ?_ ?_
                  rotate_left
                  ·intro w'
                   go_simp
                   with_reducible rfl
                  rotate_left
                  ·simp only [Act.put, List.setIfInBounds_toArray, List.set_cons_zero, List.set_cons_succ, i64_w, i32_w]
                   rfl
                  refine pure_ (i := 9) (N := some 129) (v := ?_) (a' := ?_) #[true, true, false, true, false, true, false, true, false, true, false, false, false, false, false, false, false] rfl rfl (any_of HT_.out (by kernel_rfl)) (fun _ _ _ h => h) (Or.inl ⟨by rfl, ?_⟩) ?_ ?_
                  rotate_left
                  ·intro w'
                   go_simp
                   with_reducible rfl
                  rotate_left
                  ·simp only [Act.put, List.setIfInBounds_toArray, List.set_cons_zero, List.set_cons_succ, i64_w, i32_w]
                   rfl
                  refine pure_ (i := 10) (N := some 130) (v := ?_) (a' := ?_) #[true, true, false, true, false, true, false, true, false, true, true, false, false, false, false, false, false] rfl rfl (any_of HT_.out (by kernel_rfl)) (fun _ _ _ h => h) (Or.inl ⟨by rfl, ?_⟩) ?_ ?_
                  rotate_left
                  ·intro w'
                   go_simp
                   with_reducible rfl
                  rotate_left
                  ·simp only [Act.put, List.setIfInBounds_toArray, List.set_cons_zero, List.set_cons_succ, i64_w, i32_w]
                   rfl
                  refine pure_ (i := 11) (N := some 131) (v := ?_) (a' := ?_) #[true, true, false, true, false, true, false, true, false, true, true, true, false, false, false, false, false] rfl rfl (any_of HT_.out (by kernel_rfl)) (fun _ _ _ h => h) (Or.inl ⟨by rfl, ?_⟩) ?_ ?_
                  rotate_left
                  ·intro w'
                   go_simp
                   with_reducible rfl
                  rotate_left
                  ·simp only [Act.put, List.setIfInBounds_toArray, List.set_cons_zero, List.set_cons_succ, i64_w, i32_w]
                   rfl
                  refine take_ (i := 2) (N := some 122) (v := ?_) (a' := ?_) #[true, true, true, true, false, true, false, true, false, true, true, true, false, false, false, false, false] rfl rfl (take_ofW HT_.out HW_.out (by kernel_rfl)) (fun _ _ _ h => h) (Or.inl ⟨by rfl, ?_⟩) hHeld ?_ ?_
                  rotate_left
                  ·rintro w' ⟨s0, s1, s2, s3, s4⟩
                   go_simp
                   with_reducible rfl
                  rotate_left
                  ·simp only [Act.put, List.setIfInBounds_toArray, List.set_cons_zero, List.set_cons_succ, i64_w, i32_w]
                   rfl
                  refine take_ (i := 4) (N := some 124) (v := ?_) (a' := ?_) #[true, true, true, true, true, true, false, true, false, true, true, true, false, false, false, false, false] rfl rfl (take_ofW HT_.out HW_.out (by kernel_rfl)) (fun _ _ _ h => h) (Or.inl ⟨by rfl, ?_⟩) hHeld ?_ ?_
                  rotate_left
                  ·rintro w' ⟨s0, s1, s2, s3, s4⟩
                   go_simp
                   with_reducible rfl
                  rotate_left
                  ·simp only [Act.put, List.setIfInBounds_toArray, List.set_cons_zero, List.set_cons_succ, i64_w, i32_w]
                   rfl
                  refine pure_ (i := 6) (N := some 126) (v := ?_) (a' := ?_) #[true, true, true, true, true, true, true, true, false, true, true, true, false, false, false, false, false] rfl rfl (any_of HT_.out (by kernel_rfl)) (fun _ _ _ h => h) (Or.inl ⟨by rfl, ?_⟩) ?_ ?_
                  rotate_left
                  ·intro w'
                   go_simp
                   with_reducible rfl
                  rotate_left
                  ·simp only [Act.put, List.setIfInBounds_toArray, List.set_cons_zero, List.set_cons_succ, i64_w, i32_w]
                   rfl
                  refine take_ (i := 8) (N := some 128) (v := ?_) (a' := ?_) #[true, true, true, true, true, true, true, true, true, true, true, true, false, false, false, false, false] rfl rfl (take_ofW HT_.out HW_.out (by kernel_rfl)) (fun _ _ _ h => h) (Or.inl ⟨by rfl, ?_⟩) hHeld ?_ ?_
                  rotate_left
                  ·rintro w' ⟨s0, s1, s2, s3, s4⟩
                   go_simp
                   with_reducible rfl
                  rotate_left
                  ·simp only [Act.put, List.setIfInBounds_toArray, List.set_cons_zero, List.set_cons_succ, i64_w, i32_w]
                   rfl
                  refine take_ (i := 12) (N := some 132) (v := ?_) (a' := ?_) #[true, true, true, true, true, true, true, true, true, true, true, true, true, false, false, false, false] rfl rfl (take_ofW HT_.out HW_.out (by kernel_rfl)) (fun _ _ _ h => h) (Or.inl ⟨by rfl, ?_⟩) hHeld ?_ ?_
                  rotate_left
                  ·rintro w' ⟨s0, s1, s2, s3, s4⟩
                   go_simp
                   with_reducible rfl
                  rotate_left
                  ·simp only [Act.put, List.setIfInBounds_toArray, List.set_cons_zero, List.set_cons_succ, i64_w, i32_w]
                   rfl
                  refine pure_ (i := 13) (N := some 133) (v := ?_) (a' := ?_) #[true, true, true, true, true, true, true, true, true, true, true, true, true, true, false, false, false] rfl rfl (any_of HT_.out (by kernel_rfl)) (fun _ _ _ h => h) (Or.inl ⟨by rfl, ?_⟩) ?_ ?_
                  rotate_left
                  ·intro w'
                   go_simp
                   with_reducible rfl
                  rotate_left
                  ·simp only [Act.put, List.setIfInBounds_toArray, List.set_cons_zero, List.set_cons_succ, i64_w, i32_w]
                   rfl
                  refine one_ (i := 14) (N := some 134) #[true, true, true, true, true, true, true, true, true, true, true, true, true, true, true, false, false] rfl rfl (one_of HT_.out (by kernel_rfl)) (by decide) (fun K hK => ?_)
                  refine value_ (w1 := ?_) (v := ?_) (by rfl) rfl ?_ ?_
                  rotate_left 2
                  ·go_simp
                   constructor
                   ·rfl
                   ·rfl
                  refine hK.out _ _ ⟨(blk_cell (blk_alloc BK294.out _) 0).trans rfl, (blk_cell (blk_alloc BK294.out _) 1).trans rfl, (blk_cell (blk_alloc BK294.out _) 2).trans rfl, (blk_cell (blk_alloc BK294.out _) 3).trans rfl, (World.cell?_alloc_lt _ _ _ (World.block_lt_of_cell? _ _ (((HB.out.cell (World.block_lt_of_cell? w _ hw319_0)).trans hw319_0)))).trans (((HB.out.cell (World.block_lt_of_cell? w _ hw319_0)).trans hw319_0))⟩ (fun hHeld => ?_)
                  clear hK K
                  refine norm_ (a' := ?_) ?_ ?_
                  rotate_left
                  ·show Act.put _ (some 134) _ = _
                   simp only [Act.put, List.setIfInBounds_toArray, List.set_cons_zero, List.set_cons_succ, i64_w, i32_w]
                   rfl
                  refine one_ (i := 15) (N := some 135) #[true, true, true, true, true, true, true, true, true, true, true, true, true, true, true, true, false] rfl rfl (one_of HT_.out (by kernel_rfl)) (by decide) (fun K hK => ?_)
                  refine Kd.R_append_step k23 (w0 := w) w.heap.size (by rfl) (.tmp 120) (.tmp 134) 42 23 (.agg #[(.int .i64 0), (.int .i64 0), (.int .i64 0), (.int .i64 0)]) 32 rfl Try.underlying42 info23 rfl (by decide) (by omega) u11 x11_3 (⟨a0_0, wrap64 (a0_1 + x13_29), a0_2, rd l2 x44_3⟩ : S23) [.int .i64 a0_0, .int .i64 (wrap64 (a0_1 + x13_29)), .int .i64 a0_2, .int .i64 (rd l2 x44_3)] (fun k_ => (w.heap.size ≤ k_) ∧ some k_ ≠ (v296 : Value).ownBlock ∧ some k_ ≠ (u12 : Value).ownBlock ∧ k_ ≠ gb294) (fun _ => False) rfl rfl ?aP (fun _ hk => hk.elim) ?aF ?aO ?aB ?aS ?aL ?_
                  (case aP => exact k23_mkM _ _ _ (⟨a0_0, wrap64 (a0_1 + x13_29), a0_2, rd l2 x44_3⟩ : S23))
                  (case aB => exact (by repeat ((with_reducible exact HB.out))))
                  (case aF => exact (fun k_ hk => ⟨(Nat.le_trans (below_size (by repeat ((with_reducible exact HB.out)))) hk), Kd.fresh' (Kd.R_lt HO_9.out) k_ hk, Kd.fresh' (Kd.R_lt HO_12.out) k_ hk, Kd.freshB BK294.out k_ hk⟩))
                  (case aO => exact HO_11.out)
                  (case aS => exact (below_size (by repeat ((with_reducible exact HB.out)))))
                  (case aL => have := LMc53.out; omega)
                  intro v321 w55 ho hb hg hat
                  rw [← Ny320.out] at ho
                  have HO322 := Aside0.mk (ho); replace HO_9 := Aside0.mk (Kd.R_after (ok := (fun k_ => (w.heap.size ≤ k_) ∧ some k_ ≠ (u12 : Value).ownBlock ∧ k_ ≠ gb294)) (by exact Kd.R_mono HO_9.out (fun _ hk => ⟨⟨hk.1, ⟨hk.2.2.1, hk.2.2.2⟩⟩, hk.2.1⟩)) hg hat); replace HO_12 := Aside0.mk (Kd.R_after (ok := (fun k_ => (w.heap.size ≤ k_) ∧ some k_ ≠ (v296 : Value).ownBlock ∧ k_ ≠ gb294)) (by exact Kd.R_mono HO_12.out (fun _ hk => ⟨⟨hk.1, ⟨hk.2.1, hk.2.2.2⟩⟩, hk.2.2.1⟩)) hg hat); replace BK294 := Aside0.mk (blk_grown BK294.out hg (Kd.R_away HO_11.out (fun _ hk => hk.2.2.2))); replace HB := Aside0.mk (hb); clear HO_11
                  clear ho hb hg hat
                  refine hK.out _ _ ⟨(blk_cell BK294.out 0).trans rfl, (blk_cell BK294.out 1).trans rfl, (blk_cell BK294.out 2).trans rfl, (blk_cell BK294.out 3).trans rfl, ((HB.out.cell (World.block_lt_of_cell? w _ hw319_0)).trans hw319_0)⟩ (fun hHeld => ?_)
                  clear hK K
                  refine norm_ (a' := ?_) ?_ ?_
                  rotate_left
                  ·show Act.put _ (some 135) _ = _
                   simp only [Act.put, List.setIfInBounds_toArray, List.set_cons_zero, List.set_cons_succ, i64_w, i32_w]
                   rfl
                  refine pure_ (i := 16) (N := some 11) (v := ?_) (a' := ?_) #[true, true, true, true, true, true, true, true, true, true, true, true, true, true, true, true, true] rfl rfl (any_of HT_.out (by kernel_rfl)) (fun _ _ _ h => h) (Or.inl ⟨by rfl, ?_⟩) ?_ ?_
                  rotate_left
                  ·intro w'
                   go_simp
                   with_reducible rfl
                  rotate_left
                  ·simp only [Act.put, List.setIfInBounds_toArray, List.set_cons_zero, List.set_cons_succ, i64_w, i32_w]
                   rfl
                  refine done_ (done_of HT_.out (by kernel_rfl)) ?_
                  have p323 : 0 ≤ (x44_3 : Int) := of_decide_eq_true (by (with_reducible assumption))
                  have q323 : x44_3 < (l2.length : Int) := of_decide_eq_true (by (with_reducible assumption))
                  obtain ⟨ad323, e323, hx323_0⟩ := Kd.at_int HR2.out x44_3 p323 q323
                  obtain rfl : ad319 = ad323 := (by injection e323)
                  replace hx323_0 := (HB.out.cell (World.block_lt_of_cell? w _ hx323_0)).trans hx323_0
                  replace p323 := eq_true p323
                  replace q323 := eq_true q323
                  try go_wp2
                  go_roundg kj38
                  case measure => have := HJ3.out; have := HJ20.out; have := HK3.out; have := HJ29.out; have := HJ38.out; omega
                  case rel => exact ⟨(y320), (x12_29), (wrap64 (x13_29 + (rd l2 x44_3))), (wrap64 (x44_3 + 1)), (by rfl), (by rfl), H', ⟨by have := HJ3.out; have := HJ20.out; have := HK3.out; have := HJ29.out; have := HJ38.out; omega⟩, ⟨by exact Kd.R_mono HO_9.out (fun _ hk => ⟨hk.1.1, ⟨hk.2, ⟨hk.1.2.1, hk.1.2.2⟩⟩⟩)⟩, ⟨by exact HO322.out⟩, ⟨by exact Kd.R_mono HO_12.out (fun _ hk => ⟨hk.1.1, ⟨hk.1.2.1, ⟨hk.2, hk.1.2.2⟩⟩⟩)⟩, ⟨by exact BK294.out⟩, ⟨by repeat ((with_reducible exact HB.out))⟩⟩
                 ·rw [if_neg c53] at H
                  exact absurd H (by simp)
                ·rw [if_neg c52] at H
                 exact absurd H (by simp)
               ·rw [if_neg c51] at H
                exact absurd H (by simp)
        ·rw [if_neg c29] at H
         have c29b0 : decide (x44_3 < (l2.length : Int)) = false := decide_eq_false c29
         clear c29
         by_cases c56 : x13_3 = x10_20
         ·rw [if_pos c56] at H
          have c56b0 : (x13_3 == x10_20) = true := beq_iff_eq.mpr c56
          have c56b1 : (x13_3 != x10_20) = false := bne_eq_false_iff_eq.mpr c56
          clear c56
          simp only [Option.some.injEq, Prod.mk.injEq] at H
          obtain ⟨rfl, rfl, rfl⟩ := H
          go_wp2
          go_ret3
          exact ⟨_, _, by rfl, Kd.R_V (by exact Kd.R_mono HO_11.out (fun _ hk => hk.1)), Kd.R_V (by exact Kd.R_mono HO_12.out (fun _ hk => hk.1)), by repeat ((with_reducible exact HB.out))⟩
         ·rw [if_neg c56] at H
          have c56b0 : (x13_3 == x10_20) = false := beq_eq_false_iff_ne.mpr c56
          have c56b1 : (x13_3 != x10_20) = true := bne_iff_ne.mpr c56
          simp only [Option.some.injEq, Prod.mk.injEq] at H
          obtain ⟨rfl, rfl, rfl⟩ := H
          go_wp2
          go_ret3
          exact ⟨_, _, by rfl, Kd.R_V (by exact Kd.R_mono HO_9.out (fun _ hk => hk.1)), Kd.R_V (by exact Kd.R_mono HO_9.out (fun _ hk => hk.1)), by repeat ((with_reducible exact HB.out))⟩

end Go.Proofs.Ytfdmfgaiblfbhaa.P
namespace Go.Proofs.Ytfdmfgaiblfbhaa.P
open Go.RowKit Go.Proofs.YtfdmfgaiblfbhaaW.PrintWords Go.Proofs.YtfdmfgaiblfbhaaW.PrintLast Go.Proofs.YtfdmfgaiblfbhaaW.PrintMore
attribute [local go_sem] max2_int min2_int max_two min_two max_three min_three max_four min_four   -- for this text's walks alone
set_option linter.unusedVariables false
set_option linter.unusedSimpArgs false

/-! ### sashref06_Sizes: function 194 -/
def sashref06_Sizes.l0 : Nat → List Int → Int → Int → Int → Int → Int → Int → Int → Int → List (S26) → Option (List Int)
 | 0, _, _, _, _, _, _, _, _, _, _ => none
 | k + 1, x3, x8, x9, x909000, x909001, x909002, x909003, x909004, x909005, x909006 => if x9 < x8 then (if x909000 = 2 then (if 0 ≤ x9 then (if x9 < (x909006.length : Int) then (if x3.length < 17592186044416 then (sashref06_Sizes.l0 k (x3 ++ [(rd_T26 x909006 x9).f1.f2]) x8 (wrap64 (x9 + 1)) x909000 x909001 x909002 x909003 x909004 x909005 x909006) else (none)) else (none)) else (none)) else (if 0 ≤ x9 then (if x9 < (x909006.length : Int) then (if x3.length < 17592186044416 then (sashref06_Sizes.l0 k (x3 ++ [(rd_T26 x909006 x9).f1.f3]) x8 (wrap64 (x9 + 1)) x909000 x909001 x909002 x909003 x909004 x909005 x909006) else (none)) else (none)) else (none))) else (some x3)
def sashref06_Sizes.f (k : Nat) (a0_0 : Int) (a0_1 : Int) (a0_2 : Int) (a0_3 : Int) (a0_4 : Int) (a0_5 : Int) (l0_6 : List (S26)) : Option (List Int) := sashref06_Sizes.l0 k (([] : List Int)) (l0_6.length : Int) 0 a0_0 a0_1 a0_2 a0_3 a0_4 a0_5 l0_6
theorem sashref06_Sizes.mono_l : ∀ k, (∀ y0 y1 y2 y3 y4 y5 y6 y7 y8 y9, LeO (sashref06_Sizes.l0 k y0 y1 y2 y3 y4 y5 y6 y7 y8 y9) (sashref06_Sizes.l0 (k + 1) y0 y1 y2 y3 y4 y5 y6 y7 y8 y9))
 | 0 => fun _ _ _ _ _ _ _ _ _ _ r h => by simp [sashref06_Sizes.l0] at h
 | k + 1 => by
  have ih0 := sashref06_Sizes.mono_l k
  ·intro y0 y1 y2 y3 y4 y5 y6 y7 y8 y9
   unfold sashref06_Sizes.l0
   repeat' first | (with_reducible exact ih0 _ _ _ _ _ _ _ _ _ _) | (with_reducible exact LeO.refl _) | (with_reducible refine LeO.ite ?_ ?_)
theorem sashref06_Sizes.mono : ∀ a0 a1 a2 a3 a4 a5 a6 k, LeO (sashref06_Sizes.f k a0 a1 a2 a3 a4 a5 a6) (sashref06_Sizes.f (k + 1) a0 a1 a2 a3 a4 a5 a6) := by
 intro a0 a1 a2 a3 a4 a5 a6 k
 have ih0 := sashref06_Sizes.mono_l k
 unfold sashref06_Sizes.f
 repeat' (with_reducible exact ih0 _ _ _ _ _ _ _ _ _ _)
set_option maxHeartbeats 8000000 in
set_option maxRecDepth 100000 in
theorem sashref06_Sizes.calls (k : Nat) (a0_0 : Int) (a0_1 : Int) (a0_2 : Int) (a0_3 : Int) (a0_4 : Int) (a0_5 : Int) (A0_6 : Option Addr) (c0_6 : Nat) (l0_6 : List (S26)) (r : List Int) (w : World) (hr0_6 : Kd.C k26 w A0_6 l0_6.length l0_6) (hc0_6 : l0_6.length ≤ c0_6) (h : sashref06_Sizes.f k a0_0 a0_1 a0_2 a0_3 a0_4 a0_5 l0_6 = some r) :
  Calls Try.prog 194 #[.agg #[.int .u8 a0_0, .int .i64 a0_1, .int .i64 a0_2, .int .i64 a0_3, .int .i64 a0_4, .int .i64 a0_5, .slice A0_6 l0_6.length c0_6]] w fun e w' => ∃ v0_ : Value, e = .returned (v0_) ∧ Kd.R (Kd.int .i64) 3 w' w.heap.size (fun _ => True) v0_ r ∧ Below w.heap.size w w' := by
 have hu26 := Try.underlying26
 have HR0_6 := Aside0.mk hr0_6
 clear hr0_6 hc0_6
 have HB := Aside0.mk (Below.refl w.heap.size w)
 have H : (sashref06_Sizes.l0 k (([] : List Int)) (l0_6.length : Int) 0 a0_0 a0_1 a0_2 a0_3 a0_4 a0_5 l0_6) = some r := h
 clear h
 obtain ⟨y909, hy909⟩ : ∃ y_ : List Int, y_ = (([] : List Int)) := ⟨_, rfl⟩
 replace H : (sashref06_Sizes.l0 k y909 (l0_6.length : Int) 0 a0_0 a0_1 a0_2 a0_3 a0_4 a0_5 l0_6) = some r := by (rw [hy909]; with_reducible exact H)
 have Ny909 := Aside0.mk hy909
 clear hy909
 have H' := Aside0.mk H
 clear H
 go_enter Try.func194, Try.ntmps194
 go_wp2_with (first | ((with_reducible refine gate_dst (N := 1) rfl ?_); refine box_event ?hg (N := 1) ?hd (cs := #[.int .u8 a0_0, .int .i64 a0_1, .int .i64 a0_2, .int .i64 a0_3, .int .i64 a0_4, .int .i64 a0_5, .slice A0_6 l0_6.length c0_6]) (t := 26) ?hr ?_; (case hd => rfl); (case hg => rfl); (case hr => (go_simp; done)); intro gb908 hg w2 hbox hb; have BK908 := Aside0.mk (hbox); replace HB := Aside0.mk (below_step (by repeat ((with_reducible exact HB.out))) hb); clear hb hbox hg) | ((with_reducible refine gate_dst (N := 5) rfl ?_); refine Kd.R_lit (Kd.int .i64) _ 3 ?hg (N := 5) ?hd (xs := ([] : List Int)) (inner := []) (ok := fun _ => True) (okp := fun _ => True) ?hr ?hp (fun _ hk => hk) trivial (Below.refl _ _) (Nat.le_refl _) (by simp) ?_; (case hd => rfl); (case hg => rfl); (case hr => (go_simp; done)); (case hp => exact (Reps.none _ _)); intro v910 w3 ho4 hb hg_ hnew_; clear hg_ hnew_; (rw [← Ny909.out] at ho4); have HO911 := Aside0.mk (Kd.R_lower ho4 (below_size (by repeat ((with_reducible exact HB.out))))); replace BK908 := Aside0.mk (blk_below BK908.out hb); replace HB := Aside0.mk (below_step (by repeat ((with_reducible exact HB.out))) hb); clear hb ho4; have hcz5_0 : w3.cell? ⟨gb908, 0, none⟩ = some (.int .u8 a0_0) := (blk_cell BK908.out 0).trans rfl; have hcz5_1 : w3.cell? ⟨gb908, 1, none⟩ = some (.int .i64 a0_1) := (blk_cell BK908.out 1).trans rfl; have hcz5_2 : w3.cell? ⟨gb908, 2, none⟩ = some (.int .i64 a0_2) := (blk_cell BK908.out 2).trans rfl; have hcz5_3 : w3.cell? ⟨gb908, 3, none⟩ = some (.int .i64 a0_3) := (blk_cell BK908.out 3).trans rfl; have hcz5_4 : w3.cell? ⟨gb908, 4, none⟩ = some (.int .i64 a0_4) := (blk_cell BK908.out 4).trans rfl; have hcz5_5 : w3.cell? ⟨gb908, 5, none⟩ = some (.int .i64 a0_5) := (blk_cell BK908.out 5).trans rfl; have hcz5_6 : w3.cell? ⟨gb908, 6, none⟩ = some (.slice A0_6 l0_6.length c0_6) := (blk_cell BK908.out 6).trans rfl; have hfz5_0 := blk_frozen BK908.out 0; have hfz5_1 := blk_frozen BK908.out 1; have hfz5_2 := blk_frozen BK908.out 2; have hfz5_3 := blk_frozen BK908.out 3; have hfz5_4 := blk_frozen BK908.out 4; have hfz5_5 := blk_frozen BK908.out 5; have hfz5_6 := blk_frozen BK908.out 6))
 go_loopg [3, 9] k (fun kq v3 v9 w' => ∃ (x3_1 : List Int) (x9_1 : Int), v9 = .int .i64 x9_1 ∧ Aside0 (sashref06_Sizes.l0 kq x3_1 (l0_6.length : Int) x9_1 a0_0 a0_1 a0_2 a0_3 a0_4 a0_5 l0_6 = some r) ∧ Aside0 (kq ≤ k) ∧ Aside0 (Kd.R (Kd.int .i64) 3 w' w.heap.size (fun _ => True) v3 x3_1) ∧ Aside0 (w'.heap[gb908]? = some (.cells #[.int .u8 a0_0, .int .i64 a0_1, .int .i64 a0_2, .int .i64 a0_3, .int .i64 a0_4, .int .i64 a0_5, (.slice A0_6 l0_6.length c0_6)] 26 (0, 0))) ∧ Aside0 (Below w.heap.size w w'))
 case atStart => exact ⟨(y909), (0), (by rfl), H', ⟨Nat.le_refl _⟩, ⟨by exact HO911.out⟩, ⟨by exact BK908.out⟩, ⟨by repeat ((with_reducible exact HB.out))⟩⟩
 case round =>
  clear H'
  clear hcz5_0 hcz5_1 hcz5_2 hcz5_3 hcz5_4 hcz5_5 hcz5_6 hfz5_0 hfz5_1 hfz5_2 hfz5_3 hfz5_4 hfz5_5 hfz5_6
  obtain ⟨x3_1, x9_1, rfl, HA, HK1, HO_3, BK908, HB⟩ := hrel
  cases gk with
  | zero => exact absurd HA.out (by simp [sashref06_Sizes.l0])
  | succ k1 =>
   have H := HA.out
   clear HA
   simp only [sashref06_Sizes.l0] at H
   by_cases c6 : x9_1 < (l0_6.length : Int)
   ·rw [if_pos c6] at H
    have c6b0 : decide (x9_1 < (l0_6.length : Int)) = true := decide_eq_true c6
    clear c6
    by_cases c7 : a0_0 = 2
    ·rw [if_pos c7] at H
     have c7b0 : (a0_0 == 2) = true := beq_iff_eq.mpr c7
     have c7b1 : (a0_0 != 2) = false := bne_eq_false_iff_eq.mpr c7
     clear c7
     by_cases c8 : 0 ≤ x9_1
     ·rw [if_pos c8] at H
      have c8b0 : decide (0 ≤ x9_1) = true := decide_eq_true c8
      clear c8
      by_cases c9 : x9_1 < (l0_6.length : Int)
      ·rw [if_pos c9] at H
       have c9b0 : decide (x9_1 < (l0_6.length : Int)) = true := decide_eq_true c9
       clear c9
       by_cases c10 : x3_1.length < 17592186044416
       ·rw [if_pos c10] at H
        have LMc10 := Aside0.mk c10
        clear c10
        obtain ⟨y913, hy913⟩ : ∃ y_ : List Int, y_ = (x3_1 ++ [(rd_T26 l0_6 x9_1).f1.f2]) := ⟨_, rfl⟩
        replace H : (sashref06_Sizes.l0 k1 y913 (l0_6.length : Int) (wrap64 (x9_1 + 1)) a0_0 a0_1 a0_2 a0_3 a0_4 a0_5 l0_6) = some r := by (rw [hy913]; with_reducible exact H)
        have Ny913 := Aside0.mk hy913
        clear hy913
        have H' := Aside0.mk H
        clear H
        have hcz11_0 : wr.cell? ⟨gb908, 0, none⟩ = some (.int .u8 a0_0) := (blk_cell BK908.out 0).trans rfl
        have hcz11_1 : wr.cell? ⟨gb908, 1, none⟩ = some (.int .i64 a0_1) := (blk_cell BK908.out 1).trans rfl
        have hcz11_2 : wr.cell? ⟨gb908, 2, none⟩ = some (.int .i64 a0_2) := (blk_cell BK908.out 2).trans rfl
        have hcz11_3 : wr.cell? ⟨gb908, 3, none⟩ = some (.int .i64 a0_3) := (blk_cell BK908.out 3).trans rfl
        have hcz11_4 : wr.cell? ⟨gb908, 4, none⟩ = some (.int .i64 a0_4) := (blk_cell BK908.out 4).trans rfl
        have hcz11_5 : wr.cell? ⟨gb908, 5, none⟩ = some (.int .i64 a0_5) := (blk_cell BK908.out 5).trans rfl
        have hcz11_6 : wr.cell? ⟨gb908, 6, none⟩ = some (.slice A0_6 l0_6.length c0_6) := (blk_cell BK908.out 6).trans rfl
        have hfz11_0 := blk_frozen BK908.out 0
        have hfz11_1 := blk_frozen BK908.out 1
        have hfz11_2 := blk_frozen BK908.out 2
        have hfz11_3 := blk_frozen BK908.out 3
        have hfz11_4 := blk_frozen BK908.out 4
        have hfz11_5 := blk_frozen BK908.out 5
        have hfz11_6 := blk_frozen BK908.out 6
        have p912 : 0 ≤ (x9_1 : Int) := of_decide_eq_true (by (with_reducible assumption))
        have q912 : x9_1 < (l0_6.length : Int) := of_decide_eq_true (by (with_reducible assumption))
        obtain ⟨ad912, A912_6, c912_6, e912, hx912_0, hx912_1, hx912_2, hx912_3, hx912_4, hx912_5, hx912_6, hl912_6, hi912_6⟩ := at_T26 HR0_6.out x9_1 p912 q912
        cases e912
        replace hx912_0 := (HB.out.cell (World.block_lt_of_cell? w _ hx912_0)).trans hx912_0
        replace hx912_1 := (HB.out.cell (World.block_lt_of_cell? w _ hx912_1)).trans hx912_1
        replace hx912_2 := (HB.out.cell (World.block_lt_of_cell? w _ hx912_2)).trans hx912_2
        replace hx912_3 := (HB.out.cell (World.block_lt_of_cell? w _ hx912_3)).trans hx912_3
        replace hx912_4 := (HB.out.cell (World.block_lt_of_cell? w _ hx912_4)).trans hx912_4
        replace hx912_5 := (HB.out.cell (World.block_lt_of_cell? w _ hx912_5)).trans hx912_5
        replace hx912_6 := (HB.out.cell (World.block_lt_of_cell? w _ hx912_6)).trans hx912_6
        clear hi912_6 hl912_6
        replace p912 := eq_true p912
        replace q912 := eq_true q912
        go_wp2_with (((with_reducible refine gate_builtin (b := .append) (xs := #[.tmp 15, .tmp 23]) rfl ?_); at_builtin; refine Kd.R_append (Kd.int .i64) (w0 := w) w.heap.size rfl (.tmp 15) (.tmp 23) 41 3 (.int .i64 0) 8 rfl Try.underlying41 info3 rfl (by decide) (by omega) u3 x3_1 ((rd_T26 l0_6 x9_1).f1.f2) [.int .i64 ((rd_T26 l0_6 x9_1).f1.f2)] (fun _ => True) (fun _ => False) rfl rfl ?aP (fun _ hk => hk.elim) ?aF ?aO ?aB ?aS ?aL ?_; (case aP => exact rfl); (case aB => exact (by repeat ((with_reducible exact HB.out)))); (case aF => exact (fun _ _ => trivial)); (case aO => exact HO_3.out); (case aS => exact (below_size (by repeat ((with_reducible exact HB.out))))); (case aL => have := LMc10.out; omega); intro v914 w12 ho hb hg hat; rw [← Ny913.out] at ho; have HO915 := Aside0.mk (ho); replace BK908 := Aside0.mk (blk_grown BK908.out hg (Kd.R_ne HO_3.out BK908.out (by decide))); replace HB := Aside0.mk (hb); clear HO_3; clear ho hb hg hat))
        go_roundg k1
        case measure => have := HK1.out; omega
        case rel => exact ⟨(y913), (wrap64 (x9_1 + 1)), (by rfl), H', ⟨by have := HK1.out; omega⟩, ⟨by exact HO915.out⟩, ⟨by exact BK908.out⟩, ⟨by repeat ((with_reducible exact HB.out))⟩⟩
       ·rw [if_neg c10] at H
        exact absurd H (by simp)
      ·rw [if_neg c9] at H
       exact absurd H (by simp)
     ·rw [if_neg c8] at H
      exact absurd H (by simp)
    ·rw [if_neg c7] at H
     have c7b0 : (a0_0 == 2) = false := beq_eq_false_iff_ne.mpr c7
     have c7b1 : (a0_0 != 2) = true := bne_iff_ne.mpr c7
     by_cases c13 : 0 ≤ x9_1
     ·rw [if_pos c13] at H
      have c13b0 : decide (0 ≤ x9_1) = true := decide_eq_true c13
      clear c13
      by_cases c14 : x9_1 < (l0_6.length : Int)
      ·rw [if_pos c14] at H
       have c14b0 : decide (x9_1 < (l0_6.length : Int)) = true := decide_eq_true c14
       clear c14
       by_cases c15 : x3_1.length < 17592186044416
       ·rw [if_pos c15] at H
        have LMc15 := Aside0.mk c15
        clear c15
        obtain ⟨y917, hy917⟩ : ∃ y_ : List Int, y_ = (x3_1 ++ [(rd_T26 l0_6 x9_1).f1.f3]) := ⟨_, rfl⟩
        replace H : (sashref06_Sizes.l0 k1 y917 (l0_6.length : Int) (wrap64 (x9_1 + 1)) a0_0 a0_1 a0_2 a0_3 a0_4 a0_5 l0_6) = some r := by (rw [hy917]; with_reducible exact H)
        have Ny917 := Aside0.mk hy917
        clear hy917
        have H' := Aside0.mk H
        clear H
        have hcz16_0 : wr.cell? ⟨gb908, 0, none⟩ = some (.int .u8 a0_0) := (blk_cell BK908.out 0).trans rfl
        have hcz16_1 : wr.cell? ⟨gb908, 1, none⟩ = some (.int .i64 a0_1) := (blk_cell BK908.out 1).trans rfl
        have hcz16_2 : wr.cell? ⟨gb908, 2, none⟩ = some (.int .i64 a0_2) := (blk_cell BK908.out 2).trans rfl
        have hcz16_3 : wr.cell? ⟨gb908, 3, none⟩ = some (.int .i64 a0_3) := (blk_cell BK908.out 3).trans rfl
        have hcz16_4 : wr.cell? ⟨gb908, 4, none⟩ = some (.int .i64 a0_4) := (blk_cell BK908.out 4).trans rfl
        have hcz16_5 : wr.cell? ⟨gb908, 5, none⟩ = some (.int .i64 a0_5) := (blk_cell BK908.out 5).trans rfl
        have hcz16_6 : wr.cell? ⟨gb908, 6, none⟩ = some (.slice A0_6 l0_6.length c0_6) := (blk_cell BK908.out 6).trans rfl
        have hfz16_0 := blk_frozen BK908.out 0
        have hfz16_1 := blk_frozen BK908.out 1
        have hfz16_2 := blk_frozen BK908.out 2
        have hfz16_3 := blk_frozen BK908.out 3
        have hfz16_4 := blk_frozen BK908.out 4
        have hfz16_5 := blk_frozen BK908.out 5
        have hfz16_6 := blk_frozen BK908.out 6
        have p916 : 0 ≤ (x9_1 : Int) := of_decide_eq_true (by (with_reducible assumption))
        have q916 : x9_1 < (l0_6.length : Int) := of_decide_eq_true (by (with_reducible assumption))
        obtain ⟨ad916, A916_6, c916_6, e916, hx916_0, hx916_1, hx916_2, hx916_3, hx916_4, hx916_5, hx916_6, hl916_6, hi916_6⟩ := at_T26 HR0_6.out x9_1 p916 q916
        cases e916
        replace hx916_0 := (HB.out.cell (World.block_lt_of_cell? w _ hx916_0)).trans hx916_0
        replace hx916_1 := (HB.out.cell (World.block_lt_of_cell? w _ hx916_1)).trans hx916_1
        replace hx916_2 := (HB.out.cell (World.block_lt_of_cell? w _ hx916_2)).trans hx916_2
        replace hx916_3 := (HB.out.cell (World.block_lt_of_cell? w _ hx916_3)).trans hx916_3
        replace hx916_4 := (HB.out.cell (World.block_lt_of_cell? w _ hx916_4)).trans hx916_4
        replace hx916_5 := (HB.out.cell (World.block_lt_of_cell? w _ hx916_5)).trans hx916_5
        replace hx916_6 := (HB.out.cell (World.block_lt_of_cell? w _ hx916_6)).trans hx916_6
        clear hi916_6 hl916_6
        replace p916 := eq_true p916
        replace q916 := eq_true q916
        go_wp2_with (((with_reducible refine gate_builtin (b := .append) (xs := #[.tmp 25, .tmp 33]) rfl ?_); at_builtin; refine Kd.R_append (Kd.int .i64) (w0 := w) w.heap.size rfl (.tmp 25) (.tmp 33) 41 3 (.int .i64 0) 8 rfl Try.underlying41 info3 rfl (by decide) (by omega) u3 x3_1 ((rd_T26 l0_6 x9_1).f1.f3) [.int .i64 ((rd_T26 l0_6 x9_1).f1.f3)] (fun _ => True) (fun _ => False) rfl rfl ?aP (fun _ hk => hk.elim) ?aF ?aO ?aB ?aS ?aL ?_; (case aP => exact rfl); (case aB => exact (by repeat ((with_reducible exact HB.out)))); (case aF => exact (fun _ _ => trivial)); (case aO => exact HO_3.out); (case aS => exact (below_size (by repeat ((with_reducible exact HB.out))))); (case aL => have := LMc15.out; omega); intro v918 w17 ho hb hg hat; rw [← Ny917.out] at ho; have HO919 := Aside0.mk (ho); replace BK908 := Aside0.mk (blk_grown BK908.out hg (Kd.R_ne HO_3.out BK908.out (by decide))); replace HB := Aside0.mk (hb); clear HO_3; clear ho hb hg hat))
        go_roundg k1
        case measure => have := HK1.out; omega
        case rel => exact ⟨(y917), (wrap64 (x9_1 + 1)), (by rfl), H', ⟨by have := HK1.out; omega⟩, ⟨by exact HO919.out⟩, ⟨by exact BK908.out⟩, ⟨by repeat ((with_reducible exact HB.out))⟩⟩
       ·rw [if_neg c15] at H
        exact absurd H (by simp)
      ·rw [if_neg c14] at H
       exact absurd H (by simp)
     ·rw [if_neg c13] at H
      exact absurd H (by simp)
   ·rw [if_neg c6] at H
    have c6b0 : decide (x9_1 < (l0_6.length : Int)) = false := decide_eq_false c6
    clear c6
    obtain rfl := Option.some.inj H
    go_wp2
    go_ret
    exact ⟨_, by rfl, by exact HO_3.out, by repeat ((with_reducible exact HB.out))⟩

end Go.Proofs.Ytfdmfgaiblfbhaa.P
namespace Go.Proofs.Ytfdmfgaiblfbhaa.P
open Go.RowKit Go.Proofs.YtfdmfgaiblfbhaaW.PrintWords Go.Proofs.YtfdmfgaiblfbhaaW.PrintLast Go.Proofs.YtfdmfgaiblfbhaaW.PrintMore
attribute [local go_sem] max2_int min2_int max_two min_two max_three min_three max_four min_four   -- for this text's walks alone
set_option linter.unusedVariables false
set_option linter.unusedSimpArgs false

attribute [local go_sem high] eqA23
/-! ### sashref06_one: function 178 -/
def sashref06_one.l0 : Nat → List (S23) → List (S23) → Int → Int → Int → Int → Int → Int → Int → Int → List (S26) → Option ((List (S23)) × Bool)
 | 0, _, _, _, _, _, _, _, _, _, _, _ => none
 | k + 1, x4, x5, x28, x29, x921000, x921001, x921002, x921003, x921004, x921005, x921006 => if x29 < x28 then (if 0 ≤ x29 then (if x29 < (x4.length : Int) then (if x29 < (x921006.length : Int) then (if (!(((rd_T23 x4 x29).f0) == ((rd_T26 x921006 x29).f1.f0)) || (!(((rd_T23 x4 x29).f1) == ((rd_T26 x921006 x29).f1.f1)) || (!(((rd_T23 x4 x29).f2) == ((rd_T26 x921006 x29).f1.f2)) || (!(((rd_T23 x4 x29).f3) == ((rd_T26 x921006 x29).f1.f3)))))) = true then (some ((([] : List (S23))), false)) else (sashref06_one.l0 k x4 x5 x28 (wrap64 (x29 + 1)) x921000 x921001 x921002 x921003 x921004 x921005 x921006)) else (none)) else (none)) else (none)) else (some (x5, true))
def sashref06_one.f (k : Nat) (a0_0 : Int) (a0_1 : Int) (a0_2 : Int) (a0_3 : Int) (a0_4 : Int) (a0_5 : Int) (l0_6 : List (S26)) : Option ((List (S23)) × Bool) := if a0_0 = 1 then (some ((([] : List (S23))), true)) else ((sashref06_Sizes.f k a0_0 a0_1 a0_2 a0_3 a0_4 a0_5 l0_6).bind fun t924 => ((sashref04_Cut.f k a0_1 a0_2 a0_3 a0_4 ((a0_0 - 1) % 256) t924).bind fun bt927 => (if bt927.2.2 = true then (sashref06_one.l0 k bt927.1 bt927.2.1 (bt927.1.length : Int) 0 a0_0 a0_1 a0_2 a0_3 a0_4 a0_5 l0_6) else (some (bt927.2.1, false)))))
theorem sashref06_one.mono_l : ∀ k, (∀ y0 y1 y2 y3 y4 y5 y6 y7 y8 y9 y10, LeO (sashref06_one.l0 k y0 y1 y2 y3 y4 y5 y6 y7 y8 y9 y10) (sashref06_one.l0 (k + 1) y0 y1 y2 y3 y4 y5 y6 y7 y8 y9 y10))
 | 0 => fun _ _ _ _ _ _ _ _ _ _ _ r h => by simp [sashref06_one.l0] at h
 | k + 1 => by
  have ih0 := sashref06_one.mono_l k
  ·intro y0 y1 y2 y3 y4 y5 y6 y7 y8 y9 y10
   unfold sashref06_one.l0
   repeat' first | (with_reducible exact ih0 _ _ _ _ _ _ _ _ _ _ _) | (with_reducible exact LeO.refl _) | (with_reducible refine LeO.ite ?_ ?_)
theorem sashref06_one.mono : ∀ a0 a1 a2 a3 a4 a5 a6 k, LeO (sashref06_one.f k a0 a1 a2 a3 a4 a5 a6) (sashref06_one.f (k + 1) a0 a1 a2 a3 a4 a5 a6) := by
 intro a0 a1 a2 a3 a4 a5 a6 k
 have ih0 := sashref06_one.mono_l k
 unfold sashref06_one.f
 repeat' first | (with_reducible exact ih0 _ _ _ _ _ _ _ _ _ _ _) | (with_reducible exact sashref04_Cut.mono _ _ _ _ _ _ _) | (with_reducible exact sashref06_Sizes.mono _ _ _ _ _ _ _ _) | (with_reducible exact LeO.refl _) | (with_reducible refine LeO.ite ?_ ?_) | (with_reducible refine LeO.bind ?_ (fun _ => ?_))
def sashref06_one.T3 : Bool × List (List Nat × List Nat) := (true, [([], []), ([0], [0]), ([], []), ([2], [2]), ([3], [3]), ([], []), ([5], [5]), ([1, 4, 6, 6], [1, 4, 6]), ([7], [7]), ([8], [8]), ([8], [8]), ([8], [8]), ([9, 7, 0, 1, 2, 3, 4, 5, 6, 7, 8, 9], [9]), ([10, 12, 0, 1, 2, 3, 4, 5, 6, 7, 8, 9, 10, 12], [10]), ([11, 13, 0, 1, 2, 3, 4, 5, 6, 7, 8, 9, 10, 11, 12, 13], [11])])
def sashref06_one.B3 : List Nat := [0, 1, 0, 4, 12, 0, 32, 127, 255, 511, 511, 511, 1023, 6143, 16383]
theorem sashref06_one.tab3 : rtab .any (opsOf Try.f178 3) = sashref06_one.T3 := by kernel_rfl
theorem sashref06_one.bits3 : waitsOk sashref06_one.T3.2 sashref06_one.B3 = true := by kernel_rfl
def sashref06_one.T9 : Bool × List (List Nat × List Nat) := (true, [([], []), ([], []), ([0, 1], [0, 1]), ([2], [2]), ([], []), ([4], [4]), ([], []), ([5, 6], [5, 6]), ([7], [7]), ([8], [8]), ([3, 9], [3, 9])])
def sashref06_one.B9 : List Nat := [0, 0, 3, 7, 0, 16, 0, 112, 240, 496, 1023]
theorem sashref06_one.tab9 : rtab .any (opsOf Try.f178 9) = sashref06_one.T9 := by kernel_rfl
theorem sashref06_one.bits9 : waitsOk sashref06_one.T9.2 sashref06_one.B9 = true := by kernel_rfl
set_option maxHeartbeats 8000000 in
set_option maxRecDepth 100000 in
theorem sashref06_one.calls (k : Nat) (a0_0 : Int) (a0_1 : Int) (a0_2 : Int) (a0_3 : Int) (a0_4 : Int) (a0_5 : Int) (A0_6 : Option Addr) (c0_6 : Nat) (l0_6 : List (S26)) (r1 : List (S23)) (r2 : Bool) (w : World) (hr0_6 : Kd.C k26 w A0_6 l0_6.length l0_6) (hc0_6 : l0_6.length ≤ c0_6) (h : sashref06_one.f k a0_0 a0_1 a0_2 a0_3 a0_4 a0_5 l0_6 = some (r1, r2)) :
  Calls Try.prog 178 #[.agg #[.int .u8 a0_0, .int .i64 a0_1, .int .i64 a0_2, .int .i64 a0_3, .int .i64 a0_4, .int .i64 a0_5, .slice A0_6 l0_6.length c0_6]] w fun e w' => ∃ v0_ : Value, e = .returned (.tuple #[v0_, .bool r2]) ∧ Kd.V k23 23 w' w.heap.size (fun k_ => (w.heap.size ≤ k_)) v0_ r1 ∧ Below w.heap.size w w' := by
 have hu26 := Try.underlying26
 have hu23 := Try.underlying23
 have HR0_6 := Aside0.mk hr0_6
 have HC0_6 := Aside0.mk hc0_6
 clear hr0_6 hc0_6
 have HB := Aside0.mk (Below.refl w.heap.size w)
 have H : (if a0_0 = 1 then (some ((([] : List (S23))), true)) else ((sashref06_Sizes.f k a0_0 a0_1 a0_2 a0_3 a0_4 a0_5 l0_6).bind fun t924 => ((sashref04_Cut.f k a0_1 a0_2 a0_3 a0_4 ((a0_0 - 1) % 256) t924).bind fun bt927 => (if bt927.2.2 = true then (sashref06_one.l0 k bt927.1 bt927.2.1 (bt927.1.length : Int) 0 a0_0 a0_1 a0_2 a0_3 a0_4 a0_5 l0_6) else (some (bt927.2.1, false)))))) = some (r1, r2) := h
 clear h
 by_cases c2 : a0_0 = 1
 ·rw [if_pos c2] at H
  have c2b0 : (a0_0 == 1) = true := beq_iff_eq.mpr c2
  have c2b1 : (a0_0 != 1) = false := bne_eq_false_iff_eq.mpr c2
  clear c2
  obtain ⟨y921, hy921⟩ : ∃ y_ : List (S23), y_ = (([] : List (S23))) := ⟨_, rfl⟩
  replace H : (some (y921, true)) = some (r1, r2) := by (rw [hy921]; with_reducible exact H)
  have Ny921 := Aside0.mk hy921
  clear hy921
  simp only [Option.some.injEq, Prod.mk.injEq] at H
  obtain ⟨rfl, rfl⟩ := H
  go_enter Try.func178, Try.ntmps178
  go_wp2_with (first | ((with_reducible refine gate_dst (N := 1) rfl ?_); refine box_event ?hg (N := 1) ?hd (cs := #[.int .u8 a0_0, .int .i64 a0_1, .int .i64 a0_2, .int .i64 a0_3, .int .i64 a0_4, .int .i64 a0_5, .slice A0_6 l0_6.length c0_6]) (t := 26) ?hr ?_; (case hd => rfl); (case hg => rfl); (case hr => (go_simp; done)); intro gb920 hg w3 hbox hb; have BK920 := Aside0.mk (hbox); replace HB := Aside0.mk (below_step (by repeat ((with_reducible exact HB.out))) hb); clear hb hbox hg; have hcz4_0 : w3.cell? ⟨gb920, 0, none⟩ = some (.int .u8 a0_0) := (blk_cell BK920.out 0).trans rfl; have hcz4_1 : w3.cell? ⟨gb920, 1, none⟩ = some (.int .i64 a0_1) := (blk_cell BK920.out 1).trans rfl; have hcz4_2 : w3.cell? ⟨gb920, 2, none⟩ = some (.int .i64 a0_2) := (blk_cell BK920.out 2).trans rfl; have hcz4_3 : w3.cell? ⟨gb920, 3, none⟩ = some (.int .i64 a0_3) := (blk_cell BK920.out 3).trans rfl; have hcz4_4 : w3.cell? ⟨gb920, 4, none⟩ = some (.int .i64 a0_4) := (blk_cell BK920.out 4).trans rfl; have hcz4_5 : w3.cell? ⟨gb920, 5, none⟩ = some (.int .i64 a0_5) := (blk_cell BK920.out 5).trans rfl; have hcz4_6 : w3.cell? ⟨gb920, 6, none⟩ = some (.slice A0_6 l0_6.length c0_6) := (blk_cell BK920.out 6).trans rfl; have hfz4_0 := blk_frozen BK920.out 0; have hfz4_1 := blk_frozen BK920.out 1; have hfz4_2 := blk_frozen BK920.out 2; have hfz4_3 := blk_frozen BK920.out 3; have hfz4_4 := blk_frozen BK920.out 4; have hfz4_5 := blk_frozen BK920.out 5; have hfz4_6 := blk_frozen BK920.out 6) | ((with_reducible refine gate_dst (N := 11) rfl ?_); refine Kd.R_lit k23 _ 23 ?hg (N := 11) ?hd (xs := ([] : List (S23))) (inner := []) (ok := fun _ => True) (okp := fun _ => True) ?hr ?hp (fun _ hk => hk) trivial (Below.refl _ _) (Nat.le_refl _) (by simp) ?_; (case hd => rfl); (case hg => rfl); (case hr => (go_simp; done)); (case hp => exact (Reps.none _ _)); intro v922 w5 ho6 hb hg_ hnew_; clear hg_ hnew_; (rw [← Ny921.out] at ho6); have HO923 := Aside0.mk (Kd.R_lower (Kd.R_newM (M := fun k_ => (w.heap.size ≤ k_)) ho6 (below_size (by repeat ((with_reducible exact HB.out)))) (fun k_ h_ => h_)) (below_size (by repeat ((with_reducible exact HB.out))))); replace BK920 := Aside0.mk (blk_below BK920.out hb); replace HB := Aside0.mk (below_step (by repeat ((with_reducible exact HB.out))) hb); clear hb ho6))
  go_ret2
  exact ⟨_, by rfl, Kd.R_V (by exact Kd.R_mono HO923.out (fun _ hk => hk.1)), by repeat ((with_reducible exact HB.out))⟩
 ·rw [if_neg c2] at H
  have c2b0 : (a0_0 == 1) = false := beq_eq_false_iff_ne.mpr c2
  have c2b1 : (a0_0 != 1) = true := bne_iff_ne.mpr c2
  replace H := Option.bind_eq_some_iff.mp H
  obtain ⟨t924, A70, H⟩ := H
  replace H : ((sashref04_Cut.f k a0_1 a0_2 a0_3 a0_4 ((a0_0 - 1) % 256) t924).bind fun bt927 => (if bt927.2.2 = true then (sashref06_one.l0 k bt927.1 bt927.2.1 (bt927.1.length : Int) 0 a0_0 a0_1 a0_2 a0_3 a0_4 a0_5 l0_6) else (some (bt927.2.1, false)))) = some (r1, r2) := H
  have A7 := Aside0.mk A70
  clear A70
  replace H := Option.bind_eq_some_iff.mp H
  obtain ⟨⟨t927, t930, t933⟩, A80, H⟩ := H
  replace H : (if t933 = true then (sashref06_one.l0 k t927 t930 (t927.length : Int) 0 a0_0 a0_1 a0_2 a0_3 a0_4 a0_5 l0_6) else (some (t930, false))) = some (r1, r2) := H
  have A8 := Aside0.mk A80
  clear A80
  by_cases c9 : t933 = true
  ·subst c9
   have H1 : (sashref06_one.l0 k t927 t930 (t927.length : Int) 0 a0_0 a0_1 a0_2 a0_3 a0_4 a0_5 l0_6) = some (r1, r2) := by rw [if_pos rfl] at H; exact H
   clear H
   have H := H1
   clear H1
   have H' := Aside0.mk H
   clear H
   go_enter Try.func178, Try.ntmps178
   try go_wp2_with (((with_reducible refine gate_dst (N := 1) rfl ?_); refine box_event ?hg (N := 1) ?hd (cs := #[.int .u8 a0_0, .int .i64 a0_1, .int .i64 a0_2, .int .i64 a0_3, .int .i64 a0_4, .int .i64 a0_5, .slice A0_6 l0_6.length c0_6]) (t := 26) ?hr ?_; (case hd => rfl); (case hg => rfl); (case hr => (go_simp; done)); intro gb920 hg w10 hbox hb; have BK920 := Aside0.mk (hbox); replace HB := Aside0.mk (below_step (by repeat ((with_reducible exact HB.out))) hb); clear hb hbox hg; have hcz11_0 : w10.cell? ⟨gb920, 0, none⟩ = some (.int .u8 a0_0) := (blk_cell BK920.out 0).trans rfl; have hcz11_1 : w10.cell? ⟨gb920, 1, none⟩ = some (.int .i64 a0_1) := (blk_cell BK920.out 1).trans rfl; have hcz11_2 : w10.cell? ⟨gb920, 2, none⟩ = some (.int .i64 a0_2) := (blk_cell BK920.out 2).trans rfl; have hcz11_3 : w10.cell? ⟨gb920, 3, none⟩ = some (.int .i64 a0_3) := (blk_cell BK920.out 3).trans rfl; have hcz11_4 : w10.cell? ⟨gb920, 4, none⟩ = some (.int .i64 a0_4) := (blk_cell BK920.out 4).trans rfl; have hcz11_5 : w10.cell? ⟨gb920, 5, none⟩ = some (.int .i64 a0_5) := (blk_cell BK920.out 5).trans rfl; have hcz11_6 : w10.cell? ⟨gb920, 6, none⟩ = some (.slice A0_6 l0_6.length c0_6) := (blk_cell BK920.out 6).trans rfl; have hfz11_0 := blk_frozen BK920.out 0; have hfz11_1 := blk_frozen BK920.out 1; have hfz11_2 := blk_frozen BK920.out 2; have hfz11_3 := blk_frozen BK920.out 3; have hfz11_4 := blk_frozen BK920.out 4; have hfz11_5 := blk_frozen BK920.out 5; have hfz11_6 := blk_frozen BK920.out 6))
   replace BK920 := Aside0.mk (blk_drew BK920.out); replace HB := Aside0.mk (below_drew1 HB.out)
   refine start_ (n := 15) (S := fun w' => w'.cell? ⟨gb920, 0, none⟩ = some (.int .u8 a0_0) ∧ w'.cell? ⟨gb920, 1, none⟩ = some (.int .i64 a0_1) ∧ w'.cell? ⟨gb920, 2, none⟩ = some (.int .i64 a0_2) ∧ w'.cell? ⟨gb920, 3, none⟩ = some (.int .i64 a0_3) ∧ w'.cell? ⟨gb920, 4, none⟩ = some (.int .i64 a0_4) ∧ w'.cell? ⟨gb920, 5, none⟩ = some (.int .i64 a0_5) ∧ w'.cell? ⟨gb920, 6, none⟩ = some (.slice A0_6 l0_6.length c0_6)) (ds := []) #[false, false, false, false, false, false, false, false, false, false, false, false, false, false, false] (by kernel_rfl) rfl rfl ⟨(blk_cell BK920.out 0).trans rfl, (blk_cell BK920.out 1).trans rfl, (blk_cell BK920.out 2).trans rfl, (blk_cell BK920.out 3).trans rfl, (blk_cell BK920.out 4).trans rfl, (blk_cell BK920.out 5).trans rfl, (blk_cell BK920.out 6).trans rfl⟩ (fun hHeld => ?_); refine with_tabW sashref06_one.tab3 sashref06_one.bits3 (fun HT_ HW_ => ?_)
   generalize w10.drew = w12 at BK920 HB hHeld ⊢
   refine pure_ (i := 0) (N := some 13) (v := ?_) (a' := ?_) #[true, false, false, false, false, false, false, false, false, false, false, false, false, false, false] rfl rfl (any_of HT_.out (by kernel_rfl)) (fun _ _ _ h => h) (Or.inl ⟨by rfl, ?_⟩) ?_ ?_
   rotate_left
   ·intro w'
    go_simp
    with_reducible rfl
   rotate_left
   ·simp only [Act.put, List.setIfInBounds_toArray, List.set_cons_zero, List.set_cons_succ, i64_w, i32_w]
    rfl
   refine pure_ (i := 2) (N := some 15) (v := ?_) (a' := ?_) #[true, false, true, false, false, false, false, false, false, false, false, false, false, false, false] rfl rfl (any_of HT_.out (by kernel_rfl)) (fun _ _ _ h => h) (Or.inl ⟨by rfl, ?_⟩) ?_ ?_
   rotate_left
   ·intro w'
    go_simp
    with_reducible rfl
   rotate_left
   ·simp only [Act.put, List.setIfInBounds_toArray, List.set_cons_zero, List.set_cons_succ, i64_w, i32_w]
    rfl
   refine take_ (i := 1) (N := some 14) (v := ?_) (a' := ?_) #[true, true, true, false, false, false, false, false, false, false, false, false, false, false, false] rfl rfl (take_ofW HT_.out HW_.out (by kernel_rfl)) (fun _ _ _ h => h) (Or.inl ⟨by rfl, ?_⟩) hHeld ?_ ?_
   rotate_left
   ·rintro w' ⟨s0, s1, s2, s3, s4, s5, s6⟩
    go_simp
    with_reducible rfl
   rotate_left
   ·simp only [Act.put, List.setIfInBounds_toArray, List.set_cons_zero, List.set_cons_succ, i64_w, i32_w]
    rfl
   refine take_ (i := 3) (N := some 16) (v := ?_) (a' := ?_) #[true, true, true, true, false, false, false, false, false, false, false, false, false, false, false] rfl rfl (take_ofW HT_.out HW_.out (by kernel_rfl)) (fun _ _ _ h => h) (Or.inl ⟨by rfl, ?_⟩) hHeld ?_ ?_
   rotate_left
   ·rintro w' ⟨s0, s1, s2, s3, s4, s5, s6⟩
    go_simp
    with_reducible rfl
   rotate_left
   ·simp only [Act.put, List.setIfInBounds_toArray, List.set_cons_zero, List.set_cons_succ, i64_w, i32_w]
    rfl
   refine pure_ (i := 4) (N := some 17) (v := ?_) (a' := ?_) #[true, true, true, true, true, false, false, false, false, false, false, false, false, false, false] rfl rfl (any_of HT_.out (by kernel_rfl)) (fun _ _ _ h => h) (Or.inl ⟨by rfl, ?_⟩) ?_ ?_
   rotate_left
   ·intro w'
    go_simp
    with_reducible rfl
   rotate_left
   ·simp only [Act.put, List.setIfInBounds_toArray, List.set_cons_zero, List.set_cons_succ, i64_w, i32_w]
    rfl
   refine take_ (i := 5) (N := some 18) (v := ?_) (a' := ?_) #[true, true, true, true, true, true, false, false, false, false, false, false, false, false, false] rfl rfl (take_ofW HT_.out HW_.out (by kernel_rfl)) (fun _ _ _ h => h) (Or.inl ⟨by rfl, ?_⟩) hHeld ?_ ?_
   rotate_left
   ·rintro w' ⟨s0, s1, s2, s3, s4, s5, s6⟩
    go_simp
    with_reducible rfl
   rotate_left
   ·simp only [Act.put, List.setIfInBounds_toArray, List.set_cons_zero, List.set_cons_succ, i64_w, i32_w]
    rfl
   refine one_ (i := 6) (N := some 19) #[true, true, true, true, true, true, true, false, false, false, false, false, false, false, false] rfl rfl (one_of HT_.out (by kernel_rfl)) (by decide) (fun K hK => ?_)
   refine goes_ Try.func194 (by kernel_rfl) rfl #[.agg #[.int .u8 a0_0, .int .i64 a0_1, .int .i64 a0_2, .int .i64 a0_3, .int .i64 a0_4, .int .i64 a0_5, .slice A0_6 l0_6.length c0_6]] (by rfl) rfl rfl (by (try simp only [List.map_toArray, List.map_cons, List.map_nil]); rfl) ?_
   with_reducible refine (sashref06_Sizes.calls k a0_0 a0_1 a0_2 a0_3 a0_4 a0_5 _ _ l0_6 t924 _ ?side1 ?side2 A7.out).mono ?_
   (case side1 => repeat (exact (Kd.C_below HR0_6.out HB.out)))
   (case side2 => exact HC0_6.out)
   rintro e w13 ⟨v925, rfl, ho0, hb⟩
   refine ⟨_, rfl, ?_⟩
   have HO926 := Aside0.mk (Kd.R_lower (Kd.R_newM (M := fun k_ => (w.heap.size ≤ k_)) ho0 (below_size (by repeat ((with_reducible exact HB.out)))) (fun k_ h_ => h_)) (below_size (by repeat ((with_reducible exact HB.out))))); replace BK920 := Aside0.mk (blk_below BK920.out hb); replace HB := Aside0.mk (below_step (by repeat ((with_reducible exact HB.out))) hb)
   (try clear hb)
   (skip)
   (skip)
   (skip)
   (try clear ho0)
   obtain ⟨Ao14, co14, eo14⟩ := Kd.R_slice HO926.out
   (subst eo14)
   refine hK.out _ _ ⟨(blk_cell BK920.out 0).trans rfl, (blk_cell BK920.out 1).trans rfl, (blk_cell BK920.out 2).trans rfl, (blk_cell BK920.out 3).trans rfl, (blk_cell BK920.out 4).trans rfl, (blk_cell BK920.out 5).trans rfl, (blk_cell BK920.out 6).trans rfl⟩ (fun hHeld => ?_)
   clear hK K
   refine norm_ (a' := ?_) ?_ ?_
   rotate_left
   ·show Act.put _ (some 19) _ = _
    simp only [Act.put, List.setIfInBounds_toArray, List.set_cons_zero, List.set_cons_succ, i64_w, i32_w]
    rfl
   refine one_ (i := 7) (N := some 20) #[true, true, true, true, true, true, true, true, false, false, false, false, false, false, false] rfl rfl (one_of HT_.out (by kernel_rfl)) (by decide) (fun K hK => ?_)
   refine goes_ Try.func46 (by kernel_rfl) rfl #[.agg #[.int .i64 a0_1, .int .i64 a0_2, .int .i64 a0_3, .int .i64 a0_4], .int .u8 ((a0_0 - 1) % 256), .slice Ao14 t924.length co14] (by rfl) rfl rfl (by (try simp only [List.map_toArray, List.map_cons, List.map_nil]); rfl) ?_
   with_reducible refine (sashref04_Cut.calls k a0_1 a0_2 a0_3 a0_4 ((a0_0 - 1) % 256) _ _ t924 t927 t930 true _ ?side1 ?side2 A8.out).mono ?_
   (case side1 => repeat (exact (Kd.R_reads' HO926.out).2.2))
   (case side2 => exact (Kd.R_reads' HO926.out).2.1)
   rintro e w15 ⟨v928, v931, rfl, ho0, ho1, hb⟩
   refine ⟨_, rfl, ?_⟩
   have HO929 := Aside0.mk (Kd.V_lower (Kd.V_mono (ok' := fun k_ => (w.heap.size ≤ k_) ∧ some k_ ≠ (.slice Ao14 t924.length co14 : Value).ownBlock ∧ k_ ≠ gb920) ho0 (fun k_ hk_ => ⟨(Nat.le_trans (below_size (by repeat ((with_reducible exact HB.out)))) hk_), (Kd.fresh' (Kd.R_lt HO926.out) k_ hk_), (Kd.freshB BK920.out k_ hk_)⟩)) (below_size (by repeat ((with_reducible exact HB.out))))); have HO932 := Aside0.mk (Kd.V_lower (Kd.V_mono (ok' := fun k_ => (w.heap.size ≤ k_) ∧ some k_ ≠ (.slice Ao14 t924.length co14 : Value).ownBlock ∧ k_ ≠ gb920) ho1 (fun k_ hk_ => ⟨(Nat.le_trans (below_size (by repeat ((with_reducible exact HB.out)))) hk_), (Kd.fresh' (Kd.R_lt HO926.out) k_ hk_), (Kd.freshB BK920.out k_ hk_)⟩)) (below_size (by repeat ((with_reducible exact HB.out))))); replace HO926 := Aside0.mk (Kd.R_below HO926.out hb); replace BK920 := Aside0.mk (blk_below BK920.out hb); replace HB := Aside0.mk (below_step (by repeat ((with_reducible exact HB.out))) hb)
   (try clear hb)
   (skip)
   (skip)
   (skip)
   (try clear ho0)
   (try clear ho1)
   refine hK.out _ _ ⟨(blk_cell BK920.out 0).trans rfl, (blk_cell BK920.out 1).trans rfl, (blk_cell BK920.out 2).trans rfl, (blk_cell BK920.out 3).trans rfl, (blk_cell BK920.out 4).trans rfl, (blk_cell BK920.out 5).trans rfl, (blk_cell BK920.out 6).trans rfl⟩ (fun hHeld => ?_)
   clear hK K
   refine norm_ (a' := ?_) ?_ ?_
   rotate_left
   ·show Act.put _ (some 20) _ = _
    simp only [Act.put, List.setIfInBounds_toArray, List.set_cons_zero, List.set_cons_succ, i64_w, i32_w]
    rfl
   refine pure_ (i := 8) (N := some 12) (v := ?_) (a' := ?_) #[true, true, true, true, true, true, true, true, true, false, false, false, false, false, false] rfl rfl (any_of HT_.out (by kernel_rfl)) (fun _ _ _ h => h) (Or.inl ⟨by rfl, ?_⟩) ?_ ?_
   rotate_left
   ·intro w'
    go_simp
    with_reducible rfl
   rotate_left
   ·simp only [Act.put, List.setIfInBounds_toArray, List.set_cons_zero, List.set_cons_succ, i64_w, i32_w]
    rfl
   refine pure_ (i := 9) (N := some 21) (v := ?_) (a' := ?_) #[true, true, true, true, true, true, true, true, true, true, false, false, false, false, false] rfl rfl (any_of HT_.out (by kernel_rfl)) (fun _ _ _ h => h) (Or.inl ⟨by rfl, ?_⟩) ?_ ?_
   rotate_left
   ·intro w'
    go_simp
    with_reducible rfl
   rotate_left
   ·simp only [Act.put, List.setIfInBounds_toArray, List.set_cons_zero, List.set_cons_succ, i64_w, i32_w]
    rfl
   refine pure_ (i := 10) (N := some 22) (v := ?_) (a' := ?_) #[true, true, true, true, true, true, true, true, true, true, true, false, false, false, false] rfl rfl (any_of HT_.out (by kernel_rfl)) (fun _ _ _ h => h) (Or.inl ⟨by rfl, ?_⟩) ?_ ?_
   rotate_left
   ·intro w'
    go_simp
    with_reducible rfl
   rotate_left
   ·simp only [Act.put, List.setIfInBounds_toArray, List.set_cons_zero, List.set_cons_succ, i64_w, i32_w]
    rfl
   refine pure_ (i := 11) (N := some 23) (v := ?_) (a' := ?_) #[true, true, true, true, true, true, true, true, true, true, true, true, false, false, false] rfl rfl (any_of HT_.out (by kernel_rfl)) (fun _ _ _ h => h) (Or.inl ⟨by rfl, ?_⟩) ?_ ?_
   rotate_left
   ·intro w'
    go_simp
    with_reducible rfl
   rotate_left
   ·simp only [Act.put, List.setIfInBounds_toArray, List.set_cons_zero, List.set_cons_succ, i64_w, i32_w]
    rfl
   refine pure_ (i := 12) (N := some 4) (v := ?_) (a' := ?_) #[true, true, true, true, true, true, true, true, true, true, true, true, true, false, false] rfl rfl (any_of HT_.out (by kernel_rfl)) (fun _ _ _ h => h) (Or.inl ⟨by rfl, ?_⟩) ?_ ?_
   rotate_left
   ·intro w'
    go_simp
    with_reducible rfl
   rotate_left
   ·simp only [Act.put, List.setIfInBounds_toArray, List.set_cons_zero, List.set_cons_succ, i64_w, i32_w]
    rfl
   refine pure_ (i := 13) (N := some 5) (v := ?_) (a' := ?_) #[true, true, true, true, true, true, true, true, true, true, true, true, true, true, false] rfl rfl (any_of HT_.out (by kernel_rfl)) (fun _ _ _ h => h) (Or.inl ⟨by rfl, ?_⟩) ?_ ?_
   rotate_left
   ·intro w'
    go_simp
    with_reducible rfl
   rotate_left
   ·simp only [Act.put, List.setIfInBounds_toArray, List.set_cons_zero, List.set_cons_succ, i64_w, i32_w]
    rfl
   refine pure_ (i := 14) (N := some 6) (v := ?_) (a' := ?_) #[true, true, true, true, true, true, true, true, true, true, true, true, true, true, true] rfl rfl (any_of HT_.out (by kernel_rfl)) (fun _ _ _ h => h) (Or.inl ⟨by rfl, ?_⟩) ?_ ?_
   rotate_left
   ·intro w'
    go_simp
    with_reducible rfl
   rotate_left
   ·simp only [Act.put, List.setIfInBounds_toArray, List.set_cons_zero, List.set_cons_succ, i64_w, i32_w]
    rfl
   refine done_ (done_of HT_.out (by kernel_rfl)) ?_
   obtain ⟨Ao16, co16, eo16⟩ := Kd.V_slice HO929.out
   subst eo16
   try go_wp2
   go_loopg [29] k (fun kq v29 w' => ∃ (x29_1 : Int), v29 = .int .i64 x29_1 ∧ Aside0 (sashref06_one.l0 kq t927 t930 (t927.length : Int) x29_1 a0_0 a0_1 a0_2 a0_3 a0_4 a0_5 l0_6 = some (r1, r2)) ∧ Aside0 (kq ≤ k) ∧ Aside0 (Kd.V k23 23 w' w.heap.size (fun k_ => (w.heap.size ≤ k_) ∧ k_ ≠ gb920) (.slice Ao16 t927.length co16) t927) ∧ Aside0 (Kd.V k23 23 w' w.heap.size (fun k_ => (w.heap.size ≤ k_) ∧ k_ ≠ gb920) v931 t930) ∧ Aside0 (w'.heap[gb920]? = some (.cells #[.int .u8 a0_0, .int .i64 a0_1, .int .i64 a0_2, .int .i64 a0_3, .int .i64 a0_4, .int .i64 a0_5, (.slice A0_6 l0_6.length c0_6)] 26 (0, 0))) ∧ Aside0 (Below w.heap.size w w'))
   case atStart => exact ⟨(0), (by rfl), H', ⟨Nat.le_refl _⟩, ⟨by exact Kd.V_mono HO929.out (fun _ hk => ⟨hk.1, hk.2.2⟩)⟩, ⟨by exact Kd.V_mono HO932.out (fun _ hk => ⟨hk.1, hk.2.2⟩)⟩, ⟨by exact BK920.out⟩, ⟨by repeat ((with_reducible exact HB.out))⟩⟩
   case round =>
    clear H'
    clear c2 c2b0 c2b1 hcz11_0 hcz11_1 hcz11_2 hcz11_3 hcz11_4 hcz11_5 hcz11_6 hfz11_0 hfz11_1 hfz11_2 hfz11_3 hfz11_4 hfz11_5 hfz11_6
    obtain ⟨x29_1, rfl, HA, HK1, HO_4, HO_5, BK920, HB⟩ := hrel
    cases gk with
    | zero => exact absurd HA.out (by simp [sashref06_one.l0])
    | succ k1 =>
     have H := HA.out
     clear HA
     simp only [sashref06_one.l0] at H
     by_cases c17 : x29_1 < (t927.length : Int)
     ·rw [if_pos c17] at H
      have c17b0 : decide (x29_1 < (t927.length : Int)) = true := decide_eq_true c17
      clear c17
      by_cases c18 : 0 ≤ x29_1
      ·rw [if_pos c18] at H
       have c18b0 : decide (0 ≤ x29_1) = true := decide_eq_true c18
       clear c18
       by_cases c19 : x29_1 < (t927.length : Int)
       ·rw [if_pos c19] at H
        have c19b0 : decide (x29_1 < (t927.length : Int)) = true := decide_eq_true c19
        clear c19
        by_cases c20 : x29_1 < (l0_6.length : Int)
        ·rw [if_pos c20] at H
         have c20b0 : decide (x29_1 < (l0_6.length : Int)) = true := decide_eq_true c20
         clear c20
         by_cases c21 : (!(((rd_T23 t927 x29_1).f0) == ((rd_T26 l0_6 x29_1).f1.f0)) || (!(((rd_T23 t927 x29_1).f1) == ((rd_T26 l0_6 x29_1).f1.f1)) || (!(((rd_T23 t927 x29_1).f2) == ((rd_T26 l0_6 x29_1).f1.f2)) || (!(((rd_T23 t927 x29_1).f3) == ((rd_T26 l0_6 x29_1).f1.f3)))))) = true
         ·rw [if_pos c21] at H
          have c21b0 : (!(((rd_T23 t927 x29_1).f0) == ((rd_T26 l0_6 x29_1).f1.f0)) || (!(((rd_T23 t927 x29_1).f1) == ((rd_T26 l0_6 x29_1).f1.f1)) || (!(((rd_T23 t927 x29_1).f2) == ((rd_T26 l0_6 x29_1).f1.f2)) || (!(((rd_T23 t927 x29_1).f3) == ((rd_T26 l0_6 x29_1).f1.f3)))))) = true := c21
          clear c21
          obtain ⟨y936, hy936⟩ : ∃ y_ : List (S23), y_ = (([] : List (S23))) := ⟨_, rfl⟩
          replace H : (some (y936, false)) = some (r1, r2) := by (rw [hy936]; with_reducible exact H)
          have Ny936 := Aside0.mk hy936
          clear hy936
          simp only [Option.some.injEq, Prod.mk.injEq] at H
          obtain ⟨rfl, rfl⟩ := H
          try go_wp2
          replace HO_4 := Aside0.mk (Kd.V_drew HO_4.out); replace HO_5 := Aside0.mk (Kd.V_drew HO_5.out); replace BK920 := Aside0.mk (blk_drew BK920.out); replace HB := Aside0.mk (below_drew1 HB.out)
          have p934 : 0 ≤ (x29_1 : Int) := of_decide_eq_true (by (with_reducible assumption))
          have q934 : x29_1 < (t927.length : Int) := of_decide_eq_true (by (with_reducible assumption))
          obtain ⟨ad934, e934, hx934_0, hx934_1, hx934_2, hx934_3⟩ := at_T23 (Kd.V_reads' HO_4.out).2.2 x29_1 p934 q934
          cases e934
          replace p934 := eq_true p934
          replace q934 := eq_true q934
          have p935 : 0 ≤ (x29_1 : Int) := of_decide_eq_true (by (with_reducible assumption))
          have q935 : x29_1 < (l0_6.length : Int) := of_decide_eq_true (by (with_reducible assumption))
          obtain ⟨ad935, A935_6, c935_6, e935, hx935_0, hx935_1, hx935_2, hx935_3, hx935_4, hx935_5, hx935_6, hl935_6, hi935_6⟩ := at_T26 HR0_6.out x29_1 p935 q935
          have hw935_6 := hx935_6
          have hw935_5 := hx935_5
          have hw935_4 := hx935_4
          have hw935_3 := hx935_3
          have hw935_2 := hx935_2
          have hw935_1 := hx935_1
          have hw935_0 := hx935_0
          cases e935
          replace hx935_0 := (HB.out.cell (World.block_lt_of_cell? w _ hx935_0)).trans hx935_0
          replace hx935_1 := (HB.out.cell (World.block_lt_of_cell? w _ hx935_1)).trans hx935_1
          replace hx935_2 := (HB.out.cell (World.block_lt_of_cell? w _ hx935_2)).trans hx935_2
          replace hx935_3 := (HB.out.cell (World.block_lt_of_cell? w _ hx935_3)).trans hx935_3
          replace hx935_4 := (HB.out.cell (World.block_lt_of_cell? w _ hx935_4)).trans hx935_4
          replace hx935_5 := (HB.out.cell (World.block_lt_of_cell? w _ hx935_5)).trans hx935_5
          replace hx935_6 := (HB.out.cell (World.block_lt_of_cell? w _ hx935_6)).trans hx935_6
          have HR935_6 := Aside0.mk hi935_6
          clear hi935_6 hl935_6
          replace p935 := eq_true p935
          replace q935 := eq_true q935
          refine start_ (n := 11) (S := fun w' => w'.cell? ⟨gb920, 0, none⟩ = some (.int .u8 a0_0) ∧ w'.cell? ⟨gb920, 1, none⟩ = some (.int .i64 a0_1) ∧ w'.cell? ⟨gb920, 2, none⟩ = some (.int .i64 a0_2) ∧ w'.cell? ⟨gb920, 3, none⟩ = some (.int .i64 a0_3) ∧ w'.cell? ⟨gb920, 4, none⟩ = some (.int .i64 a0_4) ∧ w'.cell? ⟨gb920, 5, none⟩ = some (.int .i64 a0_5) ∧ w'.cell? ⟨gb920, 6, none⟩ = some (.slice (some ad935) l0_6.length c0_6) ∧ w'.cell? (ad934.add ((x29_1).toNat * 4)) = some (.int .i64 ((rd_T23 t927 x29_1).f0)) ∧ w'.cell? ⟨(ad934.add ((x29_1).toNat * 4)).block, (ad934.add ((x29_1).toNat * 4)).off + 1, none⟩ = some (.int .i64 ((rd_T23 t927 x29_1).f1)) ∧ w'.cell? ⟨(ad934.add ((x29_1).toNat * 4)).block, (ad934.add ((x29_1).toNat * 4)).off + 2, none⟩ = some (.int .i64 ((rd_T23 t927 x29_1).f2)) ∧ w'.cell? ⟨(ad934.add ((x29_1).toNat * 4)).block, (ad934.add ((x29_1).toNat * 4)).off + 3, none⟩ = some (.int .i64 ((rd_T23 t927 x29_1).f3)) ∧ w'.cell? (ad935.add ((x29_1).toNat * 7)) = some (.int .u8 ((rd_T26 l0_6 x29_1).f0)) ∧ w'.cell? ⟨(ad935.add ((x29_1).toNat * 7)).block, (ad935.add ((x29_1).toNat * 7)).off + 1, none⟩ = some (.int .i64 ((rd_T26 l0_6 x29_1).f1.f0)) ∧ w'.cell? ⟨(ad935.add ((x29_1).toNat * 7)).block, (ad935.add ((x29_1).toNat * 7)).off + 2, none⟩ = some (.int .i64 ((rd_T26 l0_6 x29_1).f1.f1)) ∧ w'.cell? ⟨(ad935.add ((x29_1).toNat * 7)).block, (ad935.add ((x29_1).toNat * 7)).off + 3, none⟩ = some (.int .i64 ((rd_T26 l0_6 x29_1).f1.f2)) ∧ w'.cell? ⟨(ad935.add ((x29_1).toNat * 7)).block, (ad935.add ((x29_1).toNat * 7)).off + 4, none⟩ = some (.int .i64 ((rd_T26 l0_6 x29_1).f1.f3)) ∧ w'.cell? ⟨(ad935.add ((x29_1).toNat * 7)).block, (ad935.add ((x29_1).toNat * 7)).off + 5, none⟩ = some (.int .i64 ((rd_T26 l0_6 x29_1).f2)) ∧ w'.cell? ⟨(ad935.add ((x29_1).toNat * 7)).block, (ad935.add ((x29_1).toNat * 7)).off + 6, none⟩ = some (.slice A935_6 ((rd_T26 l0_6 x29_1).f3).length c935_6)) (ds := []) #[false, false, false, false, false, false, false, false, false, false, false] (by kernel_rfl) rfl rfl ⟨(blk_cell BK920.out 0).trans rfl, (blk_cell BK920.out 1).trans rfl, (blk_cell BK920.out 2).trans rfl, (blk_cell BK920.out 3).trans rfl, (blk_cell BK920.out 4).trans rfl, (blk_cell BK920.out 5).trans rfl, (blk_cell BK920.out 6).trans rfl, hx934_0, hx934_1, hx934_2, hx934_3, ((HB.out.cell (World.block_lt_of_cell? w _ hw935_0)).trans hw935_0), ((HB.out.cell (World.block_lt_of_cell? w _ hw935_1)).trans hw935_1), ((HB.out.cell (World.block_lt_of_cell? w _ hw935_2)).trans hw935_2), ((HB.out.cell (World.block_lt_of_cell? w _ hw935_3)).trans hw935_3), ((HB.out.cell (World.block_lt_of_cell? w _ hw935_4)).trans hw935_4), ((HB.out.cell (World.block_lt_of_cell? w _ hw935_5)).trans hw935_5), ((HB.out.cell (World.block_lt_of_cell? w _ hw935_6)).trans hw935_6)⟩ (fun hHeld => ?_); refine with_tabW sashref06_one.tab9 sashref06_one.bits9 (fun HT_ HW_ => ?_)
          generalize wr.drew = w22 at HO_4 HO_5 BK920 HB HR935_6 hx934_0 hx934_1 hx934_2 hx934_3 hx935_0 hx935_1 hx935_2 hx935_3 hx935_4 hx935_5 hx935_6 hHeld ⊢
          refine pure_ (i := 0) (N := some 32) (v := ?_) (a' := ?_) #[true, false, false, false, false, false, false, false, false, false, false] rfl rfl (any_of HT_.out (by kernel_rfl)) (fun _ _ _ h => h) (Or.inl ⟨by rfl, ?_⟩) ?_ ?_
          rotate_left
          ·intro w'
           go_simp
           with_reducible rfl
          rotate_left
          ·simp only [Act.put, List.setIfInBounds_toArray, List.set_cons_zero, List.set_cons_succ, i64_w, i32_w]
           rfl
          refine pure_ (i := 1) (N := some 33) (v := ?_) (a' := ?_) #[true, true, false, false, false, false, false, false, false, false, false] rfl rfl (any_of HT_.out (by kernel_rfl)) (fun _ _ _ h => h) (Or.inl ⟨by rfl, ?_⟩) ?_ ?_
          rotate_left
          ·intro w'
           go_simp
           with_reducible rfl
          rotate_left
          ·simp only [Act.put, List.setIfInBounds_toArray, List.set_cons_zero, List.set_cons_succ, i64_w, i32_w]
           rfl
          refine pure_ (i := 2) (N := some 34) (v := ?_) (a' := ?_) #[true, true, true, false, false, false, false, false, false, false, false] rfl rfl (any_of HT_.out (by kernel_rfl)) (fun _ _ _ h => h) (Or.inl ⟨by rfl, ?_⟩) ?_ ?_
          rotate_left
          ·intro w'
           go_simp
           with_reducible rfl
          rotate_left
          ·simp only [Act.put, List.setIfInBounds_toArray, List.set_cons_zero, List.set_cons_succ, i64_w, i32_w]
           rfl
          refine pure_ (i := 4) (N := some 36) (v := ?_) (a' := ?_) #[true, true, true, false, true, false, false, false, false, false, false] rfl rfl (any_of HT_.out (by kernel_rfl)) (fun _ _ _ h => h) (Or.inl ⟨by rfl, ?_⟩) ?_ ?_
          rotate_left
          ·intro w'
           go_simp
           with_reducible rfl
          rotate_left
          ·simp only [Act.put, List.setIfInBounds_toArray, List.set_cons_zero, List.set_cons_succ, i64_w, i32_w]
           rfl
          refine pure_ (i := 6) (N := some 38) (v := ?_) (a' := ?_) #[true, true, true, false, true, false, true, false, false, false, false] rfl rfl (any_of HT_.out (by kernel_rfl)) (fun _ _ _ h => h) (Or.inl ⟨by rfl, ?_⟩) ?_ ?_
          rotate_left
          ·intro w'
           go_simp
           with_reducible rfl
          rotate_left
          ·simp only [Act.put, List.setIfInBounds_toArray, List.set_cons_zero, List.set_cons_succ, i64_w, i32_w]
           rfl
          refine take_ (i := 3) (N := some 35) (v := ?_) (a' := ?_) #[true, true, true, true, true, false, true, false, false, false, false] rfl rfl (take_ofW HT_.out HW_.out (by kernel_rfl)) (fun _ _ _ h => h) (Or.inl ⟨by rfl, ?_⟩) hHeld ?_ ?_
          rotate_left
          ·rintro w' ⟨s0, s1, s2, s3, s4, s5, s6, s7, s8, s9, s10, s11, s12, s13, s14, s15, s16, s17⟩
           go_simp
           with_reducible rfl
          rotate_left
          ·simp only [Act.put, List.setIfInBounds_toArray, List.set_cons_zero, List.set_cons_succ, i64_w, i32_w]
           rfl
          refine take_ (i := 5) (N := some 37) (v := ?_) (a' := ?_) #[true, true, true, true, true, true, true, false, false, false, false] rfl rfl (take_ofW HT_.out HW_.out (by kernel_rfl)) (fun _ _ _ h => h) (Or.inl ⟨by rfl, ?_⟩) hHeld ?_ ?_
          rotate_left
          ·rintro w' ⟨s0, s1, s2, s3, s4, s5, s6, s7, s8, s9, s10, s11, s12, s13, s14, s15, s16, s17⟩
           go_simp
           with_reducible rfl
          rotate_left
          ·simp only [Act.put, List.setIfInBounds_toArray, List.set_cons_zero, List.set_cons_succ, i64_w, i32_w]
           rfl
          refine pure_ (i := 7) (N := some 39) (v := ?_) (a' := ?_) #[true, true, true, true, true, true, true, true, false, false, false] rfl rfl (any_of HT_.out (by kernel_rfl)) (fun _ _ _ h => h) (Or.inl ⟨by rfl, ?_⟩) ?_ ?_
          rotate_left
          ·intro w'
           go_simp
           with_reducible rfl
          rotate_left
          ·simp only [Act.put, List.setIfInBounds_toArray, List.set_cons_zero, List.set_cons_succ, i64_w, i32_w]
           rfl
          refine pure_ (i := 8) (N := some 40) (v := ?_) (a' := ?_) #[true, true, true, true, true, true, true, true, true, false, false] rfl rfl (any_of HT_.out (by kernel_rfl)) (fun _ _ _ h => h) (Or.inl ⟨by rfl, ?_⟩) ?_ ?_
          rotate_left
          ·intro w'
           go_simp
           with_reducible rfl
          rotate_left
          ·simp only [Act.put, List.setIfInBounds_toArray, List.set_cons_zero, List.set_cons_succ, i64_w, i32_w]
           rfl
          refine take_ (i := 9) (N := some 41) (v := ?_) (a' := ?_) #[true, true, true, true, true, true, true, true, true, true, false] rfl rfl (take_ofW HT_.out HW_.out (by kernel_rfl)) (fun _ _ _ h => h) (Or.inl ⟨by rfl, ?_⟩) hHeld ?_ ?_
          rotate_left
          ·rintro w' ⟨s0, s1, s2, s3, s4, s5, s6, s7, s8, s9, s10, s11, s12, s13, s14, s15, s16, s17⟩
           go_simp
           with_reducible rfl
          rotate_left
          ·simp only [Act.put, List.setIfInBounds_toArray, List.set_cons_zero, List.set_cons_succ, i64_w, i32_w]
           rfl
          refine pure_ (i := 10) (N := some 42) (v := ?_) (a' := ?_) #[true, true, true, true, true, true, true, true, true, true, true] rfl rfl (any_of HT_.out (by kernel_rfl)) (fun _ _ _ h => h) (Or.inl ⟨by rfl, ?_⟩) ?_ ?_
          rotate_left
          ·intro w'
           go_simp
           with_reducible rfl
          rotate_left
          ·simp only [Act.put, List.setIfInBounds_toArray, List.set_cons_zero, List.set_cons_succ, i64_w, i32_w]
           rfl
          refine done_ (done_of HT_.out (by kernel_rfl)) ?_
          try go_wp2_with (((with_reducible refine gate_dst (N := 43) rfl ?_); refine Kd.R_lit k23 _ 23 ?hg (N := 43) ?hd (xs := ([] : List (S23))) (inner := []) (ok := fun _ => True) (okp := fun _ => True) ?hr ?hp (fun _ hk => hk) trivial (Below.refl _ _) (Nat.le_refl _) (by simp) ?_; (case hd => rfl); (case hg => rfl); (case hr => (go_simp; done)); (case hp => exact (Reps.none _ _)); intro v937 w23 ho24 hb hg_ hnew_; clear hg_ hnew_; (rw [← Ny936.out] at ho24); have HO938 := Aside0.mk (Kd.R_lower (Kd.R_newM (M := fun k_ => (w.heap.size ≤ k_)) ho24 (below_size (by repeat ((with_reducible exact HB.out)))) (fun k_ h_ => h_)) (below_size (by repeat ((with_reducible exact HB.out))))); replace HO_4 := Aside0.mk (Kd.V_elder' HO_4.out (Kd.R_base ho24) hb); replace HO_5 := Aside0.mk (Kd.V_elder' HO_5.out (Kd.R_base ho24) hb); replace BK920 := Aside0.mk (blk_below BK920.out hb); replace HB := Aside0.mk (below_step (by repeat ((with_reducible exact HB.out))) hb); clear hb ho24))
          go_ret2
          exact ⟨_, by rfl, Kd.R_V (by exact Kd.R_mono HO938.out (fun _ hk => hk.1)), by repeat ((with_reducible exact HB.out))⟩
         ·rw [if_neg c21] at H
          have c21b0 : (!(((rd_T23 t927 x29_1).f0) == ((rd_T26 l0_6 x29_1).f1.f0)) || (!(((rd_T23 t927 x29_1).f1) == ((rd_T26 l0_6 x29_1).f1.f1)) || (!(((rd_T23 t927 x29_1).f2) == ((rd_T26 l0_6 x29_1).f1.f2)) || (!(((rd_T23 t927 x29_1).f3) == ((rd_T26 l0_6 x29_1).f1.f3)))))) = false := by simpa using c21
          clear c21
          have H' := Aside0.mk H
          clear H
          try go_wp2
          replace HO_4 := Aside0.mk (Kd.V_drew HO_4.out); replace HO_5 := Aside0.mk (Kd.V_drew HO_5.out); replace BK920 := Aside0.mk (blk_drew BK920.out); replace HB := Aside0.mk (below_drew1 HB.out)
          have p934 : 0 ≤ (x29_1 : Int) := of_decide_eq_true (by (with_reducible assumption))
          have q934 : x29_1 < (t927.length : Int) := of_decide_eq_true (by (with_reducible assumption))
          obtain ⟨ad934, e934, hx934_0, hx934_1, hx934_2, hx934_3⟩ := at_T23 (Kd.V_reads' HO_4.out).2.2 x29_1 p934 q934
          cases e934
          replace p934 := eq_true p934
          replace q934 := eq_true q934
          have p935 : 0 ≤ (x29_1 : Int) := of_decide_eq_true (by (with_reducible assumption))
          have q935 : x29_1 < (l0_6.length : Int) := of_decide_eq_true (by (with_reducible assumption))
          obtain ⟨ad935, A935_6, c935_6, e935, hx935_0, hx935_1, hx935_2, hx935_3, hx935_4, hx935_5, hx935_6, hl935_6, hi935_6⟩ := at_T26 HR0_6.out x29_1 p935 q935
          have hw935_6 := hx935_6
          have hw935_5 := hx935_5
          have hw935_4 := hx935_4
          have hw935_3 := hx935_3
          have hw935_2 := hx935_2
          have hw935_1 := hx935_1
          have hw935_0 := hx935_0
          cases e935
          replace hx935_0 := (HB.out.cell (World.block_lt_of_cell? w _ hx935_0)).trans hx935_0
          replace hx935_1 := (HB.out.cell (World.block_lt_of_cell? w _ hx935_1)).trans hx935_1
          replace hx935_2 := (HB.out.cell (World.block_lt_of_cell? w _ hx935_2)).trans hx935_2
          replace hx935_3 := (HB.out.cell (World.block_lt_of_cell? w _ hx935_3)).trans hx935_3
          replace hx935_4 := (HB.out.cell (World.block_lt_of_cell? w _ hx935_4)).trans hx935_4
          replace hx935_5 := (HB.out.cell (World.block_lt_of_cell? w _ hx935_5)).trans hx935_5
          replace hx935_6 := (HB.out.cell (World.block_lt_of_cell? w _ hx935_6)).trans hx935_6
          have HR935_6 := Aside0.mk hi935_6
          clear hi935_6 hl935_6
          replace p935 := eq_true p935
          replace q935 := eq_true q935
          refine start_ (n := 11) (S := fun w' => w'.cell? ⟨gb920, 0, none⟩ = some (.int .u8 a0_0) ∧ w'.cell? ⟨gb920, 1, none⟩ = some (.int .i64 a0_1) ∧ w'.cell? ⟨gb920, 2, none⟩ = some (.int .i64 a0_2) ∧ w'.cell? ⟨gb920, 3, none⟩ = some (.int .i64 a0_3) ∧ w'.cell? ⟨gb920, 4, none⟩ = some (.int .i64 a0_4) ∧ w'.cell? ⟨gb920, 5, none⟩ = some (.int .i64 a0_5) ∧ w'.cell? ⟨gb920, 6, none⟩ = some (.slice (some ad935) l0_6.length c0_6) ∧ w'.cell? (ad934.add ((x29_1).toNat * 4)) = some (.int .i64 ((rd_T23 t927 x29_1).f0)) ∧ w'.cell? ⟨(ad934.add ((x29_1).toNat * 4)).block, (ad934.add ((x29_1).toNat * 4)).off + 1, none⟩ = some (.int .i64 ((rd_T23 t927 x29_1).f1)) ∧ w'.cell? ⟨(ad934.add ((x29_1).toNat * 4)).block, (ad934.add ((x29_1).toNat * 4)).off + 2, none⟩ = some (.int .i64 ((rd_T23 t927 x29_1).f2)) ∧ w'.cell? ⟨(ad934.add ((x29_1).toNat * 4)).block, (ad934.add ((x29_1).toNat * 4)).off + 3, none⟩ = some (.int .i64 ((rd_T23 t927 x29_1).f3)) ∧ w'.cell? (ad935.add ((x29_1).toNat * 7)) = some (.int .u8 ((rd_T26 l0_6 x29_1).f0)) ∧ w'.cell? ⟨(ad935.add ((x29_1).toNat * 7)).block, (ad935.add ((x29_1).toNat * 7)).off + 1, none⟩ = some (.int .i64 ((rd_T26 l0_6 x29_1).f1.f0)) ∧ w'.cell? ⟨(ad935.add ((x29_1).toNat * 7)).block, (ad935.add ((x29_1).toNat * 7)).off + 2, none⟩ = some (.int .i64 ((rd_T26 l0_6 x29_1).f1.f1)) ∧ w'.cell? ⟨(ad935.add ((x29_1).toNat * 7)).block, (ad935.add ((x29_1).toNat * 7)).off + 3, none⟩ = some (.int .i64 ((rd_T26 l0_6 x29_1).f1.f2)) ∧ w'.cell? ⟨(ad935.add ((x29_1).toNat * 7)).block, (ad935.add ((x29_1).toNat * 7)).off + 4, none⟩ = some (.int .i64 ((rd_T26 l0_6 x29_1).f1.f3)) ∧ w'.cell? ⟨(ad935.add ((x29_1).toNat * 7)).block, (ad935.add ((x29_1).toNat * 7)).off + 5, none⟩ = some (.int .i64 ((rd_T26 l0_6 x29_1).f2)) ∧ w'.cell? ⟨(ad935.add ((x29_1).toNat * 7)).block, (ad935.add ((x29_1).toNat * 7)).off + 6, none⟩ = some (.slice A935_6 ((rd_T26 l0_6 x29_1).f3).length c935_6)) (ds := []) #[false, false, false, false, false, false, false, false, false, false, false] (by kernel_rfl) rfl rfl ⟨(blk_cell BK920.out 0).trans rfl, (blk_cell BK920.out 1).trans rfl, (blk_cell BK920.out 2).trans rfl, (blk_cell BK920.out 3).trans rfl, (blk_cell BK920.out 4).trans rfl, (blk_cell BK920.out 5).trans rfl, (blk_cell BK920.out 6).trans rfl, hx934_0, hx934_1, hx934_2, hx934_3, ((HB.out.cell (World.block_lt_of_cell? w _ hw935_0)).trans hw935_0), ((HB.out.cell (World.block_lt_of_cell? w _ hw935_1)).trans hw935_1), ((HB.out.cell (World.block_lt_of_cell? w _ hw935_2)).trans hw935_2), ((HB.out.cell (World.block_lt_of_cell? w _ hw935_3)).trans hw935_3), ((HB.out.cell (World.block_lt_of_cell? w _ hw935_4)).trans hw935_4), ((HB.out.cell (World.block_lt_of_cell? w _ hw935_5)).trans hw935_5), ((HB.out.cell (World.block_lt_of_cell? w _ hw935_6)).trans hw935_6)⟩ (fun hHeld => ?_); refine with_tabW sashref06_one.tab9 sashref06_one.bits9 (fun HT_ HW_ => ?_)
          generalize wr.drew = w25 at HO_4 HO_5 BK920 HB HR935_6 hx934_0 hx934_1 hx934_2 hx934_3 hx935_0 hx935_1 hx935_2 hx935_3 hx935_4 hx935_5 hx935_6 hHeld ⊢
          refine pure_ (i := 0) (N := some 32) (v := ?_) (a' := ?_) #[true, false, false, false, false, false, false, false, false, false, false] rfl rfl (any_of HT_.out (by kernel_rfl)) (fun _ _ _ h => h) (Or.inl ⟨by rfl, ?_⟩) ?_ ?_
          rotate_left
          ·intro w'
           go_simp
           with_reducible rfl
          rotate_left
          ·simp only [Act.put, List.setIfInBounds_toArray, List.set_cons_zero, List.set_cons_succ, i64_w, i32_w]
           rfl
          refine pure_ (i := 1) (N := some 33) (v := ?_) (a' := ?_) #[true, true, false, false, false, false, false, false, false, false, false] rfl rfl (any_of HT_.out (by kernel_rfl)) (fun _ _ _ h => h) (Or.inl ⟨by rfl, ?_⟩) ?_ ?_
          rotate_left
          ·intro w'
           go_simp
           with_reducible rfl
          rotate_left
          ·simp only [Act.put, List.setIfInBounds_toArray, List.set_cons_zero, List.set_cons_succ, i64_w, i32_w]
           rfl
          refine pure_ (i := 2) (N := some 34) (v := ?_) (a' := ?_) #[true, true, true, false, false, false, false, false, false, false, false] rfl rfl (any_of HT_.out (by kernel_rfl)) (fun _ _ _ h => h) (Or.inl ⟨by rfl, ?_⟩) ?_ ?_
          rotate_left
          ·intro w'
           go_simp
           with_reducible rfl
          rotate_left
          ·simp only [Act.put, List.setIfInBounds_toArray, List.set_cons_zero, List.set_cons_succ, i64_w, i32_w]
           rfl
          refine pure_ (i := 4) (N := some 36) (v := ?_) (a' := ?_) #[true, true, true, false, true, false, false, false, false, false, false] rfl rfl (any_of HT_.out (by kernel_rfl)) (fun _ _ _ h => h) (Or.inl ⟨by rfl, ?_⟩) ?_ ?_
          rotate_left
          ·intro w'
           go_simp
           with_reducible rfl
          rotate_left
          ·simp only [Act.put, List.setIfInBounds_toArray, List.set_cons_zero, List.set_cons_succ, i64_w, i32_w]
           rfl
          refine pure_ (i := 6) (N := some 38) (v := ?_) (a' := ?_) #[true, true, true, false, true, false, true, false, false, false, false] rfl rfl (any_of HT_.out (by kernel_rfl)) (fun _ _ _ h => h) (Or.inl ⟨by rfl, ?_⟩) ?_ ?_
          rotate_left
          ·intro w'
           go_simp
           with_reducible rfl
          rotate_left
          ·simp only [Act.put, List.setIfInBounds_toArray, List.set_cons_zero, List.set_cons_succ, i64_w, i32_w]
           rfl
          refine take_ (i := 3) (N := some 35) (v := ?_) (a' := ?_) #[true, true, true, true, true, false, true, false, false, false, false] rfl rfl (take_ofW HT_.out HW_.out (by kernel_rfl)) (fun _ _ _ h => h) (Or.inl ⟨by rfl, ?_⟩) hHeld ?_ ?_
          rotate_left
          ·rintro w' ⟨s0, s1, s2, s3, s4, s5, s6, s7, s8, s9, s10, s11, s12, s13, s14, s15, s16, s17⟩
           go_simp
           with_reducible rfl
          rotate_left
          ·simp only [Act.put, List.setIfInBounds_toArray, List.set_cons_zero, List.set_cons_succ, i64_w, i32_w]
           rfl
          refine take_ (i := 5) (N := some 37) (v := ?_) (a' := ?_) #[true, true, true, true, true, true, true, false, false, false, false] rfl rfl (take_ofW HT_.out HW_.out (by kernel_rfl)) (fun _ _ _ h => h) (Or.inl ⟨by rfl, ?_⟩) hHeld ?_ ?_
          rotate_left
          ·rintro w' ⟨s0, s1, s2, s3, s4, s5, s6, s7, s8, s9, s10, s11, s12, s13, s14, s15, s16, s17⟩
           go_simp
           with_reducible rfl
          rotate_left
          ·simp only [Act.put, List.setIfInBounds_toArray, List.set_cons_zero, List.set_cons_succ, i64_w, i32_w]
           rfl
          refine pure_ (i := 7) (N := some 39) (v := ?_) (a' := ?_) #[true, true, true, true, true, true, true, true, false, false, false] rfl rfl (any_of HT_.out (by kernel_rfl)) (fun _ _ _ h => h) (Or.inl ⟨by rfl, ?_⟩) ?_ ?_
          rotate_left
          ·intro w'
           go_simp
           with_reducible rfl
          rotate_left
          ·simp only [Act.put, List.setIfInBounds_toArray, List.set_cons_zero, List.set_cons_succ, i64_w, i32_w]
           rfl
          refine pure_ (i := 8) (N := some 40) (v := ?_) (a' := ?_) #[true, true, true, true, true, true, true, true, true, false, false] rfl rfl (any_of HT_.out (by kernel_rfl)) (fun _ _ _ h => h) (Or.inl ⟨by rfl, ?_⟩) ?_ ?_
          rotate_left
          ·intro w'
           go_simp
           with_reducible rfl
          rotate_left
          ·simp only [Act.put, List.setIfInBounds_toArray, List.set_cons_zero, List.set_cons_succ, i64_w, i32_w]
           rfl
          refine take_ (i := 9) (N := some 41) (v := ?_) (a' := ?_) #[true, true, true, true, true, true, true, true, true, true, false] rfl rfl (take_ofW HT_.out HW_.out (by kernel_rfl)) (fun _ _ _ h => h) (Or.inl ⟨by rfl, ?_⟩) hHeld ?_ ?_
          rotate_left
          ·rintro w' ⟨s0, s1, s2, s3, s4, s5, s6, s7, s8, s9, s10, s11, s12, s13, s14, s15, s16, s17⟩
           go_simp
           with_reducible rfl
          rotate_left
          ·simp only [Act.put, List.setIfInBounds_toArray, List.set_cons_zero, List.set_cons_succ, i64_w, i32_w]
           rfl
          refine pure_ (i := 10) (N := some 42) (v := ?_) (a' := ?_) #[true, true, true, true, true, true, true, true, true, true, true] rfl rfl (any_of HT_.out (by kernel_rfl)) (fun _ _ _ h => h) (Or.inl ⟨by rfl, ?_⟩) ?_ ?_
          rotate_left
          ·intro w'
           go_simp
           with_reducible rfl
          rotate_left
          ·simp only [Act.put, List.setIfInBounds_toArray, List.set_cons_zero, List.set_cons_succ, i64_w, i32_w]
           rfl
          refine done_ (done_of HT_.out (by kernel_rfl)) ?_
          try go_wp2
          go_roundg k1
          case measure => have := HK1.out; omega
          case rel => exact ⟨(wrap64 (x29_1 + 1)), (by rfl), H', ⟨by have := HK1.out; omega⟩, ⟨by exact HO_4.out⟩, ⟨by exact HO_5.out⟩, ⟨by exact BK920.out⟩, ⟨by repeat ((with_reducible exact HB.out))⟩⟩
        ·rw [if_neg c20] at H
         exact absurd H (by simp)
       ·rw [if_neg c19] at H
        exact absurd H (by simp)
      ·rw [if_neg c18] at H
       exact absurd H (by simp)
     ·rw [if_neg c17] at H
      have c17b0 : decide (x29_1 < (t927.length : Int)) = false := decide_eq_false c17
      clear c17
      simp only [Option.some.injEq, Prod.mk.injEq] at H
      obtain ⟨rfl, rfl⟩ := H
      go_wp2
      go_ret2
      exact ⟨_, by rfl, by exact Kd.V_mono HO_5.out (fun _ hk => hk.1), by repeat ((with_reducible exact HB.out))⟩
  ·replace c9 := Bool.eq_false_iff.mpr c9
   subst c9
   have H1 : (some (t930, false)) = some (r1, r2) := by rw [if_neg (show ¬ (false = true) by decide)] at H; exact H
   clear H
   have H := H1
   clear H1
   simp only [Option.some.injEq, Prod.mk.injEq] at H
   obtain ⟨rfl, rfl⟩ := H
   go_enter Try.func178, Try.ntmps178
   try go_wp2_with (((with_reducible refine gate_dst (N := 1) rfl ?_); refine box_event ?hg (N := 1) ?hd (cs := #[.int .u8 a0_0, .int .i64 a0_1, .int .i64 a0_2, .int .i64 a0_3, .int .i64 a0_4, .int .i64 a0_5, .slice A0_6 l0_6.length c0_6]) (t := 26) ?hr ?_; (case hd => rfl); (case hg => rfl); (case hr => (go_simp; done)); intro gb920 hg w26 hbox hb; have BK920 := Aside0.mk (hbox); replace HB := Aside0.mk (below_step (by repeat ((with_reducible exact HB.out))) hb); clear hb hbox hg; have hcz27_0 : w26.cell? ⟨gb920, 0, none⟩ = some (.int .u8 a0_0) := (blk_cell BK920.out 0).trans rfl; have hcz27_1 : w26.cell? ⟨gb920, 1, none⟩ = some (.int .i64 a0_1) := (blk_cell BK920.out 1).trans rfl; have hcz27_2 : w26.cell? ⟨gb920, 2, none⟩ = some (.int .i64 a0_2) := (blk_cell BK920.out 2).trans rfl; have hcz27_3 : w26.cell? ⟨gb920, 3, none⟩ = some (.int .i64 a0_3) := (blk_cell BK920.out 3).trans rfl; have hcz27_4 : w26.cell? ⟨gb920, 4, none⟩ = some (.int .i64 a0_4) := (blk_cell BK920.out 4).trans rfl; have hcz27_5 : w26.cell? ⟨gb920, 5, none⟩ = some (.int .i64 a0_5) := (blk_cell BK920.out 5).trans rfl; have hcz27_6 : w26.cell? ⟨gb920, 6, none⟩ = some (.slice A0_6 l0_6.length c0_6) := (blk_cell BK920.out 6).trans rfl; have hfz27_0 := blk_frozen BK920.out 0; have hfz27_1 := blk_frozen BK920.out 1; have hfz27_2 := blk_frozen BK920.out 2; have hfz27_3 := blk_frozen BK920.out 3; have hfz27_4 := blk_frozen BK920.out 4; have hfz27_5 := blk_frozen BK920.out 5; have hfz27_6 := blk_frozen BK920.out 6))
   replace BK920 := Aside0.mk (blk_drew BK920.out); replace HB := Aside0.mk (below_drew1 HB.out)
   refine start_ (n := 15) (S := fun w' => w'.cell? ⟨gb920, 0, none⟩ = some (.int .u8 a0_0) ∧ w'.cell? ⟨gb920, 1, none⟩ = some (.int .i64 a0_1) ∧ w'.cell? ⟨gb920, 2, none⟩ = some (.int .i64 a0_2) ∧ w'.cell? ⟨gb920, 3, none⟩ = some (.int .i64 a0_3) ∧ w'.cell? ⟨gb920, 4, none⟩ = some (.int .i64 a0_4) ∧ w'.cell? ⟨gb920, 5, none⟩ = some (.int .i64 a0_5) ∧ w'.cell? ⟨gb920, 6, none⟩ = some (.slice A0_6 l0_6.length c0_6)) (ds := []) #[false, false, false, false, false, false, false, false, false, false, false, false, false, false, false] (by kernel_rfl) rfl rfl ⟨(blk_cell BK920.out 0).trans rfl, (blk_cell BK920.out 1).trans rfl, (blk_cell BK920.out 2).trans rfl, (blk_cell BK920.out 3).trans rfl, (blk_cell BK920.out 4).trans rfl, (blk_cell BK920.out 5).trans rfl, (blk_cell BK920.out 6).trans rfl⟩ (fun hHeld => ?_); refine with_tabW sashref06_one.tab3 sashref06_one.bits3 (fun HT_ HW_ => ?_)
   generalize w26.drew = w28 at BK920 HB hHeld ⊢
   refine pure_ (i := 0) (N := some 13) (v := ?_) (a' := ?_) #[true, false, false, false, false, false, false, false, false, false, false, false, false, false, false] rfl rfl (any_of HT_.out (by kernel_rfl)) (fun _ _ _ h => h) (Or.inl ⟨by rfl, ?_⟩) ?_ ?_
   rotate_left
   ·intro w'
    go_simp
    with_reducible rfl
   rotate_left
   ·simp only [Act.put, List.setIfInBounds_toArray, List.set_cons_zero, List.set_cons_succ, i64_w, i32_w]
    rfl
   refine pure_ (i := 2) (N := some 15) (v := ?_) (a' := ?_) #[true, false, true, false, false, false, false, false, false, false, false, false, false, false, false] rfl rfl (any_of HT_.out (by kernel_rfl)) (fun _ _ _ h => h) (Or.inl ⟨by rfl, ?_⟩) ?_ ?_
   rotate_left
   ·intro w'
    go_simp
    with_reducible rfl
   rotate_left
   ·simp only [Act.put, List.setIfInBounds_toArray, List.set_cons_zero, List.set_cons_succ, i64_w, i32_w]
    rfl
   refine take_ (i := 1) (N := some 14) (v := ?_) (a' := ?_) #[true, true, true, false, false, false, false, false, false, false, false, false, false, false, false] rfl rfl (take_ofW HT_.out HW_.out (by kernel_rfl)) (fun _ _ _ h => h) (Or.inl ⟨by rfl, ?_⟩) hHeld ?_ ?_
   rotate_left
   ·rintro w' ⟨s0, s1, s2, s3, s4, s5, s6⟩
    go_simp
    with_reducible rfl
   rotate_left
   ·simp only [Act.put, List.setIfInBounds_toArray, List.set_cons_zero, List.set_cons_succ, i64_w, i32_w]
    rfl
   refine take_ (i := 3) (N := some 16) (v := ?_) (a' := ?_) #[true, true, true, true, false, false, false, false, false, false, false, false, false, false, false] rfl rfl (take_ofW HT_.out HW_.out (by kernel_rfl)) (fun _ _ _ h => h) (Or.inl ⟨by rfl, ?_⟩) hHeld ?_ ?_
   rotate_left
   ·rintro w' ⟨s0, s1, s2, s3, s4, s5, s6⟩
    go_simp
    with_reducible rfl
   rotate_left
   ·simp only [Act.put, List.setIfInBounds_toArray, List.set_cons_zero, List.set_cons_succ, i64_w, i32_w]
    rfl
   refine pure_ (i := 4) (N := some 17) (v := ?_) (a' := ?_) #[true, true, true, true, true, false, false, false, false, false, false, false, false, false, false] rfl rfl (any_of HT_.out (by kernel_rfl)) (fun _ _ _ h => h) (Or.inl ⟨by rfl, ?_⟩) ?_ ?_
   rotate_left
   ·intro w'
    go_simp
    with_reducible rfl
   rotate_left
   ·simp only [Act.put, List.setIfInBounds_toArray, List.set_cons_zero, List.set_cons_succ, i64_w, i32_w]
    rfl
   refine take_ (i := 5) (N := some 18) (v := ?_) (a' := ?_) #[true, true, true, true, true, true, false, false, false, false, false, false, false, false, false] rfl rfl (take_ofW HT_.out HW_.out (by kernel_rfl)) (fun _ _ _ h => h) (Or.inl ⟨by rfl, ?_⟩) hHeld ?_ ?_
   rotate_left
   ·rintro w' ⟨s0, s1, s2, s3, s4, s5, s6⟩
    go_simp
    with_reducible rfl
   rotate_left
   ·simp only [Act.put, List.setIfInBounds_toArray, List.set_cons_zero, List.set_cons_succ, i64_w, i32_w]
    rfl
   refine one_ (i := 6) (N := some 19) #[true, true, true, true, true, true, true, false, false, false, false, false, false, false, false] rfl rfl (one_of HT_.out (by kernel_rfl)) (by decide) (fun K hK => ?_)
   refine goes_ Try.func194 (by kernel_rfl) rfl #[.agg #[.int .u8 a0_0, .int .i64 a0_1, .int .i64 a0_2, .int .i64 a0_3, .int .i64 a0_4, .int .i64 a0_5, .slice A0_6 l0_6.length c0_6]] (by rfl) rfl rfl (by (try simp only [List.map_toArray, List.map_cons, List.map_nil]); rfl) ?_
   with_reducible refine (sashref06_Sizes.calls k a0_0 a0_1 a0_2 a0_3 a0_4 a0_5 _ _ l0_6 t924 _ ?side1 ?side2 A7.out).mono ?_
   (case side1 => repeat (exact (Kd.C_below HR0_6.out HB.out)))
   (case side2 => exact HC0_6.out)
   rintro e w29 ⟨v925, rfl, ho0, hb⟩
   refine ⟨_, rfl, ?_⟩
   have HO926 := Aside0.mk (Kd.R_lower (Kd.R_newM (M := fun k_ => (w.heap.size ≤ k_)) ho0 (below_size (by repeat ((with_reducible exact HB.out)))) (fun k_ h_ => h_)) (below_size (by repeat ((with_reducible exact HB.out))))); replace BK920 := Aside0.mk (blk_below BK920.out hb); replace HB := Aside0.mk (below_step (by repeat ((with_reducible exact HB.out))) hb)
   (try clear hb)
   (skip)
   (skip)
   (skip)
   (try clear ho0)
   obtain ⟨Ao30, co30, eo30⟩ := Kd.R_slice HO926.out
   (subst eo30)
   refine hK.out _ _ ⟨(blk_cell BK920.out 0).trans rfl, (blk_cell BK920.out 1).trans rfl, (blk_cell BK920.out 2).trans rfl, (blk_cell BK920.out 3).trans rfl, (blk_cell BK920.out 4).trans rfl, (blk_cell BK920.out 5).trans rfl, (blk_cell BK920.out 6).trans rfl⟩ (fun hHeld => ?_)
   clear hK K
   refine norm_ (a' := ?_) ?_ ?_
   rotate_left
   ·show Act.put _ (some 19) _ = _
    simp only [Act.put, List.setIfInBounds_toArray, List.set_cons_zero, List.set_cons_succ, i64_w, i32_w]
    rfl
   refine one_ (i := 7) (N := some 20) #[true, true, true, true, true, true, true, true, false, false, false, false, false, false, false] rfl rfl (one_of HT_.out (by kernel_rfl)) (by decide) (fun K hK => ?_)
   refine goes_ Try.func46 (by kernel_rfl) rfl #[.agg #[.int .i64 a0_1, .int .i64 a0_2, .int .i64 a0_3, .int .i64 a0_4], .int .u8 ((a0_0 - 1) % 256), .slice Ao30 t924.length co30] (by rfl) rfl rfl (by (try simp only [List.map_toArray, List.map_cons, List.map_nil]); rfl) ?_
   with_reducible refine (sashref04_Cut.calls k a0_1 a0_2 a0_3 a0_4 ((a0_0 - 1) % 256) _ _ t924 t927 t930 false _ ?side1 ?side2 A8.out).mono ?_
   (case side1 => repeat (exact (Kd.R_reads' HO926.out).2.2))
   (case side2 => exact (Kd.R_reads' HO926.out).2.1)
   rintro e w31 ⟨v928, v931, rfl, ho0, ho1, hb⟩
   refine ⟨_, rfl, ?_⟩
   have HO929 := Aside0.mk (Kd.V_lower (Kd.V_mono (ok' := fun k_ => (w.heap.size ≤ k_) ∧ some k_ ≠ (.slice Ao30 t924.length co30 : Value).ownBlock ∧ k_ ≠ gb920) ho0 (fun k_ hk_ => ⟨(Nat.le_trans (below_size (by repeat ((with_reducible exact HB.out)))) hk_), (Kd.fresh' (Kd.R_lt HO926.out) k_ hk_), (Kd.freshB BK920.out k_ hk_)⟩)) (below_size (by repeat ((with_reducible exact HB.out))))); have HO932 := Aside0.mk (Kd.V_lower (Kd.V_mono (ok' := fun k_ => (w.heap.size ≤ k_) ∧ some k_ ≠ (.slice Ao30 t924.length co30 : Value).ownBlock ∧ k_ ≠ gb920) ho1 (fun k_ hk_ => ⟨(Nat.le_trans (below_size (by repeat ((with_reducible exact HB.out)))) hk_), (Kd.fresh' (Kd.R_lt HO926.out) k_ hk_), (Kd.freshB BK920.out k_ hk_)⟩)) (below_size (by repeat ((with_reducible exact HB.out))))); replace HO926 := Aside0.mk (Kd.R_below HO926.out hb); replace BK920 := Aside0.mk (blk_below BK920.out hb); replace HB := Aside0.mk (below_step (by repeat ((with_reducible exact HB.out))) hb)
   (try clear hb)
   (skip)
   (skip)
   (skip)
   (try clear ho0)
   (try clear ho1)
   refine hK.out _ _ ⟨(blk_cell BK920.out 0).trans rfl, (blk_cell BK920.out 1).trans rfl, (blk_cell BK920.out 2).trans rfl, (blk_cell BK920.out 3).trans rfl, (blk_cell BK920.out 4).trans rfl, (blk_cell BK920.out 5).trans rfl, (blk_cell BK920.out 6).trans rfl⟩ (fun hHeld => ?_)
   clear hK K
   refine norm_ (a' := ?_) ?_ ?_
   rotate_left
   ·show Act.put _ (some 20) _ = _
    simp only [Act.put, List.setIfInBounds_toArray, List.set_cons_zero, List.set_cons_succ, i64_w, i32_w]
    rfl
   refine pure_ (i := 8) (N := some 12) (v := ?_) (a' := ?_) #[true, true, true, true, true, true, true, true, true, false, false, false, false, false, false] rfl rfl (any_of HT_.out (by kernel_rfl)) (fun _ _ _ h => h) (Or.inl ⟨by rfl, ?_⟩) ?_ ?_
   rotate_left
   ·intro w'
    go_simp
    with_reducible rfl
   rotate_left
   ·simp only [Act.put, List.setIfInBounds_toArray, List.set_cons_zero, List.set_cons_succ, i64_w, i32_w]
    rfl
   refine pure_ (i := 9) (N := some 21) (v := ?_) (a' := ?_) #[true, true, true, true, true, true, true, true, true, true, false, false, false, false, false] rfl rfl (any_of HT_.out (by kernel_rfl)) (fun _ _ _ h => h) (Or.inl ⟨by rfl, ?_⟩) ?_ ?_
   rotate_left
   ·intro w'
    go_simp
    with_reducible rfl
   rotate_left
   ·simp only [Act.put, List.setIfInBounds_toArray, List.set_cons_zero, List.set_cons_succ, i64_w, i32_w]
    rfl
   refine pure_ (i := 10) (N := some 22) (v := ?_) (a' := ?_) #[true, true, true, true, true, true, true, true, true, true, true, false, false, false, false] rfl rfl (any_of HT_.out (by kernel_rfl)) (fun _ _ _ h => h) (Or.inl ⟨by rfl, ?_⟩) ?_ ?_
   rotate_left
   ·intro w'
    go_simp
    with_reducible rfl
   rotate_left
   ·simp only [Act.put, List.setIfInBounds_toArray, List.set_cons_zero, List.set_cons_succ, i64_w, i32_w]
    rfl
   refine pure_ (i := 11) (N := some 23) (v := ?_) (a' := ?_) #[true, true, true, true, true, true, true, true, true, true, true, true, false, false, false] rfl rfl (any_of HT_.out (by kernel_rfl)) (fun _ _ _ h => h) (Or.inl ⟨by rfl, ?_⟩) ?_ ?_
   rotate_left
   ·intro w'
    go_simp
    with_reducible rfl
   rotate_left
   ·simp only [Act.put, List.setIfInBounds_toArray, List.set_cons_zero, List.set_cons_succ, i64_w, i32_w]
    rfl
   refine pure_ (i := 12) (N := some 4) (v := ?_) (a' := ?_) #[true, true, true, true, true, true, true, true, true, true, true, true, true, false, false] rfl rfl (any_of HT_.out (by kernel_rfl)) (fun _ _ _ h => h) (Or.inl ⟨by rfl, ?_⟩) ?_ ?_
   rotate_left
   ·intro w'
    go_simp
    with_reducible rfl
   rotate_left
   ·simp only [Act.put, List.setIfInBounds_toArray, List.set_cons_zero, List.set_cons_succ, i64_w, i32_w]
    rfl
   refine pure_ (i := 13) (N := some 5) (v := ?_) (a' := ?_) #[true, true, true, true, true, true, true, true, true, true, true, true, true, true, false] rfl rfl (any_of HT_.out (by kernel_rfl)) (fun _ _ _ h => h) (Or.inl ⟨by rfl, ?_⟩) ?_ ?_
   rotate_left
   ·intro w'
    go_simp
    with_reducible rfl
   rotate_left
   ·simp only [Act.put, List.setIfInBounds_toArray, List.set_cons_zero, List.set_cons_succ, i64_w, i32_w]
    rfl
   refine pure_ (i := 14) (N := some 6) (v := ?_) (a' := ?_) #[true, true, true, true, true, true, true, true, true, true, true, true, true, true, true] rfl rfl (any_of HT_.out (by kernel_rfl)) (fun _ _ _ h => h) (Or.inl ⟨by rfl, ?_⟩) ?_ ?_
   rotate_left
   ·intro w'
    go_simp
    with_reducible rfl
   rotate_left
   ·simp only [Act.put, List.setIfInBounds_toArray, List.set_cons_zero, List.set_cons_succ, i64_w, i32_w]
    rfl
   refine done_ (done_of HT_.out (by kernel_rfl)) ?_
   try go_wp2
   go_ret2
   exact ⟨_, by rfl, by exact Kd.V_mono HO932.out (fun _ hk => hk.1), by repeat ((with_reducible exact HB.out))⟩

end Go.Proofs.Ytfdmfgaiblfbhaa.P
namespace Go.Proofs.Ytfdmfgaiblfbhaa.P
open Go.RowKit Go.Proofs.YtfdmfgaiblfbhaaW.PrintWords Go.Proofs.YtfdmfgaiblfbhaaW.PrintLast Go.Proofs.YtfdmfgaiblfbhaaW.PrintMore
attribute [local go_sem] max2_int min2_int max_two min_two max_three min_three max_four min_four   -- for this text's walks alone
set_option linter.unusedVariables false
set_option linter.unusedSimpArgs false

/-! ### sashref06_Check: function 146 -/
def sashref06_Check.l0 : Nat → List (S23) → List (S26) → List (S23) → Int → Int → Option ((List (S23)) × Int × Int)
 | 0, _, _, _, _, _ => none
 | k + 1, x5, x6, x7, x20, x21 => if x21 < x20 then (if 0 ≤ x21 then (if x21 < (x6.length : Int) then ((sashref06_one.f k ((rd_T26 x6 x21).f0) ((rd_T26 x6 x21).f1.f0) ((rd_T26 x6 x21).f1.f1) ((rd_T26 x6 x21).f1.f2) ((rd_T26 x6 x21).f1.f3) ((rd_T26 x6 x21).f2) ((rd_T26 x6 x21).f3)).bind fun bt951 => (if bt951.2 = true then (if x7.length + bt951.1.length < 4398046511104 then (sashref06_Check.l0 k x5 x6 (x7 ++ bt951.1) x20 (wrap64 (x21 + 1))) else (none)) else (some (x5, 5, x21)))) else (none)) else (none)) else (some (x7, 0, 0))
def sashref06_Check.f (k : Nat) (a0_0 : Int) (a0_1 : Int) (a0_2 : Int) (a0_3 : Int) (a0_4 : Int) (a0_5 : Int) (l0_6 : List (S26)) : Option ((List (S23)) × Int × Int) := (some (([] : List (S23)) : List (S23))).bind fun y940 => ((sashref05_May.f k a0_0 a0_1 a0_2 a0_3 a0_4 a0_5 l0_6).bind fun t943 => (if t943 = true then ((sashref05_All.f k a0_0 a0_1 a0_2 a0_3 a0_4 a0_5 l0_6).bind fun t944 => (sashref06_Check.l0 k y940 t944 (([] : List (S23))) (t944.length : Int) 0)) else (some (y940, 1, 0))))
theorem sashref06_Check.mono_l : ∀ k, (∀ y0 y1 y2 y3 y4, LeO (sashref06_Check.l0 k y0 y1 y2 y3 y4) (sashref06_Check.l0 (k + 1) y0 y1 y2 y3 y4))
 | 0 => fun _ _ _ _ _ r h => by simp [sashref06_Check.l0] at h
 | k + 1 => by
  have ih0 := sashref06_Check.mono_l k
  ·intro y0 y1 y2 y3 y4
   unfold sashref06_Check.l0
   repeat' first | (with_reducible exact ih0 _ _ _ _ _) | (with_reducible exact sashref06_one.mono _ _ _ _ _ _ _ _) | (with_reducible exact LeO.refl _) | (with_reducible refine LeO.ite ?_ ?_) | (with_reducible refine LeO.bind ?_ (fun _ => ?_))
theorem sashref06_Check.mono : ∀ a0 a1 a2 a3 a4 a5 a6 k, LeO (sashref06_Check.f k a0 a1 a2 a3 a4 a5 a6) (sashref06_Check.f (k + 1) a0 a1 a2 a3 a4 a5 a6) := by
 intro a0 a1 a2 a3 a4 a5 a6 k
 have ih0 := sashref06_Check.mono_l k
 unfold sashref06_Check.f
 repeat' first | (with_reducible exact ih0 _ _ _ _ _) | (with_reducible exact sashref05_All.mono _ _ _ _ _ _ _ _) | (with_reducible exact sashref05_May.mono _ _ _ _ _ _ _ _) | (with_reducible exact LeO.refl _) | (with_reducible refine LeO.ite ?_ ?_) | (with_reducible refine LeO.bind ?_ (fun _ => ?_))
set_option maxHeartbeats 8000000 in
set_option maxRecDepth 100000 in
theorem sashref06_Check.calls (k : Nat) (a0_0 : Int) (a0_1 : Int) (a0_2 : Int) (a0_3 : Int) (a0_4 : Int) (a0_5 : Int) (A0_6 : Option Addr) (c0_6 : Nat) (l0_6 : List (S26)) (r1 : List (S23)) (r2 : Int) (r3 : Int) (w : World) (hr0_6 : Kd.C k26 w A0_6 l0_6.length l0_6) (hc0_6 : l0_6.length ≤ c0_6) (h : sashref06_Check.f k a0_0 a0_1 a0_2 a0_3 a0_4 a0_5 l0_6 = some (r1, r2, r3)) :
  Calls Try.prog 146 #[.agg #[.int .u8 a0_0, .int .i64 a0_1, .int .i64 a0_2, .int .i64 a0_3, .int .i64 a0_4, .int .i64 a0_5, .slice A0_6 l0_6.length c0_6]] w fun e w' => ∃ v0_ : Value, e = .returned (.tuple #[v0_, .int .i64 r2, .int .i64 r3]) ∧ Kd.R k23 23 w' w.heap.size (fun _ => True) v0_ r1 ∧ Below w.heap.size w w' := by
 have hu26 := Try.underlying26
 have HR0_6 := Aside0.mk hr0_6
 have HC0_6 := Aside0.mk hc0_6
 clear hr0_6 hc0_6
 have HB := Aside0.mk (Below.refl w.heap.size w)
 have H : ((some (([] : List (S23)) : List (S23))).bind fun y940 => ((sashref05_May.f k a0_0 a0_1 a0_2 a0_3 a0_4 a0_5 l0_6).bind fun t943 => (if t943 = true then ((sashref05_All.f k a0_0 a0_1 a0_2 a0_3 a0_4 a0_5 l0_6).bind fun t944 => (sashref06_Check.l0 k y940 t944 (([] : List (S23))) (t944.length : Int) 0)) else (some (y940, 1, 0))))) = some (r1, r2, r3) := h
 clear h
 obtain ⟨y940, hy940⟩ : ∃ y_ : List (S23), y_ = (([] : List (S23))) := ⟨_, rfl⟩
 replace H : ((sashref05_May.f k a0_0 a0_1 a0_2 a0_3 a0_4 a0_5 l0_6).bind fun t943 => (if t943 = true then ((sashref05_All.f k a0_0 a0_1 a0_2 a0_3 a0_4 a0_5 l0_6).bind fun t944 => (sashref06_Check.l0 k y940 t944 (([] : List (S23))) (t944.length : Int) 0)) else (some (y940, 1, 0)))) = some (r1, r2, r3) := by (have H2_ := (Option.bind_some _ _).symm.trans H; rw [hy940]; with_reducible exact H2_)
 have Ny940 := Aside0.mk hy940
 clear hy940
 replace H := Option.bind_eq_some_iff.mp H
 obtain ⟨t943, A20, H⟩ := H
 replace H : (if t943 = true then ((sashref05_All.f k a0_0 a0_1 a0_2 a0_3 a0_4 a0_5 l0_6).bind fun t944 => (sashref06_Check.l0 k y940 t944 (([] : List (S23))) (t944.length : Int) 0)) else (some (y940, 1, 0))) = some (r1, r2, r3) := H
 have A2 := Aside0.mk A20
 clear A20
 by_cases c3 : t943 = true
 ·subst c3
  have H1 : ((sashref05_All.f k a0_0 a0_1 a0_2 a0_3 a0_4 a0_5 l0_6).bind fun t944 => (sashref06_Check.l0 k y940 t944 (([] : List (S23))) (t944.length : Int) 0)) = some (r1, r2, r3) := by rw [if_pos rfl] at H; exact H
  clear H
  have H := H1
  clear H1
  replace H := Option.bind_eq_some_iff.mp H
  obtain ⟨t944, A40, H⟩ := H
  replace H : (sashref06_Check.l0 k y940 t944 (([] : List (S23))) (t944.length : Int) 0) = some (r1, r2, r3) := H
  have A4 := Aside0.mk A40
  clear A40
  obtain ⟨y947, hy947⟩ : ∃ y_ : List (S23), y_ = (([] : List (S23))) := ⟨_, rfl⟩
  replace H : (sashref06_Check.l0 k y940 t944 y947 (t944.length : Int) 0) = some (r1, r2, r3) := by (rw [hy947]; with_reducible exact H)
  have Ny947 := Aside0.mk hy947
  clear hy947
  have H' := Aside0.mk H
  clear H
  go_enter Try.func146, Try.ntmps146
  go_wp2_with (first | ((with_reducible refine gate_dst (N := 1) rfl ?_); refine box_event ?hg (N := 1) ?hd (cs := #[.int .u8 a0_0, .int .i64 a0_1, .int .i64 a0_2, .int .i64 a0_3, .int .i64 a0_4, .int .i64 a0_5, .slice A0_6 l0_6.length c0_6]) (t := 26) ?hr ?_; (case hd => rfl); (case hg => rfl); (case hr => (go_simp; done)); intro gb939 hg w5 hbox hb; have BK939 := Aside0.mk (hbox); have GW939 := Aside0.mk ((by rw [hg]; exact (below_size (by repeat ((with_reducible exact HB.out)))) : w.heap.size ≤ gb939)); replace HB := Aside0.mk (below_step (by repeat ((with_reducible exact HB.out))) hb); clear hb hbox hg) | ((with_reducible refine gate_dst (N := 11) rfl ?_); refine Kd.R_lit k23 _ 23 ?hg (N := 11) ?hd (xs := ([] : List (S23))) (inner := []) (ok := fun _ => True) (okp := fun _ => True) ?hr ?hp (fun _ hk => hk) trivial (Below.refl _ _) (Nat.le_refl _) (by simp) ?_; (case hd => rfl); (case hg => rfl); (case hr => (go_simp; done)); (case hp => exact (Reps.none _ _)); intro v941 w6 ho7 hb hg_ hnew_; clear hg_ hnew_; (rw [← Ny940.out] at ho7); have HO942 := Aside0.mk (Kd.R_lower ho7 (below_size (by repeat ((with_reducible exact HB.out))))); replace BK939 := Aside0.mk (blk_below BK939.out hb); replace HB := Aside0.mk (below_step (by repeat ((with_reducible exact HB.out))) hb); clear hb ho7; have hcz8_0 : w6.cell? ⟨gb939, 0, none⟩ = some (.int .u8 a0_0) := (blk_cell BK939.out 0).trans rfl; have hcz8_1 : w6.cell? ⟨gb939, 1, none⟩ = some (.int .i64 a0_1) := (blk_cell BK939.out 1).trans rfl; have hcz8_2 : w6.cell? ⟨gb939, 2, none⟩ = some (.int .i64 a0_2) := (blk_cell BK939.out 2).trans rfl; have hcz8_3 : w6.cell? ⟨gb939, 3, none⟩ = some (.int .i64 a0_3) := (blk_cell BK939.out 3).trans rfl; have hcz8_4 : w6.cell? ⟨gb939, 4, none⟩ = some (.int .i64 a0_4) := (blk_cell BK939.out 4).trans rfl; have hcz8_5 : w6.cell? ⟨gb939, 5, none⟩ = some (.int .i64 a0_5) := (blk_cell BK939.out 5).trans rfl; have hcz8_6 : w6.cell? ⟨gb939, 6, none⟩ = some (.slice A0_6 l0_6.length c0_6) := (blk_cell BK939.out 6).trans rfl; have hfz8_0 := blk_frozen BK939.out 0; have hfz8_1 := blk_frozen BK939.out 1; have hfz8_2 := blk_frozen BK939.out 2; have hfz8_3 := blk_frozen BK939.out 3; have hfz8_4 := blk_frozen BK939.out 4; have hfz8_5 := blk_frozen BK939.out 5; have hfz8_6 := blk_frozen BK939.out 6) | ((with_reducible refine gate_callee (f := 38) rfl ?_); refine goesL_ (some 13) rfl rfl Try.func38 (by kernel_rfl) rfl #[.agg #[.int .u8 a0_0, .int .i64 a0_1, .int .i64 a0_2, .int .i64 a0_3, .int .i64 a0_4, .int .i64 a0_5, .slice A0_6 l0_6.length c0_6]] rfl (by (try simp only [List.map_toArray, List.map_cons, List.map_nil]); rfl) ?_; (with_reducible refine (sashref05_May.calls k a0_0 a0_1 a0_2 a0_3 a0_4 a0_5 _ _ l0_6 true _ ?side1 ?side2 A2.out).mono ?_); (case side1 => repeat (exact (Kd.C_below HR0_6.out HB.out))); (case side2 => exact HC0_6.out); rintro e w9 ⟨rfl, hb⟩; refine ⟨_, rfl, ?_⟩; replace HO942 := Aside0.mk (Kd.R_below HO942.out hb); replace BK939 := Aside0.mk (blk_below BK939.out hb); replace HB := Aside0.mk (below_step (by repeat ((with_reducible exact HB.out))) hb); (try clear hb); have hcz10_0 : w9.cell? ⟨gb939, 0, none⟩ = some (.int .u8 a0_0) := (blk_cell BK939.out 0).trans rfl; have hcz10_1 : w9.cell? ⟨gb939, 1, none⟩ = some (.int .i64 a0_1) := (blk_cell BK939.out 1).trans rfl; have hcz10_2 : w9.cell? ⟨gb939, 2, none⟩ = some (.int .i64 a0_2) := (blk_cell BK939.out 2).trans rfl; have hcz10_3 : w9.cell? ⟨gb939, 3, none⟩ = some (.int .i64 a0_3) := (blk_cell BK939.out 3).trans rfl; have hcz10_4 : w9.cell? ⟨gb939, 4, none⟩ = some (.int .i64 a0_4) := (blk_cell BK939.out 4).trans rfl; have hcz10_5 : w9.cell? ⟨gb939, 5, none⟩ = some (.int .i64 a0_5) := (blk_cell BK939.out 5).trans rfl; have hcz10_6 : w9.cell? ⟨gb939, 6, none⟩ = some (.slice A0_6 l0_6.length c0_6) := (blk_cell BK939.out 6).trans rfl; have hfz10_0 := blk_frozen BK939.out 0; have hfz10_1 := blk_frozen BK939.out 1; have hfz10_2 := blk_frozen BK939.out 2; have hfz10_3 := blk_frozen BK939.out 3; have hfz10_4 := blk_frozen BK939.out 4; have hfz10_5 := blk_frozen BK939.out 5; have hfz10_6 := blk_frozen BK939.out 6) | ((with_reducible refine gate_callee (f := 79) rfl ?_); refine goesL_ (some 17) rfl rfl Try.func79 (by kernel_rfl) rfl #[.agg #[.int .u8 a0_0, .int .i64 a0_1, .int .i64 a0_2, .int .i64 a0_3, .int .i64 a0_4, .int .i64 a0_5, .slice A0_6 l0_6.length c0_6]] rfl (by (try simp only [List.map_toArray, List.map_cons, List.map_nil]); rfl) ?_; (with_reducible refine (sashref05_All.calls k a0_0 a0_1 a0_2 a0_3 a0_4 a0_5 (fun k_ => k_ < w.heap.size) _ _ l0_6 t944 _ ?side1 A4.out).mono ?_); (case side1 => exact Kd.V_mk HC0_6.out (Kd.F_below (Kd.C_F k26_heap HR0_6.out) (by repeat ((with_reducible exact HB.out))))); rintro e w11 ⟨v945, rfl, ho0, hb⟩; refine ⟨_, rfl, ?_⟩; have HO946 := Aside0.mk (Kd.N_lower (Kd.N_mono (ok' := fun k_ => some k_ ≠ (v941 : Value).ownBlock ∧ k_ ≠ gb939) ho0 (fun k_ hk_ => ⟨Or.elim hk_ (fun hs_ => fun e_ => Nat.not_le.2 hs_ (Kd.R_base HO942.out k_ e_.symm)) (fun hn_ => (Kd.fresh' (Kd.R_lt HO942.out) k_ hn_)), Or.elim hk_ (fun hs_ => fun e_ => Nat.not_le.2 hs_ (by rw [e_]; exact GW939.out)) (fun hn_ => (Kd.freshB BK939.out k_ hn_))⟩)) (below_size (by repeat ((with_reducible exact HB.out))))); replace HO942 := Aside0.mk (Kd.R_below HO942.out hb); replace BK939 := Aside0.mk (blk_below BK939.out hb); replace HB := Aside0.mk (below_step (by repeat ((with_reducible exact HB.out))) hb); (try clear hb); (try clear ho0)) | ((with_reducible refine gate_dst (N := 18) rfl ?_); refine Kd.R_lit k23 _ 23 ?hg (N := 18) ?hd (xs := ([] : List (S23))) (inner := []) (ok := fun _ => True) (okp := fun _ => True) ?hr ?hp (fun _ hk => hk) trivial (Below.refl _ _) (Nat.le_refl _) (by simp) ?_; (case hd => rfl); (case hg => rfl); (case hr => (go_simp; done)); (case hp => exact (Reps.none _ _)); intro v948 w12 ho13 hb hg_ hnew_; clear hg_ hnew_; (rw [← Ny947.out] at ho13); have HO949 := Aside0.mk (Kd.R_lower (Kd.R_new' ho13 (Kd.R_lt HO942.out)) (below_size (by repeat ((with_reducible exact HB.out))))); replace HO942 := Aside0.mk (Kd.R_elder' HO942.out (Kd.R_base ho13) hb); replace HO946 := Aside0.mk (Kd.N_elder' HO946.out (Kd.R_base ho13) hb); replace BK939 := Aside0.mk (blk_below BK939.out hb); replace HB := Aside0.mk (below_step (by repeat ((with_reducible exact HB.out))) hb); clear hb ho13; obtain ⟨Ao14, co14, eo14⟩ := Kd.N_slice HO946.out; subst eo14))
  go_loopg [7, 21] k (fun kq v7 v21 w' => ∃ (x7_1 : List (S23)) (x21_1 : Int), v21 = .int .i64 x21_1 ∧ Aside0 (sashref06_Check.l0 kq y940 t944 x7_1 (t944.length : Int) x21_1 = some (r1, r2, r3)) ∧ Aside0 (kq ≤ k) ∧ Aside0 (Kd.R k23 23 w' w.heap.size (fun k_ => some k_ ≠ (v7 : Value).ownBlock) v941 y940) ∧ Aside0 (Kd.N k26 26 w' w.heap.size (fun k_ => some k_ ≠ (v941 : Value).ownBlock ∧ some k_ ≠ (v7 : Value).ownBlock ∧ k_ ≠ gb939) (.slice Ao14 t944.length co14) t944) ∧ Aside0 (Kd.R k23 23 w' w.heap.size (fun k_ => some k_ ≠ (v941 : Value).ownBlock) v7 x7_1) ∧ Aside0 (w'.heap[gb939]? = some (.cells #[.int .u8 a0_0, .int .i64 a0_1, .int .i64 a0_2, .int .i64 a0_3, .int .i64 a0_4, .int .i64 a0_5, (.slice A0_6 l0_6.length c0_6)] 26 (0, 0))) ∧ Aside0 (Below w.heap.size w w'))
  case atStart => exact ⟨(y947), (0), (by rfl), H', ⟨Nat.le_refl _⟩, ⟨by exact Kd.R_mono HO942.out (fun _ hk => hk.2)⟩, ⟨by exact Kd.N_mono HO946.out (fun _ hk => ⟨hk.1.1, ⟨hk.2, hk.1.2⟩⟩)⟩, ⟨by exact Kd.R_mono HO949.out (fun _ hk => hk.2)⟩, ⟨by exact BK939.out⟩, ⟨by repeat ((with_reducible exact HB.out))⟩⟩
  case round =>
   clear H'
   clear hcz10_0 hcz10_1 hcz10_2 hcz10_3 hcz10_4 hcz10_5 hcz10_6 hcz8_0 hcz8_1 hcz8_2 hcz8_3 hcz8_4 hcz8_5 hcz8_6 hfz10_0 hfz10_1 hfz10_2 hfz10_3 hfz10_4 hfz10_5 hfz10_6 hfz8_0 hfz8_1 hfz8_2 hfz8_3 hfz8_4 hfz8_5 hfz8_6
   obtain ⟨x7_1, x21_1, rfl, HA, HK1, HO_5, HO_6, HO_7, BK939, HB⟩ := hrel
   cases gk with
   | zero => exact absurd HA.out (by simp [sashref06_Check.l0])
   | succ k1 =>
    have H := HA.out
    clear HA
    simp only [sashref06_Check.l0] at H
    by_cases c15 : x21_1 < (t944.length : Int)
    ·rw [if_pos c15] at H
     have c15b0 : decide (x21_1 < (t944.length : Int)) = true := decide_eq_true c15
     clear c15
     by_cases c16 : 0 ≤ x21_1
     ·rw [if_pos c16] at H
      have c16b0 : decide (0 ≤ x21_1) = true := decide_eq_true c16
      clear c16
      by_cases c17 : x21_1 < (t944.length : Int)
      ·rw [if_pos c17] at H
       have c17b0 : decide (x21_1 < (t944.length : Int)) = true := decide_eq_true c17
       clear c17
       replace H := Option.bind_eq_some_iff.mp H
       obtain ⟨⟨t951, t954⟩, A180, H⟩ := H
       replace H : (if t954 = true then (if x7_1.length + t951.length < 4398046511104 then (sashref06_Check.l0 k1 y940 t944 (x7_1 ++ t951) (t944.length : Int) (wrap64 (x21_1 + 1))) else (none)) else (some (y940, 5, x21_1))) = some (r1, r2, r3) := H
       have A18 := Aside0.mk A180
       clear A180
       by_cases c19 : t954 = true
       ·subst c19
        have H1 : (if x7_1.length + t951.length < 4398046511104 then (sashref06_Check.l0 k1 y940 t944 (x7_1 ++ t951) (t944.length : Int) (wrap64 (x21_1 + 1))) else (none)) = some (r1, r2, r3) := by rw [if_pos rfl] at H; exact H
        clear H
        have H := H1
        clear H1
        by_cases c20 : x7_1.length + t951.length < 4398046511104
        ·rw [if_pos c20] at H
         have LMc20 := Aside0.mk c20
         clear c20
         obtain ⟨y955, hy955⟩ : ∃ y_ : List (S23), y_ = (x7_1 ++ t951) := ⟨_, rfl⟩
         replace H : (sashref06_Check.l0 k1 y940 t944 y955 (t944.length : Int) (wrap64 (x21_1 + 1))) = some (r1, r2, r3) := by (rw [hy955]; with_reducible exact H)
         have Ny955 := Aside0.mk hy955
         clear hy955
         have H' := Aside0.mk H
         clear H
         have p950 : 0 ≤ (x21_1 : Int) := of_decide_eq_true (by (with_reducible assumption))
         have q950 : x21_1 < (t944.length : Int) := of_decide_eq_true (by (with_reducible assumption))
         obtain ⟨ad950, A950_6, c950_6, e950, hx950_0, hx950_1, hx950_2, hx950_3, hx950_4, hx950_5, hx950_6, hl950_6, hi950_6⟩ := at_T26 (Kd.N_reads' HO_6.out).2.2 x21_1 p950 q950
         cases e950
         obtain ⟨ce950, hce950, hMe950, hcc950⟩ := Kd.N_get HO_6.out z26 x21_1 p950 q950
         obtain ⟨ua950_6, uc950_6, rfl, ul950_6, ge950_6⟩ := k26_openF hMe950
         have hv950_6 := hcc950 6 _ rfl
         rw [add_field _ _ 6 (by omega)] at hv950_6
         replace hv950_6 := Option.some.inj (hv950_6.symm.trans hx950_6)
         injection hv950_6 with hva_ hvn_ hvc_
         rw [hva_] at ge950_6
         rw [hvc_] at ul950_6
         clear hva_ hvn_ hvc_ ge950_6 ul950_6
         clear hcc950 hce950
         have HR950_6 := Aside0.mk hi950_6
         have HC950_6 := Aside0.mk hl950_6
         clear hi950_6 hl950_6
         replace p950 := eq_true p950
         replace q950 := eq_true q950
         go_wp2_with (first | ((with_reducible refine gate_callee (f := 178) rfl ?_); refine goesL_ (some 29) rfl rfl Try.func178 (by kernel_rfl) rfl #[.agg #[.int .u8 ((rd_T26 t944 x21_1).f0), .int .i64 ((rd_T26 t944 x21_1).f1.f0), .int .i64 ((rd_T26 t944 x21_1).f1.f1), .int .i64 ((rd_T26 t944 x21_1).f1.f2), .int .i64 ((rd_T26 t944 x21_1).f1.f3), .int .i64 ((rd_T26 t944 x21_1).f2), .slice A950_6 ((rd_T26 t944 x21_1).f3).length c950_6]] rfl (by (try simp only [List.map_toArray, List.map_cons, List.map_nil]); rfl) ?_; (with_reducible refine (sashref06_one.calls k1 ((rd_T26 t944 x21_1).f0) ((rd_T26 t944 x21_1).f1.f0) ((rd_T26 t944 x21_1).f1.f1) ((rd_T26 t944 x21_1).f1.f2) ((rd_T26 t944 x21_1).f1.f3) ((rd_T26 t944 x21_1).f2) _ _ ((rd_T26 t944 x21_1).f3) t951 true _ ?side1 ?side2 A18.out).mono ?_); (case side1 => repeat (exact (by repeat ((with_reducible exact HR950_6.out))))); (case side2 => exact HC950_6.out); rintro e w21 ⟨v952, rfl, ho0, hb⟩; refine ⟨_, rfl, ?_⟩; have HO953 := Aside0.mk (Kd.V_lower (Kd.V_mono (ok' := fun k_ => some k_ ≠ (v941 : Value).ownBlock ∧ some k_ ≠ (.slice (some ad950) t944.length co14 : Value).ownBlock ∧ some k_ ≠ (u7 : Value).ownBlock ∧ k_ ≠ gb939) ho0 (fun k_ hk_ => ⟨(Kd.fresh' (Kd.R_lt HO_5.out) k_ hk_), (Kd.fresh' (Kd.N_lt HO_6.out) k_ hk_), (Kd.fresh' (Kd.R_lt HO_7.out) k_ hk_), (Kd.freshB BK939.out k_ hk_)⟩)) (below_size (by repeat ((with_reducible exact HB.out))))); replace HO_5 := Aside0.mk (Kd.R_below HO_5.out hb); replace HO_6 := Aside0.mk (Kd.N_below HO_6.out hb); replace HO_7 := Aside0.mk (Kd.R_below HO_7.out hb); replace BK939 := Aside0.mk (blk_below BK939.out hb); replace HR950_6 := Aside0.mk (Kd.C_below (by repeat ((with_reducible exact HR950_6.out))) hb); replace HB := Aside0.mk (below_step (by repeat ((with_reducible exact HB.out))) hb); (try clear hb); (try clear ho0); obtain ⟨Ao23, co23, eo23⟩ := Kd.V_slice HO953.out; subst eo23) | ((with_reducible refine gate_builtin (b := .append) (xs := #[.tmp 36, .tmp 37]) rfl ?_); at_builtin; refine Kd.R_append_rows k23 (w0 := w) w.heap.size rfl (.tmp 36) (.tmp 37) 42 23 (.agg #[(.int .i64 0), (.int .i64 0), (.int .i64 0), (.int .i64 0)]) 32 rfl Try.underlying42 info23 rfl (by decide) (by omega) u7 x7_1 t951 _ _ _ (fun k_ => some k_ ≠ (v941 : Value).ownBlock) (fun _ => False) rfl rfl ?aO ?aR (fun _ _ h => h) (fun _ h => h.elim) ?aF ?aB ?aS ?aL ?_; (case aR => repeat (exact (Kd.V_reads' HO953.out).2.2)); (case aB => exact (by repeat ((with_reducible exact HB.out)))); (case aF => exact (fun k_ hk => Kd.fresh' (Kd.R_lt HO_5.out) k_ hk)); (case aO => exact HO_7.out); (case aS => exact (below_size (by repeat ((with_reducible exact HB.out))))); (case aL => have := LMc20.out; omega); intro v956 w22 ho hb hg hat; rw [← Ny955.out] at ho; have HO957 := Aside0.mk (ho); replace HO_5 := Aside0.mk (Kd.R_after (ok := (fun _ => True)) (by exact Kd.R_mono HO_5.out (fun _ hk => ⟨trivial, hk⟩)) hg hat); replace HO_6 := Aside0.mk (Kd.N_afterv (ok := (fun k_ => some k_ ≠ (v941 : Value).ownBlock ∧ k_ ≠ gb939)) (by exact Kd.N_mono HO_6.out (fun _ hk => ⟨⟨hk.1, hk.2.2⟩, hk.2.1⟩)) hg hat); replace BK939 := Aside0.mk (blk_grown BK939.out hg (Kd.R_ne HO_7.out BK939.out (by decide))); replace HO953 := Aside0.mk (Kd.V_afterv (ok := (fun k_ => some k_ ≠ (v941 : Value).ownBlock ∧ some k_ ≠ (.slice (some ad950) t944.length co14 : Value).ownBlock ∧ k_ ≠ gb939)) (by exact Kd.V_mono HO953.out (fun _ hk => ⟨⟨hk.1, ⟨hk.2.1, hk.2.2.2⟩⟩, hk.2.2.1⟩)) hg hat); replace HB := Aside0.mk (hb); clear HO_7; clear ho hb hg hat))
         go_roundg k1
         case measure => have := HK1.out; omega
         case rel => exact ⟨(y955), (wrap64 (x21_1 + 1)), (by rfl), H', ⟨by have := HK1.out; omega⟩, ⟨by exact Kd.R_mono HO_5.out (fun _ hk => hk.2)⟩, ⟨by exact Kd.N_mono HO_6.out (fun _ hk => ⟨hk.1.1, ⟨hk.2, hk.1.2⟩⟩)⟩, ⟨by exact HO957.out⟩, ⟨by exact BK939.out⟩, ⟨by repeat ((with_reducible exact HB.out))⟩⟩
        ·rw [if_neg c20] at H
         exact absurd H (by simp)
       ·replace c19 := Bool.eq_false_iff.mpr c19
        subst c19
        have H1 : (some (y940, 5, x21_1)) = some (r1, r2, r3) := by rw [if_neg (show ¬ (false = true) by decide)] at H; exact H
        clear H
        have H := H1
        clear H1
        simp only [Option.some.injEq, Prod.mk.injEq] at H
        obtain ⟨rfl, rfl, rfl⟩ := H
        have p950 : 0 ≤ (x21_1 : Int) := of_decide_eq_true (by (with_reducible assumption))
        have q950 : x21_1 < (t944.length : Int) := of_decide_eq_true (by (with_reducible assumption))
        obtain ⟨ad950, A950_6, c950_6, e950, hx950_0, hx950_1, hx950_2, hx950_3, hx950_4, hx950_5, hx950_6, hl950_6, hi950_6⟩ := at_T26 (Kd.N_reads' HO_6.out).2.2 x21_1 p950 q950
        cases e950
        obtain ⟨ce950, hce950, hMe950, hcc950⟩ := Kd.N_get HO_6.out z26 x21_1 p950 q950
        obtain ⟨ua950_6, uc950_6, rfl, ul950_6, ge950_6⟩ := k26_openF hMe950
        have hv950_6 := hcc950 6 _ rfl
        rw [add_field _ _ 6 (by omega)] at hv950_6
        replace hv950_6 := Option.some.inj (hv950_6.symm.trans hx950_6)
        injection hv950_6 with hva_ hvn_ hvc_
        rw [hva_] at ge950_6
        rw [hvc_] at ul950_6
        clear hva_ hvn_ hvc_ ge950_6 ul950_6
        clear hcc950 hce950
        have HR950_6 := Aside0.mk hi950_6
        have HC950_6 := Aside0.mk hl950_6
        clear hi950_6 hl950_6
        replace p950 := eq_true p950
        replace q950 := eq_true q950
        go_wp2_with (((with_reducible refine gate_callee (f := 178) rfl ?_); refine goesL_ (some 29) rfl rfl Try.func178 (by kernel_rfl) rfl #[.agg #[.int .u8 ((rd_T26 t944 x21_1).f0), .int .i64 ((rd_T26 t944 x21_1).f1.f0), .int .i64 ((rd_T26 t944 x21_1).f1.f1), .int .i64 ((rd_T26 t944 x21_1).f1.f2), .int .i64 ((rd_T26 t944 x21_1).f1.f3), .int .i64 ((rd_T26 t944 x21_1).f2), .slice A950_6 ((rd_T26 t944 x21_1).f3).length c950_6]] rfl (by (try simp only [List.map_toArray, List.map_cons, List.map_nil]); rfl) ?_; (with_reducible refine (sashref06_one.calls k1 ((rd_T26 t944 x21_1).f0) ((rd_T26 t944 x21_1).f1.f0) ((rd_T26 t944 x21_1).f1.f1) ((rd_T26 t944 x21_1).f1.f2) ((rd_T26 t944 x21_1).f1.f3) ((rd_T26 t944 x21_1).f2) _ _ ((rd_T26 t944 x21_1).f3) t951 false _ ?side1 ?side2 A18.out).mono ?_); (case side1 => repeat (exact (by repeat ((with_reducible exact HR950_6.out))))); (case side2 => exact HC950_6.out); rintro e w24 ⟨v952, rfl, ho0, hb⟩; refine ⟨_, rfl, ?_⟩; have HO953 := Aside0.mk (Kd.V_lower (Kd.V_mono (ok' := fun k_ => some k_ ≠ (v941 : Value).ownBlock ∧ some k_ ≠ (.slice (some ad950) t944.length co14 : Value).ownBlock ∧ some k_ ≠ (u7 : Value).ownBlock ∧ k_ ≠ gb939) ho0 (fun k_ hk_ => ⟨(Kd.fresh' (Kd.R_lt HO_5.out) k_ hk_), (Kd.fresh' (Kd.N_lt HO_6.out) k_ hk_), (Kd.fresh' (Kd.R_lt HO_7.out) k_ hk_), (Kd.freshB BK939.out k_ hk_)⟩)) (below_size (by repeat ((with_reducible exact HB.out))))); replace HO_5 := Aside0.mk (Kd.R_below HO_5.out hb); replace HO_6 := Aside0.mk (Kd.N_below HO_6.out hb); replace HO_7 := Aside0.mk (Kd.R_below HO_7.out hb); replace BK939 := Aside0.mk (blk_below BK939.out hb); replace HR950_6 := Aside0.mk (Kd.C_below (by repeat ((with_reducible exact HR950_6.out))) hb); replace HB := Aside0.mk (below_step (by repeat ((with_reducible exact HB.out))) hb); (try clear hb); (try clear ho0)))
        go_ret3
        exact ⟨_, by rfl, by exact Kd.R_mono HO_5.out (fun _ hk => trivial), by repeat ((with_reducible exact HB.out))⟩
      ·rw [if_neg c17] at H
       exact absurd H (by simp)
     ·rw [if_neg c16] at H
      exact absurd H (by simp)
    ·rw [if_neg c15] at H
     have c15b0 : decide (x21_1 < (t944.length : Int)) = false := decide_eq_false c15
     clear c15
     simp only [Option.some.injEq, Prod.mk.injEq] at H
     obtain ⟨rfl, rfl, rfl⟩ := H
     go_wp2
     go_ret3
     exact ⟨_, by rfl, by exact Kd.R_mono HO_7.out (fun _ hk => trivial), by repeat ((with_reducible exact HB.out))⟩
 ·replace c3 := Bool.eq_false_iff.mpr c3
  subst c3
  have H1 : (some (y940, 1, 0)) = some (r1, r2, r3) := by rw [if_neg (show ¬ (false = true) by decide)] at H; exact H
  clear H
  have H := H1
  clear H1
  simp only [Option.some.injEq, Prod.mk.injEq] at H
  obtain ⟨rfl, rfl, rfl⟩ := H
  go_enter Try.func146, Try.ntmps146
  go_wp2_with (first | ((with_reducible refine gate_dst (N := 1) rfl ?_); refine box_event ?hg (N := 1) ?hd (cs := #[.int .u8 a0_0, .int .i64 a0_1, .int .i64 a0_2, .int .i64 a0_3, .int .i64 a0_4, .int .i64 a0_5, .slice A0_6 l0_6.length c0_6]) (t := 26) ?hr ?_; (case hd => rfl); (case hg => rfl); (case hr => (go_simp; done)); intro gb939 hg w25 hbox hb; have BK939 := Aside0.mk (hbox); have GW939 := Aside0.mk ((by rw [hg]; exact (below_size (by repeat ((with_reducible exact HB.out)))) : w.heap.size ≤ gb939)); replace HB := Aside0.mk (below_step (by repeat ((with_reducible exact HB.out))) hb); clear hb hbox hg) | ((with_reducible refine gate_dst (N := 11) rfl ?_); refine Kd.R_lit k23 _ 23 ?hg (N := 11) ?hd (xs := ([] : List (S23))) (inner := []) (ok := fun _ => True) (okp := fun _ => True) ?hr ?hp (fun _ hk => hk) trivial (Below.refl _ _) (Nat.le_refl _) (by simp) ?_; (case hd => rfl); (case hg => rfl); (case hr => (go_simp; done)); (case hp => exact (Reps.none _ _)); intro v941 w26 ho27 hb hg_ hnew_; clear hg_ hnew_; (rw [← Ny940.out] at ho27); have HO942 := Aside0.mk (Kd.R_lower ho27 (below_size (by repeat ((with_reducible exact HB.out))))); replace BK939 := Aside0.mk (blk_below BK939.out hb); replace HB := Aside0.mk (below_step (by repeat ((with_reducible exact HB.out))) hb); clear hb ho27; have hcz28_0 : w26.cell? ⟨gb939, 0, none⟩ = some (.int .u8 a0_0) := (blk_cell BK939.out 0).trans rfl; have hcz28_1 : w26.cell? ⟨gb939, 1, none⟩ = some (.int .i64 a0_1) := (blk_cell BK939.out 1).trans rfl; have hcz28_2 : w26.cell? ⟨gb939, 2, none⟩ = some (.int .i64 a0_2) := (blk_cell BK939.out 2).trans rfl; have hcz28_3 : w26.cell? ⟨gb939, 3, none⟩ = some (.int .i64 a0_3) := (blk_cell BK939.out 3).trans rfl; have hcz28_4 : w26.cell? ⟨gb939, 4, none⟩ = some (.int .i64 a0_4) := (blk_cell BK939.out 4).trans rfl; have hcz28_5 : w26.cell? ⟨gb939, 5, none⟩ = some (.int .i64 a0_5) := (blk_cell BK939.out 5).trans rfl; have hcz28_6 : w26.cell? ⟨gb939, 6, none⟩ = some (.slice A0_6 l0_6.length c0_6) := (blk_cell BK939.out 6).trans rfl; have hfz28_0 := blk_frozen BK939.out 0; have hfz28_1 := blk_frozen BK939.out 1; have hfz28_2 := blk_frozen BK939.out 2; have hfz28_3 := blk_frozen BK939.out 3; have hfz28_4 := blk_frozen BK939.out 4; have hfz28_5 := blk_frozen BK939.out 5; have hfz28_6 := blk_frozen BK939.out 6) | ((with_reducible refine gate_callee (f := 38) rfl ?_); refine goesL_ (some 13) rfl rfl Try.func38 (by kernel_rfl) rfl #[.agg #[.int .u8 a0_0, .int .i64 a0_1, .int .i64 a0_2, .int .i64 a0_3, .int .i64 a0_4, .int .i64 a0_5, .slice A0_6 l0_6.length c0_6]] rfl (by (try simp only [List.map_toArray, List.map_cons, List.map_nil]); rfl) ?_; (with_reducible refine (sashref05_May.calls k a0_0 a0_1 a0_2 a0_3 a0_4 a0_5 _ _ l0_6 false _ ?side1 ?side2 A2.out).mono ?_); (case side1 => repeat (exact (Kd.C_below HR0_6.out HB.out))); (case side2 => exact HC0_6.out); rintro e w29 ⟨rfl, hb⟩; refine ⟨_, rfl, ?_⟩; replace HO942 := Aside0.mk (Kd.R_below HO942.out hb); replace BK939 := Aside0.mk (blk_below BK939.out hb); replace HB := Aside0.mk (below_step (by repeat ((with_reducible exact HB.out))) hb); (try clear hb)))
  go_ret3
  exact ⟨_, by rfl, by exact HO942.out, by repeat ((with_reducible exact HB.out))⟩

end Go.Proofs.Ytfdmfgaiblfbhaa.P
namespace Go.Proofs.Ytfdmfgaiblfbhaa.P
open Go.RowKit Go.Proofs.YtfdmfgaiblfbhaaW.PrintWords Go.Proofs.YtfdmfgaiblfbhaaW.PrintLast Go.Proofs.YtfdmfgaiblfbhaaW.PrintMore
attribute [local go_sem] max2_int min2_int max_two min_two max_three min_three max_four min_four   -- for this text's walks alone
set_option linter.unusedVariables false
set_option linter.unusedSimpArgs false

/-! ### sashref06_Tiles: function 84 -/
def sashref06_Tiles.f (k : Nat) (a0_0 : Int) (a0_1 : Int) (a0_2 : Int) (a0_3 : Int) (a0_4 : Int) (a0_5 : Int) (l0_6 : List (S26)) : Option (Bool) := (sashref06_Check.f k a0_0 a0_1 a0_2 a0_3 a0_4 a0_5 l0_6).bind fun bt959 => (some (bt959.2.1 == 0))
theorem sashref06_Tiles.mono : ∀ a0 a1 a2 a3 a4 a5 a6 k, LeO (sashref06_Tiles.f k a0 a1 a2 a3 a4 a5 a6) (sashref06_Tiles.f (k + 1) a0 a1 a2 a3 a4 a5 a6) := by
 intro a0 a1 a2 a3 a4 a5 a6 k
 unfold sashref06_Tiles.f
 repeat' first | (with_reducible exact sashref06_Check.mono _ _ _ _ _ _ _ _) | (with_reducible exact LeO.refl _) | (with_reducible refine LeO.bind ?_ (fun _ => ?_))
set_option maxHeartbeats 8000000 in
set_option maxRecDepth 100000 in
theorem sashref06_Tiles.calls (k : Nat) (a0_0 : Int) (a0_1 : Int) (a0_2 : Int) (a0_3 : Int) (a0_4 : Int) (a0_5 : Int) (A0_6 : Option Addr) (c0_6 : Nat) (l0_6 : List (S26)) (r : Bool) (w : World) (hr0_6 : Kd.C k26 w A0_6 l0_6.length l0_6) (hc0_6 : l0_6.length ≤ c0_6) (h : sashref06_Tiles.f k a0_0 a0_1 a0_2 a0_3 a0_4 a0_5 l0_6 = some r) :
  Calls Try.prog 84 #[.agg #[.int .u8 a0_0, .int .i64 a0_1, .int .i64 a0_2, .int .i64 a0_3, .int .i64 a0_4, .int .i64 a0_5, .slice A0_6 l0_6.length c0_6]] w fun e w' => e = .returned (.bool r) ∧ Below w.heap.size w w' := by
 have hu26 := Try.underlying26
 have HR0_6 := Aside0.mk hr0_6
 have HC0_6 := Aside0.mk hc0_6
 clear hr0_6 hc0_6
 have HB := Aside0.mk (Below.refl w.heap.size w)
 have H : ((sashref06_Check.f k a0_0 a0_1 a0_2 a0_3 a0_4 a0_5 l0_6).bind fun bt959 => (some (bt959.2.1 == 0))) = some r := h
 clear h
 replace H := Option.bind_eq_some_iff.mp H
 obtain ⟨⟨t959, t962, t963⟩, A20, H⟩ := H
 replace H : (some (t962 == 0)) = some r := H
 have A2 := Aside0.mk A20
 clear A20
 obtain rfl := Option.some.inj H
 go_enter Try.func84, Try.ntmps84
 go_wp2_with (first | ((with_reducible refine gate_dst (N := 1) rfl ?_); refine box_event ?hg (N := 1) ?hd (cs := #[.int .u8 a0_0, .int .i64 a0_1, .int .i64 a0_2, .int .i64 a0_3, .int .i64 a0_4, .int .i64 a0_5, .slice A0_6 l0_6.length c0_6]) (t := 26) ?hr ?_; (case hd => rfl); (case hg => rfl); (case hr => (go_simp; done)); intro gb958 hg w3 hbox hb; have BK958 := Aside0.mk (hbox); replace HB := Aside0.mk (below_step (by repeat ((with_reducible exact HB.out))) hb); clear hb hbox hg; have hcz4_0 : w3.cell? ⟨gb958, 0, none⟩ = some (.int .u8 a0_0) := (blk_cell BK958.out 0).trans rfl; have hcz4_1 : w3.cell? ⟨gb958, 1, none⟩ = some (.int .i64 a0_1) := (blk_cell BK958.out 1).trans rfl; have hcz4_2 : w3.cell? ⟨gb958, 2, none⟩ = some (.int .i64 a0_2) := (blk_cell BK958.out 2).trans rfl; have hcz4_3 : w3.cell? ⟨gb958, 3, none⟩ = some (.int .i64 a0_3) := (blk_cell BK958.out 3).trans rfl; have hcz4_4 : w3.cell? ⟨gb958, 4, none⟩ = some (.int .i64 a0_4) := (blk_cell BK958.out 4).trans rfl; have hcz4_5 : w3.cell? ⟨gb958, 5, none⟩ = some (.int .i64 a0_5) := (blk_cell BK958.out 5).trans rfl; have hcz4_6 : w3.cell? ⟨gb958, 6, none⟩ = some (.slice A0_6 l0_6.length c0_6) := (blk_cell BK958.out 6).trans rfl; have hfz4_0 := blk_frozen BK958.out 0; have hfz4_1 := blk_frozen BK958.out 1; have hfz4_2 := blk_frozen BK958.out 2; have hfz4_3 := blk_frozen BK958.out 3; have hfz4_4 := blk_frozen BK958.out 4; have hfz4_5 := blk_frozen BK958.out 5; have hfz4_6 := blk_frozen BK958.out 6) | ((with_reducible refine gate_callee (f := 146) rfl ?_); refine goesL_ (some 8) rfl rfl Try.func146 (by kernel_rfl) rfl #[.agg #[.int .u8 a0_0, .int .i64 a0_1, .int .i64 a0_2, .int .i64 a0_3, .int .i64 a0_4, .int .i64 a0_5, .slice A0_6 l0_6.length c0_6]] rfl (by (try simp only [List.map_toArray, List.map_cons, List.map_nil]); rfl) ?_; (with_reducible refine (sashref06_Check.calls k a0_0 a0_1 a0_2 a0_3 a0_4 a0_5 _ _ l0_6 t959 t962 t963 _ ?side1 ?side2 A2.out).mono ?_); (case side1 => repeat (exact (Kd.C_below HR0_6.out HB.out))); (case side2 => exact HC0_6.out); rintro e w5 ⟨v960, rfl, ho0, hb⟩; refine ⟨_, rfl, ?_⟩; replace BK958 := Aside0.mk (blk_below BK958.out hb); replace HB := Aside0.mk (below_step (by repeat ((with_reducible exact HB.out))) hb); (try clear hb); (try clear ho0)))
 go_ret
 exact ⟨by rfl, by repeat ((with_reducible exact HB.out))⟩

end Go.Proofs.Ytfdmfgaiblfbhaa.P
namespace Go.Proofs.Ytfdmfgaiblfbhaa.P
open Go.RowKit Go.Proofs.YtfdmfgaiblfbhaaW.PrintWords Go.Proofs.YtfdmfgaiblfbhaaW.PrintLast Go.Proofs.YtfdmfgaiblfbhaaW.PrintMore
attribute [local go_sem] max2_int min2_int max_two min_two max_three min_three max_four min_four   -- for this text's walks alone
set_option linter.unusedVariables false
set_option linter.unusedSimpArgs false

/-! ### least_Along: function 99 -/
def least_Along.f (a0_0 : Int) (a0_1 : Int) (a0_2 : Int) (a0_3 : Int) (a0_4 : Int) (a0_5 : Int) (l0_6 : List (S26)) (a1 : Int) : Option (Bool) := if a0_0 = 2 then (if a1 = 1 then (some true) else (if a0_0 = 3 then (some (a1 == 2)) else (some false))) else (if a0_0 = 3 then (some (a1 == 2)) else (some false))
set_option maxHeartbeats 8000000 in
set_option maxRecDepth 100000 in
theorem least_Along.calls (a0_0 : Int) (a0_1 : Int) (a0_2 : Int) (a0_3 : Int) (a0_4 : Int) (a0_5 : Int) (A0_6 : Option Addr) (c0_6 : Nat) (l0_6 : List (S26)) (a1 : Int) (r : Bool) (w : World) (hr0_6 : Kd.C k26 w A0_6 l0_6.length l0_6) (hc0_6 : l0_6.length ≤ c0_6) (h : least_Along.f a0_0 a0_1 a0_2 a0_3 a0_4 a0_5 l0_6 a1 = some r) :
  Calls Try.prog 99 #[.agg #[.int .u8 a0_0, .int .i64 a0_1, .int .i64 a0_2, .int .i64 a0_3, .int .i64 a0_4, .int .i64 a0_5, .slice A0_6 l0_6.length c0_6], .int .u8 a1] w fun e w' => e = .returned (.bool r) ∧ Below w.heap.size w w' := by
 have hu26 := Try.underlying26
 clear hr0_6 hc0_6
 have HB := Aside0.mk (Below.refl w.heap.size w)
 have H : (if a0_0 = 2 then (if a1 = 1 then (some true) else (if a0_0 = 3 then (some (a1 == 2)) else (some false))) else (if a0_0 = 3 then (some (a1 == 2)) else (some false))) = some r := h
 clear h
 by_cases c3 : a0_0 = 2
 ·rw [if_pos c3] at H
  have c3b0 : (a0_0 == 2) = true := beq_iff_eq.mpr c3
  have c3b1 : (a0_0 != 2) = false := bne_eq_false_iff_eq.mpr c3
  clear c3
  by_cases c4 : a1 = 1
  ·rw [if_pos c4] at H
   have c4b0 : (a1 == 1) = true := beq_iff_eq.mpr c4
   have c4b1 : (a1 != 1) = false := bne_eq_false_iff_eq.mpr c4
   clear c4
   obtain rfl := Option.some.inj H
   go_enter Try.func99, Try.ntmps99
   go_wp2_with (((with_reducible refine gate_dst (N := 2) rfl ?_); refine box_event ?hg (N := 2) ?hd (cs := #[.int .u8 a0_0, .int .i64 a0_1, .int .i64 a0_2, .int .i64 a0_3, .int .i64 a0_4, .int .i64 a0_5, .slice A0_6 l0_6.length c0_6]) (t := 26) ?hr ?_; (case hd => rfl); (case hg => rfl); (case hr => (go_simp; done)); intro gb965 hg w5 hbox hb; have BK965 := Aside0.mk (hbox); replace HB := Aside0.mk (below_step (by repeat ((with_reducible exact HB.out))) hb); clear hb hbox hg; have hcz6_0 : w5.cell? ⟨gb965, 0, none⟩ = some (.int .u8 a0_0) := (blk_cell BK965.out 0).trans rfl; have hcz6_1 : w5.cell? ⟨gb965, 1, none⟩ = some (.int .i64 a0_1) := (blk_cell BK965.out 1).trans rfl; have hcz6_2 : w5.cell? ⟨gb965, 2, none⟩ = some (.int .i64 a0_2) := (blk_cell BK965.out 2).trans rfl; have hcz6_3 : w5.cell? ⟨gb965, 3, none⟩ = some (.int .i64 a0_3) := (blk_cell BK965.out 3).trans rfl; have hcz6_4 : w5.cell? ⟨gb965, 4, none⟩ = some (.int .i64 a0_4) := (blk_cell BK965.out 4).trans rfl; have hcz6_5 : w5.cell? ⟨gb965, 5, none⟩ = some (.int .i64 a0_5) := (blk_cell BK965.out 5).trans rfl; have hcz6_6 : w5.cell? ⟨gb965, 6, none⟩ = some (.slice A0_6 l0_6.length c0_6) := (blk_cell BK965.out 6).trans rfl; have hfz6_0 := blk_frozen BK965.out 0; have hfz6_1 := blk_frozen BK965.out 1; have hfz6_2 := blk_frozen BK965.out 2; have hfz6_3 := blk_frozen BK965.out 3; have hfz6_4 := blk_frozen BK965.out 4; have hfz6_5 := blk_frozen BK965.out 5; have hfz6_6 := blk_frozen BK965.out 6))
   go_ret
   exact ⟨by rfl, by repeat ((with_reducible exact HB.out))⟩
  ·rw [if_neg c4] at H
   have c4b0 : (a1 == 1) = false := beq_eq_false_iff_ne.mpr c4
   have c4b1 : (a1 != 1) = true := bne_iff_ne.mpr c4
   by_cases c7 : a0_0 = 3
   ·rw [if_pos c7] at H
    have c7b0 : (a0_0 == 3) = true := beq_iff_eq.mpr c7
    have c7b1 : (a0_0 != 3) = false := bne_eq_false_iff_eq.mpr c7
    clear c7
    obtain rfl := Option.some.inj H
    go_enter Try.func99, Try.ntmps99
    go_wp2_with (((with_reducible refine gate_dst (N := 2) rfl ?_); refine box_event ?hg (N := 2) ?hd (cs := #[.int .u8 a0_0, .int .i64 a0_1, .int .i64 a0_2, .int .i64 a0_3, .int .i64 a0_4, .int .i64 a0_5, .slice A0_6 l0_6.length c0_6]) (t := 26) ?hr ?_; (case hd => rfl); (case hg => rfl); (case hr => (go_simp; done)); intro gb965 hg w8 hbox hb; have BK965 := Aside0.mk (hbox); replace HB := Aside0.mk (below_step (by repeat ((with_reducible exact HB.out))) hb); clear hb hbox hg; have hcz9_0 : w8.cell? ⟨gb965, 0, none⟩ = some (.int .u8 a0_0) := (blk_cell BK965.out 0).trans rfl; have hcz9_1 : w8.cell? ⟨gb965, 1, none⟩ = some (.int .i64 a0_1) := (blk_cell BK965.out 1).trans rfl; have hcz9_2 : w8.cell? ⟨gb965, 2, none⟩ = some (.int .i64 a0_2) := (blk_cell BK965.out 2).trans rfl; have hcz9_3 : w8.cell? ⟨gb965, 3, none⟩ = some (.int .i64 a0_3) := (blk_cell BK965.out 3).trans rfl; have hcz9_4 : w8.cell? ⟨gb965, 4, none⟩ = some (.int .i64 a0_4) := (blk_cell BK965.out 4).trans rfl; have hcz9_5 : w8.cell? ⟨gb965, 5, none⟩ = some (.int .i64 a0_5) := (blk_cell BK965.out 5).trans rfl; have hcz9_6 : w8.cell? ⟨gb965, 6, none⟩ = some (.slice A0_6 l0_6.length c0_6) := (blk_cell BK965.out 6).trans rfl; have hfz9_0 := blk_frozen BK965.out 0; have hfz9_1 := blk_frozen BK965.out 1; have hfz9_2 := blk_frozen BK965.out 2; have hfz9_3 := blk_frozen BK965.out 3; have hfz9_4 := blk_frozen BK965.out 4; have hfz9_5 := blk_frozen BK965.out 5; have hfz9_6 := blk_frozen BK965.out 6))
    go_ret
    exact ⟨by rfl, by repeat ((with_reducible exact HB.out))⟩
   ·rw [if_neg c7] at H
    have c7b0 : (a0_0 == 3) = false := beq_eq_false_iff_ne.mpr c7
    have c7b1 : (a0_0 != 3) = true := bne_iff_ne.mpr c7
    obtain rfl := Option.some.inj H
    go_enter Try.func99, Try.ntmps99
    go_wp2_with (((with_reducible refine gate_dst (N := 2) rfl ?_); refine box_event ?hg (N := 2) ?hd (cs := #[.int .u8 a0_0, .int .i64 a0_1, .int .i64 a0_2, .int .i64 a0_3, .int .i64 a0_4, .int .i64 a0_5, .slice A0_6 l0_6.length c0_6]) (t := 26) ?hr ?_; (case hd => rfl); (case hg => rfl); (case hr => (go_simp; done)); intro gb965 hg w10 hbox hb; have BK965 := Aside0.mk (hbox); replace HB := Aside0.mk (below_step (by repeat ((with_reducible exact HB.out))) hb); clear hb hbox hg; have hcz11_0 : w10.cell? ⟨gb965, 0, none⟩ = some (.int .u8 a0_0) := (blk_cell BK965.out 0).trans rfl; have hcz11_1 : w10.cell? ⟨gb965, 1, none⟩ = some (.int .i64 a0_1) := (blk_cell BK965.out 1).trans rfl; have hcz11_2 : w10.cell? ⟨gb965, 2, none⟩ = some (.int .i64 a0_2) := (blk_cell BK965.out 2).trans rfl; have hcz11_3 : w10.cell? ⟨gb965, 3, none⟩ = some (.int .i64 a0_3) := (blk_cell BK965.out 3).trans rfl; have hcz11_4 : w10.cell? ⟨gb965, 4, none⟩ = some (.int .i64 a0_4) := (blk_cell BK965.out 4).trans rfl; have hcz11_5 : w10.cell? ⟨gb965, 5, none⟩ = some (.int .i64 a0_5) := (blk_cell BK965.out 5).trans rfl; have hcz11_6 : w10.cell? ⟨gb965, 6, none⟩ = some (.slice A0_6 l0_6.length c0_6) := (blk_cell BK965.out 6).trans rfl; have hfz11_0 := blk_frozen BK965.out 0; have hfz11_1 := blk_frozen BK965.out 1; have hfz11_2 := blk_frozen BK965.out 2; have hfz11_3 := blk_frozen BK965.out 3; have hfz11_4 := blk_frozen BK965.out 4; have hfz11_5 := blk_frozen BK965.out 5; have hfz11_6 := blk_frozen BK965.out 6))
    go_ret
    exact ⟨by rfl, by repeat ((with_reducible exact HB.out))⟩
 ·rw [if_neg c3] at H
  have c3b0 : (a0_0 == 2) = false := beq_eq_false_iff_ne.mpr c3
  have c3b1 : (a0_0 != 2) = true := bne_iff_ne.mpr c3
  by_cases c12 : a0_0 = 3
  ·rw [if_pos c12] at H
   have c12b0 : (a0_0 == 3) = true := beq_iff_eq.mpr c12
   have c12b1 : (a0_0 != 3) = false := bne_eq_false_iff_eq.mpr c12
   clear c12
   obtain rfl := Option.some.inj H
   go_enter Try.func99, Try.ntmps99
   go_wp2_with (((with_reducible refine gate_dst (N := 2) rfl ?_); refine box_event ?hg (N := 2) ?hd (cs := #[.int .u8 a0_0, .int .i64 a0_1, .int .i64 a0_2, .int .i64 a0_3, .int .i64 a0_4, .int .i64 a0_5, .slice A0_6 l0_6.length c0_6]) (t := 26) ?hr ?_; (case hd => rfl); (case hg => rfl); (case hr => (go_simp; done)); intro gb965 hg w13 hbox hb; have BK965 := Aside0.mk (hbox); replace HB := Aside0.mk (below_step (by repeat ((with_reducible exact HB.out))) hb); clear hb hbox hg; have hcz14_0 : w13.cell? ⟨gb965, 0, none⟩ = some (.int .u8 a0_0) := (blk_cell BK965.out 0).trans rfl; have hcz14_1 : w13.cell? ⟨gb965, 1, none⟩ = some (.int .i64 a0_1) := (blk_cell BK965.out 1).trans rfl; have hcz14_2 : w13.cell? ⟨gb965, 2, none⟩ = some (.int .i64 a0_2) := (blk_cell BK965.out 2).trans rfl; have hcz14_3 : w13.cell? ⟨gb965, 3, none⟩ = some (.int .i64 a0_3) := (blk_cell BK965.out 3).trans rfl; have hcz14_4 : w13.cell? ⟨gb965, 4, none⟩ = some (.int .i64 a0_4) := (blk_cell BK965.out 4).trans rfl; have hcz14_5 : w13.cell? ⟨gb965, 5, none⟩ = some (.int .i64 a0_5) := (blk_cell BK965.out 5).trans rfl; have hcz14_6 : w13.cell? ⟨gb965, 6, none⟩ = some (.slice A0_6 l0_6.length c0_6) := (blk_cell BK965.out 6).trans rfl; have hfz14_0 := blk_frozen BK965.out 0; have hfz14_1 := blk_frozen BK965.out 1; have hfz14_2 := blk_frozen BK965.out 2; have hfz14_3 := blk_frozen BK965.out 3; have hfz14_4 := blk_frozen BK965.out 4; have hfz14_5 := blk_frozen BK965.out 5; have hfz14_6 := blk_frozen BK965.out 6))
   go_ret
   exact ⟨by rfl, by repeat ((with_reducible exact HB.out))⟩
  ·rw [if_neg c12] at H
   have c12b0 : (a0_0 == 3) = false := beq_eq_false_iff_ne.mpr c12
   have c12b1 : (a0_0 != 3) = true := bne_iff_ne.mpr c12
   obtain rfl := Option.some.inj H
   go_enter Try.func99, Try.ntmps99
   go_wp2_with (((with_reducible refine gate_dst (N := 2) rfl ?_); refine box_event ?hg (N := 2) ?hd (cs := #[.int .u8 a0_0, .int .i64 a0_1, .int .i64 a0_2, .int .i64 a0_3, .int .i64 a0_4, .int .i64 a0_5, .slice A0_6 l0_6.length c0_6]) (t := 26) ?hr ?_; (case hd => rfl); (case hg => rfl); (case hr => (go_simp; done)); intro gb965 hg w15 hbox hb; have BK965 := Aside0.mk (hbox); replace HB := Aside0.mk (below_step (by repeat ((with_reducible exact HB.out))) hb); clear hb hbox hg; have hcz16_0 : w15.cell? ⟨gb965, 0, none⟩ = some (.int .u8 a0_0) := (blk_cell BK965.out 0).trans rfl; have hcz16_1 : w15.cell? ⟨gb965, 1, none⟩ = some (.int .i64 a0_1) := (blk_cell BK965.out 1).trans rfl; have hcz16_2 : w15.cell? ⟨gb965, 2, none⟩ = some (.int .i64 a0_2) := (blk_cell BK965.out 2).trans rfl; have hcz16_3 : w15.cell? ⟨gb965, 3, none⟩ = some (.int .i64 a0_3) := (blk_cell BK965.out 3).trans rfl; have hcz16_4 : w15.cell? ⟨gb965, 4, none⟩ = some (.int .i64 a0_4) := (blk_cell BK965.out 4).trans rfl; have hcz16_5 : w15.cell? ⟨gb965, 5, none⟩ = some (.int .i64 a0_5) := (blk_cell BK965.out 5).trans rfl; have hcz16_6 : w15.cell? ⟨gb965, 6, none⟩ = some (.slice A0_6 l0_6.length c0_6) := (blk_cell BK965.out 6).trans rfl; have hfz16_0 := blk_frozen BK965.out 0; have hfz16_1 := blk_frozen BK965.out 1; have hfz16_2 := blk_frozen BK965.out 2; have hfz16_3 := blk_frozen BK965.out 3; have hfz16_4 := blk_frozen BK965.out 4; have hfz16_5 := blk_frozen BK965.out 5; have hfz16_6 := blk_frozen BK965.out 6))
   go_ret
   exact ⟨by rfl, by repeat ((with_reducible exact HB.out))⟩

end Go.Proofs.Ytfdmfgaiblfbhaa.P
namespace Go.Proofs.Ytfdmfgaiblfbhaa.P
open Go.RowKit Go.Proofs.YtfdmfgaiblfbhaaW.PrintWords Go.Proofs.YtfdmfgaiblfbhaaW.PrintLast Go.Proofs.YtfdmfgaiblfbhaaW.PrintMore
attribute [local go_sem] max2_int min2_int max_two min_two max_three min_three max_four min_four   -- for this text's walks alone
set_option linter.unusedVariables false
set_option linter.unusedSimpArgs false

/-! ### least_least: function 149 -/
mutual
def least_least.l0 : Nat → Int → Int → Int → List (S26) → Int → Int → Int → Int → Int → Int → Int → Int → List (S26) → Option (Int)
 | 0, _, _, _, _, _, _, _, _, _, _, _, _, _ => none
 | k + 1, x1, x5, x6, x18, x19, x20, x967000, x967001, x967002, x967003, x967004, x967005, x967006 => if x20 < x19 then (if 0 ≤ x20 then (if x20 < (x18.length : Int) then ((least_least.f k ((rd_T26 x18 x20).f0) ((rd_T26 x18 x20).f1.f0) ((rd_T26 x18 x20).f1.f1) ((rd_T26 x18 x20).f1.f2) ((rd_T26 x18 x20).f1.f3) ((rd_T26 x18 x20).f2) ((rd_T26 x18 x20).f3) x1).bind fun t969 => (least_least.l0 k x1 (wrap64 (x5 + t969)) (mx x6 t969) x18 x19 (wrap64 (x20 + 1)) x967000 x967001 x967002 x967003 x967004 x967005 x967006)) else (none)) else (none)) else ((least_Along.f x967000 x967001 x967002 x967003 x967004 x967005 x967006 x1).bind fun t970 => (if t970 = true then (some x5) else (some x6)))
def least_least.f : Nat → Int → Int → Int → Int → Int → Int → List (S26) → Int → Option (Int)
 | 0, _, _, _, _, _, _, _, _ => none
 | k + 1, a0_0, a0_1, a0_2, a0_3, a0_4, a0_5, l0_6, a1 => if a0_0 = 1 then (some 1) else (least_least.l0 k a1 (wrap64 ((l0_6.length : Int) - 1)) 0 l0_6 (l0_6.length : Int) 0 a0_0 a0_1 a0_2 a0_3 a0_4 a0_5 l0_6)
end
set_option maxHeartbeats 8000000 in
set_option maxRecDepth 100000 in
theorem least_least.calls (k : Nat) : ∀ (a0_0 : Int) (a0_1 : Int) (a0_2 : Int) (a0_3 : Int) (a0_4 : Int) (a0_5 : Int) (A0_6 : Option Addr) (c0_6 : Nat) (l0_6 : List (S26)) (a1 : Int) (r : Int) (w : World) (hr0_6 : Kd.C k26 w A0_6 l0_6.length l0_6) (hc0_6 : l0_6.length ≤ c0_6) (h : least_least.f k a0_0 a0_1 a0_2 a0_3 a0_4 a0_5 l0_6 a1 = some r),
  Calls Try.prog 149 #[.agg #[.int .u8 a0_0, .int .i64 a0_1, .int .i64 a0_2, .int .i64 a0_3, .int .i64 a0_4, .int .i64 a0_5, .slice A0_6 l0_6.length c0_6], .int .u8 a1] w fun e w' => e = .returned (.int .i64 r) ∧ Below w.heap.size w w' := by
 induction k using Nat.strongRecOn with
 | _ k ih =>
 intro a0_0 a0_1 a0_2 a0_3 a0_4 a0_5 A0_6 c0_6 l0_6 a1 r w hr0_6 hc0_6 h
 cases k with
 | zero => exact absurd h (by simp [least_least.f])
 | succ k =>
 simp only [least_least.f] at h
 have hu26 := Try.underlying26
 have HR0_6 := Aside0.mk hr0_6
 have HC0_6 := Aside0.mk hc0_6
 clear hr0_6 hc0_6
 have HB := Aside0.mk (Below.refl w.heap.size w)
 have H : (if a0_0 = 1 then (some 1) else (least_least.l0 k a1 (wrap64 ((l0_6.length : Int) - 1)) 0 l0_6 (l0_6.length : Int) 0 a0_0 a0_1 a0_2 a0_3 a0_4 a0_5 l0_6)) = some r := h
 clear h
 by_cases c3 : a0_0 = 1
 ·rw [if_pos c3] at H
  have c3b0 : (a0_0 == 1) = true := beq_iff_eq.mpr c3
  have c3b1 : (a0_0 != 1) = false := bne_eq_false_iff_eq.mpr c3
  clear c3
  obtain rfl := Option.some.inj H
  go_enter Try.func149, Try.ntmps149
  go_wp2_with (((with_reducible refine gate_dst (N := 2) rfl ?_); refine box_event ?hg (N := 2) ?hd (cs := #[.int .u8 a0_0, .int .i64 a0_1, .int .i64 a0_2, .int .i64 a0_3, .int .i64 a0_4, .int .i64 a0_5, .slice A0_6 l0_6.length c0_6]) (t := 26) ?hr ?_; (case hd => rfl); (case hg => rfl); (case hr => (go_simp; done)); intro gb966 hg w4 hbox hb; have BK966 := Aside0.mk (hbox); replace HB := Aside0.mk (below_step (by repeat ((with_reducible exact HB.out))) hb); clear hb hbox hg; have hcz5_0 : w4.cell? ⟨gb966, 0, none⟩ = some (.int .u8 a0_0) := (blk_cell BK966.out 0).trans rfl; have hcz5_1 : w4.cell? ⟨gb966, 1, none⟩ = some (.int .i64 a0_1) := (blk_cell BK966.out 1).trans rfl; have hcz5_2 : w4.cell? ⟨gb966, 2, none⟩ = some (.int .i64 a0_2) := (blk_cell BK966.out 2).trans rfl; have hcz5_3 : w4.cell? ⟨gb966, 3, none⟩ = some (.int .i64 a0_3) := (blk_cell BK966.out 3).trans rfl; have hcz5_4 : w4.cell? ⟨gb966, 4, none⟩ = some (.int .i64 a0_4) := (blk_cell BK966.out 4).trans rfl; have hcz5_5 : w4.cell? ⟨gb966, 5, none⟩ = some (.int .i64 a0_5) := (blk_cell BK966.out 5).trans rfl; have hcz5_6 : w4.cell? ⟨gb966, 6, none⟩ = some (.slice A0_6 l0_6.length c0_6) := (blk_cell BK966.out 6).trans rfl; have hfz5_0 := blk_frozen BK966.out 0; have hfz5_1 := blk_frozen BK966.out 1; have hfz5_2 := blk_frozen BK966.out 2; have hfz5_3 := blk_frozen BK966.out 3; have hfz5_4 := blk_frozen BK966.out 4; have hfz5_5 := blk_frozen BK966.out 5; have hfz5_6 := blk_frozen BK966.out 6))
  go_ret
  exact ⟨by rfl, by repeat ((with_reducible exact HB.out))⟩
 ·rw [if_neg c3] at H
  have c3b0 : (a0_0 == 1) = false := beq_eq_false_iff_ne.mpr c3
  have c3b1 : (a0_0 != 1) = true := bne_iff_ne.mpr c3
  have H' := Aside0.mk H
  clear H
  go_enter Try.func149, Try.ntmps149
  go_wp2_with (((with_reducible refine gate_dst (N := 2) rfl ?_); refine box_event ?hg (N := 2) ?hd (cs := #[.int .u8 a0_0, .int .i64 a0_1, .int .i64 a0_2, .int .i64 a0_3, .int .i64 a0_4, .int .i64 a0_5, .slice A0_6 l0_6.length c0_6]) (t := 26) ?hr ?_; (case hd => rfl); (case hg => rfl); (case hr => (go_simp; done)); intro gb966 hg w6 hbox hb; have BK966 := Aside0.mk (hbox); replace HB := Aside0.mk (below_step (by repeat ((with_reducible exact HB.out))) hb); clear hb hbox hg; have hcz7_0 : w6.cell? ⟨gb966, 0, none⟩ = some (.int .u8 a0_0) := (blk_cell BK966.out 0).trans rfl; have hcz7_1 : w6.cell? ⟨gb966, 1, none⟩ = some (.int .i64 a0_1) := (blk_cell BK966.out 1).trans rfl; have hcz7_2 : w6.cell? ⟨gb966, 2, none⟩ = some (.int .i64 a0_2) := (blk_cell BK966.out 2).trans rfl; have hcz7_3 : w6.cell? ⟨gb966, 3, none⟩ = some (.int .i64 a0_3) := (blk_cell BK966.out 3).trans rfl; have hcz7_4 : w6.cell? ⟨gb966, 4, none⟩ = some (.int .i64 a0_4) := (blk_cell BK966.out 4).trans rfl; have hcz7_5 : w6.cell? ⟨gb966, 5, none⟩ = some (.int .i64 a0_5) := (blk_cell BK966.out 5).trans rfl; have hcz7_6 : w6.cell? ⟨gb966, 6, none⟩ = some (.slice A0_6 l0_6.length c0_6) := (blk_cell BK966.out 6).trans rfl; have hfz7_0 := blk_frozen BK966.out 0; have hfz7_1 := blk_frozen BK966.out 1; have hfz7_2 := blk_frozen BK966.out 2; have hfz7_3 := blk_frozen BK966.out 3; have hfz7_4 := blk_frozen BK966.out 4; have hfz7_5 := blk_frozen BK966.out 5; have hfz7_6 := blk_frozen BK966.out 6))
  go_loopg [5, 6, 20] k (fun kq v5 v6 v20 w' => ∃ (x5_1 : Int) (x6_1 : Int) (x20_1 : Int), v5 = .int .i64 x5_1 ∧ v6 = .int .i64 x6_1 ∧ v20 = .int .i64 x20_1 ∧ Aside0 (least_least.l0 kq a1 x5_1 x6_1 l0_6 (l0_6.length : Int) x20_1 a0_0 a0_1 a0_2 a0_3 a0_4 a0_5 l0_6 = some r) ∧ Aside0 (kq ≤ k) ∧ Aside0 (w'.heap[gb966]? = some (.cells #[.int .u8 a0_0, .int .i64 a0_1, .int .i64 a0_2, .int .i64 a0_3, .int .i64 a0_4, .int .i64 a0_5, (.slice A0_6 l0_6.length c0_6)] 26 (0, 0))) ∧ Aside0 (Below w.heap.size w w'))
  case atStart => exact ⟨(wrap64 ((l0_6.length : Int) - 1)), (0), (0), (by rfl), (by rfl), (by rfl), H', ⟨Nat.le_refl _⟩, ⟨by exact BK966.out⟩, ⟨by repeat ((with_reducible exact HB.out))⟩⟩
  case round =>
   clear H'
   clear c3 c3b0 c3b1 hcz7_0 hcz7_1 hcz7_2 hcz7_3 hcz7_4 hcz7_5 hcz7_6 hfz7_0 hfz7_1 hfz7_2 hfz7_3 hfz7_4 hfz7_5 hfz7_6
   obtain ⟨x5_1, x6_1, x20_1, rfl, rfl, rfl, HA, HK1, BK966, HB⟩ := hrel
   cases gk with
   | zero => exact absurd HA.out (by simp [least_least.l0])
   | succ k1 =>
    have H := HA.out
    clear HA
    simp only [least_least.l0] at H
    by_cases c8 : x20_1 < (l0_6.length : Int)
    ·rw [if_pos c8] at H
     have c8b0 : decide (x20_1 < (l0_6.length : Int)) = true := decide_eq_true c8
     clear c8
     by_cases c9 : 0 ≤ x20_1
     ·rw [if_pos c9] at H
      have c9b0 : decide (0 ≤ x20_1) = true := decide_eq_true c9
      clear c9
      by_cases c10 : x20_1 < (l0_6.length : Int)
      ·rw [if_pos c10] at H
       have c10b0 : decide (x20_1 < (l0_6.length : Int)) = true := decide_eq_true c10
       clear c10
       replace H := Option.bind_eq_some_iff.mp H
       obtain ⟨t969, A110, H⟩ := H
       replace H : (least_least.l0 k1 a1 (wrap64 (x5_1 + t969)) (mx x6_1 t969) l0_6 (l0_6.length : Int) (wrap64 (x20_1 + 1)) a0_0 a0_1 a0_2 a0_3 a0_4 a0_5 l0_6) = some r := H
       have A11 := Aside0.mk A110
       clear A110
       obtain ⟨ji12, hji12⟩ : ∃ j_ : Int, (mx x6_1 t969) = j_ := ⟨_, rfl⟩
       replace H : (least_least.l0 k1 a1 (wrap64 (x5_1 + t969)) ji12 l0_6 (l0_6.length : Int) (wrap64 (x20_1 + 1)) a0_0 a0_1 a0_2 a0_3 a0_4 a0_5 l0_6) = some r := by (rw [hji12] at H; exact H)
       (skip)
       have hji12_ : (if x6_1 < t969 then t969 else x6_1) = ji12 := hji12
       have H' := Aside0.mk H
       clear H
       have p967 : 0 ≤ (x20_1 : Int) := of_decide_eq_true (by (with_reducible assumption))
       have q967 : x20_1 < (l0_6.length : Int) := of_decide_eq_true (by (with_reducible assumption))
       obtain ⟨ad967, A967_6, c967_6, e967, hx967_0, hx967_1, hx967_2, hx967_3, hx967_4, hx967_5, hx967_6, hl967_6, hi967_6⟩ := at_T26 HR0_6.out x20_1 p967 q967
       cases e967
       replace hx967_0 := (HB.out.cell (World.block_lt_of_cell? w _ hx967_0)).trans hx967_0
       replace hx967_1 := (HB.out.cell (World.block_lt_of_cell? w _ hx967_1)).trans hx967_1
       replace hx967_2 := (HB.out.cell (World.block_lt_of_cell? w _ hx967_2)).trans hx967_2
       replace hx967_3 := (HB.out.cell (World.block_lt_of_cell? w _ hx967_3)).trans hx967_3
       replace hx967_4 := (HB.out.cell (World.block_lt_of_cell? w _ hx967_4)).trans hx967_4
       replace hx967_5 := (HB.out.cell (World.block_lt_of_cell? w _ hx967_5)).trans hx967_5
       replace hx967_6 := (HB.out.cell (World.block_lt_of_cell? w _ hx967_6)).trans hx967_6
       have HR967_6 := Aside0.mk hi967_6
       have HC967_6 := Aside0.mk hl967_6
       clear hi967_6 hl967_6
       replace p967 := eq_true p967
       replace q967 := eq_true q967
       go_wp2_with (first | ((with_reducible refine gate_dst (N := 8) rfl ?_); refine box_event ?hg (N := 8) ?hd (cs := #[.int .u8 0, .int .i64 0, .int .i64 0, .int .i64 0, .int .i64 0, .int .i64 0, .slice none 0 0]) (t := 26) ?hr ?_; (case hd => rfl); (case hg => rfl); (case hr => (go_simp; done)); intro gb968 hg w13 hbox hb; have BK968 := Aside0.mk (hbox); have GE968 := Aside0.mk ((by rw [hg]; exact (below_size (by repeat ((with_reducible exact HB.out)))) : w.heap.size ≤ gb968)); have NB966_968 := Aside0.mk ((by rw [hg]; exact Nat.ne_of_lt (blk_lt BK966.out) : gb966 ≠ gb968)); have NB968_966 := Aside0.mk ((by rw [hg]; exact Nat.ne_of_gt (blk_lt BK966.out) : gb968 ≠ gb966)); replace BK966 := Aside0.mk (blk_below BK966.out hb); replace HB := Aside0.mk (below_step (by repeat ((with_reducible exact HB.out))) hb); clear hb hbox hg; have hnb14 := NB968_966.out; have hnc14 := NB966_968.out; have hcz15_0 : w13.cell? ⟨gb968, 0, none⟩ = some (.int .u8 0) := (blk_cell BK968.out 0).trans rfl; have hcz15_1 : w13.cell? ⟨gb968, 1, none⟩ = some (.int .i64 0) := (blk_cell BK968.out 1).trans rfl; have hcz15_2 : w13.cell? ⟨gb968, 2, none⟩ = some (.int .i64 0) := (blk_cell BK968.out 2).trans rfl; have hcz15_3 : w13.cell? ⟨gb968, 3, none⟩ = some (.int .i64 0) := (blk_cell BK968.out 3).trans rfl; have hcz15_4 : w13.cell? ⟨gb968, 4, none⟩ = some (.int .i64 0) := (blk_cell BK968.out 4).trans rfl; have hcz15_5 : w13.cell? ⟨gb968, 5, none⟩ = some (.int .i64 0) := (blk_cell BK968.out 5).trans rfl; have hcz15_6 : w13.cell? ⟨gb968, 6, none⟩ = some (.slice none 0 0) := (blk_cell BK968.out 6).trans rfl; have hfz15_0 := blk_frozen BK968.out 0; have hfz15_1 := blk_frozen BK968.out 1; have hfz15_2 := blk_frozen BK968.out 2; have hfz15_3 := blk_frozen BK968.out 3; have hfz15_4 := blk_frozen BK968.out 4; have hfz15_5 := blk_frozen BK968.out 5; have hfz15_6 := blk_frozen BK968.out 6) | ((with_reducible refine gate_callee (f := 149) rfl ?_); refine goesL_ (some 26) rfl rfl Try.func149 (by kernel_rfl) rfl #[.agg #[.int .u8 ((rd_T26 l0_6 x20_1).f0), .int .i64 ((rd_T26 l0_6 x20_1).f1.f0), .int .i64 ((rd_T26 l0_6 x20_1).f1.f1), .int .i64 ((rd_T26 l0_6 x20_1).f1.f2), .int .i64 ((rd_T26 l0_6 x20_1).f1.f3), .int .i64 ((rd_T26 l0_6 x20_1).f2), .slice A967_6 ((rd_T26 l0_6 x20_1).f3).length c967_6], .int .u8 a1] rfl (by (try simp only [List.map_toArray, List.map_cons, List.map_nil]); rfl) ?_; (with_reducible refine (ih k1 (by have := HK1.out; omega) ((rd_T26 l0_6 x20_1).f0) ((rd_T26 l0_6 x20_1).f1.f0) ((rd_T26 l0_6 x20_1).f1.f1) ((rd_T26 l0_6 x20_1).f1.f2) ((rd_T26 l0_6 x20_1).f1.f3) ((rd_T26 l0_6 x20_1).f2) _ _ ((rd_T26 l0_6 x20_1).f3) a1 t969 _ ?side1 ?side2 A11.out).mono ?_); (case side1 => exact Kd.C_below HR967_6.out (by repeat ((with_reducible first | exact HB.out | refine below_set ?_ GE968.out)))); (case side2 => exact HC967_6.out); rintro e w16 ⟨rfl, hb⟩; refine ⟨_, rfl, ?_⟩; replace BK966 := Aside0.mk (blk_below (g := gb966) (o := .cells #[.int .u8 a0_0, .int .i64 a0_1, .int .i64 a0_2, .int .i64 a0_3, .int .i64 a0_4, .int .i64 a0_5, .slice (some ad967) l0_6.length c0_6] 26 (0, 0)) (by refine blk_far ?_ NB966_968.out _; refine blk_far ?_ NB966_968.out _; refine blk_far ?_ NB966_968.out _; refine blk_far ?_ NB966_968.out _; refine blk_far ?_ NB966_968.out _; refine blk_far ?_ NB966_968.out _; refine blk_far ?_ NB966_968.out _; exact BK966.out) hb); replace BK968 := Aside0.mk (blk_below (g := gb968) (o := .cells #[.int .u8 ((rd_T26 l0_6 x20_1).f0), .int .i64 ((rd_T26 l0_6 x20_1).f1.f0), .int .i64 ((rd_T26 l0_6 x20_1).f1.f1), .int .i64 ((rd_T26 l0_6 x20_1).f1.f2), .int .i64 ((rd_T26 l0_6 x20_1).f1.f3), .int .i64 ((rd_T26 l0_6 x20_1).f2), .slice A967_6 ((rd_T26 l0_6 x20_1).f3).length c967_6] 26 (0, 0)) (by refine blk_put (cs := #[.int .u8 ((rd_T26 l0_6 x20_1).f0), .int .i64 ((rd_T26 l0_6 x20_1).f1.f0), .int .i64 ((rd_T26 l0_6 x20_1).f1.f1), .int .i64 ((rd_T26 l0_6 x20_1).f1.f2), .int .i64 ((rd_T26 l0_6 x20_1).f1.f3), .int .i64 ((rd_T26 l0_6 x20_1).f2), .slice none 0 0]) ?_ 6 _ rfl; refine blk_put (cs := #[.int .u8 ((rd_T26 l0_6 x20_1).f0), .int .i64 ((rd_T26 l0_6 x20_1).f1.f0), .int .i64 ((rd_T26 l0_6 x20_1).f1.f1), .int .i64 ((rd_T26 l0_6 x20_1).f1.f2), .int .i64 ((rd_T26 l0_6 x20_1).f1.f3), .int .i64 0, .slice none 0 0]) ?_ 5 _ rfl; refine blk_put (cs := #[.int .u8 ((rd_T26 l0_6 x20_1).f0), .int .i64 ((rd_T26 l0_6 x20_1).f1.f0), .int .i64 ((rd_T26 l0_6 x20_1).f1.f1), .int .i64 ((rd_T26 l0_6 x20_1).f1.f2), .int .i64 0, .int .i64 0, .slice none 0 0]) ?_ 4 _ rfl; refine blk_put (cs := #[.int .u8 ((rd_T26 l0_6 x20_1).f0), .int .i64 ((rd_T26 l0_6 x20_1).f1.f0), .int .i64 ((rd_T26 l0_6 x20_1).f1.f1), .int .i64 0, .int .i64 0, .int .i64 0, .slice none 0 0]) ?_ 3 _ rfl; refine blk_put (cs := #[.int .u8 ((rd_T26 l0_6 x20_1).f0), .int .i64 ((rd_T26 l0_6 x20_1).f1.f0), .int .i64 0, .int .i64 0, .int .i64 0, .int .i64 0, .slice none 0 0]) ?_ 2 _ rfl; refine blk_put (cs := #[.int .u8 ((rd_T26 l0_6 x20_1).f0), .int .i64 0, .int .i64 0, .int .i64 0, .int .i64 0, .int .i64 0, .slice none 0 0]) ?_ 1 _ rfl; refine blk_put (cs := #[.int .u8 0, .int .i64 0, .int .i64 0, .int .i64 0, .int .i64 0, .int .i64 0, .slice none 0 0]) ?_ 0 _ rfl; exact BK968.out) hb); replace HB := Aside0.mk (below_step (by repeat ((with_reducible first | exact HB.out | refine below_set ?_ GE968.out))) hb); (try clear hb)))
       go_roundg k1
       case measure => have := HK1.out; omega
       case rel => exact ⟨(wrap64 (x5_1 + t969)), (ji12), (wrap64 (x20_1 + 1)), (by rfl), (by rfl), (by rfl), H', ⟨by have := HK1.out; omega⟩, ⟨by exact BK966.out⟩, ⟨by repeat ((with_reducible exact HB.out))⟩⟩
      ·rw [if_neg c10] at H
       exact absurd H (by simp)
     ·rw [if_neg c9] at H
      exact absurd H (by simp)
    ·rw [if_neg c8] at H
     have c8b0 : decide (x20_1 < (l0_6.length : Int)) = false := decide_eq_false c8
     clear c8
     replace H := Option.bind_eq_some_iff.mp H
     obtain ⟨t970, A170, H⟩ := H
     replace H : (if t970 = true then (some x5_1) else (some x6_1)) = some r := H
     have A17 := Aside0.mk A170
     clear A170
     by_cases c18 : t970 = true
     ·subst c18
      have H1 : (some x5_1) = some r := by rw [if_pos rfl] at H; exact H
      clear H
      have H := H1
      clear H1
      obtain rfl := Option.some.inj H
      have hcz19_0 : wr.cell? ⟨gb966, 0, none⟩ = some (.int .u8 a0_0) := (blk_cell BK966.out 0).trans rfl
      have hcz19_1 : wr.cell? ⟨gb966, 1, none⟩ = some (.int .i64 a0_1) := (blk_cell BK966.out 1).trans rfl
      have hcz19_2 : wr.cell? ⟨gb966, 2, none⟩ = some (.int .i64 a0_2) := (blk_cell BK966.out 2).trans rfl
      have hcz19_3 : wr.cell? ⟨gb966, 3, none⟩ = some (.int .i64 a0_3) := (blk_cell BK966.out 3).trans rfl
      have hcz19_4 : wr.cell? ⟨gb966, 4, none⟩ = some (.int .i64 a0_4) := (blk_cell BK966.out 4).trans rfl
      have hcz19_5 : wr.cell? ⟨gb966, 5, none⟩ = some (.int .i64 a0_5) := (blk_cell BK966.out 5).trans rfl
      have hcz19_6 : wr.cell? ⟨gb966, 6, none⟩ = some (.slice A0_6 l0_6.length c0_6) := (blk_cell BK966.out 6).trans rfl
      have hfz19_0 := blk_frozen BK966.out 0
      have hfz19_1 := blk_frozen BK966.out 1
      have hfz19_2 := blk_frozen BK966.out 2
      have hfz19_3 := blk_frozen BK966.out 3
      have hfz19_4 := blk_frozen BK966.out 4
      have hfz19_5 := blk_frozen BK966.out 5
      have hfz19_6 := blk_frozen BK966.out 6
      go_wp2_with (((with_reducible refine gate_callee (f := 99) rfl ?_); refine goesL_ (some 36) rfl rfl Try.func99 (by kernel_rfl) rfl #[.agg #[.int .u8 a0_0, .int .i64 a0_1, .int .i64 a0_2, .int .i64 a0_3, .int .i64 a0_4, .int .i64 a0_5, .slice A0_6 l0_6.length c0_6], .int .u8 a1] rfl (by (try simp only [List.map_toArray, List.map_cons, List.map_nil]); rfl) ?_; (with_reducible refine (least_Along.calls a0_0 a0_1 a0_2 a0_3 a0_4 a0_5 _ _ l0_6 a1 true _ ?side1 ?side2 A17.out).mono ?_); (case side1 => repeat (exact (Kd.C_below HR0_6.out HB.out))); (case side2 => exact HC0_6.out); rintro e w20 ⟨rfl, hb⟩; refine ⟨_, rfl, ?_⟩; replace BK966 := Aside0.mk (blk_below BK966.out hb); replace HB := Aside0.mk (below_step (by repeat ((with_reducible exact HB.out))) hb); (try clear hb)))
      go_ret
      exact ⟨by rfl, by repeat ((with_reducible exact HB.out))⟩
     ·replace c18 := Bool.eq_false_iff.mpr c18
      subst c18
      have H1 : (some x6_1) = some r := by rw [if_neg (show ¬ (false = true) by decide)] at H; exact H
      clear H
      have H := H1
      clear H1
      obtain rfl := Option.some.inj H
      have hcz21_0 : wr.cell? ⟨gb966, 0, none⟩ = some (.int .u8 a0_0) := (blk_cell BK966.out 0).trans rfl
      have hcz21_1 : wr.cell? ⟨gb966, 1, none⟩ = some (.int .i64 a0_1) := (blk_cell BK966.out 1).trans rfl
      have hcz21_2 : wr.cell? ⟨gb966, 2, none⟩ = some (.int .i64 a0_2) := (blk_cell BK966.out 2).trans rfl
      have hcz21_3 : wr.cell? ⟨gb966, 3, none⟩ = some (.int .i64 a0_3) := (blk_cell BK966.out 3).trans rfl
      have hcz21_4 : wr.cell? ⟨gb966, 4, none⟩ = some (.int .i64 a0_4) := (blk_cell BK966.out 4).trans rfl
      have hcz21_5 : wr.cell? ⟨gb966, 5, none⟩ = some (.int .i64 a0_5) := (blk_cell BK966.out 5).trans rfl
      have hcz21_6 : wr.cell? ⟨gb966, 6, none⟩ = some (.slice A0_6 l0_6.length c0_6) := (blk_cell BK966.out 6).trans rfl
      have hfz21_0 := blk_frozen BK966.out 0
      have hfz21_1 := blk_frozen BK966.out 1
      have hfz21_2 := blk_frozen BK966.out 2
      have hfz21_3 := blk_frozen BK966.out 3
      have hfz21_4 := blk_frozen BK966.out 4
      have hfz21_5 := blk_frozen BK966.out 5
      have hfz21_6 := blk_frozen BK966.out 6
      go_wp2_with (((with_reducible refine gate_callee (f := 99) rfl ?_); refine goesL_ (some 36) rfl rfl Try.func99 (by kernel_rfl) rfl #[.agg #[.int .u8 a0_0, .int .i64 a0_1, .int .i64 a0_2, .int .i64 a0_3, .int .i64 a0_4, .int .i64 a0_5, .slice A0_6 l0_6.length c0_6], .int .u8 a1] rfl (by (try simp only [List.map_toArray, List.map_cons, List.map_nil]); rfl) ?_; (with_reducible refine (least_Along.calls a0_0 a0_1 a0_2 a0_3 a0_4 a0_5 _ _ l0_6 a1 false _ ?side1 ?side2 A17.out).mono ?_); (case side1 => repeat (exact (Kd.C_below HR0_6.out HB.out))); (case side2 => exact HC0_6.out); rintro e w22 ⟨rfl, hb⟩; refine ⟨_, rfl, ?_⟩; replace BK966 := Aside0.mk (blk_below BK966.out hb); replace HB := Aside0.mk (below_step (by repeat ((with_reducible exact HB.out))) hb); (try clear hb)))
      go_ret
      exact ⟨by rfl, by repeat ((with_reducible exact HB.out))⟩

end Go.Proofs.Ytfdmfgaiblfbhaa.P
/- The contract of least.axes, in a form that other texts lean on. -/
namespace Go.Proofs.Ytfdmfgaiblfbhaa.P
open Go.RowKit Go.Proofs.YtfdmfgaiblfbhaaW.PrintWords Go.Proofs.YtfdmfgaiblfbhaaW.PrintLast Go.Proofs.YtfdmfgaiblfbhaaW.PrintMore
attribute [local go_sem] max2_int min2_int max_two min_two max_three min_three max_four min_four   -- for this text's walks alone
set_option linter.unusedVariables false
set_option linter.unusedSimpArgs false

/-! ### least_axes: function 147 -/
def least_axes.f (a0 : Int) : Option (Bool) := if a0 = 1 then (some true) else (some (a0 == 2))
set_option maxHeartbeats 8000000 in
set_option maxRecDepth 100000 in
theorem least_axes.calls0 (a0 : Int) (r : Bool) (w : World) (h : least_axes.f a0 = some r) :
    Calls Try.prog 147 #[.int .u8 a0] w fun e w' => e = .returned (.bool r) ∧ Drawn0 w w' := by
  have H : (if a0 = 1 then (some true) else (some (a0 == 2))) = some r := h
  clear h
  by_cases c2 : a0 = 1
  · rw [if_pos c2] at H
    have c2b0 : (a0 == 1) = true := beq_iff_eq.mpr c2
    have c2b1 : (a0 != 1) = false := bne_eq_false_iff_eq.mpr c2
    clear c2
    obtain rfl := Option.some.inj H
    go_enter Try.func147, Try.ntmps147
    go_wp2
    go_ret
    exact ⟨by rfl, by repeat (exact Drawn0.refl _)⟩
  · rw [if_neg c2] at H
    have c2b0 : (a0 == 1) = false := beq_eq_false_iff_ne.mpr c2
    have c2b1 : (a0 != 1) = true := bne_iff_ne.mpr c2
    obtain rfl := Option.some.inj H
    go_enter Try.func147, Try.ntmps147
    go_wp2
    go_ret
    exact ⟨by rfl, by repeat (exact Drawn0.refl _)⟩

theorem least_axes.calls (a0 : Int) (r : Bool) (w : World) (h : least_axes.f a0 = some r) :
    Calls Try.prog 147 #[.int .u8 a0] w fun e w' => e = .returned (.bool r) ∧ Below w.heap.size w w' := by
  refine (least_axes.calls0 a0 r w h).mono ?_
  rintro e w' ⟨he, n, rfl⟩
  exact ⟨he, pw_below_drewN (Below.refl _ _) n⟩
end Go.Proofs.Ytfdmfgaiblfbhaa.P
/- A tree's cells and their number: plain data. -/
namespace Go.Proofs.Ytfdmfgaiblfbhaa.P
open Go.RowKit Go.Proofs.YtfdmfgaiblfbhaaW.PrintWords Go.Proofs.YtfdmfgaiblfbhaaW.PrintLast Go.Proofs.YtfdmfgaiblfbhaaW.PrintMore

mutual
def allC : S26 → List S26
  | ⟨a, b, d, l⟩ => ⟨a, b, d, l⟩ :: allL l
def allL : List S26 → List S26
  | [] => []
  | c :: cs => allC c ++ allL cs
end
theorem allC_eq (c : S26) : allC c = c :: allL c.f3 := by cases c; simp [allC]
theorem allL_nil : allL [] = [] := by simp [allL]
theorem allL_cons (c : S26) (cs : List S26) : allL (c :: cs) = allC c ++ allL cs := by simp [allL]
theorem allL_app (a b : List S26) : allL (a ++ b) = allL a ++ allL b := by
  induction a with
  | nil => simp [allL_nil]
  | cons x xs ih => rw [List.cons_append, allL_cons, allL_cons, ih, List.append_assoc]
def sz (c : S26) : Nat := (allC c).length
def szL (l : List S26) : Nat := (allL l).length
theorem sz_eq (c : S26) : sz c = 1 + szL c.f3 := by unfold sz szL; rw [allC_eq, List.length_cons]; omega
theorem szL_nil : szL [] = 0 := by unfold szL; rw [allL_nil]; rfl
theorem szL_cons (c : S26) (cs : List S26) : szL (c :: cs) = sz c + szL cs := by unfold szL sz; rw [allL_cons, List.length_append]
theorem szL_app (a b : List S26) : szL (a ++ b) = szL a + szL b := by unfold szL; rw [allL_app, List.length_append]
theorem szL_len (l : List S26) : l.length ≤ szL l := by
  induction l with
  | nil => simp
  | cons x xs ih => rw [szL_cons, List.length_cons, sz_eq]; omega
theorem eta26 (c : S26) : (⟨c.f0, ⟨c.f1.f0, c.f1.f1, c.f1.f2, c.f1.f3⟩, c.f2, c.f3⟩ : S26) = c := by cases c; rfl
theorem szL_sum (l : List S26) : szL l = (l.map sz).sum := by
  induction l with
  | nil => rw [szL_nil]; rfl
  | cons x xs ih => rw [szL_cons, List.map_cons, List.sum_cons, ih]
end Go.Proofs.Ytfdmfgaiblfbhaa.P
/- A row gone through till a test says yes: plain words. -/
namespace Go.Proofs.Ytfdmfgaiblfbhaa.P
open Go.RowKit Go.Proofs.YtfdmfgaiblfbhaaW.PrintWords Go.Proofs.YtfdmfgaiblfbhaaW.PrintLast Go.Proofs.YtfdmfgaiblfbhaaW.PrintMore
/-- A call of a function that has a body enters it. -/
theorem enters_fn {P : Program} {f : FuncId} {fn : Func} (hf : P.funcs[f]? = some fn) (hname : (fn.name == "runtime.NumGoroutine") = false) (hb : fn.body.isSome = true) : ∀ args w, (callFunc f args).run P w = .ok (.enter f args) w := by
  intro args w
  obtain ⟨c, hc⟩ := Option.isSome_iff_exists.1 hb
  have h1 : fn.name ≠ "runtime.NumGoroutine" := by simpa using hname
  simp [callFunc, hf, h1, hc, mark]
section
variable {σ α : Type}
/-- Where the test first says yes (-1), and the state behind. -/
def scanI (step : σ → α → Bool × σ) : Int → σ → List α → Int × σ
  | _, s, [] => (-1, s)
  | i, s, x :: xs => if (step s x).1 = true then (i, (step s x).2) else scanI step (i + 1) (step s x).2 xs
/-- Whether it ever does. -/
def scanB (step : σ → α → Bool × σ) : σ → List α → Bool × σ
  | s, [] => (false, s)
  | s, x :: xs => if (step s x).1 = true then (true, (step s x).2) else scanB step (step s x).2 xs
theorem scanI_B (step : σ → α → Bool × σ) : ∀ (l : List α) (i : Int) (s : σ), 0 ≤ i → (scanB step s l).1 = decide (0 ≤ (scanI step i s l).1) ∧ (scanB step s l).2 = (scanI step i s l).2 := by
  intro l
  induction l with
  | nil => intro i s h; exact ⟨by simp [scanB, scanI], rfl⟩
  | cons x xs ih =>
    intro i s h
    simp only [scanB, scanI]
    split
    · exact ⟨by simp [h], rfl⟩
    · exact ih (i + 1) _ (by omega)
theorem scanB_eq (step : σ → α → Bool × σ) (s : σ) (l : List α) : scanB step s l = (decide (0 ≤ (scanI step 0 s l).1), (scanI step 0 s l).2) := by
  have h := scanI_B step l 0 s (by omega)
  exact Prod.ext h.1 h.2
theorem scan_at (step : σ → α → Bool × σ) (z : α) (l : List α) (k : Nat) (h : k < l.length) (t : σ) :
    scanI step k t (l.drop k) = if (step t (l.getD (k : Int).toNat z)).1 = true then ((k : Int), (step t (l.getD (k : Int).toNat z)).2) else scanI step ((k + 1 : Nat) : Int) (step t (l.getD (k : Int).toNat z)).2 (l.drop (k + 1)) := by
  rw [List.drop_eq_getElem_cons h]
  simp only [scanI, Int.toNat_natCast, List.getD_eq_getElem?_getD, List.getElem?_eq_getElem h, Option.getD_some]
  rfl
theorem scan_mem (z : α) (l : List α) (k : Nat) (h : k < l.length) : l.getD (k : Int).toNat z ∈ l := by
  simp only [Int.toNat_natCast, List.getD_eq_getElem?_getD, List.getElem?_eq_getElem h, Option.getD_some]
  exact List.getElem_mem h
/-- A test without a state. -/
theorem scanB_any (p : α → Bool) : ∀ (l : List α) (s : Unit), scanB (fun _ x => (p x, ())) s l = (l.any p, ()) := by
  intro l
  induction l with
  | nil => intro s; rfl
  | cons x xs ih =>
    intro s
    simp only [scanB, List.any_cons]
    cases h : p x with
    | true => simp
    | false => simp [ih]
end
end Go.Proofs.Ytfdmfgaiblfbhaa.P
/- A tree's cells gone through, as long as a test says yes: plain words. -/
namespace Go.Proofs.Ytfdmfgaiblfbhaa.P
open Go.RowKit Go.Proofs.YtfdmfgaiblfbhaaW.PrintWords Go.Proofs.YtfdmfgaiblfbhaaW.PrintLast Go.Proofs.YtfdmfgaiblfbhaaW.PrintMore
section
variable {σ : Type} (step : σ → S26 → Bool × σ)
mutual
def allS : S26 → σ → Bool × σ
  | ⟨a, b, d, l⟩, s => if (step s ⟨a, b, d, l⟩).1 = true then noneS l (step s ⟨a, b, d, l⟩).2 else (false, (step s ⟨a, b, d, l⟩).2)
def noneS : List S26 → σ → Bool × σ
  | [], s => (true, s)
  | k :: ks, s => if (allS k s).1 = true then noneS ks (allS k s).2 else (false, (allS k s).2)
end
theorem allS_eq (c : S26) (s : σ) : allS step c s = if (step s c).1 = true then noneS step c.f3 (step s c).2 else (false, (step s c).2) := by cases c; simp [allS]
theorem noneS_nil (s : σ) : noneS step [] s = (true, s) := by simp [noneS]
theorem noneS_cons (k : S26) (ks : List S26) (s : σ) : noneS step (k :: ks) s = if (allS step k s).1 = true then noneS step ks (allS step k s).2 else (false, (allS step k s).2) := by simp [noneS]
theorem scan_none : ∀ (l : List S26) (s : σ), scanB (fun s k => (!(allS step k s).1, (allS step k s).2)) s l = (!(noneS step l s).1, (noneS step l s).2) := by
  intro l
  induction l with
  | nil => intro s; rw [noneS_nil]; rfl
  | cons k ks ih =>
    intro s
    rw [noneS_cons]
    simp only [scanB]
    cases h : (allS step k s).1 with
    | true => simp [ih]
    | false => simp
/-- One cell after the other. -/
def seqS : List S26 → σ → Bool × σ
  | [], s => (true, s)
  | k :: ks, s => if (step s k).1 = true then seqS ks (step s k).2 else (false, (step s k).2)
theorem seqS_app : ∀ (a b : List S26) (s : σ), seqS step (a ++ b) s = if (seqS step a s).1 = true then seqS step b (seqS step a s).2 else (false, (seqS step a s).2) := by
  intro a
  induction a with
  | nil => intro b s; simp [seqS]
  | cons k ks ih =>
    intro b s
    simp only [List.cons_append, seqS]
    by_cases h : (step s k).1 = true
    · simp [h, ih]
    · simp [h]
theorem allS_seq : ∀ (N : Nat), (∀ c : S26, sz c ≤ N → ∀ s, allS step c s = seqS step (allC c) s) ∧ (∀ l : List S26, szL l ≤ N → ∀ s, noneS step l s = seqS step (allL l) s) := by
  intro N
  induction N with
  | zero =>
    refine ⟨fun c h => ?_, fun l h => ?_⟩
    · rw [sz_eq] at h; omega
    · cases l with
      | nil => intro s; rw [noneS_nil, allL_nil]; rfl
      | cons x xs => rw [szL_cons, sz_eq] at h; omega
  | succ N ih =>
    have hC : ∀ c : S26, sz c ≤ N + 1 → ∀ s, allS step c s = seqS step (allC c) s := by
      intro c h s
      rw [sz_eq] at h
      rw [allS_eq, allC_eq]
      simp only [seqS]
      rw [ih.2 c.f3 (by omega)]
    refine ⟨hC, fun l => ?_⟩
    induction l with
    | nil => intro _ s; rw [noneS_nil, allL_nil]; rfl
    | cons x xs ihl =>
      intro h s
      rw [szL_cons] at h
      rw [noneS_cons, allL_cons, seqS_app, hC x (by omega), ihl (by omega)]
end
end Go.Proofs.Ytfdmfgaiblfbhaa.P
namespace Go.Proofs.Ytfdmfgaiblfbhaa.P
open Go.RowKit Go.Proofs.YtfdmfgaiblfbhaaW.PrintWords Go.Proofs.YtfdmfgaiblfbhaaW.PrintLast Go.Proofs.YtfdmfgaiblfbhaaW.PrintMore
attribute [local go_sem] max2_int min2_int max_two min_two max_three min_three max_four min_four   -- for this text's walks alone
set_option linter.unusedVariables false
set_option linter.unusedSimpArgs false

/-! ### rect_may: function 128 -/
def rect_may.f (a0_0 : Int) (a0_1 : Int) (a0_2 : Int) (a0_3 : Int) : Option (Bool) := if a0_0 ≥ 0 then (if a0_2 ≥ 1 then (if a0_2 ≤ 10000 then (if a0_0 ≤ (wrap64 (10000 - a0_2)) then (if a0_1 ≥ 0 then (if a0_3 ≥ 1 then (if a0_3 ≤ 10000 then (some (decide (a0_1 ≤ (wrap64 (10000 - a0_3))))) else (some false)) else (some false)) else (some false)) else (some false)) else (some false)) else (some false)) else (some false)
set_option maxHeartbeats 8000000 in
set_option maxRecDepth 100000 in
theorem rect_may.calls (a0_0 : Int) (a0_1 : Int) (a0_2 : Int) (a0_3 : Int) (r : Bool) (w : World) (h : rect_may.f a0_0 a0_1 a0_2 a0_3 = some r) :
  Calls Try.prog 128 #[.agg #[.int .i64 a0_0, .int .i64 a0_1, .int .i64 a0_2, .int .i64 a0_3]] w fun e w' => e = .returned (.bool r) ∧ Below w.heap.size w w' := by
 have hu23 := Try.underlying23
 have HB := Aside0.mk (Below.refl w.heap.size w)
 have H : (if a0_0 ≥ 0 then (if a0_2 ≥ 1 then (if a0_2 ≤ 10000 then (if a0_0 ≤ (wrap64 (10000 - a0_2)) then (if a0_1 ≥ 0 then (if a0_3 ≥ 1 then (if a0_3 ≤ 10000 then (some (decide (a0_1 ≤ (wrap64 (10000 - a0_3))))) else (some false)) else (some false)) else (some false)) else (some false)) else (some false)) else (some false)) else (some false)) = some r := h
 clear h
 by_cases c2 : a0_0 ≥ 0
 ·rw [if_pos c2] at H
  have c2b0 : decide (0 ≤ a0_0) = true := decide_eq_true c2
  clear c2
  by_cases c3 : a0_2 ≥ 1
  ·rw [if_pos c3] at H
   have c3b0 : decide (1 ≤ a0_2) = true := decide_eq_true c3
   clear c3
   by_cases c4 : a0_2 ≤ 10000
   ·rw [if_pos c4] at H
    have c4b0 : decide (a0_2 ≤ 10000) = true := decide_eq_true c4
    clear c4
    by_cases c5 : a0_0 ≤ (wrap64 (10000 - a0_2))
    ·rw [if_pos c5] at H
     have c5b0 : decide (a0_0 ≤ (wrap64 (10000 - a0_2))) = true := decide_eq_true c5
     clear c5
     by_cases c6 : a0_1 ≥ 0
     ·rw [if_pos c6] at H
      have c6b0 : decide (0 ≤ a0_1) = true := decide_eq_true c6
      clear c6
      by_cases c7 : a0_3 ≥ 1
      ·rw [if_pos c7] at H
       have c7b0 : decide (1 ≤ a0_3) = true := decide_eq_true c7
       clear c7
       by_cases c8 : a0_3 ≤ 10000
       ·rw [if_pos c8] at H
        have c8b0 : decide (a0_3 ≤ 10000) = true := decide_eq_true c8
        clear c8
        obtain rfl := Option.some.inj H
        go_enter Try.func128, Try.ntmps128
        go_wp2_with (((with_reducible refine gate_dst (N := 1) rfl ?_); refine box_event ?hg (N := 1) ?hd (cs := #[.int .i64 a0_0, .int .i64 a0_1, .int .i64 a0_2, .int .i64 a0_3]) (t := 23) ?hr ?_; (case hd => rfl); (case hg => rfl); (case hr => (go_simp; done)); intro gb245 hg w9 hbox hb; have BK245 := Aside0.mk (hbox); replace HB := Aside0.mk (below_step (by repeat ((with_reducible exact HB.out))) hb); clear hb hbox hg; have hcz10_0 : w9.cell? ⟨gb245, 0, none⟩ = some (.int .i64 a0_0) := (blk_cell BK245.out 0).trans rfl; have hcz10_1 : w9.cell? ⟨gb245, 1, none⟩ = some (.int .i64 a0_1) := (blk_cell BK245.out 1).trans rfl; have hcz10_2 : w9.cell? ⟨gb245, 2, none⟩ = some (.int .i64 a0_2) := (blk_cell BK245.out 2).trans rfl; have hcz10_3 : w9.cell? ⟨gb245, 3, none⟩ = some (.int .i64 a0_3) := (blk_cell BK245.out 3).trans rfl; have hfz10_0 := blk_frozen BK245.out 0; have hfz10_1 := blk_frozen BK245.out 1; have hfz10_2 := blk_frozen BK245.out 2; have hfz10_3 := blk_frozen BK245.out 3))
        go_ret
        exact ⟨by rfl, by repeat ((with_reducible exact HB.out))⟩
       ·rw [if_neg c8] at H
        have c8b0 : decide (a0_3 ≤ 10000) = false := decide_eq_false c8
        clear c8
        obtain rfl := Option.some.inj H
        go_enter Try.func128, Try.ntmps128
        go_wp2_with (((with_reducible refine gate_dst (N := 1) rfl ?_); refine box_event ?hg (N := 1) ?hd (cs := #[.int .i64 a0_0, .int .i64 a0_1, .int .i64 a0_2, .int .i64 a0_3]) (t := 23) ?hr ?_; (case hd => rfl); (case hg => rfl); (case hr => (go_simp; done)); intro gb245 hg w11 hbox hb; have BK245 := Aside0.mk (hbox); replace HB := Aside0.mk (below_step (by repeat ((with_reducible exact HB.out))) hb); clear hb hbox hg; have hcz12_0 : w11.cell? ⟨gb245, 0, none⟩ = some (.int .i64 a0_0) := (blk_cell BK245.out 0).trans rfl; have hcz12_1 : w11.cell? ⟨gb245, 1, none⟩ = some (.int .i64 a0_1) := (blk_cell BK245.out 1).trans rfl; have hcz12_2 : w11.cell? ⟨gb245, 2, none⟩ = some (.int .i64 a0_2) := (blk_cell BK245.out 2).trans rfl; have hcz12_3 : w11.cell? ⟨gb245, 3, none⟩ = some (.int .i64 a0_3) := (blk_cell BK245.out 3).trans rfl; have hfz12_0 := blk_frozen BK245.out 0; have hfz12_1 := blk_frozen BK245.out 1; have hfz12_2 := blk_frozen BK245.out 2; have hfz12_3 := blk_frozen BK245.out 3))
        go_ret
        exact ⟨by rfl, by repeat ((with_reducible exact HB.out))⟩
      ·rw [if_neg c7] at H
       have c7b0 : decide (1 ≤ a0_3) = false := decide_eq_false c7
       clear c7
       obtain rfl := Option.some.inj H
       go_enter Try.func128, Try.ntmps128
       go_wp2_with (((with_reducible refine gate_dst (N := 1) rfl ?_); refine box_event ?hg (N := 1) ?hd (cs := #[.int .i64 a0_0, .int .i64 a0_1, .int .i64 a0_2, .int .i64 a0_3]) (t := 23) ?hr ?_; (case hd => rfl); (case hg => rfl); (case hr => (go_simp; done)); intro gb245 hg w13 hbox hb; have BK245 := Aside0.mk (hbox); replace HB := Aside0.mk (below_step (by repeat ((with_reducible exact HB.out))) hb); clear hb hbox hg; have hcz14_0 : w13.cell? ⟨gb245, 0, none⟩ = some (.int .i64 a0_0) := (blk_cell BK245.out 0).trans rfl; have hcz14_1 : w13.cell? ⟨gb245, 1, none⟩ = some (.int .i64 a0_1) := (blk_cell BK245.out 1).trans rfl; have hcz14_2 : w13.cell? ⟨gb245, 2, none⟩ = some (.int .i64 a0_2) := (blk_cell BK245.out 2).trans rfl; have hcz14_3 : w13.cell? ⟨gb245, 3, none⟩ = some (.int .i64 a0_3) := (blk_cell BK245.out 3).trans rfl; have hfz14_0 := blk_frozen BK245.out 0; have hfz14_1 := blk_frozen BK245.out 1; have hfz14_2 := blk_frozen BK245.out 2; have hfz14_3 := blk_frozen BK245.out 3))
       go_ret
       exact ⟨by rfl, by repeat ((with_reducible exact HB.out))⟩
     ·rw [if_neg c6] at H
      have c6b0 : decide (0 ≤ a0_1) = false := decide_eq_false c6
      clear c6
      obtain rfl := Option.some.inj H
      go_enter Try.func128, Try.ntmps128
      go_wp2_with (((with_reducible refine gate_dst (N := 1) rfl ?_); refine box_event ?hg (N := 1) ?hd (cs := #[.int .i64 a0_0, .int .i64 a0_1, .int .i64 a0_2, .int .i64 a0_3]) (t := 23) ?hr ?_; (case hd => rfl); (case hg => rfl); (case hr => (go_simp; done)); intro gb245 hg w15 hbox hb; have BK245 := Aside0.mk (hbox); replace HB := Aside0.mk (below_step (by repeat ((with_reducible exact HB.out))) hb); clear hb hbox hg; have hcz16_0 : w15.cell? ⟨gb245, 0, none⟩ = some (.int .i64 a0_0) := (blk_cell BK245.out 0).trans rfl; have hcz16_1 : w15.cell? ⟨gb245, 1, none⟩ = some (.int .i64 a0_1) := (blk_cell BK245.out 1).trans rfl; have hcz16_2 : w15.cell? ⟨gb245, 2, none⟩ = some (.int .i64 a0_2) := (blk_cell BK245.out 2).trans rfl; have hcz16_3 : w15.cell? ⟨gb245, 3, none⟩ = some (.int .i64 a0_3) := (blk_cell BK245.out 3).trans rfl; have hfz16_0 := blk_frozen BK245.out 0; have hfz16_1 := blk_frozen BK245.out 1; have hfz16_2 := blk_frozen BK245.out 2; have hfz16_3 := blk_frozen BK245.out 3))
      go_ret
      exact ⟨by rfl, by repeat ((with_reducible exact HB.out))⟩
    ·rw [if_neg c5] at H
     have c5b0 : decide (a0_0 ≤ (wrap64 (10000 - a0_2))) = false := decide_eq_false c5
     clear c5
     obtain rfl := Option.some.inj H
     go_enter Try.func128, Try.ntmps128
     go_wp2_with (((with_reducible refine gate_dst (N := 1) rfl ?_); refine box_event ?hg (N := 1) ?hd (cs := #[.int .i64 a0_0, .int .i64 a0_1, .int .i64 a0_2, .int .i64 a0_3]) (t := 23) ?hr ?_; (case hd => rfl); (case hg => rfl); (case hr => (go_simp; done)); intro gb245 hg w17 hbox hb; have BK245 := Aside0.mk (hbox); replace HB := Aside0.mk (below_step (by repeat ((with_reducible exact HB.out))) hb); clear hb hbox hg; have hcz18_0 : w17.cell? ⟨gb245, 0, none⟩ = some (.int .i64 a0_0) := (blk_cell BK245.out 0).trans rfl; have hcz18_1 : w17.cell? ⟨gb245, 1, none⟩ = some (.int .i64 a0_1) := (blk_cell BK245.out 1).trans rfl; have hcz18_2 : w17.cell? ⟨gb245, 2, none⟩ = some (.int .i64 a0_2) := (blk_cell BK245.out 2).trans rfl; have hcz18_3 : w17.cell? ⟨gb245, 3, none⟩ = some (.int .i64 a0_3) := (blk_cell BK245.out 3).trans rfl; have hfz18_0 := blk_frozen BK245.out 0; have hfz18_1 := blk_frozen BK245.out 1; have hfz18_2 := blk_frozen BK245.out 2; have hfz18_3 := blk_frozen BK245.out 3))
     go_ret
     exact ⟨by rfl, by repeat ((with_reducible exact HB.out))⟩
   ·rw [if_neg c4] at H
    have c4b0 : decide (a0_2 ≤ 10000) = false := decide_eq_false c4
    clear c4
    obtain rfl := Option.some.inj H
    go_enter Try.func128, Try.ntmps128
    go_wp2_with (((with_reducible refine gate_dst (N := 1) rfl ?_); refine box_event ?hg (N := 1) ?hd (cs := #[.int .i64 a0_0, .int .i64 a0_1, .int .i64 a0_2, .int .i64 a0_3]) (t := 23) ?hr ?_; (case hd => rfl); (case hg => rfl); (case hr => (go_simp; done)); intro gb245 hg w19 hbox hb; have BK245 := Aside0.mk (hbox); replace HB := Aside0.mk (below_step (by repeat ((with_reducible exact HB.out))) hb); clear hb hbox hg; have hcz20_0 : w19.cell? ⟨gb245, 0, none⟩ = some (.int .i64 a0_0) := (blk_cell BK245.out 0).trans rfl; have hcz20_1 : w19.cell? ⟨gb245, 1, none⟩ = some (.int .i64 a0_1) := (blk_cell BK245.out 1).trans rfl; have hcz20_2 : w19.cell? ⟨gb245, 2, none⟩ = some (.int .i64 a0_2) := (blk_cell BK245.out 2).trans rfl; have hcz20_3 : w19.cell? ⟨gb245, 3, none⟩ = some (.int .i64 a0_3) := (blk_cell BK245.out 3).trans rfl; have hfz20_0 := blk_frozen BK245.out 0; have hfz20_1 := blk_frozen BK245.out 1; have hfz20_2 := blk_frozen BK245.out 2; have hfz20_3 := blk_frozen BK245.out 3))
    go_ret
    exact ⟨by rfl, by repeat ((with_reducible exact HB.out))⟩
  ·rw [if_neg c3] at H
   have c3b0 : decide (1 ≤ a0_2) = false := decide_eq_false c3
   clear c3
   obtain rfl := Option.some.inj H
   go_enter Try.func128, Try.ntmps128
   go_wp2_with (((with_reducible refine gate_dst (N := 1) rfl ?_); refine box_event ?hg (N := 1) ?hd (cs := #[.int .i64 a0_0, .int .i64 a0_1, .int .i64 a0_2, .int .i64 a0_3]) (t := 23) ?hr ?_; (case hd => rfl); (case hg => rfl); (case hr => (go_simp; done)); intro gb245 hg w21 hbox hb; have BK245 := Aside0.mk (hbox); replace HB := Aside0.mk (below_step (by repeat ((with_reducible exact HB.out))) hb); clear hb hbox hg; have hcz22_0 : w21.cell? ⟨gb245, 0, none⟩ = some (.int .i64 a0_0) := (blk_cell BK245.out 0).trans rfl; have hcz22_1 : w21.cell? ⟨gb245, 1, none⟩ = some (.int .i64 a0_1) := (blk_cell BK245.out 1).trans rfl; have hcz22_2 : w21.cell? ⟨gb245, 2, none⟩ = some (.int .i64 a0_2) := (blk_cell BK245.out 2).trans rfl; have hcz22_3 : w21.cell? ⟨gb245, 3, none⟩ = some (.int .i64 a0_3) := (blk_cell BK245.out 3).trans rfl; have hfz22_0 := blk_frozen BK245.out 0; have hfz22_1 := blk_frozen BK245.out 1; have hfz22_2 := blk_frozen BK245.out 2; have hfz22_3 := blk_frozen BK245.out 3))
   go_ret
   exact ⟨by rfl, by repeat ((with_reducible exact HB.out))⟩
 ·rw [if_neg c2] at H
  have c2b0 : decide (0 ≤ a0_0) = false := decide_eq_false c2
  clear c2
  obtain rfl := Option.some.inj H
  go_enter Try.func128, Try.ntmps128
  go_wp2_with (((with_reducible refine gate_dst (N := 1) rfl ?_); refine box_event ?hg (N := 1) ?hd (cs := #[.int .i64 a0_0, .int .i64 a0_1, .int .i64 a0_2, .int .i64 a0_3]) (t := 23) ?hr ?_; (case hd => rfl); (case hg => rfl); (case hr => (go_simp; done)); intro gb245 hg w23 hbox hb; have BK245 := Aside0.mk (hbox); replace HB := Aside0.mk (below_step (by repeat ((with_reducible exact HB.out))) hb); clear hb hbox hg; have hcz24_0 : w23.cell? ⟨gb245, 0, none⟩ = some (.int .i64 a0_0) := (blk_cell BK245.out 0).trans rfl; have hcz24_1 : w23.cell? ⟨gb245, 1, none⟩ = some (.int .i64 a0_1) := (blk_cell BK245.out 1).trans rfl; have hcz24_2 : w23.cell? ⟨gb245, 2, none⟩ = some (.int .i64 a0_2) := (blk_cell BK245.out 2).trans rfl; have hcz24_3 : w23.cell? ⟨gb245, 3, none⟩ = some (.int .i64 a0_3) := (blk_cell BK245.out 3).trans rfl; have hfz24_0 := blk_frozen BK245.out 0; have hfz24_1 := blk_frozen BK245.out 1; have hfz24_2 := blk_frozen BK245.out 2; have hfz24_3 := blk_frozen BK245.out 3))
  go_ret
  exact ⟨by rfl, by repeat ((with_reducible exact HB.out))⟩

end Go.Proofs.Ytfdmfgaiblfbhaa.P
/- May a rectangle be: plain words. -/
namespace Go.Proofs.Ytfdmfgaiblfbhaa.P
open Go.RowKit Go.Proofs.YtfdmfgaiblfbhaaW.PrintWords Go.Proofs.YtfdmfgaiblfbhaaW.PrintLast Go.Proofs.YtfdmfgaiblfbhaaW.PrintMore

theorem wq {x : Int} (h0 : -9223372036854775808 ≤ x) (h1 : x ≤ 9223372036854775807) : wrap64 x = x := by unfold wrap64; omega
theorem ev_pos {α : Type} {c : Prop} [Decidable c] {g f : Nat → Option α} {r : α} (hc : c) (h : Ev g r) : Ev (fun k => if c then g k else f k) r := by simp only [if_pos hc]; exact h
theorem ev_neg {α : Type} {c : Prop} [Decidable c] {g f : Nat → Option α} {r : α} (hc : ¬c) (h : Ev f r) : Ev (fun k => if c then g k else f k) r := by simp only [if_neg hc]; exact h
theorem ev_some {α : Type} {g : Nat → Option α} {r : α} (h : ∀ k, g k = some r) : Ev g r := ⟨0, fun k _ => h k⟩
theorem rd_in (pre : List Int) (p : Int) (rest : List Int) : rd (pre ++ p :: rest) (pre.length : Int) = p := by
  simp [rd, List.getD_eq_getElem?_getD]

/-- May a rectangle be? -/
def mayB (X Y W H : Int) : Bool := decide (0 ≤ X ∧ 1 ≤ W ∧ W ≤ 10000 ∧ X + W ≤ 10000 ∧ 0 ≤ Y ∧ 1 ≤ H ∧ H ≤ 10000 ∧ Y + H ≤ 10000)
theorem may_iff {X Y W H : Int} : mayB X Y W H = true ↔ (0 ≤ X ∧ 1 ≤ W ∧ W ≤ 10000 ∧ X + W ≤ 10000 ∧ 0 ≤ Y ∧ 1 ≤ H ∧ H ≤ 10000 ∧ Y + H ≤ 10000) := by unfold mayB; rw [decide_eq_true_iff]
theorem may_some (X Y W H : Int) : rect_may.f X Y W H = some (mayB X Y W H) := by
  unfold rect_may.f mayB
  by_cases h1 : X ≥ 0
  · by_cases h2 : W ≥ 1
    · by_cases h3 : W ≤ 10000
      · rw [if_pos h1, if_pos h2, if_pos h3, wq (x := 10000 - W) (by omega) (by omega)]
        by_cases h4 : X ≤ 10000 - W
        · rw [if_pos h4]
          by_cases h5 : Y ≥ 0
          · by_cases h6 : H ≥ 1
            · by_cases h7 : H ≤ 10000
              · rw [if_pos h5, if_pos h6, if_pos h7, wq (x := 10000 - H) (by omega) (by omega)]
                congr 1
                rw [decide_eq_decide]
                omega
              · rw [if_pos h5, if_pos h6, if_neg h7, decide_eq_false (by omega)]
            · rw [if_pos h5, if_neg h6, decide_eq_false (by omega)]
          · rw [if_neg h5, decide_eq_false (by omega)]
        · rw [if_neg h4, decide_eq_false (by omega)]
      · rw [if_pos h1, if_pos h2, if_neg h3, decide_eq_false (by omega)]
    · rw [if_pos h1, if_neg h2, decide_eq_false (by omega)]
  · rw [if_neg h1, decide_eq_false (by omega)]
theorem refmay_some (X Y W H : Int) : sashref04_May.f X Y W H = some (mayB X Y W H) := by
  unfold sashref04_May.f mayB
  by_cases h1 : X < 0
  · rw [if_pos h1, decide_eq_false (by omega)]
  · rw [if_neg h1]
    by_cases h2 : X > 10000
    · rw [if_pos h2, decide_eq_false (by omega)]
    · rw [if_neg h2]
      by_cases h3 : Y < 0
      · rw [if_pos h3, decide_eq_false (by omega)]
      · rw [if_neg h3]
        by_cases h4 : Y > 10000
        · rw [if_pos h4, decide_eq_false (by omega)]
        · rw [if_neg h4]
          by_cases h5 : W > 0
          · by_cases h6 : W ≤ 10000
            · by_cases h7 : H > 0
              · by_cases h8 : H ≤ 10000
                · rw [if_pos h5, if_pos h6, if_pos h7, if_pos h8, wq (x := X + W) (by omega) (by omega), wq (x := Y + H) (by omega) (by omega)]
                  by_cases h9 : X + W ≤ 10000
                  · rw [if_pos h9]
                    congr 1
                    rw [decide_eq_decide]
                    omega
                  · rw [if_neg h9, decide_eq_false (by omega)]
                · rw [if_pos h5, if_pos h6, if_pos h7, if_neg h8, decide_eq_false (by omega)]
              · rw [if_pos h5, if_pos h6, if_neg h7, decide_eq_false (by omega)]
            · rw [if_pos h5, if_neg h6, decide_eq_false (by omega)]
          · rw [if_neg h5, decide_eq_false (by omega)]

def mayR (r : S23) : Bool := mayB r.f0 r.f1 r.f2 r.f3
end Go.Proofs.Ytfdmfgaiblfbhaa.P
