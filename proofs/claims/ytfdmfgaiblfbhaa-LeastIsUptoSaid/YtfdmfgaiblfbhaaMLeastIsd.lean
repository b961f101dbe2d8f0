/- LeastIs: part 4 of 7 of this claim's texts, one behind the other. The words of the kit's printer stand in it cut down, by a program, to those that are used. -/
import Derived.Test.YtfdmfgaiblfbhaaMLeastIsc
import Derived.ProofKit
import Derived.Deep.Slices
import Derived.Lib.SmallJoins
import Derived.OpenShut
import Derived.WalkSpells
namespace Go.Proofs.Ytfdmfgaiblfbhaa.P
open Go.RowKit Go.Proofs.YtfdmfgaiblfbhaaW.PrintWords Go.Proofs.YtfdmfgaiblfbhaaW.PrintLast Go.Proofs.YtfdmfgaiblfbhaaW.PrintMore
attribute [local go_sem] max2_int min2_int max_two min_two max_three min_three max_four min_four   -- for this text's walks alone
set_option linter.unusedVariables false
set_option linter.unusedSimpArgs false

/-! ### sashref04_Cut: function 46 -/
mutual
def sashref04_Cut.j0 : Nat → Int → List Int → List (S23) → Bool → Int → Int → Int → Int → Option ((List (S23)) × (List (S23)) × Bool)
 | 0, _, _, _, _, _, _, _, _ => none
 | k + 1, x1, x2, x9, x31, x295000, x295001, x295002, x295003 => if x31 = true then (some (x9, x9, false)) else (if x1 = 2 then (sashref04_Cut.j1 k x1 x2 x9 x295003 x295000 x295001 x295002 x295003) else (sashref04_Cut.j1 k x1 x2 x9 x295002 x295000 x295001 x295002 x295003))
def sashref04_Cut.j1 : Nat → Int → List Int → List (S23) → Int → Int → Int → Int → Int → Option ((List (S23)) × (List (S23)) × Bool)
 | 0, _, _, _, _, _, _, _, _ => none
 | k + 1, x1, x2, x9, x10, x295000, x295001, x295002, x295003 => sashref04_Cut.l0 k x1 x2 x9 x10 (([] : List (S23))) (([] : List (S23))) 0 (x2.length : Int) 0 x295000 x295001 x295002 x295003
def sashref04_Cut.l0 : Nat → Int → List Int → List (S23) → Int → List (S23) → List (S23) → Int → Int → Int → Int → Int → Int → Int → Option ((List (S23)) × (List (S23)) × Bool)
 | 0, _, _, _, _, _, _, _, _, _, _, _, _, _ => none
 | k + 1, x1, x2, x9, x10, x11, x12, x13, x43, x44, x295000, x295001, x295002, x295003 => if x44 < x43 then (if x44 > 0 then (if x1 = 1 then (if x12.length < 4398046511104 then (sashref04_Cut.j3 k x1 x2 x9 x10 x11 (x12 ++ [(⟨wrap64 (x295000 + x13), x295001, 1, x295003⟩ : S23)]) (wrap64 (x13 + 1)) x44 x43 x44 x295000 x295001 x295002 x295003) else (none)) else (if x12.length < 4398046511104 then (sashref04_Cut.j3 k x1 x2 x9 x10 x11 (x12 ++ [(⟨x295000, wrap64 (x295001 + x13), x295002, 1⟩ : S23)]) (wrap64 (x13 + 1)) x44 x43 x44 x295000 x295001 x295002 x295003) else (none))) else (sashref04_Cut.j3 k x1 x2 x9 x10 x11 x12 x13 x44 x43 x44 x295000 x295001 x295002 x295003)) else (if x13 = x10 then (some (x11, x12, true)) else (some (x9, x9, false)))
def sashref04_Cut.j3 : Nat → Int → List Int → List (S23) → Int → List (S23) → List (S23) → Int → Int → Int → Int → Int → Int → Int → Int → Option ((List (S23)) × (List (S23)) × Bool)
 | 0, _, _, _, _, _, _, _, _, _, _, _, _, _, _ => none
 | k + 1, x1, x2, x9, x10, x11, x12, x13, x14, x43, x44, x295000, x295001, x295002, x295003 => if 0 ≤ x14 then (if x14 < (x2.length : Int) then (if (rd x2 x14) < 1 then (sashref04_Cut.j4 k x1 x2 x9 x10 x11 x12 x13 x14 x43 x44 true x295000 x295001 x295002 x295003) else (if (rd x2 x14) > x10 then (sashref04_Cut.j4 k x1 x2 x9 x10 x11 x12 x13 x14 x43 x44 true x295000 x295001 x295002 x295003) else (sashref04_Cut.j4 k x1 x2 x9 x10 x11 x12 x13 x14 x43 x44 (decide ((wrap64 (x13 + (rd x2 x14))) > x10)) x295000 x295001 x295002 x295003))) else (none)) else (none)
def sashref04_Cut.j4 : Nat → Int → List Int → List (S23) → Int → List (S23) → List (S23) → Int → Int → Int → Int → Bool → Int → Int → Int → Int → Option ((List (S23)) × (List (S23)) × Bool)
 | 0, _, _, _, _, _, _, _, _, _, _, _, _, _, _, _ => none
 | k + 1, x1, x2, x9, x10, x11, x12, x13, x14, x43, x44, x99, x295000, x295001, x295002, x295003 => if x99 = true then (some (x9, x9, false)) else (if x1 = 1 then (if 0 ≤ x14 then (if x14 < (x2.length : Int) then (if x11.length < 4398046511104 then (sashref04_Cut.l0 k x1 x2 x9 x10 (x11 ++ [(⟨wrap64 (x295000 + x13), x295001, rd x2 x14, x295003⟩ : S23)]) x12 (wrap64 (x13 + (rd x2 x14))) x43 (wrap64 (x44 + 1)) x295000 x295001 x295002 x295003) else (none)) else (none)) else (none)) else (if 0 ≤ x14 then (if x14 < (x2.length : Int) then (if x11.length < 4398046511104 then (sashref04_Cut.l0 k x1 x2 x9 x10 (x11 ++ [(⟨x295000, wrap64 (x295001 + x13), x295002, rd x2 x14⟩ : S23)]) x12 (wrap64 (x13 + (rd x2 x14))) x43 (wrap64 (x44 + 1)) x295000 x295001 x295002 x295003) else (none)) else (none)) else (none)))
end
def sashref04_Cut.f (k : Nat) (a0_0 : Int) (a0_1 : Int) (a0_2 : Int) (a0_3 : Int) (a1 : Int) (l2 : List Int) : Option ((List (S23)) × (List (S23)) × Bool) := (some (([] : List (S23)) : List (S23))).bind fun y295 => ((sashref04_May.f a0_0 a0_1 a0_2 a0_3).bind fun t298 => (if t298 = true then (if a1 < 1 then (sashref04_Cut.j0 k a1 l2 y295 true a0_0 a0_1 a0_2 a0_3) else (if a1 > 2 then (sashref04_Cut.j0 k a1 l2 y295 true a0_0 a0_1 a0_2 a0_3) else (sashref04_Cut.j0 k a1 l2 y295 ((l2.length : Int) == 0) a0_0 a0_1 a0_2 a0_3))) else (sashref04_Cut.j0 k a1 l2 y295 true a0_0 a0_1 a0_2 a0_3)))
theorem sashref04_Cut.mono_l : ∀ k, (∀ y0 y1 y2 y3 y4 y5 y6 y7, LeO (sashref04_Cut.j0 k y0 y1 y2 y3 y4 y5 y6 y7) (sashref04_Cut.j0 (k + 1) y0 y1 y2 y3 y4 y5 y6 y7)) ∧ (∀ y0 y1 y2 y3 y4 y5 y6 y7, LeO (sashref04_Cut.j1 k y0 y1 y2 y3 y4 y5 y6 y7) (sashref04_Cut.j1 (k + 1) y0 y1 y2 y3 y4 y5 y6 y7)) ∧ (∀ y0 y1 y2 y3 y4 y5 y6 y7 y8 y9 y10 y11 y12, LeO (sashref04_Cut.l0 k y0 y1 y2 y3 y4 y5 y6 y7 y8 y9 y10 y11 y12) (sashref04_Cut.l0 (k + 1) y0 y1 y2 y3 y4 y5 y6 y7 y8 y9 y10 y11 y12)) ∧ (∀ y0 y1 y2 y3 y4 y5 y6 y7 y8 y9 y10 y11 y12 y13, LeO (sashref04_Cut.j3 k y0 y1 y2 y3 y4 y5 y6 y7 y8 y9 y10 y11 y12 y13) (sashref04_Cut.j3 (k + 1) y0 y1 y2 y3 y4 y5 y6 y7 y8 y9 y10 y11 y12 y13)) ∧ (∀ y0 y1 y2 y3 y4 y5 y6 y7 y8 y9 y10 y11 y12 y13 y14, LeO (sashref04_Cut.j4 k y0 y1 y2 y3 y4 y5 y6 y7 y8 y9 y10 y11 y12 y13 y14) (sashref04_Cut.j4 (k + 1) y0 y1 y2 y3 y4 y5 y6 y7 y8 y9 y10 y11 y12 y13 y14))
 | 0 => ⟨fun _ _ _ _ _ _ _ _ r h => by simp [sashref04_Cut.j0] at h, fun _ _ _ _ _ _ _ _ r h => by simp [sashref04_Cut.j1] at h, fun _ _ _ _ _ _ _ _ _ _ _ _ _ r h => by simp [sashref04_Cut.l0] at h, fun _ _ _ _ _ _ _ _ _ _ _ _ _ _ r h => by simp [sashref04_Cut.j3] at h, fun _ _ _ _ _ _ _ _ _ _ _ _ _ _ _ r h => by simp [sashref04_Cut.j4] at h⟩
 | k + 1 => by
  obtain ⟨ih0, ih1, ih2, ih3, ih4⟩ := sashref04_Cut.mono_l k
  refine ⟨?_, ?_, ?_, ?_, ?_⟩
  ·intro y0 y1 y2 y3 y4 y5 y6 y7
   unfold sashref04_Cut.j0
   repeat' first | (with_reducible exact ih1 _ _ _ _ _ _ _ _) | (with_reducible exact LeO.refl _) | (with_reducible refine LeO.ite ?_ ?_)
  ·intro y0 y1 y2 y3 y4 y5 y6 y7
   unfold sashref04_Cut.j1
   repeat' (with_reducible exact ih2 _ _ _ _ _ _ _ _ _ _ _ _ _)
  ·intro y0 y1 y2 y3 y4 y5 y6 y7 y8 y9 y10 y11 y12
   unfold sashref04_Cut.l0
   repeat' first | (with_reducible exact ih3 _ _ _ _ _ _ _ _ _ _ _ _ _ _) | (with_reducible exact LeO.refl _) | (with_reducible refine LeO.ite ?_ ?_)
  ·intro y0 y1 y2 y3 y4 y5 y6 y7 y8 y9 y10 y11 y12 y13
   unfold sashref04_Cut.j3
   repeat' first | (with_reducible exact ih4 _ _ _ _ _ _ _ _ _ _ _ _ _ _ _) | (with_reducible exact LeO.refl _) | (with_reducible refine LeO.ite ?_ ?_)
  ·intro y0 y1 y2 y3 y4 y5 y6 y7 y8 y9 y10 y11 y12 y13 y14
   unfold sashref04_Cut.j4
   repeat' first | (with_reducible exact ih2 _ _ _ _ _ _ _ _ _ _ _ _ _) | (with_reducible exact LeO.refl _) | (with_reducible refine LeO.ite ?_ ?_)
theorem sashref04_Cut.mono : ∀ a0 a1 a2 a3 a4 a5 k, LeO (sashref04_Cut.f k a0 a1 a2 a3 a4 a5) (sashref04_Cut.f (k + 1) a0 a1 a2 a3 a4 a5) := by
 intro a0 a1 a2 a3 a4 a5 k
 obtain ⟨ih0, ih1, ih2, ih3, ih4⟩ := sashref04_Cut.mono_l k
 unfold sashref04_Cut.f
 repeat' first | (with_reducible exact ih0 _ _ _ _ _ _ _ _) | (with_reducible exact LeO.refl _) | (with_reducible refine LeO.ite ?_ ?_) | (with_reducible refine LeO.bind ?_ (fun _ => ?_))
def sashref04_Cut.T20 : Bool × List (List Nat × List Nat) := (true, [([], []), ([], []), ([1], [1]), ([], []), ([2, 3], [2, 3]), ([], []), ([5], [5]), ([], []), ([], []), ([7, 8], [7, 8]), ([9], [9]), ([], []), ([11], [11]), ([4, 6, 10, 12], [4, 6, 10, 12]), ([13], [13]), ([0, 14], [0, 14]), ([15, 15, 0, 1, 2, 3, 4, 5, 6, 7, 8, 9, 10, 11, 12, 13, 14, 15], [0, 15])])
def sashref04_Cut.B20 : List Nat := [0, 0, 2, 0, 14, 0, 32, 0, 0, 384, 896, 0, 2048, 8190, 16382, 32767, 65535]
theorem sashref04_Cut.tab20 : rtab .any (opsOf Try.f46 20) = sashref04_Cut.T20 := by kernel_rfl
theorem sashref04_Cut.bits20 : waitsOk sashref04_Cut.T20.2 sashref04_Cut.B20 = true := by kernel_rfl
def sashref04_Cut.T21 : Bool × List (List Nat × List Nat) := (true, [([], []), ([], []), ([1], [1]), ([], []), ([3], [3]), ([], []), ([4, 5], [4, 5]), ([], []), ([7], [7]), ([], []), ([], []), ([9, 10], [9, 10]), ([11], [11]), ([2, 6, 8, 12], [2, 6, 8, 12]), ([13], [13]), ([0, 14], [0, 14]), ([15, 15, 0, 1, 2, 3, 4, 5, 6, 7, 8, 9, 10, 11, 12, 13, 14, 15], [0, 15])])
def sashref04_Cut.B21 : List Nat := [0, 0, 2, 0, 8, 0, 56, 0, 128, 0, 0, 1536, 3584, 8190, 16382, 32767, 65535]
theorem sashref04_Cut.tab21 : rtab .any (opsOf Try.f46 21) = sashref04_Cut.T21 := by kernel_rfl
theorem sashref04_Cut.bits21 : waitsOk sashref04_Cut.T21.2 sashref04_Cut.B21 = true := by kernel_rfl
set_option maxHeartbeats 8000000 in
set_option maxRecDepth 100000 in
theorem sashref04_Cut.calls (k : Nat) (a0_0 : Int) (a0_1 : Int) (a0_2 : Int) (a0_3 : Int) (a1 : Int) (A2 : Option Addr) (c2 : Nat) (l2 : List Int) (r1 : List (S23)) (r2 : List (S23)) (r3 : Bool) (w : World) (hr2 : Kd.C (Kd.int .i64) w A2 l2.length l2) (hc2 : l2.length ≤ c2) (h : sashref04_Cut.f k a0_0 a0_1 a0_2 a0_3 a1 l2 = some (r1, r2, r3)) :
  Calls Try.prog 46 #[.agg #[.int .i64 a0_0, .int .i64 a0_1, .int .i64 a0_2, .int .i64 a0_3], .int .u8 a1, .slice A2 l2.length c2] w fun e w' => ∃ v0_ v1_ : Value, e = .returned (.tuple #[v0_, v1_, .bool r3]) ∧ Kd.V k23 23 w' w.heap.size (fun k_ => (w.heap.size ≤ k_)) v0_ r1 ∧ Kd.V k23 23 w' w.heap.size (fun k_ => (w.heap.size ≤ k_)) v1_ r2 ∧ Below w.heap.size w w' := by
 have hu23 := Try.underlying23
 have HR2 := Aside0.mk hr2
 clear hr2 hc2
 have HB := Aside0.mk (Below.refl w.heap.size w)
 have H : ((some (([] : List (S23)) : List (S23))).bind fun y295 => ((sashref04_May.f a0_0 a0_1 a0_2 a0_3).bind fun t298 => (if t298 = true then (if a1 < 1 then (sashref04_Cut.j0 k a1 l2 y295 true a0_0 a0_1 a0_2 a0_3) else (if a1 > 2 then (sashref04_Cut.j0 k a1 l2 y295 true a0_0 a0_1 a0_2 a0_3) else (sashref04_Cut.j0 k a1 l2 y295 ((l2.length : Int) == 0) a0_0 a0_1 a0_2 a0_3))) else (sashref04_Cut.j0 k a1 l2 y295 true a0_0 a0_1 a0_2 a0_3)))) = some (r1, r2, r3) := h
 clear h
 obtain ⟨y295, hy295⟩ : ∃ y_ : List (S23), y_ = (([] : List (S23))) := ⟨_, rfl⟩
 replace H : ((sashref04_May.f a0_0 a0_1 a0_2 a0_3).bind fun t298 => (if t298 = true then (if a1 < 1 then (sashref04_Cut.j0 k a1 l2 y295 true a0_0 a0_1 a0_2 a0_3) else (if a1 > 2 then (sashref04_Cut.j0 k a1 l2 y295 true a0_0 a0_1 a0_2 a0_3) else (sashref04_Cut.j0 k a1 l2 y295 ((l2.length : Int) == 0) a0_0 a0_1 a0_2 a0_3))) else (sashref04_Cut.j0 k a1 l2 y295 true a0_0 a0_1 a0_2 a0_3))) = some (r1, r2, r3) := by (have H2_ := (Option.bind_some _ _).symm.trans H; rw [hy295]; with_reducible exact H2_)
 have Ny295 := Aside0.mk hy295
 clear hy295
 have HC4 := Aside0.mk H
 clear H
 go_enter Try.func46, Try.ntmps46
 go_upto_region 2 with (first | ((with_reducible refine gate_dst (N := 3) rfl ?_); (try (refine gate_guard (by rfl) ?_; dsimp only)); refine box_event ?hg (N := 3) ?hd (cs := #[.int .i64 a0_0, .int .i64 a0_1, .int .i64 a0_2, .int .i64 a0_3]) (t := 23) ?hr ?_; (case hd => rfl); (case hg => rfl); (case hr => (go_simp; done)); intro gb294 hg w5 hbox hb; have BK294 := Aside0.mk (hbox); replace HB := Aside0.mk (below_step (by repeat ((with_reducible exact HB.out))) hb); clear hb hbox hg) | ((with_reducible refine gate_dst (N := 15) rfl ?_); (try (refine gate_guard (by rfl) ?_; dsimp only)); refine Kd.R_lit k23 _ 23 ?hg (N := 15) ?hd (xs := ([] : List (S23))) (inner := []) (ok := fun _ => True) (okp := fun _ => True) ?hr ?hp (fun _ hk => hk) trivial (Below.refl _ _) (Nat.le_refl _) (by simp) ?_; (case hd => rfl); (case hg => rfl); (case hr => (go_simp; done)); (case hp => exact (Reps.none _ _)); intro v296 w6 ho7 hb hg_ hnew_; clear hg_ hnew_; (rw [← Ny295.out] at ho7); have HO297 := Aside0.mk (Kd.R_lower (Kd.R_newB (Kd.R_newM (M := fun k_ => (w.heap.size ≤ k_)) ho7 (below_size (by repeat ((with_reducible exact HB.out)))) (fun k_ h_ => h_)) (g := gb294) (o := .cells #[.int .i64 a0_0, .int .i64 a0_1, .int .i64 a0_2, .int .i64 a0_3] 23 (0, 0)) BK294.out) (below_size (by repeat ((with_reducible exact HB.out))))); replace BK294 := Aside0.mk (blk_below BK294.out hb); replace HB := Aside0.mk (below_step (by repeat ((with_reducible exact HB.out))) hb); clear hb ho7))
 (skip)
 go_cut [31] (fun v31 wc => ∃ (kq : Nat) (x31_3 : Bool), v31 = .bool x31_3 ∧ Aside0 (sashref04_Cut.j0 kq a1 l2 y295 x31_3 a0_0 a0_1 a0_2 a0_3 = some (r1, r2, r3)) ∧ Aside0 (kq ≤ k) ∧ Aside0 (Kd.R k23 23 wc w.heap.size (fun k_ => (w.heap.size ≤ k_) ∧ k_ ≠ gb294) v296 y295) ∧ Aside0 (wc.heap[gb294]? = some (.cells #[.int .i64 a0_0, .int .i64 a0_1, .int .i64 a0_2, .int .i64 a0_3] 23 (0, 0))) ∧ Aside0 (Below w.heap.size w wc))
 case first =>
  have H := HC4.out
  clear HC4
  replace H := Option.bind_eq_some_iff.mp H
  obtain ⟨t298, A80, H⟩ := H
  replace H : (if t298 = true then (if a1 < 1 then (sashref04_Cut.j0 k a1 l2 y295 true a0_0 a0_1 a0_2 a0_3) else (if a1 > 2 then (sashref04_Cut.j0 k a1 l2 y295 true a0_0 a0_1 a0_2 a0_3) else (sashref04_Cut.j0 k a1 l2 y295 ((l2.length : Int) == 0) a0_0 a0_1 a0_2 a0_3))) else (sashref04_Cut.j0 k a1 l2 y295 true a0_0 a0_1 a0_2 a0_3)) = some (r1, r2, r3) := H
  have A8 := Aside0.mk A80
  clear A80
  by_cases c9 : t298 = true
  ·subst c9
   have H1 : (if a1 < 1 then (sashref04_Cut.j0 k a1 l2 y295 true a0_0 a0_1 a0_2 a0_3) else (if a1 > 2 then (sashref04_Cut.j0 k a1 l2 y295 true a0_0 a0_1 a0_2 a0_3) else (sashref04_Cut.j0 k a1 l2 y295 ((l2.length : Int) == 0) a0_0 a0_1 a0_2 a0_3))) = some (r1, r2, r3) := by rw [if_pos rfl] at H; exact H
   clear H
   have H := H1
   clear H1
   by_cases c10 : a1 < 1
   ·rw [if_pos c10] at H
    have c10b0 : decide (a1 < 1) = true := decide_eq_true c10
    clear c10
    (skip)
    have H' := Aside0.mk H
    clear H
    have hcz11_0 : w6.cell? ⟨gb294, 0, none⟩ = some (.int .i64 a0_0) := (blk_cell BK294.out 0).trans rfl
    have hcz11_1 : w6.cell? ⟨gb294, 1, none⟩ = some (.int .i64 a0_1) := (blk_cell BK294.out 1).trans rfl
    have hcz11_2 : w6.cell? ⟨gb294, 2, none⟩ = some (.int .i64 a0_2) := (blk_cell BK294.out 2).trans rfl
    have hcz11_3 : w6.cell? ⟨gb294, 3, none⟩ = some (.int .i64 a0_3) := (blk_cell BK294.out 3).trans rfl
    have hfz11_0 := blk_frozen BK294.out 0
    have hfz11_1 := blk_frozen BK294.out 1
    have hfz11_2 := blk_frozen BK294.out 2
    have hfz11_3 := blk_frozen BK294.out 3
    go_wp2_with (((with_reducible refine gate_callee (f := 57) rfl ?_); refine goesL_ (some 17) rfl rfl Try.func57 (by kernel_rfl) rfl #[.agg #[.int .i64 a0_0, .int .i64 a0_1, .int .i64 a0_2, .int .i64 a0_3]] rfl (by (try simp only [List.map_toArray, List.map_cons, List.map_nil]); rfl) ?_; (with_reducible refine (sashref04_May.calls a0_0 a0_1 a0_2 a0_3 true _ A8.out).mono ?_); rintro e w12 ⟨rfl, hb⟩; refine ⟨_, rfl, ?_⟩; replace HO297 := Aside0.mk (Kd.R_below HO297.out hb); replace BK294 := Aside0.mk (blk_below BK294.out hb); replace HB := Aside0.mk (below_step (by repeat ((with_reducible exact HB.out))) hb); (try clear hb)))
    go_meet
    case rel => exact ⟨_, (true), (by rfl), H', ⟨by omega⟩, ⟨by exact Kd.R_mono HO297.out (fun _ hk => ⟨hk.1.1, hk.2⟩)⟩, ⟨by exact BK294.out⟩, ⟨by repeat ((with_reducible exact HB.out))⟩⟩
   ·rw [if_neg c10] at H
    have c10b0 : decide (a1 < 1) = false := decide_eq_false c10
    clear c10
    (skip)
    by_cases c13 : a1 > 2
    ·rw [if_pos c13] at H
     have c13b0 : decide (2 < a1) = true := decide_eq_true c13
     clear c13
     have H' := Aside0.mk H
     clear H
     have hcz14_0 : w6.cell? ⟨gb294, 0, none⟩ = some (.int .i64 a0_0) := (blk_cell BK294.out 0).trans rfl
     have hcz14_1 : w6.cell? ⟨gb294, 1, none⟩ = some (.int .i64 a0_1) := (blk_cell BK294.out 1).trans rfl
     have hcz14_2 : w6.cell? ⟨gb294, 2, none⟩ = some (.int .i64 a0_2) := (blk_cell BK294.out 2).trans rfl
     have hcz14_3 : w6.cell? ⟨gb294, 3, none⟩ = some (.int .i64 a0_3) := (blk_cell BK294.out 3).trans rfl
     have hfz14_0 := blk_frozen BK294.out 0
     have hfz14_1 := blk_frozen BK294.out 1
     have hfz14_2 := blk_frozen BK294.out 2
     have hfz14_3 := blk_frozen BK294.out 3
     go_wp2_with (((with_reducible refine gate_callee (f := 57) rfl ?_); refine goesL_ (some 17) rfl rfl Try.func57 (by kernel_rfl) rfl #[.agg #[.int .i64 a0_0, .int .i64 a0_1, .int .i64 a0_2, .int .i64 a0_3]] rfl (by (try simp only [List.map_toArray, List.map_cons, List.map_nil]); rfl) ?_; (with_reducible refine (sashref04_May.calls a0_0 a0_1 a0_2 a0_3 true _ A8.out).mono ?_); rintro e w15 ⟨rfl, hb⟩; refine ⟨_, rfl, ?_⟩; replace HO297 := Aside0.mk (Kd.R_below HO297.out hb); replace BK294 := Aside0.mk (blk_below BK294.out hb); replace HB := Aside0.mk (below_step (by repeat ((with_reducible exact HB.out))) hb); (try clear hb)))
     go_meet
     case rel => exact ⟨_, (true), (by rfl), H', ⟨by omega⟩, ⟨by exact Kd.R_mono HO297.out (fun _ hk => ⟨hk.1.1, hk.2⟩)⟩, ⟨by exact BK294.out⟩, ⟨by repeat ((with_reducible exact HB.out))⟩⟩
    ·rw [if_neg c13] at H
     have c13b0 : decide (2 < a1) = false := decide_eq_false c13
     clear c13
     have H' := Aside0.mk H
     clear H
     have hcz16_0 : w6.cell? ⟨gb294, 0, none⟩ = some (.int .i64 a0_0) := (blk_cell BK294.out 0).trans rfl
     have hcz16_1 : w6.cell? ⟨gb294, 1, none⟩ = some (.int .i64 a0_1) := (blk_cell BK294.out 1).trans rfl
     have hcz16_2 : w6.cell? ⟨gb294, 2, none⟩ = some (.int .i64 a0_2) := (blk_cell BK294.out 2).trans rfl
     have hcz16_3 : w6.cell? ⟨gb294, 3, none⟩ = some (.int .i64 a0_3) := (blk_cell BK294.out 3).trans rfl
     have hfz16_0 := blk_frozen BK294.out 0
     have hfz16_1 := blk_frozen BK294.out 1
     have hfz16_2 := blk_frozen BK294.out 2
     have hfz16_3 := blk_frozen BK294.out 3
     go_wp2_with (((with_reducible refine gate_callee (f := 57) rfl ?_); refine goesL_ (some 17) rfl rfl Try.func57 (by kernel_rfl) rfl #[.agg #[.int .i64 a0_0, .int .i64 a0_1, .int .i64 a0_2, .int .i64 a0_3]] rfl (by (try simp only [List.map_toArray, List.map_cons, List.map_nil]); rfl) ?_; (with_reducible refine (sashref04_May.calls a0_0 a0_1 a0_2 a0_3 true _ A8.out).mono ?_); rintro e w17 ⟨rfl, hb⟩; refine ⟨_, rfl, ?_⟩; replace HO297 := Aside0.mk (Kd.R_below HO297.out hb); replace BK294 := Aside0.mk (blk_below BK294.out hb); replace HB := Aside0.mk (below_step (by repeat ((with_reducible exact HB.out))) hb); (try clear hb)))
     go_meet
     case rel => exact ⟨_, (((l2.length : Int) == 0)), (by rfl), H', ⟨by omega⟩, ⟨by exact Kd.R_mono HO297.out (fun _ hk => ⟨hk.1.1, hk.2⟩)⟩, ⟨by exact BK294.out⟩, ⟨by repeat ((with_reducible exact HB.out))⟩⟩
  ·replace c9 := Bool.eq_false_iff.mpr c9
   subst c9
   have H1 : (sashref04_Cut.j0 k a1 l2 y295 true a0_0 a0_1 a0_2 a0_3) = some (r1, r2, r3) := by rw [if_neg (show ¬ (false = true) by decide)] at H; exact H
   clear H
   have H := H1
   clear H1
   have H' := Aside0.mk H
   clear H
   have hcz18_0 : w6.cell? ⟨gb294, 0, none⟩ = some (.int .i64 a0_0) := (blk_cell BK294.out 0).trans rfl
   have hcz18_1 : w6.cell? ⟨gb294, 1, none⟩ = some (.int .i64 a0_1) := (blk_cell BK294.out 1).trans rfl
   have hcz18_2 : w6.cell? ⟨gb294, 2, none⟩ = some (.int .i64 a0_2) := (blk_cell BK294.out 2).trans rfl
   have hcz18_3 : w6.cell? ⟨gb294, 3, none⟩ = some (.int .i64 a0_3) := (blk_cell BK294.out 3).trans rfl
   have hfz18_0 := blk_frozen BK294.out 0
   have hfz18_1 := blk_frozen BK294.out 1
   have hfz18_2 := blk_frozen BK294.out 2
   have hfz18_3 := blk_frozen BK294.out 3
   go_wp2_with (((with_reducible refine gate_callee (f := 57) rfl ?_); refine goesL_ (some 17) rfl rfl Try.func57 (by kernel_rfl) rfl #[.agg #[.int .i64 a0_0, .int .i64 a0_1, .int .i64 a0_2, .int .i64 a0_3]] rfl (by (try simp only [List.map_toArray, List.map_cons, List.map_nil]); rfl) ?_; (with_reducible refine (sashref04_May.calls a0_0 a0_1 a0_2 a0_3 false _ A8.out).mono ?_); rintro e w19 ⟨rfl, hb⟩; refine ⟨_, rfl, ?_⟩; replace HO297 := Aside0.mk (Kd.R_below HO297.out hb); replace BK294 := Aside0.mk (blk_below BK294.out hb); replace HB := Aside0.mk (below_step (by repeat ((with_reducible exact HB.out))) hb); (try clear hb)))
   go_meet
   case rel => exact ⟨_, (true), (by rfl), H', ⟨by omega⟩, ⟨by exact Kd.R_mono HO297.out (fun _ hk => ⟨hk.1.1, hk.2⟩)⟩, ⟨by exact BK294.out⟩, ⟨by repeat ((with_reducible exact HB.out))⟩⟩
 case rest =>
  clear HC4
  obtain ⟨kq, x31_3, rfl, HA, HJ3, HO_9, BK294, HB⟩ := hcut
  cases kq with
  | zero => exact absurd HA.out (by simp [sashref04_Cut.j0])
  | succ kj3 =>
   have H := HA.out
   clear HA
   simp only [sashref04_Cut.j0] at H
   by_cases c20 : x31_3 = true
   ·subst c20
    have H1 : (some (y295, y295, false)) = some (r1, r2, r3) := by rw [if_pos rfl] at H; exact H
    clear H
    have H := H1
    clear H1
    simp only [Option.some.injEq, Prod.mk.injEq] at H
    obtain ⟨rfl, rfl, rfl⟩ := H
    go_wp2
    go_ret3
    exact ⟨_, _, by rfl, Kd.R_V (by exact Kd.R_mono HO_9.out (fun _ hk => hk.1)), Kd.R_V (by exact Kd.R_mono HO_9.out (fun _ hk => hk.1)), by repeat ((with_reducible exact HB.out))⟩
   ·replace c20 := Bool.eq_false_iff.mpr c20
    subst c20
    have H1 : (if a1 = 2 then (sashref04_Cut.j1 kj3 a1 l2 y295 a0_3 a0_0 a0_1 a0_2 a0_3) else (sashref04_Cut.j1 kj3 a1 l2 y295 a0_2 a0_0 a0_1 a0_2 a0_3)) = some (r1, r2, r3) := by rw [if_neg (show ¬ (false = true) by decide)] at H; exact H
    clear H
    have H := H1
    clear H1
    have HC21 := Aside0.mk H
    clear H
    have hcz22_0 : wc.cell? ⟨gb294, 0, none⟩ = some (.int .i64 a0_0) := (blk_cell BK294.out 0).trans rfl
    have hcz22_1 : wc.cell? ⟨gb294, 1, none⟩ = some (.int .i64 a0_1) := (blk_cell BK294.out 1).trans rfl
    have hcz22_2 : wc.cell? ⟨gb294, 2, none⟩ = some (.int .i64 a0_2) := (blk_cell BK294.out 2).trans rfl
    have hcz22_3 : wc.cell? ⟨gb294, 3, none⟩ = some (.int .i64 a0_3) := (blk_cell BK294.out 3).trans rfl
    have hfz22_0 := blk_frozen BK294.out 0
    have hfz22_1 := blk_frozen BK294.out 1
    have hfz22_2 := blk_frozen BK294.out 2
    have hfz22_3 := blk_frozen BK294.out 3
    go_upto_if 37 with (fail)
    go_cut [10] (fun v10 wc => ∃ (kq : Nat) (x10_20 : Int), v10 = .int .i64 x10_20 ∧ Aside0 (sashref04_Cut.j1 kq a1 l2 y295 x10_20 a0_0 a0_1 a0_2 a0_3 = some (r1, r2, r3)) ∧ Aside0 (kq ≤ kj3) ∧ Aside0 (Kd.R k23 23 wc w.heap.size (fun k_ => (w.heap.size ≤ k_) ∧ k_ ≠ gb294) v296 y295) ∧ Aside0 (wc.heap[gb294]? = some (.cells #[.int .i64 a0_0, .int .i64 a0_1, .int .i64 a0_2, .int .i64 a0_3] 23 (0, 0))) ∧ Aside0 (Below w.heap.size w wc))
    case first =>
     have H := HC21.out
     clear HC21
     by_cases c23 : a1 = 2
     ·rw [if_pos c23] at H
      have c23b0 : (a1 == 2) = true := beq_iff_eq.mpr c23
      have c23b1 : (a1 != 2) = false := bne_eq_false_iff_eq.mpr c23
      clear c23
      (rw [c23b0])
      have H' := Aside0.mk H
      clear H
      have hcz24_0 : wc.cell? ⟨gb294, 0, none⟩ = some (.int .i64 a0_0) := (blk_cell BK294.out 0).trans rfl
      have hcz24_1 : wc.cell? ⟨gb294, 1, none⟩ = some (.int .i64 a0_1) := (blk_cell BK294.out 1).trans rfl
      have hcz24_2 : wc.cell? ⟨gb294, 2, none⟩ = some (.int .i64 a0_2) := (blk_cell BK294.out 2).trans rfl
      have hcz24_3 : wc.cell? ⟨gb294, 3, none⟩ = some (.int .i64 a0_3) := (blk_cell BK294.out 3).trans rfl
      have hfz24_0 := blk_frozen BK294.out 0
      have hfz24_1 := blk_frozen BK294.out 1
      have hfz24_2 := blk_frozen BK294.out 2
      have hfz24_3 := blk_frozen BK294.out 3
      go_wp2
      go_meet
      case rel => exact ⟨_, (a0_3), (by rfl), H', ⟨by have := HJ3.out; omega⟩, ⟨by exact HO_9.out⟩, ⟨by exact BK294.out⟩, ⟨by repeat ((with_reducible exact HB.out))⟩⟩
     ·rw [if_neg c23] at H
      have c23b0 : (a1 == 2) = false := beq_eq_false_iff_ne.mpr c23
      have c23b1 : (a1 != 2) = true := bne_iff_ne.mpr c23
      (rw [c23b0])
      have H' := Aside0.mk H
      clear H
      go_wp2
      go_meet
      case rel => exact ⟨_, (a0_2), (by rfl), H', ⟨by have := HJ3.out; omega⟩, ⟨by exact HO_9.out⟩, ⟨by exact BK294.out⟩, ⟨by repeat ((with_reducible exact HB.out))⟩⟩
    case rest =>
     clear HC21
     clear hcz22_0 hcz22_1 hcz22_2 hcz22_3 hfz22_0 hfz22_1 hfz22_2 hfz22_3
     obtain ⟨kq, x10_20, rfl, HA, HJ20, HO_9, BK294, HB⟩ := hcut
     cases kq with
     | zero => exact absurd HA.out (by simp [sashref04_Cut.j1])
     | succ kj20 =>
      have H := HA.out
      clear HA
      simp only [sashref04_Cut.j1] at H
      obtain ⟨y299, hy299⟩ : ∃ y_ : List (S23), y_ = (([] : List (S23))) := ⟨_, rfl⟩
      replace H : (sashref04_Cut.l0 kj20 a1 l2 y295 x10_20 y299 (([] : List (S23))) 0 (l2.length : Int) 0 a0_0 a0_1 a0_2 a0_3) = some (r1, r2, r3) := by (rw [hy299]; with_reducible exact H)
      have Ny299 := Aside0.mk hy299
      clear hy299
      obtain ⟨y302, hy302⟩ : ∃ y_ : List (S23), y_ = (([] : List (S23))) := ⟨_, rfl⟩
      replace H : (sashref04_Cut.l0 kj20 a1 l2 y295 x10_20 y299 y302 0 (l2.length : Int) 0 a0_0 a0_1 a0_2 a0_3) = some (r1, r2, r3) := by (rw [hy302]; with_reducible exact H)
      have Ny302 := Aside0.mk hy302
      clear hy302
      have H' := Aside0.mk H
      clear H
      go_wp2_with (first | ((with_reducible refine gate_dst (N := 40) rfl ?_); (try (refine gate_guard (by rfl) ?_; dsimp only)); refine Kd.R_lit k23 _ 23 ?hg (N := 40) ?hd (xs := ([] : List (S23))) (inner := []) (ok := fun _ => True) (okp := fun _ => True) ?hr ?hp (fun _ hk => hk) trivial (Below.refl _ _) (Nat.le_refl _) (by simp) ?_; (case hd => rfl); (case hg => rfl); (case hr => (go_simp; done)); (case hp => exact (Reps.none _ _)); intro v300 w25 ho26 hb hg_ hnew_; clear hg_ hnew_; (rw [← Ny299.out] at ho26); have HO301 := Aside0.mk (Kd.R_lower (Kd.R_newB (Kd.R_new' (Kd.R_newM (M := fun k_ => (w.heap.size ≤ k_)) ho26 (below_size (by repeat ((with_reducible exact HB.out)))) (fun k_ h_ => h_)) (Kd.R_lt HO_9.out)) (g := gb294) (o := .cells #[.int .i64 a0_0, .int .i64 a0_1, .int .i64 a0_2, .int .i64 a0_3] 23 (0, 0)) BK294.out) (below_size (by repeat ((with_reducible exact HB.out))))); replace HO_9 := Aside0.mk (Kd.R_elder' HO_9.out (Kd.R_base ho26) hb); replace BK294 := Aside0.mk (blk_below BK294.out hb); replace HB := Aside0.mk (below_step (by repeat ((with_reducible exact HB.out))) hb); clear hb ho26) | ((with_reducible refine gate_dst (N := 41) rfl ?_); (try (refine gate_guard (by rfl) ?_; dsimp only)); refine Kd.R_lit k23 _ 23 ?hg (N := 41) ?hd (xs := ([] : List (S23))) (inner := []) (ok := fun _ => True) (okp := fun _ => True) ?hr ?hp (fun _ hk => hk) trivial (Below.refl _ _) (Nat.le_refl _) (by simp) ?_; (case hd => rfl); (case hg => rfl); (case hr => (go_simp; done)); (case hp => exact (Reps.none _ _)); intro v303 w27 ho28 hb hg_ hnew_; clear hg_ hnew_; (rw [← Ny302.out] at ho28); have HO304 := Aside0.mk (Kd.R_lower (Kd.R_newB (Kd.R_new' (Kd.R_new' (Kd.R_newM (M := fun k_ => (w.heap.size ≤ k_)) ho28 (below_size (by repeat ((with_reducible exact HB.out)))) (fun k_ h_ => h_)) (Kd.R_lt HO_9.out)) (Kd.R_lt HO301.out)) (g := gb294) (o := .cells #[.int .i64 a0_0, .int .i64 a0_1, .int .i64 a0_2, .int .i64 a0_3] 23 (0, 0)) BK294.out) (below_size (by repeat ((with_reducible exact HB.out))))); replace HO_9 := Aside0.mk (Kd.R_elder' HO_9.out (Kd.R_base ho28) hb); replace HO301 := Aside0.mk (Kd.R_elder' HO301.out (Kd.R_base ho28) hb); replace BK294 := Aside0.mk (blk_below BK294.out hb); replace HB := Aside0.mk (below_step (by repeat ((with_reducible exact HB.out))) hb); clear hb ho28))
      go_loopg [11, 12, 13, 44] kj20 (fun kq v11 v12 v13 v44 w' => ∃ (x11_3 : List (S23)) (x12_3 : List (S23)) (x13_3 : Int) (x44_3 : Int), v13 = .int .i64 x13_3 ∧ v44 = .int .i64 x44_3 ∧ Aside0 (sashref04_Cut.l0 kq a1 l2 y295 x10_20 x11_3 x12_3 x13_3 (l2.length : Int) x44_3 a0_0 a0_1 a0_2 a0_3 = some (r1, r2, r3)) ∧ Aside0 (kq ≤ kj20) ∧ Aside0 (Kd.R k23 23 w' w.heap.size (fun k_ => (w.heap.size ≤ k_) ∧ some k_ ≠ (v11 : Value).ownBlock ∧ some k_ ≠ (v12 : Value).ownBlock ∧ k_ ≠ gb294) v296 y295) ∧ Aside0 (Kd.R k23 23 w' w.heap.size (fun k_ => (w.heap.size ≤ k_) ∧ some k_ ≠ (v296 : Value).ownBlock ∧ some k_ ≠ (v12 : Value).ownBlock ∧ k_ ≠ gb294) v11 x11_3) ∧ Aside0 (Kd.R k23 23 w' w.heap.size (fun k_ => (w.heap.size ≤ k_) ∧ some k_ ≠ (v296 : Value).ownBlock ∧ some k_ ≠ (v11 : Value).ownBlock ∧ k_ ≠ gb294) v12 x12_3) ∧ Aside0 (w'.heap[gb294]? = some (.cells #[.int .i64 a0_0, .int .i64 a0_1, .int .i64 a0_2, .int .i64 a0_3] 23 (0, 0))) ∧ Aside0 (Below w.heap.size w w'))
      case atStart => exact ⟨(y299), (y302), (0), (0), (by rfl), (by rfl), H', ⟨Nat.le_refl _⟩, ⟨by exact Kd.R_mono HO_9.out (fun _ hk => ⟨hk.1.1.1, ⟨hk.1.2, ⟨hk.2, hk.1.1.2⟩⟩⟩)⟩, ⟨by exact Kd.R_mono HO301.out (fun _ hk => ⟨hk.1.1.1.1, ⟨hk.1.1.2, ⟨hk.2, hk.1.2⟩⟩⟩)⟩, ⟨by exact Kd.R_mono HO304.out (fun _ hk => ⟨hk.1.1.1.1, ⟨hk.1.1.2, ⟨hk.1.2, hk.2⟩⟩⟩)⟩, ⟨by exact BK294.out⟩, ⟨by repeat ((with_reducible exact HB.out))⟩⟩
      case round =>
       clear H'
       obtain ⟨x11_3, x12_3, x13_3, x44_3, rfl, rfl, HA, HK3, HO_9, HO_11, HO_12, BK294, HB⟩ := hrel
       cases gk with
       | zero => exact absurd HA.out (by simp [sashref04_Cut.l0])
       | succ k3 =>
        have H := HA.out
        clear HA
        simp only [sashref04_Cut.l0] at H
        by_cases c29 : x44_3 < (l2.length : Int)
        ·rw [if_pos c29] at H
         have c29b0 : decide (x44_3 < (l2.length : Int)) = true := decide_eq_true c29
         clear c29
         have HC30 := Aside0.mk H
         clear H
         go_upto_if 48 with (fail)
         go_cut [12, 13] (fun v12 v13 wc => ∃ (kq : Nat) (x12_29 : List (S23)) (x13_29 : Int), v13 = .int .i64 x13_29 ∧ Aside0 (sashref04_Cut.j3 kq a1 l2 y295 x10_20 x11_3 x12_29 x13_29 x44_3 (l2.length : Int) x44_3 a0_0 a0_1 a0_2 a0_3 = some (r1, r2, r3)) ∧ Aside0 (kq ≤ k3) ∧ Aside0 (Kd.R k23 23 wc w.heap.size (fun k_ => (w.heap.size ≤ k_) ∧ some k_ ≠ (u11 : Value).ownBlock ∧ some k_ ≠ (v12 : Value).ownBlock ∧ k_ ≠ gb294) v296 y295) ∧ Aside0 (Kd.R k23 23 wc w.heap.size (fun k_ => (w.heap.size ≤ k_) ∧ some k_ ≠ (v296 : Value).ownBlock ∧ some k_ ≠ (v12 : Value).ownBlock ∧ k_ ≠ gb294) u11 x11_3) ∧ Aside0 (Kd.R k23 23 wc w.heap.size (fun k_ => (w.heap.size ≤ k_) ∧ some k_ ≠ (v296 : Value).ownBlock ∧ some k_ ≠ (u11 : Value).ownBlock ∧ k_ ≠ gb294) v12 x12_29) ∧ Aside0 (wc.heap[gb294]? = some (.cells #[.int .i64 a0_0, .int .i64 a0_1, .int .i64 a0_2, .int .i64 a0_3] 23 (0, 0))) ∧ Aside0 (Below w.heap.size w wc))
         case first =>
          have H := HC30.out
          clear HC30
          by_cases c31 : x44_3 > 0
          ·rw [if_pos c31] at H
           have c31b0 : decide (0 < x44_3) = true := decide_eq_true c31
           clear c31
           (rw [c31b0])
           by_cases c32 : a1 = 1
           ·rw [if_pos c32] at H
            have c32b0 : (a1 == 1) = true := beq_iff_eq.mpr c32
            have c32b1 : (a1 != 1) = false := bne_eq_false_iff_eq.mpr c32
            clear c32
            by_cases c33 : x12_3.length < 4398046511104
            ·rw [if_pos c33] at H
             have LMc33 := Aside0.mk c33
             clear c33
             obtain ⟨y305, hy305⟩ : ∃ y_ : List (S23), y_ = (x12_3 ++ [(⟨wrap64 (a0_0 + x13_3), a0_1, 1, a0_3⟩ : S23)]) := ⟨_, rfl⟩
             replace H : (sashref04_Cut.j3 k3 a1 l2 y295 x10_20 x11_3 y305 (wrap64 (x13_3 + 1)) x44_3 (l2.length : Int) x44_3 a0_0 a0_1 a0_2 a0_3) = some (r1, r2, r3) := by (rw [hy305]; with_reducible exact H)
             have Ny305 := Aside0.mk hy305
             clear hy305
             have H' := Aside0.mk H
             clear H
             have hcz34_0 : wr.cell? ⟨gb294, 0, none⟩ = some (.int .i64 a0_0) := (blk_cell BK294.out 0).trans rfl
             have hcz34_1 : wr.cell? ⟨gb294, 1, none⟩ = some (.int .i64 a0_1) := (blk_cell BK294.out 1).trans rfl
             have hcz34_2 : wr.cell? ⟨gb294, 2, none⟩ = some (.int .i64 a0_2) := (blk_cell BK294.out 2).trans rfl
             have hcz34_3 : wr.cell? ⟨gb294, 3, none⟩ = some (.int .i64 a0_3) := (blk_cell BK294.out 3).trans rfl
             have hfz34_0 := blk_frozen BK294.out 0
             have hfz34_1 := blk_frozen BK294.out 1
             have hfz34_2 := blk_frozen BK294.out 2
             have hfz34_3 := blk_frozen BK294.out 3
             go_wp2_with (((with_reducible refine gate_builtin (b := .append) (xs := #[.tmp 51, .tmp 61]) rfl ?_); (try (refine gate_guard (by rfl) ?_; dsimp only)); at_builtin; refine Kd.R_append k23 (w0 := w) w.heap.size rfl (.tmp 51) (.tmp 61) 42 23 (.agg #[(.int .i64 0), (.int .i64 0), (.int .i64 0), (.int .i64 0)]) 32 rfl Try.underlying42 info23 rfl (by decide) (by omega) u12 x12_3 (⟨wrap64 (a0_0 + x13_3), a0_1, 1, a0_3⟩ : S23) [.int .i64 (wrap64 (a0_0 + x13_3)), .int .i64 a0_1, .int .i64 1, .int .i64 a0_3] (fun k_ => (w.heap.size ≤ k_) ∧ some k_ ≠ (v296 : Value).ownBlock ∧ some k_ ≠ (u11 : Value).ownBlock ∧ k_ ≠ gb294) (fun _ => False) rfl rfl ?aP (fun _ hk => hk.elim) ?aF ?aO ?aB ?aS ?aL ?_; (case aP => exact k23_mkM _ _ _ (⟨wrap64 (a0_0 + x13_3), a0_1, 1, a0_3⟩ : S23)); (case aB => exact (by repeat ((with_reducible exact HB.out)))); (case aF => exact (fun k_ hk => ⟨(Nat.le_trans (below_size (by repeat ((with_reducible exact HB.out)))) hk), Kd.fresh' (Kd.R_lt HO_9.out) k_ hk, Kd.fresh' (Kd.R_lt HO_11.out) k_ hk, Kd.freshB BK294.out k_ hk⟩)); (case aO => exact HO_12.out); (case aS => exact (below_size (by repeat ((with_reducible exact HB.out))))); (case aL => have := LMc33.out; omega); intro v306 w35 ho hb hg hat; rw [← Ny305.out] at ho; have HO307 := Aside0.mk (ho); replace HO_9 := Aside0.mk (Kd.R_after (ok := (fun k_ => (w.heap.size ≤ k_) ∧ some k_ ≠ (u11 : Value).ownBlock ∧ k_ ≠ gb294)) (by exact Kd.R_mono HO_9.out (fun _ hk => ⟨⟨hk.1, ⟨hk.2.1, hk.2.2.2⟩⟩, hk.2.2.1⟩)) hg hat); replace HO_11 := Aside0.mk (Kd.R_after (ok := (fun k_ => (w.heap.size ≤ k_) ∧ some k_ ≠ (v296 : Value).ownBlock ∧ k_ ≠ gb294)) (by exact Kd.R_mono HO_11.out (fun _ hk => ⟨⟨hk.1, ⟨hk.2.1, hk.2.2.2⟩⟩, hk.2.2.1⟩)) hg hat); replace BK294 := Aside0.mk (blk_grown BK294.out hg (Kd.R_away HO_12.out (fun _ hk => hk.2.2.2))); replace HB := Aside0.mk (hb); clear HO_12; clear ho hb hg hat))
             go_meet
             case rel => exact ⟨_, (y305), (wrap64 (x13_3 + 1)), (by rfl), H', ⟨by have := HJ3.out; have := HJ20.out; have := HK3.out; omega⟩, ⟨by exact Kd.R_mono HO_9.out (fun _ hk => ⟨hk.1.1, ⟨hk.1.2.1, ⟨hk.2, hk.1.2.2⟩⟩⟩)⟩, ⟨by exact Kd.R_mono HO_11.out (fun _ hk => ⟨hk.1.1, ⟨hk.1.2.1, ⟨hk.2, hk.1.2.2⟩⟩⟩)⟩, ⟨by exact HO307.out⟩, ⟨by exact BK294.out⟩, ⟨by repeat ((with_reducible exact HB.out))⟩⟩
            ·rw [if_neg c33] at H
             exact absurd H (by simp)
           ·rw [if_neg c32] at H
            have c32b0 : (a1 == 1) = false := beq_eq_false_iff_ne.mpr c32
            have c32b1 : (a1 != 1) = true := bne_iff_ne.mpr c32
            by_cases c36 : x12_3.length < 4398046511104
            ·rw [if_pos c36] at H
             have LMc36 := Aside0.mk c36
             clear c36
             obtain ⟨y308, hy308⟩ : ∃ y_ : List (S23), y_ = (x12_3 ++ [(⟨a0_0, wrap64 (a0_1 + x13_3), a0_2, 1⟩ : S23)]) := ⟨_, rfl⟩
             replace H : (sashref04_Cut.j3 k3 a1 l2 y295 x10_20 x11_3 y308 (wrap64 (x13_3 + 1)) x44_3 (l2.length : Int) x44_3 a0_0 a0_1 a0_2 a0_3) = some (r1, r2, r3) := by (rw [hy308]; with_reducible exact H)
             have Ny308 := Aside0.mk hy308
             clear hy308
             have H' := Aside0.mk H
             clear H
             have hcz37_0 : wr.cell? ⟨gb294, 0, none⟩ = some (.int .i64 a0_0) := (blk_cell BK294.out 0).trans rfl
             have hcz37_1 : wr.cell? ⟨gb294, 1, none⟩ = some (.int .i64 a0_1) := (blk_cell BK294.out 1).trans rfl
             have hcz37_2 : wr.cell? ⟨gb294, 2, none⟩ = some (.int .i64 a0_2) := (blk_cell BK294.out 2).trans rfl
             have hcz37_3 : wr.cell? ⟨gb294, 3, none⟩ = some (.int .i64 a0_3) := (blk_cell BK294.out 3).trans rfl
             have hfz37_0 := blk_frozen BK294.out 0
             have hfz37_1 := blk_frozen BK294.out 1
             have hfz37_2 := blk_frozen BK294.out 2
             have hfz37_3 := blk_frozen BK294.out 3
             go_wp2_with (((with_reducible refine gate_builtin (b := .append) (xs := #[.tmp 63, .tmp 73]) rfl ?_); (try (refine gate_guard (by rfl) ?_; dsimp only)); at_builtin; refine Kd.R_append k23 (w0 := w) w.heap.size rfl (.tmp 63) (.tmp 73) 42 23 (.agg #[(.int .i64 0), (.int .i64 0), (.int .i64 0), (.int .i64 0)]) 32 rfl Try.underlying42 info23 rfl (by decide) (by omega) u12 x12_3 (⟨a0_0, wrap64 (a0_1 + x13_3), a0_2, 1⟩ : S23) [.int .i64 a0_0, .int .i64 (wrap64 (a0_1 + x13_3)), .int .i64 a0_2, .int .i64 1] (fun k_ => (w.heap.size ≤ k_) ∧ some k_ ≠ (v296 : Value).ownBlock ∧ some k_ ≠ (u11 : Value).ownBlock ∧ k_ ≠ gb294) (fun _ => False) rfl rfl ?aP (fun _ hk => hk.elim) ?aF ?aO ?aB ?aS ?aL ?_; (case aP => exact k23_mkM _ _ _ (⟨a0_0, wrap64 (a0_1 + x13_3), a0_2, 1⟩ : S23)); (case aB => exact (by repeat ((with_reducible exact HB.out)))); (case aF => exact (fun k_ hk => ⟨(Nat.le_trans (below_size (by repeat ((with_reducible exact HB.out)))) hk), Kd.fresh' (Kd.R_lt HO_9.out) k_ hk, Kd.fresh' (Kd.R_lt HO_11.out) k_ hk, Kd.freshB BK294.out k_ hk⟩)); (case aO => exact HO_12.out); (case aS => exact (below_size (by repeat ((with_reducible exact HB.out))))); (case aL => have := LMc36.out; omega); intro v309 w38 ho hb hg hat; rw [← Ny308.out] at ho; have HO310 := Aside0.mk (ho); replace HO_9 := Aside0.mk (Kd.R_after (ok := (fun k_ => (w.heap.size ≤ k_) ∧ some k_ ≠ (u11 : Value).ownBlock ∧ k_ ≠ gb294)) (by exact Kd.R_mono HO_9.out (fun _ hk => ⟨⟨hk.1, ⟨hk.2.1, hk.2.2.2⟩⟩, hk.2.2.1⟩)) hg hat); replace HO_11 := Aside0.mk (Kd.R_after (ok := (fun k_ => (w.heap.size ≤ k_) ∧ some k_ ≠ (v296 : Value).ownBlock ∧ k_ ≠ gb294)) (by exact Kd.R_mono HO_11.out (fun _ hk => ⟨⟨hk.1, ⟨hk.2.1, hk.2.2.2⟩⟩, hk.2.2.1⟩)) hg hat); replace BK294 := Aside0.mk (blk_grown BK294.out hg (Kd.R_away HO_12.out (fun _ hk => hk.2.2.2))); replace HB := Aside0.mk (hb); clear HO_12; clear ho hb hg hat))
             go_meet
             case rel => exact ⟨_, (y308), (wrap64 (x13_3 + 1)), (by rfl), H', ⟨by have := HJ3.out; have := HJ20.out; have := HK3.out; omega⟩, ⟨by exact Kd.R_mono HO_9.out (fun _ hk => ⟨hk.1.1, ⟨hk.1.2.1, ⟨hk.2, hk.1.2.2⟩⟩⟩)⟩, ⟨by exact Kd.R_mono HO_11.out (fun _ hk => ⟨hk.1.1, ⟨hk.1.2.1, ⟨hk.2, hk.1.2.2⟩⟩⟩)⟩, ⟨by exact HO310.out⟩, ⟨by exact BK294.out⟩, ⟨by repeat ((with_reducible exact HB.out))⟩⟩
            ·rw [if_neg c36] at H
             exact absurd H (by simp)
          ·rw [if_neg c31] at H
           have c31b0 : decide (0 < x44_3) = false := decide_eq_false c31
           clear c31
           (rw [c31b0])
           have H' := Aside0.mk H
           clear H
           go_wp2
           go_meet
           case rel => exact ⟨_, (x12_3), (x13_3), (by rfl), H', ⟨by have := HJ3.out; have := HJ20.out; have := HK3.out; omega⟩, ⟨by exact HO_9.out⟩, ⟨by exact HO_11.out⟩, ⟨by exact HO_12.out⟩, ⟨by exact BK294.out⟩, ⟨by repeat ((with_reducible exact HB.out))⟩⟩
         case rest =>
          clear HC30
          clear c29b0
          obtain ⟨kq, x12_29, x13_29, rfl, HA, HJ29, HO_9, HO_11, HO_12, BK294, HB⟩ := hcut
          cases kq with
          | zero => exact absurd HA.out (by simp [sashref04_Cut.j3])
          | succ kj29 =>
           have H := HA.out
           clear HA
           simp only [sashref04_Cut.j3] at H
           have HC39 := Aside0.mk H
           clear H
           go_upto_region 17 with (fail)
           go_cut [99] (fun v99 wc => ∃ (kq : Nat) (x99_38 : Bool), v99 = .bool x99_38 ∧ Aside0 (sashref04_Cut.j4 kq a1 l2 y295 x10_20 x11_3 x12_29 x13_29 x44_3 (l2.length : Int) x44_3 x99_38 a0_0 a0_1 a0_2 a0_3 = some (r1, r2, r3)) ∧ Aside0 (kq ≤ kj29) ∧ Aside0 (Kd.R k23 23 wc w.heap.size (fun k_ => (w.heap.size ≤ k_) ∧ some k_ ≠ (u11 : Value).ownBlock ∧ some k_ ≠ (u12 : Value).ownBlock ∧ k_ ≠ gb294) v296 y295) ∧ Aside0 (Kd.R k23 23 wc w.heap.size (fun k_ => (w.heap.size ≤ k_) ∧ some k_ ≠ (v296 : Value).ownBlock ∧ some k_ ≠ (u12 : Value).ownBlock ∧ k_ ≠ gb294) u11 x11_3) ∧ Aside0 (Kd.R k23 23 wc w.heap.size (fun k_ => (w.heap.size ≤ k_) ∧ some k_ ≠ (v296 : Value).ownBlock ∧ some k_ ≠ (u11 : Value).ownBlock ∧ k_ ≠ gb294) u12 x12_29) ∧ Aside0 (wc.heap[gb294]? = some (.cells #[.int .i64 a0_0, .int .i64 a0_1, .int .i64 a0_2, .int .i64 a0_3] 23 (0, 0))) ∧ Aside0 (Below w.heap.size w wc))
           case first =>
            have H := HC39.out
            clear HC39
            by_cases c40 : 0 ≤ x44_3
            ·rw [if_pos c40] at H
             have c40b0 : decide (0 ≤ x44_3) = true := decide_eq_true c40
             clear c40
             (skip)
             by_cases c41 : x44_3 < (l2.length : Int)
             ·rw [if_pos c41] at H
              have c41b0 : decide (x44_3 < (l2.length : Int)) = true := decide_eq_true c41
              clear c41
              by_cases c42 : (rd l2 x44_3) < 1
              ·rw [if_pos c42] at H
               have c42b0 : decide ((rd l2 x44_3) < 1) = true := decide_eq_true c42
               clear c42
               have H' := Aside0.mk H
               clear H
               have p311 : 0 ≤ (x44_3 : Int) := of_decide_eq_true (by (with_reducible assumption))
               have q311 : x44_3 < (l2.length : Int) := of_decide_eq_true (by (with_reducible assumption))
               obtain ⟨ad311, e311, hx311_0⟩ := Kd.at_int HR2.out x44_3 p311 q311
               cases e311
               replace hx311_0 := (HB.out.cell (World.block_lt_of_cell? w _ hx311_0)).trans hx311_0
               replace p311 := eq_true p311
               replace q311 := eq_true q311
               go_wp2
               go_meet
               case rel => exact ⟨_, (true), (by rfl), H', ⟨by have := HJ3.out; have := HJ20.out; have := HK3.out; have := HJ29.out; omega⟩, ⟨by exact HO_9.out⟩, ⟨by exact HO_11.out⟩, ⟨by exact HO_12.out⟩, ⟨by exact BK294.out⟩, ⟨by repeat ((with_reducible exact HB.out))⟩⟩
              ·rw [if_neg c42] at H
               have c42b0 : decide ((rd l2 x44_3) < 1) = false := decide_eq_false c42
               clear c42
               by_cases c43 : (rd l2 x44_3) > x10_20
               ·rw [if_pos c43] at H
                have c43b0 : decide (x10_20 < (rd l2 x44_3)) = true := decide_eq_true c43
                clear c43
                have H' := Aside0.mk H
                clear H
                have p311 : 0 ≤ (x44_3 : Int) := of_decide_eq_true (by (with_reducible assumption))
                have q311 : x44_3 < (l2.length : Int) := of_decide_eq_true (by (with_reducible assumption))
                obtain ⟨ad311, e311, hx311_0⟩ := Kd.at_int HR2.out x44_3 p311 q311
                cases e311
                replace hx311_0 := (HB.out.cell (World.block_lt_of_cell? w _ hx311_0)).trans hx311_0
                replace p311 := eq_true p311
                replace q311 := eq_true q311
                have p312 : 0 ≤ (x44_3 : Int) := of_decide_eq_true (by (with_reducible assumption))
                have q312 : x44_3 < (l2.length : Int) := of_decide_eq_true (by (with_reducible assumption))
                obtain ⟨ad312, e312, hx312_0⟩ := Kd.at_int HR2.out x44_3 p312 q312
                obtain rfl : ad311 = ad312 := (by injection e312)
                replace hx312_0 := (HB.out.cell (World.block_lt_of_cell? w _ hx312_0)).trans hx312_0
                replace p312 := eq_true p312
                replace q312 := eq_true q312
                go_wp2
                go_meet
                case rel => exact ⟨_, (true), (by rfl), H', ⟨by have := HJ3.out; have := HJ20.out; have := HK3.out; have := HJ29.out; omega⟩, ⟨by exact HO_9.out⟩, ⟨by exact HO_11.out⟩, ⟨by exact HO_12.out⟩, ⟨by exact BK294.out⟩, ⟨by repeat ((with_reducible exact HB.out))⟩⟩
               ·rw [if_neg c43] at H
                have c43b0 : decide (x10_20 < (rd l2 x44_3)) = false := decide_eq_false c43
                clear c43
                have H' := Aside0.mk H
                clear H
                have p311 : 0 ≤ (x44_3 : Int) := of_decide_eq_true (by (with_reducible assumption))
                have q311 : x44_3 < (l2.length : Int) := of_decide_eq_true (by (with_reducible assumption))
                obtain ⟨ad311, e311, hx311_0⟩ := Kd.at_int HR2.out x44_3 p311 q311
                cases e311
                replace hx311_0 := (HB.out.cell (World.block_lt_of_cell? w _ hx311_0)).trans hx311_0
                replace p311 := eq_true p311
                replace q311 := eq_true q311
                have p312 : 0 ≤ (x44_3 : Int) := of_decide_eq_true (by (with_reducible assumption))
                have q312 : x44_3 < (l2.length : Int) := of_decide_eq_true (by (with_reducible assumption))
                obtain ⟨ad312, e312, hx312_0⟩ := Kd.at_int HR2.out x44_3 p312 q312
                obtain rfl : ad311 = ad312 := (by injection e312)
                replace hx312_0 := (HB.out.cell (World.block_lt_of_cell? w _ hx312_0)).trans hx312_0
                replace p312 := eq_true p312
                replace q312 := eq_true q312
                have p313 : 0 ≤ (x44_3 : Int) := of_decide_eq_true (by (with_reducible assumption))
                have q313 : x44_3 < (l2.length : Int) := of_decide_eq_true (by (with_reducible assumption))
                obtain ⟨ad313, e313, hx313_0⟩ := Kd.at_int HR2.out x44_3 p313 q313
                obtain rfl : ad311 = ad313 := (by injection e313)
                replace hx313_0 := (HB.out.cell (World.block_lt_of_cell? w _ hx313_0)).trans hx313_0
                replace p313 := eq_true p313
                replace q313 := eq_true q313
                go_wp2
                go_meet
                case rel => exact ⟨_, (decide ((wrap64 (x13_29 + (rd l2 x44_3))) > x10_20)), (by rfl), H', ⟨by have := HJ3.out; have := HJ20.out; have := HK3.out; have := HJ29.out; omega⟩, ⟨by exact HO_9.out⟩, ⟨by exact HO_11.out⟩, ⟨by exact HO_12.out⟩, ⟨by exact BK294.out⟩, ⟨by repeat ((with_reducible exact HB.out))⟩⟩
             ·rw [if_neg c41] at H
              exact absurd H (by simp)
            ·rw [if_neg c40] at H
             exact absurd H (by simp)
           case rest =>
            clear HC39
            obtain ⟨kq, x99_38, rfl, HA, HJ38, HO_9, HO_11, HO_12, BK294, HB⟩ := hcut
            cases kq with
            | zero => exact absurd HA.out (by simp [sashref04_Cut.j4])
            | succ kj38 =>
             have H := HA.out
             clear HA
             simp only [sashref04_Cut.j4] at H
             by_cases c44 : x99_38 = true
             ·subst c44
              have H1 : (some (y295, y295, false)) = some (r1, r2, r3) := by rw [if_pos rfl] at H; exact H
              clear H
              have H := H1
              clear H1
              simp only [Option.some.injEq, Prod.mk.injEq] at H
              obtain ⟨rfl, rfl, rfl⟩ := H
              go_wp2
              go_ret3
              exact ⟨_, _, by rfl, Kd.R_V (by exact Kd.R_mono HO_9.out (fun _ hk => hk.1)), Kd.R_V (by exact Kd.R_mono HO_9.out (fun _ hk => hk.1)), by repeat ((with_reducible exact HB.out))⟩
             ·replace c44 := Bool.eq_false_iff.mpr c44
              subst c44
              have H1 : (if a1 = 1 then (if 0 ≤ x44_3 then (if x44_3 < (l2.length : Int) then (if x11_3.length < 4398046511104 then (sashref04_Cut.l0 kj38 a1 l2 y295 x10_20 (x11_3 ++ [(⟨wrap64 (a0_0 + x13_29), a0_1, rd l2 x44_3, a0_3⟩ : S23)]) x12_29 (wrap64 (x13_29 + (rd l2 x44_3))) (l2.length : Int) (wrap64 (x44_3 + 1)) a0_0 a0_1 a0_2 a0_3) else (none)) else (none)) else (none)) else (if 0 ≤ x44_3 then (if x44_3 < (l2.length : Int) then (if x11_3.length < 4398046511104 then (sashref04_Cut.l0 kj38 a1 l2 y295 x10_20 (x11_3 ++ [(⟨a0_0, wrap64 (a0_1 + x13_29), a0_2, rd l2 x44_3⟩ : S23)]) x12_29 (wrap64 (x13_29 + (rd l2 x44_3))) (l2.length : Int) (wrap64 (x44_3 + 1)) a0_0 a0_1 a0_2 a0_3) else (none)) else (none)) else (none))) = some (r1, r2, r3) := by rw [if_neg (show ¬ (false = true) by decide)] at H; exact H
              clear H
              have H := H1
              clear H1
              by_cases c45 : a1 = 1
              ·rw [if_pos c45] at H
               have c45b0 : (a1 == 1) = true := beq_iff_eq.mpr c45
               have c45b1 : (a1 != 1) = false := bne_eq_false_iff_eq.mpr c45
               clear c45
               by_cases c46 : 0 ≤ x44_3
               ·rw [if_pos c46] at H
                have c46b0 : decide (0 ≤ x44_3) = true := decide_eq_true c46
                clear c46
                by_cases c47 : x44_3 < (l2.length : Int)
                ·rw [if_pos c47] at H
                 have c47b0 : decide (x44_3 < (l2.length : Int)) = true := decide_eq_true c47
                 clear c47
                 by_cases c48 : x11_3.length < 4398046511104
                 ·rw [if_pos c48] at H
                  have LMc48 := Aside0.mk c48
                  clear c48
                  obtain ⟨y315, hy315⟩ : ∃ y_ : List (S23), y_ = (x11_3 ++ [(⟨wrap64 (a0_0 + x13_29), a0_1, rd l2 x44_3, a0_3⟩ : S23)]) := ⟨_, rfl⟩
                  replace H : (sashref04_Cut.l0 kj38 a1 l2 y295 x10_20 y315 x12_29 (wrap64 (x13_29 + (rd l2 x44_3))) (l2.length : Int) (wrap64 (x44_3 + 1)) a0_0 a0_1 a0_2 a0_3) = some (r1, r2, r3) := by (rw [hy315]; with_reducible exact H)
                  have Ny315 := Aside0.mk hy315
                  clear hy315
                  have H' := Aside0.mk H
                  clear H
                  try go_wp2
                  replace HO_9 := Aside0.mk (Kd.R_drew HO_9.out); replace HO_11 := Aside0.mk (Kd.R_drew HO_11.out); replace HO_12 := Aside0.mk (Kd.R_drew HO_12.out); replace BK294 := Aside0.mk (blk_drew BK294.out); replace HB := Aside0.mk (below_drew1 HB.out)
                  have p314 : 0 ≤ (x44_3 : Int) := of_decide_eq_true (by (with_reducible assumption))
                  have q314 : x44_3 < (l2.length : Int) := of_decide_eq_true (by (with_reducible assumption))
                  obtain ⟨ad314, e314, hx314_0⟩ := Kd.at_int HR2.out x44_3 p314 q314
                  have hw314_0 := hx314_0
                  cases e314
                  replace hx314_0 := (HB.out.cell (World.block_lt_of_cell? w _ hx314_0)).trans hx314_0
                  replace p314 := eq_true p314
                  replace q314 := eq_true q314
                  refine start_ (n := 17) (S := fun w' => w'.cell? ⟨gb294, 0, none⟩ = some (.int .i64 a0_0) ∧ w'.cell? ⟨gb294, 1, none⟩ = some (.int .i64 a0_1) ∧ w'.cell? ⟨gb294, 2, none⟩ = some (.int .i64 a0_2) ∧ w'.cell? ⟨gb294, 3, none⟩ = some (.int .i64 a0_3) ∧ w'.cell? (ad314.add (x44_3).toNat) = some (.int .i64 (rd l2 x44_3))) (ds := []) #[false, false, false, false, false, false, false, false, false, false, false, false, false, false, false, false, false] (by kernel_rfl) rfl rfl ⟨(blk_cell BK294.out 0).trans rfl, (blk_cell BK294.out 1).trans rfl, (blk_cell BK294.out 2).trans rfl, (blk_cell BK294.out 3).trans rfl, ((HB.out.cell (World.block_lt_of_cell? w _ hw314_0)).trans hw314_0)⟩ (fun hHeld => ?_); refine with_tabW sashref04_Cut.tab20 sashref04_Cut.bits20 (fun HT_ HW_ => ?_)
                  generalize wc.drew = w49 at HO_9 HO_11 HO_12 BK294 HB hx314_0 hHeld ⊢
                  refine pure_ (i := 0) (N := some 104) (v := ?_) (a' := ?_) #[true, false, false, false, false, false, false, false, false, false, false, false, false, false, false, false, false] rfl rfl (any_of HT_.out (by kernel_rfl)) (fun _ _ _ h => h) (Or.inl ⟨by rfl, ?_⟩) ?_ ?_
                  rotate_left
                  ·intro w'
                   go_simp
                   with_reducible rfl
                  rotate_left
                  ·simp only [Act.put, List.setIfInBounds_toArray, List.set_cons_zero, List.set_cons_succ, i64_w, i32_w]
                   rfl
                  refine pure_ (i := 1) (N := some 105) (v := ?_) (a' := ?_) #[true, true, false, false, false, false, false, false, false, false, false, false, false, false, false, false, false] rfl rfl (any_of HT_.out (by kernel_rfl)) (fun _ _ _ h => h) (Or.inl ⟨by rfl, ?_⟩) ?_ ?_
                  rotate_left
                  ·intro w'
                   go_simp
                   with_reducible rfl
                  rotate_left
                  ·simp only [Act.put, List.setIfInBounds_toArray, List.set_cons_zero, List.set_cons_succ, i64_w, i32_w]
                   rfl
                  refine pure_ (i := 3) (N := some 107) (v := ?_) (a' := ?_) #[true, true, false, true, false, false, false, false, false, false, false, false, false, false, false, false, false] rfl rfl (any_of HT_.out (by kernel_rfl)) (fun _ _ _ h => h) (Or.inl ⟨by rfl, ?_⟩) ?_ ?_
                  rotate_left
                  ·intro w'
                   go_simp
                   with_reducible rfl
                  rotate_left
                  ·simp only [Act.put, List.setIfInBounds_toArray, List.set_cons_zero, List.set_cons_succ, i64_w, i32_w]
                   rfl
                  refine pure_ (i := 5) (N := some 109) (v := ?_) (a' := ?_) #[true, true, false, true, false, true, false, false, false, false, false, false, false, false, false, false, false] rfl rfl (any_of HT_.out (by kernel_rfl)) (fun _ _ _ h => h) (Or.inl ⟨by rfl, ?_⟩) ?_ ?_
                  rotate_left
                  ·intro w'
                   go_simp
                   with_reducible rfl
                  rotate_left
                  ·simp only [Act.put, List.setIfInBounds_toArray, List.set_cons_zero, List.set_cons_succ, i64_w, i32_w]
                   rfl
                  refine pure_ (i := 7) (N := some 111) (v := ?_) (a' := ?_) #[true, true, false, true, false, true, false, true, false, false, false, false, false, false, false, false, false] rfl rfl (any_of HT_.out (by kernel_rfl)) (fun _ _ _ h => h) (Or.inl ⟨by rfl, ?_⟩) ?_ ?_
                  rotate_left
                  ·intro w'
                   go_simp
                   with_reducible rfl
                  rotate_left
                  ·simp only [Act.put, List.setIfInBounds_toArray, List.set_cons_zero, List.set_cons_succ, i64_w, i32_w]
                   rfl
                  refine pure_ (i := 8) (N := some 112) (v := ?_) (a' := ?_) #[true, true, false, true, false, true, false, true, true, false, false, false, false, false, false, false, false] rfl rfl (any_of HT_.out (by kernel_rfl)) (fun _ _ _ h => h) (Or.inl ⟨by rfl, ?_⟩) ?_ ?_
                  rotate_left
                  ·intro w'
                   go_simp
                   with_reducible rfl
                  rotate_left
                  ·simp only [Act.put, List.setIfInBounds_toArray, List.set_cons_zero, List.set_cons_succ, i64_w, i32_w]
                   rfl
                  refine pure_ (i := 9) (N := some 113) (v := ?_) (a' := ?_) #[true, true, false, true, false, true, false, true, true, true, false, false, false, false, false, false, false] rfl rfl (any_of HT_.out (by kernel_rfl)) (fun _ _ _ h => h) (Or.inl ⟨by rfl, ?_⟩) ?_ ?_
                  rotate_left
                  ·intro w'
                   go_simp
                   with_reducible rfl
                  rotate_left
                  ·simp only [Act.put, List.setIfInBounds_toArray, List.set_cons_zero, List.set_cons_succ, i64_w, i32_w]
                   rfl
                  refine pure_ (i := 11) (N := some 115) (v := ?_) (a' := ?_) #[true, true, false, true, false, true, false, true, true, true, false, true, false, false, false, false, false] rfl rfl (any_of HT_.out (by kernel_rfl)) (fun _ _ _ h => h) (Or.inl ⟨by rfl, ?_⟩) ?_ ?_
                  rotate_left
                  ·intro w'
                   go_simp
                   with_reducible rfl
                  rotate_left
                  ·simp only [Act.put, List.setIfInBounds_toArray, List.set_cons_zero, List.set_cons_succ, i64_w, i32_w]
                   rfl
                  refine take_ (i := 2) (N := some 106) (v := ?_) (a' := ?_) #[true, true, true, true, false, true, false, true, true, true, false, true, false, false, false, false, false] rfl rfl (take_ofW HT_.out HW_.out (by kernel_rfl)) (fun _ _ _ h => h) (Or.inl ⟨by rfl, ?_⟩) hHeld ?_ ?_
                  rotate_left
                  ·rintro w' ⟨s0, s1, s2, s3, s4⟩
                   go_simp
                   with_reducible rfl
                  rotate_left
                  ·simp only [Act.put, List.setIfInBounds_toArray, List.set_cons_zero, List.set_cons_succ, i64_w, i32_w]
                   rfl
                  refine pure_ (i := 4) (N := some 108) (v := ?_) (a' := ?_) #[true, true, true, true, true, true, false, true, true, true, false, true, false, false, false, false, false] rfl rfl (any_of HT_.out (by kernel_rfl)) (fun _ _ _ h => h) (Or.inl ⟨by rfl, ?_⟩) ?_ ?_
                  rotate_left
                  ·intro w'
                   go_simp
                   with_reducible rfl
                  rotate_left
                  ·simp only [Act.put, List.setIfInBounds_toArray, List.set_cons_zero, List.set_cons_succ, i64_w, i32_w]
                   rfl
                  refine take_ (i := 6) (N := some 110) (v := ?_) (a' := ?_) #[true, true, true, true, true, true, true, true, true, true, false, true, false, false, false, false, false] rfl rfl (take_ofW HT_.out HW_.out (by kernel_rfl)) (fun _ _ _ h => h) (Or.inl ⟨by rfl, ?_⟩) hHeld ?_ ?_
                  rotate_left
                  ·rintro w' ⟨s0, s1, s2, s3, s4⟩
                   go_simp
                   with_reducible rfl
                  rotate_left
                  ·simp only [Act.put, List.setIfInBounds_toArray, List.set_cons_zero, List.set_cons_succ, i64_w, i32_w]
                   rfl
                  refine take_ (i := 10) (N := some 114) (v := ?_) (a' := ?_) #[true, true, true, true, true, true, true, true, true, true, true, true, false, false, false, false, false] rfl rfl (take_ofW HT_.out HW_.out (by kernel_rfl)) (fun _ _ _ h => h) (Or.inl ⟨by rfl, ?_⟩) hHeld ?_ ?_
                  rotate_left
                  ·rintro w' ⟨s0, s1, s2, s3, s4⟩
                   go_simp
                   with_reducible rfl
                  rotate_left
                  ·simp only [Act.put, List.setIfInBounds_toArray, List.set_cons_zero, List.set_cons_succ, i64_w, i32_w]
                   rfl
                  refine take_ (i := 12) (N := some 116) (v := ?_) (a' := ?_) #[true, true, true, true, true, true, true, true, true, true, true, true, true, false, false, false, false] rfl rfl (take_ofW HT_.out HW_.out (by kernel_rfl)) (fun _ _ _ h => h) (Or.inl ⟨by rfl, ?_⟩) hHeld ?_ ?_
                  rotate_left
                  ·rintro w' ⟨s0, s1, s2, s3, s4⟩
                   go_simp
                   with_reducible rfl
                  rotate_left
                  ·simp only [Act.put, List.setIfInBounds_toArray, List.set_cons_zero, List.set_cons_succ, i64_w, i32_w]
                   rfl
                  refine pure_ (i := 13) (N := some 117) (v := ?_) (a' := ?_) #[true, true, true, true, true, true, true, true, true, true, true, true, true, true, false, false, false] rfl rfl (any_of HT_.out (by kernel_rfl)) (fun _ _ _ h => h) (Or.inl ⟨by rfl, ?_⟩) ?_ ?_
                  rotate_left
                  ·intro w'
                   go_simp
                   with_reducible rfl
                  rotate_left
                  ·simp only [Act.put, List.setIfInBounds_toArray, List.set_cons_zero, List.set_cons_succ, i64_w, i32_w]
                   rfl
                  refine one_ (i := 14) (N := some 118) #[true, true, true, true, true, true, true, true, true, true, true, true, true, true, true, false, false] rfl rfl (one_of HT_.out (by kernel_rfl)) (by decide) (fun K hK => ?_)
                  refine value_ (w1 := ?_) (v := ?_) (by rfl) rfl ?_ ?_
                  rotate_left 2
                  ·go_simp
                   constructor
                   ·rfl
                   ·rfl
                  refine hK.out _ _ ⟨(blk_cell (blk_alloc BK294.out _) 0).trans rfl, (blk_cell (blk_alloc BK294.out _) 1).trans rfl, (blk_cell (blk_alloc BK294.out _) 2).trans rfl, (blk_cell (blk_alloc BK294.out _) 3).trans rfl, (World.cell?_alloc_lt _ _ _ (World.block_lt_of_cell? _ _ (((HB.out.cell (World.block_lt_of_cell? w _ hw314_0)).trans hw314_0)))).trans (((HB.out.cell (World.block_lt_of_cell? w _ hw314_0)).trans hw314_0))⟩ (fun hHeld => ?_)
                  clear hK K
                  refine norm_ (a' := ?_) ?_ ?_
                  rotate_left
                  ·show Act.put _ (some 118) _ = _
                   simp only [Act.put, List.setIfInBounds_toArray, List.set_cons_zero, List.set_cons_succ, i64_w, i32_w]
                   rfl
                  refine one_ (i := 15) (N := some 119) #[true, true, true, true, true, true, true, true, true, true, true, true, true, true, true, true, false] rfl rfl (one_of HT_.out (by kernel_rfl)) (by decide) (fun K hK => ?_)
                  refine Kd.R_append_step k23 (w0 := w) w.heap.size (by rfl) (.tmp 104) (.tmp 118) 42 23 (.agg #[(.int .i64 0), (.int .i64 0), (.int .i64 0), (.int .i64 0)]) 32 rfl Try.underlying42 info23 rfl (by decide) (by omega) u11 x11_3 (⟨wrap64 (a0_0 + x13_29), a0_1, rd l2 x44_3, a0_3⟩ : S23) [.int .i64 (wrap64 (a0_0 + x13_29)), .int .i64 a0_1, .int .i64 (rd l2 x44_3), .int .i64 a0_3] (fun k_ => (w.heap.size ≤ k_) ∧ some k_ ≠ (v296 : Value).ownBlock ∧ some k_ ≠ (u12 : Value).ownBlock ∧ k_ ≠ gb294) (fun _ => False) rfl rfl ?aP (fun _ hk => hk.elim) ?aF ?aO ?aB ?aS ?aL ?_
                  (case aP => exact k23_mkM _ _ _ (⟨wrap64 (a0_0 + x13_29), a0_1, rd l2 x44_3, a0_3⟩ : S23))
                  (case aB => exact (by repeat ((with_reducible exact HB.out))))
                  (case aF => exact (fun k_ hk => ⟨(Nat.le_trans (below_size (by repeat ((with_reducible exact HB.out)))) hk), Kd.fresh' (Kd.R_lt HO_9.out) k_ hk, Kd.fresh' (Kd.R_lt HO_12.out) k_ hk, Kd.freshB BK294.out k_ hk⟩))
                  (case aO => exact HO_11.out)
                  (case aS => exact (below_size (by repeat ((with_reducible exact HB.out)))))
                  (case aL => have := LMc48.out; omega)
                  intro v316 w50 ho hb hg hat
                  rw [← Ny315.out] at ho
                  have HO317 := Aside0.mk (ho); replace HO_9 := Aside0.mk (Kd.R_after (ok := (fun k_ => (w.heap.size ≤ k_) ∧ some k_ ≠ (u12 : Value).ownBlock ∧ k_ ≠ gb294)) (by exact Kd.R_mono HO_9.out (fun _ hk => ⟨⟨hk.1, ⟨hk.2.2.1, hk.2.2.2⟩⟩, hk.2.1⟩)) hg hat); replace HO_12 := Aside0.mk (Kd.R_after (ok := (fun k_ => (w.heap.size ≤ k_) ∧ some k_ ≠ (v296 : Value).ownBlock ∧ k_ ≠ gb294)) (by exact Kd.R_mono HO_12.out (fun _ hk => ⟨⟨hk.1, ⟨hk.2.1, hk.2.2.2⟩⟩, hk.2.2.1⟩)) hg hat); replace BK294 := Aside0.mk (blk_grown BK294.out hg (Kd.R_away HO_11.out (fun _ hk => hk.2.2.2))); replace HB := Aside0.mk (hb); clear HO_11
                  clear ho hb hg hat
                  refine hK.out _ _ ⟨(blk_cell BK294.out 0).trans rfl, (blk_cell BK294.out 1).trans rfl, (blk_cell BK294.out 2).trans rfl, (blk_cell BK294.out 3).trans rfl, ((HB.out.cell (World.block_lt_of_cell? w _ hw314_0)).trans hw314_0)⟩ (fun hHeld => ?_)
                  clear hK K
                  refine norm_ (a' := ?_) ?_ ?_
                  rotate_left
                  ·show Act.put _ (some 119) _ = _
                   simp only [Act.put, List.setIfInBounds_toArray, List.set_cons_zero, List.set_cons_succ, i64_w, i32_w]
                   rfl
                  refine pure_ (i := 16) (N := some 11) (v := ?_) (a' := ?_) #[true, true, true, true, true, true, true, true, true, true, true, true, true, true, true, true, true] rfl rfl (any_of HT_.out (by kernel_rfl)) (fun _ _ _ h => h) (Or.inl ⟨by rfl, ?_⟩) ?_ ?_
                  rotate_left
                  ·intro w'
                   go_simp
                   with_reducible rfl
                  rotate_left
                  ·simp only [Act.put, List.setIfInBounds_toArray, List.set_cons_zero, List.set_cons_succ, i64_w, i32_w]
                   rfl
                  refine done_ (done_of HT_.out (by kernel_rfl)) ?_
                  have p318 : 0 ≤ (x44_3 : Int) := of_decide_eq_true (by (with_reducible assumption))
                  have q318 : x44_3 < (l2.length : Int) := of_decide_eq_true (by (with_reducible assumption))
                  obtain ⟨ad318, e318, hx318_0⟩ := Kd.at_int HR2.out x44_3 p318 q318
                  obtain rfl : ad314 = ad318 := (by injection e318)
                  replace hx318_0 := (HB.out.cell (World.block_lt_of_cell? w _ hx318_0)).trans hx318_0
                  replace p318 := eq_true p318
                  replace q318 := eq_true q318
                  try go_wp2
                  go_roundg kj38
                  case measure => have := HJ3.out; have := HJ20.out; have := HK3.out; have := HJ29.out; have := HJ38.out; omega
                  case rel => exact ⟨(y315), (x12_29), (wrap64 (x13_29 + (rd l2 x44_3))), (wrap64 (x44_3 + 1)), (by rfl), (by rfl), H', ⟨by have := HJ3.out; have := HJ20.out; have := HK3.out; have := HJ29.out; have := HJ38.out; omega⟩, ⟨by exact Kd.R_mono HO_9.out (fun _ hk => ⟨hk.1.1, ⟨hk.2, ⟨hk.1.2.1, hk.1.2.2⟩⟩⟩)⟩, ⟨by exact HO317.out⟩, ⟨by exact Kd.R_mono HO_12.out (fun _ hk => ⟨hk.1.1, ⟨hk.1.2.1, ⟨hk.2, hk.1.2.2⟩⟩⟩)⟩, ⟨by exact BK294.out⟩, ⟨by repeat ((with_reducible exact HB.out))⟩⟩
                 ·rw [if_neg c48] at H
                  exact absurd H (by simp)
                ·rw [if_neg c47] at H
                 exact absurd H (by simp)
               ·rw [if_neg c46] at H
                exact absurd H (by simp)
              ·rw [if_neg c45] at H
               have c45b0 : (a1 == 1) = false := beq_eq_false_iff_ne.mpr c45
               have c45b1 : (a1 != 1) = true := bne_iff_ne.mpr c45
               by_cases c51 : 0 ≤ x44_3
               ·rw [if_pos c51] at H
                have c51b0 : decide (0 ≤ x44_3) = true := decide_eq_true c51
                clear c51
                by_cases c52 : x44_3 < (l2.length : Int)
                ·rw [if_pos c52] at H
                 have c52b0 : decide (x44_3 < (l2.length : Int)) = true := decide_eq_true c52
                 clear c52
                 by_cases c53 : x11_3.length < 4398046511104
                 ·rw [if_pos c53] at H
                  have LMc53 := Aside0.mk c53
                  clear c53
                  obtain ⟨y320, hy320⟩ : ∃ y_ : List (S23), y_ = (x11_3 ++ [(⟨a0_0, wrap64 (a0_1 + x13_29), a0_2, rd l2 x44_3⟩ : S23)]) := ⟨_, rfl⟩
                  replace H : (sashref04_Cut.l0 kj38 a1 l2 y295 x10_20 y320 x12_29 (wrap64 (x13_29 + (rd l2 x44_3))) (l2.length : Int) (wrap64 (x44_3 + 1)) a0_0 a0_1 a0_2 a0_3) = some (r1, r2, r3) := by (rw [hy320]; with_reducible exact H)
                  have Ny320 := Aside0.mk hy320
                  clear hy320
                  have H' := Aside0.mk H
                  clear H
                  try go_wp2
                  replace HO_9 := Aside0.mk (Kd.R_drew HO_9.out); replace HO_11 := Aside0.mk (Kd.R_drew HO_11.out); replace HO_12 := Aside0.mk (Kd.R_drew HO_12.out); replace BK294 := Aside0.mk (blk_drew BK294.out); replace HB := Aside0.mk (below_drew1 HB.out)
                  have p319 : 0 ≤ (x44_3 : Int) := of_decide_eq_true (by (with_reducible assumption))
                  have q319 : x44_3 < (l2.length : Int) := of_decide_eq_true (by (with_reducible assumption))
                  obtain ⟨ad319, e319, hx319_0⟩ := Kd.at_int HR2.out x44_3 p319 q319
                  have hw319_0 := hx319_0
                  cases e319
                  replace hx319_0 := (HB.out.cell (World.block_lt_of_cell? w _ hx319_0)).trans hx319_0
                  replace p319 := eq_true p319
                  replace q319 := eq_true q319
                  refine start_ (n := 17) (S := fun w' => w'.cell? ⟨gb294, 0, none⟩ = some (.int .i64 a0_0) ∧ w'.cell? ⟨gb294, 1, none⟩ = some (.int .i64 a0_1) ∧ w'.cell? ⟨gb294, 2, none⟩ = some (.int .i64 a0_2) ∧ w'.cell? ⟨gb294, 3, none⟩ = some (.int .i64 a0_3) ∧ w'.cell? (ad319.add (x44_3).toNat) = some (.int .i64 (rd l2 x44_3))) (ds := []) #[false, false, false, false, false, false, false, false, false, false, false, false, false, false, false, false, false] (by kernel_rfl) rfl rfl ⟨(blk_cell BK294.out 0).trans rfl, (blk_cell BK294.out 1).trans rfl, (blk_cell BK294.out 2).trans rfl, (blk_cell BK294.out 3).trans rfl, ((HB.out.cell (World.block_lt_of_cell? w _ hw319_0)).trans hw319_0)⟩ (fun hHeld => ?_); refine with_tabW sashref04_Cut.tab21 sashref04_Cut.bits21 (fun HT_ HW_ => ?_)
                  generalize wc.drew = w54 at HO_9 HO_11 HO_12 BK294 HB hx319_0 hHeld ⊢
                  refine pure_ (i := 0) (N := some 120) (v := ?_) (a' := ?_) #[true, false, false, false, false, false, false, false, false, false, false, false, false, false, false, false, false] rfl rfl (any_of HT_.out (by kernel_rfl)) (fun _ _ _ h => h) (Or.inl ⟨by rfl, ?_⟩) ?_ ?_
                  rotate_left
                  ·intro w'
                   go_simp
                   with_reducible rfl
                  rotate_left
                  ·simp only [Act.put, List.setIfInBounds_toArray, List.set_cons_zero, List.set_cons_succ, i64_w, i32_w]
                   rfl
                  refine pure_ (i := 1) (N := some 121) (v := ?_) (a' := ?_) #[true, true, false, false, false, false, false, false, false, false, false, false, false, false, false, false, false] rfl rfl (any_of HT_.out (by kernel_rfl)) (fun _ _ _ h => h) (Or.inl ⟨by rfl, ?_⟩) ?_ ?_
                  rotate_left
                  ·intro w'
                   go_simp
                   with_reducible rfl
                  rotate_left
                  ·simp only [Act.put, List.setIfInBounds_toArray, List.set_cons_zero, List.set_cons_succ, i64_w, i32_w]
                   rfl
                  refine pure_ (i := 3) (N := some 123) (v := ?_) (a' := ?_) #[true, true, false, true, false, false, false, false, false, false, false, false, false, false, false, false, false] rfl rfl (any_of HT_.out (by kernel_rfl)) (fun _ _ _ h => h) (Or.inl ⟨by rfl, ?_⟩) ?_ ?_
                  rotate_left
                  ·intro w'
                   go_simp
                   with_reducible rfl
                  rotate_left
                  ·simp only [Act.put, List.setIfInBounds_toArray, List.set_cons_zero, List.set_cons_succ, i64_w, i32_w]
                   rfl
                  refine pure_ (i := 5) (N := some 125) (v := ?_) (a' := ?_) #[true, true, false, true, false, true, false, false, false, false, false, false, false, false, false, false, false] rfl rfl (any_of HT_.out (by kernel_rfl)) (fun _ _ _ h => h) (Or.inl ⟨by rfl, ?_⟩) ?_ ?_
                  rotate_left
                  ·intro w'
                   go_simp
                   with_reducible rfl
                  rotate_left
                  ·simp only [Act.put, List.setIfInBounds_toArray, List.set_cons_zero, List.set_cons_succ, i64_w, i32_w]
                   rfl
                  refine pure_ (i := 7) (N := some 127) (v := ?_) (a' := ?_) #[true, true, false, true, false, true, false, true, false, false, false, false, false, false, false, false, false] rfl rfl (any_of HT_.out (by kernel_rfl)) (fun _ _ _ h => h) (Or.inl ⟨by rfl, ?_⟩) ?_ ?_
                  rotate_left
                  ·intro w'
                   go_simp
                   with_reducible rfl
                  rotate_left
                  ·simp only [Act.put, List.setIfInBounds_toArray, List.set_cons_zero, List.set_cons_succ, i64_w, i32_w]
                   rfl
                  refine pure_ (i := 9) (N := some 129) (v := ?_) (a' := ?_) #[true, true, false, true, false, true, false, true, false, true, false, false, false, false, false, false, false] rfl rfl (any_of HT_.out (by kernel_rfl)) (fun _ _ _ h => h) (Or.inl ⟨by rfl, ?_⟩) ?_ ?_
                  rotate_left
                  ·intro w'
                   go_simp
                   with_reducible rfl
                  rotate_left
                  ·simp only [Act.put, List.setIfInBounds_toArray, List.set_cons_zero, List.set_cons_succ, i64_w, i32_w]
                   rfl
                  refine pure_ (i := 10) (N := some 130) (v := ?_) (a' := ?_) #[true, true, false, true, false, true, false, true, false, true, true, false, false, false, false, false, false] rfl rfl (any_of HT_.out (by kernel_rfl)) (fun _ _ _ h => h) (Or.inl ⟨by rfl, ?_⟩) ?_ ?_
                  rotate_left
                  ·intro w'
                   go_simp
                   with_reducible rfl
                  rotate_left
                  ·simp only [Act.put, List.setIfInBounds_toArray, List.set_cons_zero, List.set_cons_succ, i64_w, i32_w]
                   rfl
                  refine pure_ (i := 11) (N := some 131) (v := ?_) (a' := ?_) #[true, true, false, true, false, true, false, true, false, true, true, true, false, false, false, false, false] rfl rfl (any_of HT_.out (by kernel_rfl)) (fun _ _ _ h => h) (Or.inl ⟨by rfl, ?_⟩) ?_ ?_
                  rotate_left
                  ·intro w'
                   go_simp
                   with_reducible rfl
                  rotate_left
                  ·simp only [Act.put, List.setIfInBounds_toArray, List.set_cons_zero, List.set_cons_succ, i64_w, i32_w]
                   rfl
                  refine take_ (i := 2) (N := some 122) (v := ?_) (a' := ?_) #[true, true, true, true, false, true, false, true, false, true, true, true, false, false, false, false, false] rfl rfl (take_ofW HT_.out HW_.out (by kernel_rfl)) (fun _ _ _ h => h) (Or.inl ⟨by rfl, ?_⟩) hHeld ?_ ?_
                  rotate_left
                  ·rintro w' ⟨s0, s1, s2, s3, s4⟩
                   go_simp
                   with_reducible rfl
                  rotate_left
                  ·simp only [Act.put, List.setIfInBounds_toArray, List.set_cons_zero, List.set_cons_succ, i64_w, i32_w]
                   rfl
                  refine take_ (i := 4) (N := some 124) (v := ?_) (a' := ?_) #[true, true, true, true, true, true, false, true, false, true, true, true, false, false, false, false, false] rfl rfl (take_ofW HT_.out HW_.out (by kernel_rfl)) (fun _ _ _ h => h) (Or.inl ⟨by rfl, ?_⟩) hHeld ?_ ?_
                  rotate_left
                  ·rintro w' ⟨s0, s1, s2, s3, s4⟩
                   go_simp
                   with_reducible rfl
                  rotate_left
                  ·simp only [Act.put, List.setIfInBounds_toArray, List.set_cons_zero, List.set_cons_succ, i64_w, i32_w]
                   rfl
                  refine pure_ (i := 6) (N := some 126) (v := ?_) (a' := ?_) #[true, true, true, true, true, true, true, true, false, true, true, true, false, false, false, false, false] rfl rfl (any_of HT_.out (by kernel_rfl)) (fun _ _ _ h => h) (Or.inl ⟨by rfl, ?_⟩) ?_ ?_
                  rotate_left
                  ·intro w'
                   go_simp
                   with_reducible rfl
                  rotate_left
                  ·simp only [Act.put, List.setIfInBounds_toArray, List.set_cons_zero, List.set_cons_succ, i64_w, i32_w]
                   rfl
                  refine take_ (i := 8) (N := some 128) (v := ?_) (a' := ?_) #[true, true, true, true, true, true, true, true, true, true, true, true, false, false, false, false, false] rfl rfl (take_ofW HT_.out HW_.out (by kernel_rfl)) (fun _ _ _ h => h) (Or.inl ⟨by rfl, ?_⟩) hHeld ?_ ?_
                  rotate_left
                  ·rintro w' ⟨s0, s1, s2, s3, s4⟩
                   go_simp
                   with_reducible rfl
                  rotate_left
                  ·simp only [Act.put, List.setIfInBounds_toArray, List.set_cons_zero, List.set_cons_succ, i64_w, i32_w]
                   rfl
                  refine take_ (i := 12) (N := some 132) (v := ?_) (a' := ?_) #[true, true, true, true, true, true, true, true, true, true, true, true, true, false, false, false, false] rfl rfl (take_ofW HT_.out HW_.out (by kernel_rfl)) (fun _ _ _ h => h) (Or.inl ⟨by rfl, ?_⟩) hHeld ?_ ?_
                  rotate_left
                  ·rintro w' ⟨s0, s1, s2, s3, s4⟩
                   go_simp
                   with_reducible rfl
                  rotate_left
                  ·simp only [Act.put, List.setIfInBounds_toArray, List.set_cons_zero, List.set_cons_succ, i64_w, i32_w]
                   rfl
                  refine pure_ (i := 13) (N := some 133) (v := ?_) (a' := ?_) #[true, true, true, true, true, true, true, true, true, true, true, true, true, true, false, false, false] rfl rfl (any_of HT_.out (by kernel_rfl)) (fun _ _ _ h => h) (Or.inl ⟨by rfl, ?_⟩) ?_ ?_
                  rotate_left
                  ·intro w'
                   go_simp
                   with_reducible rfl
                  rotate_left
                  ·simp only [Act.put, List.setIfInBounds_toArray, List.set_cons_zero, List.set_cons_succ, i64_w, i32_w]
                   rfl
                  refine one_ (i := 14) (N := some 134) #[true, true, true, true, true, true, true, true, true, true, true, true, true, true, true, false, false] rfl rfl (one_of HT_.out (by kernel_rfl)) (by decide) (fun K hK => ?_)
                  refine value_ (w1 := ?_) (v := ?_) (by rfl) rfl ?_ ?_
                  rotate_left 2
                  ·go_simp
                   constructor
                   ·rfl
                   ·rfl
                  refine hK.out _ _ ⟨(blk_cell (blk_alloc BK294.out _) 0).trans rfl, (blk_cell (blk_alloc BK294.out _) 1).trans rfl, (blk_cell (blk_alloc BK294.out _) 2).trans rfl, (blk_cell (blk_alloc BK294.out _) 3).trans rfl, (World.cell?_alloc_lt _ _ _ (World.block_lt_of_cell? _ _ (((HB.out.cell (World.block_lt_of_cell? w _ hw319_0)).trans hw319_0)))).trans (((HB.out.cell (World.block_lt_of_cell? w _ hw319_0)).trans hw319_0))⟩ (fun hHeld => ?_)
                  clear hK K
                  refine norm_ (a' := ?_) ?_ ?_
                  rotate_left
                  ·show Act.put _ (some 134) _ = _
                   simp only [Act.put, List.setIfInBounds_toArray, List.set_cons_zero, List.set_cons_succ, i64_w, i32_w]
                   rfl
                  refine one_ (i := 15) (N := some 135) #[true, true, true, true, true, true, true, true, true, true, true, true, true, true, true, true, false] rfl rfl (one_of HT_.out (by kernel_rfl)) (by decide) (fun K hK => ?_)
                  refine Kd.R_append_step k23 (w0 := w) w.heap.size (by rfl) (.tmp 120) (.tmp 134) 42 23 (.agg #[(.int .i64 0), (.int .i64 0), (.int .i64 0), (.int .i64 0)]) 32 rfl Try.underlying42 info23 rfl (by decide) (by omega) u11 x11_3 (⟨a0_0, wrap64 (a0_1 + x13_29), a0_2, rd l2 x44_3⟩ : S23) [.int .i64 a0_0, .int .i64 (wrap64 (a0_1 + x13_29)), .int .i64 a0_2, .int .i64 (rd l2 x44_3)] (fun k_ => (w.heap.size ≤ k_) ∧ some k_ ≠ (v296 : Value).ownBlock ∧ some k_ ≠ (u12 : Value).ownBlock ∧ k_ ≠ gb294) (fun _ => False) rfl rfl ?aP (fun _ hk => hk.elim) ?aF ?aO ?aB ?aS ?aL ?_
                  (case aP => exact k23_mkM _ _ _ (⟨a0_0, wrap64 (a0_1 + x13_29), a0_2, rd l2 x44_3⟩ : S23))
                  (case aB => exact (by repeat ((with_reducible exact HB.out))))
                  (case aF => exact (fun k_ hk => ⟨(Nat.le_trans (below_size (by repeat ((with_reducible exact HB.out)))) hk), Kd.fresh' (Kd.R_lt HO_9.out) k_ hk, Kd.fresh' (Kd.R_lt HO_12.out) k_ hk, Kd.freshB BK294.out k_ hk⟩))
                  (case aO => exact HO_11.out)
                  (case aS => exact (below_size (by repeat ((with_reducible exact HB.out)))))
                  (case aL => have := LMc53.out; omega)
                  intro v321 w55 ho hb hg hat
                  rw [← Ny320.out] at ho
                  have HO322 := Aside0.mk (ho); replace HO_9 := Aside0.mk (Kd.R_after (ok := (fun k_ => (w.heap.size ≤ k_) ∧ some k_ ≠ (u12 : Value).ownBlock ∧ k_ ≠ gb294)) (by exact Kd.R_mono HO_9.out (fun _ hk => ⟨⟨hk.1, ⟨hk.2.2.1, hk.2.2.2⟩⟩, hk.2.1⟩)) hg hat); replace HO_12 := Aside0.mk (Kd.R_after (ok := (fun k_ => (w.heap.size ≤ k_) ∧ some k_ ≠ (v296 : Value).ownBlock ∧ k_ ≠ gb294)) (by exact Kd.R_mono HO_12.out (fun _ hk => ⟨⟨hk.1, ⟨hk.2.1, hk.2.2.2⟩⟩, hk.2.2.1⟩)) hg hat); replace BK294 := Aside0.mk (blk_grown BK294.out hg (Kd.R_away HO_11.out (fun _ hk => hk.2.2.2))); replace HB := Aside0.mk (hb); clear HO_11
                  clear ho hb hg hat
                  refine hK.out _ _ ⟨(blk_cell BK294.out 0).trans rfl, (blk_cell BK294.out 1).trans rfl, (blk_cell BK294.out 2).trans rfl, (blk_cell BK294.out 3).trans rfl, ((HB.out.cell (World.block_lt_of_cell? w _ hw319_0)).trans hw319_0)⟩ (fun hHeld => ?_)
                  clear hK K
                  refine norm_ (a' := ?_) ?_ ?_
                  rotate_left
                  ·show Act.put _ (some 135) _ = _
                   simp only [Act.put, List.setIfInBounds_toArray, List.set_cons_zero, List.set_cons_succ, i64_w, i32_w]
                   rfl
                  refine pure_ (i := 16) (N := some 11) (v := ?_) (a' := ?_) #[true, true, true, true, true, true, true, true, true, true, true, true, true, true, true, true, true] rfl rfl (any_of HT_.out (by kernel_rfl)) (fun _ _ _ h => h) (Or.inl ⟨by rfl, ?_⟩) ?_ ?_
                  rotate_left
                  ·intro w'
                   go_simp
                   with_reducible rfl
                  rotate_left
                  ·simp only [Act.put, List.setIfInBounds_toArray, List.set_cons_zero, List.set_cons_succ, i64_w, i32_w]
                   rfl
                  refine done_ (done_of HT_.out (by kernel_rfl)) ?_
                  have p323 : 0 ≤ (x44_3 : Int) := of_decide_eq_true (by (with_reducible assumption))
                  have q323 : x44_3 < (l2.length : Int) := of_decide_eq_true (by (with_reducible assumption))
                  obtain ⟨ad323, e323, hx323_0⟩ := Kd.at_int HR2.out x44_3 p323 q323
                  obtain rfl : ad319 = ad323 := (by injection e323)
                  replace hx323_0 := (HB.out.cell (World.block_lt_of_cell? w _ hx323_0)).trans hx323_0
                  replace p323 := eq_true p323
                  replace q323 := eq_true q323
                  try go_wp2
                  go_roundg kj38
                  case measure => have := HJ3.out; have := HJ20.out; have := HK3.out; have := HJ29.out; have := HJ38.out; omega
                  case rel => exact ⟨(y320), (x12_29), (wrap64 (x13_29 + (rd l2 x44_3))), (wrap64 (x44_3 + 1)), (by rfl), (by rfl), H', ⟨by have := HJ3.out; have := HJ20.out; have := HK3.out; have := HJ29.out; have := HJ38.out; omega⟩, ⟨by exact Kd.R_mono HO_9.out (fun _ hk => ⟨hk.1.1, ⟨hk.2, ⟨hk.1.2.1, hk.1.2.2⟩⟩⟩)⟩, ⟨by exact HO322.out⟩, ⟨by exact Kd.R_mono HO_12.out (fun _ hk => ⟨hk.1.1, ⟨hk.1.2.1, ⟨hk.2, hk.1.2.2⟩⟩⟩)⟩, ⟨by exact BK294.out⟩, ⟨by repeat ((with_reducible exact HB.out))⟩⟩
                 ·rw [if_neg c53] at H
                  exact absurd H (by simp)
                ·rw [if_neg c52] at H
                 exact absurd H (by simp)
               ·rw [if_neg c51] at H
                exact absurd H (by simp)
        ·rw [if_neg c29] at H
         have c29b0 : decide (x44_3 < (l2.length : Int)) = false := decide_eq_false c29
         clear c29
         by_cases c56 : x13_3 = x10_20
         ·rw [if_pos c56] at H
          have c56b0 : (x13_3 == x10_20) = true := beq_iff_eq.mpr c56
          have c56b1 : (x13_3 != x10_20) = false := bne_eq_false_iff_eq.mpr c56
          clear c56
          simp only [Option.some.injEq, Prod.mk.injEq] at H
          obtain ⟨rfl, rfl, rfl⟩ := H
          go_wp2
          go_ret3
          exact ⟨_, _, by rfl, Kd.R_V (by exact Kd.R_mono HO_11.out (fun _ hk => hk.1)), Kd.R_V (by exact Kd.R_mono HO_12.out (fun _ hk => hk.1)), by repeat ((with_reducible exact HB.out))⟩
         ·rw [if_neg c56] at H
          have c56b0 : (x13_3 == x10_20) = false := beq_eq_false_iff_ne.mpr c56
          have c56b1 : (x13_3 != x10_20) = true := bne_iff_ne.mpr c56
          simp only [Option.some.injEq, Prod.mk.injEq] at H
          obtain ⟨rfl, rfl, rfl⟩ := H
          go_wp2
          go_ret3
          exact ⟨_, _, by rfl, Kd.R_V (by exact Kd.R_mono HO_9.out (fun _ hk => hk.1)), Kd.R_V (by exact Kd.R_mono HO_9.out (fun _ hk => hk.1)), by repeat ((with_reducible exact HB.out))⟩

end Go.Proofs.Ytfdmfgaiblfbhaa.P
namespace Go.Proofs.Ytfdmfgaiblfbhaa.P
open Go.RowKit Go.Proofs.YtfdmfgaiblfbhaaW.PrintWords Go.Proofs.YtfdmfgaiblfbhaaW.PrintLast Go.Proofs.YtfdmfgaiblfbhaaW.PrintMore
attribute [local go_sem] max2_int min2_int max_two min_two max_three min_three max_four min_four   -- for this text's walks alone
set_option linter.unusedVariables false
set_option linter.unusedSimpArgs false

attribute [local go_sem high] eqA23
/-! ### sashref04_Same: function 47 -/
def sashref04_Same.l0 : Nat → List (S23) → List (S23) → Int → Int → Option (Bool)
 | 0, _, _, _, _ => none
 | k + 1, x0, x1, x12, x13 => if x13 < x12 then (if 0 ≤ x13 then (if x13 < (x0.length : Int) then (if x13 < (x1.length : Int) then (if (!(((rd_T23 x0 x13).f0) == ((rd_T23 x1 x13).f0)) || (!(((rd_T23 x0 x13).f1) == ((rd_T23 x1 x13).f1)) || (!(((rd_T23 x0 x13).f2) == ((rd_T23 x1 x13).f2)) || (!(((rd_T23 x0 x13).f3) == ((rd_T23 x1 x13).f3)))))) = true then (some false) else (sashref04_Same.l0 k x0 x1 x12 (wrap64 (x13 + 1)))) else (none)) else (none)) else (none)) else (some true)
def sashref04_Same.f (k : Nat) (l0 : List (S23)) (l1 : List (S23)) : Option (Bool) := if (l0.length : Int) = (l1.length : Int) then (sashref04_Same.l0 k l0 l1 (l0.length : Int) 0) else (some false)
end Go.Proofs.Ytfdmfgaiblfbhaa.P
/- How a law's arguments read: cells, rectangles, panes, and rows of these, as plain data. -/
namespace Go.Proofs.Ytfdmfgaiblfbhaa.P
open Go.RowKit Go.Proofs.YtfdmfgaiblfbhaaW.PrintWords Go.Proofs.YtfdmfgaiblfbhaaW.PrintLast Go.Proofs.YtfdmfgaiblfbhaaW.PrintMore
open Go.ChangeShapes Go.WideShapes Go.ChangeAt Go.Joins Go.Deep

/-! ### What is known of the numbers -/
def I64 (n : Int) : Prop := -9223372036854775808 ≤ n ∧ n ≤ 9223372036854775807
def U8 (n : Int) : Prop := 0 ≤ n ∧ n ≤ 255
def U16 (n : Int) : Prop := 0 ≤ n ∧ n ≤ 65535
def wf23 (r : S23) : Prop := I64 r.f0 ∧ I64 r.f1 ∧ I64 r.f2 ∧ I64 r.f3
def wf35 (p : S35) : Prop := I64 p.f0 ∧ wf23 p.f1
def wfn26 : Nat → S26 → Prop
  | 0, _ => False
  | n + 1, c => U8 c.f0 ∧ wf23 c.f1 ∧ I64 c.f2 ∧ c.f3.length ≤ 9223372036854775807 ∧ ∀ k, k ∈ c.f3 → wfn26 n k
def wf26 (c : S26) : Prop := ∃ n, wfn26 n c
theorem wfn26_le : ∀ {n m : Nat} (_ : n ≤ m) {c : S26}, wfn26 n c → wfn26 m c
  | 0, _, _, _, h => h.elim
  | n + 1, 0, hm, _, _ => absurd hm (by omega)
  | n + 1, m + 1, hm, _, h => ⟨h.1, h.2.1, h.2.2.1, h.2.2.2.1, fun k hk => wfn26_le (by omega) (h.2.2.2.2 k hk)⟩

section
variable {H : Type} {enc : TypeId × Value → H} {P : Program} {w : World} {base : Nat} {spare : Nat → Bool} {held : Bool}
theorem row_of {α : Type} {Q : Nat → α → Prop} : ∀ (n : Nat), (∀ i, i < n → ∃ p, Q i p) → ∃ l : List α, l.length = n ∧ ∀ i p, l[i]? = some p → Q i p
  | 0, _ => ⟨[], rfl, fun i p h => by simp at h⟩
  | n + 1, h => by
    obtain ⟨l, hl, hq⟩ := row_of n fun i hi => h i (by omega)
    obtain ⟨p, hp⟩ := h n (by omega)
    refine ⟨l ++ [p], by simp [hl], fun i q hi => ?_⟩
    rcases Nat.lt_trichotomy i n with h1 | h1 | h1
    · rw [List.getElem?_append_left (by omega)] at hi
      exact hq i q hi
    · subst h1
      rw [List.getElem?_append_right (by omega), hl, Nat.sub_self] at hi
      obtain rfl : p = q := by simpa using hi
      exact hp
    · rw [List.getElem?_eq_none (by simp; omega)] at hi
      cases hi
theorem cells_at {a : Addr} {n : Nat} {cs : List Value} (h : w.cells? base a n = some cs) : cs.length = n ∧ ∀ i u, cs[i]? = some u → w.cell? (a.add i) = some u := by
  obtain ⟨_, h1, h2⟩ := World.cells?_some h
  exact ⟨h1, fun i u hi => by
    have hlt : i < n := by rw [← h1]; exact (List.getElem?_eq_some_iff.1 hi).1
    rw [h2 i hlt, hi]⟩

end
section
variable {H : Type} {enc : TypeId × Value → H} {w : World} {base : Nat} {spare : Nat → Bool} {held : Bool}
theorem i64_of {n : Int} (h : (Lit.int .i64 n).wf = true) : I64 n := by
  have := bounds_i64 h
  unfold I64
  omega
theorem u8_of {n : Int} (h : (Lit.int .u8 n).wf = true) : U8 n := bounds_u8 h
theorem agg_of {a : Array Value} {l : List Value} (h : (Value.agg a).cells.toList = l) : a = l.toArray := by
  subst h
  simp [Value.cells]
theorem cells23 : Try.prog.cellsOf 23 = 4 := by kernel_rfl
theorem cells26 : Try.prog.cellsOf 26 = 7 := by kernel_rfl
theorem cells3 : Try.prog.cellsOf 3 = 1 := by kernel_rfl
theorem cells5 : Try.prog.cellsOf 5 = 1 := by kernel_rfl
theorem cells24 : Try.prog.cellsOf 24 = 1 := by kernel_rfl
set_option maxRecDepth 100000 in
theorem read23 {fuel : Nat} {cs : List Value} {x : DataW H × List MemPlace} (h : DataW.trod enc Try.prog w base spare held fuel 23 cs = some x) : ∃ r : S23, k23.K w r cs ∧ wf23 r := by
  obtain ⟨y0, y1, y2, y3, n, _, hl, h0, h1, h2, h3⟩ := trod_struct4 Try.underlying23 h
  rw [cells23] at hl
  match cs, hl with
  | [c0, c1, c2, c3], _ =>
    simp only [cells3, List.drop_zero, List.take_succ_cons, List.take_zero, List.drop_succ_cons] at h0 h1 h2 h3
    obtain ⟨n0, e0, _, w0⟩ := DataW.trod_int Try.underlying3 h0
    obtain ⟨n1, e1, _, w1⟩ := DataW.trod_int Try.underlying3 h1
    obtain ⟨n2, e2, _, w2⟩ := DataW.trod_int Try.underlying3 h2
    obtain ⟨n3, e3, _, w3⟩ := DataW.trod_int Try.underlying3 h3
    simp only [List.cons.injEq, and_true] at e0 e1 e2 e3
    subst e0 e1 e2 e3
    exact ⟨⟨n0, n1, n2, n3⟩, k23_mk w ⟨n0, n1, n2, n3⟩, i64_of w0, i64_of w1, i64_of w2, i64_of w3⟩
end
end Go.Proofs.Ytfdmfgaiblfbhaa.P
/- Plain words on rectangles: whether one may be, what it is cut into: the code's and the reference's alike. -/
namespace Go.Proofs.Ytfdmfgaiblfbhaa.P
open Go.RowKit Go.Proofs.YtfdmfgaiblfbhaaW.PrintWords Go.Proofs.YtfdmfgaiblfbhaaW.PrintLast Go.Proofs.YtfdmfgaiblfbhaaW.PrintMore

/-- A rectangle's axes, turned where it is cut down. -/
def tX (ax X Y : Int) : Int := if ax = 2 then Y else X
theorem turned_some {ax : Int} (h : ax = 1 ∨ ax = 2) (X Y W H : Int) : rect_turned.f X Y W H ax = some (tX ax X Y, tX ax Y X, tX ax W H, tX ax H W, true) := by
  unfold rect_turned.f tX
  rcases h with rfl | rfl
  · rfl
  · rfl

/-- The parts of a rectangle that is cut: the next one stands at off. -/
def cutP (ax X Y W H : Int) : Int → List Int → List S23
  | _, [] => []
  | off, n :: ns => (⟨tX ax (tX ax X Y + off) (tX ax Y X), tX ax (tX ax Y X) (tX ax X Y + off), tX ax n (tX ax H W), tX ax (tX ax H W) n⟩ : S23) :: cutP ax X Y W H (off + n + 1) ns
theorem cut_both (ax X Y W H : Int) (hax : ax = 1 ∨ ax = 2) (hm : mayB X Y W H = true) (sizes : List Int) (hl : sizes.length ≤ 20000) (hne : 0 < sizes.length) :
    ∀ (rest pre : List Int) (off : Int) (parts lines : List S23), pre ++ rest = sizes → 0 ≤ off → off ≤ 10000 → parts.length ≤ 20000 → lines.length ≤ 20000 → parts.length ≤ pre.length → lines.length ≤ pre.length →
    ∃ t : List S23 × List S23 × Bool, (t.1.length ≤ sizes.length ∧ t.2.1.length ≤ sizes.length) ∧ (t.2.2 = true → t.1 = parts ++ cutP ax X Y W H (if pre.length = 0 then off else off + 1) rest ∧ off + rest.sum + (rest.length : Int) - (if pre.length = 0 then 1 else 0) = tX ax W H ∧ ∀ m, m ∈ rest → 1 ≤ m) ∧ Ev (fun k => rect_Cut.l0 k ax parts lines (tX ax X Y + off) sizes (sizes.length : Int) (pre.length : Int) (tX ax X Y) (tX ax Y X) (tX ax W H) (tX ax H W)) t ∧
      Ev (fun k => sashref04_Cut.l0 k ax sizes [] (tX ax W H) parts lines off (sizes.length : Int) (pre.length : Int) X Y W H) t := by
  replace hm := may_iff.1 hm
  have hb : 0 ≤ tX ax X Y ∧ 1 ≤ tX ax W H ∧ tX ax W H ≤ 10000 ∧ tX ax X Y + tX ax W H ≤ 10000 ∧ tX ax X Y ≤ 10000 := by
    unfold tX
    rcases hax with rfl | rfl
    · rw [if_neg (by omega), if_neg (by omega)]; omega
    · rw [if_pos rfl, if_pos rfl]; omega
  obtain ⟨b1, b2, b3, b4, b5⟩ := hb
  intro rest
  induction rest with
  | nil =>
    intro pre off parts lines he h0 h1 hp hq hp2 hq2
    have e : pre = sizes := by simpa using he
    rw [e] at hp2 hq2
    by_cases ho : off = tX ax W H
    · refine ⟨(parts, lines, true), ⟨hp2, hq2⟩, fun _ => ⟨by simp [cutP], by rw [if_neg (by rw [e]; omega)]; simp; omega, fun m hm => by cases hm⟩, Ev.step (fun k => ?_) (Ev.now _), Ev.step (fun k => ?_) (Ev.now _)⟩
      · simp only [rect_Cut.l0]
        rw [if_neg (by rw [e]; omega), wq (by omega) (by omega), if_pos (by omega)]
      · simp only [sashref04_Cut.l0]
        rw [if_neg (by rw [e]; omega), if_pos ho]
    · refine ⟨([], [], false), ⟨by simp, by simp⟩, fun h => absurd h (by simp), Ev.step (fun k => ?_) (Ev.now _), Ev.step (fun k => ?_) (Ev.now _)⟩
      · simp only [rect_Cut.l0]
        rw [if_neg (by rw [e]; omega), wq (by omega) (by omega), if_neg (by omega)]
      · simp only [sashref04_Cut.l0]
        rw [if_neg (by rw [e]; omega), if_neg ho]
  | cons n rest ih =>
    intro pre off parts lines he h0 h1 hp hq hp2 hq2
    have hlen : sizes.length = pre.length + (rest.length + 1) := by rw [← he]; simp
    have hrd : rd sizes (pre.length : Int) = n := by rw [← he]; exact rd_in pre n rest
    have hi : (pre.length : Int) < (sizes.length : Int) := by omega
    have hi0 : (0 : Int) ≤ (pre.length : Int) := by omega
    have hpl : parts.length < 4398046511104 := Nat.lt_of_le_of_lt hp (by decide)
    have hql : lines.length < 4398046511104 := Nat.lt_of_le_of_lt hq (by decide)
    -- behind the line ahead of this part: off', lines'
    have body : ∀ (off' : Int) (lines' : List S23), 0 ≤ off' → off' ≤ 10001 → lines'.length ≤ pre.length + 1 →
        ∃ t : List S23 × List S23 × Bool, (t.1.length ≤ sizes.length ∧ t.2.1.length ≤ sizes.length) ∧ (t.2.2 = true → t.1 = parts ++ cutP ax X Y W H off' (n :: rest) ∧ off' + (n :: rest).sum + (rest.length : Int) = tX ax W H ∧ ∀ m, m ∈ n :: rest → 1 ≤ m) ∧ Ev (fun k => if n < 1 then (some (([] : List S23), ([] : List S23), false)) else (if n > tX ax W H - off' then (some (([] : List S23), ([] : List S23), false)) else
              (rect_Cut.l0 k ax (parts ++ [(⟨tX ax (tX ax X Y + off') (tX ax Y X), tX ax (tX ax Y X) (tX ax X Y + off'), tX ax n (tX ax H W), tX ax (tX ax H W) n⟩ : S23)]) lines' (tX ax X Y + (off' + n)) sizes (sizes.length : Int) ((pre ++ [n]).length : Int) (tX ax X Y) (tX ax Y X) (tX ax W H) (tX ax H W)))) t ∧
          Ev (fun k => sashref04_Cut.j3 k ax sizes [] (tX ax W H) parts lines' off' (pre.length : Int) (sizes.length : Int) (pre.length : Int) X Y W H) t := by
      intro off' lines' g0 g1 g2
      by_cases hn : n < 1
      · refine ⟨([], [], false), ⟨by simp, by simp⟩, fun h => absurd h (by simp), ev_pos hn (Ev.now _), Ev.step (f := fun k => sashref04_Cut.j4 k ax sizes [] (tX ax W H) parts lines' off' (pre.length : Int) (sizes.length : Int) (pre.length : Int) true X Y W H) (fun k => ?_) (Ev.step (fun k => ?_) (Ev.now _))⟩
        · simp only [sashref04_Cut.j3]
          rw [if_pos hi0, if_pos hi, hrd, if_pos hn]
        · simp only [sashref04_Cut.j4]
          rw [if_pos trivial]
      · by_cases hn2 : n > tX ax W H - off'
        · refine ⟨([], [], false), ⟨by simp, by simp⟩, fun h => absurd h (by simp), ev_neg hn (ev_pos hn2 (Ev.now _)), Ev.step (f := fun k => sashref04_Cut.j4 k ax sizes [] (tX ax W H) parts lines' off' (pre.length : Int) (sizes.length : Int) (pre.length : Int) true X Y W H) (fun k => ?_) (Ev.step (fun k => ?_) (Ev.now _))⟩
          · simp only [sashref04_Cut.j3]
            rw [if_pos hi0, if_pos hi, hrd, if_neg hn]
            by_cases hn3 : n > tX ax W H
            · rw [if_pos hn3]
            · rw [if_neg hn3, wq (by omega) (by omega), decide_eq_true (by omega)]
          · simp only [sashref04_Cut.j4]
            rw [if_pos trivial]
        · obtain ⟨t, t0, tg, t1, t2⟩ := ih (pre ++ [n]) (off' + n) (parts ++ [(⟨tX ax (tX ax X Y + off') (tX ax Y X), tX ax (tX ax Y X) (tX ax X Y + off'), tX ax n (tX ax H W), tX ax (tX ax H W) n⟩ : S23)]) lines' (by simp [← he]) (by omega) (by omega) (by simp; omega) (by omega) (by simp; omega) (by simp; omega)
          refine ⟨t, t0, fun h => ?_, ev_neg hn (ev_neg hn2 t1), Ev.step (f := fun k => sashref04_Cut.j4 k ax sizes [] (tX ax W H) parts lines' off' (pre.length : Int) (sizes.length : Int) (pre.length : Int) false X Y W H) (fun k => ?_) (Ev.step (fun k => ?_) t2)⟩
          · obtain ⟨q1, q2, q3⟩ := tg h
            rw [if_neg (by simp)] at q1 q2
            refine ⟨by rw [q1, List.append_assoc]; rfl, by rw [List.sum_cons]; omega, fun m hm => ?_⟩
            rcases List.mem_cons.1 hm with rfl | hm
            · omega
            · exact q3 m hm
          · simp only [sashref04_Cut.j3]
            rw [if_pos hi0, if_pos hi, hrd, if_neg hn, if_neg (by omega), wq (by omega) (by omega), decide_eq_false (by omega)]
          · have hi1 : wrap64 ((pre.length : Int) + 1) = ((pre ++ [n]).length : Int) := by rw [wq (by omega) (by omega)]; simp
            have ho1 : wrap64 (off' + n) = off' + n := wq (by omega) (by omega)
            simp only [sashref04_Cut.j4]
            rw [if_neg (by simp)]
            simp only [if_pos hi0, if_pos hi, if_pos hpl, hrd, hi1, ho1]
            rcases hax with rfl | rfl
            · rw [if_pos rfl, wq (by omega) (by omega)]
              simp [tX]
            · rw [if_neg (by omega), wq (by omega) (by omega)]
              simp [tX]
    by_cases hz : (pre.length : Int) > 0
    · obtain ⟨t, t0, tg, t1, t2⟩ := body (off + 1) (lines ++ [(⟨tX ax (tX ax X Y + off) (tX ax Y X), tX ax (tX ax Y X) (tX ax X Y + off), tX ax 1 (tX ax H W), tX ax (tX ax H W) 1⟩ : S23)]) (by omega) (by omega) (by simp; omega)
      have ho1 : wrap64 (tX ax X Y + off + 1) = tX ax X Y + (off + 1) := by rw [wq (by omega) (by omega)]; omega
      have ho2 : wrap64 (tX ax X Y + tX ax W H) = tX ax X Y + tX ax W H := wq (by omega) (by omega)
      have ho3 : wrap64 (tX ax X Y + tX ax W H - (tX ax X Y + (off + 1))) = tX ax W H - (off + 1) := by rw [wq (by omega) (by omega)]; omega
      have ho4 : wrap64 (off + 1) = off + 1 := wq (by omega) (by omega)
      refine ⟨t, t0, fun h => by obtain ⟨q1, q2, q3⟩ := tg h; rw [if_neg (by omega), if_neg (by omega)]; exact ⟨q1, by rw [List.length_cons]; omega, q3⟩, Ev.step (fun k => ?_) t1, Ev.step (fun k => ?_) t2⟩
      · simp only [rect_Cut.l0]
        rw [if_pos hi, if_pos hi0, if_pos hi, if_pos hz, turned_some hax]
        simp only [Option.bind_some]
        rw [if_pos hql, hrd, ho1, ho2, ho3]
        by_cases hn : n < 1
        · rw [if_pos hn, if_pos hn]
        · rw [if_neg hn, if_neg hn]
          by_cases hn2 : n > tX ax W H - (off + 1)
          · rw [if_pos hn2, if_pos hn2]
          · have hi1 : wrap64 ((pre.length : Int) + 1) = ((pre ++ [n]).length : Int) := by rw [wq (by omega) (by omega)]; simp
            have ho5 : wrap64 (tX ax X Y + (off + 1) + n) = tX ax X Y + (off + 1 + n) := by rw [wq (by omega) (by omega)]; omega
            rw [if_neg hn2, if_neg hn2, turned_some hax]
            simp only [Option.bind_some]
            rw [if_pos hpl, hi1, ho5]
      · simp only [sashref04_Cut.l0]
        rw [if_pos hi, if_pos hz, ho4]
        rcases hax with rfl | rfl
        · rw [if_pos rfl, if_pos hql, wq (by omega) (by omega)]
          simp [tX]
        · rw [if_neg (by omega), if_pos hql, wq (by omega) (by omega)]
          simp [tX]
    · obtain ⟨t, t0, tg, t1, t2⟩ := body off lines h0 (by omega) (by omega)
      have ho2 : wrap64 (tX ax X Y + tX ax W H) = tX ax X Y + tX ax W H := wq (by omega) (by omega)
      have ho3 : wrap64 (tX ax X Y + tX ax W H - (tX ax X Y + off)) = tX ax W H - off := by rw [wq (by omega) (by omega)]; omega
      refine ⟨t, t0, fun h => by obtain ⟨q1, q2, q3⟩ := tg h; rw [if_pos (by omega), if_pos (by omega)]; exact ⟨q1, by rw [List.length_cons]; omega, q3⟩, Ev.step (fun k => ?_) t1, Ev.step (fun k => ?_) t2⟩
      · simp only [rect_Cut.l0]
        rw [if_pos hi, if_pos hi0, if_pos hi, if_neg hz, hrd, ho2, ho3]
        by_cases hn : n < 1
        · rw [if_pos hn, if_pos hn]
        · rw [if_neg hn, if_neg hn]
          by_cases hn2 : n > tX ax W H - off
          · rw [if_pos hn2, if_pos hn2]
          · have hi1 : wrap64 ((pre.length : Int) + 1) = ((pre ++ [n]).length : Int) := by rw [wq (by omega) (by omega)]; simp
            have ho5 : wrap64 (tX ax X Y + off + n) = tX ax X Y + (off + n) := by rw [wq (by omega) (by omega)]; omega
            rw [if_neg hn2, if_neg hn2, turned_some hax]
            simp only [Option.bind_some]
            rw [if_pos hpl, hi1, ho5]
      · simp only [sashref04_Cut.l0]
        rw [if_pos hi, if_neg hz]

/-- Two rows of rectangles, held against each other. -/
theorem rsame_ev (xs : List S23) (hl : xs.length ≤ 9223372036854775807) : Ev (fun k => sashref04_Same.f k xs xs) true := by
  have key : ∀ (d i : Nat), i + d = xs.length → Ev (fun k => sashref04_Same.l0 k xs xs (xs.length : Int) (i : Int)) true := by
    intro d
    induction d with
    | zero =>
      intro i hi
      refine Ev.step (fun k => ?_) (Ev.now _)
      simp only [sashref04_Same.l0]
      rw [if_neg (by omega)]
    | succ d ih =>
      intro i hi
      have c1 : (i : Int) < (xs.length : Int) := by omega
      have c2 : (0 : Int) ≤ (i : Int) := by omega
      have c3 : wrap64 ((i : Int) + 1) = ((i + 1 : Nat) : Int) := by rw [wq (by omega) (by omega)]; omega
      refine Ev.step (fun k => ?_) (ih (i + 1) (by omega))
      simp only [sashref04_Same.l0]
      simp only [if_pos c1, if_pos c2, c3]
      rw [if_neg (by simp)]
  refine Ev.congr (fun k => ?_) (key xs.length 0 (by omega))
  unfold sashref04_Same.f
  rw [if_pos rfl]
  rfl
theorem awake04 : Ev (fun k => sashlaw04_awake.f k) true := Ev.of (k := 30) (fun k => sashlaw04_awake.mono k) (by decide +kernel)
end Go.Proofs.Ytfdmfgaiblfbhaa.P
namespace Go.Proofs.Ytfdmfgaiblfbhaa.P
open Go.RowKit Go.Proofs.YtfdmfgaiblfbhaaW.PrintWords Go.Proofs.YtfdmfgaiblfbhaaW.PrintLast Go.Proofs.YtfdmfgaiblfbhaaW.PrintMore
attribute [local go_sem] max2_int min2_int max_two min_two max_three min_three max_four min_four   -- for this text's walks alone
set_option linter.unusedVariables false
set_option linter.unusedSimpArgs false

/-! ### sashlaw04_RectCuts: function 5 -/
def sashlaw04_RectCuts.f (k : Nat) (a0_0 : Int) (a0_1 : Int) (a0_2 : Int) (a0_3 : Int) (a1 : Int) (l2 : List Int) : Option (Bool) := if (l2.length : Int) > 100 then ((sashlaw04_awake.f k).bind fun t327 => (some t327)) else ((rect_Cut.f k a0_0 a0_1 a0_2 a0_3 a1 l2).bind fun bt328 => ((sashref04_Cut.f k a0_0 a0_1 a0_2 a0_3 a1 l2).bind fun bt335 => (if (bt328.2.2 == bt335.2.2) = true then ((sashref04_Same.f k bt328.1 bt335.1).bind fun t342 => (if t342 = true then ((sashref04_Same.f k bt328.2.1 bt335.2.1).bind fun t343 => (if t343 = true then ((sashlaw04_awake.f k).bind fun t344 => (some t344)) else (some false))) else (some false))) else (some false))))
end Go.Proofs.Ytfdmfgaiblfbhaa.P
/- RectCuts, the plain law: what any rectangle is cut into, or that it can't be, is the reference's. No condition. -/
namespace Go.Proofs.Ytfdmfgaiblfbhaa.Pure
open Go.RowKit Go.Proofs.Ytfdmfgaiblfbhaa.P Go.Proofs.YtfdmfgaiblfbhaaW.PrintWords Go.Proofs.YtfdmfgaiblfbhaaW.PrintLast Go.Proofs.YtfdmfgaiblfbhaaW.PrintMore

/-- Both answer alike; the rows are no longer than the sizes are many. -/
theorem cut_alike (X Y W H ax : Int) (hax : U8 ax) (sizes : List Int) (hl : sizes.length ≤ 20000) : ∃ t : List S23 × List S23 × Bool, (t.1.length ≤ sizes.length ∧ t.2.1.length ≤ sizes.length) ∧ (t.2.2 = true → (ax = 1 ∨ ax = 2) ∧ t.1 = cutP ax X Y W H 0 sizes ∧ sizes.sum + (sizes.length : Int) - 1 = tX ax W H ∧ ∀ m, m ∈ sizes → 1 ≤ m) ∧ Ev (fun k => rect_Cut.f k X Y W H ax sizes) t ∧ Ev (fun k => sashref04_Cut.f k X Y W H ax sizes) t := by
  have no1 : ∀ x y z u : Int, Ev (fun k => rect_Cut.j0 k ax sizes true x y z u) ([], [], false) := fun x y z u => by
    refine Ev.step (fun k => ?_) (Ev.now _)
    simp only [rect_Cut.j0]
    rw [if_pos trivial]
  have no2 : Ev (fun k => sashref04_Cut.j0 k ax sizes [] true X Y W H) ([], [], false) := by
    refine Ev.step (fun k => ?_) (Ev.now _)
    simp only [sashref04_Cut.j0]
    rw [if_pos trivial]
  have e2 : ∀ r, Ev (fun k => if mayB X Y W H = true then (if ax < 1 then (sashref04_Cut.j0 k ax sizes [] true X Y W H) else (if ax > 2 then (sashref04_Cut.j0 k ax sizes [] true X Y W H) else (sashref04_Cut.j0 k ax sizes [] ((sizes.length : Int) == 0) X Y W H))) else (sashref04_Cut.j0 k ax sizes [] true X Y W H)) r → Ev (fun k => sashref04_Cut.f k X Y W H ax sizes) r := fun r h => by
    refine Ev.congr (fun k => ?_) h
    unfold sashref04_Cut.f
    rw [refmay_some]
    rfl
  unfold U8 at hax
  by_cases ha : ax = 1 ∨ ax = 2
  · have e1 : ∀ r, Ev (fun k => if mayB X Y W H = true then (rect_Cut.j0 k ax sizes ((sizes.length : Int) == 0) (tX ax X Y) (tX ax Y X) (tX ax W H) (tX ax H W)) else (rect_Cut.j0 k ax sizes true (tX ax X Y) (tX ax Y X) (tX ax W H) (tX ax H W))) r → Ev (fun k => rect_Cut.f k X Y W H ax sizes) r := fun r h => by
      refine Ev.congr (fun k => ?_) h
      unfold rect_Cut.f
      rw [turned_some ha]
      simp only [Option.bind_some]
      rw [if_pos trivial, may_some]
      rfl
    by_cases hm : mayB X Y W H = true
    · by_cases hs : sizes = []
      · subst hs
        exact ⟨([], [], false), ⟨by simp, by simp⟩, fun h => absurd h (by simp), e1 _ (ev_pos hm (no1 _ _ _ _)), e2 _ (ev_pos hm (ev_neg (by omega) (ev_neg (by omega) no2)))⟩
      · have hpos : 0 < sizes.length := List.length_pos_iff.2 hs
        have hz : ((sizes.length : Int) == 0) = false := by simp; exact hs
        obtain ⟨t, t0, tg, t1, t2⟩ := cut_both ax X Y W H ha hm sizes hl hpos sizes [] 0 [] [] rfl (by omega) (by omega) (by simp) (by simp) (by simp) (by simp)
        refine ⟨t, t0, fun h => by obtain ⟨q1, q2, q3⟩ := tg h; rw [if_pos List.length_nil] at q1 q2; exact ⟨ha, by simpa using q1, by omega, q3⟩, e1 _ (ev_pos hm ?_), e2 _ (ev_pos hm (ev_neg (by omega) (ev_neg (by omega) ?_)))⟩
        · rw [hz]
          refine Ev.step (fun k => ?_) t1
          simp only [rect_Cut.j0]
          rw [if_neg (by simp), Int.add_zero]
          rfl
        · rw [hz]
          refine Ev.step (f := fun k => sashref04_Cut.j1 k ax sizes [] (tX ax W H) X Y W H) (fun k => ?_) (Ev.step (fun k => ?_) t2)
          · simp only [sashref04_Cut.j0]
            rw [if_neg (by simp)]
            rcases ha with rfl | rfl
            · rw [if_neg (by omega)]; rfl
            · rw [if_pos rfl]; rfl
          · simp only [sashref04_Cut.j1]
            rfl
    · exact ⟨([], [], false), ⟨by simp, by simp⟩, fun h => absurd h (by simp), e1 _ (ev_neg hm (no1 _ _ _ _)), e2 _ (ev_neg hm no2)⟩
  · refine ⟨([], [], false), ⟨by simp, by simp⟩, fun h => absurd h (by simp), Ev.congr (f := fun k => rect_Cut.j0 k ax sizes true 0 0 0 0) (fun k => ?_) (no1 _ _ _ _), e2 _ ?_⟩
    · unfold rect_Cut.f rect_turned.f
      rw [if_neg (by omega), if_neg (by omega)]
      rfl
    · by_cases hm : mayB X Y W H = true
      · refine ev_pos hm ?_
        by_cases h1 : ax < 1
        · exact ev_pos h1 no2
        · exact ev_neg h1 (ev_pos (by omega) no2)
      · exact ev_neg hm no2
theorem RectCuts : ∀ (a0 : S23) (a1 : Int) (a2 : List Int), wf23 a0 → U8 a1 → a2.length ≤ 9223372036854775807 → (∀ x, x ∈ a2 → I64 x) → ∃ k, sashlaw04_RectCuts.f k a0.f0 a0.f1 a0.f2 a0.f3 a1 a2 = some true := by
  intro r ax sizes _ hax _ _
  refine Ev.rounds (g := fun k => sashlaw04_RectCuts.f k r.f0 r.f1 r.f2 r.f3 ax sizes) ?_
  have aw : Ev (fun k => (sashlaw04_awake.f k).bind fun t => some t) true := Ev.bind awake04 (Ev.now _)
  unfold sashlaw04_RectCuts.f
  by_cases h : (sizes.length : Int) > 100
  · exact ev_pos h aw
  · refine ev_neg h ?_
    obtain ⟨t, ⟨l1, l2⟩, _, t1, t2⟩ := cut_alike r.f0 r.f1 r.f2 r.f3 ax hax sizes (by omega)
    refine Ev.bind t1 (Ev.bind t2 (ev_pos (by simp) ?_))
    exact Ev.bind (rsame_ev _ (by omega)) (ev_pos rfl (Ev.bind (rsame_ev _ (by omega)) (ev_pos rfl aw)))
end Go.Proofs.Ytfdmfgaiblfbhaa.Pure
/- Two rows, place by place: plain data. -/
namespace Go.Proofs.Ytfdmfgaiblfbhaa.P
open Go.RowKit Go.Proofs.YtfdmfgaiblfbhaaW.PrintWords Go.Proofs.YtfdmfgaiblfbhaaW.PrintLast Go.Proofs.YtfdmfgaiblfbhaaW.PrintMore
def eqL {α β : Type} (r : α → β → Bool) : List α → List β → Bool
  | a :: ta, b :: tb => r a b && eqL r ta tb
  | [], _ => true
  | _ :: _, [] => true
theorem eqL_at {α β : Type} (r : α → β → Bool) (za : α) (zb : β) (la : List α) (lb : List β) (k : Nat) (ha : k < la.length) (hb : k < lb.length) :
    eqL r (la.drop k) (lb.drop k) = (r (la.getD (k : Int).toNat za) (lb.getD (k : Int).toNat zb) && eqL r (la.drop (k + 1)) (lb.drop (k + 1))) := by
  rw [List.drop_eq_getElem_cons ha, List.drop_eq_getElem_cons hb]
  simp only [eqL, Int.toNat_natCast, List.getD_eq_getElem?_getD, List.getElem?_eq_getElem ha, List.getElem?_eq_getElem hb, Option.getD_some]
theorem eqL_nil {α β : Type} (r : α → β → Bool) (lb : List β) : eqL r ([] : List α) lb = true := by cases lb <;> rfl
end Go.Proofs.Ytfdmfgaiblfbhaa.P
/- A store into a block of one's own, as an event: the world behind it is a letter. -/
namespace Go.Proofs.Ytfdmfgaiblfbhaa.P
open Go.RowKit Go.Proofs.YtfdmfgaiblfbhaaW.PrintWords Go.Proofs.YtfdmfgaiblfbhaaW.PrintLast Go.Proofs.YtfdmfgaiblfbhaaW.PrintMore
section
variable {P : Program} {ops : Array Oper} {rest : List Oper} {o : Oper} {a : Act} {Q : Exit → Act → World → Prop}
theorem grown_below {w0 W w1 : World} {g base : Nat} (HB : Below base w0 W) (hg : W.grownBy w1 (some g)) (hbg : base ≤ g) (hs : base ≤ W.heap.size) : Below base w0 w1 := HB.trans ⟨hg.os, hg.tape, hg.output, hg.size, fun k hk => hg.block k (by omega) (fun he => by injection he with he; omega)⟩
/-- What a store into block g leaves. -/
theorem box_cells {W : World} {g j : Nat} {cs cs' : Array Value} {t0 : TypeId} {seg : List Value} (hb : W.heap[g]? = some (.cells cs t0 (0, 0))) (hj : j + seg.length ≤ cs.size) (he : cs.toList.take j ++ seg ++ cs.toList.drop (j + seg.length) = cs'.toList) :
    (W.setCells g j seg).heap[g]? = some (.cells cs' t0 (0, 0)) ∧ W.grownBy (W.setCells g j seg) (some g) := by
  obtain ⟨cur', h3, h4, h5⟩ := setCells_row seg j W cs hb hj
  obtain ⟨s1, s2, s3, s4⟩ := setCells_same g seg j W
  have hc : cur' = cs' := Array.toList_inj.1 (h5.trans he)
  subst hc
  exact ⟨h3, ⟨s1, s2, s3, by rw [s4]; exact Nat.le_refl _, fun k _ hk => setCells_far seg _ k (fun e => hk (by rw [e]))⟩⟩
theorem box_store {W w0 : World} (hN : o.dst = none) (hgd : o.guard = none) (t : TypeId) (p x : Operand) (ho : o.op = .store t p x) {g j base : Nat} {cs : Array Value} (cs' : Array Value) {t0 : TypeId} {u : Value} {seg : List Value}
    (haddr : a.eval p = .pointer (some ⟨g, j, none⟩)) (hx : a.eval x = u) (hu : u.cells.toList = seg) (ht : (P.info? t).map (·.size) = some seg.length) (h1 : ∀ q ∈ seg, q.oneCell' = true)
    (hb : W.heap[g]? = some (.cells cs t0 (0, 0))) (hj : j + seg.length ≤ cs.size) (he : cs.toList.take j ++ seg ++ cs.toList.drop (j + seg.length) = cs'.toList) (HB : Below base w0 W) (hbs : base ≤ W.heap.size) (hbg : base ≤ g)
    (h : ∀ w1, w1.heap[g]? = some (.cells cs' t0 (0, 0)) → Below base w0 w1 → W.grownBy w1 (some g) → wpList P ops Q rest a w1) : wpList P ops Q (o :: rest) a W := by
  obtain ⟨h2, h3⟩ := box_cells hb hj he
  refine wpList_plain hgd fun K hK => ?_
  have hrun := run_store_run (P := P) t u seg hb hu ht hj h1
  unfold Oper.wp execOp
  simp only [ho, haddr, hx, Sem.run_bind, Sem.run_pure, Result.andThen_ok, hrun]
  show K (a.put o.dst undef) _
  rw [hN]
  exact hK a _ (h _ h2 (grown_below HB h3 hbg hbs) h3)
theorem store_exec {W : World} (t : TypeId) (p x : Operand) (ho : o.op = .store t p x) {g j : Nat} {cs : Array Value} {t0 : TypeId} {u : Value} {seg : List Value}
    (haddr : a.eval p = .pointer (some ⟨g, j, none⟩)) (hx : a.eval x = u) (hu : u.cells.toList = seg) (ht : (P.info? t).map (·.size) = some seg.length) (h1 : ∀ q ∈ seg, q.oneCell' = true)
    (hb : W.heap[g]? = some (.cells cs t0 (0, 0))) (hj : j + seg.length ≤ cs.size) : (execOp a.eval o).run P W = .ok .skip (W.setCells g j seg) := by
  have hrun := run_store_run (P := P) t u seg hb hu ht hj h1
  unfold execOp
  simp only [ho, haddr, hx, Sem.run_bind, Sem.run_pure, Result.andThen_ok, hrun]
end
end Go.Proofs.Ytfdmfgaiblfbhaa.P
/- slices.EqualFunc at cells (function 211): what it answers, with any test that only reads. -/
namespace Go.Proofs.Ytfdmfgaiblfbhaa.P
open Go.RowKit Go.Proofs.YtfdmfgaiblfbhaaW.PrintWords Go.Proofs.YtfdmfgaiblfbhaaW.PrintLast Go.Proofs.YtfdmfgaiblfbhaaW.PrintMore
set_option linter.unusedVariables false
set_option linter.unusedSimpArgs false
set_option maxHeartbeats 4000000 in
set_option maxRecDepth 100000 in
theorem eqf211 (r : S26 → S23 → Bool) (g : Nat) (eg : ∀ args w, (callFunc g args).run Try.prog w = .ok (.enter g args) w) (la : List S26) (lb : List S23) (A B : Option Addr) (ca cb : Nat) (w : World) (hA : Kd.C k26 w A la.length la) (hB : Kd.C k23 w B lb.length lb)
    (hcall : ∀ W (x : S26) (X : Option Addr) (cx : Nat) (y : S23), x ∈ la → Below w.heap.size w W → Kd.C k26 w X x.f3.length x.f3 → x.f3.length ≤ cx → Calls Try.prog g #[.agg #[.int .u8 x.f0, .int .i64 x.f1.f0, .int .i64 x.f1.f1, .int .i64 x.f1.f2, .int .i64 x.f1.f3, .int .i64 x.f2, .slice X x.f3.length cx], .agg #[.int .i64 y.f0, .int .i64 y.f1, .int .i64 y.f2, .int .i64 y.f3]] W fun e w' => e = .returned (.bool (r x y)) ∧ Below W.heap.size W w') :
    Calls Try.prog 211 #[.slice A la.length ca, .slice B lb.length cb, .func (.func g) #[] #[]] w fun e w' => e = .returned (.bool (la.length == lb.length && eqL r la lb)) ∧ Below w.heap.size w w' := by
  have HA := Aside0.mk hA
  have HLB := Aside0.mk hB
  have HC := Aside0.mk hcall
  have HB := Aside0.mk (Below.refl w.heap.size w)
  have HL := Aside0.mk (show la.length ≤ 9223372036854775807 from hA.2.1)
  clear hA hB hcall
  by_cases hl : la.length = lb.length
  · have hl1 : ((la.length : Int) != (lb.length : Int)) = false := by simp [hl]
    have hl2 : (la.length == lb.length) = true := by simp [hl]
    rw [hl2, Bool.true_and]
    have HE := Aside0.mk hl
    clear hl hl2
    go_enter Try.func211, Try.ntmps211
    go_wp2
    go_loopg [17] la.length (fun gg v17 wr => ∃ (kk : Nat), kk ≤ la.length ∧ la.length - kk ≤ gg ∧ v17 = .int .i64 kk ∧ Aside0 (eqL r la lb = eqL r (la.drop kk) (lb.drop kk)) ∧ Aside0 (Below w.heap.size w wr))
    case atStart => exact ⟨0, Nat.zero_le _, by omega, rfl, ⟨by simp⟩, HB⟩
    case round =>
      clear HB
      obtain ⟨kk, hkk, hgg, rfl, HS, HB⟩ := hrel
      by_cases hlt : kk < la.length
      · have hltz : (kk : Int) < (la.length : Int) := by omega
        have hltb : (kk : Int) < (lb.length : Int) := by have := HE.out; omega
        have hw : wrap64 ((kk : Int) + 1) = ((kk + 1 : Nat) : Int) := by unfold wrap64; have := HL.out; omega
        have HX := Aside0.mk (eqL_at r z26 z23 la lb kk hlt (by omega))
        have hmem : rd_T26 la (kk : Int) ∈ la := scan_mem z26 la kk hlt
        obtain ⟨cd, X, cx, rfl, c0, c1, c2, c3, c4, c5, c6, cl, cg⟩ := at_T26 HA.out (kk : Int) (by omega) hltz
        obtain ⟨dd, rfl, d0, d1, d2, d3⟩ := at_T23 HLB.out (kk : Int) (by omega) hltb
        simp only [Int.toNat_natCast] at c0 c1 c2 c3 c4 c5 c6 d0 d1 d2 d3
        replace c0 := (HB.out.cell (World.block_lt_of_cell? w _ c0)).trans c0
        replace c1 := (HB.out.cell (World.block_lt_of_cell? w _ c1)).trans c1
        replace c2 := (HB.out.cell (World.block_lt_of_cell? w _ c2)).trans c2
        replace c3 := (HB.out.cell (World.block_lt_of_cell? w _ c3)).trans c3
        replace c4 := (HB.out.cell (World.block_lt_of_cell? w _ c4)).trans c4
        replace c5 := (HB.out.cell (World.block_lt_of_cell? w _ c5)).trans c5
        replace c6 := (HB.out.cell (World.block_lt_of_cell? w _ c6)).trans c6
        have D0 := Aside0.mk d0
        have D1 := Aside0.mk d1
        have D2 := Aside0.mk d2
        have D3 := Aside0.mk d3
        clear d0 d1 d2 d3
        have HX := Aside0.mk (show eqL r (la.drop kk) (lb.drop kk) = (r (rd_T26 la (kk : Int)) (rd_T23 lb (kk : Int)) && eqL r (la.drop (kk + 1)) (lb.drop (kk + 1))) from HX.out)
        have cG := Aside0.mk cg
        have cL := Aside0.mk cl
        clear cg cl
        have HM := Aside0.mk hmem
        clear hmem
        generalize rd_T26 la (kk : Int) = x at *
        generalize rd_T23 lb (kk : Int) = y at *
        have HCx := Aside0.mk (fun W hW => HC.out W x X cx y HM.out hW cG.out cL.out )
        have HW := Aside0.mk hw
        have HKK := Aside0.mk (show kk + 1 ≤ la.length from hlt)
        have HGG := Aside0.mk hgg
        clear hw hlt hgg hkk HM
        go_wp2_with (first | ((with_reducible refine gate_dst (N := 8) rfl ?_); refine box_event ?hg (N := 8) ?hd (cs := #[.int .u8 0, .int .i64 0, .int .i64 0, .int .i64 0, .int .i64 0, .int .i64 0, .slice none 0 0]) (t := 26) ?hr ?_; (case hd => rfl); (case hg => rfl); (case hr => (go_simp; done)); intro b8 hg wb8 hbox hb; have K8 := Aside0.mk hbox; have G8 := Aside0.mk (show w.heap.size ≤ b8 by rw [hg]; exact HB.out.size); have q_ := Aside0.mk (below_step HB.out hb); clear HB; have HB := q_; clear q_; clear hb hbox hg) | ((with_reducible refine gate_ (.store 26 (.tmp 8) (.tmp 21)) rfl ?_); go_loud (refine box_store (w0 := w) rfl rfl 26 (.tmp 8) (.tmp 21) rfl (g := b8) (j := 0) (base := w.heap.size) #[.int .u8 x.f0, .int .i64 x.f1.f0, .int .i64 x.f1.f1, .int .i64 x.f1.f2, .int .i64 x.f1.f3, .int .i64 x.f2, .slice X x.f3.length cx] (u := .agg #[.int .u8 x.f0, .int .i64 x.f1.f0, .int .i64 x.f1.f1, .int .i64 x.f1.f2, .int .i64 x.f1.f3, .int .i64 x.f2, .slice X x.f3.length cx]) (seg := [.int .u8 x.f0, .int .i64 x.f1.f0, .int .i64 x.f1.f1, .int .i64 x.f1.f2, .int .i64 x.f1.f3, .int .i64 x.f2, .slice X x.f3.length cx]) ?sA ?sX rfl ?sT ?s1 K8.out ?sJ rfl HB.out HB.out.size G8.out ?_; (case sA => rfl); (case sX => rfl); (case sT => rfl); (case s1 => (simp [Value.oneCell'])); (case sJ => (simp)); intro ws8 hbk hbb hgg; clear K8 HB; have K8 := Aside0.mk hbk; have HB := Aside0.mk hbb; clear hbk hbb hgg; clear c0 c1 c2 c3 c4 c5 c6; have d0 := (HB.out.cell (World.block_lt_of_cell? w _ D0.out)).trans D0.out; have d1 := (HB.out.cell (World.block_lt_of_cell? w _ D1.out)).trans D1.out; have d2 := (HB.out.cell (World.block_lt_of_cell? w _ D2.out)).trans D2.out; have d3 := (HB.out.cell (World.block_lt_of_cell? w _ D3.out)).trans D3.out)) | ((with_reducible refine gate_dst (N := 9) rfl ?_); refine box_event ?hg (N := 9) ?hd (cs := #[.int .i64 0, .int .i64 0, .int .i64 0, .int .i64 0]) (t := 23) ?hr ?_; (case hd => rfl); (case hg => rfl); (case hr => (go_simp; done)); intro b9 hg wb9 hbox hb; have K9 := Aside0.mk hbox; have G9 := Aside0.mk (show w.heap.size ≤ b9 by rw [hg]; exact HB.out.size); have NE := Aside0.mk (show b8 ≠ b9 by rw [hg]; exact Nat.ne_of_lt (blk_lt K8.out)); have q8_ := Aside0.mk (blk_below K8.out hb); clear K8; have K8 := q8_; clear q8_; have q_ := Aside0.mk (below_step HB.out hb); clear HB; have HB := q_; clear q_; clear hb hbox hg d0 d1 d2 d3) | ((with_reducible refine gate_ (.store 23 (.tmp 9) (.tmp 25)) rfl ?_); go_loud (refine box_store (w0 := w) rfl rfl 23 (.tmp 9) (.tmp 25) rfl (g := b9) (j := 0) (base := w.heap.size) #[.int .i64 y.f0, .int .i64 y.f1, .int .i64 y.f2, .int .i64 y.f3] (u := .agg #[.int .i64 y.f0, .int .i64 y.f1, .int .i64 y.f2, .int .i64 y.f3]) (seg := [.int .i64 y.f0, .int .i64 y.f1, .int .i64 y.f2, .int .i64 y.f3]) ?sA ?sX rfl ?sT ?s1 K9.out ?sJ rfl HB.out HB.out.size G9.out ?_; (case sA => rfl); (case sX => rfl); (case sT => rfl); (case s1 => (simp [Value.oneCell'])); (case sJ => (simp)); intro ws9 hbk hbb hgg; have q8_ := Aside0.mk (blk_grown K8.out hgg (fun e_ => absurd (Option.some.inj e_) NE.out)); clear K8; have K8 := q8_; clear q8_; clear K9 HB; have K9 := Aside0.mk hbk; have HB := Aside0.mk hbb; clear hbk hbb hgg; have e0 := (blk_cell K8.out 0).trans rfl; have e1 := (blk_cell K8.out 1).trans rfl; have e2 := (blk_cell K8.out 2).trans rfl; have e3 := (blk_cell K8.out 3).trans rfl; have e4 := (blk_cell K8.out 4).trans rfl; have e5 := (blk_cell K8.out 5).trans rfl; have e6 := (blk_cell K8.out 6).trans rfl; have f0 := (blk_cell K9.out 0).trans rfl; have f1 := (blk_cell K9.out 1).trans rfl; have f2 := (blk_cell K9.out 2).trans rfl; have f3 := (blk_cell K9.out 3).trans rfl)))
        clear e0 e1 e2 e3 e4 e5 e6 f0 f1 f2 f3 K8 K9 NE G8 G9
        refine (HCx.out _ HB.out).mono ?_
        rintro e w' ⟨rfl, hb⟩
        have q_ := Aside0.mk (below_step HB.out hb); clear HB; have HB := q_; clear q_
        clear hb
        cases hq : r x y with
        | true =>
          have HQ := Aside0.mk hq
          clear hq
          go_wp2
          go_roundg (la.length - (kk + 1))
          case measure => have h1 := HGG.out; have h2 := HKK.out; omega
          case rel => exact ⟨kk + 1, HKK.out, Nat.le_refl _, (by rw [HW.out]), ⟨by rw [HS.out, HX.out, HQ.out, Bool.true_and]⟩, HB⟩
        | false =>
          have HQ := Aside0.mk hq
          clear hq
          go_wp2
          go_ret
          rw [HS.out, HX.out, HQ.out, Bool.false_and]
          exact ⟨rfl, HB.out⟩
      · have hltz : ¬ (kk : Int) < (la.length : Int) := by omega
        go_wp2
        go_ret
        rw [HS.out, List.drop_eq_nil_of_le (by omega), eqL_nil]
        exact ⟨rfl, HB.out⟩
  · have hl1 : ((la.length : Int) != (lb.length : Int)) = true := by simp; omega
    have hl2 : (la.length == lb.length) = false := by simp [hl]
    rw [hl2, Bool.false_and]
    clear hl hl2
    go_enter Try.func211, Try.ntmps211
    go_wp2
    go_ret
    exact ⟨rfl, HB.out⟩
end Go.Proofs.Ytfdmfgaiblfbhaa.P
/- A tree's cells and their number: plain data. -/
namespace Go.Proofs.Ytfdmfgaiblfbhaa.P
open Go.RowKit Go.Proofs.YtfdmfgaiblfbhaaW.PrintWords Go.Proofs.YtfdmfgaiblfbhaaW.PrintLast Go.Proofs.YtfdmfgaiblfbhaaW.PrintMore

mutual
def allC : S26 → List S26
  | ⟨a, b, d, l⟩ => ⟨a, b, d, l⟩ :: allL l
def allL : List S26 → List S26
  | [] => []
  | c :: cs => allC c ++ allL cs
end
theorem allC_eq (c : S26) : allC c = c :: allL c.f3 := by cases c; simp [allC]
theorem allL_nil : allL [] = [] := by simp [allL]
theorem allL_cons (c : S26) (cs : List S26) : allL (c :: cs) = allC c ++ allL cs := by simp [allL]
theorem allL_app (a b : List S26) : allL (a ++ b) = allL a ++ allL b := by
  induction a with
  | nil => simp [allL_nil]
  | cons x xs ih => rw [List.cons_append, allL_cons, allL_cons, ih, List.append_assoc]
def sz (c : S26) : Nat := (allC c).length
def szL (l : List S26) : Nat := (allL l).length
theorem sz_eq (c : S26) : sz c = 1 + szL c.f3 := by unfold sz szL; rw [allC_eq, List.length_cons]; omega
theorem szL_nil : szL [] = 0 := by unfold szL; rw [allL_nil]; rfl
theorem szL_cons (c : S26) (cs : List S26) : szL (c :: cs) = sz c + szL cs := by unfold szL sz; rw [allL_cons, List.length_append]
theorem szL_app (a b : List S26) : szL (a ++ b) = szL a + szL b := by unfold szL; rw [allL_app, List.length_append]
theorem szL_len (l : List S26) : l.length ≤ szL l := by
  induction l with
  | nil => simp
  | cons x xs ih => rw [szL_cons, List.length_cons, sz_eq]; omega
theorem eta26 (c : S26) : (⟨c.f0, ⟨c.f1.f0, c.f1.f1, c.f1.f2, c.f1.f3⟩, c.f2, c.f3⟩ : S26) = c := by cases c; rfl
theorem szL_sum (l : List S26) : szL l = (l.map sz).sum := by
  induction l with
  | nil => rw [szL_nil]; rfl
  | cons x xs ih => rw [szL_cons, List.map_cons, List.sum_cons, ih]
end Go.Proofs.Ytfdmfgaiblfbhaa.P
namespace Go.Proofs.Ytfdmfgaiblfbhaa.P
open Go.RowKit Go.Proofs.YtfdmfgaiblfbhaaW.PrintWords Go.Proofs.YtfdmfgaiblfbhaaW.PrintLast Go.Proofs.YtfdmfgaiblfbhaaW.PrintMore
attribute [local go_sem] max2_int min2_int max_two min_two max_three min_three max_four min_four   -- for this text's walks alone
set_option linter.unusedVariables false
set_option linter.unusedSimpArgs false

/-! ### sashref05_All: function 79 -/
mutual
def sashref05_All.l0 : Nat → List (S26) → Int → Int → Int → Int → Int → Int → Int → Int → List (S26) → Option ((List (S26)))
 | 0, _, _, _, _, _, _, _, _, _, _ => none
 | k + 1, x3, x9, x10, x132000, x132001, x132002, x132003, x132004, x132005, x132006 => if x10 < x9 then (if 0 ≤ x10 then (if x10 < (x132006.length : Int) then ((sashref05_All.f k ((rd_T26 x132006 x10).f0) ((rd_T26 x132006 x10).f1.f0) ((rd_T26 x132006 x10).f1.f1) ((rd_T26 x132006 x10).f1.f2) ((rd_T26 x132006 x10).f1.f3) ((rd_T26 x132006 x10).f2) ((rd_T26 x132006 x10).f3)).bind fun t136 => (if x3.length + t136.length < 1954687338268 then (sashref05_All.l0 k (x3 ++ t136) x9 (wrap64 (x10 + 1)) x132000 x132001 x132002 x132003 x132004 x132005 x132006) else (none))) else (none)) else (none)) else (some x3)
def sashref05_All.f : Nat → Int → Int → Int → Int → Int → Int → List (S26) → Option ((List (S26)))
 | 0, _, _, _, _, _, _, _ => none
 | k + 1, a0_0, a0_1, a0_2, a0_3, a0_4, a0_5, l0_6 => sashref05_All.l0 k (([(⟨a0_0, (⟨a0_1, a0_2, a0_3, a0_4⟩ : S23), a0_5, l0_6⟩ : S26)] : List (S26))) (l0_6.length : Int) 0 a0_0 a0_1 a0_2 a0_3 a0_4 a0_5 l0_6
end
theorem sashref05_All.mono_l : ∀ k, (∀ y0 y1 y2 y3 y4 y5 y6, LeO (sashref05_All.f k y0 y1 y2 y3 y4 y5 y6) (sashref05_All.f (k + 1) y0 y1 y2 y3 y4 y5 y6)) ∧ (∀ y0 y1 y2 y3 y4 y5 y6 y7 y8 y9, LeO (sashref05_All.l0 k y0 y1 y2 y3 y4 y5 y6 y7 y8 y9) (sashref05_All.l0 (k + 1) y0 y1 y2 y3 y4 y5 y6 y7 y8 y9))
 | 0 => ⟨fun _ _ _ _ _ _ _ r h => by simp [sashref05_All.f] at h, fun _ _ _ _ _ _ _ _ _ _ r h => by simp [sashref05_All.l0] at h⟩
 | k + 1 => by
  obtain ⟨ih0, ih1⟩ := sashref05_All.mono_l k
  refine ⟨?_, ?_⟩
  ·intro y0 y1 y2 y3 y4 y5 y6
   unfold sashref05_All.f
   repeat' (with_reducible exact ih1 _ _ _ _ _ _ _ _ _ _)
  ·intro y0 y1 y2 y3 y4 y5 y6 y7 y8 y9
   unfold sashref05_All.l0
   repeat' first | (with_reducible exact ih0 _ _ _ _ _ _ _) | (with_reducible exact ih1 _ _ _ _ _ _ _ _ _ _) | (with_reducible exact LeO.refl _) | (with_reducible refine LeO.ite ?_ ?_) | (with_reducible refine LeO.bind ?_ (fun _ => ?_))
theorem sashref05_All.mono : ∀ a0 a1 a2 a3 a4 a5 a6 k, LeO (sashref05_All.f k a0 a1 a2 a3 a4 a5 a6) (sashref05_All.f (k + 1) a0 a1 a2 a3 a4 a5 a6) := by
 intro a0 a1 a2 a3 a4 a5 a6 k
 obtain ⟨ih0, ih1⟩ := sashref05_All.mono_l k
 exact ih0 a0 a1 a2 a3 a4 a5 a6
set_option maxHeartbeats 8000000 in
set_option maxRecDepth 100000 in
theorem sashref05_All.calls (k : Nat) : ∀ (a0_0 : Int) (a0_1 : Int) (a0_2 : Int) (a0_3 : Int) (a0_4 : Int) (a0_5 : Int) (P0_6_ : Nat → Prop) (A0_6 : Option Addr) (c0_6 : Nat) (l0_6 : List (S26)) (r : List (S26)) (w : World) (hs0_6 : Kd.V k26 26 w w.heap.size (fun k_ => P0_6_ k_) (.slice A0_6 l0_6.length c0_6) l0_6) (h : sashref05_All.f k a0_0 a0_1 a0_2 a0_3 a0_4 a0_5 l0_6 = some r),
  Calls Try.prog 79 #[.agg #[.int .u8 a0_0, .int .i64 a0_1, .int .i64 a0_2, .int .i64 a0_3, .int .i64 a0_4, .int .i64 a0_5, .slice A0_6 l0_6.length c0_6]] w fun e w' => ∃ v0_ : Value, e = .returned (v0_) ∧ Kd.N k26 26 w' w.heap.size (fun k_ => (P0_6_ k_ ∨ w.heap.size ≤ k_)) v0_ r ∧ Below w.heap.size w w' := by
 induction k using Nat.strongRecOn with
 | _ k ih =>
 intro a0_0 a0_1 a0_2 a0_3 a0_4 a0_5 P0_6_ A0_6 c0_6 l0_6 r w hs0_6 h
 cases k with
 | zero => exact absurd h (by simp [sashref05_All.f])
 | succ k =>
 simp only [sashref05_All.f] at h
 have hu26 := Try.underlying26
 have HO0_6 := Aside0.mk (show Kd.V k26 26 w w.heap.size (fun k_ => (P0_6_ k_ ∨ w.heap.size ≤ k_)) (.slice A0_6 l0_6.length c0_6) l0_6 from Kd.V_mono hs0_6 (fun k_ hk => .inl hk))
 have HB := Aside0.mk (Below.refl w.heap.size w)
 have H : (sashref05_All.l0 k (([(⟨a0_0, (⟨a0_1, a0_2, a0_3, a0_4⟩ : S23), a0_5, l0_6⟩ : S26)] : List (S26))) (l0_6.length : Int) 0 a0_0 a0_1 a0_2 a0_3 a0_4 a0_5 l0_6) = some r := h
 clear h
 obtain ⟨y132, hy132⟩ : ∃ y_ : List (S26), y_ = (([(⟨a0_0, (⟨a0_1, a0_2, a0_3, a0_4⟩ : S23), a0_5, l0_6⟩ : S26)] : List (S26))) := ⟨_, rfl⟩
 replace H : (sashref05_All.l0 k y132 (l0_6.length : Int) 0 a0_0 a0_1 a0_2 a0_3 a0_4 a0_5 l0_6) = some r := by (rw [hy132]; with_reducible exact H)
 have Ny132 := Aside0.mk hy132
 clear hy132
 have H' := Aside0.mk H
 clear H
 go_enter Try.func79, Try.ntmps79
 go_wp2_with (first | ((with_reducible refine gate_dst (N := 1) rfl ?_); refine box_event ?hg (N := 1) ?hd (cs := #[.int .u8 a0_0, .int .i64 a0_1, .int .i64 a0_2, .int .i64 a0_3, .int .i64 a0_4, .int .i64 a0_5, .slice A0_6 l0_6.length c0_6]) (t := 26) ?hr ?_; (case hd => rfl); (case hg => rfl); (case hr => (go_simp; done)); intro gb131 hg w2 hbox hb; have BK131 := Aside0.mk (hbox); replace HO0_6 := Aside0.mk (Kd.V_below (Kd.V_elderB HO0_6.out gb131 (Nat.le_of_eq hg.symm)) hb); replace HB := Aside0.mk (below_step (by repeat ((with_reducible exact HB.out))) hb); clear hb hbox hg; have hcz3_0 : w2.cell? ⟨gb131, 0, none⟩ = some (.int .u8 a0_0) := (blk_cell BK131.out 0).trans rfl; have hcz3_1 : w2.cell? ⟨gb131, 1, none⟩ = some (.int .i64 a0_1) := (blk_cell BK131.out 1).trans rfl; have hcz3_2 : w2.cell? ⟨gb131, 2, none⟩ = some (.int .i64 a0_2) := (blk_cell BK131.out 2).trans rfl; have hcz3_3 : w2.cell? ⟨gb131, 3, none⟩ = some (.int .i64 a0_3) := (blk_cell BK131.out 3).trans rfl; have hcz3_4 : w2.cell? ⟨gb131, 4, none⟩ = some (.int .i64 a0_4) := (blk_cell BK131.out 4).trans rfl; have hcz3_5 : w2.cell? ⟨gb131, 5, none⟩ = some (.int .i64 a0_5) := (blk_cell BK131.out 5).trans rfl; have hcz3_6 : w2.cell? ⟨gb131, 6, none⟩ = some (.slice A0_6 l0_6.length c0_6) := (blk_cell BK131.out 6).trans rfl; have hfz3_0 := blk_frozen BK131.out 0; have hfz3_1 := blk_frozen BK131.out 1; have hfz3_2 := blk_frozen BK131.out 2; have hfz3_3 := blk_frozen BK131.out 3; have hfz3_4 := blk_frozen BK131.out 4; have hfz3_5 := blk_frozen BK131.out 5; have hfz3_6 := blk_frozen BK131.out 6) | ((with_reducible refine gate_dst (N := 6) rfl ?_); refine Kd.N_lit k26 _ 26 ?hg (N' := 6) ?hd (xs := ([(⟨a0_0, (⟨a0_1, a0_2, a0_3, a0_4⟩ : S23), a0_5, l0_6⟩ : S26)] : List (S26))) (inner := [.int .u8 a0_0, .int .i64 a0_1, .int .i64 a0_2, .int .i64 a0_3, .int .i64 a0_4, .int .i64 a0_5, .slice A0_6 l0_6.length c0_6]) (ok := (fun k_ => (P0_6_ k_ ∨ w.heap.size ≤ k_) ∧ k_ ≠ gb131)) (okp := (fun k_ => (P0_6_ k_ ∨ w.heap.size ≤ k_) ∧ k_ ≠ gb131)) ?hr ?hp (fun _ hk => hk) ((show ∀ k_, w2.heap.size ≤ k_ → (fun k_ => (P0_6_ k_ ∨ w.heap.size ≤ k_) ∧ k_ ≠ gb131) k_ from fun k_ hk => ⟨(.inr (Nat.le_trans (below_size (by repeat ((with_reducible exact HB.out)))) hk)), Kd.freshB BK131.out k_ hk⟩) _ (Nat.le_refl _)) (Below.refl _ _) (Nat.le_refl _) (by simp) ?_; (case hd => rfl); (case hg => rfl); (case hr => (go_simp; done)); (case hp => exact (Reps.c7 (show Kd.FK k26 _ _ (⟨a0_0, (⟨a0_1, a0_2, a0_3, a0_4⟩ : S23), a0_5, l0_6⟩ : S26) [.int .u8 a0_0, .int .i64 a0_1, .int .i64 a0_2, .int .i64 a0_3, .int .i64 a0_4, .int .i64 a0_5, .slice A0_6 l0_6.length c0_6] from (k26_mkF _ _ (⟨a0_0, (⟨a0_1, a0_2, a0_3, a0_4⟩ : S23), a0_5, l0_6⟩ : S26) (Kd.V_reads' (Kd.V_mono (ok' := (fun k_ => (P0_6_ k_ ∨ w.heap.size ≤ k_) ∧ k_ ≠ gb131)) (HO0_6.out) (fun k_ hk => ⟨hk.1, hk.2⟩))).2.1 (Kd.V_F (Kd.V_mono (ok' := (fun k_ => (P0_6_ k_ ∨ w.heap.size ≤ k_) ∧ k_ ≠ gb131)) (HO0_6.out) (fun k_ hk => ⟨hk.1, hk.2⟩))))) (Reps.none _ _))); intro v133 w4 ho5 hb hg_ hnew_; clear hg_ hnew_; (rw [← Ny132.out] at ho5); have HO134 := Aside0.mk (Kd.N_lower ho5 (below_size (by repeat ((with_reducible exact HB.out))))); replace HO0_6 := Aside0.mk (Kd.V_elder' HO0_6.out (Kd.N_base ho5) hb); replace BK131 := Aside0.mk (blk_below BK131.out hb); replace HB := Aside0.mk (below_step (by repeat ((with_reducible exact HB.out))) hb); clear hb ho5; have hcz6_0 : w4.cell? ⟨gb131, 0, none⟩ = some (.int .u8 a0_0) := (blk_cell BK131.out 0).trans rfl; have hcz6_1 : w4.cell? ⟨gb131, 1, none⟩ = some (.int .i64 a0_1) := (blk_cell BK131.out 1).trans rfl; have hcz6_2 : w4.cell? ⟨gb131, 2, none⟩ = some (.int .i64 a0_2) := (blk_cell BK131.out 2).trans rfl; have hcz6_3 : w4.cell? ⟨gb131, 3, none⟩ = some (.int .i64 a0_3) := (blk_cell BK131.out 3).trans rfl; have hcz6_4 : w4.cell? ⟨gb131, 4, none⟩ = some (.int .i64 a0_4) := (blk_cell BK131.out 4).trans rfl; have hcz6_5 : w4.cell? ⟨gb131, 5, none⟩ = some (.int .i64 a0_5) := (blk_cell BK131.out 5).trans rfl; have hcz6_6 : w4.cell? ⟨gb131, 6, none⟩ = some (.slice A0_6 l0_6.length c0_6) := (blk_cell BK131.out 6).trans rfl; have hfz6_0 := blk_frozen BK131.out 0; have hfz6_1 := blk_frozen BK131.out 1; have hfz6_2 := blk_frozen BK131.out 2; have hfz6_3 := blk_frozen BK131.out 3; have hfz6_4 := blk_frozen BK131.out 4; have hfz6_5 := blk_frozen BK131.out 5; have hfz6_6 := blk_frozen BK131.out 6))
 go_loopg [3, 10] k (fun kq v3 v10 w' => ∃ (x3_1 : List (S26)) (x10_1 : Int), v10 = .int .i64 x10_1 ∧ Aside0 (sashref05_All.l0 kq x3_1 (l0_6.length : Int) x10_1 a0_0 a0_1 a0_2 a0_3 a0_4 a0_5 l0_6 = some r) ∧ Aside0 (kq ≤ k) ∧ Aside0 (Kd.N k26 26 w' w.heap.size (fun k_ => (P0_6_ k_ ∨ w.heap.size ≤ k_) ∧ k_ ≠ gb131) v3 x3_1) ∧ Aside0 (Kd.V k26 26 w' w.heap.size (fun k_ => (P0_6_ k_ ∨ w.heap.size ≤ k_) ∧ some k_ ≠ (v3 : Value).ownBlock ∧ k_ ≠ gb131) (.slice A0_6 l0_6.length c0_6) l0_6) ∧ Aside0 (w'.heap[gb131]? = some (.cells #[.int .u8 a0_0, .int .i64 a0_1, .int .i64 a0_2, .int .i64 a0_3, .int .i64 a0_4, .int .i64 a0_5, (.slice A0_6 l0_6.length c0_6)] 26 (0, 0))) ∧ Aside0 (Below w.heap.size w w'))
 case atStart => exact ⟨(y132), (0), (by rfl), H', ⟨Nat.le_refl _⟩, ⟨by exact HO134.out⟩, ⟨by exact Kd.V_mono HO0_6.out (fun _ hk => ⟨hk.1.1, ⟨hk.2, hk.1.2⟩⟩)⟩, ⟨by exact BK131.out⟩, ⟨by repeat ((with_reducible exact HB.out))⟩⟩
 case round =>
  clear H'
  clear hcz3_0 hcz3_1 hcz3_2 hcz3_3 hcz3_4 hcz3_5 hcz3_6 hcz6_0 hcz6_1 hcz6_2 hcz6_3 hcz6_4 hcz6_5 hcz6_6 hfz3_0 hfz3_1 hfz3_2 hfz3_3 hfz3_4 hfz3_5 hfz3_6 hfz6_0 hfz6_1 hfz6_2 hfz6_3 hfz6_4 hfz6_5 hfz6_6
  obtain ⟨x3_1, x10_1, rfl, HA, HK1, HO_3, HO_132006, BK131, HB⟩ := hrel
  cases gk with
  | zero => exact absurd HA.out (by simp [sashref05_All.l0])
  | succ k1 =>
   have H := HA.out
   clear HA
   simp only [sashref05_All.l0] at H
   by_cases c7 : x10_1 < (l0_6.length : Int)
   ·rw [if_pos c7] at H
    have c7b0 : decide (x10_1 < (l0_6.length : Int)) = true := decide_eq_true c7
    clear c7
    by_cases c8 : 0 ≤ x10_1
    ·rw [if_pos c8] at H
     have c8b0 : decide (0 ≤ x10_1) = true := decide_eq_true c8
     clear c8
     by_cases c9 : x10_1 < (l0_6.length : Int)
     ·rw [if_pos c9] at H
      have c9b0 : decide (x10_1 < (l0_6.length : Int)) = true := decide_eq_true c9
      clear c9
      replace H := Option.bind_eq_some_iff.mp H
      obtain ⟨t136, A100, H⟩ := H
      replace H : (if x3_1.length + t136.length < 1954687338268 then (sashref05_All.l0 k1 (x3_1 ++ t136) (l0_6.length : Int) (wrap64 (x10_1 + 1)) a0_0 a0_1 a0_2 a0_3 a0_4 a0_5 l0_6) else (none)) = some r := H
      have A10 := Aside0.mk A100
      clear A100
      by_cases c11 : x3_1.length + t136.length < 1954687338268
      ·rw [if_pos c11] at H
       have LMc11 := Aside0.mk c11
       clear c11
       obtain ⟨y139, hy139⟩ : ∃ y_ : List (S26), y_ = (x3_1 ++ t136) := ⟨_, rfl⟩
       replace H : (sashref05_All.l0 k1 y139 (l0_6.length : Int) (wrap64 (x10_1 + 1)) a0_0 a0_1 a0_2 a0_3 a0_4 a0_5 l0_6) = some r := by (rw [hy139]; with_reducible exact H)
       have Ny139 := Aside0.mk hy139
       clear hy139
       have H' := Aside0.mk H
       clear H
       have hcz12_0 : wr.cell? ⟨gb131, 0, none⟩ = some (.int .u8 a0_0) := (blk_cell BK131.out 0).trans rfl
       have hcz12_1 : wr.cell? ⟨gb131, 1, none⟩ = some (.int .i64 a0_1) := (blk_cell BK131.out 1).trans rfl
       have hcz12_2 : wr.cell? ⟨gb131, 2, none⟩ = some (.int .i64 a0_2) := (blk_cell BK131.out 2).trans rfl
       have hcz12_3 : wr.cell? ⟨gb131, 3, none⟩ = some (.int .i64 a0_3) := (blk_cell BK131.out 3).trans rfl
       have hcz12_4 : wr.cell? ⟨gb131, 4, none⟩ = some (.int .i64 a0_4) := (blk_cell BK131.out 4).trans rfl
       have hcz12_5 : wr.cell? ⟨gb131, 5, none⟩ = some (.int .i64 a0_5) := (blk_cell BK131.out 5).trans rfl
       have hcz12_6 : wr.cell? ⟨gb131, 6, none⟩ = some (.slice A0_6 l0_6.length c0_6) := (blk_cell BK131.out 6).trans rfl
       have hfz12_0 := blk_frozen BK131.out 0
       have hfz12_1 := blk_frozen BK131.out 1
       have hfz12_2 := blk_frozen BK131.out 2
       have hfz12_3 := blk_frozen BK131.out 3
       have hfz12_4 := blk_frozen BK131.out 4
       have hfz12_5 := blk_frozen BK131.out 5
       have hfz12_6 := blk_frozen BK131.out 6
       have p135 : 0 ≤ (x10_1 : Int) := of_decide_eq_true (by (with_reducible assumption))
       have q135 : x10_1 < (l0_6.length : Int) := of_decide_eq_true (by (with_reducible assumption))
       obtain ⟨ad135, A135_6, c135_6, e135, hx135_0, hx135_1, hx135_2, hx135_3, hx135_4, hx135_5, hx135_6, hl135_6, hi135_6⟩ := at_T26 (Kd.V_reads' HO_132006.out).2.2 x10_1 p135 q135
       cases e135
       obtain ⟨ce135, hce135, hMe135, hcc135⟩ := Kd.V_get HO_132006.out z26 x10_1 p135 q135
       obtain ⟨ua135_6, uc135_6, rfl, ul135_6, ge135_6⟩ := k26_openF hMe135
       have hv135_6 := hcc135 6 _ rfl
       rw [add_field _ _ 6 (by omega)] at hv135_6
       replace hv135_6 := Option.some.inj (hv135_6.symm.trans hx135_6)
       injection hv135_6 with hva_ hvn_ hvc_
       rw [hva_] at ge135_6
       rw [hvc_] at ul135_6
       have HL135_6 := Aside0.mk (show Kd.V k26 26 _ w.heap.size _ _ ((rd_T26 l0_6 x10_1).f3) from Kd.V_mk ul135_6 ge135_6)
       clear hva_ hvn_ hvc_ ge135_6 ul135_6
       clear hcc135 hce135
       clear hi135_6 hl135_6
       replace p135 := eq_true p135
       replace q135 := eq_true q135
       go_wp2_with (first | ((with_reducible refine gate_callee (f := 79) rfl ?_); refine goesL_ (some 19) rfl rfl Try.func79 (by kernel_rfl) rfl #[.agg #[.int .u8 ((rd_T26 l0_6 x10_1).f0), .int .i64 ((rd_T26 l0_6 x10_1).f1.f0), .int .i64 ((rd_T26 l0_6 x10_1).f1.f1), .int .i64 ((rd_T26 l0_6 x10_1).f1.f2), .int .i64 ((rd_T26 l0_6 x10_1).f1.f3), .int .i64 ((rd_T26 l0_6 x10_1).f2), .slice A135_6 ((rd_T26 l0_6 x10_1).f3).length c135_6]] rfl (by (try simp only [List.map_toArray, List.map_cons, List.map_nil]); rfl) ?_; (with_reducible refine (ih k1 (by have := HK1.out; omega) ((rd_T26 l0_6 x10_1).f0) ((rd_T26 l0_6 x10_1).f1.f0) ((rd_T26 l0_6 x10_1).f1.f1) ((rd_T26 l0_6 x10_1).f1.f2) ((rd_T26 l0_6 x10_1).f1.f3) ((rd_T26 l0_6 x10_1).f2) (fun k_ => ((P0_6_ k_ ∨ w.heap.size ≤ k_) ∧ (some k_ ≠ (u3 : Value).ownBlock ∧ k_ ≠ gb131))) _ _ ((rd_T26 l0_6 x10_1).f3) t136 _ ?side1 A10.out).mono ?_); (case side1 => exact HL135_6.out); rintro e w13 ⟨v137, rfl, ho0, hb⟩; refine ⟨_, rfl, ?_⟩; have HO138 := Aside0.mk (Kd.N_lower (Kd.N_mono (ok' := fun k_ => (P0_6_ k_ ∨ w.heap.size ≤ k_) ∧ some k_ ≠ (u3 : Value).ownBlock ∧ k_ ≠ gb131) ho0 (fun k_ hk_ => ⟨Or.elim hk_ (fun hs_ => hs_.1) (fun hn_ => (.inr (Nat.le_trans (below_size (by repeat ((with_reducible exact HB.out)))) hn_))), Or.elim hk_ (fun hs_ => hs_.2.1) (fun hn_ => (Kd.fresh' (Kd.N_lt HO_3.out) k_ hn_)), Or.elim hk_ (fun hs_ => hs_.2.2) (fun hn_ => (Kd.freshB BK131.out k_ hn_))⟩)) (below_size (by repeat ((with_reducible exact HB.out))))); replace HO_3 := Aside0.mk (Kd.N_elder' HO_3.out (Kd.N_base ho0) hb); replace HO_132006 := Aside0.mk (Kd.V_elder' HO_132006.out (Kd.N_base ho0) hb); replace HL135_6 := Aside0.mk (Kd.V_elder' HL135_6.out (Kd.N_base ho0) hb); replace BK131 := Aside0.mk (blk_below BK131.out hb); replace HB := Aside0.mk (below_step (by repeat ((with_reducible exact HB.out))) hb); (try clear hb); (try clear ho0); obtain ⟨Ao15, co15, eo15⟩ := Kd.N_slice HO138.out; subst eo15) | ((with_reducible refine gate_builtin (b := .append) (xs := #[.tmp 13, .tmp 19]) rfl ?_); at_builtin; refine Kd.N_append_rows k26 (w0 := w) w.heap.size rfl (.tmp 13) (.tmp 19) 24 26 (.agg #[(.int .u8 0), (.int .i64 0), (.int .i64 0), (.int .i64 0), (.int .i64 0), (.int .i64 0), (.slice none 0 0)]) 72 rfl Try.underlying24 info26 rfl (by decide) (by omega) u3 x3_1 t136 _ _ _ (fun k_ => (P0_6_ k_ ∨ w.heap.size ≤ k_) ∧ k_ ≠ gb131) (fun k_ => ((fun k_ => (P0_6_ k_ ∨ w.heap.size ≤ k_) ∧ k_ ≠ gb131)) k_ ∧ some k_ ≠ (u3 : Value).ownBlock) rfl rfl ?aO ?aR (fun _ hk => hk) ?aF ?aB ?aS ?aL ?_; (case aR => exact (by exact Kd.N_F (Kd.N_mono (ok' := (fun k_ => ((fun k_ => (P0_6_ k_ ∨ w.heap.size ≤ k_) ∧ k_ ≠ gb131)) k_ ∧ some k_ ≠ (u3 : Value).ownBlock)) (HO138.out) (fun k_ hk => ⟨⟨hk.1, hk.2.2⟩, hk.2.1⟩)))); (case aB => exact (by repeat ((with_reducible exact HB.out)))); (case aF => exact (fun k_ hk => ⟨(.inr (Nat.le_trans (below_size (by repeat ((with_reducible exact HB.out)))) hk)), Kd.freshB BK131.out k_ hk⟩)); (case aO => exact (by exact Kd.N_mono HO_3.out (fun _ hk => ⟨hk.1.1, hk.1.2⟩))); (case aS => exact (below_size (by repeat ((with_reducible exact HB.out))))); (case aL => have := LMc11.out; omega); intro v140 w14 ho hb hg hat; rw [← Ny139.out] at ho; have HO141 := Aside0.mk (ho); replace HO_132006 := Aside0.mk (Kd.V_afterv (ok := (fun k_ => (P0_6_ k_ ∨ w.heap.size ≤ k_) ∧ some k_ ≠ (.slice Ao15 t136.length co15 : Value).ownBlock ∧ k_ ≠ gb131)) (by exact Kd.V_mono HO_132006.out (fun _ hk => ⟨⟨hk.1.1, ⟨hk.2, hk.1.2.2⟩⟩, hk.1.2.1⟩)) hg hat); replace BK131 := Aside0.mk (blk_grown BK131.out hg (Kd.N_away HO_3.out (fun _ hk => hk.1.2))); replace HL135_6 := Aside0.mk (Kd.V_afterv (ok := (fun k_ => (P0_6_ k_ ∨ w.heap.size ≤ k_) ∧ some k_ ≠ (.slice Ao15 t136.length co15 : Value).ownBlock ∧ k_ ≠ gb131)) (by exact Kd.V_mono HL135_6.out (fun _ hk => ⟨⟨hk.1.1, ⟨hk.2, hk.1.2.2⟩⟩, hk.1.2.1⟩)) hg hat); replace HO138 := Aside0.mk (Kd.N_afterv (ok := (fun k_ => (P0_6_ k_ ∨ w.heap.size ≤ k_) ∧ k_ ≠ gb131)) (by exact Kd.N_mono HO138.out (fun _ hk => ⟨⟨hk.1, hk.2.2⟩, hk.2.1⟩)) hg hat); replace HB := Aside0.mk (hb); clear HO_3; clear ho hb hg hat))
       go_roundg k1
       case measure => have := HK1.out; omega
       case rel => exact ⟨(y139), (wrap64 (x10_1 + 1)), (by rfl), H', ⟨by have := HK1.out; omega⟩, ⟨by exact HO141.out⟩, ⟨by exact Kd.V_mono HO_132006.out (fun _ hk => ⟨hk.1.1, ⟨hk.2, hk.1.2.2⟩⟩)⟩, ⟨by exact BK131.out⟩, ⟨by repeat ((with_reducible exact HB.out))⟩⟩
      ·rw [if_neg c11] at H
       exact absurd H (by simp)
     ·rw [if_neg c9] at H
      exact absurd H (by simp)
    ·rw [if_neg c8] at H
     exact absurd H (by simp)
   ·rw [if_neg c7] at H
    have c7b0 : decide (x10_1 < (l0_6.length : Int)) = false := decide_eq_false c7
    clear c7
    obtain rfl := Option.some.inj H
    go_wp2
    go_ret
    exact ⟨_, by rfl, by exact Kd.N_mono HO_3.out (fun _ hk => hk.1), by repeat ((with_reducible exact HB.out))⟩

end Go.Proofs.Ytfdmfgaiblfbhaa.P
namespace Go.Proofs.Ytfdmfgaiblfbhaa.P
open Go.RowKit Go.Proofs.YtfdmfgaiblfbhaaW.PrintWords Go.Proofs.YtfdmfgaiblfbhaaW.PrintLast Go.Proofs.YtfdmfgaiblfbhaaW.PrintMore
attribute [local go_sem] max2_int min2_int max_two min_two max_three min_three max_four min_four   -- for this text's walks alone
set_option linter.unusedVariables false
set_option linter.unusedSimpArgs false

/-! ### sashref05_Leaves: function 126 -/
def sashref05_Leaves.l0 : Nat → List (S26) → List (S26) → Int → Int → Option ((List (S26)))
 | 0, _, _, _, _ => none
 | k + 1, x3, x4, x10, x11 => if x11 < x10 then (if 0 ≤ x11 then (if x11 < (x4.length : Int) then (if ((rd_T26 x4 x11).f0) = 1 then (if x3.length < 1954687338268 then (sashref05_Leaves.l0 k (x3 ++ [(⟨(rd_T26 x4 x11).f0, (⟨(rd_T26 x4 x11).f1.f0, (rd_T26 x4 x11).f1.f1, (rd_T26 x4 x11).f1.f2, (rd_T26 x4 x11).f1.f3⟩ : S23), (rd_T26 x4 x11).f2, (rd_T26 x4 x11).f3⟩ : S26)]) x4 x10 (wrap64 (x11 + 1))) else (none)) else (sashref05_Leaves.l0 k x3 x4 x10 (wrap64 (x11 + 1)))) else (none)) else (none)) else (some x3)
def sashref05_Leaves.f (k : Nat) (a0_0 : Int) (a0_1 : Int) (a0_2 : Int) (a0_3 : Int) (a0_4 : Int) (a0_5 : Int) (l0_6 : List (S26)) : Option ((List (S26))) := (sashref05_All.f k a0_0 a0_1 a0_2 a0_3 a0_4 a0_5 l0_6).bind fun t146 => (sashref05_Leaves.l0 k (([] : List (S26))) t146 (t146.length : Int) 0)
theorem sashref05_Leaves.mono_l : ∀ k, (∀ y0 y1 y2 y3, LeO (sashref05_Leaves.l0 k y0 y1 y2 y3) (sashref05_Leaves.l0 (k + 1) y0 y1 y2 y3))
 | 0 => fun _ _ _ _ r h => by simp [sashref05_Leaves.l0] at h
 | k + 1 => by
  have ih0 := sashref05_Leaves.mono_l k
  ·intro y0 y1 y2 y3
   unfold sashref05_Leaves.l0
   repeat' first | (with_reducible exact ih0 _ _ _ _) | (with_reducible exact LeO.refl _) | (with_reducible refine LeO.ite ?_ ?_)
theorem sashref05_Leaves.mono : ∀ a0 a1 a2 a3 a4 a5 a6 k, LeO (sashref05_Leaves.f k a0 a1 a2 a3 a4 a5 a6) (sashref05_Leaves.f (k + 1) a0 a1 a2 a3 a4 a5 a6) := by
 intro a0 a1 a2 a3 a4 a5 a6 k
 have ih0 := sashref05_Leaves.mono_l k
 unfold sashref05_Leaves.f
 repeat' first | (with_reducible exact ih0 _ _ _ _) | (with_reducible exact sashref05_All.mono _ _ _ _ _ _ _ _) | (with_reducible refine LeO.bind ?_ (fun _ => ?_))
set_option maxHeartbeats 8000000 in
set_option maxRecDepth 100000 in
theorem sashref05_Leaves.calls (k : Nat) (a0_0 : Int) (a0_1 : Int) (a0_2 : Int) (a0_3 : Int) (a0_4 : Int) (a0_5 : Int) (P0_6_ : Nat → Prop) (A0_6 : Option Addr) (c0_6 : Nat) (l0_6 : List (S26)) (r : List (S26)) (w : World) (hs0_6 : Kd.V k26 26 w w.heap.size (fun k_ => P0_6_ k_) (.slice A0_6 l0_6.length c0_6) l0_6) (h : sashref05_Leaves.f k a0_0 a0_1 a0_2 a0_3 a0_4 a0_5 l0_6 = some r) :
  Calls Try.prog 126 #[.agg #[.int .u8 a0_0, .int .i64 a0_1, .int .i64 a0_2, .int .i64 a0_3, .int .i64 a0_4, .int .i64 a0_5, .slice A0_6 l0_6.length c0_6]] w fun e w' => ∃ v0_ : Value, e = .returned (v0_) ∧ Kd.N k26 26 w' w.heap.size (fun k_ => (P0_6_ k_ ∨ w.heap.size ≤ k_)) v0_ r ∧ Below w.heap.size w w' := by
 have hu26 := Try.underlying26
 have HO0_6 := Aside0.mk (show Kd.V k26 26 w w.heap.size (fun k_ => (P0_6_ k_ ∨ w.heap.size ≤ k_)) (.slice A0_6 l0_6.length c0_6) l0_6 from Kd.V_mono hs0_6 (fun k_ hk => .inl hk))
 have HB := Aside0.mk (Below.refl w.heap.size w)
 have H : ((sashref05_All.f k a0_0 a0_1 a0_2 a0_3 a0_4 a0_5 l0_6).bind fun t146 => (sashref05_Leaves.l0 k (([] : List (S26))) t146 (t146.length : Int) 0)) = some r := h
 clear h
 obtain ⟨y143, hy143⟩ : ∃ y_ : List (S26), y_ = (([] : List (S26))) := ⟨_, rfl⟩
 replace H : ((sashref05_All.f k a0_0 a0_1 a0_2 a0_3 a0_4 a0_5 l0_6).bind fun t146 => (sashref05_Leaves.l0 k y143 t146 (t146.length : Int) 0)) = some r := by (rw [hy143]; with_reducible exact H)
 have Ny143 := Aside0.mk hy143
 clear hy143
 replace H := Option.bind_eq_some_iff.mp H
 obtain ⟨t146, A20, H⟩ := H
 replace H : (sashref05_Leaves.l0 k y143 t146 (t146.length : Int) 0) = some r := H
 have A2 := Aside0.mk A20
 clear A20
 have H' := Aside0.mk H
 clear H
 go_enter Try.func126, Try.ntmps126
 go_wp2_with (first | ((with_reducible refine gate_dst (N := 1) rfl ?_); refine box_event ?hg (N := 1) ?hd (cs := #[.int .u8 a0_0, .int .i64 a0_1, .int .i64 a0_2, .int .i64 a0_3, .int .i64 a0_4, .int .i64 a0_5, .slice A0_6 l0_6.length c0_6]) (t := 26) ?hr ?_; (case hd => rfl); (case hg => rfl); (case hr => (go_simp; done)); intro gb142 hg w3 hbox hb; have BK142 := Aside0.mk (hbox); replace HO0_6 := Aside0.mk (Kd.V_below (Kd.V_elderB HO0_6.out gb142 (Nat.le_of_eq hg.symm)) hb); replace HB := Aside0.mk (below_step (by repeat ((with_reducible exact HB.out))) hb); clear hb hbox hg) | ((with_reducible refine gate_dst (N := 6) rfl ?_); refine Kd.N_lit k26 _ 26 ?hg (N' := 6) ?hd (xs := ([] : List (S26))) (inner := []) (ok := (fun k_ => (P0_6_ k_ ∨ w.heap.size ≤ k_) ∧ k_ ≠ gb142)) (okp := (fun k_ => (P0_6_ k_ ∨ w.heap.size ≤ k_) ∧ k_ ≠ gb142)) ?hr ?hp (fun _ hk => hk) ((show ∀ k_, w3.heap.size ≤ k_ → (fun k_ => (P0_6_ k_ ∨ w.heap.size ≤ k_) ∧ k_ ≠ gb142) k_ from fun k_ hk => ⟨(.inr (Nat.le_trans (below_size (by repeat ((with_reducible exact HB.out)))) hk)), Kd.freshB BK142.out k_ hk⟩) _ (Nat.le_refl _)) (Below.refl _ _) (Nat.le_refl _) (by simp) ?_; (case hd => rfl); (case hg => rfl); (case hr => (go_simp; done)); (case hp => exact (Reps.none _ _)); intro v144 w4 ho5 hb hg_ hnew_; clear hg_ hnew_; (rw [← Ny143.out] at ho5); have HO145 := Aside0.mk (Kd.N_lower ho5 (below_size (by repeat ((with_reducible exact HB.out))))); replace HO0_6 := Aside0.mk (Kd.V_elder' HO0_6.out (Kd.N_base ho5) hb); replace BK142 := Aside0.mk (blk_below BK142.out hb); replace HB := Aside0.mk (below_step (by repeat ((with_reducible exact HB.out))) hb); clear hb ho5; have hcz6_0 : w4.cell? ⟨gb142, 0, none⟩ = some (.int .u8 a0_0) := (blk_cell BK142.out 0).trans rfl; have hcz6_1 : w4.cell? ⟨gb142, 1, none⟩ = some (.int .i64 a0_1) := (blk_cell BK142.out 1).trans rfl; have hcz6_2 : w4.cell? ⟨gb142, 2, none⟩ = some (.int .i64 a0_2) := (blk_cell BK142.out 2).trans rfl; have hcz6_3 : w4.cell? ⟨gb142, 3, none⟩ = some (.int .i64 a0_3) := (blk_cell BK142.out 3).trans rfl; have hcz6_4 : w4.cell? ⟨gb142, 4, none⟩ = some (.int .i64 a0_4) := (blk_cell BK142.out 4).trans rfl; have hcz6_5 : w4.cell? ⟨gb142, 5, none⟩ = some (.int .i64 a0_5) := (blk_cell BK142.out 5).trans rfl; have hcz6_6 : w4.cell? ⟨gb142, 6, none⟩ = some (.slice A0_6 l0_6.length c0_6) := (blk_cell BK142.out 6).trans rfl; have hfz6_0 := blk_frozen BK142.out 0; have hfz6_1 := blk_frozen BK142.out 1; have hfz6_2 := blk_frozen BK142.out 2; have hfz6_3 := blk_frozen BK142.out 3; have hfz6_4 := blk_frozen BK142.out 4; have hfz6_5 := blk_frozen BK142.out 5; have hfz6_6 := blk_frozen BK142.out 6) | ((with_reducible refine gate_callee (f := 79) rfl ?_); refine goesL_ (some 8) rfl rfl Try.func79 (by kernel_rfl) rfl #[.agg #[.int .u8 a0_0, .int .i64 a0_1, .int .i64 a0_2, .int .i64 a0_3, .int .i64 a0_4, .int .i64 a0_5, .slice A0_6 l0_6.length c0_6]] rfl (by (try simp only [List.map_toArray, List.map_cons, List.map_nil]); rfl) ?_; (with_reducible refine (sashref05_All.calls k a0_0 a0_1 a0_2 a0_3 a0_4 a0_5 (fun k_ => (((P0_6_ k_ ∨ w.heap.size ≤ k_) ∧ k_ ≠ gb142) ∧ some k_ ≠ (v144 : Value).ownBlock)) _ _ l0_6 t146 _ ?side1 A2.out).mono ?_); (case side1 => exact HO0_6.out); rintro e w7 ⟨v147, rfl, ho0, hb⟩; refine ⟨_, rfl, ?_⟩; have HO148 := Aside0.mk (Kd.N_lower (Kd.N_mono (ok' := fun k_ => (P0_6_ k_ ∨ w.heap.size ≤ k_) ∧ some k_ ≠ (v144 : Value).ownBlock ∧ k_ ≠ gb142) ho0 (fun k_ hk_ => ⟨Or.elim hk_ (fun hs_ => hs_.1.1) (fun hn_ => (.inr (Nat.le_trans (below_size (by repeat ((with_reducible exact HB.out)))) hn_))), Or.elim hk_ (fun hs_ => hs_.2) (fun hn_ => (Kd.fresh' (Kd.N_lt HO145.out) k_ hn_)), Or.elim hk_ (fun hs_ => hs_.1.2) (fun hn_ => (Kd.freshB BK142.out k_ hn_))⟩)) (below_size (by repeat ((with_reducible exact HB.out))))); replace HO0_6 := Aside0.mk (Kd.V_elder' HO0_6.out (Kd.N_base ho0) hb); replace HO145 := Aside0.mk (Kd.N_elder' HO145.out (Kd.N_base ho0) hb); replace BK142 := Aside0.mk (blk_below BK142.out hb); replace HB := Aside0.mk (below_step (by repeat ((with_reducible exact HB.out))) hb); (try clear hb); (try clear ho0); obtain ⟨Ao8, co8, eo8⟩ := Kd.N_slice HO148.out; subst eo8))
 go_loopg [3, 11] k (fun kq v3 v11 w' => ∃ (x3_1 : List (S26)) (x11_1 : Int), v11 = .int .i64 x11_1 ∧ Aside0 (sashref05_Leaves.l0 kq x3_1 t146 (t146.length : Int) x11_1 = some r) ∧ Aside0 (kq ≤ k) ∧ Aside0 (Kd.N k26 26 w' w.heap.size (fun k_ => (P0_6_ k_ ∨ w.heap.size ≤ k_) ∧ some k_ ≠ ((.slice Ao8 t146.length co8) : Value).ownBlock ∧ k_ ≠ gb142) v3 x3_1) ∧ Aside0 (Kd.N k26 26 w' w.heap.size (fun k_ => (P0_6_ k_ ∨ w.heap.size ≤ k_) ∧ some k_ ≠ (v3 : Value).ownBlock ∧ k_ ≠ gb142) (.slice Ao8 t146.length co8) t146) ∧ Aside0 (Kd.V k26 26 w' w.heap.size (fun k_ => (P0_6_ k_ ∨ w.heap.size ≤ k_) ∧ some k_ ≠ (v3 : Value).ownBlock ∧ some k_ ≠ ((.slice Ao8 t146.length co8) : Value).ownBlock ∧ k_ ≠ gb142) (.slice A0_6 l0_6.length c0_6) l0_6) ∧ Aside0 (w'.heap[gb142]? = some (.cells #[.int .u8 a0_0, .int .i64 a0_1, .int .i64 a0_2, .int .i64 a0_3, .int .i64 a0_4, .int .i64 a0_5, (.slice A0_6 l0_6.length c0_6)] 26 (0, 0))) ∧ Aside0 (Below w.heap.size w w'))
 case atStart => exact ⟨(y143), (0), (by rfl), H', ⟨Nat.le_refl _⟩, ⟨by exact Kd.N_mono HO145.out (fun _ hk => ⟨hk.1.1, ⟨hk.2, hk.1.2⟩⟩)⟩, ⟨by exact HO148.out⟩, ⟨by exact Kd.V_mono HO0_6.out (fun _ hk => ⟨hk.1.1.1, ⟨hk.1.2, ⟨hk.2, hk.1.1.2⟩⟩⟩)⟩, ⟨by exact BK142.out⟩, ⟨by repeat ((with_reducible exact HB.out))⟩⟩
 case round =>
  clear H'
  clear hcz6_0 hcz6_1 hcz6_2 hcz6_3 hcz6_4 hcz6_5 hcz6_6 hfz6_0 hfz6_1 hfz6_2 hfz6_3 hfz6_4 hfz6_5 hfz6_6
  obtain ⟨x3_1, x11_1, rfl, HA, HK1, HO_3, HO_4, HO_143006, BK142, HB⟩ := hrel
  cases gk with
  | zero => exact absurd HA.out (by simp [sashref05_Leaves.l0])
  | succ k1 =>
   have H := HA.out
   clear HA
   simp only [sashref05_Leaves.l0] at H
   by_cases c9 : x11_1 < (t146.length : Int)
   ·rw [if_pos c9] at H
    have c9b0 : decide (x11_1 < (t146.length : Int)) = true := decide_eq_true c9
    clear c9
    by_cases c10 : 0 ≤ x11_1
    ·rw [if_pos c10] at H
     have c10b0 : decide (0 ≤ x11_1) = true := decide_eq_true c10
     clear c10
     by_cases c11 : x11_1 < (t146.length : Int)
     ·rw [if_pos c11] at H
      have c11b0 : decide (x11_1 < (t146.length : Int)) = true := decide_eq_true c11
      clear c11
      by_cases c12 : ((rd_T26 t146 x11_1).f0) = 1
      ·rw [if_pos c12] at H
       have c12b0 : (((rd_T26 t146 x11_1).f0) == 1) = true := beq_iff_eq.mpr c12
       have c12b1 : (((rd_T26 t146 x11_1).f0) != 1) = false := bne_eq_false_iff_eq.mpr c12
       clear c12
       by_cases c13 : x3_1.length < 1954687338268
       ·rw [if_pos c13] at H
        have LMc13 := Aside0.mk c13
        clear c13
        obtain ⟨y151, hy151⟩ : ∃ y_ : List (S26), y_ = (x3_1 ++ [(⟨(rd_T26 t146 x11_1).f0, (⟨(rd_T26 t146 x11_1).f1.f0, (rd_T26 t146 x11_1).f1.f1, (rd_T26 t146 x11_1).f1.f2, (rd_T26 t146 x11_1).f1.f3⟩ : S23), (rd_T26 t146 x11_1).f2, (rd_T26 t146 x11_1).f3⟩ : S26)]) := ⟨_, rfl⟩
        replace H : (sashref05_Leaves.l0 k1 y151 t146 (t146.length : Int) (wrap64 (x11_1 + 1))) = some r := by (rw [hy151]; with_reducible exact H)
        have Ny151 := Aside0.mk hy151
        clear hy151
        have H' := Aside0.mk H
        clear H
        have p149 : 0 ≤ (x11_1 : Int) := of_decide_eq_true (by (with_reducible assumption))
        have q149 : x11_1 < (t146.length : Int) := of_decide_eq_true (by (with_reducible assumption))
        obtain ⟨ad149, A149_6, c149_6, e149, hx149_0, hx149_1, hx149_2, hx149_3, hx149_4, hx149_5, hx149_6, hl149_6, hi149_6⟩ := at_T26 (Kd.N_reads' HO_4.out).2.2 x11_1 p149 q149
        cases e149
        obtain ⟨ce149, hce149, hMe149, hcc149⟩ := Kd.N_get HO_4.out z26 x11_1 p149 q149
        obtain ⟨ua149_6, uc149_6, rfl, ul149_6, ge149_6⟩ := k26_openF hMe149
        have hv149_6 := hcc149 6 _ rfl
        rw [add_field _ _ 6 (by omega)] at hv149_6
        replace hv149_6 := Option.some.inj (hv149_6.symm.trans hx149_6)
        injection hv149_6 with hva_ hvn_ hvc_
        rw [hva_] at ge149_6
        rw [hvc_] at ul149_6
        clear hva_ hvn_ hvc_ ge149_6 ul149_6
        clear hcc149 hce149
        clear hi149_6 hl149_6
        replace p149 := eq_true p149
        replace q149 := eq_true q149
        have p150 : 0 ≤ (x11_1 : Int) := of_decide_eq_true (by (with_reducible assumption))
        have q150 : x11_1 < (t146.length : Int) := of_decide_eq_true (by (with_reducible assumption))
        obtain ⟨ad150, A150_6, c150_6, e150, hx150_0, hx150_1, hx150_2, hx150_3, hx150_4, hx150_5, hx150_6, hl150_6, hi150_6⟩ := at_T26 (Kd.N_reads' HO_4.out).2.2 x11_1 p150 q150
        obtain rfl : ad149 = ad150 := (by injection e150)
        obtain ⟨ce150, hce150, hMe150, hcc150⟩ := Kd.N_get HO_4.out z26 x11_1 p150 q150
        obtain ⟨ua150_6, uc150_6, rfl, ul150_6, ge150_6⟩ := k26_openF hMe150
        have hv150_6 := hcc150 6 _ rfl
        rw [add_field _ _ 6 (by omega)] at hv150_6
        replace hv150_6 := Option.some.inj (hv150_6.symm.trans hx150_6)
        injection hv150_6 with hva_ hvn_ hvc_
        rw [hva_] at ge150_6
        rw [hvc_] at ul150_6
        have HL150_6 := Aside0.mk (show Kd.V k26 26 _ w.heap.size _ _ ((rd_T26 t146 x11_1).f3) from Kd.V_mk ul150_6 ge150_6)
        clear hva_ hvn_ hvc_ ge150_6 ul150_6
        clear hcc150 hce150
        clear hi150_6 hl150_6
        replace p150 := eq_true p150
        replace q150 := eq_true q150
        have ea_ := Option.some.inj (hx149_6.symm.trans hx150_6)
        injection ea_ with ea_ en_ ec_
        subst ea_
        subst ec_
        clear en_
        go_wp2_with (((with_reducible refine gate_builtin (b := .append) (xs := #[.tmp 20, .tmp 25]) rfl ?_); at_builtin; refine Kd.N_append k26 (w0 := w) w.heap.size rfl (.tmp 20) (.tmp 25) 24 26 (.agg #[(.int .u8 0), (.int .i64 0), (.int .i64 0), (.int .i64 0), (.int .i64 0), (.int .i64 0), (.slice none 0 0)]) 72 rfl Try.underlying24 info26 rfl (by decide) (by omega) u3 x3_1 (⟨(rd_T26 t146 x11_1).f0, (⟨(rd_T26 t146 x11_1).f1.f0, (rd_T26 t146 x11_1).f1.f1, (rd_T26 t146 x11_1).f1.f2, (rd_T26 t146 x11_1).f1.f3⟩ : S23), (rd_T26 t146 x11_1).f2, (rd_T26 t146 x11_1).f3⟩ : S26) [.int .u8 ((rd_T26 t146 x11_1).f0), .int .i64 ((rd_T26 t146 x11_1).f1.f0), .int .i64 ((rd_T26 t146 x11_1).f1.f1), .int .i64 ((rd_T26 t146 x11_1).f1.f2), .int .i64 ((rd_T26 t146 x11_1).f1.f3), .int .i64 ((rd_T26 t146 x11_1).f2), .slice A149_6 ((rd_T26 t146 x11_1).f3).length c149_6] (fun k_ => (P0_6_ k_ ∨ w.heap.size ≤ k_) ∧ some k_ ≠ (.slice (some ad149) t146.length co8 : Value).ownBlock ∧ k_ ≠ gb142) (fun k_ => ((fun k_ => (P0_6_ k_ ∨ w.heap.size ≤ k_) ∧ some k_ ≠ (.slice (some ad149) t146.length co8 : Value).ownBlock ∧ k_ ≠ gb142)) k_ ∧ some k_ ≠ (u3 : Value).ownBlock) rfl rfl ?aP (fun _ hk => hk) ?aF ?aO ?aB ?aS ?aL ?_; (case aP => exact (k26_mkF _ _ (⟨(rd_T26 t146 x11_1).f0, (⟨(rd_T26 t146 x11_1).f1.f0, (rd_T26 t146 x11_1).f1.f1, (rd_T26 t146 x11_1).f1.f2, (rd_T26 t146 x11_1).f1.f3⟩ : S23), (rd_T26 t146 x11_1).f2, (rd_T26 t146 x11_1).f3⟩ : S26) (Kd.V_reads' (Kd.V_mono (ok' := (fun k_ => ((fun k_ => (P0_6_ k_ ∨ w.heap.size ≤ k_) ∧ some k_ ≠ (.slice (some ad149) t146.length co8 : Value).ownBlock ∧ k_ ≠ gb142)) k_ ∧ some k_ ≠ (u3 : Value).ownBlock)) (HL150_6.out) (fun k_ hk => ⟨⟨hk.1.1, ⟨hk.2, hk.1.2.2⟩⟩, hk.1.2.1⟩))).2.1 (Kd.V_F (Kd.V_mono (ok' := (fun k_ => ((fun k_ => (P0_6_ k_ ∨ w.heap.size ≤ k_) ∧ some k_ ≠ (.slice (some ad149) t146.length co8 : Value).ownBlock ∧ k_ ≠ gb142)) k_ ∧ some k_ ≠ (u3 : Value).ownBlock)) (HL150_6.out) (fun k_ hk => ⟨⟨hk.1.1, ⟨hk.2, hk.1.2.2⟩⟩, hk.1.2.1⟩))))); (case aB => exact (by repeat ((with_reducible exact HB.out)))); (case aF => exact (fun k_ hk => ⟨(.inr (Nat.le_trans (below_size (by repeat ((with_reducible exact HB.out)))) hk)), Kd.fresh' (Kd.N_lt HO_4.out) k_ hk, Kd.freshB BK142.out k_ hk⟩)); (case aO => exact HO_3.out); (case aS => exact (below_size (by repeat ((with_reducible exact HB.out))))); (case aL => have := LMc13.out; omega); intro v152 w14 ho hb hg hat; rw [← Ny151.out] at ho; have HO153 := Aside0.mk (ho); replace HO_4 := Aside0.mk (Kd.N_afterv (ok := (fun k_ => (P0_6_ k_ ∨ w.heap.size ≤ k_) ∧ k_ ≠ gb142)) (by exact Kd.N_mono HO_4.out (fun _ hk => ⟨⟨hk.1, hk.2.2⟩, hk.2.1⟩)) hg hat); replace HO_143006 := Aside0.mk (Kd.V_afterv (ok := (fun k_ => (P0_6_ k_ ∨ w.heap.size ≤ k_) ∧ some k_ ≠ (.slice (some ad149) t146.length co8 : Value).ownBlock ∧ k_ ≠ gb142)) (by exact Kd.V_mono HO_143006.out (fun _ hk => ⟨⟨hk.1, ⟨hk.2.2.1, hk.2.2.2⟩⟩, hk.2.1⟩)) hg hat); replace BK142 := Aside0.mk (blk_grown BK142.out hg (Kd.N_away HO_3.out (fun _ hk => hk.2.2))); replace HL150_6 := Aside0.mk (Kd.V_afterv (ok := (fun k_ => (P0_6_ k_ ∨ w.heap.size ≤ k_) ∧ some k_ ≠ (.slice (some ad149) t146.length co8 : Value).ownBlock ∧ k_ ≠ gb142)) (by exact Kd.V_mono HL150_6.out (fun _ hk => ⟨⟨hk.1.1, ⟨hk.2, hk.1.2.2⟩⟩, hk.1.2.1⟩)) hg hat); replace HB := Aside0.mk (hb); clear HO_3; clear ho hb hg hat))
        go_roundg k1
        case measure => have := HK1.out; omega
        case rel => exact ⟨(y151), (wrap64 (x11_1 + 1)), (by rfl), H', ⟨by have := HK1.out; omega⟩, ⟨by exact HO153.out⟩, ⟨by exact Kd.N_mono HO_4.out (fun _ hk => ⟨hk.1.1, ⟨hk.2, hk.1.2⟩⟩)⟩, ⟨by exact Kd.V_mono HO_143006.out (fun _ hk => ⟨hk.1.1, ⟨hk.2, ⟨hk.1.2.1, hk.1.2.2⟩⟩⟩)⟩, ⟨by exact BK142.out⟩, ⟨by repeat ((with_reducible exact HB.out))⟩⟩
       ·rw [if_neg c13] at H
        exact absurd H (by simp)
      ·rw [if_neg c12] at H
       have c12b0 : (((rd_T26 t146 x11_1).f0) == 1) = false := beq_eq_false_iff_ne.mpr c12
       have c12b1 : (((rd_T26 t146 x11_1).f0) != 1) = true := bne_iff_ne.mpr c12
       have H' := Aside0.mk H
       clear H
       have p149 : 0 ≤ (x11_1 : Int) := of_decide_eq_true (by (with_reducible assumption))
       have q149 : x11_1 < (t146.length : Int) := of_decide_eq_true (by (with_reducible assumption))
       obtain ⟨ad149, A149_6, c149_6, e149, hx149_0, hx149_1, hx149_2, hx149_3, hx149_4, hx149_5, hx149_6, hl149_6, hi149_6⟩ := at_T26 (Kd.N_reads' HO_4.out).2.2 x11_1 p149 q149
       cases e149
       obtain ⟨ce149, hce149, hMe149, hcc149⟩ := Kd.N_get HO_4.out z26 x11_1 p149 q149
       obtain ⟨ua149_6, uc149_6, rfl, ul149_6, ge149_6⟩ := k26_openF hMe149
       have hv149_6 := hcc149 6 _ rfl
       rw [add_field _ _ 6 (by omega)] at hv149_6
       replace hv149_6 := Option.some.inj (hv149_6.symm.trans hx149_6)
       injection hv149_6 with hva_ hvn_ hvc_
       rw [hva_] at ge149_6
       rw [hvc_] at ul149_6
       clear hva_ hvn_ hvc_ ge149_6 ul149_6
       clear hcc149 hce149
       clear hi149_6 hl149_6
       replace p149 := eq_true p149
       replace q149 := eq_true q149
       go_wp2
       go_roundg k1
       case measure => have := HK1.out; omega
       case rel => exact ⟨(x3_1), (wrap64 (x11_1 + 1)), (by rfl), H', ⟨by have := HK1.out; omega⟩, ⟨by exact HO_3.out⟩, ⟨by exact HO_4.out⟩, ⟨by exact HO_143006.out⟩, ⟨by exact BK142.out⟩, ⟨by repeat ((with_reducible exact HB.out))⟩⟩
     ·rw [if_neg c11] at H
      exact absurd H (by simp)
    ·rw [if_neg c10] at H
     exact absurd H (by simp)
   ·rw [if_neg c9] at H
    have c9b0 : decide (x11_1 < (t146.length : Int)) = false := decide_eq_false c9
    clear c9
    obtain rfl := Option.some.inj H
    go_wp2
    go_ret
    exact ⟨_, by rfl, by exact Kd.N_mono HO_3.out (fun _ hk => hk.1), by repeat ((with_reducible exact HB.out))⟩

end Go.Proofs.Ytfdmfgaiblfbhaa.P
/- Trees of cells: their size, their cells, their leaves, their panes: the reference's functions, as plain data. -/
namespace Go.Proofs.Ytfdmfgaiblfbhaa.P
open Go.RowKit Go.Proofs.YtfdmfgaiblfbhaaW.PrintWords Go.Proofs.YtfdmfgaiblfbhaaW.PrintLast Go.Proofs.YtfdmfgaiblfbhaaW.PrintMore

theorem rd26_in (pre : List S26) (p : S26) (rest : List S26) : rd_T26 (pre ++ p :: rest) (pre.length : Int) = p := by
  simp [rd_T26, List.getD_eq_getElem?_getD]
theorem up_in {α : Type} (pre : List α) (p : α) (rest : List α) (h : (pre ++ p :: rest).length ≤ 9223372036854775807) : wrap64 ((pre.length : Int) + 1) = ((pre ++ [p]).length : Int) := by
  simp only [List.length_append, List.length_cons, List.length_nil] at h ⊢
  rw [wq (by omega) (by omega)]
  omega

/-- THE COUNT, that ends once it is above a bound. -/
theorem count_ev (L : Int) : ∀ (N : Nat) (c : S26), sz c ≤ N → N ≤ 1048576 → ∃ n : Int, Ev (fun k => sashref05_count.f k c.f0 c.f1.f0 c.f1.f1 c.f1.f2 c.f1.f3 c.f2 c.f3 L) n ∧ 1 ≤ n ∧ n ≤ (sz c : Int) ∧ (n > L ∨ n = (sz c : Int)) := by
  intro N
  induction N with
  | zero => intro c h _; rw [sz_eq] at h; omega
  | succ N ih =>
    intro c hc hN
    have hs := sz_eq c
    have key : ∀ (rest pre : List S26), pre ++ rest = c.f3 → ∀ acc : Int, 1 ≤ acc → acc + (szL rest : Int) ≤ 1048576 → (acc > L ∨ acc = 1 + (szL pre : Int)) →
        ∃ n : Int, Ev (fun k => sashref05_count.l0 k L acc (c.f3.length : Int) (pre.length : Int) c.f0 c.f1.f0 c.f1.f1 c.f1.f2 c.f1.f3 c.f2 c.f3) n ∧ acc ≤ n ∧ n ≤ acc + (szL rest : Int) ∧ (n > L ∨ n = 1 + (szL c.f3 : Int)) := by
      intro rest
      induction rest with
      | nil =>
        intro pre hp acc h1 h2 h3
        rw [List.append_nil] at hp
        refine ⟨acc, Ev.step (f := fun _ => some acc) (fun k => ?_) (Ev.now _), by omega, by omega, by rw [← hp]; exact h3⟩
        simp only [sashref05_count.l0]
        rw [if_neg (by rw [hp]; omega)]
      | cons x xs ihr =>
        intro pre hp acc h1 h2 h3
        have hl : (pre.length : Int) < (c.f3.length : Int) := by rw [← hp, List.length_append, List.length_cons]; omega
        have hlen := szL_len c.f3
        by_cases hL : acc > L
        · refine ⟨acc, Ev.step (f := fun _ => some acc) (fun k => ?_) (Ev.now _), by omega, by omega, .inl hL⟩
          simp only [sashref05_count.l0]
          rw [if_pos hl, if_pos hL]
        · have h3' : acc = 1 + (szL pre : Int) := by omega
          have hsum : szL c.f3 = szL pre + (sz x + szL xs) := by rw [← hp, szL_app, szL_cons]
          obtain ⟨n1, e1, a1, b1, c1⟩ := ih x (by omega) (by omega)
          rw [szL_cons] at h2
          obtain ⟨n, e2, a2, b2, c2⟩ := ihr (pre ++ [x]) (by rw [List.append_assoc]; exact hp) (acc + n1) (by omega) (by omega) (by
            rw [szL_app, szL_cons, szL_nil]
            omega)
          refine ⟨n, ?_, by omega, by rw [szL_cons]; omega, c2⟩
          have hw : wrap64 (acc + n1) = acc + n1 := wq (by omega) (by omega)
          have hr : rd_T26 c.f3 (pre.length : Int) = x := by rw [← hp]; exact rd26_in pre x xs
          have hu : wrap64 ((pre.length : Int) + 1) = ((pre ++ [x]).length : Int) := up_in pre x xs (by rw [hp]; omega)
          refine Ev.step (f := fun k => (sashref05_count.f k x.f0 x.f1.f0 x.f1.f1 x.f1.f2 x.f1.f3 x.f2 x.f3 L).bind fun t => sashref05_count.l0 k L (wrap64 (acc + t)) (c.f3.length : Int) (wrap64 ((pre.length : Int) + 1)) c.f0 c.f1.f0 c.f1.f1 c.f1.f2 c.f1.f3 c.f2 c.f3) (fun k => ?_) (Ev.bind e1 ?_)
          · simp only [sashref05_count.l0]
            rw [if_pos hl, if_neg hL, if_pos (by omega), if_pos hl, hr]
          · rw [hw, hu]
            exact e2
    obtain ⟨n, e, a, b, d⟩ := key c.f3 [] rfl 1 (by omega) (by omega) (.inr (by rw [szL_nil]; rfl))
    refine ⟨n, Ev.step (fun k => ?_) e, a, by omega, by omega⟩
    simp only [sashref05_count.f]
    rfl
theorem great_ev (c : S26) (h : sz c ≤ 1048576) : ∃ b : Bool, Ev (fun k => sashref05_Great.f k c.f0 c.f1.f0 c.f1.f1 c.f1.f2 c.f1.f3 c.f2 c.f3) b ∧ (b = false → sz c ≤ 200) := by
  obtain ⟨n, e, h1, h2, h3⟩ := count_ev 200 1048576 c h (Nat.le_refl _)
  refine ⟨decide (n > 200), ?_, fun hb => ?_⟩
  · unfold sashref05_Great.f
    exact Ev.bind e (Ev.now _)
  · have := of_decide_eq_false hb
    omega

/-- ALL CELLS. -/
theorem all_cells : ∀ (N : Nat) (c : S26), sz c ≤ N → N ≤ 1048576 → Ev (fun k => sashref05_All.f k c.f0 c.f1.f0 c.f1.f1 c.f1.f2 c.f1.f3 c.f2 c.f3) (allC c) := by
  intro N
  induction N with
  | zero => intro c h _; rw [sz_eq] at h; omega
  | succ N ih =>
    intro c hc hN
    have hs := sz_eq c
    have key : ∀ (rest pre : List S26), pre ++ rest = c.f3 → Ev (fun k => sashref05_All.l0 k (c :: allL pre) (c.f3.length : Int) (pre.length : Int) c.f0 c.f1.f0 c.f1.f1 c.f1.f2 c.f1.f3 c.f2 c.f3) (allC c) := by
      intro rest
      induction rest with
      | nil =>
        intro pre hp
        rw [List.append_nil] at hp
        refine Ev.step (f := fun _ => some (allC c)) (fun k => ?_) (Ev.now _)
        simp only [sashref05_All.l0]
        rw [if_neg (by rw [hp]; omega), hp, allC_eq]
      | cons x xs ihr =>
        intro pre hp
        have hl : (pre.length : Int) < (c.f3.length : Int) := by rw [← hp, List.length_append, List.length_cons]; omega
        have hlen := szL_len c.f3
        have hsum : szL c.f3 = szL pre + (sz x + szL xs) := by rw [← hp, szL_app, szL_cons]
        have e2 := ihr (pre ++ [x]) (by rw [List.append_assoc]; exact hp)
        have hr : rd_T26 c.f3 (pre.length : Int) = x := by rw [← hp]; exact rd26_in pre x xs
        have hu : wrap64 ((pre.length : Int) + 1) = ((pre ++ [x]).length : Int) := up_in pre x xs (by rw [hp]; omega)
        have ha : c :: allL (pre ++ [x]) = (c :: allL pre) ++ allC x := by rw [allL_app, allL_cons, allL_nil, List.append_nil, List.cons_append]
        have hb : (c :: allL pre).length + (allC x).length < 1954687338268 := by
          have h1 : (allL pre).length = szL pre := rfl
          have h2 : (allC x).length = sz x := rfl
          rw [List.length_cons, h1, h2]
          omega
        rw [ha] at e2
        refine Ev.step (f := fun k => (sashref05_All.f k x.f0 x.f1.f0 x.f1.f1 x.f1.f2 x.f1.f3 x.f2 x.f3).bind fun t => (if (c :: allL pre).length + t.length < 1954687338268 then (sashref05_All.l0 k ((c :: allL pre) ++ t) (c.f3.length : Int) (wrap64 ((pre.length : Int) + 1)) c.f0 c.f1.f0 c.f1.f1 c.f1.f2 c.f1.f3 c.f2 c.f3) else none)) (fun k => ?_) (Ev.bind (ih x (by omega) (by omega)) (ev_pos hb ?_))
        · simp only [sashref05_All.l0]
          rw [if_pos hl, if_pos (by omega), if_pos hl, hr]
        · rw [hu]
          exact e2
    refine Ev.step (fun k => ?_) (key c.f3 [] rfl)
    simp only [sashref05_All.f, allL_nil, eta26]
    rfl

/-- The leaves. -/
def leavesC (c : S26) : List S26 := (allC c).filter fun x => decide (x.f0 = 1)
theorem leaves_len (c : S26) : (leavesC c).length ≤ sz c := List.length_filter_le _ _
theorem leaves_ev (c : S26) (h : sz c ≤ 1048576) : Ev (fun k => sashref05_Leaves.f k c.f0 c.f1.f0 c.f1.f1 c.f1.f2 c.f1.f3 c.f2 c.f3) (leavesC c) := by
  unfold sashref05_Leaves.f
  refine Ev.bind (all_cells _ c h (Nat.le_refl _)) ?_
  have key : ∀ (rest pre : List S26), pre ++ rest = allC c → Ev (fun k => sashref05_Leaves.l0 k (pre.filter fun x => decide (x.f0 = 1)) (allC c) ((allC c).length : Int) (pre.length : Int)) (leavesC c) := by
    intro rest
    induction rest with
    | nil =>
      intro pre hp
      rw [List.append_nil] at hp
      refine Ev.step (f := fun _ => some (leavesC c)) (fun k => ?_) (Ev.now _)
      simp only [sashref05_Leaves.l0]
      rw [if_neg (by rw [hp]; omega), hp]
      rfl
    | cons x xs ihr =>
      intro pre hp
      have hsz : (allC c).length ≤ 1048576 := h
      have hl : (pre.length : Int) < ((allC c).length : Int) := by rw [← hp, List.length_append, List.length_cons]; omega
      have e2 := ihr (pre ++ [x]) (by rw [List.append_assoc]; exact hp)
      have hr : rd_T26 (allC c) (pre.length : Int) = x := by rw [← hp]; exact rd26_in pre x xs
      have hu : wrap64 ((pre.length : Int) + 1) = ((pre ++ [x]).length : Int) := up_in pre x xs (by rw [hp]; omega)
      have hb : (pre.filter fun x => decide (x.f0 = 1)).length < 1954687338268 := by
        have := List.length_filter_le (fun x : S26 => decide (x.f0 = 1)) pre
        omega
      rw [List.filter_append] at e2
      refine Ev.step (fun k => ?_) e2
      simp only [sashref05_Leaves.l0]
      rw [if_pos hl, if_pos (by omega), if_pos hl, hr, hu]
      by_cases h1 : x.f0 = 1
      · rw [if_pos h1, if_pos hb, List.filter_cons_of_pos (by simpa using h1), eta26]
        rfl
      · rw [if_neg h1, List.filter_cons_of_neg (by simpa using h1), List.filter_nil, List.append_nil]
  exact key (allC c) [] rfl
end Go.Proofs.Ytfdmfgaiblfbhaa.P
namespace Go.Proofs.Ytfdmfgaiblfbhaa.P
open Go.RowKit Go.Proofs.YtfdmfgaiblfbhaaW.PrintWords Go.Proofs.YtfdmfgaiblfbhaaW.PrintLast Go.Proofs.YtfdmfgaiblfbhaaW.PrintMore
attribute [local go_sem] max2_int min2_int max_two min_two max_three min_three max_four min_four   -- for this text's walks alone
set_option linter.unusedVariables false
set_option linter.unusedSimpArgs false

attribute [local go_sem high] eqA23
/-! ### sashref05_Same: function 64 -/
mutual
def sashref05_Same.j0 : Nat → Bool → Int → Int → Int → Int → Int → Int → List (S26) → Int → Int → Int → Int → Int → Int → List (S26) → Option (Bool)
 | 0, _, _, _, _, _, _, _, _, _, _, _, _, _, _, _ => none
 | k + 1, x33, x601000, x601001, x601002, x601003, x601004, x601005, x601006, x602000, x602001, x602002, x602003, x602004, x602005, x602006 => if x33 = true then (some false) else (sashref05_Same.l0 k (x601006.length : Int) 0 x601000 x601001 x601002 x601003 x601004 x601005 x601006 x602000 x602001 x602002 x602003 x602004 x602005 x602006)
def sashref05_Same.l0 : Nat → Int → Int → Int → Int → Int → Int → Int → Int → List (S26) → Int → Int → Int → Int → Int → Int → List (S26) → Option (Bool)
 | 0, _, _, _, _, _, _, _, _, _, _, _, _, _, _, _, _ => none
 | k + 1, x36, x37, x601000, x601001, x601002, x601003, x601004, x601005, x601006, x602000, x602001, x602002, x602003, x602004, x602005, x602006 => if x37 < x36 then (if 0 ≤ x37 then (if x37 < (x601006.length : Int) then (if x37 < (x602006.length : Int) then ((sashref05_Same.f k ((rd_T26 x601006 x37).f0) ((rd_T26 x601006 x37).f1.f0) ((rd_T26 x601006 x37).f1.f1) ((rd_T26 x601006 x37).f1.f2) ((rd_T26 x601006 x37).f1.f3) ((rd_T26 x601006 x37).f2) ((rd_T26 x601006 x37).f3) ((rd_T26 x602006 x37).f0) ((rd_T26 x602006 x37).f1.f0) ((rd_T26 x602006 x37).f1.f1) ((rd_T26 x602006 x37).f1.f2) ((rd_T26 x602006 x37).f1.f3) ((rd_T26 x602006 x37).f2) ((rd_T26 x602006 x37).f3)).bind fun t604 => (if t604 = true then (sashref05_Same.l0 k x36 (wrap64 (x37 + 1)) x601000 x601001 x601002 x601003 x601004 x601005 x601006 x602000 x602001 x602002 x602003 x602004 x602005 x602006) else (some false))) else (none)) else (none)) else (none)) else (some true)
def sashref05_Same.f : Nat → Int → Int → Int → Int → Int → Int → List (S26) → Int → Int → Int → Int → Int → Int → List (S26) → Option (Bool)
 | 0, _, _, _, _, _, _, _, _, _, _, _, _, _, _ => none
 | k + 1, a0_0, a0_1, a0_2, a0_3, a0_4, a0_5, l0_6, a1_0, a1_1, a1_2, a1_3, a1_4, a1_5, l1_6 => if a0_0 = a1_0 then (if (!(a0_1 == a1_1) || (!(a0_2 == a1_2) || (!(a0_3 == a1_3) || (!(a0_4 == a1_4))))) = true then (sashref05_Same.j0 k true a0_0 a0_1 a0_2 a0_3 a0_4 a0_5 l0_6 a1_0 a1_1 a1_2 a1_3 a1_4 a1_5 l1_6) else (if a0_5 = a1_5 then (sashref05_Same.j0 k ((l0_6.length : Int) != (l1_6.length : Int)) a0_0 a0_1 a0_2 a0_3 a0_4 a0_5 l0_6 a1_0 a1_1 a1_2 a1_3 a1_4 a1_5 l1_6) else (sashref05_Same.j0 k true a0_0 a0_1 a0_2 a0_3 a0_4 a0_5 l0_6 a1_0 a1_1 a1_2 a1_3 a1_4 a1_5 l1_6))) else (sashref05_Same.j0 k true a0_0 a0_1 a0_2 a0_3 a0_4 a0_5 l0_6 a1_0 a1_1 a1_2 a1_3 a1_4 a1_5 l1_6)
end
def sashref05_Same.T6 : Bool × List (List Nat × List Nat) := (true, [([], []), ([0], [0]), ([], []), ([1, 2], [1, 2]), ([3], [3]), ([], []), ([5], [5]), ([], []), ([6, 7], [6, 7]), ([8], [8]), ([4, 9], [4, 9]), ([10], [10])])
def sashref05_Same.B6 : List Nat := [0, 1, 0, 7, 15, 0, 32, 0, 224, 480, 1023, 2047]
end Go.Proofs.Ytfdmfgaiblfbhaa.P
/- The reference's sameness of trees: plain data. -/
namespace Go.Proofs.Ytfdmfgaiblfbhaa.P
open Go.RowKit Go.Proofs.YtfdmfgaiblfbhaaW.PrintWords Go.Proofs.YtfdmfgaiblfbhaaW.PrintLast Go.Proofs.YtfdmfgaiblfbhaaW.PrintMore

def rectB (a b : S23) : Bool := a.f0 == b.f0 && (a.f1 == b.f1 && (a.f2 == b.f2 && a.f3 == b.f3))
mutual
def sameC : S26 → S26 → Bool
  | ⟨a, r, d, l⟩, ⟨a', r', d', l'⟩ => a == a' && (rectB r r' && (d == d' && (l.length == l'.length && sameL l l')))
def sameL : List S26 → List S26 → Bool
  | [], _ => true
  | _ :: _, [] => true
  | c :: cs, e :: es => sameC c e && sameL cs es
end
end Go.Proofs.Ytfdmfgaiblfbhaa.P
namespace Go.Proofs.Ytfdmfgaiblfbhaa.P
open Go.RowKit Go.Proofs.YtfdmfgaiblfbhaaW.PrintWords Go.Proofs.YtfdmfgaiblfbhaaW.PrintLast Go.Proofs.YtfdmfgaiblfbhaaW.PrintMore
attribute [local go_sem] max2_int min2_int max_two min_two max_three min_three max_four min_four   -- for this text's walks alone
set_option linter.unusedVariables false
set_option linter.unusedSimpArgs false

/-! ### tile_cut: function 210 -/
def tile_cut.l0 : Nat → List Int → List (S26) → Int → Int → Int → Int → Int → Int → Int → Int → List (S26) → Option ((List (S23)) × (List (S23)) × Bool)
 | 0, _, _, _, _, _, _, _, _, _, _, _ => none
 | k + 1, x5, x9, x10, x11, x1875000, x1875001, x1875002, x1875003, x1875004, x1875005, x1875006 => if x11 < x10 then (if 0 ≤ x11 then (if x11 < (x9.length : Int) then (if x1875000 = 2 then (if x5.length < 17592186044416 then (tile_cut.l0 k (x5 ++ [(rd_T26 x9 x11).f1.f2]) x9 x10 (wrap64 (x11 + 1)) x1875000 x1875001 x1875002 x1875003 x1875004 x1875005 x1875006) else (none)) else (if x5.length < 17592186044416 then (tile_cut.l0 k (x5 ++ [(rd_T26 x9 x11).f1.f3]) x9 x10 (wrap64 (x11 + 1)) x1875000 x1875001 x1875002 x1875003 x1875004 x1875005 x1875006) else (none))) else (none)) else (none)) else ((rect_Cut.f k x1875001 x1875002 x1875003 x1875004 ((((x1875000 - 2) % 256) + 1) % 256) x5).bind fun bt1883 => (some (bt1883.1, bt1883.2.1, bt1883.2.2)))
def tile_cut.f (k : Nat) (a0_0 : Int) (a0_1 : Int) (a0_2 : Int) (a0_3 : Int) (a0_4 : Int) (a0_5 : Int) (l0_6 : List (S26)) : Option ((List (S23)) × (List (S23)) × Bool) := tile_cut.l0 k ([] : List Int) l0_6 (l0_6.length : Int) 0 a0_0 a0_1 a0_2 a0_3 a0_4 a0_5 l0_6
set_option maxHeartbeats 8000000 in
set_option maxRecDepth 100000 in
theorem tile_cut.calls (k : Nat) (a0_0 : Int) (a0_1 : Int) (a0_2 : Int) (a0_3 : Int) (a0_4 : Int) (a0_5 : Int) (A0_6 : Option Addr) (c0_6 : Nat) (l0_6 : List (S26)) (r1 : List (S23)) (r2 : List (S23)) (r3 : Bool) (w : World) (hr0_6 : Kd.C k26 w A0_6 l0_6.length l0_6) (hc0_6 : l0_6.length ≤ c0_6) (h : tile_cut.f k a0_0 a0_1 a0_2 a0_3 a0_4 a0_5 l0_6 = some (r1, r2, r3)) :
  Calls Try.prog 210 #[.agg #[.int .u8 a0_0, .int .i64 a0_1, .int .i64 a0_2, .int .i64 a0_3, .int .i64 a0_4, .int .i64 a0_5, .slice A0_6 l0_6.length c0_6]] w fun e w' => ∃ v0_ v1_ : Value, e = .returned (.tuple #[v0_, v1_, .bool r3]) ∧ Kd.R k23 23 w' w.heap.size (fun k_ => some k_ ≠ (v1_ : Value).ownBlock) v0_ r1 ∧ Kd.R k23 23 w' w.heap.size (fun k_ => some k_ ≠ (v0_ : Value).ownBlock) v1_ r2 ∧ Below w.heap.size w w' := by
 have hu26 := Try.underlying26
 have hu23 := Try.underlying23
 have HR0_6 := Aside0.mk hr0_6
 clear hr0_6 hc0_6
 have HB := Aside0.mk (Below.refl w.heap.size w)
 have H : (tile_cut.l0 k ([] : List Int) l0_6 (l0_6.length : Int) 0 a0_0 a0_1 a0_2 a0_3 a0_4 a0_5 l0_6) = some (r1, r2, r3) := h
 clear h
 have H' := Aside0.mk H
 clear H
 go_enter Try.func210, Try.ntmps210
 go_wp2_with (((with_reducible refine gate_dst (N := 1) rfl ?_); refine box_event ?hg (N := 1) ?hd (cs := #[.int .u8 a0_0, .int .i64 a0_1, .int .i64 a0_2, .int .i64 a0_3, .int .i64 a0_4, .int .i64 a0_5, .slice A0_6 l0_6.length c0_6]) (t := 26) ?hr ?_; (case hd => rfl); (case hg => rfl); (case hr => (go_simp; done)); intro gb1874 hg w2 hbox hb; have BK1874 := Aside0.mk (hbox); replace HB := Aside0.mk (below_step (by repeat ((with_reducible exact HB.out))) hb); clear hb hbox hg; have hcz3_0 : w2.cell? ⟨gb1874, 0, none⟩ = some (.int .u8 a0_0) := (blk_cell BK1874.out 0).trans rfl; have hcz3_1 : w2.cell? ⟨gb1874, 1, none⟩ = some (.int .i64 a0_1) := (blk_cell BK1874.out 1).trans rfl; have hcz3_2 : w2.cell? ⟨gb1874, 2, none⟩ = some (.int .i64 a0_2) := (blk_cell BK1874.out 2).trans rfl; have hcz3_3 : w2.cell? ⟨gb1874, 3, none⟩ = some (.int .i64 a0_3) := (blk_cell BK1874.out 3).trans rfl; have hcz3_4 : w2.cell? ⟨gb1874, 4, none⟩ = some (.int .i64 a0_4) := (blk_cell BK1874.out 4).trans rfl; have hcz3_5 : w2.cell? ⟨gb1874, 5, none⟩ = some (.int .i64 a0_5) := (blk_cell BK1874.out 5).trans rfl; have hcz3_6 : w2.cell? ⟨gb1874, 6, none⟩ = some (.slice A0_6 l0_6.length c0_6) := (blk_cell BK1874.out 6).trans rfl; have hfz3_0 := blk_frozen BK1874.out 0; have hfz3_1 := blk_frozen BK1874.out 1; have hfz3_2 := blk_frozen BK1874.out 2; have hfz3_3 := blk_frozen BK1874.out 3; have hfz3_4 := blk_frozen BK1874.out 4; have hfz3_5 := blk_frozen BK1874.out 5; have hfz3_6 := blk_frozen BK1874.out 6))
 go_loopg [5, 11] k (fun kq v5 v11 w' => ∃ (x5_1 : List Int) (x11_1 : Int), v11 = .int .i64 x11_1 ∧ Aside0 (tile_cut.l0 kq x5_1 l0_6 (l0_6.length : Int) x11_1 a0_0 a0_1 a0_2 a0_3 a0_4 a0_5 l0_6 = some (r1, r2, r3)) ∧ Aside0 (kq ≤ k) ∧ Aside0 (Kd.R (Kd.int .i64) 3 w' w.heap.size (fun _ => True) v5 x5_1) ∧ Aside0 (w'.heap[gb1874]? = some (.cells #[.int .u8 a0_0, .int .i64 a0_1, .int .i64 a0_2, .int .i64 a0_3, .int .i64 a0_4, .int .i64 a0_5, (.slice A0_6 l0_6.length c0_6)] 26 (0, 0))) ∧ Aside0 (Below w.heap.size w w'))
 case atStart => exact ⟨(([] : List Int)), (0), (by rfl), H', ⟨Nat.le_refl _⟩, ⟨by exact Kd.R_nil _ _ _ _ _⟩, ⟨by exact BK1874.out⟩, ⟨by repeat ((with_reducible exact HB.out))⟩⟩
 case round =>
  clear H'
  clear hcz3_0 hcz3_1 hcz3_2 hcz3_3 hcz3_4 hcz3_5 hcz3_6 hfz3_0 hfz3_1 hfz3_2 hfz3_3 hfz3_4 hfz3_5 hfz3_6
  obtain ⟨x5_1, x11_1, rfl, HA, HK1, HO_5, BK1874, HB⟩ := hrel
  cases gk with
  | zero => exact absurd HA.out (by simp [tile_cut.l0])
  | succ k1 =>
   have H := HA.out
   clear HA
   simp only [tile_cut.l0] at H
   by_cases c4 : x11_1 < (l0_6.length : Int)
   ·rw [if_pos c4] at H
    have c4b0 : decide (x11_1 < (l0_6.length : Int)) = true := decide_eq_true c4
    clear c4
    by_cases c5 : 0 ≤ x11_1
    ·rw [if_pos c5] at H
     have c5b0 : decide (0 ≤ x11_1) = true := decide_eq_true c5
     clear c5
     by_cases c6 : x11_1 < (l0_6.length : Int)
     ·rw [if_pos c6] at H
      have c6b0 : decide (x11_1 < (l0_6.length : Int)) = true := decide_eq_true c6
      clear c6
      by_cases c7 : a0_0 = 2
      ·rw [if_pos c7] at H
       have c7b0 : (a0_0 == 2) = true := beq_iff_eq.mpr c7
       have c7b1 : (a0_0 != 2) = false := bne_eq_false_iff_eq.mpr c7
       clear c7
       by_cases c8 : x5_1.length < 17592186044416
       ·rw [if_pos c8] at H
        have LMc8 := Aside0.mk c8
        clear c8
        obtain ⟨y1877, hy1877⟩ : ∃ y_ : List Int, y_ = (x5_1 ++ [(rd_T26 l0_6 x11_1).f1.f2]) := ⟨_, rfl⟩
        replace H : (tile_cut.l0 k1 y1877 l0_6 (l0_6.length : Int) (wrap64 (x11_1 + 1)) a0_0 a0_1 a0_2 a0_3 a0_4 a0_5 l0_6) = some (r1, r2, r3) := by (rw [hy1877]; with_reducible exact H)
        have Ny1877 := Aside0.mk hy1877
        clear hy1877
        have H' := Aside0.mk H
        clear H
        have p1875 : 0 ≤ (x11_1 : Int) := of_decide_eq_true (by (with_reducible assumption))
        have q1875 : x11_1 < (l0_6.length : Int) := of_decide_eq_true (by (with_reducible assumption))
        obtain ⟨ad1875, A1875_6, c1875_6, e1875, hx1875_0, hx1875_1, hx1875_2, hx1875_3, hx1875_4, hx1875_5, hx1875_6, hl1875_6, hi1875_6⟩ := at_T26 HR0_6.out x11_1 p1875 q1875
        cases e1875
        replace hx1875_0 := (HB.out.cell (World.block_lt_of_cell? w _ hx1875_0)).trans hx1875_0
        replace hx1875_1 := (HB.out.cell (World.block_lt_of_cell? w _ hx1875_1)).trans hx1875_1
        replace hx1875_2 := (HB.out.cell (World.block_lt_of_cell? w _ hx1875_2)).trans hx1875_2
        replace hx1875_3 := (HB.out.cell (World.block_lt_of_cell? w _ hx1875_3)).trans hx1875_3
        replace hx1875_4 := (HB.out.cell (World.block_lt_of_cell? w _ hx1875_4)).trans hx1875_4
        replace hx1875_5 := (HB.out.cell (World.block_lt_of_cell? w _ hx1875_5)).trans hx1875_5
        replace hx1875_6 := (HB.out.cell (World.block_lt_of_cell? w _ hx1875_6)).trans hx1875_6
        clear hi1875_6 hl1875_6
        replace p1875 := eq_true p1875
        replace q1875 := eq_true q1875
        go_wp2_with (first | ((with_reducible refine gate_dst (N := 7) rfl ?_); refine box_event ?hg (N := 7) ?hd (cs := #[.int .u8 0, .int .i64 0, .int .i64 0, .int .i64 0, .int .i64 0, .int .i64 0, .slice none 0 0]) (t := 26) ?hr ?_; (case hd => rfl); (case hg => rfl); (case hr => (go_simp; done)); intro gb1876 hg w9 hbox hb; have BK1876 := Aside0.mk (hbox); have GE1876 := Aside0.mk ((by rw [hg]; exact (below_size (by repeat ((with_reducible exact HB.out)))) : w.heap.size ≤ gb1876)); have NB1874_1876 := Aside0.mk ((by rw [hg]; exact Nat.ne_of_lt (blk_lt BK1874.out) : gb1874 ≠ gb1876)); have NB1876_1874 := Aside0.mk ((by rw [hg]; exact Nat.ne_of_gt (blk_lt BK1874.out) : gb1876 ≠ gb1874)); replace HO_5 := Aside0.mk (Kd.R_below HO_5.out hb); replace BK1874 := Aside0.mk (blk_below BK1874.out hb); replace HB := Aside0.mk (below_step (by repeat ((with_reducible exact HB.out))) hb); clear hb hbox hg; have hnb10 := NB1876_1874.out; have hnc10 := NB1874_1876.out; have hcz11_0 : w9.cell? ⟨gb1876, 0, none⟩ = some (.int .u8 0) := (blk_cell BK1876.out 0).trans rfl; have hcz11_1 : w9.cell? ⟨gb1876, 1, none⟩ = some (.int .i64 0) := (blk_cell BK1876.out 1).trans rfl; have hcz11_2 : w9.cell? ⟨gb1876, 2, none⟩ = some (.int .i64 0) := (blk_cell BK1876.out 2).trans rfl; have hcz11_3 : w9.cell? ⟨gb1876, 3, none⟩ = some (.int .i64 0) := (blk_cell BK1876.out 3).trans rfl; have hcz11_4 : w9.cell? ⟨gb1876, 4, none⟩ = some (.int .i64 0) := (blk_cell BK1876.out 4).trans rfl; have hcz11_5 : w9.cell? ⟨gb1876, 5, none⟩ = some (.int .i64 0) := (blk_cell BK1876.out 5).trans rfl; have hcz11_6 : w9.cell? ⟨gb1876, 6, none⟩ = some (.slice none 0 0) := (blk_cell BK1876.out 6).trans rfl; have hfz11_0 := blk_frozen BK1876.out 0; have hfz11_1 := blk_frozen BK1876.out 1; have hfz11_2 := blk_frozen BK1876.out 2; have hfz11_3 := blk_frozen BK1876.out 3; have hfz11_4 := blk_frozen BK1876.out 4; have hfz11_5 := blk_frozen BK1876.out 5; have hfz11_6 := blk_frozen BK1876.out 6; have hcz12_0 : w9.cell? ⟨gb1874, 0, none⟩ = some (.int .u8 a0_0) := (blk_cell BK1874.out 0).trans rfl; have hcz12_1 : w9.cell? ⟨gb1874, 1, none⟩ = some (.int .i64 a0_1) := (blk_cell BK1874.out 1).trans rfl; have hcz12_2 : w9.cell? ⟨gb1874, 2, none⟩ = some (.int .i64 a0_2) := (blk_cell BK1874.out 2).trans rfl; have hcz12_3 : w9.cell? ⟨gb1874, 3, none⟩ = some (.int .i64 a0_3) := (blk_cell BK1874.out 3).trans rfl; have hcz12_4 : w9.cell? ⟨gb1874, 4, none⟩ = some (.int .i64 a0_4) := (blk_cell BK1874.out 4).trans rfl; have hcz12_5 : w9.cell? ⟨gb1874, 5, none⟩ = some (.int .i64 a0_5) := (blk_cell BK1874.out 5).trans rfl; have hcz12_6 : w9.cell? ⟨gb1874, 6, none⟩ = some (.slice (some ad1875) l0_6.length c0_6) := (blk_cell BK1874.out 6).trans rfl; have hfz12_0 := blk_frozen BK1874.out 0; have hfz12_1 := blk_frozen BK1874.out 1; have hfz12_2 := blk_frozen BK1874.out 2; have hfz12_3 := blk_frozen BK1874.out 3; have hfz12_4 := blk_frozen BK1874.out 4; have hfz12_5 := blk_frozen BK1874.out 5; have hfz12_6 := blk_frozen BK1874.out 6) | ((with_reducible refine gate_builtin (b := .append) (xs := #[.tmp 18, .tmp 22]) rfl ?_); at_builtin; refine Kd.R_append (Kd.int .i64) (w0 := w) w.heap.size rfl (.tmp 18) (.tmp 22) 41 3 (.int .i64 0) 8 rfl Try.underlying41 info3 rfl (by decide) (by omega) u5 x5_1 ((rd_T26 l0_6 x11_1).f1.f2) [.int .i64 ((rd_T26 l0_6 x11_1).f1.f2)] (fun _ => True) (fun _ => False) rfl (by (go_simp; done)) ?aP (fun _ hk => hk.elim) ?aF ?aO ?aB ?aS ?aL ?_; (case aP => exact rfl); (case aB => exact (by repeat ((with_reducible first | exact HB.out | refine below_set ?_ GE1876.out)))); (case aF => exact (fun _ _ => trivial)); (case aO => exact (by exact Kd.R_mono (Kd.R_far (p := ⟨gb1876, 6, none⟩) (Kd.R_far (p := ⟨gb1876, 5, none⟩) (Kd.R_far (p := ⟨gb1876, 4, none⟩) (Kd.R_far (p := ⟨gb1876, 3, none⟩) (Kd.R_far (p := ⟨gb1876, 2, none⟩) (Kd.R_far (p := ⟨gb1876, 1, none⟩) (Kd.R_far (p := ⟨gb1876, 0, none⟩) (Kd.R_types HO_5.out BK1876.out (by decide)) (fun _ hk => hk.2) (.int .u8 ((rd_T26 l0_6 x11_1).f0))) (fun _ hk => hk.2) (.int .i64 ((rd_T26 l0_6 x11_1).f1.f0))) (fun _ hk => hk.2) (.int .i64 ((rd_T26 l0_6 x11_1).f1.f1))) (fun _ hk => hk.2) (.int .i64 ((rd_T26 l0_6 x11_1).f1.f2))) (fun _ hk => hk.2) (.int .i64 ((rd_T26 l0_6 x11_1).f1.f3))) (fun _ hk => hk.2) (.int .i64 ((rd_T26 l0_6 x11_1).f2))) (fun _ hk => hk.2) (.slice A1875_6 ((rd_T26 l0_6 x11_1).f3).length c1875_6)) (fun _ hk => trivial))); (case aS => exact (below_size (by repeat ((with_reducible first | exact HB.out | refine below_set ?_ GE1876.out))))); (case aL => have := LMc8.out; omega); intro v1878 w13 ho hb hg hat; rw [← Ny1877.out] at ho; have HO1879 := Aside0.mk (ho); replace BK1874 := Aside0.mk (blk_grown (g := gb1874) (o := .cells #[.int .u8 a0_0, .int .i64 a0_1, .int .i64 a0_2, .int .i64 a0_3, .int .i64 a0_4, .int .i64 a0_5, .slice (some ad1875) l0_6.length c0_6] 26 (0, 0)) (by refine blk_far ?_ NB1874_1876.out _; refine blk_far ?_ NB1874_1876.out _; refine blk_far ?_ NB1874_1876.out _; refine blk_far ?_ NB1874_1876.out _; refine blk_far ?_ NB1874_1876.out _; refine blk_far ?_ NB1874_1876.out _; refine blk_far ?_ NB1874_1876.out _; exact BK1874.out) hg (Kd.R_ne HO_5.out BK1874.out (by decide))); replace BK1876 := Aside0.mk (blk_grown (g := gb1876) (o := .cells #[.int .u8 ((rd_T26 l0_6 x11_1).f0), .int .i64 ((rd_T26 l0_6 x11_1).f1.f0), .int .i64 ((rd_T26 l0_6 x11_1).f1.f1), .int .i64 ((rd_T26 l0_6 x11_1).f1.f2), .int .i64 ((rd_T26 l0_6 x11_1).f1.f3), .int .i64 ((rd_T26 l0_6 x11_1).f2), .slice A1875_6 ((rd_T26 l0_6 x11_1).f3).length c1875_6] 26 (0, 0)) (by refine blk_put (cs := #[.int .u8 ((rd_T26 l0_6 x11_1).f0), .int .i64 ((rd_T26 l0_6 x11_1).f1.f0), .int .i64 ((rd_T26 l0_6 x11_1).f1.f1), .int .i64 ((rd_T26 l0_6 x11_1).f1.f2), .int .i64 ((rd_T26 l0_6 x11_1).f1.f3), .int .i64 ((rd_T26 l0_6 x11_1).f2), .slice none 0 0]) ?_ 6 _ rfl; refine blk_put (cs := #[.int .u8 ((rd_T26 l0_6 x11_1).f0), .int .i64 ((rd_T26 l0_6 x11_1).f1.f0), .int .i64 ((rd_T26 l0_6 x11_1).f1.f1), .int .i64 ((rd_T26 l0_6 x11_1).f1.f2), .int .i64 ((rd_T26 l0_6 x11_1).f1.f3), .int .i64 0, .slice none 0 0]) ?_ 5 _ rfl; refine blk_put (cs := #[.int .u8 ((rd_T26 l0_6 x11_1).f0), .int .i64 ((rd_T26 l0_6 x11_1).f1.f0), .int .i64 ((rd_T26 l0_6 x11_1).f1.f1), .int .i64 ((rd_T26 l0_6 x11_1).f1.f2), .int .i64 0, .int .i64 0, .slice none 0 0]) ?_ 4 _ rfl; refine blk_put (cs := #[.int .u8 ((rd_T26 l0_6 x11_1).f0), .int .i64 ((rd_T26 l0_6 x11_1).f1.f0), .int .i64 ((rd_T26 l0_6 x11_1).f1.f1), .int .i64 0, .int .i64 0, .int .i64 0, .slice none 0 0]) ?_ 3 _ rfl; refine blk_put (cs := #[.int .u8 ((rd_T26 l0_6 x11_1).f0), .int .i64 ((rd_T26 l0_6 x11_1).f1.f0), .int .i64 0, .int .i64 0, .int .i64 0, .int .i64 0, .slice none 0 0]) ?_ 2 _ rfl; refine blk_put (cs := #[.int .u8 ((rd_T26 l0_6 x11_1).f0), .int .i64 0, .int .i64 0, .int .i64 0, .int .i64 0, .int .i64 0, .slice none 0 0]) ?_ 1 _ rfl; refine blk_put (cs := #[.int .u8 0, .int .i64 0, .int .i64 0, .int .i64 0, .int .i64 0, .int .i64 0, .slice none 0 0]) ?_ 0 _ rfl; exact BK1876.out) hg (Kd.R_ne HO_5.out BK1876.out (by decide))); replace HB := Aside0.mk (hb); clear HO_5; clear ho hb hg hat))
        go_roundg k1
        case measure => have := HK1.out; omega
        case rel => exact ⟨(y1877), (wrap64 (x11_1 + 1)), (by rfl), H', ⟨by have := HK1.out; omega⟩, ⟨by exact HO1879.out⟩, ⟨by exact BK1874.out⟩, ⟨by repeat ((with_reducible exact HB.out))⟩⟩
       ·rw [if_neg c8] at H
        exact absurd H (by simp)
      ·rw [if_neg c7] at H
       have c7b0 : (a0_0 == 2) = false := beq_eq_false_iff_ne.mpr c7
       have c7b1 : (a0_0 != 2) = true := bne_iff_ne.mpr c7
       by_cases c14 : x5_1.length < 17592186044416
       ·rw [if_pos c14] at H
        have LMc14 := Aside0.mk c14
        clear c14
        obtain ⟨y1880, hy1880⟩ : ∃ y_ : List Int, y_ = (x5_1 ++ [(rd_T26 l0_6 x11_1).f1.f3]) := ⟨_, rfl⟩
        replace H : (tile_cut.l0 k1 y1880 l0_6 (l0_6.length : Int) (wrap64 (x11_1 + 1)) a0_0 a0_1 a0_2 a0_3 a0_4 a0_5 l0_6) = some (r1, r2, r3) := by (rw [hy1880]; with_reducible exact H)
        have Ny1880 := Aside0.mk hy1880
        clear hy1880
        have H' := Aside0.mk H
        clear H
        have p1875 : 0 ≤ (x11_1 : Int) := of_decide_eq_true (by (with_reducible assumption))
        have q1875 : x11_1 < (l0_6.length : Int) := of_decide_eq_true (by (with_reducible assumption))
        obtain ⟨ad1875, A1875_6, c1875_6, e1875, hx1875_0, hx1875_1, hx1875_2, hx1875_3, hx1875_4, hx1875_5, hx1875_6, hl1875_6, hi1875_6⟩ := at_T26 HR0_6.out x11_1 p1875 q1875
        cases e1875
        replace hx1875_0 := (HB.out.cell (World.block_lt_of_cell? w _ hx1875_0)).trans hx1875_0
        replace hx1875_1 := (HB.out.cell (World.block_lt_of_cell? w _ hx1875_1)).trans hx1875_1
        replace hx1875_2 := (HB.out.cell (World.block_lt_of_cell? w _ hx1875_2)).trans hx1875_2
        replace hx1875_3 := (HB.out.cell (World.block_lt_of_cell? w _ hx1875_3)).trans hx1875_3
        replace hx1875_4 := (HB.out.cell (World.block_lt_of_cell? w _ hx1875_4)).trans hx1875_4
        replace hx1875_5 := (HB.out.cell (World.block_lt_of_cell? w _ hx1875_5)).trans hx1875_5
        replace hx1875_6 := (HB.out.cell (World.block_lt_of_cell? w _ hx1875_6)).trans hx1875_6
        clear hi1875_6 hl1875_6
        replace p1875 := eq_true p1875
        replace q1875 := eq_true q1875
        go_wp2_with (first | ((with_reducible refine gate_dst (N := 7) rfl ?_); refine box_event ?hg (N := 7) ?hd (cs := #[.int .u8 0, .int .i64 0, .int .i64 0, .int .i64 0, .int .i64 0, .int .i64 0, .slice none 0 0]) (t := 26) ?hr ?_; (case hd => rfl); (case hg => rfl); (case hr => (go_simp; done)); intro gb1876 hg w15 hbox hb; have BK1876 := Aside0.mk (hbox); have GE1876 := Aside0.mk ((by rw [hg]; exact (below_size (by repeat ((with_reducible exact HB.out)))) : w.heap.size ≤ gb1876)); have NB1874_1876 := Aside0.mk ((by rw [hg]; exact Nat.ne_of_lt (blk_lt BK1874.out) : gb1874 ≠ gb1876)); have NB1876_1874 := Aside0.mk ((by rw [hg]; exact Nat.ne_of_gt (blk_lt BK1874.out) : gb1876 ≠ gb1874)); replace HO_5 := Aside0.mk (Kd.R_below HO_5.out hb); replace BK1874 := Aside0.mk (blk_below BK1874.out hb); replace HB := Aside0.mk (below_step (by repeat ((with_reducible exact HB.out))) hb); clear hb hbox hg; have hnb16 := NB1876_1874.out; have hnc16 := NB1874_1876.out; have hcz17_0 : w15.cell? ⟨gb1876, 0, none⟩ = some (.int .u8 0) := (blk_cell BK1876.out 0).trans rfl; have hcz17_1 : w15.cell? ⟨gb1876, 1, none⟩ = some (.int .i64 0) := (blk_cell BK1876.out 1).trans rfl; have hcz17_2 : w15.cell? ⟨gb1876, 2, none⟩ = some (.int .i64 0) := (blk_cell BK1876.out 2).trans rfl; have hcz17_3 : w15.cell? ⟨gb1876, 3, none⟩ = some (.int .i64 0) := (blk_cell BK1876.out 3).trans rfl; have hcz17_4 : w15.cell? ⟨gb1876, 4, none⟩ = some (.int .i64 0) := (blk_cell BK1876.out 4).trans rfl; have hcz17_5 : w15.cell? ⟨gb1876, 5, none⟩ = some (.int .i64 0) := (blk_cell BK1876.out 5).trans rfl; have hcz17_6 : w15.cell? ⟨gb1876, 6, none⟩ = some (.slice none 0 0) := (blk_cell BK1876.out 6).trans rfl; have hfz17_0 := blk_frozen BK1876.out 0; have hfz17_1 := blk_frozen BK1876.out 1; have hfz17_2 := blk_frozen BK1876.out 2; have hfz17_3 := blk_frozen BK1876.out 3; have hfz17_4 := blk_frozen BK1876.out 4; have hfz17_5 := blk_frozen BK1876.out 5; have hfz17_6 := blk_frozen BK1876.out 6; have hcz18_0 : w15.cell? ⟨gb1874, 0, none⟩ = some (.int .u8 a0_0) := (blk_cell BK1874.out 0).trans rfl; have hcz18_1 : w15.cell? ⟨gb1874, 1, none⟩ = some (.int .i64 a0_1) := (blk_cell BK1874.out 1).trans rfl; have hcz18_2 : w15.cell? ⟨gb1874, 2, none⟩ = some (.int .i64 a0_2) := (blk_cell BK1874.out 2).trans rfl; have hcz18_3 : w15.cell? ⟨gb1874, 3, none⟩ = some (.int .i64 a0_3) := (blk_cell BK1874.out 3).trans rfl; have hcz18_4 : w15.cell? ⟨gb1874, 4, none⟩ = some (.int .i64 a0_4) := (blk_cell BK1874.out 4).trans rfl; have hcz18_5 : w15.cell? ⟨gb1874, 5, none⟩ = some (.int .i64 a0_5) := (blk_cell BK1874.out 5).trans rfl; have hcz18_6 : w15.cell? ⟨gb1874, 6, none⟩ = some (.slice (some ad1875) l0_6.length c0_6) := (blk_cell BK1874.out 6).trans rfl; have hfz18_0 := blk_frozen BK1874.out 0; have hfz18_1 := blk_frozen BK1874.out 1; have hfz18_2 := blk_frozen BK1874.out 2; have hfz18_3 := blk_frozen BK1874.out 3; have hfz18_4 := blk_frozen BK1874.out 4; have hfz18_5 := blk_frozen BK1874.out 5; have hfz18_6 := blk_frozen BK1874.out 6) | ((with_reducible refine gate_builtin (b := .append) (xs := #[.tmp 24, .tmp 28]) rfl ?_); at_builtin; refine Kd.R_append (Kd.int .i64) (w0 := w) w.heap.size rfl (.tmp 24) (.tmp 28) 41 3 (.int .i64 0) 8 rfl Try.underlying41 info3 rfl (by decide) (by omega) u5 x5_1 ((rd_T26 l0_6 x11_1).f1.f3) [.int .i64 ((rd_T26 l0_6 x11_1).f1.f3)] (fun _ => True) (fun _ => False) rfl (by (go_simp; done)) ?aP (fun _ hk => hk.elim) ?aF ?aO ?aB ?aS ?aL ?_; (case aP => exact rfl); (case aB => exact (by repeat ((with_reducible first | exact HB.out | refine below_set ?_ GE1876.out)))); (case aF => exact (fun _ _ => trivial)); (case aO => exact (by exact Kd.R_mono (Kd.R_far (p := ⟨gb1876, 6, none⟩) (Kd.R_far (p := ⟨gb1876, 5, none⟩) (Kd.R_far (p := ⟨gb1876, 4, none⟩) (Kd.R_far (p := ⟨gb1876, 3, none⟩) (Kd.R_far (p := ⟨gb1876, 2, none⟩) (Kd.R_far (p := ⟨gb1876, 1, none⟩) (Kd.R_far (p := ⟨gb1876, 0, none⟩) (Kd.R_types HO_5.out BK1876.out (by decide)) (fun _ hk => hk.2) (.int .u8 ((rd_T26 l0_6 x11_1).f0))) (fun _ hk => hk.2) (.int .i64 ((rd_T26 l0_6 x11_1).f1.f0))) (fun _ hk => hk.2) (.int .i64 ((rd_T26 l0_6 x11_1).f1.f1))) (fun _ hk => hk.2) (.int .i64 ((rd_T26 l0_6 x11_1).f1.f2))) (fun _ hk => hk.2) (.int .i64 ((rd_T26 l0_6 x11_1).f1.f3))) (fun _ hk => hk.2) (.int .i64 ((rd_T26 l0_6 x11_1).f2))) (fun _ hk => hk.2) (.slice A1875_6 ((rd_T26 l0_6 x11_1).f3).length c1875_6)) (fun _ hk => trivial))); (case aS => exact (below_size (by repeat ((with_reducible first | exact HB.out | refine below_set ?_ GE1876.out))))); (case aL => have := LMc14.out; omega); intro v1881 w19 ho hb hg hat; rw [← Ny1880.out] at ho; have HO1882 := Aside0.mk (ho); replace BK1874 := Aside0.mk (blk_grown (g := gb1874) (o := .cells #[.int .u8 a0_0, .int .i64 a0_1, .int .i64 a0_2, .int .i64 a0_3, .int .i64 a0_4, .int .i64 a0_5, .slice (some ad1875) l0_6.length c0_6] 26 (0, 0)) (by refine blk_far ?_ NB1874_1876.out _; refine blk_far ?_ NB1874_1876.out _; refine blk_far ?_ NB1874_1876.out _; refine blk_far ?_ NB1874_1876.out _; refine blk_far ?_ NB1874_1876.out _; refine blk_far ?_ NB1874_1876.out _; refine blk_far ?_ NB1874_1876.out _; exact BK1874.out) hg (Kd.R_ne HO_5.out BK1874.out (by decide))); replace BK1876 := Aside0.mk (blk_grown (g := gb1876) (o := .cells #[.int .u8 ((rd_T26 l0_6 x11_1).f0), .int .i64 ((rd_T26 l0_6 x11_1).f1.f0), .int .i64 ((rd_T26 l0_6 x11_1).f1.f1), .int .i64 ((rd_T26 l0_6 x11_1).f1.f2), .int .i64 ((rd_T26 l0_6 x11_1).f1.f3), .int .i64 ((rd_T26 l0_6 x11_1).f2), .slice A1875_6 ((rd_T26 l0_6 x11_1).f3).length c1875_6] 26 (0, 0)) (by refine blk_put (cs := #[.int .u8 ((rd_T26 l0_6 x11_1).f0), .int .i64 ((rd_T26 l0_6 x11_1).f1.f0), .int .i64 ((rd_T26 l0_6 x11_1).f1.f1), .int .i64 ((rd_T26 l0_6 x11_1).f1.f2), .int .i64 ((rd_T26 l0_6 x11_1).f1.f3), .int .i64 ((rd_T26 l0_6 x11_1).f2), .slice none 0 0]) ?_ 6 _ rfl; refine blk_put (cs := #[.int .u8 ((rd_T26 l0_6 x11_1).f0), .int .i64 ((rd_T26 l0_6 x11_1).f1.f0), .int .i64 ((rd_T26 l0_6 x11_1).f1.f1), .int .i64 ((rd_T26 l0_6 x11_1).f1.f2), .int .i64 ((rd_T26 l0_6 x11_1).f1.f3), .int .i64 0, .slice none 0 0]) ?_ 5 _ rfl; refine blk_put (cs := #[.int .u8 ((rd_T26 l0_6 x11_1).f0), .int .i64 ((rd_T26 l0_6 x11_1).f1.f0), .int .i64 ((rd_T26 l0_6 x11_1).f1.f1), .int .i64 ((rd_T26 l0_6 x11_1).f1.f2), .int .i64 0, .int .i64 0, .slice none 0 0]) ?_ 4 _ rfl; refine blk_put (cs := #[.int .u8 ((rd_T26 l0_6 x11_1).f0), .int .i64 ((rd_T26 l0_6 x11_1).f1.f0), .int .i64 ((rd_T26 l0_6 x11_1).f1.f1), .int .i64 0, .int .i64 0, .int .i64 0, .slice none 0 0]) ?_ 3 _ rfl; refine blk_put (cs := #[.int .u8 ((rd_T26 l0_6 x11_1).f0), .int .i64 ((rd_T26 l0_6 x11_1).f1.f0), .int .i64 0, .int .i64 0, .int .i64 0, .int .i64 0, .slice none 0 0]) ?_ 2 _ rfl; refine blk_put (cs := #[.int .u8 ((rd_T26 l0_6 x11_1).f0), .int .i64 0, .int .i64 0, .int .i64 0, .int .i64 0, .int .i64 0, .slice none 0 0]) ?_ 1 _ rfl; refine blk_put (cs := #[.int .u8 0, .int .i64 0, .int .i64 0, .int .i64 0, .int .i64 0, .int .i64 0, .slice none 0 0]) ?_ 0 _ rfl; exact BK1876.out) hg (Kd.R_ne HO_5.out BK1876.out (by decide))); replace HB := Aside0.mk (hb); clear HO_5; clear ho hb hg hat))
        go_roundg k1
        case measure => have := HK1.out; omega
        case rel => exact ⟨(y1880), (wrap64 (x11_1 + 1)), (by rfl), H', ⟨by have := HK1.out; omega⟩, ⟨by exact HO1882.out⟩, ⟨by exact BK1874.out⟩, ⟨by repeat ((with_reducible exact HB.out))⟩⟩
       ·rw [if_neg c14] at H
        exact absurd H (by simp)
     ·rw [if_neg c6] at H
      exact absurd H (by simp)
    ·rw [if_neg c5] at H
     exact absurd H (by simp)
   ·rw [if_neg c4] at H
    have c4b0 : decide (x11_1 < (l0_6.length : Int)) = false := decide_eq_false c4
    clear c4
    replace H := Option.bind_eq_some_iff.mp H
    obtain ⟨⟨t1883, t1886, t1889⟩, A200, H⟩ := H
    replace H : (some (t1883, t1886, t1889)) = some (r1, r2, r3) := H
    have A20 := Aside0.mk A200
    clear A200
    simp only [Option.some.injEq, Prod.mk.injEq] at H
    obtain ⟨rfl, rfl, rfl⟩ := H
    have hcz21_0 : wr.cell? ⟨gb1874, 0, none⟩ = some (.int .u8 a0_0) := (blk_cell BK1874.out 0).trans rfl
    have hcz21_1 : wr.cell? ⟨gb1874, 1, none⟩ = some (.int .i64 a0_1) := (blk_cell BK1874.out 1).trans rfl
    have hcz21_2 : wr.cell? ⟨gb1874, 2, none⟩ = some (.int .i64 a0_2) := (blk_cell BK1874.out 2).trans rfl
    have hcz21_3 : wr.cell? ⟨gb1874, 3, none⟩ = some (.int .i64 a0_3) := (blk_cell BK1874.out 3).trans rfl
    have hcz21_4 : wr.cell? ⟨gb1874, 4, none⟩ = some (.int .i64 a0_4) := (blk_cell BK1874.out 4).trans rfl
    have hcz21_5 : wr.cell? ⟨gb1874, 5, none⟩ = some (.int .i64 a0_5) := (blk_cell BK1874.out 5).trans rfl
    have hcz21_6 : wr.cell? ⟨gb1874, 6, none⟩ = some (.slice A0_6 l0_6.length c0_6) := (blk_cell BK1874.out 6).trans rfl
    have hfz21_0 := blk_frozen BK1874.out 0
    have hfz21_1 := blk_frozen BK1874.out 1
    have hfz21_2 := blk_frozen BK1874.out 2
    have hfz21_3 := blk_frozen BK1874.out 3
    have hfz21_4 := blk_frozen BK1874.out 4
    have hfz21_5 := blk_frozen BK1874.out 5
    have hfz21_6 := blk_frozen BK1874.out 6
    obtain ⟨Ao22, co22, eo22⟩ := Kd.R_slice HO_5.out
    subst eo22
    go_wp2_with (((with_reducible refine gate_callee (f := 45) rfl ?_); refine goesL_ (some 38) rfl rfl Try.func45 (by kernel_rfl) rfl #[.agg #[.int .i64 a0_1, .int .i64 a0_2, .int .i64 a0_3, .int .i64 a0_4], .int .u8 ((((a0_0 - 2) % 256) + 1) % 256), .slice Ao22 x5_1.length co22] rfl (by (try simp only [List.map_toArray, List.map_cons, List.map_nil]); rfl) ?_; (with_reducible refine (rect_Cut.calls k1 a0_1 a0_2 a0_3 a0_4 ((((a0_0 - 2) % 256) + 1) % 256) _ _ x5_1 t1883 t1886 t1889 _ ?side1 ?side2 A20.out).mono ?_); (case side1 => repeat (exact (Kd.R_reads' HO_5.out).2.2)); (case side2 => exact (Kd.R_reads' HO_5.out).2.1); rintro e w23 ⟨v1884, v1887, rfl, ho0, ho1, hb⟩; refine ⟨_, rfl, ?_⟩; have HO1885 := Aside0.mk (Kd.R_lower ho0 (below_size (by repeat ((with_reducible exact HB.out))))); have HO1888 := Aside0.mk (Kd.R_lower ho1 (below_size (by repeat ((with_reducible exact HB.out))))); replace HO_5 := Aside0.mk (Kd.R_below HO_5.out hb); replace BK1874 := Aside0.mk (blk_below BK1874.out hb); replace HB := Aside0.mk (below_step (by repeat ((with_reducible exact HB.out))) hb); (try clear hb); (try clear ho0); (try clear ho1)))
    go_ret3
    exact ⟨_, _, by rfl, by exact HO1885.out, by exact HO1888.out, by repeat ((with_reducible exact HB.out))⟩

end Go.Proofs.Ytfdmfgaiblfbhaa.P
/- The contract of tile.lines (and of its closure): the lines of a cell alone, and whether it tiles. -/
namespace Go.Proofs.Ytfdmfgaiblfbhaa.P
open Go.RowKit Go.Proofs.YtfdmfgaiblfbhaaW.PrintWords Go.Proofs.YtfdmfgaiblfbhaaW.PrintLast Go.Proofs.YtfdmfgaiblfbhaaW.PrintMore
set_option linter.unusedVariables false
set_option linter.unusedSimpArgs false
set_option maxHeartbeats 2000000 in
set_option maxRecDepth 100000 in
theorem clo212 (ak ax ay aw ah aid bx by_ bw bh : Int) (A : Option Addr) (la : List S26) (ca : Nat) (w : World) :
    Calls Try.prog 212 #[.agg #[.int .u8 ak, .int .i64 ax, .int .i64 ay, .int .i64 aw, .int .i64 ah, .int .i64 aid, .slice A la.length ca], .agg #[.int .i64 bx, .int .i64 by_, .int .i64 bw, .int .i64 bh]] w fun e w' => e = .returned (.bool (rectB ⟨ax, ay, aw, ah⟩ ⟨bx, by_, bw, bh⟩)) ∧ Below w.heap.size w w' := by
  have HB := Aside0.mk (Below.refl w.heap.size w)
  have hu23 := Try.underlying23
  simp only [rectB]
  by_cases e_ : ax = bx
  rotate_left
  · have k_ : (ax == bx) = false := beq_eq_false_iff_ne.mpr e_
    clear e_
    simp only [k_, beq_self_eq_true, Bool.true_and, Bool.false_and, Bool.and_false]
    go_enter Try.func212, Try.ntmps212
    go_wp2_with (first | ((with_reducible refine gate_dst (N := 2) rfl ?_); refine box_event ?hg (N := 2) ?hd (cs := #[.int .u8 ak, .int .i64 ax, .int .i64 ay, .int .i64 aw, .int .i64 ah, .int .i64 aid, .slice A la.length ca]) (t := 26) ?hr ?_; (case hd => rfl); (case hg => rfl); (case hr => (go_simp; done)); intro b2 hg wbb2 hbox hb; have Kb2 := Aside0.mk hbox; have q_ := Aside0.mk (below_step HB.out hb); clear HB; have HB := q_; clear q_; clear hb hbox hg) | ((with_reducible refine gate_dst (N := 3) rfl ?_); refine box_event ?hg (N := 3) ?hd (cs := #[.int .i64 bx, .int .i64 by_, .int .i64 bw, .int .i64 bh]) (t := 23) ?hr ?_; (case hd => rfl); (case hg => rfl); (case hr => (go_simp; done)); intro b3 hg wbb3 hbox hb; have Kb3 := Aside0.mk hbox; have q_ := Aside0.mk (below_step HB.out hb); clear HB; have HB := q_; clear q_; have q2_ := Aside0.mk (blk_below Kb2.out hb); clear Kb2; have Kb2 := q2_; clear q2_; have c0 := (blk_cell Kb2.out 0).trans rfl; have c1 := (blk_cell Kb2.out 1).trans rfl; have c2 := (blk_cell Kb2.out 2).trans rfl; have c3 := (blk_cell Kb2.out 3).trans rfl; have c4 := (blk_cell Kb2.out 4).trans rfl; have c5 := (blk_cell Kb2.out 5).trans rfl; have c6 := (blk_cell Kb2.out 6).trans rfl; have d0 := (blk_cell Kb3.out 0).trans rfl; have d1 := (blk_cell Kb3.out 1).trans rfl; have d2 := (blk_cell Kb3.out 2).trans rfl; have d3 := (blk_cell Kb3.out 3).trans rfl; clear hb hbox hg))
    go_ret
    exact ⟨rfl, HB.out⟩
  subst e_
  by_cases e_ : ay = by_
  rotate_left
  · have k_ : (ay == by_) = false := beq_eq_false_iff_ne.mpr e_
    clear e_
    simp only [k_, beq_self_eq_true, Bool.true_and, Bool.false_and, Bool.and_false]
    go_enter Try.func212, Try.ntmps212
    go_wp2_with (first | ((with_reducible refine gate_dst (N := 2) rfl ?_); refine box_event ?hg (N := 2) ?hd (cs := #[.int .u8 ak, .int .i64 ax, .int .i64 ay, .int .i64 aw, .int .i64 ah, .int .i64 aid, .slice A la.length ca]) (t := 26) ?hr ?_; (case hd => rfl); (case hg => rfl); (case hr => (go_simp; done)); intro b2 hg wbb2 hbox hb; have Kb2 := Aside0.mk hbox; have q_ := Aside0.mk (below_step HB.out hb); clear HB; have HB := q_; clear q_; clear hb hbox hg) | ((with_reducible refine gate_dst (N := 3) rfl ?_); refine box_event ?hg (N := 3) ?hd (cs := #[.int .i64 ax, .int .i64 by_, .int .i64 bw, .int .i64 bh]) (t := 23) ?hr ?_; (case hd => rfl); (case hg => rfl); (case hr => (go_simp; done)); intro b3 hg wbb3 hbox hb; have Kb3 := Aside0.mk hbox; have q_ := Aside0.mk (below_step HB.out hb); clear HB; have HB := q_; clear q_; have q2_ := Aside0.mk (blk_below Kb2.out hb); clear Kb2; have Kb2 := q2_; clear q2_; have c0 := (blk_cell Kb2.out 0).trans rfl; have c1 := (blk_cell Kb2.out 1).trans rfl; have c2 := (blk_cell Kb2.out 2).trans rfl; have c3 := (blk_cell Kb2.out 3).trans rfl; have c4 := (blk_cell Kb2.out 4).trans rfl; have c5 := (blk_cell Kb2.out 5).trans rfl; have c6 := (blk_cell Kb2.out 6).trans rfl; have d0 := (blk_cell Kb3.out 0).trans rfl; have d1 := (blk_cell Kb3.out 1).trans rfl; have d2 := (blk_cell Kb3.out 2).trans rfl; have d3 := (blk_cell Kb3.out 3).trans rfl; clear hb hbox hg))
    go_ret
    exact ⟨rfl, HB.out⟩
  subst e_
  by_cases e_ : aw = bw
  rotate_left
  · have k_ : (aw == bw) = false := beq_eq_false_iff_ne.mpr e_
    clear e_
    simp only [k_, beq_self_eq_true, Bool.true_and, Bool.false_and, Bool.and_false]
    go_enter Try.func212, Try.ntmps212
    go_wp2_with (first | ((with_reducible refine gate_dst (N := 2) rfl ?_); refine box_event ?hg (N := 2) ?hd (cs := #[.int .u8 ak, .int .i64 ax, .int .i64 ay, .int .i64 aw, .int .i64 ah, .int .i64 aid, .slice A la.length ca]) (t := 26) ?hr ?_; (case hd => rfl); (case hg => rfl); (case hr => (go_simp; done)); intro b2 hg wbb2 hbox hb; have Kb2 := Aside0.mk hbox; have q_ := Aside0.mk (below_step HB.out hb); clear HB; have HB := q_; clear q_; clear hb hbox hg) | ((with_reducible refine gate_dst (N := 3) rfl ?_); refine box_event ?hg (N := 3) ?hd (cs := #[.int .i64 ax, .int .i64 ay, .int .i64 bw, .int .i64 bh]) (t := 23) ?hr ?_; (case hd => rfl); (case hg => rfl); (case hr => (go_simp; done)); intro b3 hg wbb3 hbox hb; have Kb3 := Aside0.mk hbox; have q_ := Aside0.mk (below_step HB.out hb); clear HB; have HB := q_; clear q_; have q2_ := Aside0.mk (blk_below Kb2.out hb); clear Kb2; have Kb2 := q2_; clear q2_; have c0 := (blk_cell Kb2.out 0).trans rfl; have c1 := (blk_cell Kb2.out 1).trans rfl; have c2 := (blk_cell Kb2.out 2).trans rfl; have c3 := (blk_cell Kb2.out 3).trans rfl; have c4 := (blk_cell Kb2.out 4).trans rfl; have c5 := (blk_cell Kb2.out 5).trans rfl; have c6 := (blk_cell Kb2.out 6).trans rfl; have d0 := (blk_cell Kb3.out 0).trans rfl; have d1 := (blk_cell Kb3.out 1).trans rfl; have d2 := (blk_cell Kb3.out 2).trans rfl; have d3 := (blk_cell Kb3.out 3).trans rfl; clear hb hbox hg))
    go_ret
    exact ⟨rfl, HB.out⟩
  subst e_
  by_cases e_ : ah = bh
  rotate_left
  · have k_ : (ah == bh) = false := beq_eq_false_iff_ne.mpr e_
    clear e_
    simp only [k_, beq_self_eq_true, Bool.true_and, Bool.false_and, Bool.and_false]
    go_enter Try.func212, Try.ntmps212
    go_wp2_with (first | ((with_reducible refine gate_dst (N := 2) rfl ?_); refine box_event ?hg (N := 2) ?hd (cs := #[.int .u8 ak, .int .i64 ax, .int .i64 ay, .int .i64 aw, .int .i64 ah, .int .i64 aid, .slice A la.length ca]) (t := 26) ?hr ?_; (case hd => rfl); (case hg => rfl); (case hr => (go_simp; done)); intro b2 hg wbb2 hbox hb; have Kb2 := Aside0.mk hbox; have q_ := Aside0.mk (below_step HB.out hb); clear HB; have HB := q_; clear q_; clear hb hbox hg) | ((with_reducible refine gate_dst (N := 3) rfl ?_); refine box_event ?hg (N := 3) ?hd (cs := #[.int .i64 ax, .int .i64 ay, .int .i64 aw, .int .i64 bh]) (t := 23) ?hr ?_; (case hd => rfl); (case hg => rfl); (case hr => (go_simp; done)); intro b3 hg wbb3 hbox hb; have Kb3 := Aside0.mk hbox; have q_ := Aside0.mk (below_step HB.out hb); clear HB; have HB := q_; clear q_; have q2_ := Aside0.mk (blk_below Kb2.out hb); clear Kb2; have Kb2 := q2_; clear q2_; have c0 := (blk_cell Kb2.out 0).trans rfl; have c1 := (blk_cell Kb2.out 1).trans rfl; have c2 := (blk_cell Kb2.out 2).trans rfl; have c3 := (blk_cell Kb2.out 3).trans rfl; have c4 := (blk_cell Kb2.out 4).trans rfl; have c5 := (blk_cell Kb2.out 5).trans rfl; have c6 := (blk_cell Kb2.out 6).trans rfl; have d0 := (blk_cell Kb3.out 0).trans rfl; have d1 := (blk_cell Kb3.out 1).trans rfl; have d2 := (blk_cell Kb3.out 2).trans rfl; have d3 := (blk_cell Kb3.out 3).trans rfl; clear hb hbox hg))
    go_ret
    exact ⟨rfl, HB.out⟩
  subst e_
  simp only [beq_self_eq_true, Bool.true_and]
  go_enter Try.func212, Try.ntmps212
  go_wp2_with (first | ((with_reducible refine gate_dst (N := 2) rfl ?_); refine box_event ?hg (N := 2) ?hd (cs := #[.int .u8 ak, .int .i64 ax, .int .i64 ay, .int .i64 aw, .int .i64 ah, .int .i64 aid, .slice A la.length ca]) (t := 26) ?hr ?_; (case hd => rfl); (case hg => rfl); (case hr => (go_simp; done)); intro b2 hg wbb2 hbox hb; have Kb2 := Aside0.mk hbox; have q_ := Aside0.mk (below_step HB.out hb); clear HB; have HB := q_; clear q_; clear hb hbox hg) | ((with_reducible refine gate_dst (N := 3) rfl ?_); refine box_event ?hg (N := 3) ?hd (cs := #[.int .i64 ax, .int .i64 ay, .int .i64 aw, .int .i64 ah]) (t := 23) ?hr ?_; (case hd => rfl); (case hg => rfl); (case hr => (go_simp; done)); intro b3 hg wbb3 hbox hb; have Kb3 := Aside0.mk hbox; have q_ := Aside0.mk (below_step HB.out hb); clear HB; have HB := q_; clear q_; have q2_ := Aside0.mk (blk_below Kb2.out hb); clear Kb2; have Kb2 := q2_; clear q2_; have c0 := (blk_cell Kb2.out 0).trans rfl; have c1 := (blk_cell Kb2.out 1).trans rfl; have c2 := (blk_cell Kb2.out 2).trans rfl; have c3 := (blk_cell Kb2.out 3).trans rfl; have c4 := (blk_cell Kb2.out 4).trans rfl; have c5 := (blk_cell Kb2.out 5).trans rfl; have c6 := (blk_cell Kb2.out 6).trans rfl; have d0 := (blk_cell Kb3.out 0).trans rfl; have d1 := (blk_cell Kb3.out 1).trans rfl; have d2 := (blk_cell Kb3.out 2).trans rfl; have d3 := (blk_cell Kb3.out 3).trans rfl; clear hb hbox hg))
  go_ret
  exact ⟨rfl, HB.out⟩
def oneT (c : S26) (t : List S23 × List S23 × Bool) : Bool := c.f0 == 1 || (t.2.2 && (c.f3.length == t.1.length && eqL (fun k r => rectB k.f1 r) c.f3 t.1))
def linesT (c : S26) (t : List S23 × List S23 × Bool) : List S23 := if c.f0 = 1 then [] else t.2.1
set_option maxHeartbeats 2000000 in
set_option maxRecDepth 100000 in
theorem lines206 (k : Nat) (c : S26) (A : Option Addr) (cc : Nat) (t : List S23 × List S23 × Bool) (w : World) (hr : Kd.C k26 w A c.f3.length c.f3) (hc : c.f3.length ≤ cc) (h : c.f0 ≠ 1 → tile_cut.f k c.f0 c.f1.f0 c.f1.f1 c.f1.f2 c.f1.f3 c.f2 c.f3 = some t) :
    Calls Try.prog 206 #[.agg #[.int .u8 c.f0, .int .i64 c.f1.f0, .int .i64 c.f1.f1, .int .i64 c.f1.f2, .int .i64 c.f1.f3, .int .i64 c.f2, .slice A c.f3.length cc]] w fun e w' => ∃ v : Value, e = .returned (.tuple #[v, .bool (oneT c t)]) ∧ Kd.R k23 23 w' w.heap.size (fun _ => True) v (linesT c t) ∧ Below w.heap.size w w' := by
  have HR := Aside0.mk hr
  have HC := Aside0.mk hc
  have HT := Aside0.mk h
  have HB := Aside0.mk (Below.refl w.heap.size w)
  clear hr hc h
  obtain ⟨ck, ⟨cx, cy, cw, ch⟩, cid, l⟩ := c
  obtain ⟨t1, t2, t3⟩ := t
  simp only [oneT, linesT] at HR HC HT ⊢
  by_cases k1 : ck = 1
  · have k1b : (ck == 1) = true := beq_iff_eq.mpr k1
    simp only [k1b, Bool.true_or, if_pos k1]
    clear k1 HT
    go_enter Try.func206, Try.ntmps206
    go_wp2_with (((with_reducible refine gate_dst (N := 1) rfl ?_); refine box_event ?hg (N := 1) ?hd (cs := #[.int .u8 ck, .int .i64 cx, .int .i64 cy, .int .i64 cw, .int .i64 ch, .int .i64 cid, .slice A l.length cc]) (t := 26) ?hr ?_; (case hd => rfl); (case hg => rfl); (case hr => (go_simp; done)); intro b1 hg wbb1 hbox hb; have Kb1 := Aside0.mk hbox; have q_ := Aside0.mk (below_step HB.out hb); clear HB; have HB := q_; clear q_; have c0 := (blk_cell Kb1.out 0).trans rfl; have c1 := (blk_cell Kb1.out 1).trans rfl; have c2 := (blk_cell Kb1.out 2).trans rfl; have c3 := (blk_cell Kb1.out 3).trans rfl; have c4 := (blk_cell Kb1.out 4).trans rfl; have c5 := (blk_cell Kb1.out 5).trans rfl; have c6 := (blk_cell Kb1.out 6).trans rfl; clear hb hbox hg))
    go_ret2
    exact ⟨_, rfl, Kd.R_nil _ _ _ _ _, HB.out⟩
  · have k1b : (ck == 1) = false := beq_eq_false_iff_ne.mpr k1
    have HT := Aside0.mk (HT.out k1)
    simp only [k1b, Bool.false_or, if_neg k1]
    clear k1
    cases t3 with
    | false =>
      rw [Bool.false_and]
      go_enter Try.func206, Try.ntmps206
      go_wp2_with (((with_reducible refine gate_dst (N := 1) rfl ?_); refine box_event ?hg (N := 1) ?hd (cs := #[.int .u8 ck, .int .i64 cx, .int .i64 cy, .int .i64 cw, .int .i64 ch, .int .i64 cid, .slice A l.length cc]) (t := 26) ?hr ?_; (case hd => rfl); (case hg => rfl); (case hr => (go_simp; done)); intro b1 hg wbb1 hbox hb; have Kb1 := Aside0.mk hbox; have q_ := Aside0.mk (below_step HB.out hb); clear HB; have HB := q_; clear q_; have c0 := (blk_cell Kb1.out 0).trans rfl; have c1 := (blk_cell Kb1.out 1).trans rfl; have c2 := (blk_cell Kb1.out 2).trans rfl; have c3 := (blk_cell Kb1.out 3).trans rfl; have c4 := (blk_cell Kb1.out 4).trans rfl; have c5 := (blk_cell Kb1.out 5).trans rfl; have c6 := (blk_cell Kb1.out 6).trans rfl; clear hb hbox hg))
      clear c0 c1 c2 c3 c4 c5 c6
      refine (tile_cut.calls k ck cx cy cw ch cid A cc l _ _ _ _ (Kd.C_below HR.out HB.out) HC.out HT.out).mono ?_
      rintro e w' ⟨v0, v1, rfl, h0, h1, hb⟩
      have H0 := Aside0.mk h0
      have H1 := Aside0.mk (Kd.R_lower h1 HB.out.size)
      have q1_ := Aside0.mk (blk_below Kb1.out hb)
      clear Kb1
      have Kb1 := q1_
      clear q1_
      have q_ := Aside0.mk (below_step HB.out hb); clear HB; have HB := q_; clear q_
      clear hb h0 h1
      obtain ⟨Ap, cp, ep⟩ := Kd.R_slice H0.out
      subst ep
      have c0 := (blk_cell Kb1.out 0).trans rfl
      have c1 := (blk_cell Kb1.out 1).trans rfl
      have c2 := (blk_cell Kb1.out 2).trans rfl
      have c3 := (blk_cell Kb1.out 3).trans rfl
      have c4 := (blk_cell Kb1.out 4).trans rfl
      have c5 := (blk_cell Kb1.out 5).trans rfl
      have c6 := (blk_cell Kb1.out 6).trans rfl
      go_wp2
      go_ret2
      exact ⟨_, rfl, Kd.R_mono H1.out (fun _ _ => trivial), HB.out⟩
    | true =>
      rw [Bool.true_and]
      go_enter Try.func206, Try.ntmps206
      go_wp2_with (((with_reducible refine gate_dst (N := 1) rfl ?_); refine box_event ?hg (N := 1) ?hd (cs := #[.int .u8 ck, .int .i64 cx, .int .i64 cy, .int .i64 cw, .int .i64 ch, .int .i64 cid, .slice A l.length cc]) (t := 26) ?hr ?_; (case hd => rfl); (case hg => rfl); (case hr => (go_simp; done)); intro b1 hg wbb1 hbox hb; have Kb1 := Aside0.mk hbox; have q_ := Aside0.mk (below_step HB.out hb); clear HB; have HB := q_; clear q_; have c0 := (blk_cell Kb1.out 0).trans rfl; have c1 := (blk_cell Kb1.out 1).trans rfl; have c2 := (blk_cell Kb1.out 2).trans rfl; have c3 := (blk_cell Kb1.out 3).trans rfl; have c4 := (blk_cell Kb1.out 4).trans rfl; have c5 := (blk_cell Kb1.out 5).trans rfl; have c6 := (blk_cell Kb1.out 6).trans rfl; clear hb hbox hg))
      clear c0 c1 c2 c3 c4 c5 c6
      refine (tile_cut.calls k ck cx cy cw ch cid A cc l _ _ _ _ (Kd.C_below HR.out HB.out) HC.out HT.out).mono ?_
      rintro e w' ⟨v0, v1, rfl, h0, h1, hb⟩
      have H0 := Aside0.mk h0
      have H1 := Aside0.mk (Kd.R_lower h1 HB.out.size)
      have q1_ := Aside0.mk (blk_below Kb1.out hb)
      clear Kb1
      have Kb1 := q1_
      clear q1_
      have q_ := Aside0.mk (below_step HB.out hb); clear HB; have HB := q_; clear q_
      clear hb h0 h1
      obtain ⟨Ap, cp, ep⟩ := Kd.R_slice H0.out
      subst ep
      have c0 := (blk_cell Kb1.out 0).trans rfl
      have c1 := (blk_cell Kb1.out 1).trans rfl
      have c2 := (blk_cell Kb1.out 2).trans rfl
      have c3 := (blk_cell Kb1.out 3).trans rfl
      have c4 := (blk_cell Kb1.out 4).trans rfl
      have c5 := (blk_cell Kb1.out 5).trans rfl
      have c6 := (blk_cell Kb1.out 6).trans rfl
      go_wp2_with fail
      refine ((eqf211 (fun k r => rectB k.f1 r) 212 (enters_fn Try.func212 (by decide +kernel) (by kernel_rfl)) l t1 A Ap cc cp _ (Kd.C_below HR.out HB.out) (Kd.R_reads' H0.out).2.2 (fun W x X cx y _ _ _ _ => clo212 _ _ _ _ _ _ _ _ _ _ X x.f3 cx W))).mono ?_
      rintro e ws ⟨rfl, hb⟩
      have q1_ := Aside0.mk (Kd.R_below H1.out hb)
      clear H1
      have H1 := q1_
      have q_ := Aside0.mk (below_step HB.out hb); clear HB; have HB := q_; clear q_
      clear hb q1_
      go_wp2
      go_ret2
      exact ⟨_, rfl, Kd.R_mono H1.out (fun _ _ => trivial), HB.out⟩
end Go.Proofs.Ytfdmfgaiblfbhaa.P
/- What a cell is cut into, and whether a tree tiles: plain data, out of the answer that the code's cut and the reference's share. -/
namespace Go.Proofs.Ytfdmfgaiblfbhaa.P
open Go.RowKit Go.Proofs.YtfdmfgaiblfbhaaW.PrintWords Go.Proofs.YtfdmfgaiblfbhaaW.PrintLast Go.Proofs.YtfdmfgaiblfbhaaW.PrintMore
def axC (k : Int) : Int := (((k - 2) % 256) + 1) % 256
def szK (c k : S26) : Int := if c.f0 = 2 then k.f1.f2 else k.f1.f3
def sizesC (c : S26) : List Int := c.f3.map (szK c)
theorem cut_any (c : S26) : ∃ t : List S23 × List S23 × Bool, c.f3.length ≤ 20000 → (t.1.length ≤ c.f3.length ∧ t.2.1.length ≤ c.f3.length) ∧ ((t.2.2 = true → (axC c.f0 = 1 ∨ axC c.f0 = 2) ∧ t.1 = cutP (axC c.f0) c.f1.f0 c.f1.f1 c.f1.f2 c.f1.f3 0 (sizesC c) ∧ (sizesC c).sum + ((sizesC c).length : Int) - 1 = tX (axC c.f0) c.f1.f2 c.f1.f3 ∧ ∀ m, m ∈ sizesC c → 1 ≤ m)) ∧ Ev (fun k => rect_Cut.f k c.f1.f0 c.f1.f1 c.f1.f2 c.f1.f3 (axC c.f0) (sizesC c)) t ∧ Ev (fun k => sashref04_Cut.f k c.f1.f0 c.f1.f1 c.f1.f2 c.f1.f3 (axC c.f0) (sizesC c)) t := by
  by_cases h : c.f3.length ≤ 20000
  · obtain ⟨t, h1, hg, h2, h3⟩ := Pure.cut_alike c.f1.f0 c.f1.f1 c.f1.f2 c.f1.f3 (axC c.f0) (by unfold axC U8; omega) (sizesC c) (by simpa [sizesC] using h)
    rw [show (sizesC c).length = c.f3.length from by simp [sizesC]] at h1
    exact ⟨t, fun _ => ⟨h1, hg, h2, h3⟩⟩
  · exact ⟨([], [], false), fun h' => absurd h' h⟩
noncomputable def cutT (c : S26) : List S23 × List S23 × Bool := Classical.choose (cut_any c)
theorem cutT_spec (c : S26) (h : c.f3.length ≤ 20000) : ((cutT c).1.length ≤ c.f3.length ∧ (cutT c).2.1.length ≤ c.f3.length) ∧ (((cutT c).2.2 = true → (axC c.f0 = 1 ∨ axC c.f0 = 2) ∧ (cutT c).1 = cutP (axC c.f0) c.f1.f0 c.f1.f1 c.f1.f2 c.f1.f3 0 (sizesC c) ∧ (sizesC c).sum + ((sizesC c).length : Int) - 1 = tX (axC c.f0) c.f1.f2 c.f1.f3 ∧ ∀ m, m ∈ sizesC c → 1 ≤ m)) ∧ Ev (fun k => rect_Cut.f k c.f1.f0 c.f1.f1 c.f1.f2 c.f1.f3 (axC c.f0) (sizesC c)) (cutT c) ∧ Ev (fun k => sashref04_Cut.f k c.f1.f0 c.f1.f1 c.f1.f2 c.f1.f3 (axC c.f0) (sizesC c)) (cutT c) := Classical.choose_spec (cut_any c) h
noncomputable def oneB (c : S26) : Bool := oneT c (cutT c)
noncomputable def linesB (c : S26) : List S23 := linesT c (cutT c)
noncomputable def tilesB (c : S26) : Bool := (allC c).all oneB
theorem linesB_len (c : S26) (h : c.f3.length ≤ 20000) : (linesB c).length ≤ c.f3.length := by
  unfold linesB linesT
  split
  · exact Nat.zero_le _
  · exact (cutT_spec c h).1.2
theorem tilesB_eq (c : S26) : tilesB c = (oneB c && c.f3.all tilesB) := by
  unfold tilesB
  rw [allC_eq, List.all_cons]
  congr 1
  generalize c.f3 = l
  induction l with
  | nil => rw [allL_nil]; rfl
  | cons x xs ih => rw [allL_cons, List.all_append, List.all_cons, ih]
theorem tile_cut_ev (c : S26) (h : c.f3.length ≤ 20000) : Ev (fun k => tile_cut.f k c.f0 c.f1.f0 c.f1.f1 c.f1.f2 c.f1.f3 c.f2 c.f3) (cutT c) := by
  have key : ∀ (rest pre : List S26), pre ++ rest = c.f3 → Ev (fun k => tile_cut.l0 k (pre.map (szK c)) c.f3 (c.f3.length : Int) (pre.length : Int) c.f0 c.f1.f0 c.f1.f1 c.f1.f2 c.f1.f3 c.f2 c.f3) (cutT c) := by
    intro rest
    induction rest with
    | nil =>
      intro pre hp
      rw [List.append_nil] at hp
      subst hp
      refine Ev.step (f := fun k => (rect_Cut.f k c.f1.f0 c.f1.f1 c.f1.f2 c.f1.f3 (axC c.f0) (sizesC c)).bind fun bt => some (bt.1, bt.2.1, bt.2.2)) (fun k => ?_) (Ev.bind (cutT_spec c h).2.2.1 (Ev.now _))
      simp only [tile_cut.l0]
      rw [if_neg (by omega)]
      rfl
    | cons x xs ih =>
      intro pre hp
      have hl : (pre.length : Int) < (c.f3.length : Int) := by rw [← hp, List.length_append, List.length_cons]; omega
      have hr : rd_T26 c.f3 (pre.length : Int) = x := by rw [← hp]; exact rd26_in pre x xs
      have hu : wrap64 ((pre.length : Int) + 1) = ((pre ++ [x]).length : Int) := up_in pre x xs (by rw [hp]; omega)
      have e2 := ih (pre ++ [x]) (by rw [List.append_assoc]; exact hp)
      have hm : (pre ++ [x]).map (szK c) = pre.map (szK c) ++ [szK c x] := by simp
      rw [hm] at e2
      refine Ev.step (fun k => ?_) e2
      simp only [tile_cut.l0]
      rw [if_pos hl, if_pos (by omega), if_pos hl, hr, hu, List.length_map]
      by_cases h2 : c.f0 = 2
      · rw [if_pos h2, if_pos (by omega), show szK c x = x.f1.f2 from if_pos h2]
      · rw [if_neg h2, if_pos (by omega), show szK c x = x.f1.f3 from if_neg h2]
  unfold tile_cut.f
  exact key c.f3 [] rfl
theorem lines_rounds (c : S26) (h : c.f3.length ≤ 20000) : ∃ k, c.f0 ≠ 1 → tile_cut.f k c.f0 c.f1.f0 c.f1.f1 c.f1.f2 c.f1.f3 c.f2 c.f3 = some (cutT c) := by
  obtain ⟨k, hk⟩ := tile_cut_ev c h
  exact ⟨k, fun _ => hk k (Nat.le_refl _)⟩
end Go.Proofs.Ytfdmfgaiblfbhaa.P
/- The walker of package tile: it goes through a tree that may be, and tells whether all its cells tile. -/
namespace Go.Proofs.Ytfdmfgaiblfbhaa.P
open Go.RowKit Go.Proofs.YtfdmfgaiblfbhaaW.PrintWords Go.Proofs.YtfdmfgaiblfbhaaW.PrintLast Go.Proofs.YtfdmfgaiblfbhaaW.PrintMore
set_option linter.unusedVariables false
set_option linter.unusedSimpArgs false
/-- The walker's block, and its row of lines. -/
def WalkI (w0 : World) (gw j : Nat) (W : World) : Prop := Below w0.heap.size w0 W ∧ ∃ (n : Int) (v : Value) (ls : List S23), W.heap[gw]? = some (.cells #[.int .i64 n, v] 182 (0, 0)) ∧ Kd.R k23 23 W w0.heap.size (fun _ => True) v ls ∧ ls.length ≤ j
/-- All blocks but the walker's, and but rows of lines, stay. -/
def Fr (gw : Nat) (W W' : World) : Prop := ∀ k cs t, k ≠ gw → t ≠ 23 → W.heap[k]? = some (.cells cs t (0, 0)) → W'.heap[k]? = some (.cells cs t (0, 0))
theorem Fr.refl (gw : Nat) (W : World) : Fr gw W W := fun _ _ _ _ _ h => h
theorem Fr.trans {gw : Nat} {W W1 W2 : World} (h : Fr gw W W1) (k : Fr gw W1 W2) : Fr gw W W2 := fun i cs t hi ht hb => k i cs t hi ht (h i cs t hi ht hb)
theorem Fr.below {gw : Nat} {W W1 : World} (h : Below W.heap.size W W1) : Fr gw W W1 := fun _ _ _ _ _ hb => blk_below hb h
theorem Fr.store {gw : Nat} {W W1 : World} (h : W.grownBy W1 (some gw)) : Fr gw W W1 := fun _ _ _ hi _ hb => blk_grown hb h (fun e => absurd (Option.some.inj e) hi)
theorem Fr.append {gw base : Nat} {W W1 : World} {v : Value} {xs : List S23} {ok : Nat → Prop} (hv : Kd.R k23 23 W base ok v xs) (h : W.grownBy W1 v.ownBlock) : Fr gw W W1 := fun _ _ _ _ ht hb => blk_grown hb h (Kd.R_ne hv hb (fun e => ht e.symm))
theorem WalkI.below {w0 W W1 : World} {gw j : Nat} (h : WalkI w0 gw j W) (hb : Below W.heap.size W W1) : WalkI w0 gw j W1 := by
  obtain ⟨h1, n, v, ls, h2, h3, h4⟩ := h
  exact ⟨below_step h1 hb, n, v, ls, blk_below h2 hb, Kd.R_below h3 hb, h4⟩
theorem WalkI.mono {w0 W : World} {gw j j' : Nat} (h : WalkI w0 gw j W) (hj : j ≤ j') : WalkI w0 gw j' W := by
  obtain ⟨h1, n, v, ls, h2, h3, h4⟩ := h
  exact ⟨h1, n, v, ls, h2, h3, Nat.le_trans h4 hj⟩
set_option maxHeartbeats 1000000 in
theorem clo207 (x : S26) (B : Option Addr) (cb b3 gw : Nat) (r : Bool) (R : World → Prop) (W : World) (hk : W.heap[b3]? = some (.cells #[.pointer (some ⟨gw, 0, none⟩)] 180 (0, 0)))
    (h : ∀ W1, Below W.heap.size W W1 → Calls Try.prog 197 #[.pointer (some ⟨gw, 0, none⟩), .agg #[.int .u8 x.f0, .int .i64 x.f1.f0, .int .i64 x.f1.f1, .int .i64 x.f1.f2, .int .i64 x.f1.f3, .int .i64 x.f2, .slice B x.f3.length cb]] W1 fun e w' => e = .returned (.bool r) ∧ R w') :
    Calls Try.prog 207 (#[.agg #[.int .u8 x.f0, .int .i64 x.f1.f0, .int .i64 x.f1.f1, .int .i64 x.f1.f2, .int .i64 x.f1.f3, .int .i64 x.f2, .slice B x.f3.length cb]] ++ #[.pointer (some ⟨b3, 0, none⟩)]) W fun e w' => e = .returned (.bool (!r)) ∧ R w' := by
  have HK := Aside0.mk hk
  have H := Aside0.mk h
  clear hk h
  simp only [List.append_toArray, List.cons_append, List.nil_append]
  cases r
  all_goals
    go_enter Try.func207, Try.ntmps207
    go_wp2_with (((with_reducible refine gate_dst (N := 2) rfl ?_); refine box_event ?hg (N := 2) ?hd (cs := #[.int .u8 x.f0, .int .i64 x.f1.f0, .int .i64 x.f1.f1, .int .i64 x.f1.f2, .int .i64 x.f1.f3, .int .i64 x.f2, .slice B x.f3.length cb]) (t := 26) ?hr ?_; (case hd => rfl); (case hg => rfl); (case hr => (go_simp; done)); intro b2 hg wb2 hbox hb; have Kb2 := Aside0.mk hbox; have HB := Aside0.mk hb; have K3 := Aside0.mk (blk_below HK.out hb); have d0 := (blk_cell K3.out 0).trans rfl; have c0 := (blk_cell Kb2.out 0).trans rfl; have c1 := (blk_cell Kb2.out 1).trans rfl; have c2 := (blk_cell Kb2.out 2).trans rfl; have c3 := (blk_cell Kb2.out 3).trans rfl; have c4 := (blk_cell Kb2.out 4).trans rfl; have c5 := (blk_cell Kb2.out 5).trans rfl; have c6 := (blk_cell Kb2.out 6).trans rfl; clear hb hbox hg))
    clear c0 c1 c2 c3 c4 c5 c6 d0
    refine (H.out _ HB.out).mono ?_
    rintro e w' ⟨rfl, hR⟩
    have HR := Aside0.mk hR
    clear hR
    go_wp2
    go_ret
    exact ⟨rfl, HR.out⟩

def tile_walk.T5 : Bool × List (List Nat × List Nat) := (true, [([], []), ([], []), ([1], [1]), ([2], [2]), ([3], [3]), ([], []), ([4, 5], [4, 5]), ([0, 0, 1, 2, 3, 4, 5, 6], [0]), ([7, 0, 1, 2, 3, 4, 5, 6], [7]), ([8, 6, 6, 0, 1, 2, 3, 4, 5, 6], [6, 8])])
def tile_walk.B5 : List Nat := [0, 0, 2, 6, 14, 0, 62, 127, 255, 511]
theorem tile_walk.tab5 : rtab .any (opsOf Try.f197 5) = tile_walk.T5 := by kernel_rfl
theorem tile_walk.bits5 : waitsOk tile_walk.T5.2 tile_walk.B5 = true := by kernel_rfl
set_option maxHeartbeats 4000000 in
set_option maxRecDepth 100000 in
theorem walk197 (w0 : World) (gw : Nat) (hgw : w0.heap.size ≤ gw) : ∀ (N : Nat) (c : S26), sz c ≤ N → N ≤ 20000 → ∀ (A : Option Addr) (cc : Nat), Kd.C k26 w0 A c.f3.length c.f3 → c.f3.length ≤ cc → ∀ (j : Nat) (W : World), j + szL c.f3 ≤ 1000000 → WalkI w0 gw j W →
    Calls Try.prog 197 #[.pointer (some ⟨gw, 0, none⟩), .agg #[.int .u8 c.f0, .int .i64 c.f1.f0, .int .i64 c.f1.f1, .int .i64 c.f1.f2, .int .i64 c.f1.f3, .int .i64 c.f2, .slice A c.f3.length cc]] W fun e w' => e = .returned (.bool (tilesB c)) ∧ WalkI w0 gw (j + szL c.f3) w' ∧ Fr gw W w' := by
  intro N
  induction N with
  | zero => intro c h; rw [sz_eq] at h; omega
  | succ N ih =>
    intro c hc hN A cc hr hlc j W hj hI
    have hsz := sz_eq c
    have hlen := szL_len c.f3
    have hKids : ∀ (b2 j1 : Nat) (W1 : World), b2 ≠ gw → W1.heap[b2]? = some (.cells #[.pointer (some ⟨gw, 0, none⟩)] 180 (0, 0)) → WalkI w0 gw j1 W1 → j1 ≤ j + c.f3.length →
        Calls Try.prog 174 #[.slice A c.f3.length cc, .func (.func 207) #[] #[.pointer (some ⟨b2, 0, none⟩)]] W1 fun e w' => e = .returned (.bool (!(c.f3.all tilesB))) ∧ WalkI w0 gw (j + szL c.f3) w' ∧ Fr gw W1 w' := by
      intro b2 j1 W1 hne hk hi hj1
      have hcon := cons174 (fun rest w' => (∃ i, WalkI w0 gw i w' ∧ i + szL rest ≤ (j + szL c.f3) + rest.length) ∧ Fr gw W1 w') (fun x => !tilesB x) 207 #[.pointer (some ⟨b2, 0, none⟩)] (enters_fn Try.func207 (by decide +kernel) (by kernel_rfl)) c.f3 A cc w0 hr
        (fun s w' h => by obtain ⟨⟨i, h1, _⟩, _⟩ := h; exact h1.1)
        (fun s w' n h => by obtain ⟨⟨i, h1, h2⟩, h3⟩ := h; exact ⟨⟨i, h1.below (pw_below_drewN (Below.refl _ _) n), h2⟩, h3.trans (Fr.below (pw_below_drewN (Below.refl _ _) n))⟩)
        (fun x rest w' B cb hx hp h hCx hlx => by
          obtain ⟨⟨i, h1, h2⟩, h3⟩ := h
          obtain ⟨pre, hp⟩ := hp
          have e1 : szL c.f3 = szL pre + (sz x + szL rest) := by rw [← hp, szL_app, szL_cons]
          have e2 := sz_eq x
          have e3 := szL_len rest
          have e4 := szL_len pre
          rw [szL_cons, List.length_cons] at h2
          refine (clo207 x B cb b2 gw (tilesB x) (fun w'' => WalkI w0 gw (i + szL x.f3) w'' ∧ Fr gw W1 w'') w' (h3 b2 _ 180 hne (by decide) hk) (fun W2 hb2 => ?_)).mono ?_
          · refine (ih x (by omega) (by omega) B cb hCx hlx i W2 (by omega) (h1.below hb2)).mono ?_
            rintro e w'' ⟨he, hi2, hf⟩
            exact ⟨he, hi2, h3.trans ((Fr.below hb2).trans hf)⟩
          · rintro e w'' ⟨he, hi2, hf⟩
            refine ⟨he, ⟨⟨i + szL x.f3, hi2, ?_⟩, hf⟩⟩
            split
            · rw [szL_nil]; show _ ≤ _ + 0; omega
            · omega)
        W1 ⟨⟨j1, hi, by omega⟩, Fr.refl gw W1⟩ hr.2.1
      refine hcon.mono ?_
      rintro e w' ⟨he, ⟨i, h1, h2⟩, h3⟩
      rw [szL_nil] at h2
      refine ⟨?_, h1.mono (by simpa using h2), h3⟩
      rw [he, List.not_all_eq_any_not]
    have hone : c.f3.length ≤ 20000 := by omega
    obtain ⟨k0, hk0⟩ := lines_rounds c hone
    have hll := linesB_len c hone
    have hL : ∀ W1, Below w0.heap.size w0 W1 → Calls Try.prog 206 #[.agg #[.int .u8 c.f0, .int .i64 c.f1.f0, .int .i64 c.f1.f1, .int .i64 c.f1.f2, .int .i64 c.f1.f3, .int .i64 c.f2, .slice A c.f3.length cc]] W1 fun e w' => ∃ v : Value, e = .returned (.tuple #[v, .bool (oneB c)]) ∧ Kd.R k23 23 w' W1.heap.size (fun _ => True) v (linesB c) ∧ Below W1.heap.size W1 w' := fun W1 hb => lines206 k0 c A cc (cutT c) W1 (Kd.C_below hr hb) hlc hk0
    rw [tilesB_eq]
    obtain ⟨hB, n, v, ls, hK, hV, hls⟩ := hI
    obtain ⟨Av, cv, ev⟩ := Kd.R_slice hV
    subst ev
    have HB := Aside0.mk hB
    have KW := Aside0.mk hK
    have RV := Aside0.mk hV
    have FR := Aside0.mk (Fr.refl gw W)
    have HGW := Aside0.mk hgw
    have HKids := Aside0.mk hKids
    have HL := Aside0.mk hL
    have HLS := Aside0.mk hls
    have HLL := Aside0.mk hll
    have HJ := Aside0.mk hj
    have HN := Aside0.mk hlen
    clear hB hK hV hKids hL hls hll hj hlen hone hk0 hsz ih hr hlc hc hN
    obtain ⟨ck, ⟨cx, cy, cw, ch⟩, cid, l⟩ := c
    simp only [] at HKids HL HLL HJ HN ⊢
    generalize oneB ⟨ck, ⟨cx, cy, cw, ch⟩, cid, l⟩ = q at HL ⊢
    generalize linesB ⟨ck, ⟨cx, cy, cw, ch⟩, cid, l⟩ = us at HL HLL
    generalize l.all tilesB = p at HKids ⊢
    cases q with
    | false =>
      rw [Bool.false_and]
      go_enter Try.func197, Try.ntmps197
      go_wp2_with (first | ((with_reducible refine gate_dst (N := 2) rfl ?_); refine box_event ?hg (N := 2) ?hd (cs := #[.pointer (some ⟨gw, 0, none⟩)]) (t := 180) ?hr ?_; (case hd => rfl); (case hg => rfl); (case hr => (go_simp; done)); intro b2 hg wb2 hbox hb; have Kb2 := Aside0.mk hbox; have NE2 := Aside0.mk (show b2 ≠ gw by rw [hg]; exact Nat.ne_of_gt (blk_lt KW.out)); have q_HB := Aside0.mk (below_step HB.out hb); have q_KW := Aside0.mk (blk_below KW.out hb); have q_RV := Aside0.mk (Kd.R_below RV.out hb); have q_FR := Aside0.mk (FR.out.trans (Fr.below hb)); clear HB KW RV FR; have HB := q_HB; have KW := q_KW; have RV := q_RV; have FR := q_FR; clear q_HB q_KW q_RV q_FR; clear hb hbox hg) | ((with_reducible refine gate_dst (N := 3) rfl ?_); refine box_event ?hg (N := 3) ?hd (cs := #[.int .u8 ck, .int .i64 cx, .int .i64 cy, .int .i64 cw, .int .i64 ch, .int .i64 cid, .slice A l.length cc]) (t := 26) ?hr ?_; (case hd => rfl); (case hg => rfl); (case hr => (go_simp; done)); intro b3 hg wb3 hbox hb; have Kb3 := Aside0.mk hbox; have NE3 := Aside0.mk (show b3 ≠ gw by rw [hg]; exact Nat.ne_of_gt (blk_lt KW.out)); have q_HB := Aside0.mk (below_step HB.out hb); have q_KW := Aside0.mk (blk_below KW.out hb); have q_RV := Aside0.mk (Kd.R_below RV.out hb); have q_FR := Aside0.mk (FR.out.trans (Fr.below hb)); have q_Kb2 := Aside0.mk (blk_below Kb2.out hb); clear HB KW RV FR Kb2; have HB := q_HB; have KW := q_KW; have RV := q_RV; have FR := q_FR; have Kb2 := q_Kb2; clear q_HB q_KW q_RV q_FR q_Kb2; have c0 := (blk_cell Kb3.out 0).trans rfl; have c1 := (blk_cell Kb3.out 1).trans rfl; have c2 := (blk_cell Kb3.out 2).trans rfl; have c3 := (blk_cell Kb3.out 3).trans rfl; have c4 := (blk_cell Kb3.out 4).trans rfl; have c5 := (blk_cell Kb3.out 5).trans rfl; have c6 := (blk_cell Kb3.out 6).trans rfl; clear hb hbox hg))
      clear c0 c1 c2 c3 c4 c5 c6
      refine (HL.out _ HB.out).mono ?_
      rintro e w1 ⟨u, rfl, hu, hb⟩
      have HU := Aside0.mk (Kd.R_lower hu HB.out.size)
      clear hu
      have q_HB := Aside0.mk (below_step HB.out hb); have q_KW := Aside0.mk (blk_below KW.out hb); have q_RV := Aside0.mk (Kd.R_below RV.out hb); have q_FR := Aside0.mk (FR.out.trans (Fr.below hb)); have q_Kb2 := Aside0.mk (blk_below Kb2.out hb); have q_Kb3 := Aside0.mk (blk_below Kb3.out hb); clear HB KW RV FR Kb2 Kb3; have HB := q_HB; have KW := q_KW; have RV := q_RV; have FR := q_FR; have Kb2 := q_Kb2; have Kb3 := q_Kb3; clear q_HB q_KW q_RV q_FR q_Kb2 q_Kb3
      clear hb
      obtain ⟨Au, cu, eu⟩ := Kd.R_slice HU.out
      subst eu
      go_wp2
      go_ret
      exact ⟨rfl, ⟨HB.out, n, _, ls, KW.out, RV.out, by have := HLS.out; omega⟩, FR.out⟩
    | true =>
      rw [Bool.true_and]
      go_enter Try.func197, Try.ntmps197
      go_wp2_with (first | ((with_reducible refine gate_dst (N := 2) rfl ?_); refine box_event ?hg (N := 2) ?hd (cs := #[.pointer (some ⟨gw, 0, none⟩)]) (t := 180) ?hr ?_; (case hd => rfl); (case hg => rfl); (case hr => (go_simp; done)); intro b2 hg wb2 hbox hb; have Kb2 := Aside0.mk hbox; have NE2 := Aside0.mk (show b2 ≠ gw by rw [hg]; exact Nat.ne_of_gt (blk_lt KW.out)); have q_HB := Aside0.mk (below_step HB.out hb); have q_KW := Aside0.mk (blk_below KW.out hb); have q_RV := Aside0.mk (Kd.R_below RV.out hb); have q_FR := Aside0.mk (FR.out.trans (Fr.below hb)); clear HB KW RV FR; have HB := q_HB; have KW := q_KW; have RV := q_RV; have FR := q_FR; clear q_HB q_KW q_RV q_FR; clear hb hbox hg) | ((with_reducible refine gate_dst (N := 3) rfl ?_); refine box_event ?hg (N := 3) ?hd (cs := #[.int .u8 ck, .int .i64 cx, .int .i64 cy, .int .i64 cw, .int .i64 ch, .int .i64 cid, .slice A l.length cc]) (t := 26) ?hr ?_; (case hd => rfl); (case hg => rfl); (case hr => (go_simp; done)); intro b3 hg wb3 hbox hb; have Kb3 := Aside0.mk hbox; have NE3 := Aside0.mk (show b3 ≠ gw by rw [hg]; exact Nat.ne_of_gt (blk_lt KW.out)); have q_HB := Aside0.mk (below_step HB.out hb); have q_KW := Aside0.mk (blk_below KW.out hb); have q_RV := Aside0.mk (Kd.R_below RV.out hb); have q_FR := Aside0.mk (FR.out.trans (Fr.below hb)); have q_Kb2 := Aside0.mk (blk_below Kb2.out hb); clear HB KW RV FR Kb2; have HB := q_HB; have KW := q_KW; have RV := q_RV; have FR := q_FR; have Kb2 := q_Kb2; clear q_HB q_KW q_RV q_FR q_Kb2; have c0 := (blk_cell Kb3.out 0).trans rfl; have c1 := (blk_cell Kb3.out 1).trans rfl; have c2 := (blk_cell Kb3.out 2).trans rfl; have c3 := (blk_cell Kb3.out 3).trans rfl; have c4 := (blk_cell Kb3.out 4).trans rfl; have c5 := (blk_cell Kb3.out 5).trans rfl; have c6 := (blk_cell Kb3.out 6).trans rfl; clear hb hbox hg))
      clear c0 c1 c2 c3 c4 c5 c6
      refine (HL.out _ HB.out).mono ?_
      rintro e w1 ⟨u, rfl, hu, hb⟩
      have HU := Aside0.mk (Kd.R_lower hu HB.out.size)
      clear hu
      have q_HB := Aside0.mk (below_step HB.out hb); have q_KW := Aside0.mk (blk_below KW.out hb); have q_RV := Aside0.mk (Kd.R_below RV.out hb); have q_FR := Aside0.mk (FR.out.trans (Fr.below hb)); have q_Kb2 := Aside0.mk (blk_below Kb2.out hb); have q_Kb3 := Aside0.mk (blk_below Kb3.out hb); clear HB KW RV FR Kb2 Kb3; have HB := q_HB; have KW := q_KW; have RV := q_RV; have FR := q_FR; have Kb2 := q_Kb2; have Kb3 := q_Kb3; clear q_HB q_KW q_RV q_FR q_Kb2 q_Kb3
      clear hb
      obtain ⟨Au, cu, eu⟩ := Kd.R_slice HU.out
      subst eu
      have d0 := (blk_cell Kb2.out 0).trans rfl
      have e0 := (blk_cell KW.out 0).trans rfl
      have e1 := (blk_cell KW.out 1).trans rfl
      go_wp2_with (((with_reducible refine gate_ (.store 3 (.tmp 20) (.tmp 18)) rfl ?_); go_loud (refine box_store (w0 := w0) rfl rfl 3 (.tmp 20) (.tmp 18) rfl (g := gw) (j := 0) (base := w0.heap.size) #[.int .i64 (wrap64 (n + 1)), .slice Av ls.length cv] (u := .int .i64 (wrap64 (n + 1))) (seg := [.int .i64 (wrap64 (n + 1))]) ?sA ?sX rfl ?sT ?s1 KW.out ?sJ rfl HB.out HB.out.size HGW.out ?_; (case sA => rfl); (case sX => rfl); (case sT => rfl); (case s1 => (simp [Value.oneCell'])); (case sJ => (simp)); intro ws hbk hbb hgg; have q_RV := Aside0.mk (Kd.R_grown2 RV.out rfl hgg (fun k_ hk => hk ▸ Kd.R_ne RV.out KW.out (by decide))); have q_HU := Aside0.mk (Kd.R_grown2 HU.out rfl hgg (fun k_ hk => hk ▸ Kd.R_ne HU.out KW.out (by decide))); have q_FR := Aside0.mk (FR.out.trans (Fr.store hgg)); have q_Kb2 := Aside0.mk (blk_grown Kb2.out hgg (fun e_ => absurd (Option.some.inj e_) NE2.out)); have q_Kb3 := Aside0.mk (blk_grown Kb3.out hgg (fun e_ => absurd (Option.some.inj e_) NE3.out)); clear RV HU FR Kb2 Kb3; have RV := q_RV; have HU := q_HU; have FR := q_FR; have Kb2 := q_Kb2; have Kb3 := q_Kb3; clear q_RV q_HU q_FR q_Kb2 q_Kb3; clear KW HB d0 e0 e1; have KW := Aside0.mk hbk; have HB := Aside0.mk hbb; clear hbk hbb hgg)))
      have hb : Below ws.heap.size ws ws.drew := below_drew (Below.refl _ _)
      have q_HB := Aside0.mk (below_step HB.out hb); have q_KW := Aside0.mk (blk_below KW.out hb); have q_RV := Aside0.mk (Kd.R_below RV.out hb); have q_FR := Aside0.mk (FR.out.trans (Fr.below hb)); have q_Kb2 := Aside0.mk (blk_below Kb2.out hb); have q_Kb3 := Aside0.mk (blk_below Kb3.out hb); have q_HU := Aside0.mk (Kd.R_below HU.out hb); clear HB KW RV FR Kb2 Kb3 HU; have HB := q_HB; have KW := q_KW; have RV := q_RV; have FR := q_FR; have Kb2 := q_Kb2; have Kb3 := q_Kb3; have HU := q_HU; clear q_HB q_KW q_RV q_FR q_Kb2 q_Kb3 q_HU
      clear hb
      refine start_ (n := 10) (S := fun w' => Below w0.heap.size w0 w' ∧ w'.heap[b2]? = some (.cells #[.pointer (some ⟨gw, 0, none⟩)] 180 (0, 0)) ∧ w'.heap[gw]? = some (.cells #[.int .i64 (wrap64 (n + 1)), .slice Av ls.length cv] 182 (0, 0))) (ds := [9]) #[false, false, false, false, false, false, false, false, false, false] (by kernel_rfl) rfl rfl ⟨HB.out, Kb2.out, KW.out⟩ (fun hHeld => ?_); refine with_tabW tile_walk.tab5 tile_walk.bits5 (fun HT_ HW_ => ?_)
      generalize ws.drew = wd at HB KW RV FR Kb2 Kb3 HU hHeld ⊢
      refine take_ (i := 0) (N := some 21) (v := ?_) (a' := ?_) #[true, false, false, false, false, false, false, false, false, false] rfl rfl (take_ofW HT_.out HW_.out (by kernel_rfl)) (fun _ _ _ h => h) (Or.inl ⟨by rfl, ?_⟩) hHeld ?_ ?_
      rotate_left
      · intro w' hs_
        have c := (blk_cell hs_.2.1 0).trans rfl
        go_simp; with_reducible rfl
      rotate_left
      · simp only [Act.put, List.setIfInBounds_toArray, List.set_cons_zero, List.set_cons_succ, i64_w, i32_w]
        rfl
      refine take_ (i := 1) (N := some 22) (v := ?_) (a' := ?_) #[true, true, false, false, false, false, false, false, false, false] rfl rfl (take_ofW HT_.out HW_.out (by kernel_rfl)) (fun _ _ _ h => h) (Or.inl ⟨by rfl, ?_⟩) hHeld ?_ ?_
      rotate_left
      · intro w' hs_
        have c := (blk_cell hs_.2.1 0).trans rfl
        go_simp; with_reducible rfl
      rotate_left
      · simp only [Act.put, List.setIfInBounds_toArray, List.set_cons_zero, List.set_cons_succ, i64_w, i32_w]
        rfl
      refine pure_ (i := 2) (N := some 23) (v := ?_) (a' := ?_) #[true, true, true, false, false, false, false, false, false, false] rfl rfl (any_of HT_.out (by kernel_rfl)) (fun _ _ _ h => h) (Or.inl ⟨by rfl, ?_⟩) ?_ ?_
      rotate_left
      · intro w'; go_simp; with_reducible rfl
      rotate_left
      · simp only [Act.put, List.setIfInBounds_toArray, List.set_cons_zero, List.set_cons_succ, i64_w, i32_w]
        rfl
      refine pure_ (i := 3) (N := some 24) (v := ?_) (a' := ?_) #[true, true, true, true, false, false, false, false, false, false] rfl rfl (any_of HT_.out (by kernel_rfl)) (fun _ _ _ h => h) (Or.inl ⟨by rfl, ?_⟩) ?_ ?_
      rotate_left
      · intro w'; go_simp; with_reducible rfl
      rotate_left
      · simp only [Act.put, List.setIfInBounds_toArray, List.set_cons_zero, List.set_cons_succ, i64_w, i32_w]
        rfl
      refine take_ (i := 4) (N := some 25) (v := ?_) (a' := ?_) #[true, true, true, true, true, false, false, false, false, false] rfl rfl (take_ofW HT_.out HW_.out (by kernel_rfl)) (fun _ _ _ h => h) (Or.inl ⟨by rfl, ?_⟩) hHeld ?_ ?_
      rotate_left
      · intro w' hs_
        have c := (blk_cell hs_.2.2 1).trans rfl
        go_simp; with_reducible rfl
      rotate_left
      · simp only [Act.put, List.setIfInBounds_toArray, List.set_cons_zero, List.set_cons_succ, i64_w, i32_w]
        rfl
      refine pure_ (i := 5) (N := some 26) (v := ?_) (a' := ?_) #[true, true, true, true, true, true, false, false, false, false] rfl rfl (any_of HT_.out (by kernel_rfl)) (fun _ _ _ h => h) (Or.inl ⟨by rfl, ?_⟩) ?_ ?_
      rotate_left
      · intro w'; go_simp; with_reducible rfl
      rotate_left
      · simp only [Act.put, List.setIfInBounds_toArray, List.set_cons_zero, List.set_cons_succ, i64_w, i32_w]
        rfl
      refine one_ (i := 6) (N := some 27) #[true, true, true, true, true, true, true, false, false, false] rfl rfl (one_of HT_.out (by kernel_rfl)) (by decide) (fun K hK => ?_)
      refine Kd.R_append_rows_step k23 (w0 := w0) w0.heap.size (by rfl) (.tmp 25) (.tmp 26) 42 23 (.agg #[(.int .i64 0), (.int .i64 0), (.int .i64 0), (.int .i64 0)]) 32 rfl Try.underlying42 info23 rfl (by decide) (by omega) (.slice Av ls.length cv) ls us Au us.length cu (fun _ => True) (fun _ => False) rfl rfl RV.out (Kd.R_reads' HU.out).2.2 (fun _ _ h => h) (fun _ h => h.elim) (fun _ _ => trivial) HB.out HB.out.size (by have h1 := HLS.out; have h2 := HLL.out; have h3 := HJ.out; have h4 := HN.out; omega) ?_
      intro v1 wk ho hb hg hat
      have q1 := Aside0.mk (FR.out.trans (Fr.append RV.out hg))
      have q2 := Aside0.mk (blk_grown Kb2.out hg (Kd.R_ne RV.out Kb2.out (by decide)))
      have q3 := Aside0.mk (blk_grown Kb3.out hg (Kd.R_ne RV.out Kb3.out (by decide)))
      have q4 := Aside0.mk (blk_grown KW.out hg (Kd.R_ne RV.out KW.out (by decide)))
      clear FR Kb2 Kb3 KW HB RV HU
      have FR := q1
      have Kb2 := q2
      have Kb3 := q3
      have KW := q4
      have HB := Aside0.mk hb
      have RV := Aside0.mk ho
      clear q1 q2 q3 q4 hb ho hg hat
      obtain ⟨A1, c1, e1⟩ := Kd.R_slice RV.out
      subst e1
      refine hK.out _ _ ⟨HB.out, Kb2.out, KW.out⟩ (fun hHeld => ?_)
      clear hK K
      refine norm_ (a' := ?_) ?_ ?_
      rotate_left
      · show Act.put _ (some 27) _ = _
        simp only [Act.put, List.setIfInBounds_toArray, List.set_cons_zero, List.set_cons_succ, i64_w, i32_w]
        rfl
      refine pure_ (i := 7) (N := some 28) (v := ?_) (a' := ?_) #[true, true, true, true, true, true, true, true, false, false] rfl rfl (any_of HT_.out (by kernel_rfl)) (fun _ _ _ h => h) (Or.inl ⟨by rfl, ?_⟩) ?_ ?_
      rotate_left
      · intro w'; go_simp; with_reducible rfl
      rotate_left
      · simp only [Act.put, List.setIfInBounds_toArray, List.set_cons_zero, List.set_cons_succ, i64_w, i32_w]
        rfl
      refine pure_ (i := 8) (N := some 29) (v := ?_) (a' := ?_) #[true, true, true, true, true, true, true, true, true, false] rfl rfl (any_of HT_.out (by kernel_rfl)) (fun _ _ _ h => h) (Or.inl ⟨by rfl, ?_⟩) ?_ ?_
      rotate_left
      · intro w'; go_simp; with_reducible rfl
      rotate_left
      · simp only [Act.put, List.setIfInBounds_toArray, List.set_cons_zero, List.set_cons_succ, i64_w, i32_w]
        rfl
      refine last_ (i := 9) (N := none) #[true, true, true, true, true, true, true, true, true, true] rfl rfl (one_of HT_.out (by kernel_rfl)) (by decide) (fun K hK => ?_)
      obtain ⟨w9, hw9⟩ : ∃ w9, w9 = wk.setCells gw 1 [.slice A1 (ls ++ us).length c1] := ⟨_, rfl⟩
      have hst := box_cells (j := 1) (cs' := #[.int .i64 (wrap64 (n + 1)), .slice A1 (ls ++ us).length c1]) (seg := [.slice A1 (ls ++ us).length c1]) KW.out (by simp) rfl
      rw [← hw9] at hst
      refine skip_ (w1 := w9) (by rfl) rfl ?_ ?_
      · rw [hw9]; exact store_exec 42 (.tmp 29) (.tmp 27) rfl (cs := #[.int .i64 (wrap64 (n + 1)), .slice Av ls.length cv]) (t0 := 182) (seg := [.slice A1 (ls ++ us).length c1]) rfl rfl rfl (by kernel_rfl) (by simp [Value.oneCell']) KW.out (by simp)
      have HB9 := Aside0.mk (grown_below HB.out hst.2 HGW.out HB.out.size)
      have RV9 := Aside0.mk (Kd.R_grown2 RV.out rfl hst.2 (fun k_ hk => hk ▸ Kd.R_ne RV.out KW.out (by decide)))
      have FR9 := Aside0.mk (FR.out.trans (Fr.store hst.2))
      have K29 := Aside0.mk (blk_grown Kb2.out hst.2 (fun e_ => absurd (Option.some.inj e_) NE2.out))
      have K39 := Aside0.mk (blk_grown Kb3.out hst.2 (fun e_ => absurd (Option.some.inj e_) NE3.out))
      have KW9 := Aside0.mk hst.1
      clear hst
      refine hK.out _ _ ?_
      clear hK K hw9
      refine done_ (done_of HT_.out (by kernel_rfl)) ?_
      have c6 := (blk_cell K39.out 6).trans rfl
      cases p
      all_goals
        go_wp2_with fail
        refine (HKids.out b2 (j + us.length) _ NE2.out K29.out ⟨HB9.out, _, _, _, KW9.out, RV9.out, by have := HLS.out; rw [List.length_append]; omega⟩ (by have := HLL.out; omega)).mono ?_
        rintro e w2 ⟨rfl, hi, hf⟩
        have HI := Aside0.mk hi
        have HF := Aside0.mk (FR9.out.trans hf)
        clear hi hf
        go_wp2
        go_ret
        exact ⟨rfl, HI.out, HF.out⟩
end Go.Proofs.Ytfdmfgaiblfbhaa.P
/- fault.New, fault.In, and slices.Clone at strings, as package tile calls them: an error comes back. -/
namespace Go.Proofs.Ytfdmfgaiblfbhaa.P
open Go.RowKit Go.Proofs.YtfdmfgaiblfbhaaW.PrintWords Go.Proofs.YtfdmfgaiblfbhaaW.PrintLast Go.Proofs.YtfdmfgaiblfbhaaW.PrintMore
set_option linter.unusedVariables false
set_option linter.unusedSimpArgs false
theorem info9s : (Try.prog.info? 9).map (fun i => (i.zero, i.size, i.bytes)) = some (some (.string ⟨#[]⟩), 1, 16) := by kernel_rfl
set_option maxHeartbeats 1000000 in
theorem new196 (e at_ : Int) (he : e ≠ 0) (w : World) : Calls Try.prog 196 #[.int .i64 e, .int .i64 at_] w fun x w' => (∃ t v, x = .returned (.iface t v)) ∧ Below w.heap.size w w' := by
  have hb : (e == 0) = false := beq_eq_false_iff_ne.mpr he
  clear he
  go_enter Try.func196, Try.ntmps196
  go_wp2
  go_ret
  exact ⟨⟨_, _, rfl⟩, below_alloc (Below.refl _ _) _⟩
set_option maxHeartbeats 2000000 in
set_option maxRecDepth 100000 in
theorem clone205 (ad : Addr) (c0 : Nat) (l0 : List ByteArray) (hl : l0.length ≤ 1000) (w : World) (hr0 : Kd.C Kd.string w (some ad) l0.length l0) (hc0 : l0.length ≤ c0) :
    Calls Try.prog 205 #[.slice (some ad) l0.length c0] w fun e w' => ∃ A n c, e = .returned (.slice A n c) ∧ Below w.heap.size w w' := by
  have heq : ∀ W : World, (binOp .eql 190 (.slice (some ad) l0.length c0) (.slice none 0 0)).run Try.prog W = .ok (.bool false) W := fun W => Lib.run_eql_slice_nil W 190 9 (some ad) l0.length c0 0 0 Try.underlying190
  have HR := Aside0.mk hr0
  have HL := Aside0.mk hl
  clear hl hr0
  go_enter Try.func205, Try.ntmps205
  go_wp2_with (first | ((with_reducible refine gate_dst (N := 5) rfl ?_); refine Kd.R_lit Kd.string w.heap.size 9 ?hg (N := 5) ?hd (xs := ([] : List ByteArray)) (inner := []) (ok := fun _ => True) (okp := fun _ => True) ?hr ?hp (fun _ hk => hk) trivial (Below.refl _ _) (Nat.le_refl _) (by simp) ?_; (case hd => rfl); (case hg => rfl); (case hr => (go_simp; done)); (case hp => exact Reps.none _ _); intro v5 w5 ho hb hg_ hnew_; clear hg_ hnew_; have HO := Aside0.mk ho; have HB := Aside0.mk hb; clear ho hb; obtain ⟨Ao, co, eo⟩ := Kd.R_slice HO.out; subst eo) | ((with_reducible refine gate_builtin (b := .append) (xs := #[.tmp 5, .tmp 6]) rfl ?_); at_builtin; refine Kd.R_append_rows (Rr := Kd.string.K w) Kd.string (w0 := w) w.heap.size rfl (.tmp 5) (.tmp 6) 190 9 (.string ⟨#[]⟩) 16 rfl Try.underlying190 info9s rfl (by decide) (by omega) (.slice Ao ([] : List ByteArray).length co) ([] : List ByteArray) l0 _ _ _ (fun _ => True) (fun _ => False) rfl rfl HO.out ?aR (fun _ _ h => h) (fun _ h => h.elim) (fun _ _ => trivial) HB.out HB.out.size ?aL ?_; (case aR => exact Kd.C_below HR.out HB.out); (case aL => have := HL.out; simp; omega); intro v7 w7 ho hb hg_ hat_; have HO7 := Aside0.mk ho; have HB7 := Aside0.mk hb; clear ho hb hg_ hat_))
  obtain ⟨A7, c7, e7⟩ := Kd.R_slice HO7.out
  subst e7
  go_ret
  exact ⟨_, _, _, rfl, HB7.out⟩
set_option maxHeartbeats 2000000 in
set_option maxRecDepth 100000 in
theorem in195 (tv : TypeId) (v : Value) (ad : Addr) (c0 : Nat) (x : ByteArray) (w : World) (hr0 : Kd.C Kd.string w (some ad) 1 [x]) (hc0 : 1 ≤ c0) :
    Calls Try.prog 195 #[.iface tv v, .slice (some ad) 1 c0] w fun e w' => (∃ t u, e = .returned (.iface t u)) ∧ Below w.heap.size w w' := by
  have HCl := Aside0.mk (clone205 ad c0 [x] (by simp) w hr0 hc0)
  clear hr0
  go_enter Try.func195, Try.ntmps195
  go_wp2_with fail
  refine HCl.out.mono ?_
  rintro e w' ⟨A, n, c, rfl, hb⟩
  have HB := Aside0.mk hb
  clear hb
  go_wp2
  go_ret
  exact ⟨⟨_, _, rfl⟩, below_alloc HB.out _⟩
end Go.Proofs.Ytfdmfgaiblfbhaa.P
/- A tree's cells gone through, as long as a test says yes: plain words. -/
namespace Go.Proofs.Ytfdmfgaiblfbhaa.P
open Go.RowKit Go.Proofs.YtfdmfgaiblfbhaaW.PrintWords Go.Proofs.YtfdmfgaiblfbhaaW.PrintLast Go.Proofs.YtfdmfgaiblfbhaaW.PrintMore
section
variable {σ : Type} (step : σ → S26 → Bool × σ)
mutual
def allS : S26 → σ → Bool × σ
  | ⟨a, b, d, l⟩, s => if (step s ⟨a, b, d, l⟩).1 = true then noneS l (step s ⟨a, b, d, l⟩).2 else (false, (step s ⟨a, b, d, l⟩).2)
def noneS : List S26 → σ → Bool × σ
  | [], s => (true, s)
  | k :: ks, s => if (allS k s).1 = true then noneS ks (allS k s).2 else (false, (allS k s).2)
end
theorem allS_eq (c : S26) (s : σ) : allS step c s = if (step s c).1 = true then noneS step c.f3 (step s c).2 else (false, (step s c).2) := by cases c; simp [allS]
theorem noneS_nil (s : σ) : noneS step [] s = (true, s) := by simp [noneS]
theorem noneS_cons (k : S26) (ks : List S26) (s : σ) : noneS step (k :: ks) s = if (allS step k s).1 = true then noneS step ks (allS step k s).2 else (false, (allS step k s).2) := by simp [noneS]
theorem scan_none : ∀ (l : List S26) (s : σ), scanB (fun s k => (!(allS step k s).1, (allS step k s).2)) s l = (!(noneS step l s).1, (noneS step l s).2) := by
  intro l
  induction l with
  | nil => intro s; rw [noneS_nil]; rfl
  | cons k ks ih =>
    intro s
    rw [noneS_cons]
    simp only [scanB]
    cases h : (allS step k s).1 with
    | true => simp [ih]
    | false => simp
/-- One cell after the other. -/
def seqS : List S26 → σ → Bool × σ
  | [], s => (true, s)
  | k :: ks, s => if (step s k).1 = true then seqS ks (step s k).2 else (false, (step s k).2)
theorem seqS_app : ∀ (a b : List S26) (s : σ), seqS step (a ++ b) s = if (seqS step a s).1 = true then seqS step b (seqS step a s).2 else (false, (seqS step a s).2) := by
  intro a
  induction a with
  | nil => intro b s; simp [seqS]
  | cons k ks ih =>
    intro b s
    simp only [List.cons_append, seqS]
    by_cases h : (step s k).1 = true
    · simp [h, ih]
    · simp [h]
theorem allS_seq : ∀ (N : Nat), (∀ c : S26, sz c ≤ N → ∀ s, allS step c s = seqS step (allC c) s) ∧ (∀ l : List S26, szL l ≤ N → ∀ s, noneS step l s = seqS step (allL l) s) := by
  intro N
  induction N with
  | zero =>
    refine ⟨fun c h => ?_, fun l h => ?_⟩
    · rw [sz_eq] at h; omega
    · cases l with
      | nil => intro s; rw [noneS_nil, allL_nil]; rfl
      | cons x xs => rw [szL_cons, sz_eq] at h; omega
  | succ N ih =>
    have hC : ∀ c : S26, sz c ≤ N + 1 → ∀ s, allS step c s = seqS step (allC c) s := by
      intro c h s
      rw [sz_eq] at h
      rw [allS_eq, allC_eq]
      simp only [seqS]
      rw [ih.2 c.f3 (by omega)]
    refine ⟨hC, fun l => ?_⟩
    induction l with
    | nil => intro _ s; rw [noneS_nil, allL_nil]; rfl
    | cons x xs ihl =>
      intro h s
      rw [szL_cons] at h
      rw [noneS_cons, allL_cons, seqS_app, hC x (by omega), ihl (by omega)]
end
end Go.Proofs.Ytfdmfgaiblfbhaa.P
/- May a tree be: plain words. -/
namespace Go.Proofs.Ytfdmfgaiblfbhaa.P
open Go.RowKit Go.Proofs.YtfdmfgaiblfbhaaW.PrintWords Go.Proofs.YtfdmfgaiblfbhaaW.PrintLast Go.Proofs.YtfdmfgaiblfbhaaW.PrintMore

/-- May one cell be, by itself? -/
def okC (c : S26) : Bool := mayR c.f1 && decide (1 ≤ c.f0 ∧ c.f0 ≤ 3) && decide (c.f0 = 1 → c.f3.length = 0 ∧ 0 ≤ c.f2 ∧ c.f2 ≤ 2147483647) && decide (c.f0 > 1 → 2 ≤ c.f3.length ∧ c.f2 = 0)
/-- No number twice? -/
def distinctC : List S26 → Bool
  | [] => true
  | x :: xs => (xs.all fun y => decide (y.f2 ≠ x.f2)) && distinctC xs
def apartTo (pre : List S26) (x : S26) : Bool := pre.all fun y => decide (x.f2 ≠ y.f2)
theorem distinctC_app (pre : List S26) (x : S26) : distinctC (pre ++ [x]) = (distinctC pre && apartTo pre x) := by
  induction pre with
  | nil => simp [distinctC, apartTo]
  | cons y ys ih =>
    have : (decide (x.f2 ≠ y.f2)) = decide (¬ x.f2 = y.f2) := rfl
    simp only [List.cons_append, distinctC, ih, apartTo, List.all_append, List.all_cons, List.all_nil, Bool.and_true]
    cases (ys.all fun z => decide (z.f2 ≠ y.f2)) <;> cases (decide (x.f2 ≠ y.f2)) <;> cases distinctC ys <;> cases (ys.all fun z => decide (x.f2 ≠ z.f2)) <;> rfl
theorem distinctC_pre : ∀ (pre rest : List S26), distinctC pre = false → distinctC (pre ++ rest) = false := by
  intro pre rest h
  induction rest generalizing pre with
  | nil => rw [List.append_nil]; exact h
  | cons x xs ih =>
    have := ih (pre ++ [x]) (by rw [distinctC_app, h, Bool.false_and])
    rwa [List.append_assoc] at this
def mayC (c : S26) : Bool := decide (sz c ≤ 20000) && ((allC c).all okC && distinctC (leavesC c))
end Go.Proofs.Ytfdmfgaiblfbhaa.P
/- slices.IndexFunc, slices.ContainsFunc at S26: what they answer, with any function value that keeps an invariant of the world. -/
namespace Go.Proofs.Ytfdmfgaiblfbhaa.P
open Go.RowKit Go.Proofs.YtfdmfgaiblfbhaaW.PrintWords Go.Proofs.YtfdmfgaiblfbhaaW.PrintLast Go.Proofs.YtfdmfgaiblfbhaaW.PrintMore

set_option maxHeartbeats 2000000 in
set_option maxRecDepth 100000 in
theorem idx192 {σ : Type} (Inv : σ → World → Prop) (step : σ → S26 → Bool × σ) (g : Nat) (lb : Array Value) (eg : ∀ args w, (callFunc g args).run Try.prog w = .ok (.enter g args) w) (l : List S26) (A : Option Addr) (c : Nat)
    (w0 : World) (hR : Kd.C k26 w0 A l.length l) (hW : ∀ s W, Inv s W → Below w0.heap.size w0 W) (hD : ∀ s W n, Inv s W → Inv s (W.drewN n))
    (hcall : ∀ s W (x : S26) (B : Option Addr) (cb : Nat), x ∈ l → Inv s W → Kd.C k26 w0 B x.f3.length x.f3 → x.f3.length ≤ cb → Calls Try.prog g (#[.agg #[.int .u8 x.f0, .int .i64 x.f1.f0, .int .i64 x.f1.f1, .int .i64 x.f1.f2, .int .i64 x.f1.f3, .int .i64 x.f2, .slice B x.f3.length cb]] ++ lb) W fun e w' => e = .returned (.bool (step s x).1) ∧ Inv (step s x).2 w')
    (s : σ) (w : World) (hI : Inv s w) (hl : l.length ≤ 9223372036854775807) :
    Calls Try.prog 192 #[.slice A l.length c, .func (.func g) #[] lb] w fun e w' => e = .returned (.int .i64 (scanI step 0 s l).1) ∧ Inv (scanI step 0 s l).2 w' := by
  have HR := Aside0.mk hR
  have HW := Aside0.mk hW
  have HI := Aside0.mk hI
  have HCall := Aside0.mk hcall
  clear hR hW hcall hD hI
  go_enter Try.func192, Try.ntmps192
  go_wp2
  go_loopg [5, 8] l.length (fun gg _ v8 wr => ∃ (kk : Nat) (t : σ), kk ≤ l.length ∧ l.length - kk ≤ gg ∧ v8 = .int .i64 kk ∧ Aside0 (Inv t wr) ∧ Aside0 (scanI step 0 s l = scanI step kk t (l.drop kk)))
  case atStart => exact ⟨0, s, Nat.zero_le _, by omega, rfl, HI, ⟨by simp⟩⟩
  case round =>
    clear HI
    obtain ⟨kk, t, hkk, hg, rfl, HI, HS⟩ := hrel
    by_cases hlt : kk < l.length
    · have hltz : (kk : Int) < (l.length : Int) := by omega
      obtain ⟨ad, B, cb, rfl, hc0, hc1, hc2, hc3, hc4, hc5, hc6, hlb, hgb⟩ := at_T26 HR.out (kk : Int) (by omega) (by omega)
      have hbw := HW.out t wr HI.out
      replace hc0 := (hbw.cell (World.block_lt_of_cell? w0 _ hc0)).trans hc0
      replace hc1 := (hbw.cell (World.block_lt_of_cell? w0 _ hc1)).trans hc1
      replace hc2 := (hbw.cell (World.block_lt_of_cell? w0 _ hc2)).trans hc2
      replace hc3 := (hbw.cell (World.block_lt_of_cell? w0 _ hc3)).trans hc3
      replace hc4 := (hbw.cell (World.block_lt_of_cell? w0 _ hc4)).trans hc4
      replace hc5 := (hbw.cell (World.block_lt_of_cell? w0 _ hc5)).trans hc5
      replace hc6 := (hbw.cell (World.block_lt_of_cell? w0 _ hc6)).trans hc6
      clear hbw
      have HX : Aside0 (scanI step kk t (l.drop kk) = if (step t (rd_T26 l (kk : Int))).1 = true then ((kk : Int), (step t (rd_T26 l (kk : Int))).2) else scanI step ((kk + 1 : Nat) : Int) (step t (rd_T26 l (kk : Int))).2 (l.drop (kk + 1))) := ⟨scan_at step z26 l kk hlt t⟩
      have hmem : (rd_T26 l (kk : Int)) ∈ l := scan_mem z26 l kk hlt
      have hcall := HCall.out t wr _ B cb hmem HI.out hgb hlb
      clear hmem hgb hlb
      simp only [Int.toNat_natCast] at hc0 hc1 hc2 hc3 hc4 hc5 hc6
      generalize rd_T26 l (kk : Int) = x at hc0 hc1 hc2 hc3 hc4 hc5 hc6 HX hcall
      have HC := Aside0.mk hcall
      clear hcall
      cases hq : (step t x).1 with
      | true =>
        have h := HC.out
        rw [hq] at h
        have HH := Aside0.mk h
        have HQ := Aside0.mk hq
        clear hq HC h
        go_wp2_with fail
        refine HH.out.mono ?_
        rintro e w' ⟨rfl, hb'⟩
        have HB := Aside0.mk hb'
        clear hb'
        go_wp2
        go_ret
        rw [HS.out, HX.out, if_pos HQ.out]
        exact ⟨rfl, HB.out⟩
      | false =>
        have h := HC.out
        rw [hq] at h
        have HH := Aside0.mk h
        have HQ := Aside0.mk hq
        clear hq HC h
        go_wp2_with fail
        refine HH.out.mono ?_
        rintro e w' ⟨rfl, hb'⟩
        have HB := Aside0.mk hb'
        clear hb'
        go_wp2
        go_roundg (l.length - (kk + 1))
        case measure => omega
        case rel =>
          refine ⟨kk + 1, (step t x).2, by omega, by omega, by go_num, HB, ⟨?_⟩⟩
          rw [HS.out, HX.out, if_neg (by rw [HQ.out]; simp)]
    · have hltz : ¬ (kk : Int) < (l.length : Int) := by omega
      go_wp2
      go_ret
      rw [HS.out, List.drop_eq_nil_of_le (by omega)]
      exact ⟨rfl, HI.out⟩

set_option maxHeartbeats 1000000 in
theorem con174 {σ : Type} (Inv : σ → World → Prop) (step : σ → S26 → Bool × σ) (g : Nat) (lb : Array Value) (eg : ∀ args w, (callFunc g args).run Try.prog w = .ok (.enter g args) w) (l : List S26) (A : Option Addr) (c : Nat)
    (w0 : World) (hR : Kd.C k26 w0 A l.length l) (hW : ∀ s W, Inv s W → Below w0.heap.size w0 W) (hD : ∀ s W n, Inv s W → Inv s (W.drewN n))
    (hcall : ∀ s W (x : S26) (B : Option Addr) (cb : Nat), x ∈ l → Inv s W → Kd.C k26 w0 B x.f3.length x.f3 → x.f3.length ≤ cb → Calls Try.prog g (#[.agg #[.int .u8 x.f0, .int .i64 x.f1.f0, .int .i64 x.f1.f1, .int .i64 x.f1.f2, .int .i64 x.f1.f3, .int .i64 x.f2, .slice B x.f3.length cb]] ++ lb) W fun e w' => e = .returned (.bool (step s x).1) ∧ Inv (step s x).2 w')
    (s : σ) (w : World) (hI : Inv s w) (hl : l.length ≤ 9223372036854775807) :
    Calls Try.prog 174 #[.slice A l.length c, .func (.func g) #[] lb] w fun e w' => e = .returned (.bool (scanB step s l).1) ∧ Inv (scanB step s l).2 w' := by
  have hi := idx192 Inv step g lb eg l A c w0 hR hW hD hcall s w hI hl
  rw [scanB_eq]
  clear hR hW hD hcall hI
  generalize scanI step 0 s l = r at hi
  have HI := Aside0.mk hi
  clear hi
  go_enter Try.func174, Try.ntmps174
  go_wp2_with fail
  refine HI.out.mono ?_
  rintro e w' ⟨rfl, hb'⟩
  have HB := Aside0.mk hb'
  clear hb'
  go_wp2
  go_ret
  exact ⟨rfl, HB.out⟩
end Go.Proofs.Ytfdmfgaiblfbhaa.P
