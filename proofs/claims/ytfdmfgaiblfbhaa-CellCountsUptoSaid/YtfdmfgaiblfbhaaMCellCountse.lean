/- The row of the law CellCounts, second form (what it reads is of bulk at most 1048576), out of its plain law and its walk. -/
import Derived.Test.YtfdmfgaiblfbhaaMCellCountsc
import Derived.Test.YtfdmfgaiblfbhaaMCellCountsd
import Derived.ProofKit
import Derived.Deep.Slices
import Derived.Lib.SmallJoins
import Derived.OpenShut
import Derived.Test.YtfdmfgaiblfbhaaRows
import Derived.WalkKit
import Derived.ShutString
import Derived.ChangeOld
import Derived.Below
import Derived.SizedLaws
import Derived.JoinedCond
namespace Go.Proofs.Ytfdmfgaiblfbhaa.P
open Go.RowKit Go.Proofs.YtfdmfgaiblfbhaaW.PrintWords Go.Proofs.YtfdmfgaiblfbhaaW.PrintLast Go.Proofs.YtfdmfgaiblfbhaaW.PrintMore
attribute [local go_sem] max2_int min2_int max_two min_two max_three min_three max_four min_four   -- for this text's walks alone
set_option linter.unusedVariables false
set_option linter.unusedSimpArgs false

/-! ### sashlaw05_CellCounts: function 18 -/
def sashlaw05_CellCounts.l0 : Nat → List (S26) → Int → List Int → Int → Option (Bool)
  | 0, _, _, _, _ => none
  | k + 1, x0, x3, x4, x5 => if x5 < (x0.length : Int) then (if 0 ≤ x5 then ((sashref05_All.f k ((rd_T26 x0 x5).f0) ((rd_T26 x0 x5).f1.f0) ((rd_T26 x0 x5).f1.f1) ((rd_T26 x0 x5).f1.f2) ((rd_T26 x0 x5).f1.f3) ((rd_T26 x0 x5).f2) ((rd_T26 x0 x5).f3)).bind fun t876 => ((sashref05_IDs.f k ((rd_T26 x0 x5).f0) ((rd_T26 x0 x5).f1.f0) ((rd_T26 x0 x5).f1.f1) ((rd_T26 x0 x5).f1.f2) ((rd_T26 x0 x5).f1.f3) ((rd_T26 x0 x5).f2) ((rd_T26 x0 x5).f3)).bind fun t880 => (if x4.length + t880.length < 17592186044416 then ((cell_Depth.f k ((rd_T26 x0 x5).f0) ((rd_T26 x0 x5).f1.f0) ((rd_T26 x0 x5).f1.f1) ((rd_T26 x0 x5).f1.f2) ((rd_T26 x0 x5).f1.f3) ((rd_T26 x0 x5).f2) ((rd_T26 x0 x5).f3)).bind fun t887 => ((sashref05_Depth.f k ((rd_T26 x0 x5).f0) ((rd_T26 x0 x5).f1.f0) ((rd_T26 x0 x5).f1.f1) ((rd_T26 x0 x5).f1.f2) ((rd_T26 x0 x5).f1.f3) ((rd_T26 x0 x5).f2) ((rd_T26 x0 x5).f3)).bind fun t889 => (if t887 = t889 then (sashlaw05_CellCounts.l0 k x0 (wrap64 (x3 + (t876.length : Int))) (x4 ++ t880) (wrap64 (x5 + 1))) else (some false)))) else (none)))) else (none)) else ((cell_Size.f k x0).bind fun t890 => (if t890 = x3 then ((cell_Leaves.f k x0).bind fun t891 => ((sashref05_Ints.f k t891 x4).bind fun t894 => (if t894 = true then ((sashlaw05_awake.f).bind fun t895 => (some t895)) else (some false)))) else (some false)))
def sashlaw05_CellCounts.f (k : Nat) (l0 : List (S26)) : Option (Bool) := (sashref05_GreatAll.f k l0).bind fun t870 => (if t870 = true then ((sashlaw05_awake.f).bind fun t871 => (some t871)) else (sashlaw05_CellCounts.l0 k l0 0 (([] : List Int)) 0))
theorem sashlaw05_CellCounts.mono_l : ∀ k, (∀ y0 y1 y2 y3, LeO (sashlaw05_CellCounts.l0 k y0 y1 y2 y3) (sashlaw05_CellCounts.l0 (k + 1) y0 y1 y2 y3))
  | 0 => fun _ _ _ _ r h => by simp [sashlaw05_CellCounts.l0] at h
  | k + 1 => by
    have ih0 := sashlaw05_CellCounts.mono_l k
    · intro y0 y1 y2 y3
      unfold sashlaw05_CellCounts.l0
      repeat' first
      | (with_reducible exact ih0 _ _ _ _)
      | (with_reducible exact cell_Depth.mono _ _ _ _ _ _ _ _)
      | (with_reducible exact cell_Leaves.mono _ _)
      | (with_reducible exact cell_Size.mono _ _)
      | (with_reducible exact sashref05_All.mono _ _ _ _ _ _ _ _)
      | (with_reducible exact sashref05_Depth.mono _ _ _ _ _ _ _ _)
      | (with_reducible exact sashref05_GreatAll.mono _ _)
      | (with_reducible exact sashref05_IDs.mono _ _ _ _ _ _ _ _)
      | (with_reducible exact sashref05_Ints.mono _ _ _)
      | (with_reducible exact LeO.refl _)
      | (with_reducible exact LeO.none _)
      | (with_reducible refine LeO.ite ?_ ?_)
      | (with_reducible refine LeO.bind ?_ (fun _ => ?_))
      | exact ih0 _ _ _ _
      | exact cell_Depth.mono _ _ _ _ _ _ _ _
      | exact cell_Leaves.mono _ _
      | exact cell_Size.mono _ _
      | exact sashref05_All.mono _ _ _ _ _ _ _ _
      | exact sashref05_Depth.mono _ _ _ _ _ _ _ _
      | exact sashref05_GreatAll.mono _ _
      | exact sashref05_IDs.mono _ _ _ _ _ _ _ _
      | exact sashref05_Ints.mono _ _ _
      | exact LeO.none _
      | refine LeO.ite ?_ ?_
      | refine LeO.bind ?_ (fun _ => ?_)
theorem sashlaw05_CellCounts.mono : ∀ a0 k, LeO (sashlaw05_CellCounts.f k a0) (sashlaw05_CellCounts.f (k + 1) a0) := by
  intro a0 k
  have ih0 := sashlaw05_CellCounts.mono_l k
  unfold sashlaw05_CellCounts.f
  repeat' first
      | (with_reducible exact ih0 _ _ _ _)
      | (with_reducible exact cell_Depth.mono _ _ _ _ _ _ _ _)
      | (with_reducible exact cell_Leaves.mono _ _)
      | (with_reducible exact cell_Size.mono _ _)
      | (with_reducible exact sashref05_All.mono _ _ _ _ _ _ _ _)
      | (with_reducible exact sashref05_Depth.mono _ _ _ _ _ _ _ _)
      | (with_reducible exact sashref05_GreatAll.mono _ _)
      | (with_reducible exact sashref05_IDs.mono _ _ _ _ _ _ _ _)
      | (with_reducible exact sashref05_Ints.mono _ _ _)
      | (with_reducible exact LeO.refl _)
      | (with_reducible exact LeO.none _)
      | (with_reducible refine LeO.ite ?_ ?_)
      | (with_reducible refine LeO.bind ?_ (fun _ => ?_))
      | exact ih0 _ _ _ _
      | exact cell_Depth.mono _ _ _ _ _ _ _ _
      | exact cell_Leaves.mono _ _
      | exact cell_Size.mono _ _
      | exact sashref05_All.mono _ _ _ _ _ _ _ _
      | exact sashref05_Depth.mono _ _ _ _ _ _ _ _
      | exact sashref05_GreatAll.mono _ _
      | exact sashref05_IDs.mono _ _ _ _ _ _ _ _
      | exact sashref05_Ints.mono _ _ _
      | exact LeO.none _
      | refine LeO.ite ?_ ?_
      | refine LeO.bind ?_ (fun _ => ?_)
def sashlaw05_CellCounts.T10 : Bool × List (List Nat × List Nat) := (true, [([], []), ([], []), ([0, 1], [0, 1]), ([2], [2]), ([3], [3]), ([], []), ([], []), ([5, 6], [5, 6]), ([7], [7]), ([8, 4], [8]), ([4, 9], [4, 9])])
def sashlaw05_CellCounts.B10 : List Nat := [0, 0, 3, 7, 15, 0, 0, 96, 224, 511, 1023]
theorem sashlaw05_CellCounts.tab10 : rtab .any (opsOf Try.f18 10) = sashlaw05_CellCounts.T10 := by kernel_rfl
theorem sashlaw05_CellCounts.bits10 : waitsOk sashlaw05_CellCounts.T10.2 sashlaw05_CellCounts.B10 = true := by kernel_rfl
set_option maxHeartbeats 8000000 in
set_option maxRecDepth 100000 in
theorem sashlaw05_CellCounts.calls (k : Nat) (A0 : Option Addr) (c0 : Nat) (l0 : List (S26)) (r : Bool) (w : World) (hr0 : Kd.C k26 w A0 l0.length l0) (hc0 : l0.length ≤ c0) (h : sashlaw05_CellCounts.f k l0 = some r) :
    Calls Try.prog 18 #[.slice A0 l0.length c0] w fun e w' => e = .returned (.bool r) ∧ Below w.heap.size w w' := by
  have hu26 := Try.underlying26
  have HR0 := Aside0.mk hr0
  have HC0 := Aside0.mk hc0
  clear hr0 hc0
  have HB := Aside0.mk (Below.refl w.heap.size w)
  have H : ((sashref05_GreatAll.f k l0).bind fun t870 => (if t870 = true then ((sashlaw05_awake.f).bind fun t871 => (some t871)) else (sashlaw05_CellCounts.l0 k l0 0 (([] : List Int)) 0))) = some r := h
  clear h
  replace H := Option.bind_eq_some_iff.mp H
  obtain ⟨t870, A20, H⟩ := H
  replace H : (if t870 = true then ((sashlaw05_awake.f).bind fun t871 => (some t871)) else (sashlaw05_CellCounts.l0 k l0 0 (([] : List Int)) 0)) = some r := H
  have A2 := Aside0.mk A20
  clear A20
  by_cases c3 : t870 = true
  · subst c3
    have H1 : ((sashlaw05_awake.f).bind fun t871 => (some t871)) = some r := by rw [if_pos rfl] at H; exact H
    clear H
    have H := H1
    clear H1
    replace H := Option.bind_eq_some_iff.mp H
    obtain ⟨t871, A40, H⟩ := H
    replace H : (some t871) = some r := H
    have A4 := Aside0.mk A40
    clear A40
    obtain rfl := Option.some.inj H
    go_enter Try.func18, Try.ntmps18
    go_wp2_with (first | ((with_reducible refine gate_callee (f := 74) rfl ?_); refine goesL_ (some 7) rfl rfl Try.func74 (by kernel_rfl) rfl #[.slice A0 l0.length c0] rfl (by (try simp only [List.map_toArray, List.map_cons, List.map_nil]); first | done | rfl | (simp only [List.length_drop, List.length_take]; rfl)) ?_; (with_reducible refine (sashref05_GreatAll.calls k _ _ l0 true _ ?side1 ?side2 A2.out).mono ?_); (case side1 => repeat (first | exact HR0.out | (with_reducible refine Kd.C_alloc ?_ _) | (with_reducible refine Kd.C_drewN ?_ _) | (with_reducible refine Kd.C_drew ?_))); (case side2 => exact HC0.out); rintro e w5 ⟨rfl, hb⟩; refine ⟨_, rfl, ?_⟩; have n0_ := Aside0.mk (below_step (by repeat (first | (with_reducible first | exact HB.out | apply below_alloc | apply pw_below_drewN | apply below_drew1) | exact HB.out)) hb); clear HB; have HB := n0_; clear n0_; (try clear hb); (try clear hb2); (try clear hk); (try clear hi)) | ((with_reducible refine gate_callee (f := 75) rfl ?_); refine goesL_ (some 8) rfl rfl Try.func75 (by kernel_rfl) rfl #[] rfl (by (try simp only [List.map_toArray, List.map_cons, List.map_nil]); first | done | rfl | (simp only [List.length_drop, List.length_take]; rfl)) ?_; (with_reducible refine (sashlaw05_awake.calls  t871 _ A4.out).mono ?_); rintro e w6 ⟨rfl, hb⟩; refine ⟨_, rfl, ?_⟩; have n0_ := Aside0.mk (below_step (by repeat (first | (with_reducible first | exact HB.out | apply below_alloc | apply pw_below_drewN | apply below_drew1) | exact HB.out)) hb); clear HB; have HB := n0_; clear n0_; (try clear hb); (try clear hb2); (try clear hk); (try clear hi)))
    go_ret
    exact ⟨by first | rfl | (simp [errW_none, errW_some] <;> rfl) | (simp [*, errW_none, errW_some] <;> rfl), by repeat (first | (with_reducible first | exact HB.out | apply below_alloc | apply pw_below_drewN | apply below_drew1) | exact HB.out)⟩
  · replace c3 := Bool.eq_false_iff.mpr c3
    subst c3
    have H1 : (sashlaw05_CellCounts.l0 k l0 0 (([] : List Int)) 0) = some r := by rw [if_neg (show ¬ (false = true) by decide)] at H; exact H
    clear H
    have H := H1
    clear H1
    obtain ⟨y872, hy872⟩ : ∃ y_ : List Int, y_ = (([] : List Int)) := ⟨_, rfl⟩
    replace H : (sashlaw05_CellCounts.l0 k l0 0 y872 0) = some r := by first | (rw [hy872]; with_reducible exact H) | (have H2_ := (Option.bind_some _ _).symm.trans H; rw [hy872]; with_reducible exact H2_) | (have H2_ := (Option.bind_some _ _).symm.trans H; with_reducible exact H2_) | with_reducible exact H | (rw [hy872]; exact H) | exact H
    have Ny872 := Aside0.mk hy872
    clear hy872
    have H' := Aside0.mk H
    clear H
    go_enter Try.func18, Try.ntmps18
    go_wp2_with (first | ((with_reducible refine gate_callee (f := 74) rfl ?_); refine goesL_ (some 7) rfl rfl Try.func74 (by kernel_rfl) rfl #[.slice A0 l0.length c0] rfl (by (try simp only [List.map_toArray, List.map_cons, List.map_nil]); first | done | rfl | (simp only [List.length_drop, List.length_take]; rfl)) ?_; (with_reducible refine (sashref05_GreatAll.calls k _ _ l0 false _ ?side1 ?side2 A2.out).mono ?_); (case side1 => repeat (first | exact HR0.out | (with_reducible refine Kd.C_alloc ?_ _) | (with_reducible refine Kd.C_drewN ?_ _) | (with_reducible refine Kd.C_drew ?_))); (case side2 => exact HC0.out); rintro e w7 ⟨rfl, hb⟩; refine ⟨_, rfl, ?_⟩; have n0_ := Aside0.mk (below_step (by repeat (first | (with_reducible first | exact HB.out | apply below_alloc | apply pw_below_drewN | apply below_drew1) | exact HB.out)) hb); clear HB; have HB := n0_; clear n0_; (try clear hb); (try clear hb2); (try clear hk); (try clear hi)) | ((with_reducible refine gate_dst (N := 9) rfl ?_); refine Kd.R_lit (Kd.int .i64) _ 3 ?hg (N := 9) ?hd (xs := ([] : List Int)) (inner := []) (ok := fun _ => True) (okp := fun _ => True) ?hr ?hp (fun _ hk => hk) trivial (Below.refl _ _) (Nat.le_refl _) (by simp) ?_; (case hd => rfl); (case hg => rfl); (case hr => first | (go_simp; done) | (go_simp; rfl)); (case hp => exact (Reps.none _ _)); intro v873 w8 ho9 hb hg_ hnew_; clear hg_ hnew_; (first | rw [← Ny872.out] at ho9 | (simp only [Int.reduceToNat] at ho9; rw [← Ny872.out] at ho9)); have n0_ := Aside0.mk (Kd.R_lower ho9 (below_size (by repeat (first | (with_reducible first | exact HB.out | apply below_alloc | apply pw_below_drewN | apply below_drew1) | exact HB.out)))); have n1_ := Aside0.mk (below_step (by repeat (first | (with_reducible first | exact HB.out | apply below_alloc | apply pw_below_drewN | apply below_drew1) | exact HB.out)) hb); clear HB; have HO874 := n0_; have HB := n1_; clear n0_ n1_; clear hb ho9))
    go_loopg [3, 4, 5] k (fun kq v3 v4 v5 w' => ∃ (x3_1 : Int) (x4_1 : List Int) (x5_1 : Int), v3 = .int .i64 x3_1 ∧ v5 = .int .i64 x5_1 ∧ Aside0 (sashlaw05_CellCounts.l0 kq l0 x3_1 x4_1 x5_1 = some r) ∧ Aside0 (kq ≤ k) ∧ Aside0 (Kd.R (Kd.int .i64) 3 w' w.heap.size (fun _ => True) v4 x4_1) ∧ Aside0 (Below w.heap.size w w'))
    case atStart => exact ⟨(0), (y872), (0), (by first | rfl | (simp; done) | (simp [*]; done)), (by first | rfl | (simp; done) | (simp [*]; done)), H', ⟨Nat.le_refl _⟩, ⟨by (with_reducible repeat (first | apply Kd.R_alloc | apply Kd.R_drewN | apply Kd.R_drew)); exact HO874.out⟩, ⟨by repeat (first | (with_reducible first | exact HB.out | apply below_alloc | apply pw_below_drewN | apply below_drew1) | exact HB.out)⟩⟩
    case round =>
      clear H'
      try clear c1
      try clear p2
      try clear c3
      try clear c7
      obtain ⟨x3_1, x4_1, x5_1, rfl, rfl, HA, HK1, HO_4, HB⟩ := hrel
      cases gk with
      | zero => exact absurd HA.out (by simp [sashlaw05_CellCounts.l0])
      | succ k1 =>
        have H := HA.out
        clear HA
        simp only [sashlaw05_CellCounts.l0] at H
        by_cases c10 : x5_1 < (l0.length : Int)
        · rw [if_pos c10] at H
          have c10b0 : decide (x5_1 < (l0.length : Int)) = true := decide_eq_true c10
          clear c10
          by_cases c11 : 0 ≤ x5_1
          · rw [if_pos c11] at H
            have c11b0 : decide (0 ≤ x5_1) = true := decide_eq_true c11
            clear c11
            replace H := Option.bind_eq_some_iff.mp H
            obtain ⟨t876, A120, H⟩ := H
            replace H : ((sashref05_IDs.f k1 ((rd_T26 l0 x5_1).f0) ((rd_T26 l0 x5_1).f1.f0) ((rd_T26 l0 x5_1).f1.f1) ((rd_T26 l0 x5_1).f1.f2) ((rd_T26 l0 x5_1).f1.f3) ((rd_T26 l0 x5_1).f2) ((rd_T26 l0 x5_1).f3)).bind fun t880 => (if x4_1.length + t880.length < 17592186044416 then ((cell_Depth.f k1 ((rd_T26 l0 x5_1).f0) ((rd_T26 l0 x5_1).f1.f0) ((rd_T26 l0 x5_1).f1.f1) ((rd_T26 l0 x5_1).f1.f2) ((rd_T26 l0 x5_1).f1.f3) ((rd_T26 l0 x5_1).f2) ((rd_T26 l0 x5_1).f3)).bind fun t887 => ((sashref05_Depth.f k1 ((rd_T26 l0 x5_1).f0) ((rd_T26 l0 x5_1).f1.f0) ((rd_T26 l0 x5_1).f1.f1) ((rd_T26 l0 x5_1).f1.f2) ((rd_T26 l0 x5_1).f1.f3) ((rd_T26 l0 x5_1).f2) ((rd_T26 l0 x5_1).f3)).bind fun t889 => (if t887 = t889 then (sashlaw05_CellCounts.l0 k1 l0 (wrap64 (x3_1 + (t876.length : Int))) (x4_1 ++ t880) (wrap64 (x5_1 + 1))) else (some false)))) else (none))) = some r := H
            have A12 := Aside0.mk A120
            clear A120
            replace H := Option.bind_eq_some_iff.mp H
            obtain ⟨t880, A130, H⟩ := H
            replace H : (if x4_1.length + t880.length < 17592186044416 then ((cell_Depth.f k1 ((rd_T26 l0 x5_1).f0) ((rd_T26 l0 x5_1).f1.f0) ((rd_T26 l0 x5_1).f1.f1) ((rd_T26 l0 x5_1).f1.f2) ((rd_T26 l0 x5_1).f1.f3) ((rd_T26 l0 x5_1).f2) ((rd_T26 l0 x5_1).f3)).bind fun t887 => ((sashref05_Depth.f k1 ((rd_T26 l0 x5_1).f0) ((rd_T26 l0 x5_1).f1.f0) ((rd_T26 l0 x5_1).f1.f1) ((rd_T26 l0 x5_1).f1.f2) ((rd_T26 l0 x5_1).f1.f3) ((rd_T26 l0 x5_1).f2) ((rd_T26 l0 x5_1).f3)).bind fun t889 => (if t887 = t889 then (sashlaw05_CellCounts.l0 k1 l0 (wrap64 (x3_1 + (t876.length : Int))) (x4_1 ++ t880) (wrap64 (x5_1 + 1))) else (some false)))) else (none)) = some r := H
            have A13 := Aside0.mk A130
            clear A130
            by_cases c14 : x4_1.length + t880.length < 17592186044416
            · rw [if_pos c14] at H
              have LMc14 := Aside0.mk c14
              clear c14
              obtain ⟨y883, hy883⟩ : ∃ y_ : List Int, y_ = (x4_1 ++ t880) := ⟨_, rfl⟩
              replace H : ((cell_Depth.f k1 ((rd_T26 l0 x5_1).f0) ((rd_T26 l0 x5_1).f1.f0) ((rd_T26 l0 x5_1).f1.f1) ((rd_T26 l0 x5_1).f1.f2) ((rd_T26 l0 x5_1).f1.f3) ((rd_T26 l0 x5_1).f2) ((rd_T26 l0 x5_1).f3)).bind fun t887 => ((sashref05_Depth.f k1 ((rd_T26 l0 x5_1).f0) ((rd_T26 l0 x5_1).f1.f0) ((rd_T26 l0 x5_1).f1.f1) ((rd_T26 l0 x5_1).f1.f2) ((rd_T26 l0 x5_1).f1.f3) ((rd_T26 l0 x5_1).f2) ((rd_T26 l0 x5_1).f3)).bind fun t889 => (if t887 = t889 then (sashlaw05_CellCounts.l0 k1 l0 (wrap64 (x3_1 + (t876.length : Int))) y883 (wrap64 (x5_1 + 1))) else (some false)))) = some r := by first | (rw [hy883]; with_reducible exact H) | (have H2_ := (Option.bind_some _ _).symm.trans H; rw [hy883]; with_reducible exact H2_) | (have H2_ := (Option.bind_some _ _).symm.trans H; with_reducible exact H2_) | with_reducible exact H | (rw [hy883]; exact H) | exact H
              have Ny883 := Aside0.mk hy883
              clear hy883
              replace H := Option.bind_eq_some_iff.mp H
              obtain ⟨t887, A150, H⟩ := H
              replace H : ((sashref05_Depth.f k1 ((rd_T26 l0 x5_1).f0) ((rd_T26 l0 x5_1).f1.f0) ((rd_T26 l0 x5_1).f1.f1) ((rd_T26 l0 x5_1).f1.f2) ((rd_T26 l0 x5_1).f1.f3) ((rd_T26 l0 x5_1).f2) ((rd_T26 l0 x5_1).f3)).bind fun t889 => (if t887 = t889 then (sashlaw05_CellCounts.l0 k1 l0 (wrap64 (x3_1 + (t876.length : Int))) y883 (wrap64 (x5_1 + 1))) else (some false))) = some r := H
              have A15 := Aside0.mk A150
              clear A150
              replace H := Option.bind_eq_some_iff.mp H
              obtain ⟨t889, A160, H⟩ := H
              replace H : (if t887 = t889 then (sashlaw05_CellCounts.l0 k1 l0 (wrap64 (x3_1 + (t876.length : Int))) y883 (wrap64 (x5_1 + 1))) else (some false)) = some r := H
              have A16 := Aside0.mk A160
              clear A160
              by_cases c17 : t887 = t889
              · rw [if_pos c17] at H
                have c17b0 : (t887 == t889) = true := beq_iff_eq.mpr c17
                have c17b1 : (t887 != t889) = false := bne_eq_false_iff_eq.mpr c17
                clear c17
                have H' := Aside0.mk H
                clear H
                have p875 : 0 ≤ (x5_1 : Int) := of_decide_eq_true (by first | (with_reducible assumption) | assumption)
                have q875 : x5_1 < (l0.length : Int) := of_decide_eq_true (by first | (with_reducible assumption) | assumption)
                obtain ⟨ad875, A875_6, c875_6, e875, hx875_0, hx875_1, hx875_2, hx875_3, hx875_4, hx875_5, hx875_6, hl875_6, hi875_6⟩ := at_T26 HR0.out x5_1 p875 q875
                cases e875
                replace hx875_0 := (HB.out.cell (World.block_lt_of_cell? w _ hx875_0)).trans hx875_0
                replace hx875_1 := (HB.out.cell (World.block_lt_of_cell? w _ hx875_1)).trans hx875_1
                replace hx875_2 := (HB.out.cell (World.block_lt_of_cell? w _ hx875_2)).trans hx875_2
                replace hx875_3 := (HB.out.cell (World.block_lt_of_cell? w _ hx875_3)).trans hx875_3
                replace hx875_4 := (HB.out.cell (World.block_lt_of_cell? w _ hx875_4)).trans hx875_4
                replace hx875_5 := (HB.out.cell (World.block_lt_of_cell? w _ hx875_5)).trans hx875_5
                replace hx875_6 := (HB.out.cell (World.block_lt_of_cell? w _ hx875_6)).trans hx875_6
                have HR875_6 := Aside0.mk hi875_6
                have HC875_6 := Aside0.mk hl875_6
                clear hi875_6 hl875_6
                replace p875 := eq_true p875
                replace q875 := eq_true q875
                try go_wp2_with (first | ((with_reducible refine gate_callee (f := 79) rfl ?_); refine goesL_ (some 21) rfl rfl Try.func79 (by kernel_rfl) rfl #[.agg #[.int .u8 ((rd_T26 l0 x5_1).f0), .int .i64 ((rd_T26 l0 x5_1).f1.f0), .int .i64 ((rd_T26 l0 x5_1).f1.f1), .int .i64 ((rd_T26 l0 x5_1).f1.f2), .int .i64 ((rd_T26 l0 x5_1).f1.f3), .int .i64 ((rd_T26 l0 x5_1).f2), .slice A875_6 ((rd_T26 l0 x5_1).f3).length c875_6]] rfl (by (try simp only [List.map_toArray, List.map_cons, List.map_nil]); first | done | rfl | (simp only [List.length_drop, List.length_take]; rfl)) ?_; (with_reducible refine (sashref05_All.calls k1 ((rd_T26 l0 x5_1).f0) ((rd_T26 l0 x5_1).f1.f0) ((rd_T26 l0 x5_1).f1.f1) ((rd_T26 l0 x5_1).f1.f2) ((rd_T26 l0 x5_1).f1.f3) ((rd_T26 l0 x5_1).f2) (fun k_ => k_ < w.heap.size) _ _ ((rd_T26 l0 x5_1).f3) t876 _ ?side1 A12.out).mono ?_); (case side1 => exact Kd.V_mk HC875_6.out (Kd.F_below (Kd.C_F k26_heap HR875_6.out) (by repeat (first | (with_reducible first | exact HB.out | apply below_alloc | apply pw_below_drewN | apply below_drew1) | exact HB.out)))); rintro e w18 ⟨v877, rfl, ho0, hb⟩; refine ⟨_, rfl, ?_⟩; have n0_ := Aside0.mk (Kd.R_below (by (with_reducible repeat (first | apply Kd.R_alloc | apply Kd.R_drewN | apply Kd.R_drew)); exact HO_4.out) hb); have n1_ := Aside0.mk (Kd.N_lower (Kd.N_mono (ok' := fun k_ => some k_ ≠ (u4 : Value).ownBlock) ho0 (fun k_ hk_ => Or.elim hk_ (fun hs_ => fun e_ => Nat.not_le.2 hs_ (Kd.R_base HO_4.out k_ e_.symm)) (fun hn_ => (Kd.fresh' (Kd.R_lt (by (with_reducible repeat (first | apply Kd.R_alloc | apply Kd.R_drewN | apply Kd.R_drew)); exact HO_4.out)) k_ hn_)))) (below_size (by repeat (first | (with_reducible first | exact HB.out | apply below_alloc | apply pw_below_drewN | apply below_drew1) | exact HB.out)))); have n2_ := Aside0.mk (below_step (by repeat (first | (with_reducible first | exact HB.out | apply below_alloc | apply pw_below_drewN | apply below_drew1) | exact HB.out)) hb); clear HO_4; clear HB; have HO_4 := n0_; have HO878 := n1_; have HB := n2_; clear n0_ n1_ n2_; (try clear hb); (try clear hb2); (try clear hk); (try clear hi); (try clear ho0); obtain ⟨Ao19, co19, eo19⟩ := Kd.N_slice HO878.out; subst eo19; have p879 : 0 ≤ (x5_1 : Int) := of_decide_eq_true (by first | (with_reducible assumption) | assumption); have q879 : x5_1 < (l0.length : Int) := of_decide_eq_true (by first | (with_reducible assumption) | assumption); obtain ⟨ad879, A879_6, c879_6, e879, hx879_0, hx879_1, hx879_2, hx879_3, hx879_4, hx879_5, hx879_6, hl879_6, hi879_6⟩ := at_T26 HR0.out x5_1 p879 q879; obtain rfl : ad875 = ad879 := (by injection e879); replace hx879_0 := (HB.out.cell (World.block_lt_of_cell? w _ hx879_0)).trans hx879_0; replace hx879_1 := (HB.out.cell (World.block_lt_of_cell? w _ hx879_1)).trans hx879_1; replace hx879_2 := (HB.out.cell (World.block_lt_of_cell? w _ hx879_2)).trans hx879_2; replace hx879_3 := (HB.out.cell (World.block_lt_of_cell? w _ hx879_3)).trans hx879_3; replace hx879_4 := (HB.out.cell (World.block_lt_of_cell? w _ hx879_4)).trans hx879_4; replace hx879_5 := (HB.out.cell (World.block_lt_of_cell? w _ hx879_5)).trans hx879_5; replace hx879_6 := (HB.out.cell (World.block_lt_of_cell? w _ hx879_6)).trans hx879_6; have HR879_6 := Aside0.mk hi879_6; have HC879_6 := Aside0.mk hl879_6; clear hi879_6 hl879_6; replace p879 := eq_true p879; replace q879 := eq_true q879) | ((with_reducible refine gate_callee (f := 63) rfl ?_); refine goesL_ (some 29) rfl rfl Try.func63 (by kernel_rfl) rfl #[.agg #[.int .u8 ((rd_T26 l0 x5_1).f0), .int .i64 ((rd_T26 l0 x5_1).f1.f0), .int .i64 ((rd_T26 l0 x5_1).f1.f1), .int .i64 ((rd_T26 l0 x5_1).f1.f2), .int .i64 ((rd_T26 l0 x5_1).f1.f3), .int .i64 ((rd_T26 l0 x5_1).f2), .slice A879_6 ((rd_T26 l0 x5_1).f3).length c879_6]] rfl (by (try simp only [List.map_toArray, List.map_cons, List.map_nil]); first | done | rfl | (simp only [List.length_drop, List.length_take]; rfl)) ?_; (with_reducible refine (sashref05_IDs.calls k1 ((rd_T26 l0 x5_1).f0) ((rd_T26 l0 x5_1).f1.f0) ((rd_T26 l0 x5_1).f1.f1) ((rd_T26 l0 x5_1).f1.f2) ((rd_T26 l0 x5_1).f1.f3) ((rd_T26 l0 x5_1).f2) _ _ ((rd_T26 l0 x5_1).f3) t880 _ ?side1 ?side2 A13.out).mono ?_); (case side1 => repeat (first | exact (Kd.C_below HR879_6.out HB.out) | (with_reducible refine Kd.C_alloc ?_ _) | (with_reducible refine Kd.C_drewN ?_ _) | (with_reducible refine Kd.C_drew ?_))); (case side2 => exact HC879_6.out); rintro e w20 ⟨v881, rfl, ho0, hb⟩; refine ⟨_, rfl, ?_⟩; have n0_ := Aside0.mk (Kd.R_elder' (by (with_reducible repeat (first | apply Kd.R_alloc | apply Kd.R_drewN | apply Kd.R_drew)); exact HO_4.out) (Kd.R_base ho0) hb); have n1_ := Aside0.mk (Kd.N_elder' (by (with_reducible repeat (first | apply Kd.N_alloc | apply Kd.N_drewN | apply Kd.N_drew)); exact HO878.out) (Kd.R_base ho0) hb); have n2_ := Aside0.mk (Kd.R_lower (Kd.R_new' ho0 (Kd.R_lt (by (with_reducible repeat (first | apply Kd.R_alloc | apply Kd.R_drewN | apply Kd.R_drew)); exact HO_4.out))) (below_size (by repeat (first | (with_reducible first | exact HB.out | apply below_alloc | apply pw_below_drewN | apply below_drew1) | exact HB.out)))); have n3_ := Aside0.mk (below_step (by repeat (first | (with_reducible first | exact HB.out | apply below_alloc | apply pw_below_drewN | apply below_drew1) | exact HB.out)) hb); clear HO_4; clear HO878; clear HB; have HO_4 := n0_; have HO878 := n1_; have HO882 := n2_; have HB := n3_; clear n0_ n1_ n2_ n3_; (try clear hb); (try clear hb2); (try clear hk); (try clear hi); (try clear ho0); obtain ⟨Ao22, co22, eo22⟩ := Kd.R_slice HO882.out; subst eo22) | ((with_reducible refine gate_builtin (b := .append) (xs := #[.tmp 24, .tmp 29]) rfl ?_); at_builtin; refine Kd.R_append_rows (Kd.int .i64) (w0 := w) w.heap.size rfl (.tmp 24) (.tmp 29) 41 3 (.int .i64 0) 8 rfl Try.underlying41 info3 rfl (by decide) (by omega) u4 x4_1 t880 _ _ _ (fun k_ => some k_ ≠ (.slice Ao22 t880.length co22 : Value).ownBlock) (fun _ => False) rfl rfl ?aO ?aR (fun _ _ h => h) (fun _ h => h.elim) ?aF ?aB ?aS ?aL ?_; (case aR => repeat (first | exact (Kd.R_reads' HO882.out).2.2 | (with_reducible refine Kd.C_alloc ?_ _) | (with_reducible refine Kd.C_drewN ?_ _) | (with_reducible refine Kd.C_drew ?_))); (case aB => exact (by repeat (first | (with_reducible first | exact HB.out | apply below_alloc | apply pw_below_drewN | apply below_drew1) | exact HB.out))); (case aF => exact (fun k_ hk => Kd.fresh' (Kd.R_lt (by (with_reducible repeat (first | apply Kd.R_alloc | apply Kd.R_drewN | apply Kd.R_drew)); exact HO882.out)) k_ hk)); (case aO => exact (by (with_reducible repeat (first | apply Kd.R_alloc | apply Kd.R_drewN | apply Kd.R_drew)); exact Kd.R_mono HO_4.out (fun _ hk => hk.2))); (case aS => exact (below_size (by repeat (first | (with_reducible first | exact HB.out | apply below_alloc | apply pw_below_drewN | apply below_drew1) | exact HB.out)))); (case aL => have := LMc14.out; omega); intro v884 w21 ho hb hg hat; rw [← Ny883.out] at ho; have n0_ := Aside0.mk (Kd.N_afterv (ok := (fun k_ => some k_ ≠ (.slice Ao22 t880.length co22 : Value).ownBlock)) (by (with_reducible repeat (first | apply Kd.N_alloc | apply Kd.N_drewN | apply Kd.N_drew)); exact Kd.N_mono HO878.out (fun _ hk => ⟨hk.2, hk.1⟩)) hg hat); have n1_ := Aside0.mk (Kd.R_after (ok := (fun _ => True)) (by (with_reducible repeat (first | apply Kd.R_alloc | apply Kd.R_drewN | apply Kd.R_drew)); exact HO882.out) hg hat); have n2_ := Aside0.mk (hb); have n3_ := Aside0.mk (ho); clear HO878; clear HO882; clear HB; clear HO_4; have HO878 := n0_; have HO882 := n1_; have HB := n2_; have HO885 := n3_; clear n0_ n1_ n2_ n3_; clear ho hb hg hat))
                have n0_ := Aside0.mk (Kd.N_drew HO878.out)
                have n1_ := Aside0.mk (Kd.R_drew HO882.out)
                have n2_ := Aside0.mk (Kd.R_drew HO885.out)
                have n3_ := Aside0.mk (below_drew1 HB.out)
                clear HO878
                clear HO882
                clear HO885
                clear HB
                have HO878 := n0_
                have HO882 := n1_
                have HO885 := n2_
                have HB := n3_
                clear n0_ n1_ n2_ n3_
                have p886 : 0 ≤ (x5_1 : Int) := of_decide_eq_true (by first | (with_reducible assumption) | assumption)
                have q886 : x5_1 < (l0.length : Int) := of_decide_eq_true (by first | (with_reducible assumption) | assumption)
                obtain ⟨ad886, A886_6, c886_6, e886, hx886_0, hx886_1, hx886_2, hx886_3, hx886_4, hx886_5, hx886_6, hl886_6, hi886_6⟩ := at_T26 HR0.out x5_1 p886 q886
                have hw886_6 := hx886_6
                have hw886_5 := hx886_5
                have hw886_4 := hx886_4
                have hw886_3 := hx886_3
                have hw886_2 := hx886_2
                have hw886_1 := hx886_1
                have hw886_0 := hx886_0
                obtain rfl : ad875 = ad886 := (by injection e886)
                replace hx886_0 := (HB.out.cell (World.block_lt_of_cell? w _ hx886_0)).trans hx886_0
                replace hx886_1 := (HB.out.cell (World.block_lt_of_cell? w _ hx886_1)).trans hx886_1
                replace hx886_2 := (HB.out.cell (World.block_lt_of_cell? w _ hx886_2)).trans hx886_2
                replace hx886_3 := (HB.out.cell (World.block_lt_of_cell? w _ hx886_3)).trans hx886_3
                replace hx886_4 := (HB.out.cell (World.block_lt_of_cell? w _ hx886_4)).trans hx886_4
                replace hx886_5 := (HB.out.cell (World.block_lt_of_cell? w _ hx886_5)).trans hx886_5
                replace hx886_6 := (HB.out.cell (World.block_lt_of_cell? w _ hx886_6)).trans hx886_6
                have HR886_6 := Aside0.mk hi886_6
                have HC886_6 := Aside0.mk hl886_6
                clear hi886_6 hl886_6
                replace p886 := eq_true p886
                replace q886 := eq_true q886
                have p888 : 0 ≤ (x5_1 : Int) := of_decide_eq_true (by first | (with_reducible assumption) | assumption)
                have q888 : x5_1 < (l0.length : Int) := of_decide_eq_true (by first | (with_reducible assumption) | assumption)
                obtain ⟨ad888, A888_6, c888_6, e888, hx888_0, hx888_1, hx888_2, hx888_3, hx888_4, hx888_5, hx888_6, hl888_6, hi888_6⟩ := at_T26 HR0.out x5_1 p888 q888
                have hw888_6 := hx888_6
                have hw888_5 := hx888_5
                have hw888_4 := hx888_4
                have hw888_3 := hx888_3
                have hw888_2 := hx888_2
                have hw888_1 := hx888_1
                have hw888_0 := hx888_0
                obtain rfl : ad875 = ad888 := (by injection e888)
                replace hx888_0 := (HB.out.cell (World.block_lt_of_cell? w _ hx888_0)).trans hx888_0
                replace hx888_1 := (HB.out.cell (World.block_lt_of_cell? w _ hx888_1)).trans hx888_1
                replace hx888_2 := (HB.out.cell (World.block_lt_of_cell? w _ hx888_2)).trans hx888_2
                replace hx888_3 := (HB.out.cell (World.block_lt_of_cell? w _ hx888_3)).trans hx888_3
                replace hx888_4 := (HB.out.cell (World.block_lt_of_cell? w _ hx888_4)).trans hx888_4
                replace hx888_5 := (HB.out.cell (World.block_lt_of_cell? w _ hx888_5)).trans hx888_5
                replace hx888_6 := (HB.out.cell (World.block_lt_of_cell? w _ hx888_6)).trans hx888_6
                have HR888_6 := Aside0.mk hi888_6
                have HC888_6 := Aside0.mk hl888_6
                clear hi888_6 hl888_6
                replace p888 := eq_true p888
                replace q888 := eq_true q888
                have ea_ := Option.some.inj (hx886_6.symm.trans hx888_6)
                injection ea_ with ea_ en_ ec_
                subst ea_
                subst ec_
                clear en_
                refine start_ (n := 11) (S := fun w' => w'.cell? (ad875.add ((x5_1).toNat * 7)) = some (.int .u8 ((rd_T26 l0 x5_1).f0)) ∧ w'.cell? ⟨(ad875.add ((x5_1).toNat * 7)).block, (ad875.add ((x5_1).toNat * 7)).off + 1, none⟩ = some (.int .i64 ((rd_T26 l0 x5_1).f1.f0)) ∧ w'.cell? ⟨(ad875.add ((x5_1).toNat * 7)).block, (ad875.add ((x5_1).toNat * 7)).off + 2, none⟩ = some (.int .i64 ((rd_T26 l0 x5_1).f1.f1)) ∧ w'.cell? ⟨(ad875.add ((x5_1).toNat * 7)).block, (ad875.add ((x5_1).toNat * 7)).off + 3, none⟩ = some (.int .i64 ((rd_T26 l0 x5_1).f1.f2)) ∧ w'.cell? ⟨(ad875.add ((x5_1).toNat * 7)).block, (ad875.add ((x5_1).toNat * 7)).off + 4, none⟩ = some (.int .i64 ((rd_T26 l0 x5_1).f1.f3)) ∧ w'.cell? ⟨(ad875.add ((x5_1).toNat * 7)).block, (ad875.add ((x5_1).toNat * 7)).off + 5, none⟩ = some (.int .i64 ((rd_T26 l0 x5_1).f2)) ∧ w'.cell? ⟨(ad875.add ((x5_1).toNat * 7)).block, (ad875.add ((x5_1).toNat * 7)).off + 6, none⟩ = some (.slice A886_6 ((rd_T26 l0 x5_1).f3).length c886_6) ∧ w'.cell? (ad875.add ((x5_1).toNat * 7)) = some (.int .u8 ((rd_T26 l0 x5_1).f0)) ∧ w'.cell? ⟨(ad875.add ((x5_1).toNat * 7)).block, (ad875.add ((x5_1).toNat * 7)).off + 1, none⟩ = some (.int .i64 ((rd_T26 l0 x5_1).f1.f0)) ∧ w'.cell? ⟨(ad875.add ((x5_1).toNat * 7)).block, (ad875.add ((x5_1).toNat * 7)).off + 2, none⟩ = some (.int .i64 ((rd_T26 l0 x5_1).f1.f1)) ∧ w'.cell? ⟨(ad875.add ((x5_1).toNat * 7)).block, (ad875.add ((x5_1).toNat * 7)).off + 3, none⟩ = some (.int .i64 ((rd_T26 l0 x5_1).f1.f2)) ∧ w'.cell? ⟨(ad875.add ((x5_1).toNat * 7)).block, (ad875.add ((x5_1).toNat * 7)).off + 4, none⟩ = some (.int .i64 ((rd_T26 l0 x5_1).f1.f3)) ∧ w'.cell? ⟨(ad875.add ((x5_1).toNat * 7)).block, (ad875.add ((x5_1).toNat * 7)).off + 5, none⟩ = some (.int .i64 ((rd_T26 l0 x5_1).f2)) ∧ w'.cell? ⟨(ad875.add ((x5_1).toNat * 7)).block, (ad875.add ((x5_1).toNat * 7)).off + 6, none⟩ = some (.slice A886_6 ((rd_T26 l0 x5_1).f3).length c886_6)) (ds := []) #[false, false, false, false, false, false, false, false, false, false, false] (by kernel_rfl) rfl rfl ⟨((HB.out.cell (World.block_lt_of_cell? w _ hw886_0)).trans hw886_0), ((HB.out.cell (World.block_lt_of_cell? w _ hw886_1)).trans hw886_1), ((HB.out.cell (World.block_lt_of_cell? w _ hw886_2)).trans hw886_2), ((HB.out.cell (World.block_lt_of_cell? w _ hw886_3)).trans hw886_3), ((HB.out.cell (World.block_lt_of_cell? w _ hw886_4)).trans hw886_4), ((HB.out.cell (World.block_lt_of_cell? w _ hw886_5)).trans hw886_5), ((HB.out.cell (World.block_lt_of_cell? w _ hw886_6)).trans hw886_6), ((HB.out.cell (World.block_lt_of_cell? w _ hw888_0)).trans hw888_0), ((HB.out.cell (World.block_lt_of_cell? w _ hw888_1)).trans hw888_1), ((HB.out.cell (World.block_lt_of_cell? w _ hw888_2)).trans hw888_2), ((HB.out.cell (World.block_lt_of_cell? w _ hw888_3)).trans hw888_3), ((HB.out.cell (World.block_lt_of_cell? w _ hw888_4)).trans hw888_4), ((HB.out.cell (World.block_lt_of_cell? w _ hw888_5)).trans hw888_5), ((HB.out.cell (World.block_lt_of_cell? w _ hw888_6)).trans hw888_6)⟩ (fun hHeld => ?_); refine with_tabW sashlaw05_CellCounts.tab10 sashlaw05_CellCounts.bits10 (fun HT_ HW_ => ?_)
                generalize w21.drew = w23 at HO878 HO882 HO885 HB HR886_6 HR888_6 hx886_0 hx886_1 hx886_2 hx886_3 hx886_4 hx886_5 hx886_6 hx888_0 hx888_1 hx888_2 hx888_3 hx888_4 hx888_5 hx888_6 hHeld ⊢
                refine pure_ (i := 0) (N := some 31) (v := ?_) (a' := ?_) #[true, false, false, false, false, false, false, false, false, false, false] rfl rfl (any_of HT_.out (by kernel_rfl)) (fun _ _ _ h => h) (Or.inl ⟨by rfl, ?_⟩) ?_ ?_
                rotate_left
                · intro w'
                  go_simp
                  with_reducible rfl
                rotate_left
                · simp only [Act.put, List.setIfInBounds_toArray, List.set_cons_zero, List.set_cons_succ, i64_w, i32_w]
                  rfl
                refine pure_ (i := 1) (N := some 32) (v := ?_) (a' := ?_) #[true, true, false, false, false, false, false, false, false, false, false] rfl rfl (any_of HT_.out (by kernel_rfl)) (fun _ _ _ h => h) (Or.inl ⟨by rfl, ?_⟩) ?_ ?_
                rotate_left
                · intro w'
                  go_simp
                  with_reducible rfl
                rotate_left
                · simp only [Act.put, List.setIfInBounds_toArray, List.set_cons_zero, List.set_cons_succ, i64_w, i32_w]
                  rfl
                refine pure_ (i := 2) (N := some 33) (v := ?_) (a' := ?_) #[true, true, true, false, false, false, false, false, false, false, false] rfl rfl (any_of HT_.out (by kernel_rfl)) (fun _ _ _ h => h) (Or.inl ⟨by rfl, ?_⟩) ?_ ?_
                rotate_left
                · intro w'
                  go_simp
                  with_reducible rfl
                rotate_left
                · simp only [Act.put, List.setIfInBounds_toArray, List.set_cons_zero, List.set_cons_succ, i64_w, i32_w]
                  rfl
                refine pure_ (i := 5) (N := some 36) (v := ?_) (a' := ?_) #[true, true, true, false, false, true, false, false, false, false, false] rfl rfl (any_of HT_.out (by kernel_rfl)) (fun _ _ _ h => h) (Or.inl ⟨by rfl, ?_⟩) ?_ ?_
                rotate_left
                · intro w'
                  go_simp
                  with_reducible rfl
                rotate_left
                · simp only [Act.put, List.setIfInBounds_toArray, List.set_cons_zero, List.set_cons_succ, i64_w, i32_w]
                  rfl
                refine pure_ (i := 6) (N := some 37) (v := ?_) (a' := ?_) #[true, true, true, false, false, true, true, false, false, false, false] rfl rfl (any_of HT_.out (by kernel_rfl)) (fun _ _ _ h => h) (Or.inl ⟨by rfl, ?_⟩) ?_ ?_
                rotate_left
                · intro w'
                  go_simp
                  with_reducible rfl
                rotate_left
                · simp only [Act.put, List.setIfInBounds_toArray, List.set_cons_zero, List.set_cons_succ, i64_w, i32_w]
                  rfl
                refine pure_ (i := 7) (N := some 38) (v := ?_) (a' := ?_) #[true, true, true, false, false, true, true, true, false, false, false] rfl rfl (any_of HT_.out (by kernel_rfl)) (fun _ _ _ h => h) (Or.inl ⟨by rfl, ?_⟩) ?_ ?_
                rotate_left
                · intro w'
                  go_simp
                  with_reducible rfl
                rotate_left
                · simp only [Act.put, List.setIfInBounds_toArray, List.set_cons_zero, List.set_cons_succ, i64_w, i32_w]
                  rfl
                refine take_ (i := 3) (N := some 34) (v := ?_) (a' := ?_) #[true, true, true, true, false, true, true, true, false, false, false] rfl rfl (take_ofW HT_.out HW_.out (by kernel_rfl)) (fun _ _ _ h => h) (Or.inl ⟨by rfl, ?_⟩) hHeld ?_ ?_
                rotate_left
                · rintro w' ⟨s0, s1, s2, s3, s4, s5, s6, s7, s8, s9, s10, s11, s12, s13⟩
                  go_simp
                  with_reducible rfl
                rotate_left
                · simp only [Act.put, List.setIfInBounds_toArray, List.set_cons_zero, List.set_cons_succ, i64_w, i32_w]
                  rfl
                refine take_ (i := 8) (N := some 39) (v := ?_) (a' := ?_) #[true, true, true, true, false, true, true, true, true, false, false] rfl rfl (take_ofW HT_.out HW_.out (by kernel_rfl)) (fun _ _ _ h => h) (Or.inl ⟨by rfl, ?_⟩) hHeld ?_ ?_
                rotate_left
                · rintro w' ⟨s0, s1, s2, s3, s4, s5, s6, s7, s8, s9, s10, s11, s12, s13⟩
                  go_simp
                  with_reducible rfl
                rotate_left
                · simp only [Act.put, List.setIfInBounds_toArray, List.set_cons_zero, List.set_cons_succ, i64_w, i32_w]
                  rfl
                refine one_ (i := 4) (N := some 35) #[true, true, true, true, true, true, true, true, true, false, false] rfl rfl (one_of HT_.out (by kernel_rfl)) (by decide) (fun K hK => ?_)
                refine goes_ Try.func80 (by kernel_rfl) rfl #[.agg #[.int .u8 ((rd_T26 l0 x5_1).f0), .int .i64 ((rd_T26 l0 x5_1).f1.f0), .int .i64 ((rd_T26 l0 x5_1).f1.f1), .int .i64 ((rd_T26 l0 x5_1).f1.f2), .int .i64 ((rd_T26 l0 x5_1).f1.f3), .int .i64 ((rd_T26 l0 x5_1).f2), .slice A886_6 ((rd_T26 l0 x5_1).f3).length c886_6]] (by rfl) rfl rfl (by (try simp only [List.map_toArray, List.map_cons, List.map_nil]); first | done | rfl | (simp only [List.length_drop, List.length_take]; rfl)) ?_
                with_reducible refine (cell_Depth.calls k1 ((rd_T26 l0 x5_1).f0) ((rd_T26 l0 x5_1).f1.f0) ((rd_T26 l0 x5_1).f1.f1) ((rd_T26 l0 x5_1).f1.f2) ((rd_T26 l0 x5_1).f1.f3) ((rd_T26 l0 x5_1).f2) _ _ ((rd_T26 l0 x5_1).f3) t887 _ ?side1 ?side2 A15.out).mono ?_
                (case side1 => repeat (first | exact (Kd.C_below HR886_6.out HB.out) | (with_reducible refine Kd.C_alloc ?_ _) | (with_reducible refine Kd.C_drewN ?_ _) | (with_reducible refine Kd.C_drew ?_)))
                (case side2 => exact HC886_6.out)
                rintro e w24 ⟨rfl, hb⟩
                refine ⟨_, rfl, ?_⟩
                have n0_ := Aside0.mk (Kd.N_below (by (with_reducible repeat (first | apply Kd.N_alloc | apply Kd.N_drewN | apply Kd.N_drew)); exact HO878.out) hb)
                have n1_ := Aside0.mk (Kd.R_below (by (with_reducible repeat (first | apply Kd.R_alloc | apply Kd.R_drewN | apply Kd.R_drew)); exact HO882.out) hb)
                have n2_ := Aside0.mk (Kd.R_below (by (with_reducible repeat (first | apply Kd.R_alloc | apply Kd.R_drewN | apply Kd.R_drew)); exact HO885.out) hb)
                have n3_ := Aside0.mk (below_step (by repeat (first | (with_reducible first | exact HB.out | apply below_alloc | apply pw_below_drewN | apply below_drew1) | exact HB.out)) hb)
                clear HO878
                clear HO882
                clear HO885
                clear HB
                have HO878 := n0_
                have HO882 := n1_
                have HO885 := n2_
                have HB := n3_
                clear n0_ n1_ n2_ n3_
                (try clear hb)
                (try clear hb2)
                (try clear hk)
                (try clear hi)
                refine hK.out _ _ ⟨((HB.out.cell (World.block_lt_of_cell? w _ hw886_0)).trans hw886_0), ((HB.out.cell (World.block_lt_of_cell? w _ hw886_1)).trans hw886_1), ((HB.out.cell (World.block_lt_of_cell? w _ hw886_2)).trans hw886_2), ((HB.out.cell (World.block_lt_of_cell? w _ hw886_3)).trans hw886_3), ((HB.out.cell (World.block_lt_of_cell? w _ hw886_4)).trans hw886_4), ((HB.out.cell (World.block_lt_of_cell? w _ hw886_5)).trans hw886_5), ((HB.out.cell (World.block_lt_of_cell? w _ hw886_6)).trans hw886_6), ((HB.out.cell (World.block_lt_of_cell? w _ hw888_0)).trans hw888_0), ((HB.out.cell (World.block_lt_of_cell? w _ hw888_1)).trans hw888_1), ((HB.out.cell (World.block_lt_of_cell? w _ hw888_2)).trans hw888_2), ((HB.out.cell (World.block_lt_of_cell? w _ hw888_3)).trans hw888_3), ((HB.out.cell (World.block_lt_of_cell? w _ hw888_4)).trans hw888_4), ((HB.out.cell (World.block_lt_of_cell? w _ hw888_5)).trans hw888_5), ((HB.out.cell (World.block_lt_of_cell? w _ hw888_6)).trans hw888_6)⟩ (fun hHeld => ?_)
                clear hK K
                refine norm_ (a' := ?_) ?_ ?_
                rotate_left
                · show Act.put _ (some 35) _ = _
                  simp only [Act.put, List.setIfInBounds_toArray, List.set_cons_zero, List.set_cons_succ, i64_w, i32_w]
                  rfl
                refine one_ (i := 9) (N := some 40) #[true, true, true, true, true, true, true, true, true, true, false] rfl rfl (one_of HT_.out (by kernel_rfl)) (by decide) (fun K hK => ?_)
                refine goes_ Try.func81 (by kernel_rfl) rfl #[.agg #[.int .u8 ((rd_T26 l0 x5_1).f0), .int .i64 ((rd_T26 l0 x5_1).f1.f0), .int .i64 ((rd_T26 l0 x5_1).f1.f1), .int .i64 ((rd_T26 l0 x5_1).f1.f2), .int .i64 ((rd_T26 l0 x5_1).f1.f3), .int .i64 ((rd_T26 l0 x5_1).f2), .slice A886_6 ((rd_T26 l0 x5_1).f3).length c886_6]] (by rfl) rfl rfl (by (try simp only [List.map_toArray, List.map_cons, List.map_nil]); first | done | rfl | (simp only [List.length_drop, List.length_take]; rfl)) ?_
                with_reducible refine (sashref05_Depth.calls k1 ((rd_T26 l0 x5_1).f0) ((rd_T26 l0 x5_1).f1.f0) ((rd_T26 l0 x5_1).f1.f1) ((rd_T26 l0 x5_1).f1.f2) ((rd_T26 l0 x5_1).f1.f3) ((rd_T26 l0 x5_1).f2) _ _ ((rd_T26 l0 x5_1).f3) t889 _ ?side1 ?side2 A16.out).mono ?_
                (case side1 => repeat (first | exact (Kd.C_below HR888_6.out HB.out) | (with_reducible refine Kd.C_alloc ?_ _) | (with_reducible refine Kd.C_drewN ?_ _) | (with_reducible refine Kd.C_drew ?_)))
                (case side2 => exact HC888_6.out)
                rintro e w25 ⟨rfl, hb⟩
                refine ⟨_, rfl, ?_⟩
                have n0_ := Aside0.mk (Kd.N_below (by (with_reducible repeat (first | apply Kd.N_alloc | apply Kd.N_drewN | apply Kd.N_drew)); exact HO878.out) hb)
                have n1_ := Aside0.mk (Kd.R_below (by (with_reducible repeat (first | apply Kd.R_alloc | apply Kd.R_drewN | apply Kd.R_drew)); exact HO882.out) hb)
                have n2_ := Aside0.mk (Kd.R_below (by (with_reducible repeat (first | apply Kd.R_alloc | apply Kd.R_drewN | apply Kd.R_drew)); exact HO885.out) hb)
                have n3_ := Aside0.mk (below_step (by repeat (first | (with_reducible first | exact HB.out | apply below_alloc | apply pw_below_drewN | apply below_drew1) | exact HB.out)) hb)
                clear HO878
                clear HO882
                clear HO885
                clear HB
                have HO878 := n0_
                have HO882 := n1_
                have HO885 := n2_
                have HB := n3_
                clear n0_ n1_ n2_ n3_
                (try clear hb)
                (try clear hb2)
                (try clear hk)
                (try clear hi)
                refine hK.out _ _ ⟨((HB.out.cell (World.block_lt_of_cell? w _ hw886_0)).trans hw886_0), ((HB.out.cell (World.block_lt_of_cell? w _ hw886_1)).trans hw886_1), ((HB.out.cell (World.block_lt_of_cell? w _ hw886_2)).trans hw886_2), ((HB.out.cell (World.block_lt_of_cell? w _ hw886_3)).trans hw886_3), ((HB.out.cell (World.block_lt_of_cell? w _ hw886_4)).trans hw886_4), ((HB.out.cell (World.block_lt_of_cell? w _ hw886_5)).trans hw886_5), ((HB.out.cell (World.block_lt_of_cell? w _ hw886_6)).trans hw886_6), ((HB.out.cell (World.block_lt_of_cell? w _ hw888_0)).trans hw888_0), ((HB.out.cell (World.block_lt_of_cell? w _ hw888_1)).trans hw888_1), ((HB.out.cell (World.block_lt_of_cell? w _ hw888_2)).trans hw888_2), ((HB.out.cell (World.block_lt_of_cell? w _ hw888_3)).trans hw888_3), ((HB.out.cell (World.block_lt_of_cell? w _ hw888_4)).trans hw888_4), ((HB.out.cell (World.block_lt_of_cell? w _ hw888_5)).trans hw888_5), ((HB.out.cell (World.block_lt_of_cell? w _ hw888_6)).trans hw888_6)⟩ (fun hHeld => ?_)
                clear hK K
                refine norm_ (a' := ?_) ?_ ?_
                rotate_left
                · show Act.put _ (some 40) _ = _
                  simp only [Act.put, List.setIfInBounds_toArray, List.set_cons_zero, List.set_cons_succ, i64_w, i32_w]
                  rfl
                refine pure_ (i := 10) (N := some 41) (v := ?_) (a' := ?_) #[true, true, true, true, true, true, true, true, true, true, true] rfl rfl (any_of HT_.out (by kernel_rfl)) (fun _ _ _ h => h) (Or.inl ⟨by rfl, ?_⟩) ?_ ?_
                rotate_left
                · intro w'
                  go_simp
                  with_reducible rfl
                rotate_left
                · simp only [Act.put, List.setIfInBounds_toArray, List.set_cons_zero, List.set_cons_succ, i64_w, i32_w]
                  rfl
                refine done_ (done_of HT_.out (by kernel_rfl)) ?_
                try go_wp2
                go_roundg k1
                case measure => have := HK1.out; omega
                case rel => exact ⟨(wrap64 (x3_1 + (t876.length : Int))), (y883), (wrap64 (x5_1 + 1)), (by first | rfl | (simp; done) | (simp [*]; done)), (by first | rfl | (simp; done) | (simp [*]; done)), H', ⟨by have := HK1.out; omega⟩, ⟨by (with_reducible repeat (first | apply Kd.R_alloc | apply Kd.R_drewN | apply Kd.R_drew)); exact Kd.R_mono HO885.out (fun _ hk => trivial)⟩, ⟨by repeat (first | (with_reducible first | exact HB.out | apply below_alloc | apply pw_below_drewN | apply below_drew1) | exact HB.out)⟩⟩
              · rw [if_neg c17] at H
                have c17b0 : (t887 == t889) = false := beq_eq_false_iff_ne.mpr c17
                have c17b1 : (t887 != t889) = true := bne_iff_ne.mpr c17
                obtain rfl := Option.some.inj H
                have p875 : 0 ≤ (x5_1 : Int) := of_decide_eq_true (by first | (with_reducible assumption) | assumption)
                have q875 : x5_1 < (l0.length : Int) := of_decide_eq_true (by first | (with_reducible assumption) | assumption)
                obtain ⟨ad875, A875_6, c875_6, e875, hx875_0, hx875_1, hx875_2, hx875_3, hx875_4, hx875_5, hx875_6, hl875_6, hi875_6⟩ := at_T26 HR0.out x5_1 p875 q875
                cases e875
                replace hx875_0 := (HB.out.cell (World.block_lt_of_cell? w _ hx875_0)).trans hx875_0
                replace hx875_1 := (HB.out.cell (World.block_lt_of_cell? w _ hx875_1)).trans hx875_1
                replace hx875_2 := (HB.out.cell (World.block_lt_of_cell? w _ hx875_2)).trans hx875_2
                replace hx875_3 := (HB.out.cell (World.block_lt_of_cell? w _ hx875_3)).trans hx875_3
                replace hx875_4 := (HB.out.cell (World.block_lt_of_cell? w _ hx875_4)).trans hx875_4
                replace hx875_5 := (HB.out.cell (World.block_lt_of_cell? w _ hx875_5)).trans hx875_5
                replace hx875_6 := (HB.out.cell (World.block_lt_of_cell? w _ hx875_6)).trans hx875_6
                have HR875_6 := Aside0.mk hi875_6
                have HC875_6 := Aside0.mk hl875_6
                clear hi875_6 hl875_6
                replace p875 := eq_true p875
                replace q875 := eq_true q875
                try go_wp2_with (first | ((with_reducible refine gate_callee (f := 79) rfl ?_); refine goesL_ (some 21) rfl rfl Try.func79 (by kernel_rfl) rfl #[.agg #[.int .u8 ((rd_T26 l0 x5_1).f0), .int .i64 ((rd_T26 l0 x5_1).f1.f0), .int .i64 ((rd_T26 l0 x5_1).f1.f1), .int .i64 ((rd_T26 l0 x5_1).f1.f2), .int .i64 ((rd_T26 l0 x5_1).f1.f3), .int .i64 ((rd_T26 l0 x5_1).f2), .slice A875_6 ((rd_T26 l0 x5_1).f3).length c875_6]] rfl (by (try simp only [List.map_toArray, List.map_cons, List.map_nil]); first | done | rfl | (simp only [List.length_drop, List.length_take]; rfl)) ?_; (with_reducible refine (sashref05_All.calls k1 ((rd_T26 l0 x5_1).f0) ((rd_T26 l0 x5_1).f1.f0) ((rd_T26 l0 x5_1).f1.f1) ((rd_T26 l0 x5_1).f1.f2) ((rd_T26 l0 x5_1).f1.f3) ((rd_T26 l0 x5_1).f2) (fun k_ => k_ < w.heap.size) _ _ ((rd_T26 l0 x5_1).f3) t876 _ ?side1 A12.out).mono ?_); (case side1 => exact Kd.V_mk HC875_6.out (Kd.F_below (Kd.C_F k26_heap HR875_6.out) (by repeat (first | (with_reducible first | exact HB.out | apply below_alloc | apply pw_below_drewN | apply below_drew1) | exact HB.out)))); rintro e w26 ⟨v877, rfl, ho0, hb⟩; refine ⟨_, rfl, ?_⟩; have n0_ := Aside0.mk (Kd.R_below (by (with_reducible repeat (first | apply Kd.R_alloc | apply Kd.R_drewN | apply Kd.R_drew)); exact HO_4.out) hb); have n1_ := Aside0.mk (Kd.N_lower (Kd.N_mono (ok' := fun k_ => some k_ ≠ (u4 : Value).ownBlock) ho0 (fun k_ hk_ => Or.elim hk_ (fun hs_ => fun e_ => Nat.not_le.2 hs_ (Kd.R_base HO_4.out k_ e_.symm)) (fun hn_ => (Kd.fresh' (Kd.R_lt (by (with_reducible repeat (first | apply Kd.R_alloc | apply Kd.R_drewN | apply Kd.R_drew)); exact HO_4.out)) k_ hn_)))) (below_size (by repeat (first | (with_reducible first | exact HB.out | apply below_alloc | apply pw_below_drewN | apply below_drew1) | exact HB.out)))); have n2_ := Aside0.mk (below_step (by repeat (first | (with_reducible first | exact HB.out | apply below_alloc | apply pw_below_drewN | apply below_drew1) | exact HB.out)) hb); clear HO_4; clear HB; have HO_4 := n0_; have HO878 := n1_; have HB := n2_; clear n0_ n1_ n2_; (try clear hb); (try clear hb2); (try clear hk); (try clear hi); (try clear ho0); obtain ⟨Ao27, co27, eo27⟩ := Kd.N_slice HO878.out; subst eo27; have p879 : 0 ≤ (x5_1 : Int) := of_decide_eq_true (by first | (with_reducible assumption) | assumption); have q879 : x5_1 < (l0.length : Int) := of_decide_eq_true (by first | (with_reducible assumption) | assumption); obtain ⟨ad879, A879_6, c879_6, e879, hx879_0, hx879_1, hx879_2, hx879_3, hx879_4, hx879_5, hx879_6, hl879_6, hi879_6⟩ := at_T26 HR0.out x5_1 p879 q879; obtain rfl : ad875 = ad879 := (by injection e879); replace hx879_0 := (HB.out.cell (World.block_lt_of_cell? w _ hx879_0)).trans hx879_0; replace hx879_1 := (HB.out.cell (World.block_lt_of_cell? w _ hx879_1)).trans hx879_1; replace hx879_2 := (HB.out.cell (World.block_lt_of_cell? w _ hx879_2)).trans hx879_2; replace hx879_3 := (HB.out.cell (World.block_lt_of_cell? w _ hx879_3)).trans hx879_3; replace hx879_4 := (HB.out.cell (World.block_lt_of_cell? w _ hx879_4)).trans hx879_4; replace hx879_5 := (HB.out.cell (World.block_lt_of_cell? w _ hx879_5)).trans hx879_5; replace hx879_6 := (HB.out.cell (World.block_lt_of_cell? w _ hx879_6)).trans hx879_6; have HR879_6 := Aside0.mk hi879_6; have HC879_6 := Aside0.mk hl879_6; clear hi879_6 hl879_6; replace p879 := eq_true p879; replace q879 := eq_true q879) | ((with_reducible refine gate_callee (f := 63) rfl ?_); refine goesL_ (some 29) rfl rfl Try.func63 (by kernel_rfl) rfl #[.agg #[.int .u8 ((rd_T26 l0 x5_1).f0), .int .i64 ((rd_T26 l0 x5_1).f1.f0), .int .i64 ((rd_T26 l0 x5_1).f1.f1), .int .i64 ((rd_T26 l0 x5_1).f1.f2), .int .i64 ((rd_T26 l0 x5_1).f1.f3), .int .i64 ((rd_T26 l0 x5_1).f2), .slice A879_6 ((rd_T26 l0 x5_1).f3).length c879_6]] rfl (by (try simp only [List.map_toArray, List.map_cons, List.map_nil]); first | done | rfl | (simp only [List.length_drop, List.length_take]; rfl)) ?_; (with_reducible refine (sashref05_IDs.calls k1 ((rd_T26 l0 x5_1).f0) ((rd_T26 l0 x5_1).f1.f0) ((rd_T26 l0 x5_1).f1.f1) ((rd_T26 l0 x5_1).f1.f2) ((rd_T26 l0 x5_1).f1.f3) ((rd_T26 l0 x5_1).f2) _ _ ((rd_T26 l0 x5_1).f3) t880 _ ?side1 ?side2 A13.out).mono ?_); (case side1 => repeat (first | exact (Kd.C_below HR879_6.out HB.out) | (with_reducible refine Kd.C_alloc ?_ _) | (with_reducible refine Kd.C_drewN ?_ _) | (with_reducible refine Kd.C_drew ?_))); (case side2 => exact HC879_6.out); rintro e w28 ⟨v881, rfl, ho0, hb⟩; refine ⟨_, rfl, ?_⟩; have n0_ := Aside0.mk (Kd.R_elder' (by (with_reducible repeat (first | apply Kd.R_alloc | apply Kd.R_drewN | apply Kd.R_drew)); exact HO_4.out) (Kd.R_base ho0) hb); have n1_ := Aside0.mk (Kd.N_elder' (by (with_reducible repeat (first | apply Kd.N_alloc | apply Kd.N_drewN | apply Kd.N_drew)); exact HO878.out) (Kd.R_base ho0) hb); have n2_ := Aside0.mk (Kd.R_lower (Kd.R_new' ho0 (Kd.R_lt (by (with_reducible repeat (first | apply Kd.R_alloc | apply Kd.R_drewN | apply Kd.R_drew)); exact HO_4.out))) (below_size (by repeat (first | (with_reducible first | exact HB.out | apply below_alloc | apply pw_below_drewN | apply below_drew1) | exact HB.out)))); have n3_ := Aside0.mk (below_step (by repeat (first | (with_reducible first | exact HB.out | apply below_alloc | apply pw_below_drewN | apply below_drew1) | exact HB.out)) hb); clear HO_4; clear HO878; clear HB; have HO_4 := n0_; have HO878 := n1_; have HO882 := n2_; have HB := n3_; clear n0_ n1_ n2_ n3_; (try clear hb); (try clear hb2); (try clear hk); (try clear hi); (try clear ho0); obtain ⟨Ao30, co30, eo30⟩ := Kd.R_slice HO882.out; subst eo30) | ((with_reducible refine gate_builtin (b := .append) (xs := #[.tmp 24, .tmp 29]) rfl ?_); at_builtin; refine Kd.R_append_rows (Kd.int .i64) (w0 := w) w.heap.size rfl (.tmp 24) (.tmp 29) 41 3 (.int .i64 0) 8 rfl Try.underlying41 info3 rfl (by decide) (by omega) u4 x4_1 t880 _ _ _ (fun k_ => some k_ ≠ (.slice Ao30 t880.length co30 : Value).ownBlock) (fun _ => False) rfl rfl ?aO ?aR (fun _ _ h => h) (fun _ h => h.elim) ?aF ?aB ?aS ?aL ?_; (case aR => repeat (first | exact (Kd.R_reads' HO882.out).2.2 | (with_reducible refine Kd.C_alloc ?_ _) | (with_reducible refine Kd.C_drewN ?_ _) | (with_reducible refine Kd.C_drew ?_))); (case aB => exact (by repeat (first | (with_reducible first | exact HB.out | apply below_alloc | apply pw_below_drewN | apply below_drew1) | exact HB.out))); (case aF => exact (fun k_ hk => Kd.fresh' (Kd.R_lt (by (with_reducible repeat (first | apply Kd.R_alloc | apply Kd.R_drewN | apply Kd.R_drew)); exact HO882.out)) k_ hk)); (case aO => exact (by (with_reducible repeat (first | apply Kd.R_alloc | apply Kd.R_drewN | apply Kd.R_drew)); exact Kd.R_mono HO_4.out (fun _ hk => hk.2))); (case aS => exact (below_size (by repeat (first | (with_reducible first | exact HB.out | apply below_alloc | apply pw_below_drewN | apply below_drew1) | exact HB.out)))); (case aL => have := LMc14.out; omega); intro v884 w29 ho hb hg hat; rw [← Ny883.out] at ho; have n0_ := Aside0.mk (Kd.N_afterv (ok := (fun k_ => some k_ ≠ (.slice Ao30 t880.length co30 : Value).ownBlock)) (by (with_reducible repeat (first | apply Kd.N_alloc | apply Kd.N_drewN | apply Kd.N_drew)); exact Kd.N_mono HO878.out (fun _ hk => ⟨hk.2, hk.1⟩)) hg hat); have n1_ := Aside0.mk (Kd.R_after (ok := (fun _ => True)) (by (with_reducible repeat (first | apply Kd.R_alloc | apply Kd.R_drewN | apply Kd.R_drew)); exact HO882.out) hg hat); have n2_ := Aside0.mk (hb); have n3_ := Aside0.mk (ho); clear HO878; clear HO882; clear HB; clear HO_4; have HO878 := n0_; have HO882 := n1_; have HB := n2_; have HO885 := n3_; clear n0_ n1_ n2_ n3_; clear ho hb hg hat))
                have n0_ := Aside0.mk (Kd.N_drew HO878.out)
                have n1_ := Aside0.mk (Kd.R_drew HO882.out)
                have n2_ := Aside0.mk (Kd.R_drew HO885.out)
                have n3_ := Aside0.mk (below_drew1 HB.out)
                clear HO878
                clear HO882
                clear HO885
                clear HB
                have HO878 := n0_
                have HO882 := n1_
                have HO885 := n2_
                have HB := n3_
                clear n0_ n1_ n2_ n3_
                have p886 : 0 ≤ (x5_1 : Int) := of_decide_eq_true (by first | (with_reducible assumption) | assumption)
                have q886 : x5_1 < (l0.length : Int) := of_decide_eq_true (by first | (with_reducible assumption) | assumption)
                obtain ⟨ad886, A886_6, c886_6, e886, hx886_0, hx886_1, hx886_2, hx886_3, hx886_4, hx886_5, hx886_6, hl886_6, hi886_6⟩ := at_T26 HR0.out x5_1 p886 q886
                have hw886_6 := hx886_6
                have hw886_5 := hx886_5
                have hw886_4 := hx886_4
                have hw886_3 := hx886_3
                have hw886_2 := hx886_2
                have hw886_1 := hx886_1
                have hw886_0 := hx886_0
                obtain rfl : ad875 = ad886 := (by injection e886)
                replace hx886_0 := (HB.out.cell (World.block_lt_of_cell? w _ hx886_0)).trans hx886_0
                replace hx886_1 := (HB.out.cell (World.block_lt_of_cell? w _ hx886_1)).trans hx886_1
                replace hx886_2 := (HB.out.cell (World.block_lt_of_cell? w _ hx886_2)).trans hx886_2
                replace hx886_3 := (HB.out.cell (World.block_lt_of_cell? w _ hx886_3)).trans hx886_3
                replace hx886_4 := (HB.out.cell (World.block_lt_of_cell? w _ hx886_4)).trans hx886_4
                replace hx886_5 := (HB.out.cell (World.block_lt_of_cell? w _ hx886_5)).trans hx886_5
                replace hx886_6 := (HB.out.cell (World.block_lt_of_cell? w _ hx886_6)).trans hx886_6
                have HR886_6 := Aside0.mk hi886_6
                have HC886_6 := Aside0.mk hl886_6
                clear hi886_6 hl886_6
                replace p886 := eq_true p886
                replace q886 := eq_true q886
                have p888 : 0 ≤ (x5_1 : Int) := of_decide_eq_true (by first | (with_reducible assumption) | assumption)
                have q888 : x5_1 < (l0.length : Int) := of_decide_eq_true (by first | (with_reducible assumption) | assumption)
                obtain ⟨ad888, A888_6, c888_6, e888, hx888_0, hx888_1, hx888_2, hx888_3, hx888_4, hx888_5, hx888_6, hl888_6, hi888_6⟩ := at_T26 HR0.out x5_1 p888 q888
                have hw888_6 := hx888_6
                have hw888_5 := hx888_5
                have hw888_4 := hx888_4
                have hw888_3 := hx888_3
                have hw888_2 := hx888_2
                have hw888_1 := hx888_1
                have hw888_0 := hx888_0
                obtain rfl : ad875 = ad888 := (by injection e888)
                replace hx888_0 := (HB.out.cell (World.block_lt_of_cell? w _ hx888_0)).trans hx888_0
                replace hx888_1 := (HB.out.cell (World.block_lt_of_cell? w _ hx888_1)).trans hx888_1
                replace hx888_2 := (HB.out.cell (World.block_lt_of_cell? w _ hx888_2)).trans hx888_2
                replace hx888_3 := (HB.out.cell (World.block_lt_of_cell? w _ hx888_3)).trans hx888_3
                replace hx888_4 := (HB.out.cell (World.block_lt_of_cell? w _ hx888_4)).trans hx888_4
                replace hx888_5 := (HB.out.cell (World.block_lt_of_cell? w _ hx888_5)).trans hx888_5
                replace hx888_6 := (HB.out.cell (World.block_lt_of_cell? w _ hx888_6)).trans hx888_6
                have HR888_6 := Aside0.mk hi888_6
                have HC888_6 := Aside0.mk hl888_6
                clear hi888_6 hl888_6
                replace p888 := eq_true p888
                replace q888 := eq_true q888
                have ea_ := Option.some.inj (hx886_6.symm.trans hx888_6)
                injection ea_ with ea_ en_ ec_
                subst ea_
                subst ec_
                clear en_
                refine start_ (n := 11) (S := fun w' => w'.cell? (ad875.add ((x5_1).toNat * 7)) = some (.int .u8 ((rd_T26 l0 x5_1).f0)) ∧ w'.cell? ⟨(ad875.add ((x5_1).toNat * 7)).block, (ad875.add ((x5_1).toNat * 7)).off + 1, none⟩ = some (.int .i64 ((rd_T26 l0 x5_1).f1.f0)) ∧ w'.cell? ⟨(ad875.add ((x5_1).toNat * 7)).block, (ad875.add ((x5_1).toNat * 7)).off + 2, none⟩ = some (.int .i64 ((rd_T26 l0 x5_1).f1.f1)) ∧ w'.cell? ⟨(ad875.add ((x5_1).toNat * 7)).block, (ad875.add ((x5_1).toNat * 7)).off + 3, none⟩ = some (.int .i64 ((rd_T26 l0 x5_1).f1.f2)) ∧ w'.cell? ⟨(ad875.add ((x5_1).toNat * 7)).block, (ad875.add ((x5_1).toNat * 7)).off + 4, none⟩ = some (.int .i64 ((rd_T26 l0 x5_1).f1.f3)) ∧ w'.cell? ⟨(ad875.add ((x5_1).toNat * 7)).block, (ad875.add ((x5_1).toNat * 7)).off + 5, none⟩ = some (.int .i64 ((rd_T26 l0 x5_1).f2)) ∧ w'.cell? ⟨(ad875.add ((x5_1).toNat * 7)).block, (ad875.add ((x5_1).toNat * 7)).off + 6, none⟩ = some (.slice A886_6 ((rd_T26 l0 x5_1).f3).length c886_6) ∧ w'.cell? (ad875.add ((x5_1).toNat * 7)) = some (.int .u8 ((rd_T26 l0 x5_1).f0)) ∧ w'.cell? ⟨(ad875.add ((x5_1).toNat * 7)).block, (ad875.add ((x5_1).toNat * 7)).off + 1, none⟩ = some (.int .i64 ((rd_T26 l0 x5_1).f1.f0)) ∧ w'.cell? ⟨(ad875.add ((x5_1).toNat * 7)).block, (ad875.add ((x5_1).toNat * 7)).off + 2, none⟩ = some (.int .i64 ((rd_T26 l0 x5_1).f1.f1)) ∧ w'.cell? ⟨(ad875.add ((x5_1).toNat * 7)).block, (ad875.add ((x5_1).toNat * 7)).off + 3, none⟩ = some (.int .i64 ((rd_T26 l0 x5_1).f1.f2)) ∧ w'.cell? ⟨(ad875.add ((x5_1).toNat * 7)).block, (ad875.add ((x5_1).toNat * 7)).off + 4, none⟩ = some (.int .i64 ((rd_T26 l0 x5_1).f1.f3)) ∧ w'.cell? ⟨(ad875.add ((x5_1).toNat * 7)).block, (ad875.add ((x5_1).toNat * 7)).off + 5, none⟩ = some (.int .i64 ((rd_T26 l0 x5_1).f2)) ∧ w'.cell? ⟨(ad875.add ((x5_1).toNat * 7)).block, (ad875.add ((x5_1).toNat * 7)).off + 6, none⟩ = some (.slice A886_6 ((rd_T26 l0 x5_1).f3).length c886_6)) (ds := []) #[false, false, false, false, false, false, false, false, false, false, false] (by kernel_rfl) rfl rfl ⟨((HB.out.cell (World.block_lt_of_cell? w _ hw886_0)).trans hw886_0), ((HB.out.cell (World.block_lt_of_cell? w _ hw886_1)).trans hw886_1), ((HB.out.cell (World.block_lt_of_cell? w _ hw886_2)).trans hw886_2), ((HB.out.cell (World.block_lt_of_cell? w _ hw886_3)).trans hw886_3), ((HB.out.cell (World.block_lt_of_cell? w _ hw886_4)).trans hw886_4), ((HB.out.cell (World.block_lt_of_cell? w _ hw886_5)).trans hw886_5), ((HB.out.cell (World.block_lt_of_cell? w _ hw886_6)).trans hw886_6), ((HB.out.cell (World.block_lt_of_cell? w _ hw888_0)).trans hw888_0), ((HB.out.cell (World.block_lt_of_cell? w _ hw888_1)).trans hw888_1), ((HB.out.cell (World.block_lt_of_cell? w _ hw888_2)).trans hw888_2), ((HB.out.cell (World.block_lt_of_cell? w _ hw888_3)).trans hw888_3), ((HB.out.cell (World.block_lt_of_cell? w _ hw888_4)).trans hw888_4), ((HB.out.cell (World.block_lt_of_cell? w _ hw888_5)).trans hw888_5), ((HB.out.cell (World.block_lt_of_cell? w _ hw888_6)).trans hw888_6)⟩ (fun hHeld => ?_); refine with_tabW sashlaw05_CellCounts.tab10 sashlaw05_CellCounts.bits10 (fun HT_ HW_ => ?_)
                generalize w29.drew = w31 at HO878 HO882 HO885 HB HR886_6 HR888_6 hx886_0 hx886_1 hx886_2 hx886_3 hx886_4 hx886_5 hx886_6 hx888_0 hx888_1 hx888_2 hx888_3 hx888_4 hx888_5 hx888_6 hHeld ⊢
                refine pure_ (i := 0) (N := some 31) (v := ?_) (a' := ?_) #[true, false, false, false, false, false, false, false, false, false, false] rfl rfl (any_of HT_.out (by kernel_rfl)) (fun _ _ _ h => h) (Or.inl ⟨by rfl, ?_⟩) ?_ ?_
                rotate_left
                · intro w'
                  go_simp
                  with_reducible rfl
                rotate_left
                · simp only [Act.put, List.setIfInBounds_toArray, List.set_cons_zero, List.set_cons_succ, i64_w, i32_w]
                  rfl
                refine pure_ (i := 1) (N := some 32) (v := ?_) (a' := ?_) #[true, true, false, false, false, false, false, false, false, false, false] rfl rfl (any_of HT_.out (by kernel_rfl)) (fun _ _ _ h => h) (Or.inl ⟨by rfl, ?_⟩) ?_ ?_
                rotate_left
                · intro w'
                  go_simp
                  with_reducible rfl
                rotate_left
                · simp only [Act.put, List.setIfInBounds_toArray, List.set_cons_zero, List.set_cons_succ, i64_w, i32_w]
                  rfl
                refine pure_ (i := 2) (N := some 33) (v := ?_) (a' := ?_) #[true, true, true, false, false, false, false, false, false, false, false] rfl rfl (any_of HT_.out (by kernel_rfl)) (fun _ _ _ h => h) (Or.inl ⟨by rfl, ?_⟩) ?_ ?_
                rotate_left
                · intro w'
                  go_simp
                  with_reducible rfl
                rotate_left
                · simp only [Act.put, List.setIfInBounds_toArray, List.set_cons_zero, List.set_cons_succ, i64_w, i32_w]
                  rfl
                refine pure_ (i := 5) (N := some 36) (v := ?_) (a' := ?_) #[true, true, true, false, false, true, false, false, false, false, false] rfl rfl (any_of HT_.out (by kernel_rfl)) (fun _ _ _ h => h) (Or.inl ⟨by rfl, ?_⟩) ?_ ?_
                rotate_left
                · intro w'
                  go_simp
                  with_reducible rfl
                rotate_left
                · simp only [Act.put, List.setIfInBounds_toArray, List.set_cons_zero, List.set_cons_succ, i64_w, i32_w]
                  rfl
                refine pure_ (i := 6) (N := some 37) (v := ?_) (a' := ?_) #[true, true, true, false, false, true, true, false, false, false, false] rfl rfl (any_of HT_.out (by kernel_rfl)) (fun _ _ _ h => h) (Or.inl ⟨by rfl, ?_⟩) ?_ ?_
                rotate_left
                · intro w'
                  go_simp
                  with_reducible rfl
                rotate_left
                · simp only [Act.put, List.setIfInBounds_toArray, List.set_cons_zero, List.set_cons_succ, i64_w, i32_w]
                  rfl
                refine pure_ (i := 7) (N := some 38) (v := ?_) (a' := ?_) #[true, true, true, false, false, true, true, true, false, false, false] rfl rfl (any_of HT_.out (by kernel_rfl)) (fun _ _ _ h => h) (Or.inl ⟨by rfl, ?_⟩) ?_ ?_
                rotate_left
                · intro w'
                  go_simp
                  with_reducible rfl
                rotate_left
                · simp only [Act.put, List.setIfInBounds_toArray, List.set_cons_zero, List.set_cons_succ, i64_w, i32_w]
                  rfl
                refine take_ (i := 3) (N := some 34) (v := ?_) (a' := ?_) #[true, true, true, true, false, true, true, true, false, false, false] rfl rfl (take_ofW HT_.out HW_.out (by kernel_rfl)) (fun _ _ _ h => h) (Or.inl ⟨by rfl, ?_⟩) hHeld ?_ ?_
                rotate_left
                · rintro w' ⟨s0, s1, s2, s3, s4, s5, s6, s7, s8, s9, s10, s11, s12, s13⟩
                  go_simp
                  with_reducible rfl
                rotate_left
                · simp only [Act.put, List.setIfInBounds_toArray, List.set_cons_zero, List.set_cons_succ, i64_w, i32_w]
                  rfl
                refine take_ (i := 8) (N := some 39) (v := ?_) (a' := ?_) #[true, true, true, true, false, true, true, true, true, false, false] rfl rfl (take_ofW HT_.out HW_.out (by kernel_rfl)) (fun _ _ _ h => h) (Or.inl ⟨by rfl, ?_⟩) hHeld ?_ ?_
                rotate_left
                · rintro w' ⟨s0, s1, s2, s3, s4, s5, s6, s7, s8, s9, s10, s11, s12, s13⟩
                  go_simp
                  with_reducible rfl
                rotate_left
                · simp only [Act.put, List.setIfInBounds_toArray, List.set_cons_zero, List.set_cons_succ, i64_w, i32_w]
                  rfl
                refine one_ (i := 4) (N := some 35) #[true, true, true, true, true, true, true, true, true, false, false] rfl rfl (one_of HT_.out (by kernel_rfl)) (by decide) (fun K hK => ?_)
                refine goes_ Try.func80 (by kernel_rfl) rfl #[.agg #[.int .u8 ((rd_T26 l0 x5_1).f0), .int .i64 ((rd_T26 l0 x5_1).f1.f0), .int .i64 ((rd_T26 l0 x5_1).f1.f1), .int .i64 ((rd_T26 l0 x5_1).f1.f2), .int .i64 ((rd_T26 l0 x5_1).f1.f3), .int .i64 ((rd_T26 l0 x5_1).f2), .slice A886_6 ((rd_T26 l0 x5_1).f3).length c886_6]] (by rfl) rfl rfl (by (try simp only [List.map_toArray, List.map_cons, List.map_nil]); first | done | rfl | (simp only [List.length_drop, List.length_take]; rfl)) ?_
                with_reducible refine (cell_Depth.calls k1 ((rd_T26 l0 x5_1).f0) ((rd_T26 l0 x5_1).f1.f0) ((rd_T26 l0 x5_1).f1.f1) ((rd_T26 l0 x5_1).f1.f2) ((rd_T26 l0 x5_1).f1.f3) ((rd_T26 l0 x5_1).f2) _ _ ((rd_T26 l0 x5_1).f3) t887 _ ?side1 ?side2 A15.out).mono ?_
                (case side1 => repeat (first | exact (Kd.C_below HR886_6.out HB.out) | (with_reducible refine Kd.C_alloc ?_ _) | (with_reducible refine Kd.C_drewN ?_ _) | (with_reducible refine Kd.C_drew ?_)))
                (case side2 => exact HC886_6.out)
                rintro e w32 ⟨rfl, hb⟩
                refine ⟨_, rfl, ?_⟩
                have n0_ := Aside0.mk (Kd.N_below (by (with_reducible repeat (first | apply Kd.N_alloc | apply Kd.N_drewN | apply Kd.N_drew)); exact HO878.out) hb)
                have n1_ := Aside0.mk (Kd.R_below (by (with_reducible repeat (first | apply Kd.R_alloc | apply Kd.R_drewN | apply Kd.R_drew)); exact HO882.out) hb)
                have n2_ := Aside0.mk (Kd.R_below (by (with_reducible repeat (first | apply Kd.R_alloc | apply Kd.R_drewN | apply Kd.R_drew)); exact HO885.out) hb)
                have n3_ := Aside0.mk (below_step (by repeat (first | (with_reducible first | exact HB.out | apply below_alloc | apply pw_below_drewN | apply below_drew1) | exact HB.out)) hb)
                clear HO878
                clear HO882
                clear HO885
                clear HB
                have HO878 := n0_
                have HO882 := n1_
                have HO885 := n2_
                have HB := n3_
                clear n0_ n1_ n2_ n3_
                (try clear hb)
                (try clear hb2)
                (try clear hk)
                (try clear hi)
                refine hK.out _ _ ⟨((HB.out.cell (World.block_lt_of_cell? w _ hw886_0)).trans hw886_0), ((HB.out.cell (World.block_lt_of_cell? w _ hw886_1)).trans hw886_1), ((HB.out.cell (World.block_lt_of_cell? w _ hw886_2)).trans hw886_2), ((HB.out.cell (World.block_lt_of_cell? w _ hw886_3)).trans hw886_3), ((HB.out.cell (World.block_lt_of_cell? w _ hw886_4)).trans hw886_4), ((HB.out.cell (World.block_lt_of_cell? w _ hw886_5)).trans hw886_5), ((HB.out.cell (World.block_lt_of_cell? w _ hw886_6)).trans hw886_6), ((HB.out.cell (World.block_lt_of_cell? w _ hw888_0)).trans hw888_0), ((HB.out.cell (World.block_lt_of_cell? w _ hw888_1)).trans hw888_1), ((HB.out.cell (World.block_lt_of_cell? w _ hw888_2)).trans hw888_2), ((HB.out.cell (World.block_lt_of_cell? w _ hw888_3)).trans hw888_3), ((HB.out.cell (World.block_lt_of_cell? w _ hw888_4)).trans hw888_4), ((HB.out.cell (World.block_lt_of_cell? w _ hw888_5)).trans hw888_5), ((HB.out.cell (World.block_lt_of_cell? w _ hw888_6)).trans hw888_6)⟩ (fun hHeld => ?_)
                clear hK K
                refine norm_ (a' := ?_) ?_ ?_
                rotate_left
                · show Act.put _ (some 35) _ = _
                  simp only [Act.put, List.setIfInBounds_toArray, List.set_cons_zero, List.set_cons_succ, i64_w, i32_w]
                  rfl
                refine one_ (i := 9) (N := some 40) #[true, true, true, true, true, true, true, true, true, true, false] rfl rfl (one_of HT_.out (by kernel_rfl)) (by decide) (fun K hK => ?_)
                refine goes_ Try.func81 (by kernel_rfl) rfl #[.agg #[.int .u8 ((rd_T26 l0 x5_1).f0), .int .i64 ((rd_T26 l0 x5_1).f1.f0), .int .i64 ((rd_T26 l0 x5_1).f1.f1), .int .i64 ((rd_T26 l0 x5_1).f1.f2), .int .i64 ((rd_T26 l0 x5_1).f1.f3), .int .i64 ((rd_T26 l0 x5_1).f2), .slice A886_6 ((rd_T26 l0 x5_1).f3).length c886_6]] (by rfl) rfl rfl (by (try simp only [List.map_toArray, List.map_cons, List.map_nil]); first | done | rfl | (simp only [List.length_drop, List.length_take]; rfl)) ?_
                with_reducible refine (sashref05_Depth.calls k1 ((rd_T26 l0 x5_1).f0) ((rd_T26 l0 x5_1).f1.f0) ((rd_T26 l0 x5_1).f1.f1) ((rd_T26 l0 x5_1).f1.f2) ((rd_T26 l0 x5_1).f1.f3) ((rd_T26 l0 x5_1).f2) _ _ ((rd_T26 l0 x5_1).f3) t889 _ ?side1 ?side2 A16.out).mono ?_
                (case side1 => repeat (first | exact (Kd.C_below HR888_6.out HB.out) | (with_reducible refine Kd.C_alloc ?_ _) | (with_reducible refine Kd.C_drewN ?_ _) | (with_reducible refine Kd.C_drew ?_)))
                (case side2 => exact HC888_6.out)
                rintro e w33 ⟨rfl, hb⟩
                refine ⟨_, rfl, ?_⟩
                have n0_ := Aside0.mk (Kd.N_below (by (with_reducible repeat (first | apply Kd.N_alloc | apply Kd.N_drewN | apply Kd.N_drew)); exact HO878.out) hb)
                have n1_ := Aside0.mk (Kd.R_below (by (with_reducible repeat (first | apply Kd.R_alloc | apply Kd.R_drewN | apply Kd.R_drew)); exact HO882.out) hb)
                have n2_ := Aside0.mk (Kd.R_below (by (with_reducible repeat (first | apply Kd.R_alloc | apply Kd.R_drewN | apply Kd.R_drew)); exact HO885.out) hb)
                have n3_ := Aside0.mk (below_step (by repeat (first | (with_reducible first | exact HB.out | apply below_alloc | apply pw_below_drewN | apply below_drew1) | exact HB.out)) hb)
                clear HO878
                clear HO882
                clear HO885
                clear HB
                have HO878 := n0_
                have HO882 := n1_
                have HO885 := n2_
                have HB := n3_
                clear n0_ n1_ n2_ n3_
                (try clear hb)
                (try clear hb2)
                (try clear hk)
                (try clear hi)
                refine hK.out _ _ ⟨((HB.out.cell (World.block_lt_of_cell? w _ hw886_0)).trans hw886_0), ((HB.out.cell (World.block_lt_of_cell? w _ hw886_1)).trans hw886_1), ((HB.out.cell (World.block_lt_of_cell? w _ hw886_2)).trans hw886_2), ((HB.out.cell (World.block_lt_of_cell? w _ hw886_3)).trans hw886_3), ((HB.out.cell (World.block_lt_of_cell? w _ hw886_4)).trans hw886_4), ((HB.out.cell (World.block_lt_of_cell? w _ hw886_5)).trans hw886_5), ((HB.out.cell (World.block_lt_of_cell? w _ hw886_6)).trans hw886_6), ((HB.out.cell (World.block_lt_of_cell? w _ hw888_0)).trans hw888_0), ((HB.out.cell (World.block_lt_of_cell? w _ hw888_1)).trans hw888_1), ((HB.out.cell (World.block_lt_of_cell? w _ hw888_2)).trans hw888_2), ((HB.out.cell (World.block_lt_of_cell? w _ hw888_3)).trans hw888_3), ((HB.out.cell (World.block_lt_of_cell? w _ hw888_4)).trans hw888_4), ((HB.out.cell (World.block_lt_of_cell? w _ hw888_5)).trans hw888_5), ((HB.out.cell (World.block_lt_of_cell? w _ hw888_6)).trans hw888_6)⟩ (fun hHeld => ?_)
                clear hK K
                refine norm_ (a' := ?_) ?_ ?_
                rotate_left
                · show Act.put _ (some 40) _ = _
                  simp only [Act.put, List.setIfInBounds_toArray, List.set_cons_zero, List.set_cons_succ, i64_w, i32_w]
                  rfl
                refine pure_ (i := 10) (N := some 41) (v := ?_) (a' := ?_) #[true, true, true, true, true, true, true, true, true, true, true] rfl rfl (any_of HT_.out (by kernel_rfl)) (fun _ _ _ h => h) (Or.inl ⟨by rfl, ?_⟩) ?_ ?_
                rotate_left
                · intro w'
                  go_simp
                  with_reducible rfl
                rotate_left
                · simp only [Act.put, List.setIfInBounds_toArray, List.set_cons_zero, List.set_cons_succ, i64_w, i32_w]
                  rfl
                refine done_ (done_of HT_.out (by kernel_rfl)) ?_
                try go_wp2
                go_ret
                exact ⟨by first | rfl | (simp [errW_none, errW_some] <;> rfl) | (simp [*, errW_none, errW_some] <;> rfl), by repeat (first | (with_reducible first | exact HB.out | apply below_alloc | apply pw_below_drewN | apply below_drew1) | exact HB.out)⟩
            · rw [if_neg c14] at H
              exact absurd H (by simp)
          · rw [if_neg c11] at H
            exact absurd H (by simp)
        · rw [if_neg c10] at H
          have c10b0 : decide (x5_1 < (l0.length : Int)) = false := decide_eq_false c10
          clear c10
          replace H := Option.bind_eq_some_iff.mp H
          obtain ⟨t890, A340, H⟩ := H
          replace H : (if t890 = x3_1 then ((cell_Leaves.f k1 l0).bind fun t891 => ((sashref05_Ints.f k1 t891 x4_1).bind fun t894 => (if t894 = true then ((sashlaw05_awake.f).bind fun t895 => (some t895)) else (some false)))) else (some false)) = some r := H
          have A34 := Aside0.mk A340
          clear A340
          by_cases c35 : t890 = x3_1
          · rw [if_pos c35] at H
            have c35b0 : (t890 == x3_1) = true := beq_iff_eq.mpr c35
            have c35b1 : (t890 != x3_1) = false := bne_eq_false_iff_eq.mpr c35
            clear c35
            replace H := Option.bind_eq_some_iff.mp H
            obtain ⟨t891, A360, H⟩ := H
            replace H : ((sashref05_Ints.f k1 t891 x4_1).bind fun t894 => (if t894 = true then ((sashlaw05_awake.f).bind fun t895 => (some t895)) else (some false))) = some r := H
            have A36 := Aside0.mk A360
            clear A360
            replace H := Option.bind_eq_some_iff.mp H
            obtain ⟨t894, A370, H⟩ := H
            replace H : (if t894 = true then ((sashlaw05_awake.f).bind fun t895 => (some t895)) else (some false)) = some r := H
            have A37 := Aside0.mk A370
            clear A370
            by_cases c38 : t894 = true
            · subst c38
              have H1 : ((sashlaw05_awake.f).bind fun t895 => (some t895)) = some r := by rw [if_pos rfl] at H; exact H
              clear H
              have H := H1
              clear H1
              replace H := Option.bind_eq_some_iff.mp H
              obtain ⟨t895, A390, H⟩ := H
              replace H : (some t895) = some r := H
              have A39 := Aside0.mk A390
              clear A390
              obtain rfl := Option.some.inj H
              go_wp2_with (first | ((with_reducible refine gate_callee (f := 82) rfl ?_); refine goesL_ (some 43) rfl rfl Try.func82 (by kernel_rfl) rfl #[.slice A0 l0.length c0] rfl (by (try simp only [List.map_toArray, List.map_cons, List.map_nil]); first | done | rfl | (simp only [List.length_drop, List.length_take]; rfl)) ?_; (with_reducible refine (cell_Size.calls k1 _ _ l0 t890 _ ?side1 ?side2 A34.out).mono ?_); (case side1 => repeat (first | exact (Kd.C_below HR0.out HB.out) | (with_reducible refine Kd.C_alloc ?_ _) | (with_reducible refine Kd.C_drewN ?_ _) | (with_reducible refine Kd.C_drew ?_))); (case side2 => exact HC0.out); rintro e w40 ⟨rfl, hb⟩; refine ⟨_, rfl, ?_⟩; have n0_ := Aside0.mk (Kd.R_below (by (with_reducible repeat (first | apply Kd.R_alloc | apply Kd.R_drewN | apply Kd.R_drew)); exact HO_4.out) hb); have n1_ := Aside0.mk (below_step (by repeat (first | (with_reducible first | exact HB.out | apply below_alloc | apply pw_below_drewN | apply below_drew1) | exact HB.out)) hb); clear HO_4; clear HB; have HO_4 := n0_; have HB := n1_; clear n0_ n1_; (try clear hb); (try clear hb2); (try clear hk); (try clear hi)) | (go_at_call 83; (with_reducible refine (cell_Leaves.calls k1 _ _ l0 t891 _ ?side1 ?side2 A36.out).mono ?_); (case side1 => repeat (first | exact (Kd.C_below HR0.out HB.out) | (with_reducible refine Kd.C_alloc ?_ _) | (with_reducible refine Kd.C_drewN ?_ _) | (with_reducible refine Kd.C_drew ?_))); (case side2 => exact HC0.out); rintro e w41 ⟨v892, rfl, ho0, hb⟩; have n0_ := Aside0.mk (Kd.R_elder' (by (with_reducible repeat (first | apply Kd.R_alloc | apply Kd.R_drewN | apply Kd.R_drew)); exact HO_4.out) (Kd.R_base ho0) hb); have n1_ := Aside0.mk (Kd.R_lower (Kd.R_new' ho0 (Kd.R_lt (by (with_reducible repeat (first | apply Kd.R_alloc | apply Kd.R_drewN | apply Kd.R_drew)); exact HO_4.out))) (below_size (by repeat (first | (with_reducible first | exact HB.out | apply below_alloc | apply pw_below_drewN | apply below_drew1) | exact HB.out)))); have n2_ := Aside0.mk (below_step (by repeat (first | (with_reducible first | exact HB.out | apply below_alloc | apply pw_below_drewN | apply below_drew1) | exact HB.out)) hb); clear HO_4; clear HB; have HO_4 := n0_; have HO893 := n1_; have HB := n2_; clear n0_ n1_ n2_; (try clear hb); (try clear hb2); (try clear hk); (try clear hi); (try clear ho0); obtain ⟨Ao42, co42, eo42⟩ := Kd.R_slice HO893.out; subst eo42; obtain ⟨Ao43, co43, eo43⟩ := Kd.R_slice HO_4.out; subst eo43) | (go_at_call 51; (with_reducible refine (sashref05_Ints.calls k1 _ _ t891 _ _ x4_1 true _ ?side1 ?side2 ?side3 ?side4 A37.out).mono ?_); (case side1 => repeat (first | exact (Kd.R_reads' HO893.out).2.2 | (with_reducible refine Kd.C_alloc ?_ _) | (with_reducible refine Kd.C_drewN ?_ _) | (with_reducible refine Kd.C_drew ?_))); (case side2 => exact (Kd.R_reads' HO893.out).2.1); (case side3 => repeat (first | exact (Kd.R_reads' HO_4.out).2.2 | (with_reducible refine Kd.C_alloc ?_ _) | (with_reducible refine Kd.C_drewN ?_ _) | (with_reducible refine Kd.C_drew ?_))); (case side4 => exact (Kd.R_reads' HO_4.out).2.1); rintro e w' ⟨rfl, ⟨nd, rfl⟩⟩) | (go_at_call 75; (with_reducible refine (sashlaw05_awake.calls  t895 _ A39.out).mono ?_); rintro e w44 ⟨rfl, hb⟩; have n0_ := Aside0.mk (Kd.R_below (by (with_reducible repeat (first | apply Kd.R_alloc | apply Kd.R_drewN | apply Kd.R_drew)); exact HO_4.out) hb); have n1_ := Aside0.mk (Kd.R_below (by (with_reducible repeat (first | apply Kd.R_alloc | apply Kd.R_drewN | apply Kd.R_drew)); exact HO893.out) hb); have n2_ := Aside0.mk (below_step (by repeat (first | (with_reducible first | exact HB.out | apply below_alloc | apply pw_below_drewN | apply below_drew1) | exact HB.out)) hb); clear HO_4; clear HO893; clear HB; have HO_4 := n0_; have HO893 := n1_; have HB := n2_; clear n0_ n1_ n2_; (try clear hb); (try clear hb2); (try clear hk); (try clear hi)))
              go_ret
              exact ⟨by first | rfl | (simp [errW_none, errW_some] <;> rfl) | (simp [*, errW_none, errW_some] <;> rfl), by repeat (first | (with_reducible first | exact HB.out | apply below_alloc | apply pw_below_drewN | apply below_drew1) | exact HB.out)⟩
            · replace c38 := Bool.eq_false_iff.mpr c38
              subst c38
              have H1 : (some false) = some r := by rw [if_neg (show ¬ (false = true) by decide)] at H; exact H
              clear H
              have H := H1
              clear H1
              obtain rfl := Option.some.inj H
              go_wp2_with (first | ((with_reducible refine gate_callee (f := 82) rfl ?_); refine goesL_ (some 43) rfl rfl Try.func82 (by kernel_rfl) rfl #[.slice A0 l0.length c0] rfl (by (try simp only [List.map_toArray, List.map_cons, List.map_nil]); first | done | rfl | (simp only [List.length_drop, List.length_take]; rfl)) ?_; (with_reducible refine (cell_Size.calls k1 _ _ l0 t890 _ ?side1 ?side2 A34.out).mono ?_); (case side1 => repeat (first | exact (Kd.C_below HR0.out HB.out) | (with_reducible refine Kd.C_alloc ?_ _) | (with_reducible refine Kd.C_drewN ?_ _) | (with_reducible refine Kd.C_drew ?_))); (case side2 => exact HC0.out); rintro e w45 ⟨rfl, hb⟩; refine ⟨_, rfl, ?_⟩; have n0_ := Aside0.mk (Kd.R_below (by (with_reducible repeat (first | apply Kd.R_alloc | apply Kd.R_drewN | apply Kd.R_drew)); exact HO_4.out) hb); have n1_ := Aside0.mk (below_step (by repeat (first | (with_reducible first | exact HB.out | apply below_alloc | apply pw_below_drewN | apply below_drew1) | exact HB.out)) hb); clear HO_4; clear HB; have HO_4 := n0_; have HB := n1_; clear n0_ n1_; (try clear hb); (try clear hb2); (try clear hk); (try clear hi)) | (go_at_call 83; (with_reducible refine (cell_Leaves.calls k1 _ _ l0 t891 _ ?side1 ?side2 A36.out).mono ?_); (case side1 => repeat (first | exact (Kd.C_below HR0.out HB.out) | (with_reducible refine Kd.C_alloc ?_ _) | (with_reducible refine Kd.C_drewN ?_ _) | (with_reducible refine Kd.C_drew ?_))); (case side2 => exact HC0.out); rintro e w46 ⟨v892, rfl, ho0, hb⟩; have n0_ := Aside0.mk (Kd.R_elder' (by (with_reducible repeat (first | apply Kd.R_alloc | apply Kd.R_drewN | apply Kd.R_drew)); exact HO_4.out) (Kd.R_base ho0) hb); have n1_ := Aside0.mk (Kd.R_lower (Kd.R_new' ho0 (Kd.R_lt (by (with_reducible repeat (first | apply Kd.R_alloc | apply Kd.R_drewN | apply Kd.R_drew)); exact HO_4.out))) (below_size (by repeat (first | (with_reducible first | exact HB.out | apply below_alloc | apply pw_below_drewN | apply below_drew1) | exact HB.out)))); have n2_ := Aside0.mk (below_step (by repeat (first | (with_reducible first | exact HB.out | apply below_alloc | apply pw_below_drewN | apply below_drew1) | exact HB.out)) hb); clear HO_4; clear HB; have HO_4 := n0_; have HO893 := n1_; have HB := n2_; clear n0_ n1_ n2_; (try clear hb); (try clear hb2); (try clear hk); (try clear hi); (try clear ho0); obtain ⟨Ao47, co47, eo47⟩ := Kd.R_slice HO893.out; subst eo47; obtain ⟨Ao48, co48, eo48⟩ := Kd.R_slice HO_4.out; subst eo48) | (go_at_call 51; (with_reducible refine (sashref05_Ints.calls k1 _ _ t891 _ _ x4_1 false _ ?side1 ?side2 ?side3 ?side4 A37.out).mono ?_); (case side1 => repeat (first | exact (Kd.R_reads' HO893.out).2.2 | (with_reducible refine Kd.C_alloc ?_ _) | (with_reducible refine Kd.C_drewN ?_ _) | (with_reducible refine Kd.C_drew ?_))); (case side2 => exact (Kd.R_reads' HO893.out).2.1); (case side3 => repeat (first | exact (Kd.R_reads' HO_4.out).2.2 | (with_reducible refine Kd.C_alloc ?_ _) | (with_reducible refine Kd.C_drewN ?_ _) | (with_reducible refine Kd.C_drew ?_))); (case side4 => exact (Kd.R_reads' HO_4.out).2.1); rintro e w' ⟨rfl, ⟨nd, rfl⟩⟩))
              go_ret
              exact ⟨by first | rfl | (simp [errW_none, errW_some] <;> rfl) | (simp [*, errW_none, errW_some] <;> rfl), by repeat (first | (with_reducible first | exact HB.out | apply below_alloc | apply pw_below_drewN | apply below_drew1) | exact HB.out)⟩
          · rw [if_neg c35] at H
            have c35b0 : (t890 == x3_1) = false := beq_eq_false_iff_ne.mpr c35
            have c35b1 : (t890 != x3_1) = true := bne_iff_ne.mpr c35
            obtain rfl := Option.some.inj H
            go_wp2_with (first | ((with_reducible refine gate_callee (f := 82) rfl ?_); refine goesL_ (some 43) rfl rfl Try.func82 (by kernel_rfl) rfl #[.slice A0 l0.length c0] rfl (by (try simp only [List.map_toArray, List.map_cons, List.map_nil]); first | done | rfl | (simp only [List.length_drop, List.length_take]; rfl)) ?_; (with_reducible refine (cell_Size.calls k1 _ _ l0 t890 _ ?side1 ?side2 A34.out).mono ?_); (case side1 => repeat (first | exact (Kd.C_below HR0.out HB.out) | (with_reducible refine Kd.C_alloc ?_ _) | (with_reducible refine Kd.C_drewN ?_ _) | (with_reducible refine Kd.C_drew ?_))); (case side2 => exact HC0.out); rintro e w49 ⟨rfl, hb⟩; refine ⟨_, rfl, ?_⟩; have n0_ := Aside0.mk (Kd.R_below (by (with_reducible repeat (first | apply Kd.R_alloc | apply Kd.R_drewN | apply Kd.R_drew)); exact HO_4.out) hb); have n1_ := Aside0.mk (below_step (by repeat (first | (with_reducible first | exact HB.out | apply below_alloc | apply pw_below_drewN | apply below_drew1) | exact HB.out)) hb); clear HO_4; clear HB; have HO_4 := n0_; have HB := n1_; clear n0_ n1_; (try clear hb); (try clear hb2); (try clear hk); (try clear hi)))
            go_ret
            exact ⟨by first | rfl | (simp [errW_none, errW_some] <;> rfl) | (simp [*, errW_none, errW_some] <;> rfl), by repeat (first | (with_reducible first | exact HB.out | apply below_alloc | apply pw_below_drewN | apply below_drew1) | exact HB.out)⟩

end Go.Proofs.Ytfdmfgaiblfbhaa.P
/- Rows of trees: is one great, may they all be: plain data. -/
namespace Go.Proofs.Ytfdmfgaiblfbhaa.P
open Go.RowKit Go.Proofs.YtfdmfgaiblfbhaaW.PrintWords Go.Proofs.YtfdmfgaiblfbhaaW.PrintLast Go.Proofs.YtfdmfgaiblfbhaaW.PrintMore
theorem greatAll_ev (l : List S26) (hl : l.length ≤ 1048576) (h : ∀ x, x ∈ l → sz x ≤ 1048576) : ∃ b : Bool, Ev (fun k => sashref05_GreatAll.f k l) b ∧ (b = false → l.length ≤ 20 ∧ ∀ x, x ∈ l → sz x ≤ 200) := by
  by_cases h20 : (l.length : Int) > 20
  · refine ⟨true, ?_, fun e => by cases e⟩
    unfold sashref05_GreatAll.f
    exact ev_pos h20 (Ev.now _)
  · have key : ∀ (rest pre : List S26), pre ++ rest = l → ∃ b : Bool, Ev (fun k => sashref05_GreatAll.l0 k l (l.length : Int) (pre.length : Int)) b ∧ (b = false → ∀ x, x ∈ rest → sz x ≤ 200) := by
      intro rest
      induction rest with
      | nil =>
        intro pre hp
        rw [List.append_nil] at hp
        refine ⟨false, Ev.step (f := fun _ => some false) (fun k => ?_) (Ev.now _), fun _ x hx => by cases hx⟩
        simp only [sashref05_GreatAll.l0]
        rw [if_neg (by rw [hp]; omega)]
      | cons x xs ihr =>
        intro pre hp
        have hlt : (pre.length : Int) < (l.length : Int) := by rw [← hp, List.length_append, List.length_cons]; omega
        obtain ⟨b, e2, hb⟩ := ihr (pre ++ [x]) (by rw [List.append_assoc]; exact hp)
        have hr : rd_T26 l (pre.length : Int) = x := by rw [← hp]; exact rd26_in pre x xs
        have hu : wrap64 ((pre.length : Int) + 1) = ((pre ++ [x]).length : Int) := up_in pre x xs (by rw [hp]; omega)
        obtain ⟨g, eg, hg⟩ := great_ev x (h x (by rw [← hp]; simp))
        refine ⟨g || b, ?_, fun e y hy => ?_⟩
        · refine Ev.step (f := fun k => (sashref05_Great.f k x.f0 x.f1.f0 x.f1.f1 x.f1.f2 x.f1.f3 x.f2 x.f3).bind fun t => (if t = true then (some true) else (sashref05_GreatAll.l0 k l (l.length : Int) ((pre ++ [x]).length : Int)))) (fun k => ?_) (Ev.bind eg ?_)
          · simp only [sashref05_GreatAll.l0]
            rw [if_pos hlt, if_pos (by omega), if_pos hlt, hr, hu]
          · cases g with
            | true => exact ev_pos rfl (Ev.now _)
            | false => exact ev_neg (by simp) e2
        · rw [Bool.or_eq_false_iff] at e
          rcases List.mem_cons.1 hy with rfl | hy
          · exact hg e.1
          · exact hb e.2 y hy
    obtain ⟨b, e, hb⟩ := key l [] rfl
    refine ⟨b, ?_, fun hf => ⟨by omega, hb hf⟩⟩
    unfold sashref05_GreatAll.f
    exact ev_neg h20 e
end Go.Proofs.Ytfdmfgaiblfbhaa.P
/- How deep a tree is, by the code and by the reference: plain data. -/
namespace Go.Proofs.Ytfdmfgaiblfbhaa.P
open Go.RowKit Go.Proofs.YtfdmfgaiblfbhaaW.PrintWords Go.Proofs.YtfdmfgaiblfbhaaW.PrintLast Go.Proofs.YtfdmfgaiblfbhaaW.PrintMore
mutual
def depC : S26 → Int
  | ⟨_, _, _, l⟩ => depL 0 l + 1
def depL : Int → List S26 → Int
  | n, [] => n
  | n, k :: ks => depL (max n (depC k)) ks
end
theorem depC_eq (c : S26) : depC c = depL 0 c.f3 + 1 := by cases c; simp [depC]
theorem depL_nil (n : Int) : depL n [] = n := by simp [depL]
theorem depL_cons (n : Int) (k : S26) (ks : List S26) : depL n (k :: ks) = depL (max n (depC k)) ks := by simp [depL]
theorem dep_bound : ∀ (N : Nat), (∀ c : S26, sz c ≤ N → 1 ≤ depC c ∧ depC c ≤ (sz c : Int)) ∧ (∀ l : List S26, szL l ≤ N → ∀ n : Int, 0 ≤ n → n ≤ depL n l ∧ (depL n l ≤ n ∨ depL n l ≤ (szL l : Int))) := by
  intro N
  induction N with
  | zero =>
    refine ⟨fun c h => ?_, fun l h => ?_⟩
    · rw [sz_eq] at h; omega
    · cases l with
      | nil => intro n hn; rw [depL_nil]; omega
      | cons z zs => rw [szL_cons, sz_eq] at h; omega
  | succ N ih =>
    have hC : ∀ c : S26, sz c ≤ N + 1 → 1 ≤ depC c ∧ depC c ≤ (sz c : Int) := by
      intro c h
      have hs := sz_eq c
      rw [depC_eq]
      have := ih.2 c.f3 (by omega) 0 (by omega)
      omega
    refine ⟨hC, fun l => ?_⟩
    induction l with
    | nil => intro _ n hn; rw [depL_nil]; omega
    | cons z zs ihl =>
      intro h n hn
      rw [szL_cons] at h ⊢
      rw [depL_cons]
      have h1 := hC z (by omega)
      have h2 := ihl (by omega) (max n (depC z)) (by omega)
      omega
theorem cell_depth_ev : ∀ (N : Nat) (c : S26), sz c ≤ N → N ≤ 1048576 → Ev (fun k => cell_Depth.f k c.f0 c.f1.f0 c.f1.f1 c.f1.f2 c.f1.f3 c.f2 c.f3) (depC c) := by
  intro N
  induction N with
  | zero => intro c h _; rw [sz_eq] at h; omega
  | succ N ih =>
    intro c hc hN
    have hs := sz_eq c
    have hlen := szL_len c.f3
    have key : ∀ (rest pre : List S26), pre ++ rest = c.f3 → ∀ n : Int, 0 ≤ n → n ≤ 1048576 → Ev (fun k => cell_Depth.l0 k n c.f3 (c.f3.length : Int) (pre.length : Int)) (depL n rest + 1) := by
      intro rest
      induction rest with
      | nil =>
        intro pre hp n h0 h1
        rw [List.append_nil] at hp
        rw [depL_nil]
        refine Ev.step (f := fun _ => some (n + 1)) (fun k => ?_) (Ev.now _)
        simp only [cell_Depth.l0]
        rw [if_neg (by rw [hp]; omega), wq (by omega) (by omega)]
      | cons x xs ihr =>
        intro pre hp n h0 h1
        have hlt : (pre.length : Int) < (c.f3.length : Int) := by rw [← hp, List.length_append, List.length_cons]; omega
        have hsum : szL c.f3 = szL pre + (sz x + szL xs) := by rw [← hp, szL_app, szL_cons]
        have hb := (dep_bound (sz x)).1 x (Nat.le_refl _)
        have e2 := ihr (pre ++ [x]) (by rw [List.append_assoc]; exact hp) (max n (depC x)) (by omega) (by omega)
        have hr : rd_T26 c.f3 (pre.length : Int) = x := by rw [← hp]; exact rd26_in pre x xs
        have hu : wrap64 ((pre.length : Int) + 1) = ((pre ++ [x]).length : Int) := up_in pre x xs (by rw [hp]; omega)
        rw [depL_cons]
        refine Ev.step (f := fun k => (cell_Depth.f k x.f0 x.f1.f0 x.f1.f1 x.f1.f2 x.f1.f3 x.f2 x.f3).bind fun t => cell_Depth.l0 k (mx n t) c.f3 (c.f3.length : Int) ((pre ++ [x]).length : Int)) (fun k => ?_) (Ev.bind (ih x (by omega) (by omega)) ?_)
        · simp only [cell_Depth.l0]
          rw [if_pos hlt, if_pos (by omega), if_pos hlt, hr, hu]
        · rw [show mx n (depC x) = max n (depC x) by unfold mx; omega]
          exact e2
    rw [depC_eq]
    refine Ev.step (fun k => ?_) (key c.f3 [] rfl 0 (by omega) (by omega))
    simp only [cell_Depth.f]
    rfl
theorem ref_depth_ev : ∀ (N : Nat) (c : S26), sz c ≤ N → N ≤ 1048576 → Ev (fun k => sashref05_Depth.f k c.f0 c.f1.f0 c.f1.f1 c.f1.f2 c.f1.f3 c.f2 c.f3) (depC c) := by
  intro N
  induction N with
  | zero => intro c h _; rw [sz_eq] at h; omega
  | succ N ih =>
    intro c hc hN
    have hs := sz_eq c
    have hlen := szL_len c.f3
    have key : ∀ (rest pre : List S26), pre ++ rest = c.f3 → ∀ n : Int, 0 ≤ n → n ≤ 1048576 → Ev (fun k => sashref05_Depth.l0 k n (c.f3.length : Int) (pre.length : Int) c.f0 c.f1.f0 c.f1.f1 c.f1.f2 c.f1.f3 c.f2 c.f3) (depL n rest + 1) := by
      intro rest
      induction rest with
      | nil =>
        intro pre hp n h0 h1
        rw [List.append_nil] at hp
        rw [depL_nil]
        refine Ev.step (f := fun _ => some (n + 1)) (fun k => ?_) (Ev.now _)
        simp only [sashref05_Depth.l0]
        rw [if_neg (by rw [hp]; omega), wq (by omega) (by omega)]
      | cons x xs ihr =>
        intro pre hp n h0 h1
        have hlt : (pre.length : Int) < (c.f3.length : Int) := by rw [← hp, List.length_append, List.length_cons]; omega
        have hsum : szL c.f3 = szL pre + (sz x + szL xs) := by rw [← hp, szL_app, szL_cons]
        have hb := (dep_bound (sz x)).1 x (Nat.le_refl _)
        have e2 := ihr (pre ++ [x]) (by rw [List.append_assoc]; exact hp) (max n (depC x)) (by omega) (by omega)
        have hr : rd_T26 c.f3 (pre.length : Int) = x := by rw [← hp]; exact rd26_in pre x xs
        have hu : wrap64 ((pre.length : Int) + 1) = ((pre ++ [x]).length : Int) := up_in pre x xs (by rw [hp]; omega)
        have ex := ih x (by omega) (by omega)
        rw [depL_cons]
        refine Ev.step (f := fun k => (sashref05_Depth.f k x.f0 x.f1.f0 x.f1.f1 x.f1.f2 x.f1.f3 x.f2 x.f3).bind fun t => (if t > n then ((sashref05_Depth.f k x.f0 x.f1.f0 x.f1.f1 x.f1.f2 x.f1.f3 x.f2 x.f3).bind fun t2 => sashref05_Depth.l0 k t2 (c.f3.length : Int) ((pre ++ [x]).length : Int) c.f0 c.f1.f0 c.f1.f1 c.f1.f2 c.f1.f3 c.f2 c.f3) else sashref05_Depth.l0 k n (c.f3.length : Int) ((pre ++ [x]).length : Int) c.f0 c.f1.f0 c.f1.f1 c.f1.f2 c.f1.f3 c.f2 c.f3)) (fun k => ?_) (Ev.bind ex ?_)
        · simp only [sashref05_Depth.l0]
          rw [if_pos hlt, if_pos (by omega), if_pos hlt, hr, hu]
        · by_cases hgt : depC x > n
          · refine ev_pos hgt (Ev.bind ex ?_)
            rw [show max n (depC x) = depC x by omega] at e2 ⊢
            exact e2
          · refine ev_neg hgt ?_
            rw [show max n (depC x) = n by omega] at e2 ⊢
            exact e2
    rw [depC_eq]
    refine Ev.step (fun k => ?_) (key c.f3 [] rfl 0 (by omega) (by omega))
    simp only [sashref05_Depth.f]
    rfl
end Go.Proofs.Ytfdmfgaiblfbhaa.P
/- The leaves' numbers, by the code: plain data. -/
namespace Go.Proofs.Ytfdmfgaiblfbhaa.P
open Go.RowKit Go.Proofs.YtfdmfgaiblfbhaaW.PrintWords Go.Proofs.YtfdmfgaiblfbhaaW.PrintLast Go.Proofs.YtfdmfgaiblfbhaaW.PrintMore

def idsL (l : List S26) : List Int := ((allL l).filter fun x => decide (x.f0 = 1)).map (·.f2)
theorem idsL_app (a b : List S26) : idsL (a ++ b) = idsL a ++ idsL b := by
  unfold idsL
  rw [allL_app, List.filter_append, List.map_append]
theorem idsL_one (x : S26) : idsL [x] = (if x.f0 = 1 then [x.f2] else []) ++ idsL x.f3 := by
  unfold idsL
  rw [allL_cons, allL_nil, List.append_nil, allC_eq]
  by_cases h : x.f0 = 1
  · rw [if_pos h, List.filter_cons_of_pos (by simpa using h)]
    rfl
  · rw [if_neg h, List.filter_cons_of_neg (by simpa using h)]
    rfl
theorem idsL_len (l : List S26) : (idsL l).length ≤ szL l := by unfold idsL; rw [List.length_map]; exact List.length_filter_le _ _
theorem cell_leaves_ev : ∀ (N : Nat) (l : List S26), szL l ≤ N → N ≤ 1048576 → Ev (fun k => cell_Leaves.f k l) (idsL l) := by
  intro N
  induction N with
  | zero =>
    intro l h _
    cases l with
    | nil =>
      refine ⟨2, fun k hk => ?_⟩
      obtain ⟨m, rfl⟩ : ∃ m, k = m + 2 := ⟨k - 2, by omega⟩
      simp [cell_Leaves.f, cell_Leaves.l0, idsL, allL_nil]
    | cons x xs => rw [szL_cons, sz_eq] at h; omega
  | succ N ih =>
    intro l hl hN
    have hlen := szL_len l
    have key : ∀ (rest pre : List S26), pre ++ rest = l → Ev (fun k => cell_Leaves.l0 k (idsL pre) l (l.length : Int) (pre.length : Int)) (idsL l) := by
      intro rest
      induction rest with
      | nil =>
        intro pre hp
        rw [List.append_nil] at hp
        refine Ev.step (f := fun _ => some (idsL l)) (fun k => ?_) (Ev.now _)
        simp only [cell_Leaves.l0]
        rw [if_neg (by rw [hp]; omega), hp]
      | cons x xs ihr =>
        intro pre hp
        have hs := sz_eq x
        have hlt : (pre.length : Int) < (l.length : Int) := by rw [← hp, List.length_append, List.length_cons]; omega
        have hsum : szL l = szL pre + (sz x + szL xs) := by rw [← hp, szL_app, szL_cons]
        have e2 := ihr (pre ++ [x]) (by rw [List.append_assoc]; exact hp)
        have hr : rd_T26 l (pre.length : Int) = x := by rw [← hp]; exact rd26_in pre x xs
        have hu : wrap64 ((pre.length : Int) + 1) = ((pre ++ [x]).length : Int) := up_in pre x xs (by rw [hp]; omega)
        have h1 := idsL_len pre
        have h2 := idsL_len x.f3
        rw [idsL_app, idsL_one] at e2
        have hx := ih x.f3 (by omega) (by omega)
        by_cases hk : x.f0 = 1
        · rw [if_pos hk, ← List.append_assoc] at e2
          have hb : (idsL pre ++ [x.f2]).length + (idsL x.f3).length < 17592186044416 := by rw [List.length_append, List.length_singleton]; omega
          refine Ev.step (f := fun k => (cell_Leaves.f k x.f3).bind fun t => (if (idsL pre ++ [x.f2]).length + t.length < 17592186044416 then (cell_Leaves.l0 k ((idsL pre ++ [x.f2]) ++ t) l (l.length : Int) ((pre ++ [x]).length : Int)) else none)) (fun k => ?_) (Ev.bind hx (ev_pos hb e2))
          simp only [cell_Leaves.l0]
          rw [if_pos hlt, if_pos (by omega), if_pos hlt, hr, if_pos hk, if_pos (by omega), Option.bind_some, hu]
        · rw [if_neg hk, List.nil_append] at e2
          refine Ev.step (f := fun k => (cell_Leaves.f k x.f3).bind fun t => (if (idsL pre).length + t.length < 17592186044416 then (cell_Leaves.l0 k (idsL pre ++ t) l (l.length : Int) ((pre ++ [x]).length : Int)) else none)) (fun k => ?_) (Ev.bind hx (ev_pos (by omega) e2))
          simp only [cell_Leaves.l0]
          rw [if_pos hlt, if_pos (by omega), if_pos hlt, hr, if_neg hk, hu]
    refine Ev.step (fun k => ?_) (key l [] rfl)
    simp only [cell_Leaves.f]
    unfold idsL
    rw [allL_nil]
    rfl
end Go.Proofs.Ytfdmfgaiblfbhaa.P
/- The leaves' numbers, by the reference: plain data. -/
namespace Go.Proofs.Ytfdmfgaiblfbhaa.P
open Go.RowKit Go.Proofs.YtfdmfgaiblfbhaaW.PrintWords Go.Proofs.YtfdmfgaiblfbhaaW.PrintLast Go.Proofs.YtfdmfgaiblfbhaaW.PrintMore
theorem ids_ev (c : S26) (h : sz c ≤ 1048576) : Ev (fun k => sashref05_IDs.f k c.f0 c.f1.f0 c.f1.f1 c.f1.f2 c.f1.f3 c.f2 c.f3) (idsL [c]) := by
  unfold sashref05_IDs.f
  refine Ev.bind (leaves_ev c h) ?_
  have hsz : (leavesC c).length ≤ 1048576 := by have := leaves_len c; omega
  have key : ∀ (rest pre : List S26), pre ++ rest = leavesC c → Ev (fun k => sashref05_IDs.l0 k (pre.map (·.f2)) (leavesC c) ((leavesC c).length : Int) (pre.length : Int)) ((leavesC c).map (·.f2)) := by
    intro rest
    induction rest with
    | nil =>
      intro pre hp
      rw [List.append_nil] at hp
      refine Ev.step (f := fun _ => some ((leavesC c).map (·.f2))) (fun k => ?_) (Ev.now _)
      simp only [sashref05_IDs.l0]
      rw [if_neg (by rw [hp]; omega), hp]
    | cons x xs ihr =>
      intro pre hp
      have hl : (pre.length : Int) < ((leavesC c).length : Int) := by rw [← hp, List.length_append, List.length_cons]; omega
      have e2 := ihr (pre ++ [x]) (by rw [List.append_assoc]; exact hp)
      have hr : rd_T26 (leavesC c) (pre.length : Int) = x := by rw [← hp]; exact rd26_in pre x xs
      have hu : wrap64 ((pre.length : Int) + 1) = ((pre ++ [x]).length : Int) := up_in pre x xs (by rw [hp]; omega)
      rw [List.map_append] at e2
      refine Ev.step (fun k => ?_) e2
      simp only [sashref05_IDs.l0]
      rw [if_pos hl, if_pos (by omega), if_pos hl, if_pos (by rw [List.length_map]; omega), hr, hu]
      rfl
  have e := key (leavesC c) [] rfl
  rw [show idsL [c] = (leavesC c).map (·.f2) by unfold idsL leavesC; rw [allL_cons, allL_nil, List.append_nil]]
  exact e
theorem ints_self (l : List Int) (h : l.length ≤ 1048576) : Ev (fun k => sashref05_Ints.f k l l) true := by
  unfold sashref05_Ints.f
  refine ev_pos rfl ?_
  have key : ∀ d i : Nat, i + d = l.length → Ev (fun k => sashref05_Ints.l0 k l l (l.length : Int) (i : Int)) true := by
    intro d
    induction d with
    | zero =>
      intro i hi
      refine Ev.step (f := fun _ => some true) (fun k => ?_) (Ev.now _)
      simp only [sashref05_Ints.l0]
      rw [if_neg (by omega)]
    | succ d ih =>
      intro i hi
      have e := ih (i + 1) (by omega)
      have hw : wrap64 ((i : Int) + 1) = ((i + 1 : Nat) : Int) := (wq (by omega) (by omega)).trans (by omega)
      refine Ev.step (fun k => ?_) e
      simp only [sashref05_Ints.l0]
      rw [if_pos (by omega), if_pos (by omega), if_pos (by omega), if_pos (by omega), if_pos trivial, hw]
  exact key l.length 0 (by omega)
end Go.Proofs.Ytfdmfgaiblfbhaa.P
/- How a law's arguments read: cells, rectangles, panes, and rows of these, as plain data. -/
namespace Go.Proofs.Ytfdmfgaiblfbhaa.P
open Go.RowKit Go.Proofs.YtfdmfgaiblfbhaaW.PrintWords Go.Proofs.YtfdmfgaiblfbhaaW.PrintLast Go.Proofs.YtfdmfgaiblfbhaaW.PrintMore
open Go.ChangeShapes Go.WideShapes Go.ChangeAt Go.Joins Go.Deep

/-! ### What is known of the numbers -/
def I64 (n : Int) : Prop := -9223372036854775808 ≤ n ∧ n ≤ 9223372036854775807
def U8 (n : Int) : Prop := 0 ≤ n ∧ n ≤ 255
def U16 (n : Int) : Prop := 0 ≤ n ∧ n ≤ 65535
def wf23 (r : S23) : Prop := I64 r.f0 ∧ I64 r.f1 ∧ I64 r.f2 ∧ I64 r.f3
def wf35 (p : S35) : Prop := I64 p.f0 ∧ wf23 p.f1
def wfn26 : Nat → S26 → Prop
  | 0, _ => False
  | n + 1, c => U8 c.f0 ∧ wf23 c.f1 ∧ I64 c.f2 ∧ c.f3.length ≤ 9223372036854775807 ∧ ∀ k, k ∈ c.f3 → wfn26 n k
def wf26 (c : S26) : Prop := ∃ n, wfn26 n c
theorem wfn26_le : ∀ {n m : Nat} (_ : n ≤ m) {c : S26}, wfn26 n c → wfn26 m c
  | 0, _, _, _, h => h.elim
  | n + 1, 0, hm, _, _ => absurd hm (by omega)
  | n + 1, m + 1, hm, _, h => ⟨h.1, h.2.1, h.2.2.1, h.2.2.2.1, fun k hk => wfn26_le (by omega) (h.2.2.2.2 k hk)⟩

section
variable {H : Type} {enc : TypeId × Value → H} {P : Program} {w : World} {base : Nat} {spare : Nat → Bool} {held : Bool}
theorem row_of {α : Type} {Q : Nat → α → Prop} : ∀ (n : Nat), (∀ i, i < n → ∃ p, Q i p) → ∃ l : List α, l.length = n ∧ ∀ i p, l[i]? = some p → Q i p
  | 0, _ => ⟨[], rfl, fun i p h => by simp at h⟩
  | n + 1, h => by
    obtain ⟨l, hl, hq⟩ := row_of n fun i hi => h i (by omega)
    obtain ⟨p, hp⟩ := h n (by omega)
    refine ⟨l ++ [p], by simp [hl], fun i q hi => ?_⟩
    rcases Nat.lt_trichotomy i n with h1 | h1 | h1
    · rw [List.getElem?_append_left (by omega)] at hi
      exact hq i q hi
    · subst h1
      rw [List.getElem?_append_right (by omega), hl, Nat.sub_self] at hi
      obtain rfl : p = q := by simpa using hi
      exact hp
    · rw [List.getElem?_eq_none (by simp; omega)] at hi
      cases hi
theorem cells_at {a : Addr} {n : Nat} {cs : List Value} (h : w.cells? base a n = some cs) : cs.length = n ∧ ∀ i u, cs[i]? = some u → w.cell? (a.add i) = some u := by
  obtain ⟨_, h1, h2⟩ := World.cells?_some h
  exact ⟨h1, fun i u hi => by
    have hlt : i < n := by rw [← h1]; exact (List.getElem?_eq_some_iff.1 hi).1
    rw [h2 i hlt, hi]⟩

end
section
variable {H : Type} {enc : TypeId × Value → H} {w : World} {base : Nat} {spare : Nat → Bool} {held : Bool}
theorem i64_of {n : Int} (h : (Lit.int .i64 n).wf = true) : I64 n := by
  have := bounds_i64 h
  unfold I64
  omega
theorem u8_of {n : Int} (h : (Lit.int .u8 n).wf = true) : U8 n := bounds_u8 h
theorem cells23 : Try.prog.cellsOf 23 = 4 := by kernel_rfl
theorem cells26 : Try.prog.cellsOf 26 = 7 := by kernel_rfl
theorem cells3 : Try.prog.cellsOf 3 = 1 := by kernel_rfl
theorem cells5 : Try.prog.cellsOf 5 = 1 := by kernel_rfl
theorem cells24 : Try.prog.cellsOf 24 = 1 := by kernel_rfl
set_option maxRecDepth 100000 in
theorem read23 {fuel : Nat} {cs : List Value} {x : DataW H × List MemPlace} (h : DataW.trod enc Try.prog w base spare held fuel 23 cs = some x) : ∃ r : S23, k23.K w r cs ∧ wf23 r := by
  obtain ⟨y0, y1, y2, y3, n, _, hl, h0, h1, h2, h3⟩ := trod_struct4 Try.underlying23 h
  rw [cells23] at hl
  match cs, hl with
  | [c0, c1, c2, c3], _ =>
    simp only [cells3, List.drop_zero, List.take_succ_cons, List.take_zero, List.drop_succ_cons] at h0 h1 h2 h3
    obtain ⟨n0, e0, _, w0⟩ := DataW.trod_int Try.underlying3 h0
    obtain ⟨n1, e1, _, w1⟩ := DataW.trod_int Try.underlying3 h1
    obtain ⟨n2, e2, _, w2⟩ := DataW.trod_int Try.underlying3 h2
    obtain ⟨n3, e3, _, w3⟩ := DataW.trod_int Try.underlying3 h3
    simp only [List.cons.injEq, and_true] at e0 e1 e2 e3
    subst e0 e1 e2 e3
    exact ⟨⟨n0, n1, n2, n3⟩, k23_mk w ⟨n0, n1, n2, n3⟩, i64_of w0, i64_of w1, i64_of w2, i64_of w3⟩
end
end Go.Proofs.Ytfdmfgaiblfbhaa.P
/- CellCounts, the plain law: how many cells trees have, their leaves' numbers, how deep each is. Condition: the row and each tree have at most 1048576 parts. -/
namespace Go.Proofs.Ytfdmfgaiblfbhaa.Pure
open Go.RowKit Go.Proofs.Ytfdmfgaiblfbhaa.P Go.Proofs.YtfdmfgaiblfbhaaW.PrintWords Go.Proofs.YtfdmfgaiblfbhaaW.PrintLast Go.Proofs.YtfdmfgaiblfbhaaW.PrintMore
theorem szL_le (m : Nat) : ∀ l : List S26, (∀ x, x ∈ l → sz x ≤ m) → szL l ≤ l.length * m := by
  intro l
  induction l with
  | nil => intro _; rw [szL_nil]; simp
  | cons x xs ih =>
    intro h
    have h1 := h x (by simp)
    have h2 := ih (fun y hy => h y (by simp [hy]))
    rw [szL_cons, List.length_cons, Nat.succ_mul]
    omega
theorem CellCounts : ∀ (a0 : List S26), a0.length ≤ 1048576 → (∀ x, x ∈ a0 → wf26 x) → (∀ x, x ∈ a0 → sz x ≤ 1048576) → ∃ k, sashlaw05_CellCounts.f k a0 = some true := by
  intro l hl _ hz
  refine Ev.rounds (g := fun k => sashlaw05_CellCounts.f k l) ?_
  unfold sashlaw05_CellCounts.f
  have aw : Ev (fun _ => (sashlaw05_awake.f).bind fun t => some t) true := Ev.now _
  obtain ⟨g, eg, hg⟩ := greatAll_ev l hl hz
  refine Ev.bind eg ?_
  cases g with
  | true => exact ev_pos rfl aw
  | false =>
    refine ev_neg (by simp) ?_
    obtain ⟨h20, hz2⟩ := hg rfl
    have hszl : szL l ≤ 4000 := by
      have h1 := szL_le 200 l hz2
      have h2 : l.length * 200 ≤ 20 * 200 := Nat.mul_le_mul_right _ h20
      omega
    have key : ∀ (rest pre : List S26), pre ++ rest = l → Ev (fun k => sashlaw05_CellCounts.l0 k l (szL pre : Int) (idsL pre) (pre.length : Int)) true := by
      intro rest
      induction rest with
      | nil =>
        intro pre hp
        rw [List.append_nil] at hp
        have hil := idsL_len l
        refine Ev.step (f := fun k => (cell_Size.f k l).bind fun t890 => (if t890 = (szL pre : Int) then ((cell_Leaves.f k l).bind fun t891 => ((sashref05_Ints.f k t891 (idsL pre)).bind fun t894 => (if t894 = true then ((sashlaw05_awake.f).bind fun t895 => (some t895)) else (some false)))) else (some false))) (fun k => ?_) ?_
        · simp only [sashlaw05_CellCounts.l0]
          rw [if_neg (by rw [hp]; omega)]
        · rw [hp]
          exact Ev.bind (cell_size_ev (szL l) l (Nat.le_refl _) (by omega)) (ev_pos rfl (Ev.bind (cell_leaves_ev (szL l) l (Nat.le_refl _) (by omega)) (Ev.bind (ints_self (idsL l) (by omega)) (ev_pos rfl aw))))
      | cons x xs ihr =>
        intro pre hp
        have hlt : (pre.length : Int) < (l.length : Int) := by rw [← hp, List.length_append, List.length_cons]; omega
        have hsum : szL l = szL pre + (sz x + szL xs) := by rw [← hp, szL_app, szL_cons]
        have hxz := hz x (by rw [← hp]; simp)
        have e2 := ihr (pre ++ [x]) (by rw [List.append_assoc]; exact hp)
        have hr : rd_T26 l (pre.length : Int) = x := by rw [← hp]; exact rd26_in pre x xs
        have hu : wrap64 ((pre.length : Int) + 1) = ((pre ++ [x]).length : Int) := up_in pre x xs (by rw [hp]; omega)
        have hw : wrap64 ((szL pre : Int) + ((allC x).length : Int)) = (szL (pre ++ [x]) : Int) := by
          have h1 : (allC x).length = sz x := rfl
          rw [wq (by omega) (by omega), szL_app, szL_cons, szL_nil]
          omega
        have hi1 := idsL_len pre
        have hi2 := idsL_len [x]
        rw [szL_cons, szL_nil] at hi2
        rw [idsL_app] at e2
        refine Ev.step (f := fun k => (sashref05_All.f k x.f0 x.f1.f0 x.f1.f1 x.f1.f2 x.f1.f3 x.f2 x.f3).bind fun t876 => ((sashref05_IDs.f k x.f0 x.f1.f0 x.f1.f1 x.f1.f2 x.f1.f3 x.f2 x.f3).bind fun t880 => (if (idsL pre).length + t880.length < 17592186044416 then ((cell_Depth.f k x.f0 x.f1.f0 x.f1.f1 x.f1.f2 x.f1.f3 x.f2 x.f3).bind fun t887 => ((sashref05_Depth.f k x.f0 x.f1.f0 x.f1.f1 x.f1.f2 x.f1.f3 x.f2 x.f3).bind fun t889 => (if t887 = t889 then (sashlaw05_CellCounts.l0 k l (wrap64 ((szL pre : Int) + (t876.length : Int))) (idsL pre ++ t880) ((pre ++ [x]).length : Int)) else (some false)))) else (none)))) (fun k => ?_) ?_
        · simp only [sashlaw05_CellCounts.l0]
          rw [if_pos hlt, if_pos (by omega), hr, hu]
        · refine Ev.bind (all_cells (sz x) x (Nat.le_refl _) hxz) (Ev.bind (ids_ev x hxz) (ev_pos (by omega) (Ev.bind (cell_depth_ev (sz x) x (Nat.le_refl _) hxz) (Ev.bind (ref_depth_ev (sz x) x (Nat.le_refl _) hxz) (ev_pos rfl ?_)))))
          rw [hw]
          exact e2
    have e := key l [] rfl
    rw [szL_nil, show idsL [] = [] by unfold idsL; rw [allL_nil]; rfl] at e
    exact e
end Go.Proofs.Ytfdmfgaiblfbhaa.Pure
/- Facts on the program's head, each once: the head's text as a row of signs, its words; what follows of them. -/
namespace Go.Proofs.Ytfdmfgaiblfbhaa.P
open Go.RowKit
def headSigns : List Char := [104, 97, 114, 110, 101, 115, 115, 32, 57, 48, 98, 52, 50, 100, 98, 100, 99, 50, 52, 54, 55, 51, 50, 51, 56, 57, 50, 48, 100, 50, 50, 98, 56, 57, 53, 102, 48, 48, 55, 48, 53, 101, 102, 48, 53, 53, 102, 54, 54, 55, 97, 57, 54, 56, 100, 50, 56, 97, 57, 52, 55, 52, 56, 57, 49, 49, 48, 97, 48, 101, 53, 55, 32, 99, 117, 116, 32, 97, 116, 32, 115, 97, 115, 104, 47, 115, 97, 115, 104, 108, 97, 119, 48, 55, 46, 70, 108, 97, 116, 78, 101, 120, 116, 115, 32, 115, 97, 115, 104, 47, 115, 97, 115, 104, 108, 97, 119, 48, 55, 46, 70, 108, 97, 116, 76, 105, 115, 116, 115, 32, 115, 97, 115, 104, 47, 115, 97, 115, 104, 108, 97, 119, 48, 52, 46, 82, 101, 99, 116, 67, 117, 116, 115, 32, 115, 97, 115, 104, 47, 115, 97, 115, 104, 108, 97, 119, 48, 57, 46, 65, 100, 106, 117, 115, 116, 83, 104, 97, 114, 101, 115, 32, 115, 97, 115, 104, 47, 115, 97, 115, 104, 108, 97, 119, 48, 57, 46, 65, 100, 106, 117, 115, 116, 69, 118, 101, 110, 115, 32, 115, 97, 115, 104, 47, 115, 97, 115, 104, 108, 97, 119, 49, 54, 46, 83, 112, 114, 101, 97, 100, 83, 105, 122, 101, 115, 32, 115, 97, 115, 104, 47, 115, 97, 115, 104, 108, 97, 119, 48, 55, 46, 70, 108, 97, 116, 67, 104, 97, 110, 103, 101, 115, 32, 115, 97, 115, 104, 47, 115, 97, 115, 104, 108, 97, 119, 48, 52, 46, 82, 101, 99, 116, 73, 110, 115, 105, 100, 101, 32, 115, 97, 115, 104, 47, 115, 97, 115, 104, 108, 97, 119, 48, 55, 46, 70, 108, 97, 116, 78, 97, 109, 101, 115, 32, 115, 97, 115, 104, 47, 115, 97, 115, 104, 108, 97, 119, 48, 57, 46, 65, 100, 106, 117, 115, 116, 83, 101, 116, 115, 32, 115, 97, 115, 104, 47, 115, 97, 115, 104, 108, 97, 119, 48, 52, 46, 82, 101, 99, 116, 77, 101, 101, 116, 115, 32, 115, 97, 115, 104, 47, 115, 97, 115, 104, 108, 97, 119, 48, 52, 46, 82, 101, 99, 116, 77, 97, 121, 115, 32, 115, 97, 115, 104, 47, 115, 97, 115, 104, 108, 97, 119, 48, 55, 46, 70, 108, 97, 116, 83, 116, 105, 108, 108, 32, 115, 97, 115, 104, 47, 115, 97, 115, 104, 108, 97, 119, 48, 53, 46, 67, 101, 108, 108, 77, 97, 121, 115, 32, 115, 97, 115, 104, 47, 115, 97, 115, 104, 108, 97, 119, 48, 53, 46, 67, 101, 108, 108, 83, 97, 109, 101, 32, 115, 97, 115, 104, 47, 115, 97, 115, 104, 108, 97, 119, 48, 53, 46, 67, 101, 108, 108, 67, 111, 117, 110, 116, 115, 32, 115, 97, 115, 104, 47, 115, 97, 115, 104, 108, 97, 119, 48, 56, 46, 76, 101, 97, 115, 116, 83, 117, 109, 115, 32, 115, 97, 115, 104, 47, 115, 97, 115, 104, 108, 97, 119, 48, 53, 46, 67, 101, 108, 108, 70, 105, 110, 100, 115, 32, 115, 97, 115, 104, 47, 115, 97, 115, 104, 108, 97, 119, 48, 56, 46, 76, 101, 97, 115, 116, 73, 115, 32, 115, 97, 115, 104, 47, 115, 97, 115, 104, 108, 97, 119, 48, 56, 46, 76, 101, 97, 115, 116, 70, 105, 116, 115, 32, 115, 97, 115, 104, 47, 115, 97, 115, 104, 108, 97, 119, 48, 56, 46, 76, 101, 97, 115, 116, 80, 97, 116, 104, 115, 32, 115, 97, 115, 104, 47, 115, 97, 115, 104, 108, 97, 119, 48, 53, 46, 67, 101, 108, 108, 80, 117, 116, 115, 32, 115, 97, 115, 104, 47, 115, 97, 115, 104, 108, 97, 119, 49, 50, 46, 83, 112, 108, 105, 116, 83, 105, 122, 101, 115, 32, 115, 97, 115, 104, 47, 115, 97, 115, 104, 108, 97, 119, 49, 54, 46, 83, 112, 114, 101, 97, 100, 65, 108, 108, 32, 115, 97, 115, 104, 47, 115, 97, 115, 104, 108, 97, 119, 49, 54, 46, 83, 112, 114, 101, 97, 100, 65, 116, 32, 115, 97, 115, 104, 47, 115, 97, 115, 104, 108, 97, 119, 49, 52, 46, 80, 117, 115, 104, 73, 115, 32, 115, 97, 115, 104, 47, 115, 97, 115, 104, 108, 97, 119, 49, 52, 46, 80, 117, 115, 104, 79, 110, 101, 32, 115, 97, 115, 104, 47, 115, 97, 115, 104, 108, 97, 119, 49, 52, 46, 80, 117, 115, 104, 70, 114, 97, 109, 101, 115, 32, 115, 97, 115, 104, 47, 115, 97, 115, 104, 108, 97, 119, 49, 52, 46, 80, 117, 115, 104, 67, 97, 110, 32, 115, 97, 115, 104, 47, 115, 97, 115, 104, 108, 97, 119, 49, 50, 46, 83, 112, 108, 105, 116, 73, 115, 32, 115, 97, 115, 104, 47, 115, 97, 115, 104, 108, 97, 119, 49, 50, 46, 83, 112, 108, 105, 116, 67, 97, 110].map Char.ofNat
def headWords : List (List Char) := [[104, 97, 114, 110, 101, 115, 115].map Char.ofNat,
  [57, 48, 98, 52, 50, 100, 98, 100, 99, 50, 52, 54, 55, 51, 50, 51, 56, 57, 50, 48, 100, 50, 50, 98, 56, 57, 53, 102, 48, 48, 55, 48, 53, 101, 102, 48, 53, 53, 102, 54, 54, 55, 97, 57, 54, 56, 100, 50, 56, 97, 57, 52, 55, 52, 56, 57, 49, 49, 48, 97, 48, 101, 53, 55].map Char.ofNat,
  [99, 117, 116].map Char.ofNat,
  [97, 116].map Char.ofNat,
  [115, 97, 115, 104, 47, 115, 97, 115, 104, 108, 97, 119, 48, 55, 46, 70, 108, 97, 116, 78, 101, 120, 116, 115].map Char.ofNat,
  [115, 97, 115, 104, 47, 115, 97, 115, 104, 108, 97, 119, 48, 55, 46, 70, 108, 97, 116, 76, 105, 115, 116, 115].map Char.ofNat,
  [115, 97, 115, 104, 47, 115, 97, 115, 104, 108, 97, 119, 48, 52, 46, 82, 101, 99, 116, 67, 117, 116, 115].map Char.ofNat,
  [115, 97, 115, 104, 47, 115, 97, 115, 104, 108, 97, 119, 48, 57, 46, 65, 100, 106, 117, 115, 116, 83, 104, 97, 114, 101, 115].map Char.ofNat,
  [115, 97, 115, 104, 47, 115, 97, 115, 104, 108, 97, 119, 48, 57, 46, 65, 100, 106, 117, 115, 116, 69, 118, 101, 110, 115].map Char.ofNat,
  [115, 97, 115, 104, 47, 115, 97, 115, 104, 108, 97, 119, 49, 54, 46, 83, 112, 114, 101, 97, 100, 83, 105, 122, 101, 115].map Char.ofNat,
  [115, 97, 115, 104, 47, 115, 97, 115, 104, 108, 97, 119, 48, 55, 46, 70, 108, 97, 116, 67, 104, 97, 110, 103, 101, 115].map Char.ofNat,
  [115, 97, 115, 104, 47, 115, 97, 115, 104, 108, 97, 119, 48, 52, 46, 82, 101, 99, 116, 73, 110, 115, 105, 100, 101].map Char.ofNat,
  [115, 97, 115, 104, 47, 115, 97, 115, 104, 108, 97, 119, 48, 55, 46, 70, 108, 97, 116, 78, 97, 109, 101, 115].map Char.ofNat,
  [115, 97, 115, 104, 47, 115, 97, 115, 104, 108, 97, 119, 48, 57, 46, 65, 100, 106, 117, 115, 116, 83, 101, 116, 115].map Char.ofNat,
  [115, 97, 115, 104, 47, 115, 97, 115, 104, 108, 97, 119, 48, 52, 46, 82, 101, 99, 116, 77, 101, 101, 116, 115].map Char.ofNat,
  [115, 97, 115, 104, 47, 115, 97, 115, 104, 108, 97, 119, 48, 52, 46, 82, 101, 99, 116, 77, 97, 121, 115].map Char.ofNat,
  [115, 97, 115, 104, 47, 115, 97, 115, 104, 108, 97, 119, 48, 55, 46, 70, 108, 97, 116, 83, 116, 105, 108, 108].map Char.ofNat,
  [115, 97, 115, 104, 47, 115, 97, 115, 104, 108, 97, 119, 48, 53, 46, 67, 101, 108, 108, 77, 97, 121, 115].map Char.ofNat,
  [115, 97, 115, 104, 47, 115, 97, 115, 104, 108, 97, 119, 48, 53, 46, 67, 101, 108, 108, 83, 97, 109, 101].map Char.ofNat,
  [115, 97, 115, 104, 47, 115, 97, 115, 104, 108, 97, 119, 48, 53, 46, 67, 101, 108, 108, 67, 111, 117, 110, 116, 115].map Char.ofNat,
  [115, 97, 115, 104, 47, 115, 97, 115, 104, 108, 97, 119, 48, 56, 46, 76, 101, 97, 115, 116, 83, 117, 109, 115].map Char.ofNat,
  [115, 97, 115, 104, 47, 115, 97, 115, 104, 108, 97, 119, 48, 53, 46, 67, 101, 108, 108, 70, 105, 110, 100, 115].map Char.ofNat,
  [115, 97, 115, 104, 47, 115, 97, 115, 104, 108, 97, 119, 48, 56, 46, 76, 101, 97, 115, 116, 73, 115].map Char.ofNat,
  [115, 97, 115, 104, 47, 115, 97, 115, 104, 108, 97, 119, 48, 56, 46, 76, 101, 97, 115, 116, 70, 105, 116, 115].map Char.ofNat,
  [115, 97, 115, 104, 47, 115, 97, 115, 104, 108, 97, 119, 48, 56, 46, 76, 101, 97, 115, 116, 80, 97, 116, 104, 115].map Char.ofNat,
  [115, 97, 115, 104, 47, 115, 97, 115, 104, 108, 97, 119, 48, 53, 46, 67, 101, 108, 108, 80, 117, 116, 115].map Char.ofNat,
  [115, 97, 115, 104, 47, 115, 97, 115, 104, 108, 97, 119, 49, 50, 46, 83, 112, 108, 105, 116, 83, 105, 122, 101, 115].map Char.ofNat,
  [115, 97, 115, 104, 47, 115, 97, 115, 104, 108, 97, 119, 49, 54, 46, 83, 112, 114, 101, 97, 100, 65, 108, 108].map Char.ofNat,
  [115, 97, 115, 104, 47, 115, 97, 115, 104, 108, 97, 119, 49, 54, 46, 83, 112, 114, 101, 97, 100, 65, 116].map Char.ofNat,
  [115, 97, 115, 104, 47, 115, 97, 115, 104, 108, 97, 119, 49, 52, 46, 80, 117, 115, 104, 73, 115].map Char.ofNat,
  [115, 97, 115, 104, 47, 115, 97, 115, 104, 108, 97, 119, 49, 52, 46, 80, 117, 115, 104, 79, 110, 101].map Char.ofNat,
  [115, 97, 115, 104, 47, 115, 97, 115, 104, 108, 97, 119, 49, 52, 46, 80, 117, 115, 104, 70, 114, 97, 109, 101, 115].map Char.ofNat,
  [115, 97, 115, 104, 47, 115, 97, 115, 104, 108, 97, 119, 49, 52, 46, 80, 117, 115, 104, 67, 97, 110].map Char.ofNat,
  [115, 97, 115, 104, 47, 115, 97, 115, 104, 108, 97, 119, 49, 50, 46, 83, 112, 108, 105, 116, 73, 115].map Char.ofNat,
  [115, 97, 115, 104, 47, 115, 97, 115, 104, 108, 97, 119, 49, 50, 46, 83, 112, 108, 105, 116, 67, 97, 110].map Char.ofNat]
theorem head_list : Try.prog.initOrder.toList = headSigns := by
  have e : Try.prog.initOrder = String.ofList headSigns := by kernel_rfl
  rw [e, String.toList_ofList]
theorem head_words : wordsSigns Try.prog.initOrder.toList = headWords := by
  rw [head_list]
  kernel_rfl
def headRest : List (List Char) := headWords.drop 3
theorem head_behind : behindMainWord (wordsSigns Try.prog.initOrder.toList) = ([99, 117, 116].map Char.ofNat) :: headRest := by
  rw [head_words]
  kernel_rfl
theorem cut_eq : ([99, 117, 116].map Char.ofNat : List Char) = "cut".toList := by decide +kernel
theorem head_behind' : behindMainWord (wordsSigns Try.prog.initOrder.toList) = "cut".toList :: headRest := head_behind.trans (congrArg (fun c => c :: headRest) cut_eq)
theorem strip_none (rest : List (List Char)) : stripLifts liftWords ("cut".toList :: rest) = ([], "cut".toList :: rest) := by
  have key : ∀ (l : List String), (l.all fun o => !("cut".toList == o.toList)) = true → stripLifts l ("cut".toList :: rest) = ([], "cut".toList :: rest) := by
    intro l
    induction l with
    | nil => intro _; rfl
    | cons o l ih =>
      intro h
      simp only [List.all_cons, Bool.and_eq_true] at h
      unfold stripLifts
      rw [if_neg (by simpa using h.1)]
      exact ih h.2
  exact key _ (by decide +kernel)
theorem make_of (P : Program) (rest : List (List Char)) (h : behindMainWord (wordsSigns P.initOrder.toList) = "cut".toList :: rest) : P.make = some .cut := by
  unfold Program.make
  rw [h]
  simp only
  have h1 : ("cut".toList == "gc".toList) = false := by decide +kernel
  have h2 : ("cut".toList == "spec".toList) = false := by decide +kernel
  rw [h1, h2, if_neg (by simp), if_pos (by simp)]
theorem lifts_of (P : Program) (rest : List (List Char)) (h : behindMainWord (wordsSigns P.initOrder.toList) = "cut".toList :: rest) : P.headLifts = [] := by
  unfold Program.headLifts
  simp only [h, strip_none]
  simp
theorem final_of (P : Program) (rest : List (List Char)) (h : behindMainWord (wordsSigns P.initOrder.toList) = "cut".toList :: rest) : P.liftsFinal = false := by
  have h1 : (some "cut".toList == some "carried".toList) = false := by decide +kernel
  unfold Program.liftsFinal
  simp only [h, lifts_of P rest h, List.head?_cons, h1, Bool.false_and, List.contains_nil, Bool.or_false]
theorem enter_of (P : Program) (rest : List (List Char)) (h : behindMainWord (wordsSigns P.initOrder.toList) = "cut".toList :: rest) (h1 : P.laysLater = false) (h2 : P.bearsReflect = false) (h3 : P.doorFits [] = true) : P.mayEnter = true := by
  unfold Program.mayEnter
  rw [h]
  simp only [strip_none]
  rw [h1, h2, h3]
  simp
theorem head_make : Try.prog.make = some .cut := make_of Try.prog headRest head_behind'
theorem head_final : Try.prog.liftsFinal = false := final_of Try.prog headRest head_behind'
theorem head_later : Try.prog.laysLater = false := by kernel_rfl
theorem head_reflect : Try.prog.bearsReflect = false := by kernel_rfl
theorem head_door : Try.prog.doorFits [] = true := by kernel_rfl
theorem head_enter : Try.prog.mayEnter = true := enter_of Try.prog headRest head_behind' head_later head_reflect head_door
theorem head_keys : (true == Try.prog.plainKeys) = true := by kernel_rfl
theorem head_heard : Try.prog.stopsHeard = true := by kernel_rfl
end Go.Proofs.Ytfdmfgaiblfbhaa.P
/- joinedFacts out of its parts, over any program. -/
namespace Go.Proofs.Ytfdmfgaiblfbhaa.P
open Go.RowKit
theorem joined_mk {P : Program} {f : FuncId} {fn : Func} {s : ChangeSpec} {c : OpenClaim}
    (h0 : (c.wf (OpenSpec.ofChange s)) = true)
    (h1 : (laidOutB P) = true)
    (h2 : (mapsRowed P) = true)
    (h3 : (fn.params.all (P.readableRec ·)) = true)
    (h4 : (namedTie P c.named s.vars) = true)
    (h5 : ((c.stops == [])) = true)
    (h6 : ((P.stops == [])) = true)
    (h7 : ((c.knobs == [])) = true)
    (h8 : ((P.stopKnobs == [])) = true)
    (h9 : ((c.inPlace == P.inPlace f)) = true)
    (h10 : ((c.unfollowed == P.unfollowed f)) = true)
    (h11 : ((c.recurses == P.recurses f)) = true)
    (h12 : ((c.named == P.varsNamed f)) = true)
    (h13 : ((c.maps == (fn.params.toList ++ s.plain.varTypes P).any (P.mapsRec ·))) = true)
    (h14 : ((c.ifaces == (fn.params.toList ++ s.plain.varTypes P).any (P.ifacesRec ·))) = true)
    (h15 : ((c.mapsOut == P.mapsAmong fn.resultTypes.toList)) = true)
    (h16 : ((c.loops == (fn.params.toList ++ s.plain.varTypes P).any (P.loopsFrom ·))) = true)
    (h17 : ((c.wideKeys == (fn.params.toList ++ s.plain.varTypes P ++ fn.resultTypes.toList).any (P.wideKeysFrom ·))) = true)
    (h18 : (s.vars.all (P.varReadable ·)) = true)
    (h19 : (fn.resultTypes.all (fun t => P.readableRec t && decide (t < P.types.size))) = true)
    (h20 : ((c.ifacesOut == fn.resultTypes.toList.any (P.ifacesRec ·))) = true)
    (h21 : ((c.loopsOut == fn.resultTypes.toList.any (P.loopsFrom ·))) = true)
    (h22 : ((c.plainKeys == P.plainKeys)) = true)
    (h23 : (c.shortTexts.isNone) = true)
    (h24 : (P.stopsHeard) = true)
    (h25 : (P.mayEnter) = true)
    (h26 : ((c.lifted == P.liftsFinal)) = true)
    (h27 : ((P.make == some c.make)) = true)
    (hd : c.domain.isEmpty = true) (hk : c.kinds = [])
    (h29 : ((c.pinned == c.pinnedBy)) = true)
    (h30 : ((c.veiled == (fn.params.toList ++ s.plain.varTypes P ++ fn.resultTypes.toList).any (P.veiledRec ·))) = true)
    (h31 : (c.veiledFits P fn.params.toList (fn.params.toList ++ s.plain.varTypes P ++ fn.resultTypes.toList)) = true)
    : joinedFacts P f fn s c = true := by
  unfold joinedFacts
  rw [h0, h1, h2, h3, h4, h5, h6, h7, h8, h9, h10, h11, h12, h13, h14, h15, h16, h17, h18, h19, h20, h21, h22, h23, h24, h25, h26, h27, if_pos hd, hk, h29, h30, h31]
  rfl
end Go.Proofs.Ytfdmfgaiblfbhaa.P
/- How a law's arguments read, with their bulk: a tree has no more cells than its reading has bulk. -/
namespace Go.Proofs.Ytfdmfgaiblfbhaa.P
open Go.RowKit Go.Proofs.YtfdmfgaiblfbhaaW.PrintWords Go.Proofs.YtfdmfgaiblfbhaaW.PrintLast Go.Proofs.YtfdmfgaiblfbhaaW.PrintMore
open Go.ChangeShapes Go.WideShapes Go.ChangeAt Go.Joins Go.Deep

section
variable {H : Type} {enc : TypeId × Value → H} {P : Program} {w : World} {base : Nat} {spare : Nat → Bool} {held : Bool}
theorem bulk_pos (d : DataW H) : 1 ≤ Rows.uptoBulk d := by
  cases d with
  | lit l => cases l <;> simp [Rows.uptoBulk]
  | _ => simp [Rows.uptoBulk]
theorem bulk_len (l : List (DataW H)) : l.length ≤ Rows.uptoBulkAll l := by
  induction l with
  | nil => simp
  | cons x xs ih =>
    have := bulk_pos x
    simp only [Rows.uptoBulkAll, List.length_cons]
    omega
theorem bulk_sum {α : Type} (m : α → Nat) : ∀ (l : List α) (es : List (DataW H)), l.length = es.length → (∀ (i : Nat) (p : α) (e : DataW H), l[i]? = some p → es[i]? = some e → m p ≤ Rows.uptoBulk e) → (l.map m).sum ≤ Rows.uptoBulkAll es := by
  intro l
  induction l with
  | nil => intro es _ _; simp
  | cons x xs ih =>
    intro es hl h
    cases es with
    | nil => simp at hl
    | cons e es =>
      have h0 := h 0 x e rfl rfl
      have h1 := ih es (by simpa using hl) (fun i p e hp he => h (i + 1) p e (by simpa using hp) (by simpa using he))
      simp only [List.map_cons, List.sum_cons, Rows.uptoBulkAll]
      omega
theorem trod_struct4z {t : TypeId} {f0 f1 f2 f3 : Field} {fuel : Nat} {cs : List Value} {x : DataW H × List MemPlace} (ht : P.underlying t = some (.struct #[f0, f1, f2, f3])) (h : DataW.trod enc P w base spare held fuel t cs = some x) :
    ∃ y0 y1 y2 y3 n, fuel = n + 1 ∧ x.1 = .agg [y0.1, y1.1, y2.1, y3.1] ∧ cs.length = P.cellsOf t ∧ DataW.trod enc P w base spare held n f0.type ((cs.drop f0.offset).take (P.cellsOf f0.type)) = some y0 ∧
      DataW.trod enc P w base spare held n f1.type ((cs.drop f1.offset).take (P.cellsOf f1.type)) = some y1 ∧ DataW.trod enc P w base spare held n f2.type ((cs.drop f2.offset).take (P.cellsOf f2.type)) = some y2 ∧
      DataW.trod enc P w base spare held n f3.type ((cs.drop f3.offset).take (P.cellsOf f3.type)) = some y3 := by
  obtain ⟨xs, n, hn, rfl, hl, hlen, hf⟩ := DataW.trod_struct ht h
  match xs, hlen with
  | [y0, y1, y2, y3], _ => exact ⟨y0, y1, y2, y3, n, hn, rfl, hl, by simpa using hf 0 f0 rfl, by simpa using hf 1 f1 rfl, by simpa using hf 2 f2 rfl, by simpa using hf 3 f3 rfl⟩
/-- A row whose elements read: so many, and of such a bulk. -/
theorem open_rowz {α : Type} {k : Kd α} {ok : α → Prop} (m : α → Nat) {t e : TypeId} {fuel : Nat} {cs : List Value} {x : DataW H × List MemPlace} (ht : P.underlying t = some (.slice e)) (hs : k.sz = P.cellsOf e)
    (hE : ∀ n, n < fuel → ∀ cs y, DataW.trod enc P w base spare held n e cs = some y → ∃ p, k.K w p cs ∧ ok p ∧ m p ≤ Rows.uptoBulk y.1) (h : DataW.trod enc P w base spare held fuel t cs = some x) :
    ∃ A c l, cs = [.slice A (l : List α).length c] ∧ l.length ≤ c ∧ k.C w A l.length l ∧ (∀ p, p ∈ l → ok p) ∧ (l.map m).sum < Rows.uptoBulk x.1 ∧ l.length < Rows.uptoBulk x.1 := by
  rcases DataW.trod_slice ht h with ⟨rfl, rfl⟩ | ⟨a, len, cap, elems, rest, n, hn, rfl, rfl, hb, hl, hm, hlen, hel, hsp, hns⟩
  · exact ⟨none, 0, [], rfl, Nat.le_refl _, ⟨rfl, by simp, fun h => absurd h (by simp)⟩, (fun p hp => by cases hp), (by simp [Rows.uptoBulk]), (by simp [Rows.uptoBulk])⟩
  · obtain ⟨l, hl2, hq⟩ := row_of (α := α) (Q := fun i p => ok p ∧ (∃ c, c.length = k.sz ∧ k.K w p c ∧ ∀ j u, c[j]? = some u → w.cell? (a.add (i * k.sz + j)) = some u) ∧ ∀ e, elems[i]? = some e → m p ≤ Rows.uptoBulk e.1) len (fun i hi => by
      have key := hel i hi
      rw [List.getElem?_eq_getElem (by omega)] at key
      obtain ⟨cs', h1, h2⟩ := Option.bind_eq_some_iff.1 key
      obtain ⟨p, hp, hok, hm⟩ := hE n (by omega) cs' _ h2
      obtain ⟨h3, h4⟩ := cells_at h1
      refine ⟨p, hok, ⟨cs', by rw [h3, hs], hp, fun j u hj => ?_⟩, fun e he => ?_⟩
      · rw [hs, ← Deep.add_add]
        exact h4 j u hj
      · rw [List.getElem?_eq_getElem (by omega)] at he
        cases he
        exact hm)
    subst hl2
    refine ⟨some a, cap, l, rfl, hl, ⟨rfl, by unfold maxLen at hm; omega, fun _ => ⟨a, rfl, fun j p hj => ?_⟩⟩, fun p hp => ?_, ?_, ?_⟩
    · obtain ⟨_, ⟨c, h1, h2, h3⟩, _⟩ := hq j p hj
      exact ⟨c, h1, h2, h3⟩
    · obtain ⟨i, hi, rfl⟩ := List.getElem_of_mem hp
      exact (hq i _ (List.getElem?_eq_getElem hi)).1
    · have := bulk_sum m l (elems.map (·.1)) (by simp [hlen]) (fun i p e hp he => by
        rw [List.getElem?_map] at he
        obtain ⟨e', he', rfl⟩ := Option.map_eq_some_iff.1 he
        exact (hq i p hp).2.2 e' he')
      simp only [Rows.uptoBulk]
      omega
    · have := bulk_len (elems.map (·.1))
      simp only [List.length_map] at this
      simp only [Rows.uptoBulk]
      omega
end
section
variable {H : Type} {enc : TypeId × Value → H} {w : World} {base : Nat} {spare : Nat → Bool} {held : Bool}
set_option maxRecDepth 100000 in
theorem read26nz : ∀ (fuel : Nat) {cs : List Value} {x : DataW H × List MemPlace} (_ : DataW.trod enc Try.prog w base spare held fuel 26 cs = some x), ∃ r : S26, (Kd.upto F26 7 [26] fuel).K w r cs ∧ wfn26 fuel r ∧ sz r ≤ Rows.uptoBulk x.1 := by
  intro fuel
  induction fuel using Nat.strongRecOn with
  | _ fuel ih =>
  intro cs x h
  cases fuel with
  | zero => simp [DataW.trod] at h
  | succ fuel =>
    obtain ⟨y0, y1, y2, y3, m, hm, hx, hl, h0, h1, h2, h3⟩ := trod_struct4z Try.underlying26 h
    obtain rfl : fuel = m := by omega
    rw [cells26] at hl
    match cs, hl with
    | [c0, c1, c2, c3, c4, c5, c6], _ =>
        simp only [cells3, cells5, cells23, cells24, List.drop_zero, List.take_succ_cons, List.take_zero, List.drop_succ_cons] at h0 h1 h2 h3
        obtain ⟨n0, e0, _, w0⟩ := DataW.trod_int Try.underlying5 h0
        obtain ⟨n2, e2, _, w2⟩ := DataW.trod_int Try.underlying3 h2
        simp only [List.cons.injEq, and_true] at e0 e2
        subst e0 e2
        obtain ⟨r, hr, hw⟩ := read23 h1
        obtain e1 := k23_open hr
        simp only [List.cons.injEq, and_true] at e1
        obtain ⟨rfl, rfl, rfl, rfl⟩ := e1
        obtain ⟨A, c, l, e3, hlc, hC, hok, hsum, _⟩ := open_rowz (k := Kd.upto F26 7 [26] fuel) (ok := wfn26 fuel) sz Try.underlying24 (by rw [sz26, cells26]) (fun n hn cs y hy => by
          obtain ⟨p, hp, hok, hz⟩ := ih n (by omega) hy
          exact ⟨p, Kd.upto_K_le mono26 sz26 (by omega) hp, wfn26_le (by omega) hok, hz⟩) h3
        simp only [List.cons.injEq, and_true] at e3
        subst e3
        have hlen9 : l.length ≤ 9223372036854775807 := hC.2.1
        refine ⟨⟨n0, r, n2, l⟩, ?_, ⟨u8_of w0, hw, i64_of w2, hlen9, hok⟩, ?_⟩
        · exact ⟨[.int .u8 n0], [.int .i64 r.f0, .int .i64 r.f1, .int .i64 r.f2, .int .i64 r.f3, .int .i64 n2, .slice A l.length c], rfl, rfl, [.int .i64 r.f0, .int .i64 r.f1, .int .i64 r.f2, .int .i64 r.f3], [.int .i64 n2, .slice A l.length c], rfl, k23_mk w r, [.int .i64 n2], [.slice A l.length c], rfl, rfl, A, c, rfl, hlc, hC⟩
        · rw [hx, sz_eq]
          have := szL_sum l
          simp only [Rows.uptoBulk, Rows.uptoBulkAll]
          have h3 := bulk_pos y0.1
          omega
theorem read26z {fuel : Nat} {cs : List Value} {x : DataW H × List MemPlace} (h : DataW.trod enc Try.prog w base spare held fuel 26 cs = some x) : ∃ r : S26, k26.K w r cs ∧ wf26 r ∧ sz r ≤ Rows.uptoBulk x.1 := by
  obtain ⟨r, hr, hw, hz⟩ := read26nz fuel h
  exact ⟨r, ⟨fuel, hr⟩, ⟨fuel, hw⟩, hz⟩
end
theorem mem_sum {α : Type} (m : α → Nat) {x : α} : ∀ {l : List α}, x ∈ l → m x ≤ (l.map m).sum := by
  intro l
  induction l with
  | nil => intro h; cases h
  | cons y ys ih =>
    intro h
    rw [List.map_cons, List.sum_cons]
    rcases List.mem_cons.1 h with rfl | h
    · omega
    · have := ih h; omega
end Go.Proofs.Ytfdmfgaiblfbhaa.P
/- The row of the law CellCounts, second form (what it reads is of bulk at most 1048576), out of its plain law and its walk. -/
namespace Go.Proofs.Ytfdmfgaiblfbhaa.cellCountsUpto
open Go.ChangeShapes Go.WideShapes Go.ChangeAt Go.RowKit Go.Proofs.Ytfdmfgaiblfbhaa.P Go.Proofs.YtfdmfgaiblfbhaaW.PrintWords
open Go.ChangeMaps (open_string shut_string)
theorem own : ownKnob Try.prog.godebug = none := by kernel_rfl
theorem laidOut : laidOutB Try.prog = true := by kernel_rfl
set_option maxRecDepth 100000 in
theorem lifted (os : Os) (started : os.Started) (H : Type) (enc : TypeId × Value → H) (F : Stop.Interp) :
    ReturnsInHanded {} Try.checked os 18 .any ((Rows.OpenSpec.upto Rows.cellCountsSpec).pre6 enc Try.prog Try.f18 Rows.cellCountsUptoRow.domain false) (((Rows.OpenSpec.upto Rows.cellCountsSpec).at F).post enc Try.prog Try.f18 false true false false) := by
  refine returnsInHanded_of_cond (C := Try.checked) (s := Rows.OpenSpec.upto Rows.cellCountsSpec) (k := Rows.uptoSmall) rfl own started (by kernel_rfl) Try.func18
    (OpenSpec.witness (enc := enc) (C := Try.checked) (s := Rows.OpenSpec.upto Rows.cellCountsSpec) (k := Rows.uptoSmall) rfl false ⟨#[], #[.slice none 0 0], []⟩ 8 (by kernel_rfl) (by kernel_rfl) (by kernel_rfl)
      (x := ([.nil], [], [])) (by kernel_rfl) rfl (by kernel_rfl)) ?_
  intro W base args ds gs before hval0 hW hcnd hk0 _
  have hval : ∀ (j : Nat) t v, Try.f18.params[j]? = some t → args[j]? = some v → Value.okWide Try.prog W .any base t v := hval0
  have hW' := hW
  obtain ⟨p, q, hA0, hV, rfl, hfz, hnd⟩ := hW
  have hA : DataW.TrodAll enc Try.prog W 0 (fun _ => true) true Try.f18.params.toList args.toList ds p := hA0
  rw [Try.params18] at hA hval
  obtain ⟨v0, vs0, d0, ds0, p0, q0, hargs, rfl, rfl, h0, r0⟩ := trodAll_cons hA
  obtain ⟨rfl, rfl, rfl⟩ := trodAll_nil r0
  obtain rfl : args = #[v0] := by cases args; simp_all
  obtain ⟨rfl, rfl⟩ := trodVars_none hV
  have hB := of_decide_eq_true hk0
  simp only [List.cons_append, List.nil_append, List.append_nil, Rows.uptoBulkAll] at hB
  have z0 : Rows.uptoBulk d0 ≤ 1048576 := by omega
  have k0 := h0
  have lt0 : ∀ x ∈ p0, x.block < W.heap.size := by obtain ⟨m, hm⟩ := k0; exact DataW.trod_lt m _ _ _ hm
  obtain ⟨fuel0, hf0⟩ := h0
  obtain ⟨A0, len0, cap0, rfl⟩ := okWide_slice Try.underlying24 (hval 0 24 v0 rfl rfl)
  obtain ⟨B0, c0, a0, e0, hc0, hr0, w0, s0, y0⟩ := open_rowz (k := k26) (ok := wf26) (sz) Try.underlying24 (by kernel_rfl) (fun n _ cs y hy => by obtain ⟨x, hx, hw, hz⟩ := read26z hy; exact ⟨x, hx, hw, hz⟩) hf0
  simp only [Value.cells, List.cons.injEq, Value.slice.injEq, and_true] at e0
  obtain ⟨rfl, rfl, rfl⟩ := e0
  obtain ⟨k, hP⟩ := Pure.CellCounts a0 (Nat.le_trans (Nat.le_of_lt y0) z0) w0 (fun x hx => Nat.le_trans (mem_sum sz hx) (Nat.le_trans (Nat.le_of_lt s0) z0))
  refine (sashlaw05_CellCounts.calls k _ _ a0 true W hr0 hc0 hP).mono fun e W' ⟨he, bel0⟩ => ?_
  have bel : Below W.heap.size W W' := bel0
  subst he
  exact ⟨_, rfl, _, _, _, [], _, [], hW', trodAll_mk1 (shut_bool Try.underlying4 _), (trodAll_cons_mk (Below.trod laidOut (by kernel_rfl) (of_decide_eq_true (by kernel_rfl)) k0 bel lt0) trodAll_mk0), rfl, bel.frame _, fun h => by cases h⟩
theorem j0 : (Rows.cellCountsUptoRow.wf (OpenSpec.ofChange (Rows.OpenSpec.upto Rows.cellCountsSpec).bare)) = true := by kernel_rfl
theorem j1 : (laidOutB Try.prog) = true := by kernel_rfl
theorem j2 : (mapsRowed Try.prog) = true := by kernel_rfl
theorem j3 : (Try.f18.params.all (Try.prog.readableRec ·)) = true := by kernel_rfl
theorem j4 : (namedTie Try.prog Rows.cellCountsUptoRow.named (Rows.OpenSpec.upto Rows.cellCountsSpec).bare.vars) = true := by kernel_rfl
theorem j5 : ((Rows.cellCountsUptoRow.stops == [])) = true := by kernel_rfl
theorem j6 : ((Try.prog.stops == [])) = true := by kernel_rfl
theorem j7 : ((Rows.cellCountsUptoRow.knobs == [])) = true := by kernel_rfl
theorem j8 : ((Try.prog.stopKnobs == [])) = true := by kernel_rfl
theorem j9 : ((Rows.cellCountsUptoRow.inPlace == Try.prog.inPlace 18)) = true := by kernel_rfl
theorem j10 : ((Rows.cellCountsUptoRow.unfollowed == Try.prog.unfollowed 18)) = true := by kernel_rfl
theorem j11 : ((Rows.cellCountsUptoRow.recurses == Try.prog.recurses 18)) = true := by kernel_rfl
theorem j12 : ((Rows.cellCountsUptoRow.named == Try.prog.varsNamed 18)) = true := by kernel_rfl
theorem j13 : ((Rows.cellCountsUptoRow.maps == (Try.f18.params.toList ++ (Rows.OpenSpec.upto Rows.cellCountsSpec).bare.plain.varTypes Try.prog).any (Try.prog.mapsRec ·))) = true := by kernel_rfl
theorem j14 : ((Rows.cellCountsUptoRow.ifaces == (Try.f18.params.toList ++ (Rows.OpenSpec.upto Rows.cellCountsSpec).bare.plain.varTypes Try.prog).any (Try.prog.ifacesRec ·))) = true := by kernel_rfl
theorem j15 : ((Rows.cellCountsUptoRow.mapsOut == Try.prog.mapsAmong Try.f18.resultTypes.toList)) = true := by kernel_rfl
theorem j16 : ((Rows.cellCountsUptoRow.loops == (Try.f18.params.toList ++ (Rows.OpenSpec.upto Rows.cellCountsSpec).bare.plain.varTypes Try.prog).any (Try.prog.loopsFrom ·))) = true := by kernel_rfl
theorem j17 : ((Rows.cellCountsUptoRow.wideKeys == (Try.f18.params.toList ++ (Rows.OpenSpec.upto Rows.cellCountsSpec).bare.plain.varTypes Try.prog ++ Try.f18.resultTypes.toList).any (Try.prog.wideKeysFrom ·))) = true := by kernel_rfl
theorem j18 : ((Rows.OpenSpec.upto Rows.cellCountsSpec).bare.vars.all (Try.prog.varReadable ·)) = true := by kernel_rfl
theorem j19 : (Try.f18.resultTypes.all (fun t => Try.prog.readableRec t && decide (t < Try.prog.types.size))) = true := by kernel_rfl
theorem j20 : ((Rows.cellCountsUptoRow.ifacesOut == Try.f18.resultTypes.toList.any (Try.prog.ifacesRec ·))) = true := by kernel_rfl
theorem j21 : ((Rows.cellCountsUptoRow.loopsOut == Try.f18.resultTypes.toList.any (Try.prog.loopsFrom ·))) = true := by kernel_rfl
theorem j23 : (Rows.cellCountsUptoRow.shortTexts.isNone) = true := by kernel_rfl
theorem j29 : ((Rows.cellCountsUptoRow.pinned == Rows.cellCountsUptoRow.pinnedBy)) = true := by kernel_rfl
theorem j30 : ((Rows.cellCountsUptoRow.veiled == (Try.f18.params.toList ++ (Rows.OpenSpec.upto Rows.cellCountsSpec).bare.plain.varTypes Try.prog ++ Try.f18.resultTypes.toList).any (Try.prog.veiledRec ·))) = true := by kernel_rfl
theorem j31 : (Rows.cellCountsUptoRow.veiledFits Try.prog Try.f18.params.toList (Try.f18.params.toList ++ (Rows.OpenSpec.upto Rows.cellCountsSpec).bare.plain.varTypes Try.prog ++ Try.f18.resultTypes.toList)) = true := by kernel_rfl
theorem closed : joinedFacts Try.prog 18 Try.f18 (Rows.OpenSpec.upto Rows.cellCountsSpec).bare Rows.cellCountsUptoRow = true := P.joined_mk j0 j1 j2 j3 j4 j5 j6 j7 j8 j9 j10 j11 j12 j13 j14 j15 j16 j17 j18 j19 j20 j21 P.head_keys j23 P.head_heard P.head_enter (by rw [P.head_final]; rfl) (by rw [P.head_make]; rfl) rfl rfl j29 j30 j31
theorem over : Rows.cellCountsUptoRow.holds Try.pinned (Rows.OpenSpec.upto Rows.cellCountsSpec) :=
  OpenClaim.holds_of_cond 18 Try.f18 rfl rfl rfl rfl rfl rfl rfl ⟨rfl, rfl, rfl, rfl, rfl⟩ rfl rfl rfl rfl rfl (by kernel_rfl) Try.func18 closed
    (of_decide_eq_true (by kernel_rfl)) (by unfold Func.isWrapper; first | (rw [if_pos (by decide +kernel)]; kernel_rfl) | (rw [if_neg (by decide +kernel)]; exact ⟨rfl, rfl⟩))
    (fun os started H enc _ F => lifted os started H enc F)
theorem proved : Rows.CellCountsUptoSaid := over
#print axioms proved
end Go.Proofs.Ytfdmfgaiblfbhaa.cellCountsUpto
namespace Go.Proofs.Ytfdmfgaiblfbhaa
/-- The row, under a short name, for the claim. -/
theorem cellCountsUpto_holds : Rows.CellCountsUptoSaid := cellCountsUpto.proved
end Go.Proofs.Ytfdmfgaiblfbhaa
