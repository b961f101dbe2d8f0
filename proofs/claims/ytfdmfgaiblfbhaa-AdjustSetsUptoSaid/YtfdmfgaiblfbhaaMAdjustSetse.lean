/- The row of the law AdjustSets, second form (what it reads is of bulk at most 1048576), out of its plain law and its walk. -/
import Derived.Test.YtfdmfgaiblfbhaaMAdjustSetsc
import Derived.Test.YtfdmfgaiblfbhaaMAdjustSetsd
import Derived.ProofKit
import Derived.Deep.Slices
import Derived.Lib.SmallJoins
import Derived.OpenShut
import Derived.Test.YtfdmfgaiblfbhaaRows
import Derived.WalkKit
import Derived.ShutString
import Derived.ChangeOld
import Derived.Below
import Derived.SizedLaws
import Derived.JoinedCond
namespace Go.Proofs.Ytfdmfgaiblfbhaa.P
open Go.RowKit Go.Proofs.YtfdmfgaiblfbhaaW.PrintWords Go.Proofs.YtfdmfgaiblfbhaaW.PrintLast Go.Proofs.YtfdmfgaiblfbhaaW.PrintMore
attribute [local go_sem] max2_int min2_int max_two min_two max_three min_three max_four min_four   -- for this text's walks alone
set_option linter.unusedVariables false
set_option linter.unusedSimpArgs false

/-! ### sashref05_Leaves: function 126 -/
def sashref05_Leaves.l0 : Nat → List (S26) → List (S26) → Int → Int → Option ((List (S26)))
  | 0, _, _, _, _ => none
  | k + 1, x3, x4, x10, x11 => if x11 < x10 then (if 0 ≤ x11 then (if x11 < (x4.length : Int) then (if ((rd_T26 x4 x11).f0) = 1 then (if x3.length < 1954687338268 then (sashref05_Leaves.l0 k (x3 ++ [(⟨(rd_T26 x4 x11).f0, (⟨(rd_T26 x4 x11).f1.f0, (rd_T26 x4 x11).f1.f1, (rd_T26 x4 x11).f1.f2, (rd_T26 x4 x11).f1.f3⟩ : S23), (rd_T26 x4 x11).f2, (rd_T26 x4 x11).f3⟩ : S26)]) x4 x10 (wrap64 (x11 + 1))) else (none)) else (sashref05_Leaves.l0 k x3 x4 x10 (wrap64 (x11 + 1)))) else (none)) else (none)) else (some x3)
def sashref05_Leaves.f (k : Nat) (a0_0 : Int) (a0_1 : Int) (a0_2 : Int) (a0_3 : Int) (a0_4 : Int) (a0_5 : Int) (l0_6 : List (S26)) : Option ((List (S26))) := (sashref05_All.f k a0_0 a0_1 a0_2 a0_3 a0_4 a0_5 l0_6).bind fun t146 => (sashref05_Leaves.l0 k (([] : List (S26))) t146 (t146.length : Int) 0)
theorem sashref05_Leaves.mono_l : ∀ k, (∀ y0 y1 y2 y3, LeO (sashref05_Leaves.l0 k y0 y1 y2 y3) (sashref05_Leaves.l0 (k + 1) y0 y1 y2 y3))
  | 0 => fun _ _ _ _ r h => by simp [sashref05_Leaves.l0] at h
  | k + 1 => by
    have ih0 := sashref05_Leaves.mono_l k
    · intro y0 y1 y2 y3
      unfold sashref05_Leaves.l0
      repeat' first
      | (with_reducible exact ih0 _ _ _ _)
      | (with_reducible exact sashref05_All.mono _ _ _ _ _ _ _ _)
      | (with_reducible exact LeO.refl _)
      | (with_reducible exact LeO.none _)
      | (with_reducible refine LeO.ite ?_ ?_)
      | (with_reducible refine LeO.bind ?_ (fun _ => ?_))
      | exact ih0 _ _ _ _
      | exact sashref05_All.mono _ _ _ _ _ _ _ _
      | exact LeO.none _
      | refine LeO.ite ?_ ?_
      | refine LeO.bind ?_ (fun _ => ?_)
theorem sashref05_Leaves.mono : ∀ a0 a1 a2 a3 a4 a5 a6 k, LeO (sashref05_Leaves.f k a0 a1 a2 a3 a4 a5 a6) (sashref05_Leaves.f (k + 1) a0 a1 a2 a3 a4 a5 a6) := by
  intro a0 a1 a2 a3 a4 a5 a6 k
  have ih0 := sashref05_Leaves.mono_l k
  unfold sashref05_Leaves.f
  repeat' first
      | (with_reducible exact ih0 _ _ _ _)
      | (with_reducible exact sashref05_All.mono _ _ _ _ _ _ _ _)
      | (with_reducible exact LeO.refl _)
      | (with_reducible exact LeO.none _)
      | (with_reducible refine LeO.ite ?_ ?_)
      | (with_reducible refine LeO.bind ?_ (fun _ => ?_))
      | exact ih0 _ _ _ _
      | exact sashref05_All.mono _ _ _ _ _ _ _ _
      | exact LeO.none _
      | refine LeO.ite ?_ ?_
      | refine LeO.bind ?_ (fun _ => ?_)
set_option maxHeartbeats 8000000 in
set_option maxRecDepth 100000 in
theorem sashref05_Leaves.calls (k : Nat) (a0_0 : Int) (a0_1 : Int) (a0_2 : Int) (a0_3 : Int) (a0_4 : Int) (a0_5 : Int) (P0_6_ : Nat → Prop) (A0_6 : Option Addr) (c0_6 : Nat) (l0_6 : List (S26)) (r : List (S26)) (w : World) (hs0_6 : Kd.V k26 26 w w.heap.size (fun k_ => P0_6_ k_) (.slice A0_6 l0_6.length c0_6) l0_6) (h : sashref05_Leaves.f k a0_0 a0_1 a0_2 a0_3 a0_4 a0_5 l0_6 = some r) :
    Calls Try.prog 126 #[.agg #[.int .u8 a0_0, .int .i64 a0_1, .int .i64 a0_2, .int .i64 a0_3, .int .i64 a0_4, .int .i64 a0_5, .slice A0_6 l0_6.length c0_6]] w fun e w' => ∃ v0_ : Value, e = .returned (v0_) ∧ Kd.N k26 26 w' w.heap.size (fun k_ => (P0_6_ k_ ∨ w.heap.size ≤ k_)) v0_ r ∧ Below w.heap.size w w' := by
  have hu26 := Try.underlying26
  have HO0_6 := Aside0.mk (show Kd.V k26 26 w w.heap.size (fun k_ => (P0_6_ k_ ∨ w.heap.size ≤ k_)) (.slice A0_6 l0_6.length c0_6) l0_6 from Kd.V_mono hs0_6 (fun k_ hk => .inl hk))
  have HB := Aside0.mk (Below.refl w.heap.size w)
  have H : ((sashref05_All.f k a0_0 a0_1 a0_2 a0_3 a0_4 a0_5 l0_6).bind fun t146 => (sashref05_Leaves.l0 k (([] : List (S26))) t146 (t146.length : Int) 0)) = some r := h
  clear h
  obtain ⟨y143, hy143⟩ : ∃ y_ : List (S26), y_ = (([] : List (S26))) := ⟨_, rfl⟩
  replace H : ((sashref05_All.f k a0_0 a0_1 a0_2 a0_3 a0_4 a0_5 l0_6).bind fun t146 => (sashref05_Leaves.l0 k y143 t146 (t146.length : Int) 0)) = some r := by first | (rw [hy143]; with_reducible exact H) | (have H2_ := (Option.bind_some _ _).symm.trans H; rw [hy143]; with_reducible exact H2_) | (have H2_ := (Option.bind_some _ _).symm.trans H; with_reducible exact H2_) | with_reducible exact H | (rw [hy143]; exact H) | exact H
  have Ny143 := Aside0.mk hy143
  clear hy143
  replace H := Option.bind_eq_some_iff.mp H
  obtain ⟨t146, A20, H⟩ := H
  replace H : (sashref05_Leaves.l0 k y143 t146 (t146.length : Int) 0) = some r := H
  have A2 := Aside0.mk A20
  clear A20
  have H' := Aside0.mk H
  clear H
  go_enter Try.func126, Try.ntmps126
  go_wp2_with (first | ((with_reducible refine gate_dst (N := 1) rfl ?_); refine box_event ?hg (N := 1) ?hd (cs := #[.int .u8 a0_0, .int .i64 a0_1, .int .i64 a0_2, .int .i64 a0_3, .int .i64 a0_4, .int .i64 a0_5, .slice A0_6 l0_6.length c0_6]) (t := 26) ?hr ?_; (case hd => rfl); (case hg => rfl); (case hr => first | (go_simp; done) | (go_simp; rfl)); intro gb142 hg w3 hbox hb; have n0_ := Aside0.mk (Kd.V_below (Kd.V_elderB (by (with_reducible repeat (first | apply Kd.V_alloc | apply Kd.V_drewN | apply Kd.V_drew)); exact HO0_6.out) gb142 (Nat.le_of_eq hg.symm)) hb); have n1_ := Aside0.mk (below_step (by repeat (first | (with_reducible first | exact HB.out | apply below_alloc | apply pw_below_drewN | apply below_drew1) | exact HB.out)) hb); have n2_ := Aside0.mk (hbox); have n3_ := Aside0.mk ((by rw [hg]; exact (below_size (by repeat (first | (with_reducible first | exact HB.out | apply below_alloc | apply pw_below_drewN | apply below_drew1) | exact HB.out))) : w.heap.size ≤ gb142)); have n4_ := Aside0.mk ((by rw [hg]; exact (below_size (by repeat (first | (with_reducible first | exact HB.out | apply below_alloc | apply pw_below_drewN | apply below_drew1) | exact HB.out))) : w.heap.size ≤ gb142)); clear HO0_6; clear HB; have HO0_6 := n0_; have HB := n1_; have BK142 := n2_; have GW142 := n3_; have GE142 := n4_; clear n0_ n1_ n2_ n3_ n4_; clear hb hbox hg) | ((with_reducible refine gate_dst (N := 6) rfl ?_); refine Kd.N_lit k26 _ 26 ?hg (N' := 6) ?hd (xs := ([] : List (S26))) (inner := []) (ok := (fun k_ => (P0_6_ k_ ∨ w.heap.size ≤ k_) ∧ k_ ≠ gb142)) (okp := (fun k_ => (P0_6_ k_ ∨ w.heap.size ≤ k_) ∧ k_ ≠ gb142)) ?hr ?hp (fun _ hk => hk) ((show ∀ k_, w3.heap.size ≤ k_ → (fun k_ => (P0_6_ k_ ∨ w.heap.size ≤ k_) ∧ k_ ≠ gb142) k_ from fun k_ hk => ⟨(.inr (Nat.le_trans (below_size (by repeat (first | (with_reducible first | exact HB.out | apply below_alloc | apply pw_below_drewN | apply below_drew1 | refine below_set ?_ GE142.out) | exact HB.out))) hk)), Kd.freshB (g := gb142) (o := .cells #[.int .u8 a0_0, .int .i64 a0_1, .int .i64 a0_2, .int .i64 a0_3, .int .i64 a0_4, .int .i64 a0_5, .slice A0_6 l0_6.length c0_6] 26 (0, 0)) (by (with_reducible repeat (first | refine blk_drewN ?_ _ | refine blk_drew ?_ | refine blk_alloc ?_ _)); exact BK142.out) k_ hk⟩) _ (Nat.le_refl _)) (Below.refl _ _) (Nat.le_refl _) (by simp) ?_; (case hd => rfl); (case hg => rfl); (case hr => first | (go_simp; done) | (go_simp; rfl)); (case hp => exact (Reps.none _ _)); intro v144 w4 ho5 hb hg_ hnew_; clear hg_ hnew_; (first | rw [← Ny143.out] at ho5 | (simp only [Int.reduceToNat] at ho5; rw [← Ny143.out] at ho5)); have n0_ := Aside0.mk (Kd.V_elder' (by (with_reducible repeat (first | apply Kd.V_alloc | apply Kd.V_drewN | apply Kd.V_drew)); exact HO0_6.out) (Kd.N_base ho5) hb); have n1_ := Aside0.mk (Kd.N_lower ho5 (below_size (by repeat (first | (with_reducible first | exact HB.out | apply below_alloc | apply pw_below_drewN | apply below_drew1 | refine below_set ?_ GE142.out) | exact HB.out)))); have n2_ := Aside0.mk (blk_below (g := gb142) (o := .cells #[.int .u8 a0_0, .int .i64 a0_1, .int .i64 a0_2, .int .i64 a0_3, .int .i64 a0_4, .int .i64 a0_5, .slice A0_6 l0_6.length c0_6] 26 (0, 0)) (by (with_reducible repeat (first | refine blk_drewN ?_ _ | refine blk_drew ?_ | refine blk_alloc ?_ _)); exact BK142.out) hb); have n3_ := Aside0.mk (below_step (by repeat (first | (with_reducible first | exact HB.out | apply below_alloc | apply pw_below_drewN | apply below_drew1 | refine below_set ?_ GE142.out) | exact HB.out)) hb); clear HO0_6; clear BK142; clear HB; have HO0_6 := n0_; have HO145 := n1_; have BK142 := n2_; have HB := n3_; clear n0_ n1_ n2_ n3_; clear hb ho5; have hcz6_0 : w4.cell? ⟨gb142, 0, none⟩ = some (.int .u8 a0_0) := (blk_cell BK142.out 0).trans rfl; have hcz6_1 : w4.cell? ⟨gb142, 1, none⟩ = some (.int .i64 a0_1) := (blk_cell BK142.out 1).trans rfl; have hcz6_2 : w4.cell? ⟨gb142, 2, none⟩ = some (.int .i64 a0_2) := (blk_cell BK142.out 2).trans rfl; have hcz6_3 : w4.cell? ⟨gb142, 3, none⟩ = some (.int .i64 a0_3) := (blk_cell BK142.out 3).trans rfl; have hcz6_4 : w4.cell? ⟨gb142, 4, none⟩ = some (.int .i64 a0_4) := (blk_cell BK142.out 4).trans rfl; have hcz6_5 : w4.cell? ⟨gb142, 5, none⟩ = some (.int .i64 a0_5) := (blk_cell BK142.out 5).trans rfl; have hcz6_6 : w4.cell? ⟨gb142, 6, none⟩ = some (.slice A0_6 l0_6.length c0_6) := (blk_cell BK142.out 6).trans rfl; have hfz6_0 := blk_frozen BK142.out 0; have hfz6_1 := blk_frozen BK142.out 1; have hfz6_2 := blk_frozen BK142.out 2; have hfz6_3 := blk_frozen BK142.out 3; have hfz6_4 := blk_frozen BK142.out 4; have hfz6_5 := blk_frozen BK142.out 5; have hfz6_6 := blk_frozen BK142.out 6) | ((with_reducible refine gate_callee (f := 79) rfl ?_); refine goesL_ (some 8) rfl rfl Try.func79 (by kernel_rfl) rfl #[.agg #[.int .u8 a0_0, .int .i64 a0_1, .int .i64 a0_2, .int .i64 a0_3, .int .i64 a0_4, .int .i64 a0_5, .slice A0_6 l0_6.length c0_6]] rfl (by (try simp only [List.map_toArray, List.map_cons, List.map_nil]); first | done | rfl | (simp only [List.length_drop, List.length_take]; rfl)) ?_; (with_reducible refine (sashref05_All.calls k a0_0 a0_1 a0_2 a0_3 a0_4 a0_5 (fun k_ => (((P0_6_ k_ ∨ w.heap.size ≤ k_) ∧ k_ ≠ gb142) ∧ some k_ ≠ (v144 : Value).ownBlock)) _ _ l0_6 t146 _ ?side1 A2.out).mono ?_); (case side1 => exact HO0_6.out); rintro e w7 ⟨v147, rfl, ho0, hb⟩; refine ⟨_, rfl, ?_⟩; have n0_ := Aside0.mk (Kd.V_elder' (by (with_reducible repeat (first | apply Kd.V_alloc | apply Kd.V_drewN | apply Kd.V_drew)); exact HO0_6.out) (Kd.N_base ho0) hb); have n1_ := Aside0.mk (Kd.N_elder' (by (with_reducible repeat (first | apply Kd.N_alloc | apply Kd.N_drewN | apply Kd.N_drew)); exact HO145.out) (Kd.N_base ho0) hb); have n2_ := Aside0.mk (Kd.N_lower (Kd.N_mono (ok' := fun k_ => (P0_6_ k_ ∨ w.heap.size ≤ k_) ∧ some k_ ≠ (v144 : Value).ownBlock ∧ k_ ≠ gb142) ho0 (fun k_ hk_ => ⟨Or.elim hk_ (fun hs_ => hs_.1.1) (fun hn_ => (.inr (Nat.le_trans (below_size (by repeat (first | (with_reducible first | exact HB.out | apply below_alloc | apply pw_below_drewN | apply below_drew1 | refine below_set ?_ GE142.out) | exact HB.out))) hn_))), Or.elim hk_ (fun hs_ => hs_.2) (fun hn_ => (Kd.fresh' (Kd.N_lt (by (with_reducible repeat (first | apply Kd.N_alloc | apply Kd.N_drewN | apply Kd.N_drew)); exact HO145.out)) k_ hn_)), Or.elim hk_ (fun hs_ => hs_.1.2) (fun hn_ => (Kd.freshB (g := gb142) (o := .cells #[.int .u8 a0_0, .int .i64 a0_1, .int .i64 a0_2, .int .i64 a0_3, .int .i64 a0_4, .int .i64 a0_5, .slice A0_6 l0_6.length c0_6] 26 (0, 0)) (by (with_reducible repeat (first | refine blk_drewN ?_ _ | refine blk_drew ?_ | refine blk_alloc ?_ _)); exact BK142.out) k_ hn_))⟩)) (below_size (by repeat (first | (with_reducible first | exact HB.out | apply below_alloc | apply pw_below_drewN | apply below_drew1 | refine below_set ?_ GE142.out) | exact HB.out)))); have n3_ := Aside0.mk (blk_below (g := gb142) (o := .cells #[.int .u8 a0_0, .int .i64 a0_1, .int .i64 a0_2, .int .i64 a0_3, .int .i64 a0_4, .int .i64 a0_5, .slice A0_6 l0_6.length c0_6] 26 (0, 0)) (by (with_reducible repeat (first | refine blk_drewN ?_ _ | refine blk_drew ?_ | refine blk_alloc ?_ _)); exact BK142.out) hb); have n4_ := Aside0.mk (below_step (by repeat (first | (with_reducible first | exact HB.out | apply below_alloc | apply pw_below_drewN | apply below_drew1 | refine below_set ?_ GE142.out) | exact HB.out)) hb); clear HO0_6; clear HO145; clear BK142; clear HB; have HO0_6 := n0_; have HO145 := n1_; have HO148 := n2_; have BK142 := n3_; have HB := n4_; clear n0_ n1_ n2_ n3_ n4_; (try clear hb); (try clear hb2); (try clear hk); (try clear hi); (try clear ho0); obtain ⟨Ao8, co8, eo8⟩ := Kd.N_slice HO148.out; subst eo8))
  go_loopg [3, 11] k (fun kq v3 v11 w' => ∃ (x3_1 : List (S26)) (x11_1 : Int), v11 = .int .i64 x11_1 ∧ Aside0 (sashref05_Leaves.l0 kq x3_1 t146 (t146.length : Int) x11_1 = some r) ∧ Aside0 (kq ≤ k) ∧ Aside0 (Kd.N k26 26 w' w.heap.size (fun k_ => (P0_6_ k_ ∨ w.heap.size ≤ k_) ∧ some k_ ≠ ((.slice Ao8 t146.length co8) : Value).ownBlock ∧ k_ ≠ gb142) v3 x3_1) ∧ Aside0 (Kd.N k26 26 w' w.heap.size (fun k_ => (P0_6_ k_ ∨ w.heap.size ≤ k_) ∧ some k_ ≠ (v3 : Value).ownBlock ∧ k_ ≠ gb142) (.slice Ao8 t146.length co8) t146) ∧ Aside0 (Kd.V k26 26 w' w.heap.size (fun k_ => (P0_6_ k_ ∨ w.heap.size ≤ k_) ∧ some k_ ≠ (v3 : Value).ownBlock ∧ some k_ ≠ ((.slice Ao8 t146.length co8) : Value).ownBlock ∧ k_ ≠ gb142) (.slice A0_6 l0_6.length c0_6) l0_6) ∧ Aside0 (w'.heap[gb142]? = some (.cells #[.int .u8 a0_0, .int .i64 a0_1, .int .i64 a0_2, .int .i64 a0_3, .int .i64 a0_4, .int .i64 a0_5, (.slice A0_6 l0_6.length c0_6)] 26 (0, 0))) ∧ Aside0 (Below w.heap.size w w'))
  case atStart => exact ⟨(y143), (0), (by first | rfl | (simp; done) | (simp [*]; done)), H', ⟨Nat.le_refl _⟩, ⟨by (with_reducible repeat (first | apply Kd.N_alloc | apply Kd.N_drewN | apply Kd.N_drew)); exact Kd.N_mono HO145.out (fun _ hk => ⟨hk.1.1, ⟨hk.2, hk.1.2⟩⟩)⟩, ⟨by (with_reducible repeat (first | apply Kd.N_alloc | apply Kd.N_drewN | apply Kd.N_drew)); exact HO148.out⟩, ⟨by (with_reducible repeat (first | apply Kd.V_alloc | apply Kd.V_drewN | apply Kd.V_drew)); exact Kd.V_mono HO0_6.out (fun _ hk => ⟨hk.1.1.1, ⟨hk.1.2, ⟨hk.2, hk.1.1.2⟩⟩⟩)⟩, ⟨by (with_reducible repeat (first | refine blk_drewN ?_ _ | refine blk_drew ?_ | refine blk_alloc ?_ _)); exact BK142.out⟩, ⟨by repeat (first | (with_reducible first | exact HB.out | apply below_alloc | apply pw_below_drewN | apply below_drew1 | refine below_set ?_ GE142.out) | exact HB.out)⟩⟩
  case round =>
    clear H'
    try clear c1
    try clear p2
    try clear c7
    try clear hcz6_0
    try clear hcz6_1
    try clear hcz6_2
    try clear hcz6_3
    try clear hcz6_4
    try clear hcz6_5
    try clear hcz6_6
    try clear hfz6_0
    try clear hfz6_1
    try clear hfz6_2
    try clear hfz6_3
    try clear hfz6_4
    try clear hfz6_5
    try clear hfz6_6
    obtain ⟨x3_1, x11_1, rfl, HA, HK1, HO_3, HO_4, HO_143006, BK142, HB⟩ := hrel
    cases gk with
    | zero => exact absurd HA.out (by simp [sashref05_Leaves.l0])
    | succ k1 =>
      have H := HA.out
      clear HA
      simp only [sashref05_Leaves.l0] at H
      by_cases c9 : x11_1 < (t146.length : Int)
      · rw [if_pos c9] at H
        have c9b0 : decide (x11_1 < (t146.length : Int)) = true := decide_eq_true c9
        clear c9
        by_cases c10 : 0 ≤ x11_1
        · rw [if_pos c10] at H
          have c10b0 : decide (0 ≤ x11_1) = true := decide_eq_true c10
          clear c10
          by_cases c11 : x11_1 < (t146.length : Int)
          · rw [if_pos c11] at H
            have c11b0 : decide (x11_1 < (t146.length : Int)) = true := decide_eq_true c11
            clear c11
            by_cases c12 : ((rd_T26 t146 x11_1).f0) = 1
            · rw [if_pos c12] at H
              have c12b0 : (((rd_T26 t146 x11_1).f0) == 1) = true := beq_iff_eq.mpr c12
              have c12b1 : (((rd_T26 t146 x11_1).f0) != 1) = false := bne_eq_false_iff_eq.mpr c12
              clear c12
              by_cases c13 : x3_1.length < 1954687338268
              · rw [if_pos c13] at H
                have LMc13 := Aside0.mk c13
                clear c13
                obtain ⟨y151, hy151⟩ : ∃ y_ : List (S26), y_ = (x3_1 ++ [(⟨(rd_T26 t146 x11_1).f0, (⟨(rd_T26 t146 x11_1).f1.f0, (rd_T26 t146 x11_1).f1.f1, (rd_T26 t146 x11_1).f1.f2, (rd_T26 t146 x11_1).f1.f3⟩ : S23), (rd_T26 t146 x11_1).f2, (rd_T26 t146 x11_1).f3⟩ : S26)]) := ⟨_, rfl⟩
                replace H : (sashref05_Leaves.l0 k1 y151 t146 (t146.length : Int) (wrap64 (x11_1 + 1))) = some r := by first | (rw [hy151]; with_reducible exact H) | (have H2_ := (Option.bind_some _ _).symm.trans H; rw [hy151]; with_reducible exact H2_) | (have H2_ := (Option.bind_some _ _).symm.trans H; with_reducible exact H2_) | with_reducible exact H | (rw [hy151]; exact H) | exact H
                have Ny151 := Aside0.mk hy151
                clear hy151
                have H' := Aside0.mk H
                clear H
                have p149 : 0 ≤ (x11_1 : Int) := of_decide_eq_true (by first | (with_reducible assumption) | assumption)
                have q149 : x11_1 < (t146.length : Int) := of_decide_eq_true (by first | (with_reducible assumption) | assumption)
                obtain ⟨ad149, A149_6, c149_6, e149, hx149_0, hx149_1, hx149_2, hx149_3, hx149_4, hx149_5, hx149_6, hl149_6, hi149_6⟩ := at_T26 (Kd.N_reads' HO_4.out).2.2 x11_1 p149 q149
                cases e149
                obtain ⟨ce149, hce149, hMe149, hcc149⟩ := Kd.N_get HO_4.out z26 x11_1 p149 (by first | exact q149 | exact of_decide_eq_true (by first | (with_reducible assumption) | assumption) | (have e_ := (Kd.N_reads' HO_4.out).1; omega))
                obtain ⟨ua149_6, uc149_6, rfl, ul149_6, ge149_6⟩ := k26_openF hMe149
                have hv149_6 := hcc149 6 _ rfl
                rw [add_field _ _ 6 (by omega)] at hv149_6
                replace hv149_6 := Option.some.inj (hv149_6.symm.trans hx149_6)
                injection hv149_6 with hva_ hvn_ hvc_
                rw [hva_] at ge149_6
                rw [hvc_] at ul149_6
                have HL149_6 := Aside0.mk (show Kd.V k26 26 _ w.heap.size _ _ ((rd_T26 t146 x11_1).f3) from Kd.V_mk ul149_6 ge149_6)
                clear hva_ hvn_ hvc_ ge149_6 ul149_6
                clear hcc149 hce149
                have HR149_6 := Aside0.mk hi149_6
                have HC149_6 := Aside0.mk hl149_6
                clear hi149_6 hl149_6
                replace p149 := eq_true p149
                replace q149 := eq_true q149
                have p150 : 0 ≤ (x11_1 : Int) := of_decide_eq_true (by first | (with_reducible assumption) | assumption)
                have q150 : x11_1 < (t146.length : Int) := of_decide_eq_true (by first | (with_reducible assumption) | assumption)
                obtain ⟨ad150, A150_6, c150_6, e150, hx150_0, hx150_1, hx150_2, hx150_3, hx150_4, hx150_5, hx150_6, hl150_6, hi150_6⟩ := at_T26 (Kd.N_reads' HO_4.out).2.2 x11_1 p150 q150
                obtain rfl : ad149 = ad150 := (by injection e150)
                obtain ⟨ce150, hce150, hMe150, hcc150⟩ := Kd.N_get HO_4.out z26 x11_1 p150 (by first | exact q150 | exact of_decide_eq_true (by first | (with_reducible assumption) | assumption) | (have e_ := (Kd.N_reads' HO_4.out).1; omega))
                obtain ⟨ua150_6, uc150_6, rfl, ul150_6, ge150_6⟩ := k26_openF hMe150
                have hv150_6 := hcc150 6 _ rfl
                rw [add_field _ _ 6 (by omega)] at hv150_6
                replace hv150_6 := Option.some.inj (hv150_6.symm.trans hx150_6)
                injection hv150_6 with hva_ hvn_ hvc_
                rw [hva_] at ge150_6
                rw [hvc_] at ul150_6
                have HL150_6 := Aside0.mk (show Kd.V k26 26 _ w.heap.size _ _ ((rd_T26 t146 x11_1).f3) from Kd.V_mk ul150_6 ge150_6)
                clear hva_ hvn_ hvc_ ge150_6 ul150_6
                clear hcc150 hce150
                have HR150_6 := Aside0.mk hi150_6
                have HC150_6 := Aside0.mk hl150_6
                clear hi150_6 hl150_6
                replace p150 := eq_true p150
                replace q150 := eq_true q150
                have ea_ := Option.some.inj (hx149_6.symm.trans hx150_6)
                injection ea_ with ea_ en_ ec_
                subst ea_
                subst ec_
                clear en_
                go_wp2_with (first | ((with_reducible refine gate_builtin (b := .append) (xs := #[.tmp 20, .tmp 25]) rfl ?_); at_builtin; refine Kd.N_append k26 (w0 := w) w.heap.size rfl (.tmp 20) (.tmp 25) 24 26 (.agg #[(.int .u8 0), (.int .i64 0), (.int .i64 0), (.int .i64 0), (.int .i64 0), (.int .i64 0), (.slice none 0 0)]) 72 rfl Try.underlying24 info26 rfl (by decide) (by omega) u3 x3_1 (⟨(rd_T26 t146 x11_1).f0, (⟨(rd_T26 t146 x11_1).f1.f0, (rd_T26 t146 x11_1).f1.f1, (rd_T26 t146 x11_1).f1.f2, (rd_T26 t146 x11_1).f1.f3⟩ : S23), (rd_T26 t146 x11_1).f2, (rd_T26 t146 x11_1).f3⟩ : S26) [.int .u8 ((rd_T26 t146 x11_1).f0), .int .i64 ((rd_T26 t146 x11_1).f1.f0), .int .i64 ((rd_T26 t146 x11_1).f1.f1), .int .i64 ((rd_T26 t146 x11_1).f1.f2), .int .i64 ((rd_T26 t146 x11_1).f1.f3), .int .i64 ((rd_T26 t146 x11_1).f2), .slice A149_6 ((rd_T26 t146 x11_1).f3).length c149_6] (fun k_ => (P0_6_ k_ ∨ w.heap.size ≤ k_) ∧ some k_ ≠ (.slice (some ad149) t146.length co8 : Value).ownBlock ∧ k_ ≠ gb142) (fun k_ => ((fun k_ => (P0_6_ k_ ∨ w.heap.size ≤ k_) ∧ some k_ ≠ (.slice (some ad149) t146.length co8 : Value).ownBlock ∧ k_ ≠ gb142)) k_ ∧ some k_ ≠ (u3 : Value).ownBlock) rfl rfl ?aP (fun _ hk => hk) ?aF ?aO ?aB ?aS ?aL ?_; (case aP => exact (k26_mkF _ _ (⟨(rd_T26 t146 x11_1).f0, (⟨(rd_T26 t146 x11_1).f1.f0, (rd_T26 t146 x11_1).f1.f1, (rd_T26 t146 x11_1).f1.f2, (rd_T26 t146 x11_1).f1.f3⟩ : S23), (rd_T26 t146 x11_1).f2, (rd_T26 t146 x11_1).f3⟩ : S26) (Kd.V_reads' (Kd.V_mono (ok' := (fun k_ => ((fun k_ => (P0_6_ k_ ∨ w.heap.size ≤ k_) ∧ some k_ ≠ (.slice (some ad149) t146.length co8 : Value).ownBlock ∧ k_ ≠ gb142)) k_ ∧ some k_ ≠ (u3 : Value).ownBlock)) (HL150_6.out) (fun k_ hk => ⟨⟨hk.1.1, ⟨hk.2, hk.1.2.2⟩⟩, hk.1.2.1⟩))).2.1 (Kd.V_F (Kd.V_mono (ok' := (fun k_ => ((fun k_ => (P0_6_ k_ ∨ w.heap.size ≤ k_) ∧ some k_ ≠ (.slice (some ad149) t146.length co8 : Value).ownBlock ∧ k_ ≠ gb142)) k_ ∧ some k_ ≠ (u3 : Value).ownBlock)) (HL150_6.out) (fun k_ hk => ⟨⟨hk.1.1, ⟨hk.2, hk.1.2.2⟩⟩, hk.1.2.1⟩))))); (case aB => exact (by repeat (first | (with_reducible first | exact HB.out | apply below_alloc | apply pw_below_drewN | apply below_drew1 | refine below_set ?_ GE142.out) | exact HB.out))); (case aF => exact (fun k_ hk => ⟨(.inr (Nat.le_trans (below_size (by repeat (first | (with_reducible first | exact HB.out | apply below_alloc | apply pw_below_drewN | apply below_drew1 | refine below_set ?_ GE142.out) | exact HB.out))) hk)), Kd.fresh' (Kd.N_lt (by (with_reducible repeat (first | apply Kd.N_alloc | apply Kd.N_drewN | apply Kd.N_drew)); exact HO_4.out)) k_ hk, Kd.freshB (g := gb142) (o := .cells #[.int .u8 a0_0, .int .i64 a0_1, .int .i64 a0_2, .int .i64 a0_3, .int .i64 a0_4, .int .i64 a0_5, .slice A0_6 l0_6.length c0_6] 26 (0, 0)) (by (with_reducible repeat (first | refine blk_drewN ?_ _ | refine blk_drew ?_ | refine blk_alloc ?_ _)); exact BK142.out) k_ hk⟩)); (case aO => exact (by (with_reducible repeat (first | apply Kd.N_alloc | apply Kd.N_drewN | apply Kd.N_drew)); exact HO_3.out)); (case aS => exact (below_size (by repeat (first | (with_reducible first | exact HB.out | apply below_alloc | apply pw_below_drewN | apply below_drew1 | refine below_set ?_ GE142.out) | exact HB.out)))); (case aL => have := LMc13.out; omega); intro v152 w14 ho hb hg hat; rw [← Ny151.out] at ho; have n0_ := Aside0.mk (Kd.N_afterv (ok := (fun k_ => (P0_6_ k_ ∨ w.heap.size ≤ k_) ∧ k_ ≠ gb142)) (by (with_reducible repeat (first | apply Kd.N_alloc | apply Kd.N_drewN | apply Kd.N_drew)); exact Kd.N_mono HO_4.out (fun _ hk => ⟨⟨hk.1, hk.2.2⟩, hk.2.1⟩)) hg hat); have n1_ := Aside0.mk (Kd.V_afterv (ok := (fun k_ => (P0_6_ k_ ∨ w.heap.size ≤ k_) ∧ some k_ ≠ (.slice (some ad149) t146.length co8 : Value).ownBlock ∧ k_ ≠ gb142)) (by (with_reducible repeat (first | apply Kd.V_alloc | apply Kd.V_drewN | apply Kd.V_drew)); exact Kd.V_mono HO_143006.out (fun _ hk => ⟨⟨hk.1, ⟨hk.2.2.1, hk.2.2.2⟩⟩, hk.2.1⟩)) hg hat); have n2_ := Aside0.mk (blk_grown (g := gb142) (o := .cells #[.int .u8 a0_0, .int .i64 a0_1, .int .i64 a0_2, .int .i64 a0_3, .int .i64 a0_4, .int .i64 a0_5, .slice A0_6 l0_6.length c0_6] 26 (0, 0)) (by (with_reducible repeat (first | refine blk_drewN ?_ _ | refine blk_drew ?_ | refine blk_alloc ?_ _)); exact BK142.out) hg (Kd.N_away HO_3.out (fun _ hk => hk.2.2))); have n3_ := Aside0.mk (Kd.V_afterv (ok := (fun k_ => (P0_6_ k_ ∨ w.heap.size ≤ k_) ∧ some k_ ≠ (.slice (some ad149) t146.length co8 : Value).ownBlock ∧ k_ ≠ gb142)) (by (with_reducible repeat (first | apply Kd.V_alloc | apply Kd.V_drewN | apply Kd.V_drew)); exact Kd.V_mono HL149_6.out (fun _ hk => ⟨⟨hk.1.1, ⟨hk.2, hk.1.2.2⟩⟩, hk.1.2.1⟩)) hg hat); have n4_ := Aside0.mk (Kd.V_afterv (ok := (fun k_ => (P0_6_ k_ ∨ w.heap.size ≤ k_) ∧ some k_ ≠ (.slice (some ad149) t146.length co8 : Value).ownBlock ∧ k_ ≠ gb142)) (by (with_reducible repeat (first | apply Kd.V_alloc | apply Kd.V_drewN | apply Kd.V_drew)); exact Kd.V_mono HL150_6.out (fun _ hk => ⟨⟨hk.1.1, ⟨hk.2, hk.1.2.2⟩⟩, hk.1.2.1⟩)) hg hat); have n5_ := Aside0.mk (hb); have n6_ := Aside0.mk (ho); clear HO_4; clear HO_143006; clear BK142; clear HL149_6; clear HL150_6; clear HB; clear HO_3; have HO_4 := n0_; have HO_143006 := n1_; have BK142 := n2_; have HL149_6 := n3_; have HL150_6 := n4_; have HB := n5_; have HO153 := n6_; clear n0_ n1_ n2_ n3_ n4_ n5_ n6_; clear ho hb hg hat))
                go_roundg k1
                case measure => have := HK1.out; omega
                case rel => exact ⟨(y151), (wrap64 (x11_1 + 1)), (by first | rfl | (simp; done) | (simp [*]; done)), H', ⟨by have := HK1.out; omega⟩, ⟨by (with_reducible repeat (first | apply Kd.N_alloc | apply Kd.N_drewN | apply Kd.N_drew)); exact HO153.out⟩, ⟨by (with_reducible repeat (first | apply Kd.N_alloc | apply Kd.N_drewN | apply Kd.N_drew)); exact Kd.N_mono HO_4.out (fun _ hk => ⟨hk.1.1, ⟨hk.2, hk.1.2⟩⟩)⟩, ⟨by (with_reducible repeat (first | apply Kd.V_alloc | apply Kd.V_drewN | apply Kd.V_drew)); exact Kd.V_mono HO_143006.out (fun _ hk => ⟨hk.1.1, ⟨hk.2, ⟨hk.1.2.1, hk.1.2.2⟩⟩⟩)⟩, ⟨by (with_reducible repeat (first | refine blk_drewN ?_ _ | refine blk_drew ?_ | refine blk_alloc ?_ _)); exact BK142.out⟩, ⟨by repeat (first | (with_reducible first | exact HB.out | apply below_alloc | apply pw_below_drewN | apply below_drew1 | refine below_set ?_ GE142.out) | exact HB.out)⟩⟩
              · rw [if_neg c13] at H
                exact absurd H (by simp)
            · rw [if_neg c12] at H
              have c12b0 : (((rd_T26 t146 x11_1).f0) == 1) = false := beq_eq_false_iff_ne.mpr c12
              have c12b1 : (((rd_T26 t146 x11_1).f0) != 1) = true := bne_iff_ne.mpr c12
              have H' := Aside0.mk H
              clear H
              have p149 : 0 ≤ (x11_1 : Int) := of_decide_eq_true (by first | (with_reducible assumption) | assumption)
              have q149 : x11_1 < (t146.length : Int) := of_decide_eq_true (by first | (with_reducible assumption) | assumption)
              obtain ⟨ad149, A149_6, c149_6, e149, hx149_0, hx149_1, hx149_2, hx149_3, hx149_4, hx149_5, hx149_6, hl149_6, hi149_6⟩ := at_T26 (Kd.N_reads' HO_4.out).2.2 x11_1 p149 q149
              cases e149
              obtain ⟨ce149, hce149, hMe149, hcc149⟩ := Kd.N_get HO_4.out z26 x11_1 p149 (by first | exact q149 | exact of_decide_eq_true (by first | (with_reducible assumption) | assumption) | (have e_ := (Kd.N_reads' HO_4.out).1; omega))
              obtain ⟨ua149_6, uc149_6, rfl, ul149_6, ge149_6⟩ := k26_openF hMe149
              have hv149_6 := hcc149 6 _ rfl
              rw [add_field _ _ 6 (by omega)] at hv149_6
              replace hv149_6 := Option.some.inj (hv149_6.symm.trans hx149_6)
              injection hv149_6 with hva_ hvn_ hvc_
              rw [hva_] at ge149_6
              rw [hvc_] at ul149_6
              have HL149_6 := Aside0.mk (show Kd.V k26 26 _ w.heap.size _ _ ((rd_T26 t146 x11_1).f3) from Kd.V_mk ul149_6 ge149_6)
              clear hva_ hvn_ hvc_ ge149_6 ul149_6
              clear hcc149 hce149
              have HR149_6 := Aside0.mk hi149_6
              have HC149_6 := Aside0.mk hl149_6
              clear hi149_6 hl149_6
              replace p149 := eq_true p149
              replace q149 := eq_true q149
              go_wp2
              go_roundg k1
              case measure => have := HK1.out; omega
              case rel => exact ⟨(x3_1), (wrap64 (x11_1 + 1)), (by first | rfl | (simp; done) | (simp [*]; done)), H', ⟨by have := HK1.out; omega⟩, ⟨by (with_reducible repeat (first | apply Kd.N_alloc | apply Kd.N_drewN | apply Kd.N_drew)); exact HO_3.out⟩, ⟨by (with_reducible repeat (first | apply Kd.N_alloc | apply Kd.N_drewN | apply Kd.N_drew)); exact HO_4.out⟩, ⟨by (with_reducible repeat (first | apply Kd.V_alloc | apply Kd.V_drewN | apply Kd.V_drew)); exact HO_143006.out⟩, ⟨by (with_reducible repeat (first | refine blk_drewN ?_ _ | refine blk_drew ?_ | refine blk_alloc ?_ _)); exact BK142.out⟩, ⟨by repeat (first | (with_reducible first | exact HB.out | apply below_alloc | apply pw_below_drewN | apply below_drew1 | refine below_set ?_ GE142.out) | exact HB.out)⟩⟩
          · rw [if_neg c11] at H
            exact absurd H (by simp)
        · rw [if_neg c10] at H
          exact absurd H (by simp)
      · rw [if_neg c9] at H
        have c9b0 : decide (x11_1 < (t146.length : Int)) = false := decide_eq_false c9
        clear c9
        obtain rfl := Option.some.inj H
        go_wp2
        go_ret
        exact ⟨_, by first | rfl | (simp [errW_none, errW_some] <;> rfl) | (simp [*, errW_none, errW_some] <;> rfl), by (with_reducible repeat (first | apply Kd.N_alloc | apply Kd.N_drewN | apply Kd.N_drew)); exact Kd.N_mono HO_3.out (fun _ hk => hk.1), by repeat (first | (with_reducible first | exact HB.out | apply below_alloc | apply pw_below_drewN | apply below_drew1 | refine below_set ?_ GE142.out) | exact HB.out)⟩

end Go.Proofs.Ytfdmfgaiblfbhaa.P
/- Trees of cells: their size, their cells, their leaves, their panes: the reference's functions, as plain data. -/
namespace Go.Proofs.Ytfdmfgaiblfbhaa.P
open Go.RowKit Go.Proofs.YtfdmfgaiblfbhaaW.PrintWords Go.Proofs.YtfdmfgaiblfbhaaW.PrintLast Go.Proofs.YtfdmfgaiblfbhaaW.PrintMore

theorem rd26_in (pre : List S26) (p : S26) (rest : List S26) : rd_T26 (pre ++ p :: rest) (pre.length : Int) = p := by
  simp [rd_T26, List.getD_eq_getElem?_getD]
theorem up_in {α : Type} (pre : List α) (p : α) (rest : List α) (h : (pre ++ p :: rest).length ≤ 9223372036854775807) : wrap64 ((pre.length : Int) + 1) = ((pre ++ [p]).length : Int) := by
  simp only [List.length_append, List.length_cons, List.length_nil] at h ⊢
  rw [wq (by omega) (by omega)]
  omega

/-- THE COUNT, that ends once it is above a bound. -/
theorem count_ev (L : Int) : ∀ (N : Nat) (c : S26), sz c ≤ N → N ≤ 1048576 → ∃ n : Int, Ev (fun k => sashref05_count.f k c.f0 c.f1.f0 c.f1.f1 c.f1.f2 c.f1.f3 c.f2 c.f3 L) n ∧ 1 ≤ n ∧ n ≤ (sz c : Int) ∧ (n > L ∨ n = (sz c : Int)) := by
  intro N
  induction N with
  | zero => intro c h _; rw [sz_eq] at h; omega
  | succ N ih =>
    intro c hc hN
    have hs := sz_eq c
    have key : ∀ (rest pre : List S26), pre ++ rest = c.f3 → ∀ acc : Int, 1 ≤ acc → acc + (szL rest : Int) ≤ 1048576 → (acc > L ∨ acc = 1 + (szL pre : Int)) →
        ∃ n : Int, Ev (fun k => sashref05_count.l0 k L acc (c.f3.length : Int) (pre.length : Int) c.f0 c.f1.f0 c.f1.f1 c.f1.f2 c.f1.f3 c.f2 c.f3) n ∧ acc ≤ n ∧ n ≤ acc + (szL rest : Int) ∧ (n > L ∨ n = 1 + (szL c.f3 : Int)) := by
      intro rest
      induction rest with
      | nil =>
        intro pre hp acc h1 h2 h3
        rw [List.append_nil] at hp
        refine ⟨acc, Ev.step (f := fun _ => some acc) (fun k => ?_) (Ev.now _), by omega, by omega, by rw [← hp]; exact h3⟩
        simp only [sashref05_count.l0]
        rw [if_neg (by rw [hp]; omega)]
      | cons x xs ihr =>
        intro pre hp acc h1 h2 h3
        have hl : (pre.length : Int) < (c.f3.length : Int) := by rw [← hp, List.length_append, List.length_cons]; omega
        have hlen := szL_len c.f3
        by_cases hL : acc > L
        · refine ⟨acc, Ev.step (f := fun _ => some acc) (fun k => ?_) (Ev.now _), by omega, by omega, .inl hL⟩
          simp only [sashref05_count.l0]
          rw [if_pos hl, if_pos hL]
        · have h3' : acc = 1 + (szL pre : Int) := by omega
          have hsum : szL c.f3 = szL pre + (sz x + szL xs) := by rw [← hp, szL_app, szL_cons]
          obtain ⟨n1, e1, a1, b1, c1⟩ := ih x (by omega) (by omega)
          rw [szL_cons] at h2
          obtain ⟨n, e2, a2, b2, c2⟩ := ihr (pre ++ [x]) (by rw [List.append_assoc]; exact hp) (acc + n1) (by omega) (by omega) (by
            rw [szL_app, szL_cons, szL_nil]
            omega)
          refine ⟨n, ?_, by omega, by rw [szL_cons]; omega, c2⟩
          have hw : wrap64 (acc + n1) = acc + n1 := wq (by omega) (by omega)
          have hr : rd_T26 c.f3 (pre.length : Int) = x := by rw [← hp]; exact rd26_in pre x xs
          have hu : wrap64 ((pre.length : Int) + 1) = ((pre ++ [x]).length : Int) := up_in pre x xs (by rw [hp]; omega)
          refine Ev.step (f := fun k => (sashref05_count.f k x.f0 x.f1.f0 x.f1.f1 x.f1.f2 x.f1.f3 x.f2 x.f3 L).bind fun t => sashref05_count.l0 k L (wrap64 (acc + t)) (c.f3.length : Int) (wrap64 ((pre.length : Int) + 1)) c.f0 c.f1.f0 c.f1.f1 c.f1.f2 c.f1.f3 c.f2 c.f3) (fun k => ?_) (Ev.bind e1 ?_)
          · simp only [sashref05_count.l0]
            rw [if_pos hl, if_neg hL, if_pos (by omega), if_pos hl, hr]
          · rw [hw, hu]
            exact e2
    obtain ⟨n, e, a, b, d⟩ := key c.f3 [] rfl 1 (by omega) (by omega) (.inr (by rw [szL_nil]; rfl))
    refine ⟨n, Ev.step (fun k => ?_) e, a, by omega, by omega⟩
    simp only [sashref05_count.f]
    rfl
theorem great_ev (c : S26) (h : sz c ≤ 1048576) : ∃ b : Bool, Ev (fun k => sashref05_Great.f k c.f0 c.f1.f0 c.f1.f1 c.f1.f2 c.f1.f3 c.f2 c.f3) b ∧ (b = false → sz c ≤ 200) := by
  obtain ⟨n, e, h1, h2, h3⟩ := count_ev 200 1048576 c h (Nat.le_refl _)
  refine ⟨decide (n > 200), ?_, fun hb => ?_⟩
  · unfold sashref05_Great.f
    exact Ev.bind e (Ev.now _)
  · have := of_decide_eq_false hb
    omega

/-- The leaves. -/
def leavesC (c : S26) : List S26 := (allC c).filter fun x => decide (x.f0 = 1)
end Go.Proofs.Ytfdmfgaiblfbhaa.P
/- The reference's sameness of trees: plain data. -/
namespace Go.Proofs.Ytfdmfgaiblfbhaa.P
open Go.RowKit Go.Proofs.YtfdmfgaiblfbhaaW.PrintWords Go.Proofs.YtfdmfgaiblfbhaaW.PrintLast Go.Proofs.YtfdmfgaiblfbhaaW.PrintMore

def rectB (a b : S23) : Bool := a.f0 == b.f0 && (a.f1 == b.f1 && (a.f2 == b.f2 && a.f3 == b.f3))
mutual
def sameC : S26 → S26 → Bool
  | ⟨a, r, d, l⟩, ⟨a', r', d', l'⟩ => a == a' && (rectB r r' && (d == d' && (l.length == l'.length && sameL l l')))
def sameL : List S26 → List S26 → Bool
  | [], _ => true
  | _ :: _, [] => true
  | c :: cs, e :: es => sameC c e && sameL cs es
end
theorem sameC_eq (a b : S26) : sameC a b = (a.f0 == b.f0 && (rectB a.f1 b.f1 && (a.f2 == b.f2 && (a.f3.length == b.f3.length && sameL a.f3 b.f3)))) := by cases a; cases b; simp [sameC]
theorem sameL_nil (b : List S26) : sameL [] b = true := by cases b <;> simp [sameL]
theorem sameL_cons (c e : S26) (cs es : List S26) : sameL (c :: cs) (e :: es) = (sameC c e && sameL cs es) := by simp [sameL]
theorem same_ev : ∀ (N : Nat) (a : S26), sz a ≤ N → N ≤ 1048576 → ∀ b : S26, Ev (fun k => sashref05_Same.f k a.f0 a.f1.f0 a.f1.f1 a.f1.f2 a.f1.f3 a.f2 a.f3 b.f0 b.f1.f0 b.f1.f1 b.f1.f2 b.f1.f3 b.f2 b.f3) (sameC a b) := by
  intro N
  induction N with
  | zero => intro a h _; rw [sz_eq] at h; omega
  | succ N ih =>
    intro a ha hN b
    have hs := sz_eq a
    have hlen := szL_len a.f3
    have jt : Ev (fun k => sashref05_Same.j0 k true a.f0 a.f1.f0 a.f1.f1 a.f1.f2 a.f1.f3 a.f2 a.f3 b.f0 b.f1.f0 b.f1.f1 b.f1.f2 b.f1.f3 b.f2 b.f3) false := by
      refine Ev.step (f := fun _ => some false) (fun k => ?_) (Ev.now _)
      simp only [sashref05_Same.j0]
      rw [if_pos trivial]
    have key : a.f3.length = b.f3.length → ∀ (rest pre rb pb : List S26), pre ++ rest = a.f3 → pb ++ rb = b.f3 → pre.length = pb.length → Ev (fun k => sashref05_Same.l0 k (a.f3.length : Int) (pre.length : Int) a.f0 a.f1.f0 a.f1.f1 a.f1.f2 a.f1.f3 a.f2 a.f3 b.f0 b.f1.f0 b.f1.f1 b.f1.f2 b.f1.f3 b.f2 b.f3) (sameL rest rb) := by
      intro hl rest
      induction rest with
      | nil =>
        intro pre rb pb hp hb he
        rw [List.append_nil] at hp
        rw [sameL_nil]
        refine Ev.step (f := fun _ => some true) (fun k => ?_) (Ev.now _)
        simp only [sashref05_Same.l0]
        rw [if_neg (by rw [hp]; omega)]
      | cons x xs ihr =>
        intro pre rb pb hp hb he
        have h1 : a.f3.length = pre.length + (xs.length + 1) := by rw [← hp, List.length_append, List.length_cons]
        cases rb with
        | nil => rw [List.append_nil] at hb; rw [← hb] at hl; omega
        | cons y ys =>
          have h2 : b.f3.length = pb.length + (ys.length + 1) := by rw [← hb, List.length_append, List.length_cons]
          have hsum : szL a.f3 = szL pre + (sz x + szL xs) := by rw [← hp, szL_app, szL_cons]
          have e2 := ihr (pre ++ [x]) ys (pb ++ [y]) (by rw [List.append_assoc]; exact hp) (by rw [List.append_assoc]; exact hb) (by rw [List.length_append, List.length_append, he]; rfl)
          have hr : rd_T26 a.f3 (pre.length : Int) = x := by rw [← hp]; exact rd26_in pre x xs
          have hr2 : rd_T26 b.f3 (pre.length : Int) = y := by rw [he, ← hb]; exact rd26_in pb y ys
          have hu : wrap64 ((pre.length : Int) + 1) = ((pre ++ [x]).length : Int) := up_in pre x xs (by rw [hp]; omega)
          rw [sameL_cons]
          refine Ev.step (f := fun k => (sashref05_Same.f k x.f0 x.f1.f0 x.f1.f1 x.f1.f2 x.f1.f3 x.f2 x.f3 y.f0 y.f1.f0 y.f1.f1 y.f1.f2 y.f1.f3 y.f2 y.f3).bind fun t => (if t = true then (sashref05_Same.l0 k (a.f3.length : Int) (wrap64 ((pre.length : Int) + 1)) a.f0 a.f1.f0 a.f1.f1 a.f1.f2 a.f1.f3 a.f2 a.f3 b.f0 b.f1.f0 b.f1.f1 b.f1.f2 b.f1.f3 b.f2 b.f3) else (some false))) (fun k => ?_) (Ev.bind (ih x (by omega) (by omega) y) ?_)
          · simp only [sashref05_Same.l0]
            rw [if_pos (by omega), if_pos (by omega), if_pos (by omega), if_pos (by omega), hr, hr2]
          · cases hxy : sameC x y with
            | false => exact ev_neg (by simp) (Ev.now _)
            | true => rw [hu, Bool.true_and]; exact ev_pos rfl e2
    have jl : Ev (fun k => sashref05_Same.j0 k ((a.f3.length : Int) != (b.f3.length : Int)) a.f0 a.f1.f0 a.f1.f1 a.f1.f2 a.f1.f3 a.f2 a.f3 b.f0 b.f1.f0 b.f1.f1 b.f1.f2 b.f1.f3 b.f2 b.f3) (a.f3.length == b.f3.length && sameL a.f3 b.f3) := by
      by_cases hl : a.f3.length = b.f3.length
      · have e1 : ((a.f3.length : Int) != (b.f3.length : Int)) = false := by simp [hl]
        have e2 : (a.f3.length == b.f3.length) = true := by simp [hl]
        rw [e1, e2, Bool.true_and]
        refine Ev.step (fun k => ?_) (key hl a.f3 [] b.f3 [] rfl rfl rfl)
        simp only [sashref05_Same.j0]
        rw [if_neg (by simp)]
        rfl
      · have e1 : ((a.f3.length : Int) != (b.f3.length : Int)) = true := by simp; omega
        have e2 : (a.f3.length == b.f3.length) = false := by simp [hl]
        rw [e1, e2, Bool.false_and]
        exact jt
    rw [sameC_eq]
    by_cases h0 : a.f0 = b.f0
    · rw [show (a.f0 == b.f0) = true from by simp [h0], Bool.true_and]
      have hr : (!(a.f1.f0 == b.f1.f0) || (!(a.f1.f1 == b.f1.f1) || (!(a.f1.f2 == b.f1.f2) || (!(a.f1.f3 == b.f1.f3))))) = !(rectB a.f1 b.f1) := by simp [rectB, Bool.not_and]
      cases h1 : rectB a.f1 b.f1 with
      | false =>
        rw [Bool.false_and]
        refine Ev.step (fun k => ?_) jt
        simp only [sashref05_Same.f]
        rw [if_pos h0, hr, h1, Bool.not_false, if_pos rfl]
      | true =>
        rw [Bool.true_and]
        by_cases h2 : a.f2 = b.f2
        · rw [show (a.f2 == b.f2) = true from by simp [h2], Bool.true_and]
          refine Ev.step (fun k => ?_) jl
          simp only [sashref05_Same.f]
          rw [if_pos h0, hr, h1, if_neg (by simp), if_pos h2]
        · rw [show (a.f2 == b.f2) = false from by simp [h2], Bool.false_and]
          refine Ev.step (fun k => ?_) jt
          simp only [sashref05_Same.f]
          rw [if_pos h0, hr, h1, if_neg (by simp), if_neg h2]
    · rw [show (a.f0 == b.f0) = false from by simp [h0], Bool.false_and]
      refine Ev.step (fun k => ?_) jt
      simp only [sashref05_Same.f]
      rw [if_neg h0]
theorem sameC_refl : ∀ (N : Nat), (∀ c : S26, sz c ≤ N → sameC c c = true) ∧ (∀ l : List S26, szL l ≤ N → sameL l l = true) := by
  intro N
  induction N with
  | zero =>
    refine ⟨fun c h => ?_, fun l h => ?_⟩
    · rw [sz_eq] at h; omega
    · cases l with
      | nil => exact sameL_nil _
      | cons x xs => rw [szL_cons, sz_eq] at h; omega
  | succ N ih =>
    have hC : ∀ c : S26, sz c ≤ N + 1 → sameC c c = true := by
      intro c h
      rw [sz_eq] at h
      rw [sameC_eq, ih.2 c.f3 (by omega)]
      simp [rectB]
    refine ⟨hC, fun l => ?_⟩
    induction l with
    | nil => intro _; exact sameL_nil _
    | cons x xs ihl =>
      intro h
      rw [szL_cons] at h
      rw [sameL_cons, hC x (by omega), ihl (by omega)]
      rfl
theorem same_self (c : S26) (h : sz c ≤ 1048576) : Ev (fun k => sashref05_Same.f k c.f0 c.f1.f0 c.f1.f1 c.f1.f2 c.f1.f3 c.f2 c.f3 c.f0 c.f1.f0 c.f1.f1 c.f1.f2 c.f1.f3 c.f2 c.f3) true := by
  have e := same_ev (sz c) c (Nat.le_refl _) h c
  rwa [(sameC_refl (sz c)).1 c (Nat.le_refl _)] at e
end Go.Proofs.Ytfdmfgaiblfbhaa.P
/- The contract of the reference's Shares: round by round, one by one. -/
namespace Go.Proofs.Ytfdmfgaiblfbhaa.P
open Go.RowKit Go.Proofs.YtfdmfgaiblfbhaaW.PrintWords Go.Proofs.YtfdmfgaiblfbhaaW.PrintLast Go.Proofs.YtfdmfgaiblfbhaaW.PrintMore

/-- One kid's turn: (what is left, what it can give and what it came to). -/
def rstep (left : Int) (p : Int × Int) : Int × (Int × Int) := if left > 0 then (left - 1, (p.1, p.2 + 1)) else if left < 0 ∧ p.1 + p.2 > 0 then (left + 1, (p.1, p.2 - 1)) else (left, p)
def rround : Int → List (Int × Int) → Int × List (Int × Int)
  | l, [] => (l, [])
  | l, p :: ps => ((rround (rstep l p).1 ps).1, (rstep l p).2 :: (rround (rstep l p).1 ps).2)
def rloop : Nat → Int → List (Int × Int) → Option (List Int × Bool)
  | 0, _, _ => none
  | k + 1, l, ps => if l = 0 then some (ps.map Prod.snd, true) else if (rround l ps).1 = l then some ([], false) else rloop k (rround l ps).1 (rround l ps).2
def sashref09_Shares.f (k : Nat) (a0 : Int) (l1 : List Int) : Option (List Int × Bool) :=
  if -100000 ≤ a0 ∧ a0 ≤ 100000 ∧ l1.length ≤ 100000 then
    if l1 = [] then some ([], false)
    else if ∀ g, g ∈ l1 → 0 ≤ g ∧ g ≤ 2147483647 then rloop k a0 (l1.map fun g => (g, 0)) else some ([], false)
  else none
theorem rloop_mono : ∀ k l ps, LeO (rloop k l ps) (rloop (k + 1) l ps)
  | 0 => fun l ps r h => by simp [rloop] at h
  | k + 1 => fun l ps => by
    have ih := rloop_mono k
    unfold rloop
    exact LeO.ite (LeO.refl _) (LeO.ite (LeO.refl _) (ih _ _))
theorem sashref09_Shares.mono : ∀ a0 a1 k, LeO (sashref09_Shares.f k a0 a1) (sashref09_Shares.f (k + 1) a0 a1) := by
  intro a0 a1 k
  unfold sashref09_Shares.f
  exact LeO.ite (LeO.ite (LeO.refl _) (LeO.ite (rloop_mono _ _ _) (LeO.refl _))) (LeO.refl _)

def RB (l : Int) (ps : List (Int × Int)) : Prop := ∀ p, p ∈ ps → 0 ≤ p.1 ∧ p.1 ≤ 2147483647 ∧ p.2 + l ≤ 100000 ∧ p.2 - l ≤ 100000 ∧ -100000 ≤ p.2 + l ∧ -100000 ≤ p.2 - l
theorem rstep_le (l : Int) (p : Int × Int) : (¬ 0 < l ∧ ¬ (l < 0 ∧ 0 < p.1 + p.2) ∧ rstep l p = (l, p)) ∨ (0 < l ∧ (rstep l p) = (l - 1, (p.1, p.2 + 1))) ∨ (l < 0 ∧ 0 < p.1 + p.2 ∧ (rstep l p) = (l + 1, (p.1, p.2 - 1))) := by
  unfold rstep
  split
  · rename_i h; exact .inr (.inl ⟨h, rfl⟩)
  · rename_i h0
    split
    · rename_i h; exact .inr (.inr ⟨h.1, h.2, rfl⟩)
    · rename_i h; exact .inl ⟨h0, h, rfl⟩
theorem rd_mid {α : Type} (f : α → Int) (pre : List α) (p : α) (rest : List α) : rd ((pre ++ p :: rest).map f) (pre.length : Int) = f p := by
  simp [rd, List.getD_eq_getElem?_getD]
theorem set_mid {α β : Type} (f : α → β) (pre : List α) (p : α) (rest : List α) (q : α) : ((pre ++ p :: rest).map f).set pre.length (f q) = ((pre ++ [q]) ++ rest).map f := by
  simp

theorem rstep_next {M M' L : Int} {p p' : Int × Int} {pre rest ps : List (Int × Int)} {l1 : List Int} (e : rstep M p = (M', p')) (HF : (pre ++ p :: rest).map Prod.fst = l1) (HB : RB M (pre ++ p :: rest)) (HD : -100000 ≤ M ∧ M ≤ 100000)
    (HE : (rround L ps).1 = (rround M (p :: rest)).1 ∧ (rround L ps).2 = pre ++ (rround M (p :: rest)).2) :
    ((pre ++ [p']) ++ rest).map Prod.fst = l1 ∧ RB M' ((pre ++ [p']) ++ rest) ∧ (-100000 ≤ M' ∧ M' ≤ 100000) ∧ ((rround L ps).1 = (rround M' rest).1 ∧ (rround L ps).2 = (pre ++ [p']) ++ (rround M' rest).2) := by
  have hp : p'.1 = p.1 := by
    rcases rstep_le M p with ⟨_, _, h⟩ | ⟨_, h⟩ | ⟨_, _, h⟩ <;> rw [e] at h <;> injection h with h1 h2 <;> rw [h2]
  have hb := HB p (by simp)
  refine ⟨?_, ?_, ?_, ?_, ?_⟩
  · rw [← HF]; simp [hp]
  · have key : ∀ q, q ∈ pre ++ p :: rest → 0 ≤ q.1 ∧ q.1 ≤ 2147483647 ∧ q.2 + M' ≤ 100000 ∧ q.2 - M' ≤ 100000 ∧ -100000 ≤ q.2 + M' ∧ -100000 ≤ q.2 - M' := fun q hq => by
      have h := HB q hq
      rcases rstep_le M p with ⟨_, _, h'⟩ | ⟨_, h'⟩ | ⟨_, _, h'⟩ <;> rw [e] at h' <;> injection h' with h1 h2 <;> omega
    intro q hq
    simp only [List.append_assoc, List.mem_append, List.mem_cons, List.not_mem_nil, or_false] at hq
    rcases hq with hq | rfl | hq
    · exact key q (by simp [hq])
    · rcases rstep_le M p with ⟨_, _, h'⟩ | ⟨_, h'⟩ | ⟨_, _, h'⟩ <;> rw [e] at h' <;> injection h' with h1 h2 <;> subst h1 h2 <;> (try simp only) <;> omega
    · exact key q (by simp [hq])
  · rcases rstep_le M p with ⟨_, _, h'⟩ | ⟨_, h'⟩ | ⟨_, _, h'⟩ <;> rw [e] at h' <;> injection h' with h1 h2 <;> omega
  · rw [HE.1]; simp only [rround, e]
  · rw [HE.2]; simp only [rround, e, List.append_assoc, List.cons_append, List.nil_append]

set_option maxHeartbeats 4000000 in
set_option maxRecDepth 100000 in
theorem sashref09_Shares.calls (k : Nat) (a0 : Int) (A1 : Option Addr) (c1 : Nat) (l1 : List Int) (r1 : List Int) (r2 : Bool) (w : World) (hr1 : Kd.C (Kd.int .i64) w A1 l1.length l1) (hc1 : l1.length ≤ c1) (h : sashref09_Shares.f k a0 l1 = some (r1, r2)) :
    Calls Try.prog 50 #[.int .i64 a0, .slice A1 l1.length c1] w fun e w' => ∃ v0_ : Value, e = .returned (.tuple #[v0_, .bool r2]) ∧ Kd.R (Kd.int .i64) 3 w' w.heap.size (fun _ => True) v0_ r1 ∧ Below w.heap.size w w' := by
  unfold sashref09_Shares.f at h
  split at h
  · rename_i hd
    obtain ⟨hd1, hd2, hd3⟩ := hd
    have hmk := print_make (P := Try.prog) 41 3 .i64 8 Try.underlying41 info3 (by decide) l1.length (by omega)
    have hs := own_made w w.heap.size 3 .i64 l1.length (Nat.le_refl _) (by omega)
    have HS := Aside0.mk hs
    have HR := Aside0.mk hr1
    have HC := Aside0.mk hc1
    clear hs hr1 hc1
    split at h
    · rename_i he
      injection h with h
      injection h with h1 h2
      subst h1 h2
      have hn0 : ((l1.length : Int) == 0) = true := by simp [he]
      have HE := Aside0.mk he
      clear he
      go_enter Try.func50, Try.ntmps50
      go_wp2
      go_ret2
      refine ⟨_, rfl, Kd.R_of_own (enc := Value.int .i64) (h1 := fun _ => rfl) ?_ (fun _ _ => trivial), below_alloc (Below.refl _ _) _⟩
      have h := HS.out
      rw [HE.out] at h ⊢
      exact h
    · rename_i hne
      have hpos : 0 < l1.length := List.length_pos_iff.2 hne
      have hn0 : ((l1.length : Int) == 0) = false := by simp; omega
      have H := Aside0.mk h
      clear h
      go_enter Try.func50, Try.ntmps50
      go_wp2
      clear hmk hne hn0
      have HR2 := Aside0.mk (Kd.C_below HR.out (below_alloc (Below.refl w.heap.size w) (Obj.cells (madeCells #[Value.int IntKind.i64 0] l1.length) 3)))
      go_loop [21] (fun v21 => ∃ i : Nat, i ≤ l1.length ∧ v21 = .int .i64 i ∧ Aside0 (∀ j, j < i → 0 ≤ rd l1 (j : Int) ∧ rd l1 (j : Int) ≤ 2147483647)) (fun v21 => l1.length - (intOf v21).toNat)
      case atStart => exact ⟨0, by omega, rfl, ⟨fun j hj => absurd hj (by omega)⟩⟩
      case round =>
        obtain ⟨i, hi, rfl, HI⟩ := hrel
        by_cases hlt : i < l1.length
        · have hlt' : (i : Int) < (l1.length : Int) := by omega
          obtain ⟨ad, rfl, hc⟩ := Kd.at_int HR2.out (i : Int) (by omega) (by omega)
          simp only [Int.toNat_natCast] at hc
          have hmem : rd l1 (i : Int) ∈ l1 := by
            simp only [rd, Int.toNat_natCast, List.getD_eq_getElem?_getD, List.getElem?_eq_getElem hlt, Option.getD_some]
            exact List.getElem_mem hlt
          generalize hx : rd l1 (i : Int) = x at hc hmem
          by_cases hx0 : x < 0 ∨ 2147483647 < x
          · have hbad : ¬ ∀ g, g ∈ l1 → 0 ≤ g ∧ g ≤ 2147483647 := fun hall => by have := hall x hmem; omega
            have h := H.out
            rw [if_neg hbad] at h
            injection h with h
            injection h with h1 h2
            subst h1 h2
            clear hbad hmem
            by_cases hx1 : x < 0
            all_goals
              go_wp2
              go_ret2
              have ho := own_lit (w.alloc (Obj.cells (madeCells #[Value.int IntKind.i64 0] l1.length) 3)) w.heap.size 3 .i64 [] (by simp) (by simp)
              simp only [World.size_alloc, nums, List.map_nil] at ho
              exact ⟨_, rfl, Kd.R_of_own (enc := Value.int .i64) (h1 := fun _ => rfl) ho (fun _ _ => trivial), below_alloc (below_alloc (Below.refl _ _) _) _⟩
          · have hx1 : 0 ≤ x := by omega
            have hx2 : x ≤ 2147483647 := by omega
            clear hx0 hmem
            have HX := Aside0.mk hx
            clear hx
            go_wp2
            go_round
            case rel =>
              refine ⟨i + 1, by omega, by go_num, ⟨fun j hj => ?_⟩⟩
              by_cases e : j = i
              · subst e; rw [HX.out]; exact ⟨hx1, hx2⟩
              · exact HI.out j (by omega)
            case measure => simp [intOf]; omega
        · obtain rfl : i = l1.length := by omega
          have hall : ∀ g, g ∈ l1 → 0 ≤ g ∧ g ≤ 2147483647 := fun g hg => by
            obtain ⟨j, hj, rfl⟩ := List.getElem_of_mem hg
            have := HI.out j hj
            simp only [rd, Int.toNat_natCast, List.getD_eq_getElem?_getD, List.getElem?_eq_getElem hj, Option.getD_some] at this
            exact this
          have h := H.out
          rw [if_pos hall] at h
          have HA := Aside0.mk hall
          have HL := Aside0.mk h
          clear HI hall h H
          go_wp2
          clear HR2
          go_loopg [7] k (fun gk v7 wr => ∃ (L : Int) (ps : List (Int × Int)), v7 = .int .i64 L ∧ Aside0 (rloop gk L ps = some (r1, r2)) ∧ Aside0 (ps.map Prod.fst = l1) ∧ Aside0 (RB L ps) ∧ Aside0 (-100000 ≤ L ∧ L ≤ 100000) ∧ Aside0 (wr.ownsRow w.heap.size 3 1 (.slice (some ⟨w.heap.size, 0, none⟩) l1.length l1.length) l1.length (nums .i64 (ps.map Prod.snd))) ∧ Aside0 (Below w.heap.size w wr))
          case atStart =>
            refine ⟨a0, l1.map fun g => (g, 0), rfl, HL, ⟨by simp [List.map_map, Function.comp_def]⟩, ⟨?_⟩, ⟨hd1, hd2⟩, ⟨?_⟩, ⟨below_alloc (Below.refl _ _) _⟩⟩
            · intro p hp
              obtain ⟨g, hg, rfl⟩ := List.mem_map.1 hp
              have := HA.out g hg
              simp only
              omega
            · have h := HS.out
              rw [show (l1.map fun g => (g, (0 : Int))).map Prod.snd = List.replicate l1.length 0 by simp [List.map_map, Function.comp_def, List.map_const']]
              exact h
          case round =>
            clear HL HA HS
            obtain ⟨L, ps, rfl, HL, HF, HB, HD, HO, HBel⟩ := hrel
            cases gk with
            | zero => exact absurd HL.out (by simp [rloop])
            | succ kk =>
              have h := HL.out
              clear HL
              simp only [rloop] at h
              by_cases hL : L = 0
              · rw [if_pos hL] at h
                injection h with h
                injection h with h1 h2
                subst h1 h2 hL
                go_wp2
                go_ret2
                refine ⟨_, rfl, Kd.R_of_own (enc := Value.int .i64) (h1 := fun _ => rfl) ?_ (fun _ _ => trivial), HBel.out⟩
                have e : ps.length = l1.length := by rw [← HF.out]; simp
                rw [List.length_map, e]
                exact HO.out
              · rw [if_neg hL] at h
                have H2 := Aside0.mk h
                clear h
                have hne0 : (L != 0) = true := by simpa using hL
                have hne1 : (L == 0) = false := by simpa using hL
                have HNL := Aside0.mk hL
                clear hL
                go_wp2
                clear hne0
                obtain ⟨wo, rfl⟩ : ∃ wo : World, wo = wr := ⟨_, rfl⟩
                go_loopg [7, 50] l1.length (fun g v7 v50 w2 => ∃ (M : Int) (pre rest : List (Int × Int)), v7 = .int .i64 M ∧ v50 = .int .i64 (pre.length : Nat) ∧ Aside0 (rest.length ≤ g) ∧ Aside0 ((pre ++ rest).map Prod.fst = l1) ∧ Aside0 (RB M (pre ++ rest)) ∧ Aside0 (-100000 ≤ M ∧ M ≤ 100000) ∧ Aside0 ((rround L ps).1 = (rround M rest).1 ∧ (rround L ps).2 = pre ++ (rround M rest).2) ∧ Aside0 (w2.ownsRow w.heap.size 3 1 (.slice (some ⟨w.heap.size, 0, none⟩) l1.length l1.length) l1.length (nums .i64 ((pre ++ rest).map Prod.snd))) ∧ Aside0 (Below w.heap.size w w2))
                case atStart =>
                  refine ⟨L, [], ps, rfl, rfl, ⟨?_⟩, HF, HB, HD, ⟨rfl, rfl⟩, HO, HBel⟩
                  have : ps.length = l1.length := by rw [← HF.out]; simp
                  omega
                case round =>
                  clear HO HBel HB HD HF
                  obtain ⟨M, pre, rest, rfl, rfl, HG, HF, HB, HD, HE, HO, HBel⟩ := hrel
                  cases rest with
                  | nil =>
                    have hlen : pre.length = l1.length := by rw [← HF.out]; simp
                    have hnl : ¬ (pre.length : Int) < (l1.length : Int) := by omega
                    have HLen := Aside0.mk hlen
                    clear hlen
                    simp only [List.append_nil, rround] at HF HB HE HO
                    by_cases hML : M = L
                    · have hML1 : (M == L) = true := by simpa using hML
                      have h := H2.out
                      rw [if_pos (by rw [HE.out.1]; exact hML)] at h
                      injection h with h
                      injection h with h1 h2
                      subst h1 h2
                      clear hML
                      go_wp2
                      go_ret2
                      have ho := own_lit wr w.heap.size 3 .i64 [] HBel.out.size (by simp)
                      simp only [nums, List.map_nil] at ho
                      exact ⟨_, rfl, Kd.R_of_own (enc := Value.int .i64) (h1 := fun _ => rfl) ho (fun _ _ => trivial), below_alloc HBel.out _⟩
                    · have hML1 : (M == L) = false := by simpa using hML
                      have h := H2.out
                      rw [if_neg (by rw [HE.out.1]; exact hML), HE.out.1, HE.out.2] at h
                      have H3 := Aside0.mk h
                      clear h hML H2
                      go_wp2
                      go_roundg kk
                      case measure => omega
                      case rel => exact ⟨M, pre, rfl, H3, HF, HB, HD, HO, HBel⟩
                  | cons p rest =>
                    have hlen : pre.length + (rest.length + 1) = l1.length := by rw [← HF.out]; simp
                    have hlt : (pre.length : Int) < (l1.length : Int) := by omega
                    have HR2 := Kd.C_below HR.out HBel.out
                    obtain ⟨ad, rfl, hc⟩ := Kd.at_int HR2 (pre.length : Int) (by omega) (by omega)
                    simp only [Int.toNat_natCast] at hc
                    rw [show rd l1 (pre.length : Int) = p.1 by rw [← HF.out]; exact rd_mid Prod.fst pre p rest] at hc
                    obtain ⟨hc2, hf2⟩ := own_at HO.out (pre.length : Int) (by omega) (by omega)
                    simp only [Int.toNat_natCast] at hc2 hf2
                    rw [show rd ((pre ++ p :: rest).map Prod.snd) (pre.length : Int) = p.2 from rd_mid Prod.snd pre p rest] at hc2
                    have hpb := HB.out p (by simp)
                    obtain ⟨b1, b2, b3, b4, b5, b6⟩ := hpb
                    have HLen := Aside0.mk hlen
                    clear HR2 hlen
                    obtain ⟨d1, d2⟩ := HD.out
                    have s1 := fun x => (own_store HO.out (pre.length : Int) x).1
                    simp only [Int.toNat_natCast] at s1
                    have S1 := Aside0.mk s1
                    clear s1
                    rcases rstep_le M p with ⟨h1, h2, e⟩ | ⟨hM, e⟩ | ⟨hM, hg, e⟩
                    · have HE2 := Aside0.mk e
                      clear e
                      by_cases h3 : M < 0
                      · have hs : ¬ 0 < p.1 + p.2 := fun hh => h2 ⟨h3, hh⟩
                        clear h2
                        go_wp2
                        go_quiet (fail)
                        go_wp2
                        go_roundg rest.length
                        case measure => have := HG.out; simp at this; omega
                        case rel =>
                          obtain ⟨n1, n2, n3, n4⟩ := rstep_next HE2.out HF.out HB.out HD.out HE.out
                          exact ⟨M, pre ++ [p], rest, rfl, by simp, ⟨by omega⟩, ⟨n1⟩, ⟨n2⟩, ⟨n3⟩, ⟨n4⟩, ⟨by rw [List.append_assoc]; exact HO.out⟩, ⟨pw_below_drewN HBel.out _⟩⟩
                      · clear h2
                        have h4 : decide (M < 0) = false := by simp; omega
                        go_wp2
                        go_quiet (fail)
                        go_wp2
                        go_roundg rest.length
                        case measure => have := HG.out; simp at this; omega
                        case rel =>
                          obtain ⟨n1, n2, n3, n4⟩ := rstep_next HE2.out HF.out HB.out HD.out HE.out
                          exact ⟨M, pre ++ [p], rest, rfl, by simp, ⟨by omega⟩, ⟨n1⟩, ⟨n2⟩, ⟨n3⟩, ⟨n4⟩, ⟨by rw [List.append_assoc]; exact HO.out⟩, ⟨pw_below_drewN HBel.out _⟩⟩
                    · have HE2 := Aside0.mk e
                      clear e
                      have hz2 : decide (M - 1 < 0) = false := by simp; omega
                      go_wp2
                      go_quiet (fail)
                      go_wp2
                      go_roundg rest.length
                      case measure => have := HG.out; simp at this; omega
                      case rel =>
                        obtain ⟨n1, n2, n3, n4⟩ := rstep_next HE2.out HF.out HB.out HD.out HE.out
                        exact ⟨M - 1, pre ++ [(p.1, p.2 + 1)], rest, rfl, by simp, ⟨by omega⟩, ⟨n1⟩, ⟨n2⟩, ⟨n3⟩, ⟨n4⟩, ⟨by rw [← set_mid Prod.snd pre p rest (p.1, p.2 + 1)]; exact S1.out (p.2 + 1)⟩, ⟨pw_below_drewN (below_set HBel.out (Nat.le_refl _)) _⟩⟩
                    · have HE2 := Aside0.mk e
                      clear e
                      go_wp2
                      go_quiet (fail)
                      go_wp2
                      go_roundg rest.length
                      case measure => have := HG.out; simp at this; omega
                      case rel =>
                        obtain ⟨n1, n2, n3, n4⟩ := rstep_next HE2.out HF.out HB.out HD.out HE.out
                        exact ⟨M + 1, pre ++ [(p.1, p.2 - 1)], rest, rfl, by simp, ⟨by omega⟩, ⟨n1⟩, ⟨n2⟩, ⟨n3⟩, ⟨n4⟩, ⟨by rw [← set_mid Prod.snd pre p rest (p.1, p.2 - 1)]; exact S1.out (p.2 - 1)⟩, ⟨below_set (pw_below_drewN HBel.out _) (Nat.le_refl _)⟩⟩
  · exact absurd h (by simp)
end Go.Proofs.Ytfdmfgaiblfbhaa.P
/- What adjust.Shares answers, beside the reference's: one list, even; plain lists, no program. -/
namespace Go.Proofs.Ytfdmfgaiblfbhaa.P
open Go.RowKit Go.Proofs.YtfdmfgaiblfbhaaW.PrintWords Go.Proofs.YtfdmfgaiblfbhaaW.PrintLast Go.Proofs.YtfdmfgaiblfbhaaW.PrintMore
/-! ### Plain law of shares: no program in sight -/
theorem wp {x : Int} (h0 : -9223372036854775808 ≤ x) (h1 : x ≤ 9223372036854775807) : wrap64 x = x := by unfold wrap64; omega

/-- What is taken in one go: m of each that can give, as long as there is something to take. -/
def bat (m : Int) : Int → List (Int × Int) → Int × List (Int × Int)
  | b, [] => (b, [])
  | b, p :: ps => if p.1 + p.2 > 0 then (if b > 0 then ((bat m (b - mn m b) ps).1, (p.1, p.2 - mn m b) :: (bat m (b - mn m b) ps).2) else ((bat m b ps).1, p :: (bat m b ps).2)) else ((bat m b ps).1, p :: (bat m b ps).2)
def able : List (Int × Int) → Int
  | [] => 0
  | p :: ps => (if p.1 + p.2 > 0 then 1 else 0) + able ps
def lst : Int → List (Int × Int) → Int
  | m, [] => m
  | m, p :: ps => lst (if p.1 + p.2 > 0 then mn m (p.1 + p.2) else m) ps
def avail : List (Int × Int) → Int
  | [] => 0
  | p :: ps => (p.1 + p.2) + avail ps
def outs : List (Int × Int) → Int
  | [] => 0
  | p :: ps => p.2 + outs ps
def Good (ps : List (Int × Int)) : Prop := ∀ p, p ∈ ps → 0 ≤ p.1 ∧ p.1 ≤ 2147483647 ∧ -p.1 ≤ p.2 ∧ p.2 ≤ 0
def decr (m : Int) (ps : List (Int × Int)) : List (Int × Int) := ps.map fun p => (p.1, p.2 - if p.1 + p.2 > 0 then m else 0)
def Even0 (ps : List (Int × Int)) : Prop := ∀ p, p ∈ ps → ∀ q, q ∈ ps → p.2 > q.2 → p.1 + p.2 = 0
def Even1 (ps : List (Int × Int)) : Prop := ∀ p, p ∈ ps → ∀ q, q ∈ ps → p.2 > q.2 + 1 → p.2 = -p.1

theorem Good.head {p : Int × Int} {ps : List (Int × Int)} (h : Good (p :: ps)) : 0 ≤ p.1 ∧ p.1 ≤ 2147483647 ∧ -p.1 ≤ p.2 ∧ p.2 ≤ 0 := h p List.mem_cons_self

/-! ### The loops -/
/-! ### Shares, and the laws -/
def total : List Int → Int
  | [] => 0
  | g :: gs => g + total gs
def capped (m : Int) (gs : List Int) : Int := if m + total gs > 2147483647 then 2147483647 else m + total gs

/-- What Shares answers. -/
def SharesIs (b : Int) (gs : List Int) (r : List Int × Bool) : Prop :=
  (r = ([], false) ∧ (gs = [] ∨ (¬ ∀ g, g ∈ gs → 0 ≤ g ∧ g ≤ 2147483647) ∨ ((∀ g, g ∈ gs → 0 ≤ g ∧ g ≤ 2147483647) ∧ b < -total gs))) ∨
  (r = (moreL b gs.length, true) ∧ gs ≠ [] ∧ (∀ g, g ∈ gs → 0 ≤ g ∧ g ≤ 2147483647) ∧ 0 ≤ b) ∨
  (∃ qs : List (Int × Int), r = (qs.map Prod.snd, true) ∧ (∀ g, g ∈ gs → 0 ≤ g ∧ g ≤ 2147483647) ∧ b < 0 ∧ qs.map Prod.fst = gs ∧ Good qs ∧ Even1 qs ∧ outs qs = b ∧ Ev (fun k => rloop k b (gs.map fun g => (g, 0))) (qs.map Prod.snd, true))
theorem awake09 : Ev (fun k => sashlaw09_awake.f k) true := Ev.of (k := 60) (fun k => sashlaw09_awake.mono k) (by decide +kernel)
end Go.Proofs.Ytfdmfgaiblfbhaa.P
/- How a law's arguments read: cells, rectangles, panes, and rows of these, as plain data. -/
namespace Go.Proofs.Ytfdmfgaiblfbhaa.P
open Go.RowKit Go.Proofs.YtfdmfgaiblfbhaaW.PrintWords Go.Proofs.YtfdmfgaiblfbhaaW.PrintLast Go.Proofs.YtfdmfgaiblfbhaaW.PrintMore
open Go.ChangeShapes Go.WideShapes Go.ChangeAt Go.Joins Go.Deep

/-! ### What is known of the numbers -/
def I64 (n : Int) : Prop := -9223372036854775808 ≤ n ∧ n ≤ 9223372036854775807
def U8 (n : Int) : Prop := 0 ≤ n ∧ n ≤ 255
def U16 (n : Int) : Prop := 0 ≤ n ∧ n ≤ 65535
def wf23 (r : S23) : Prop := I64 r.f0 ∧ I64 r.f1 ∧ I64 r.f2 ∧ I64 r.f3
def wf35 (p : S35) : Prop := I64 p.f0 ∧ wf23 p.f1
def wfn26 : Nat → S26 → Prop
  | 0, _ => False
  | n + 1, c => U8 c.f0 ∧ wf23 c.f1 ∧ I64 c.f2 ∧ c.f3.length ≤ 9223372036854775807 ∧ ∀ k, k ∈ c.f3 → wfn26 n k
def wf26 (c : S26) : Prop := ∃ n, wfn26 n c
theorem wfn26_le : ∀ {n m : Nat} (_ : n ≤ m) {c : S26}, wfn26 n c → wfn26 m c
  | 0, _, _, _, h => h.elim
  | n + 1, 0, hm, _, _ => absurd hm (by omega)
  | n + 1, m + 1, hm, _, h => ⟨h.1, h.2.1, h.2.2.1, h.2.2.2.1, fun k hk => wfn26_le (by omega) (h.2.2.2.2 k hk)⟩

section
variable {H : Type} {enc : TypeId × Value → H} {P : Program} {w : World} {base : Nat} {spare : Nat → Bool} {held : Bool}
theorem row_of {α : Type} {Q : Nat → α → Prop} : ∀ (n : Nat), (∀ i, i < n → ∃ p, Q i p) → ∃ l : List α, l.length = n ∧ ∀ i p, l[i]? = some p → Q i p
  | 0, _ => ⟨[], rfl, fun i p h => by simp at h⟩
  | n + 1, h => by
    obtain ⟨l, hl, hq⟩ := row_of n fun i hi => h i (by omega)
    obtain ⟨p, hp⟩ := h n (by omega)
    refine ⟨l ++ [p], by simp [hl], fun i q hi => ?_⟩
    rcases Nat.lt_trichotomy i n with h1 | h1 | h1
    · rw [List.getElem?_append_left (by omega)] at hi
      exact hq i q hi
    · subst h1
      rw [List.getElem?_append_right (by omega), hl, Nat.sub_self] at hi
      obtain rfl : p = q := by simpa using hi
      exact hp
    · rw [List.getElem?_eq_none (by simp; omega)] at hi
      cases hi
theorem cells_at {a : Addr} {n : Nat} {cs : List Value} (h : w.cells? base a n = some cs) : cs.length = n ∧ ∀ i u, cs[i]? = some u → w.cell? (a.add i) = some u := by
  obtain ⟨_, h1, h2⟩ := World.cells?_some h
  exact ⟨h1, fun i u hi => by
    have hlt : i < n := by rw [← h1]; exact (List.getElem?_eq_some_iff.1 hi).1
    rw [h2 i hlt, hi]⟩

end
section
variable {H : Type} {enc : TypeId × Value → H} {w : World} {base : Nat} {spare : Nat → Bool} {held : Bool}
theorem i64_of {n : Int} (h : (Lit.int .i64 n).wf = true) : I64 n := by
  have := bounds_i64 h
  unfold I64
  omega
theorem u8_of {n : Int} (h : (Lit.int .u8 n).wf = true) : U8 n := bounds_u8 h
theorem agg_of {a : Array Value} {l : List Value} (h : (Value.agg a).cells.toList = l) : a = l.toArray := by
  subst h
  simp [Value.cells]
theorem cells23 : Try.prog.cellsOf 23 = 4 := by kernel_rfl
theorem cells26 : Try.prog.cellsOf 26 = 7 := by kernel_rfl
theorem cells3 : Try.prog.cellsOf 3 = 1 := by kernel_rfl
theorem cells5 : Try.prog.cellsOf 5 = 1 := by kernel_rfl
theorem cells24 : Try.prog.cellsOf 24 = 1 := by kernel_rfl
set_option maxRecDepth 100000 in
theorem read23 {fuel : Nat} {cs : List Value} {x : DataW H × List MemPlace} (h : DataW.trod enc Try.prog w base spare held fuel 23 cs = some x) : ∃ r : S23, k23.K w r cs ∧ wf23 r := by
  obtain ⟨y0, y1, y2, y3, n, _, hl, h0, h1, h2, h3⟩ := trod_struct4 Try.underlying23 h
  rw [cells23] at hl
  match cs, hl with
  | [c0, c1, c2, c3], _ =>
    simp only [cells3, List.drop_zero, List.take_succ_cons, List.take_zero, List.drop_succ_cons] at h0 h1 h2 h3
    obtain ⟨n0, e0, _, w0⟩ := DataW.trod_int Try.underlying3 h0
    obtain ⟨n1, e1, _, w1⟩ := DataW.trod_int Try.underlying3 h1
    obtain ⟨n2, e2, _, w2⟩ := DataW.trod_int Try.underlying3 h2
    obtain ⟨n3, e3, _, w3⟩ := DataW.trod_int Try.underlying3 h3
    simp only [List.cons.injEq, and_true] at e0 e1 e2 e3
    subst e0 e1 e2 e3
    exact ⟨⟨n0, n1, n2, n3⟩, k23_mk w ⟨n0, n1, n2, n3⟩, i64_of w0, i64_of w1, i64_of w2, i64_of w3⟩
end
end Go.Proofs.Ytfdmfgaiblfbhaa.P
/- AdjustSets, the plain law: any tree that is set is the reference's. Condition: the tree has at most 1048576 cells. -/
namespace Go.Proofs.Ytfdmfgaiblfbhaa.Pure
open Go.RowKit Go.Proofs.Ytfdmfgaiblfbhaa.P Go.Proofs.YtfdmfgaiblfbhaaW.PrintWords Go.Proofs.YtfdmfgaiblfbhaaW.PrintLast Go.Proofs.YtfdmfgaiblfbhaaW.PrintMore

theorem wrap_up (x n : Int) : wrap64 (wrap64 (x + n) + 1) = wrap64 (x + wrap64 (n + 1)) := by unfold wrap64; omega
theorem set_size : ∀ (N : Nat), (∀ c : S26, sz c ≤ N → ∀ x y, sz (setC c x y) = sz c) ∧ (∀ l : List S26, szL l ≤ N → ∀ a x y, szL (setL a l x y) = szL l) := by
  intro N
  induction N with
  | zero =>
    refine ⟨fun c h => ?_, fun l h => ?_⟩
    · rw [sz_eq] at h; omega
    · cases l with
      | nil => intro a x y; rw [setL_nil]
      | cons z zs => rw [szL_cons, sz_eq] at h; omega
  | succ N ih =>
    have hC : ∀ c : S26, sz c ≤ N + 1 → ∀ x y, sz (setC c x y) = sz c := by
      intro c h x y
      rw [sz_eq] at h
      rw [setC_eq, sz_eq, sz_eq c]
      simp only
      rw [ih.2 c.f3 (by omega)]
    refine ⟨hC, fun l => ?_⟩
    induction l with
    | nil => intro _ a x y; rw [setL_nil]
    | cons z zs ihl =>
      intro h a x y
      rw [szL_cons] at h
      rw [setL_cons, szL_cons, szL_cons, hC z (by omega), ihl (by omega)]
def setT (c : S26) (x y : Int) : Int × Int × Int × Int × Int × Int × List S26 := (c.f0, x, y, c.f1.f2, c.f1.f3, c.f2, setL c.f0 c.f3 x y)
theorem refset_ev : ∀ (N : Nat) (c : S26), sz c ≤ N → N ≤ 1048576 → ∀ x y : Int, Ev (fun k => sashref09_Set.f k c.f0 c.f1.f0 c.f1.f1 c.f1.f2 c.f1.f3 c.f2 c.f3 x y) (setT c x y) := by
  intro N
  induction N with
  | zero => intro c h _; rw [sz_eq] at h; omega
  | succ N ih =>
    intro c hc hN x y
    have hs := sz_eq c
    have hlen := szL_len c.f3
    have key : ∀ (rest pre : List S26), pre ++ rest = c.f3 → Ev (fun k => sashref09_Set.l0 k (setXs c.f0 pre x) (setYs c.f0 pre y) (setL c.f0 pre x y) (c.f3.length : Int) (pre.length : Int) c.f0 x y c.f1.f2 c.f1.f3 c.f2 c.f3) (setT c x y) := by
      intro rest
      induction rest with
      | nil =>
        intro pre hp
        rw [List.append_nil] at hp
        refine Ev.step (f := fun _ => some (setT c x y)) (fun k => ?_) (Ev.now _)
        simp only [sashref09_Set.l0]
        rw [if_neg (by rw [hp]; omega), hp]
        rfl
      | cons z zs ihr =>
        intro pre hp
        have hl : (pre.length : Int) < (c.f3.length : Int) := by rw [← hp, List.length_append, List.length_cons]; omega
        have hsum : szL c.f3 = szL pre + (sz z + szL zs) := by rw [← hp, szL_app, szL_cons]
        have e2 := ihr (pre ++ [z]) (by rw [List.append_assoc]; exact hp)
        have hr : rd_T26 c.f3 (pre.length : Int) = z := by rw [← hp]; exact rd26_in pre z zs
        have hu : wrap64 ((pre.length : Int) + 1) = ((pre ++ [z]).length : Int) := up_in pre z zs (by rw [hp]; omega)
        have hb : (setL c.f0 pre x y).length < 1954687338268 := by rw [setL_len]; omega
        rw [setXs_snoc, setYs_snoc, setL_snoc] at e2
        refine Ev.step (f := fun k => (sashref09_Set.f k z.f0 z.f1.f0 z.f1.f1 z.f1.f2 z.f1.f3 z.f2 z.f3 (setXs c.f0 pre x) (setYs c.f0 pre y)).bind fun bt => (if (setL c.f0 pre x y).length < 1954687338268 then ((some (setL c.f0 pre x y ++ [(⟨bt.1, (⟨bt.2.1, bt.2.2.1, bt.2.2.2.1, bt.2.2.2.2.1⟩ : S23), bt.2.2.2.2.2.1, bt.2.2.2.2.2.2⟩ : S26)] : List S26)).bind fun y7 => sashref09_Set.l0 k (setX c.f0 z (setXs c.f0 pre x)) (setY c.f0 z (setYs c.f0 pre y)) y7 (c.f3.length : Int) (wrap64 ((pre.length : Int) + 1)) c.f0 x y c.f1.f2 c.f1.f3 c.f2 c.f3) else none)) (fun k => ?_) (Ev.bind (ih z (by omega) (by omega) _ _) (ev_pos hb ?_))
        · simp only [sashref09_Set.l0]
          rw [if_pos hl, if_pos (by omega), if_pos hl, hr]
          unfold setX setY
          by_cases h2 : c.f0 = 2
          · have h3 : ¬ c.f0 = 3 := by omega
            simp only [if_pos h2, if_neg h3, wrap_up]
          · by_cases h3 : c.f0 = 3
            · simp only [if_neg h2, if_pos h3, wrap_up]
            · simp only [if_neg h2, if_neg h3]
        · simp only [setT, Option.bind_some]
          rw [hu]
          have e3 : setC z (setXs c.f0 pre x) (setYs c.f0 pre y) = ⟨z.f0, ⟨setXs c.f0 pre x, setYs c.f0 pre y, z.f1.f2, z.f1.f3⟩, z.f2, setL z.f0 z.f3 (setXs c.f0 pre x) (setYs c.f0 pre y)⟩ := setC_eq _ _ _
          rw [e3] at e2
          exact e2
    have e := key c.f3 [] rfl
    refine Ev.step (fun k => ?_) e
    simp only [sashref09_Set.f]
    rw [setL_nil]
    rfl
theorem AdjustSets : ∀ (a0 : S26) (a1 : Int) (a2 : Int), wf26 a0 → sz a0 ≤ 1048576 → I64 a1 → I64 a2 → ∃ k, sashlaw09_AdjustSets.f k a0.f0 a0.f1.f0 a0.f1.f1 a0.f1.f2 a0.f1.f3 a0.f2 a0.f3 a1 a2 = some true := by
  intro c x y _ hz _ _
  refine Ev.rounds (g := fun k => sashlaw09_AdjustSets.f k c.f0 c.f1.f0 c.f1.f1 c.f1.f2 c.f1.f3 c.f2 c.f3 x y) ?_
  unfold sashlaw09_AdjustSets.f
  have aw : Ev (fun k => (sashlaw09_awake.f k).bind fun t => some t) true := Ev.bind awake09 (Ev.now _)
  obtain ⟨g, eg, hg⟩ := great_ev c hz
  refine Ev.bind eg ?_
  cases g with
  | true => exact ev_pos rfl aw
  | false =>
    have hz2 := hg rfl
    have e1 : ∀ k : Nat, adjust_Set.f c.f0 c.f1.f0 c.f1.f1 c.f1.f2 c.f1.f3 c.f2 c.f3 x y = some (setT c x y) := fun _ => by
      unfold adjust_Set.f
      rw [eta26, if_pos (by omega)]
      rfl
    have hs := (set_size (sz c)).1 c (Nat.le_refl _) x y
    have e3 := same_self (setC c x y) (by omega)
    rw [setC_eq] at e3
    exact ev_neg (by simp) (Ev.bind (a := setT c x y) (ev_some e1) (Ev.bind (refset_ev (sz c) c (Nat.le_refl _) hz x y) (Ev.bind e3 (ev_pos rfl aw))))
end Go.Proofs.Ytfdmfgaiblfbhaa.Pure
/- Facts on the program's head, each once: the head's text as a row of signs, its words; what follows of them. -/
namespace Go.Proofs.Ytfdmfgaiblfbhaa.P
open Go.RowKit
def headSigns : List Char := [104, 97, 114, 110, 101, 115, 115, 32, 57, 48, 98, 52, 50, 100, 98, 100, 99, 50, 52, 54, 55, 51, 50, 51, 56, 57, 50, 48, 100, 50, 50, 98, 56, 57, 53, 102, 48, 48, 55, 48, 53, 101, 102, 48, 53, 53, 102, 54, 54, 55, 97, 57, 54, 56, 100, 50, 56, 97, 57, 52, 55, 52, 56, 57, 49, 49, 48, 97, 48, 101, 53, 55, 32, 99, 117, 116, 32, 97, 116, 32, 115, 97, 115, 104, 47, 115, 97, 115, 104, 108, 97, 119, 48, 55, 46, 70, 108, 97, 116, 78, 101, 120, 116, 115, 32, 115, 97, 115, 104, 47, 115, 97, 115, 104, 108, 97, 119, 48, 55, 46, 70, 108, 97, 116, 76, 105, 115, 116, 115, 32, 115, 97, 115, 104, 47, 115, 97, 115, 104, 108, 97, 119, 48, 52, 46, 82, 101, 99, 116, 67, 117, 116, 115, 32, 115, 97, 115, 104, 47, 115, 97, 115, 104, 108, 97, 119, 48, 57, 46, 65, 100, 106, 117, 115, 116, 83, 104, 97, 114, 101, 115, 32, 115, 97, 115, 104, 47, 115, 97, 115, 104, 108, 97, 119, 48, 57, 46, 65, 100, 106, 117, 115, 116, 69, 118, 101, 110, 115, 32, 115, 97, 115, 104, 47, 115, 97, 115, 104, 108, 97, 119, 49, 54, 46, 83, 112, 114, 101, 97, 100, 83, 105, 122, 101, 115, 32, 115, 97, 115, 104, 47, 115, 97, 115, 104, 108, 97, 119, 48, 55, 46, 70, 108, 97, 116, 67, 104, 97, 110, 103, 101, 115, 32, 115, 97, 115, 104, 47, 115, 97, 115, 104, 108, 97, 119, 48, 52, 46, 82, 101, 99, 116, 73, 110, 115, 105, 100, 101, 32, 115, 97, 115, 104, 47, 115, 97, 115, 104, 108, 97, 119, 48, 55, 46, 70, 108, 97, 116, 78, 97, 109, 101, 115, 32, 115, 97, 115, 104, 47, 115, 97, 115, 104, 108, 97, 119, 48, 57, 46, 65, 100, 106, 117, 115, 116, 83, 101, 116, 115, 32, 115, 97, 115, 104, 47, 115, 97, 115, 104, 108, 97, 119, 48, 52, 46, 82, 101, 99, 116, 77, 101, 101, 116, 115, 32, 115, 97, 115, 104, 47, 115, 97, 115, 104, 108, 97, 119, 48, 52, 46, 82, 101, 99, 116, 77, 97, 121, 115, 32, 115, 97, 115, 104, 47, 115, 97, 115, 104, 108, 97, 119, 48, 55, 46, 70, 108, 97, 116, 83, 116, 105, 108, 108, 32, 115, 97, 115, 104, 47, 115, 97, 115, 104, 108, 97, 119, 48, 53, 46, 67, 101, 108, 108, 77, 97, 121, 115, 32, 115, 97, 115, 104, 47, 115, 97, 115, 104, 108, 97, 119, 48, 53, 46, 67, 101, 108, 108, 83, 97, 109, 101, 32, 115, 97, 115, 104, 47, 115, 97, 115, 104, 108, 97, 119, 48, 53, 46, 67, 101, 108, 108, 67, 111, 117, 110, 116, 115, 32, 115, 97, 115, 104, 47, 115, 97, 115, 104, 108, 97, 119, 48, 56, 46, 76, 101, 97, 115, 116, 83, 117, 109, 115, 32, 115, 97, 115, 104, 47, 115, 97, 115, 104, 108, 97, 119, 48, 53, 46, 67, 101, 108, 108, 70, 105, 110, 100, 115, 32, 115, 97, 115, 104, 47, 115, 97, 115, 104, 108, 97, 119, 48, 56, 46, 76, 101, 97, 115, 116, 73, 115, 32, 115, 97, 115, 104, 47, 115, 97, 115, 104, 108, 97, 119, 48, 56, 46, 76, 101, 97, 115, 116, 70, 105, 116, 115, 32, 115, 97, 115, 104, 47, 115, 97, 115, 104, 108, 97, 119, 48, 56, 46, 76, 101, 97, 115, 116, 80, 97, 116, 104, 115, 32, 115, 97, 115, 104, 47, 115, 97, 115, 104, 108, 97, 119, 48, 53, 46, 67, 101, 108, 108, 80, 117, 116, 115, 32, 115, 97, 115, 104, 47, 115, 97, 115, 104, 108, 97, 119, 49, 50, 46, 83, 112, 108, 105, 116, 83, 105, 122, 101, 115, 32, 115, 97, 115, 104, 47, 115, 97, 115, 104, 108, 97, 119, 49, 54, 46, 83, 112, 114, 101, 97, 100, 65, 108, 108, 32, 115, 97, 115, 104, 47, 115, 97, 115, 104, 108, 97, 119, 49, 54, 46, 83, 112, 114, 101, 97, 100, 65, 116, 32, 115, 97, 115, 104, 47, 115, 97, 115, 104, 108, 97, 119, 49, 52, 46, 80, 117, 115, 104, 73, 115, 32, 115, 97, 115, 104, 47, 115, 97, 115, 104, 108, 97, 119, 49, 52, 46, 80, 117, 115, 104, 79, 110, 101, 32, 115, 97, 115, 104, 47, 115, 97, 115, 104, 108, 97, 119, 49, 52, 46, 80, 117, 115, 104, 70, 114, 97, 109, 101, 115, 32, 115, 97, 115, 104, 47, 115, 97, 115, 104, 108, 97, 119, 49, 52, 46, 80, 117, 115, 104, 67, 97, 110, 32, 115, 97, 115, 104, 47, 115, 97, 115, 104, 108, 97, 119, 49, 50, 46, 83, 112, 108, 105, 116, 73, 115, 32, 115, 97, 115, 104, 47, 115, 97, 115, 104, 108, 97, 119, 49, 50, 46, 83, 112, 108, 105, 116, 67, 97, 110].map Char.ofNat
def headWords : List (List Char) := [[104, 97, 114, 110, 101, 115, 115].map Char.ofNat,
  [57, 48, 98, 52, 50, 100, 98, 100, 99, 50, 52, 54, 55, 51, 50, 51, 56, 57, 50, 48, 100, 50, 50, 98, 56, 57, 53, 102, 48, 48, 55, 48, 53, 101, 102, 48, 53, 53, 102, 54, 54, 55, 97, 57, 54, 56, 100, 50, 56, 97, 57, 52, 55, 52, 56, 57, 49, 49, 48, 97, 48, 101, 53, 55].map Char.ofNat,
  [99, 117, 116].map Char.ofNat,
  [97, 116].map Char.ofNat,
  [115, 97, 115, 104, 47, 115, 97, 115, 104, 108, 97, 119, 48, 55, 46, 70, 108, 97, 116, 78, 101, 120, 116, 115].map Char.ofNat,
  [115, 97, 115, 104, 47, 115, 97, 115, 104, 108, 97, 119, 48, 55, 46, 70, 108, 97, 116, 76, 105, 115, 116, 115].map Char.ofNat,
  [115, 97, 115, 104, 47, 115, 97, 115, 104, 108, 97, 119, 48, 52, 46, 82, 101, 99, 116, 67, 117, 116, 115].map Char.ofNat,
  [115, 97, 115, 104, 47, 115, 97, 115, 104, 108, 97, 119, 48, 57, 46, 65, 100, 106, 117, 115, 116, 83, 104, 97, 114, 101, 115].map Char.ofNat,
  [115, 97, 115, 104, 47, 115, 97, 115, 104, 108, 97, 119, 48, 57, 46, 65, 100, 106, 117, 115, 116, 69, 118, 101, 110, 115].map Char.ofNat,
  [115, 97, 115, 104, 47, 115, 97, 115, 104, 108, 97, 119, 49, 54, 46, 83, 112, 114, 101, 97, 100, 83, 105, 122, 101, 115].map Char.ofNat,
  [115, 97, 115, 104, 47, 115, 97, 115, 104, 108, 97, 119, 48, 55, 46, 70, 108, 97, 116, 67, 104, 97, 110, 103, 101, 115].map Char.ofNat,
  [115, 97, 115, 104, 47, 115, 97, 115, 104, 108, 97, 119, 48, 52, 46, 82, 101, 99, 116, 73, 110, 115, 105, 100, 101].map Char.ofNat,
  [115, 97, 115, 104, 47, 115, 97, 115, 104, 108, 97, 119, 48, 55, 46, 70, 108, 97, 116, 78, 97, 109, 101, 115].map Char.ofNat,
  [115, 97, 115, 104, 47, 115, 97, 115, 104, 108, 97, 119, 48, 57, 46, 65, 100, 106, 117, 115, 116, 83, 101, 116, 115].map Char.ofNat,
  [115, 97, 115, 104, 47, 115, 97, 115, 104, 108, 97, 119, 48, 52, 46, 82, 101, 99, 116, 77, 101, 101, 116, 115].map Char.ofNat,
  [115, 97, 115, 104, 47, 115, 97, 115, 104, 108, 97, 119, 48, 52, 46, 82, 101, 99, 116, 77, 97, 121, 115].map Char.ofNat,
  [115, 97, 115, 104, 47, 115, 97, 115, 104, 108, 97, 119, 48, 55, 46, 70, 108, 97, 116, 83, 116, 105, 108, 108].map Char.ofNat,
  [115, 97, 115, 104, 47, 115, 97, 115, 104, 108, 97, 119, 48, 53, 46, 67, 101, 108, 108, 77, 97, 121, 115].map Char.ofNat,
  [115, 97, 115, 104, 47, 115, 97, 115, 104, 108, 97, 119, 48, 53, 46, 67, 101, 108, 108, 83, 97, 109, 101].map Char.ofNat,
  [115, 97, 115, 104, 47, 115, 97, 115, 104, 108, 97, 119, 48, 53, 46, 67, 101, 108, 108, 67, 111, 117, 110, 116, 115].map Char.ofNat,
  [115, 97, 115, 104, 47, 115, 97, 115, 104, 108, 97, 119, 48, 56, 46, 76, 101, 97, 115, 116, 83, 117, 109, 115].map Char.ofNat,
  [115, 97, 115, 104, 47, 115, 97, 115, 104, 108, 97, 119, 48, 53, 46, 67, 101, 108, 108, 70, 105, 110, 100, 115].map Char.ofNat,
  [115, 97, 115, 104, 47, 115, 97, 115, 104, 108, 97, 119, 48, 56, 46, 76, 101, 97, 115, 116, 73, 115].map Char.ofNat,
  [115, 97, 115, 104, 47, 115, 97, 115, 104, 108, 97, 119, 48, 56, 46, 76, 101, 97, 115, 116, 70, 105, 116, 115].map Char.ofNat,
  [115, 97, 115, 104, 47, 115, 97, 115, 104, 108, 97, 119, 48, 56, 46, 76, 101, 97, 115, 116, 80, 97, 116, 104, 115].map Char.ofNat,
  [115, 97, 115, 104, 47, 115, 97, 115, 104, 108, 97, 119, 48, 53, 46, 67, 101, 108, 108, 80, 117, 116, 115].map Char.ofNat,
  [115, 97, 115, 104, 47, 115, 97, 115, 104, 108, 97, 119, 49, 50, 46, 83, 112, 108, 105, 116, 83, 105, 122, 101, 115].map Char.ofNat,
  [115, 97, 115, 104, 47, 115, 97, 115, 104, 108, 97, 119, 49, 54, 46, 83, 112, 114, 101, 97, 100, 65, 108, 108].map Char.ofNat,
  [115, 97, 115, 104, 47, 115, 97, 115, 104, 108, 97, 119, 49, 54, 46, 83, 112, 114, 101, 97, 100, 65, 116].map Char.ofNat,
  [115, 97, 115, 104, 47, 115, 97, 115, 104, 108, 97, 119, 49, 52, 46, 80, 117, 115, 104, 73, 115].map Char.ofNat,
  [115, 97, 115, 104, 47, 115, 97, 115, 104, 108, 97, 119, 49, 52, 46, 80, 117, 115, 104, 79, 110, 101].map Char.ofNat,
  [115, 97, 115, 104, 47, 115, 97, 115, 104, 108, 97, 119, 49, 52, 46, 80, 117, 115, 104, 70, 114, 97, 109, 101, 115].map Char.ofNat,
  [115, 97, 115, 104, 47, 115, 97, 115, 104, 108, 97, 119, 49, 52, 46, 80, 117, 115, 104, 67, 97, 110].map Char.ofNat,
  [115, 97, 115, 104, 47, 115, 97, 115, 104, 108, 97, 119, 49, 50, 46, 83, 112, 108, 105, 116, 73, 115].map Char.ofNat,
  [115, 97, 115, 104, 47, 115, 97, 115, 104, 108, 97, 119, 49, 50, 46, 83, 112, 108, 105, 116, 67, 97, 110].map Char.ofNat]
theorem head_list : Try.prog.initOrder.toList = headSigns := by
  have e : Try.prog.initOrder = String.ofList headSigns := by kernel_rfl
  rw [e, String.toList_ofList]
theorem head_words : wordsSigns Try.prog.initOrder.toList = headWords := by
  rw [head_list]
  kernel_rfl
def headRest : List (List Char) := headWords.drop 3
theorem head_behind : behindMainWord (wordsSigns Try.prog.initOrder.toList) = ([99, 117, 116].map Char.ofNat) :: headRest := by
  rw [head_words]
  kernel_rfl
theorem cut_eq : ([99, 117, 116].map Char.ofNat : List Char) = "cut".toList := by decide +kernel
theorem head_behind' : behindMainWord (wordsSigns Try.prog.initOrder.toList) = "cut".toList :: headRest := head_behind.trans (congrArg (fun c => c :: headRest) cut_eq)
theorem strip_none (rest : List (List Char)) : stripLifts liftWords ("cut".toList :: rest) = ([], "cut".toList :: rest) := by
  have key : ∀ (l : List String), (l.all fun o => !("cut".toList == o.toList)) = true → stripLifts l ("cut".toList :: rest) = ([], "cut".toList :: rest) := by
    intro l
    induction l with
    | nil => intro _; rfl
    | cons o l ih =>
      intro h
      simp only [List.all_cons, Bool.and_eq_true] at h
      unfold stripLifts
      rw [if_neg (by simpa using h.1)]
      exact ih h.2
  exact key _ (by decide +kernel)
theorem make_of (P : Program) (rest : List (List Char)) (h : behindMainWord (wordsSigns P.initOrder.toList) = "cut".toList :: rest) : P.make = some .cut := by
  unfold Program.make
  rw [h]
  simp only
  have h1 : ("cut".toList == "gc".toList) = false := by decide +kernel
  have h2 : ("cut".toList == "spec".toList) = false := by decide +kernel
  rw [h1, h2, if_neg (by simp), if_pos (by simp)]
theorem lifts_of (P : Program) (rest : List (List Char)) (h : behindMainWord (wordsSigns P.initOrder.toList) = "cut".toList :: rest) : P.headLifts = [] := by
  unfold Program.headLifts
  simp only [h, strip_none]
  simp
theorem final_of (P : Program) (rest : List (List Char)) (h : behindMainWord (wordsSigns P.initOrder.toList) = "cut".toList :: rest) : P.liftsFinal = false := by
  have h1 : (some "cut".toList == some "carried".toList) = false := by decide +kernel
  unfold Program.liftsFinal
  simp only [h, lifts_of P rest h, List.head?_cons, h1, Bool.false_and, List.contains_nil, Bool.or_false]
theorem enter_of (P : Program) (rest : List (List Char)) (h : behindMainWord (wordsSigns P.initOrder.toList) = "cut".toList :: rest) (h1 : P.laysLater = false) (h2 : P.bearsReflect = false) (h3 : P.doorFits [] = true) : P.mayEnter = true := by
  unfold Program.mayEnter
  rw [h]
  simp only [strip_none]
  rw [h1, h2, h3]
  simp
theorem head_make : Try.prog.make = some .cut := make_of Try.prog headRest head_behind'
theorem head_final : Try.prog.liftsFinal = false := final_of Try.prog headRest head_behind'
theorem head_later : Try.prog.laysLater = false := by kernel_rfl
theorem head_reflect : Try.prog.bearsReflect = false := by kernel_rfl
theorem head_door : Try.prog.doorFits [] = true := by kernel_rfl
theorem head_enter : Try.prog.mayEnter = true := enter_of Try.prog headRest head_behind' head_later head_reflect head_door
theorem head_keys : (true == Try.prog.plainKeys) = true := by kernel_rfl
theorem head_heard : Try.prog.stopsHeard = true := by kernel_rfl
end Go.Proofs.Ytfdmfgaiblfbhaa.P
/- joinedFacts out of its parts, over any program. -/
namespace Go.Proofs.Ytfdmfgaiblfbhaa.P
open Go.RowKit
theorem joined_mk {P : Program} {f : FuncId} {fn : Func} {s : ChangeSpec} {c : OpenClaim}
    (h0 : (c.wf (OpenSpec.ofChange s)) = true)
    (h1 : (laidOutB P) = true)
    (h2 : (mapsRowed P) = true)
    (h3 : (fn.params.all (P.readableRec ·)) = true)
    (h4 : (namedTie P c.named s.vars) = true)
    (h5 : ((c.stops == [])) = true)
    (h6 : ((P.stops == [])) = true)
    (h7 : ((c.knobs == [])) = true)
    (h8 : ((P.stopKnobs == [])) = true)
    (h9 : ((c.inPlace == P.inPlace f)) = true)
    (h10 : ((c.unfollowed == P.unfollowed f)) = true)
    (h11 : ((c.recurses == P.recurses f)) = true)
    (h12 : ((c.named == P.varsNamed f)) = true)
    (h13 : ((c.maps == (fn.params.toList ++ s.plain.varTypes P).any (P.mapsRec ·))) = true)
    (h14 : ((c.ifaces == (fn.params.toList ++ s.plain.varTypes P).any (P.ifacesRec ·))) = true)
    (h15 : ((c.mapsOut == P.mapsAmong fn.resultTypes.toList)) = true)
    (h16 : ((c.loops == (fn.params.toList ++ s.plain.varTypes P).any (P.loopsFrom ·))) = true)
    (h17 : ((c.wideKeys == (fn.params.toList ++ s.plain.varTypes P ++ fn.resultTypes.toList).any (P.wideKeysFrom ·))) = true)
    (h18 : (s.vars.all (P.varReadable ·)) = true)
    (h19 : (fn.resultTypes.all (fun t => P.readableRec t && decide (t < P.types.size))) = true)
    (h20 : ((c.ifacesOut == fn.resultTypes.toList.any (P.ifacesRec ·))) = true)
    (h21 : ((c.loopsOut == fn.resultTypes.toList.any (P.loopsFrom ·))) = true)
    (h22 : ((c.plainKeys == P.plainKeys)) = true)
    (h23 : (c.shortTexts.isNone) = true)
    (h24 : (P.stopsHeard) = true)
    (h25 : (P.mayEnter) = true)
    (h26 : ((c.lifted == P.liftsFinal)) = true)
    (h27 : ((P.make == some c.make)) = true)
    (hd : c.domain.isEmpty = true) (hk : c.kinds = [])
    (h29 : ((c.pinned == c.pinnedBy)) = true)
    (h30 : ((c.veiled == (fn.params.toList ++ s.plain.varTypes P ++ fn.resultTypes.toList).any (P.veiledRec ·))) = true)
    (h31 : (c.veiledFits P fn.params.toList (fn.params.toList ++ s.plain.varTypes P ++ fn.resultTypes.toList)) = true)
    : joinedFacts P f fn s c = true := by
  unfold joinedFacts
  rw [h0, h1, h2, h3, h4, h5, h6, h7, h8, h9, h10, h11, h12, h13, h14, h15, h16, h17, h18, h19, h20, h21, h22, h23, h24, h25, h26, h27, if_pos hd, hk, h29, h30, h31]
  rfl
end Go.Proofs.Ytfdmfgaiblfbhaa.P
/- How a law's arguments read, with their bulk: a tree has no more cells than its reading has bulk. -/
namespace Go.Proofs.Ytfdmfgaiblfbhaa.P
open Go.RowKit Go.Proofs.YtfdmfgaiblfbhaaW.PrintWords Go.Proofs.YtfdmfgaiblfbhaaW.PrintLast Go.Proofs.YtfdmfgaiblfbhaaW.PrintMore
open Go.ChangeShapes Go.WideShapes Go.ChangeAt Go.Joins Go.Deep

section
variable {H : Type} {enc : TypeId × Value → H} {P : Program} {w : World} {base : Nat} {spare : Nat → Bool} {held : Bool}
theorem bulk_pos (d : DataW H) : 1 ≤ Rows.uptoBulk d := by
  cases d with
  | lit l => cases l <;> simp [Rows.uptoBulk]
  | _ => simp [Rows.uptoBulk]
theorem bulk_len (l : List (DataW H)) : l.length ≤ Rows.uptoBulkAll l := by
  induction l with
  | nil => simp
  | cons x xs ih =>
    have := bulk_pos x
    simp only [Rows.uptoBulkAll, List.length_cons]
    omega
theorem bulk_sum {α : Type} (m : α → Nat) : ∀ (l : List α) (es : List (DataW H)), l.length = es.length → (∀ (i : Nat) (p : α) (e : DataW H), l[i]? = some p → es[i]? = some e → m p ≤ Rows.uptoBulk e) → (l.map m).sum ≤ Rows.uptoBulkAll es := by
  intro l
  induction l with
  | nil => intro es _ _; simp
  | cons x xs ih =>
    intro es hl h
    cases es with
    | nil => simp at hl
    | cons e es =>
      have h0 := h 0 x e rfl rfl
      have h1 := ih es (by simpa using hl) (fun i p e hp he => h (i + 1) p e (by simpa using hp) (by simpa using he))
      simp only [List.map_cons, List.sum_cons, Rows.uptoBulkAll]
      omega
theorem trod_struct4z {t : TypeId} {f0 f1 f2 f3 : Field} {fuel : Nat} {cs : List Value} {x : DataW H × List MemPlace} (ht : P.underlying t = some (.struct #[f0, f1, f2, f3])) (h : DataW.trod enc P w base spare held fuel t cs = some x) :
    ∃ y0 y1 y2 y3 n, fuel = n + 1 ∧ x.1 = .agg [y0.1, y1.1, y2.1, y3.1] ∧ cs.length = P.cellsOf t ∧ DataW.trod enc P w base spare held n f0.type ((cs.drop f0.offset).take (P.cellsOf f0.type)) = some y0 ∧
      DataW.trod enc P w base spare held n f1.type ((cs.drop f1.offset).take (P.cellsOf f1.type)) = some y1 ∧ DataW.trod enc P w base spare held n f2.type ((cs.drop f2.offset).take (P.cellsOf f2.type)) = some y2 ∧
      DataW.trod enc P w base spare held n f3.type ((cs.drop f3.offset).take (P.cellsOf f3.type)) = some y3 := by
  obtain ⟨xs, n, hn, rfl, hl, hlen, hf⟩ := DataW.trod_struct ht h
  match xs, hlen with
  | [y0, y1, y2, y3], _ => exact ⟨y0, y1, y2, y3, n, hn, rfl, hl, by simpa using hf 0 f0 rfl, by simpa using hf 1 f1 rfl, by simpa using hf 2 f2 rfl, by simpa using hf 3 f3 rfl⟩
/-- A row whose elements read: so many, and of such a bulk. -/
theorem open_rowz {α : Type} {k : Kd α} {ok : α → Prop} (m : α → Nat) {t e : TypeId} {fuel : Nat} {cs : List Value} {x : DataW H × List MemPlace} (ht : P.underlying t = some (.slice e)) (hs : k.sz = P.cellsOf e)
    (hE : ∀ n, n < fuel → ∀ cs y, DataW.trod enc P w base spare held n e cs = some y → ∃ p, k.K w p cs ∧ ok p ∧ m p ≤ Rows.uptoBulk y.1) (h : DataW.trod enc P w base spare held fuel t cs = some x) :
    ∃ A c l, cs = [.slice A (l : List α).length c] ∧ l.length ≤ c ∧ k.C w A l.length l ∧ (∀ p, p ∈ l → ok p) ∧ (l.map m).sum < Rows.uptoBulk x.1 ∧ l.length < Rows.uptoBulk x.1 := by
  rcases DataW.trod_slice ht h with ⟨rfl, rfl⟩ | ⟨a, len, cap, elems, rest, n, hn, rfl, rfl, hb, hl, hm, hlen, hel, hsp, hns⟩
  · exact ⟨none, 0, [], rfl, Nat.le_refl _, ⟨rfl, by simp, fun h => absurd h (by simp)⟩, (fun p hp => by cases hp), (by simp [Rows.uptoBulk]), (by simp [Rows.uptoBulk])⟩
  · obtain ⟨l, hl2, hq⟩ := row_of (α := α) (Q := fun i p => ok p ∧ (∃ c, c.length = k.sz ∧ k.K w p c ∧ ∀ j u, c[j]? = some u → w.cell? (a.add (i * k.sz + j)) = some u) ∧ ∀ e, elems[i]? = some e → m p ≤ Rows.uptoBulk e.1) len (fun i hi => by
      have key := hel i hi
      rw [List.getElem?_eq_getElem (by omega)] at key
      obtain ⟨cs', h1, h2⟩ := Option.bind_eq_some_iff.1 key
      obtain ⟨p, hp, hok, hm⟩ := hE n (by omega) cs' _ h2
      obtain ⟨h3, h4⟩ := cells_at h1
      refine ⟨p, hok, ⟨cs', by rw [h3, hs], hp, fun j u hj => ?_⟩, fun e he => ?_⟩
      · rw [hs, ← Deep.add_add]
        exact h4 j u hj
      · rw [List.getElem?_eq_getElem (by omega)] at he
        cases he
        exact hm)
    subst hl2
    refine ⟨some a, cap, l, rfl, hl, ⟨rfl, by unfold maxLen at hm; omega, fun _ => ⟨a, rfl, fun j p hj => ?_⟩⟩, fun p hp => ?_, ?_, ?_⟩
    · obtain ⟨_, ⟨c, h1, h2, h3⟩, _⟩ := hq j p hj
      exact ⟨c, h1, h2, h3⟩
    · obtain ⟨i, hi, rfl⟩ := List.getElem_of_mem hp
      exact (hq i _ (List.getElem?_eq_getElem hi)).1
    · have := bulk_sum m l (elems.map (·.1)) (by simp [hlen]) (fun i p e hp he => by
        rw [List.getElem?_map] at he
        obtain ⟨e', he', rfl⟩ := Option.map_eq_some_iff.1 he
        exact (hq i p hp).2.2 e' he')
      simp only [Rows.uptoBulk]
      omega
    · have := bulk_len (elems.map (·.1))
      simp only [List.length_map] at this
      simp only [Rows.uptoBulk]
      omega
end
section
variable {H : Type} {enc : TypeId × Value → H} {w : World} {base : Nat} {spare : Nat → Bool} {held : Bool}
set_option maxRecDepth 100000 in
theorem read26nz : ∀ (fuel : Nat) {cs : List Value} {x : DataW H × List MemPlace} (_ : DataW.trod enc Try.prog w base spare held fuel 26 cs = some x), ∃ r : S26, (Kd.upto F26 7 [26] fuel).K w r cs ∧ wfn26 fuel r ∧ sz r ≤ Rows.uptoBulk x.1 := by
  intro fuel
  induction fuel using Nat.strongRecOn with
  | _ fuel ih =>
  intro cs x h
  cases fuel with
  | zero => simp [DataW.trod] at h
  | succ fuel =>
    obtain ⟨y0, y1, y2, y3, m, hm, hx, hl, h0, h1, h2, h3⟩ := trod_struct4z Try.underlying26 h
    obtain rfl : fuel = m := by omega
    rw [cells26] at hl
    match cs, hl with
    | [c0, c1, c2, c3, c4, c5, c6], _ =>
        simp only [cells3, cells5, cells23, cells24, List.drop_zero, List.take_succ_cons, List.take_zero, List.drop_succ_cons] at h0 h1 h2 h3
        obtain ⟨n0, e0, _, w0⟩ := DataW.trod_int Try.underlying5 h0
        obtain ⟨n2, e2, _, w2⟩ := DataW.trod_int Try.underlying3 h2
        simp only [List.cons.injEq, and_true] at e0 e2
        subst e0 e2
        obtain ⟨r, hr, hw⟩ := read23 h1
        obtain e1 := k23_open hr
        simp only [List.cons.injEq, and_true] at e1
        obtain ⟨rfl, rfl, rfl, rfl⟩ := e1
        obtain ⟨A, c, l, e3, hlc, hC, hok, hsum, _⟩ := open_rowz (k := Kd.upto F26 7 [26] fuel) (ok := wfn26 fuel) sz Try.underlying24 (by rw [sz26, cells26]) (fun n hn cs y hy => by
          obtain ⟨p, hp, hok, hz⟩ := ih n (by omega) hy
          exact ⟨p, Kd.upto_K_le mono26 sz26 (by omega) hp, wfn26_le (by omega) hok, hz⟩) h3
        simp only [List.cons.injEq, and_true] at e3
        subst e3
        have hlen9 : l.length ≤ 9223372036854775807 := hC.2.1
        refine ⟨⟨n0, r, n2, l⟩, ?_, ⟨u8_of w0, hw, i64_of w2, hlen9, hok⟩, ?_⟩
        · exact ⟨[.int .u8 n0], [.int .i64 r.f0, .int .i64 r.f1, .int .i64 r.f2, .int .i64 r.f3, .int .i64 n2, .slice A l.length c], rfl, rfl, [.int .i64 r.f0, .int .i64 r.f1, .int .i64 r.f2, .int .i64 r.f3], [.int .i64 n2, .slice A l.length c], rfl, k23_mk w r, [.int .i64 n2], [.slice A l.length c], rfl, rfl, A, c, rfl, hlc, hC⟩
        · rw [hx, sz_eq]
          have := szL_sum l
          simp only [Rows.uptoBulk, Rows.uptoBulkAll]
          have h3 := bulk_pos y0.1
          omega
theorem read26z {fuel : Nat} {cs : List Value} {x : DataW H × List MemPlace} (h : DataW.trod enc Try.prog w base spare held fuel 26 cs = some x) : ∃ r : S26, k26.K w r cs ∧ wf26 r ∧ sz r ≤ Rows.uptoBulk x.1 := by
  obtain ⟨r, hr, hw, hz⟩ := read26nz fuel h
  exact ⟨r, ⟨fuel, hr⟩, ⟨fuel, hw⟩, hz⟩
end
end Go.Proofs.Ytfdmfgaiblfbhaa.P
/- The row of the law AdjustSets, second form (what it reads is of bulk at most 1048576), out of its plain law and its walk. -/
namespace Go.Proofs.Ytfdmfgaiblfbhaa.adjustSetsUpto
open Go.ChangeShapes Go.WideShapes Go.ChangeAt Go.RowKit Go.Proofs.Ytfdmfgaiblfbhaa.P Go.Proofs.YtfdmfgaiblfbhaaW.PrintWords
open Go.ChangeMaps (open_string shut_string)
theorem own : ownKnob Try.prog.godebug = none := by kernel_rfl
theorem laidOut : laidOutB Try.prog = true := by kernel_rfl
set_option maxRecDepth 100000 in
theorem lifted (os : Os) (started : os.Started) (H : Type) (enc : TypeId × Value → H) (F : Stop.Interp) :
    ReturnsInHanded {} Try.checked os 12 .any ((Rows.OpenSpec.upto Rows.adjustSetsSpec).pre6 enc Try.prog Try.f12 Rows.adjustSetsUptoRow.domain false) (((Rows.OpenSpec.upto Rows.adjustSetsSpec).at F).post enc Try.prog Try.f12 false true false false) := by
  refine returnsInHanded_of_cond (C := Try.checked) (s := Rows.OpenSpec.upto Rows.adjustSetsSpec) (k := Rows.uptoSmall) rfl own started (by kernel_rfl) Try.func12
    (OpenSpec.witness (enc := enc) (C := Try.checked) (s := Rows.OpenSpec.upto Rows.adjustSetsSpec) (k := Rows.uptoSmall) rfl false ⟨#[], #[.agg #[.int .u8 0, .int .i64 0, .int .i64 0, .int .i64 0, .int .i64 0, .int .i64 0, .slice none 0 0], .int .i64 0, .int .i64 0], []⟩ 8 (by kernel_rfl) (by kernel_rfl) (by kernel_rfl)
      (x := ([.agg [.lit (.int .u8 0), .agg [.lit (.int .i64 0), .lit (.int .i64 0), .lit (.int .i64 0), .lit (.int .i64 0)], .lit (.int .i64 0), .nil], .lit (.int .i64 0), .lit (.int .i64 0)], [], [])) (by kernel_rfl) rfl (by kernel_rfl)) ?_
  intro W base args ds gs before hval0 hW hcnd hk0 _
  have hval : ∀ (j : Nat) t v, Try.f12.params[j]? = some t → args[j]? = some v → Value.okWide Try.prog W .any base t v := hval0
  have hW' := hW
  obtain ⟨p, q, hA0, hV, rfl, hfz, hnd⟩ := hW
  have hA : DataW.TrodAll enc Try.prog W 0 (fun _ => true) true Try.f12.params.toList args.toList ds p := hA0
  rw [Try.params12] at hA hval
  obtain ⟨v0, vs0, d0, ds0, p0, q0, hargs, rfl, rfl, h0, r0⟩ := trodAll_cons hA
  obtain ⟨v1, vs1, d1, ds1, p1, q1, rfl, rfl, rfl, h1, r1⟩ := trodAll_cons r0
  obtain ⟨v2, vs2, d2, ds2, p2, q2, rfl, rfl, rfl, h2, r2⟩ := trodAll_cons r1
  obtain ⟨rfl, rfl, rfl⟩ := trodAll_nil r2
  obtain rfl : args = #[v0, v1, v2] := by cases args; simp_all
  obtain ⟨rfl, rfl⟩ := trodVars_none hV
  have hB := of_decide_eq_true hk0
  simp only [List.cons_append, List.nil_append, List.append_nil, Rows.uptoBulkAll] at hB
  have z0 : Rows.uptoBulk d0 ≤ 1048576 := by omega
  have k0 := h0
  have lt0 : ∀ x ∈ p0, x.block < W.heap.size := by obtain ⟨m, hm⟩ := k0; exact DataW.trod_lt m _ _ _ hm
  obtain ⟨fuel0, hf0⟩ := h0
  obtain ⟨cs0, rfl, _⟩ := okWide_struct Try.underlying26 (hval 0 26 v0 rfl rfl)
  obtain ⟨a0, b0, w0, y0⟩ := read26z hf0
  obtain ⟨A0, c0, e0, hc0, hr0⟩ := k26_open b0
  obtain rfl := agg_of e0
  obtain ⟨a1, rfl, rfl, rfl, w1⟩ := open_int Try.underlying3 (hval 1 3 v1 rfl rfl) h1
  obtain ⟨a2, rfl, rfl, rfl, w2⟩ := open_int Try.underlying3 (hval 2 3 v2 rfl rfl) h2
  obtain ⟨k, hP⟩ := Pure.AdjustSets a0 a1 a2 w0 (Nat.le_trans y0 z0) (i64_of w1) (i64_of w2)
  refine (sashlaw09_AdjustSets.calls k a0.f0 a0.f1.f0 a0.f1.f1 a0.f1.f2 a0.f1.f3 a0.f2 _ _ a0.f3 a1 a2 true W hr0 hc0 hP).mono fun e W' ⟨he, bel0⟩ => ?_
  have bel : Below W.heap.size W W' := bel0
  subst he
  exact ⟨_, rfl, _, _, _, [], _, [], hW', trodAll_mk1 (shut_bool Try.underlying4 _), (trodAll_cons_mk (Below.trod laidOut (by kernel_rfl) (of_decide_eq_true (by kernel_rfl)) k0 bel lt0) (trodAll_cons_mk (shut_int Try.underlying3 w1) (trodAll_cons_mk (shut_int Try.underlying3 w2) trodAll_mk0))), rfl, bel.frame _, fun h => by cases h⟩
theorem j0 : (Rows.adjustSetsUptoRow.wf (OpenSpec.ofChange (Rows.OpenSpec.upto Rows.adjustSetsSpec).bare)) = true := by kernel_rfl
theorem j1 : (laidOutB Try.prog) = true := by kernel_rfl
theorem j2 : (mapsRowed Try.prog) = true := by kernel_rfl
theorem j3 : (Try.f12.params.all (Try.prog.readableRec ·)) = true := by kernel_rfl
theorem j4 : (namedTie Try.prog Rows.adjustSetsUptoRow.named (Rows.OpenSpec.upto Rows.adjustSetsSpec).bare.vars) = true := by kernel_rfl
theorem j5 : ((Rows.adjustSetsUptoRow.stops == [])) = true := by kernel_rfl
theorem j6 : ((Try.prog.stops == [])) = true := by kernel_rfl
theorem j7 : ((Rows.adjustSetsUptoRow.knobs == [])) = true := by kernel_rfl
theorem j8 : ((Try.prog.stopKnobs == [])) = true := by kernel_rfl
theorem j9 : ((Rows.adjustSetsUptoRow.inPlace == Try.prog.inPlace 12)) = true := by kernel_rfl
theorem j10 : ((Rows.adjustSetsUptoRow.unfollowed == Try.prog.unfollowed 12)) = true := by kernel_rfl
theorem j11 : ((Rows.adjustSetsUptoRow.recurses == Try.prog.recurses 12)) = true := by kernel_rfl
theorem j12 : ((Rows.adjustSetsUptoRow.named == Try.prog.varsNamed 12)) = true := by kernel_rfl
theorem j13 : ((Rows.adjustSetsUptoRow.maps == (Try.f12.params.toList ++ (Rows.OpenSpec.upto Rows.adjustSetsSpec).bare.plain.varTypes Try.prog).any (Try.prog.mapsRec ·))) = true := by kernel_rfl
theorem j14 : ((Rows.adjustSetsUptoRow.ifaces == (Try.f12.params.toList ++ (Rows.OpenSpec.upto Rows.adjustSetsSpec).bare.plain.varTypes Try.prog).any (Try.prog.ifacesRec ·))) = true := by kernel_rfl
theorem j15 : ((Rows.adjustSetsUptoRow.mapsOut == Try.prog.mapsAmong Try.f12.resultTypes.toList)) = true := by kernel_rfl
theorem j16 : ((Rows.adjustSetsUptoRow.loops == (Try.f12.params.toList ++ (Rows.OpenSpec.upto Rows.adjustSetsSpec).bare.plain.varTypes Try.prog).any (Try.prog.loopsFrom ·))) = true := by kernel_rfl
theorem j17 : ((Rows.adjustSetsUptoRow.wideKeys == (Try.f12.params.toList ++ (Rows.OpenSpec.upto Rows.adjustSetsSpec).bare.plain.varTypes Try.prog ++ Try.f12.resultTypes.toList).any (Try.prog.wideKeysFrom ·))) = true := by kernel_rfl
theorem j18 : ((Rows.OpenSpec.upto Rows.adjustSetsSpec).bare.vars.all (Try.prog.varReadable ·)) = true := by kernel_rfl
theorem j19 : (Try.f12.resultTypes.all (fun t => Try.prog.readableRec t && decide (t < Try.prog.types.size))) = true := by kernel_rfl
theorem j20 : ((Rows.adjustSetsUptoRow.ifacesOut == Try.f12.resultTypes.toList.any (Try.prog.ifacesRec ·))) = true := by kernel_rfl
theorem j21 : ((Rows.adjustSetsUptoRow.loopsOut == Try.f12.resultTypes.toList.any (Try.prog.loopsFrom ·))) = true := by kernel_rfl
theorem j23 : (Rows.adjustSetsUptoRow.shortTexts.isNone) = true := by kernel_rfl
theorem j29 : ((Rows.adjustSetsUptoRow.pinned == Rows.adjustSetsUptoRow.pinnedBy)) = true := by kernel_rfl
theorem j30 : ((Rows.adjustSetsUptoRow.veiled == (Try.f12.params.toList ++ (Rows.OpenSpec.upto Rows.adjustSetsSpec).bare.plain.varTypes Try.prog ++ Try.f12.resultTypes.toList).any (Try.prog.veiledRec ·))) = true := by kernel_rfl
theorem j31 : (Rows.adjustSetsUptoRow.veiledFits Try.prog Try.f12.params.toList (Try.f12.params.toList ++ (Rows.OpenSpec.upto Rows.adjustSetsSpec).bare.plain.varTypes Try.prog ++ Try.f12.resultTypes.toList)) = true := by kernel_rfl
theorem closed : joinedFacts Try.prog 12 Try.f12 (Rows.OpenSpec.upto Rows.adjustSetsSpec).bare Rows.adjustSetsUptoRow = true := P.joined_mk j0 j1 j2 j3 j4 j5 j6 j7 j8 j9 j10 j11 j12 j13 j14 j15 j16 j17 j18 j19 j20 j21 P.head_keys j23 P.head_heard P.head_enter (by rw [P.head_final]; rfl) (by rw [P.head_make]; rfl) rfl rfl j29 j30 j31
theorem over : Rows.adjustSetsUptoRow.holds Try.pinned (Rows.OpenSpec.upto Rows.adjustSetsSpec) :=
  OpenClaim.holds_of_cond 12 Try.f12 rfl rfl rfl rfl rfl rfl rfl ⟨rfl, rfl, rfl, rfl, rfl⟩ rfl rfl rfl rfl rfl (by kernel_rfl) Try.func12 closed
    (of_decide_eq_true (by kernel_rfl)) (by unfold Func.isWrapper; first | (rw [if_pos (by decide +kernel)]; kernel_rfl) | (rw [if_neg (by decide +kernel)]; exact ⟨rfl, rfl⟩))
    (fun os started H enc _ F => lifted os started H enc F)
theorem proved : Rows.AdjustSetsUptoSaid := over
#print axioms proved
end Go.Proofs.Ytfdmfgaiblfbhaa.adjustSetsUpto
namespace Go.Proofs.Ytfdmfgaiblfbhaa
/-- The row, under a short name, for the claim. -/
theorem adjustSetsUpto_holds : Rows.AdjustSetsUptoSaid := adjustSetsUpto.proved
end Go.Proofs.Ytfdmfgaiblfbhaa
