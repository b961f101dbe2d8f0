/- LeastPaths: part 6 of 7 of this claim's texts, one behind the other. The words of the kit's printer stand in it cut down, by a program, to those that are used. -/
import Derived.Test.YtfdmfgaiblfbhaaMLeastPathsc
import Derived.Test.YtfdmfgaiblfbhaaMLeastPathsd
import Derived.Test.YtfdmfgaiblfbhaaMLeastPathse
namespace Go.Proofs.Ytfdmfgaiblfbhaa.P
open Go.RowKit Go.Proofs.YtfdmfgaiblfbhaaW.PrintWords Go.Proofs.YtfdmfgaiblfbhaaW.PrintLast Go.Proofs.YtfdmfgaiblfbhaaW.PrintMore
attribute [local go_sem] max2_int min2_int max_two min_two max_three min_three max_four min_four   -- for this text's walks alone
set_option linter.unusedVariables false
set_option linter.unusedSimpArgs false

/-! ### least_Least: function 93 -/
def least_Least.f (k : Nat) (a0_0 : Int) (a0_1 : Int) (a0_2 : Int) (a0_3 : Int) (a0_4 : Int) (a0_5 : Int) (l0_6 : List (S26)) (a1 : Int) : Option (Int) := (least_axes.f a1).bind fun t980 => (if t980 = true then ((cell_May.f (([(⟨a0_0, (⟨a0_1, a0_2, a0_3, a0_4⟩ : S23), a0_5, l0_6⟩ : S26)] : List (S26)))).bind fun t984 => (if t984 = true then ((least_least.f k a0_0 a0_1 a0_2 a0_3 a0_4 a0_5 l0_6 a1).bind fun t985 => (some t985)) else (some 0))) else (some 0))
set_option maxHeartbeats 8000000 in
set_option maxRecDepth 100000 in
theorem least_Least.calls (k : Nat) (a0_0 : Int) (a0_1 : Int) (a0_2 : Int) (a0_3 : Int) (a0_4 : Int) (a0_5 : Int) (P0_6_ : Nat → Prop) (A0_6 : Option Addr) (c0_6 : Nat) (l0_6 : List (S26)) (a1 : Int) (r : Int) (w : World) (hs0_6 : Kd.V k26 26 w w.heap.size (fun k_ => P0_6_ k_) (.slice A0_6 l0_6.length c0_6) l0_6) (h : least_Least.f k a0_0 a0_1 a0_2 a0_3 a0_4 a0_5 l0_6 a1 = some r) :
  Calls Try.prog 93 #[.agg #[.int .u8 a0_0, .int .i64 a0_1, .int .i64 a0_2, .int .i64 a0_3, .int .i64 a0_4, .int .i64 a0_5, .slice A0_6 l0_6.length c0_6], .int .u8 a1] w fun e w' => e = .returned (.int .i64 r) ∧ Below w.heap.size w w' := by
 have hu26 := Try.underlying26
 have HO0_6 := Aside0.mk (show Kd.V k26 26 w w.heap.size (fun k_ => (P0_6_ k_ ∨ w.heap.size ≤ k_)) (.slice A0_6 l0_6.length c0_6) l0_6 from Kd.V_mono hs0_6 (fun k_ hk => .inl hk))
 have HB := Aside0.mk (Below.refl w.heap.size w)
 have H : ((least_axes.f a1).bind fun t980 => (if t980 = true then ((cell_May.f (([(⟨a0_0, (⟨a0_1, a0_2, a0_3, a0_4⟩ : S23), a0_5, l0_6⟩ : S26)] : List (S26)))).bind fun t984 => (if t984 = true then ((least_least.f k a0_0 a0_1 a0_2 a0_3 a0_4 a0_5 l0_6 a1).bind fun t985 => (some t985)) else (some 0))) else (some 0))) = some r := h
 clear h
 replace H := Option.bind_eq_some_iff.mp H
 obtain ⟨t980, A30, H⟩ := H
 replace H : (if t980 = true then ((cell_May.f (([(⟨a0_0, (⟨a0_1, a0_2, a0_3, a0_4⟩ : S23), a0_5, l0_6⟩ : S26)] : List (S26)))).bind fun t984 => (if t984 = true then ((least_least.f k a0_0 a0_1 a0_2 a0_3 a0_4 a0_5 l0_6 a1).bind fun t985 => (some t985)) else (some 0))) else (some 0)) = some r := H
 have A3 := Aside0.mk A30
 clear A30
 by_cases c4 : t980 = true
 ·subst c4
  have H1 : ((cell_May.f (([(⟨a0_0, (⟨a0_1, a0_2, a0_3, a0_4⟩ : S23), a0_5, l0_6⟩ : S26)] : List (S26)))).bind fun t984 => (if t984 = true then ((least_least.f k a0_0 a0_1 a0_2 a0_3 a0_4 a0_5 l0_6 a1).bind fun t985 => (some t985)) else (some 0))) = some r := by rw [if_pos rfl] at H; exact H
  clear H
  have H := H1
  clear H1
  obtain ⟨y981, hy981⟩ : ∃ y_ : List (S26), y_ = (([(⟨a0_0, (⟨a0_1, a0_2, a0_3, a0_4⟩ : S23), a0_5, l0_6⟩ : S26)] : List (S26))) := ⟨_, rfl⟩
  replace H : ((cell_May.f y981).bind fun t984 => (if t984 = true then ((least_least.f k a0_0 a0_1 a0_2 a0_3 a0_4 a0_5 l0_6 a1).bind fun t985 => (some t985)) else (some 0))) = some r := by first | (rw [hy981]; with_reducible exact H) | (have H2_ := (Option.bind_some _ _).symm.trans H; rw [hy981]; with_reducible exact H2_) | (have H2_ := (Option.bind_some _ _).symm.trans H; with_reducible exact H2_) | with_reducible exact H | (rw [hy981]; exact H) | exact H
  have Ny981 := Aside0.mk hy981
  clear hy981
  replace H := Option.bind_eq_some_iff.mp H
  obtain ⟨t984, A50, H⟩ := H
  replace H : (if t984 = true then ((least_least.f k a0_0 a0_1 a0_2 a0_3 a0_4 a0_5 l0_6 a1).bind fun t985 => (some t985)) else (some 0)) = some r := H
  have A5 := Aside0.mk A50
  clear A50
  by_cases c6 : t984 = true
  ·subst c6
   have H1 : ((least_least.f k a0_0 a0_1 a0_2 a0_3 a0_4 a0_5 l0_6 a1).bind fun t985 => (some t985)) = some r := by rw [if_pos rfl] at H; exact H
   clear H
   have H := H1
   clear H1
   replace H := Option.bind_eq_some_iff.mp H
   obtain ⟨t985, A70, H⟩ := H
   replace H : (some t985) = some r := H
   have A7 := Aside0.mk A70
   clear A70
   obtain rfl := Option.some.inj H
   go_enter Try.func93, Try.ntmps93
   go_wp2_with (first | ((with_reducible refine gate_dst (N := 2) rfl ?_); (try (refine gate_guard (by rfl) ?_; dsimp only)); refine box_event ?hg (N := 2) ?hd (cs := #[.int .u8 a0_0, .int .i64 a0_1, .int .i64 a0_2, .int .i64 a0_3, .int .i64 a0_4, .int .i64 a0_5, .slice A0_6 l0_6.length c0_6]) (t := 26) ?hr ?_; (case hd => rfl); (case hg => rfl); (case hr => first | (go_simp; done) | (go_simp; rfl)); intro gb979 hg w8 hbox hb; have n0_ := Aside0.mk (Kd.V_below (Kd.V_elderB (by (with_reducible repeat (first | apply Kd.V_alloc | apply Kd.V_drewN | apply Kd.V_drew)); exact HO0_6.out) gb979 (Nat.le_of_eq hg.symm)) hb); have n1_ := Aside0.mk (below_step (by repeat (first | (with_reducible first | exact HB.out | apply below_alloc | apply pw_below_drewN | apply below_drew1) | exact HB.out)) hb); have n2_ := Aside0.mk (hbox); have n3_ := Aside0.mk ((by rw [hg]; exact (below_size (by repeat (first | (with_reducible first | exact HB.out | apply below_alloc | apply pw_below_drewN | apply below_drew1) | exact HB.out))) : w.heap.size ≤ gb979)); have n4_ := Aside0.mk ((by rw [hg]; exact (below_size (by repeat (first | (with_reducible first | exact HB.out | apply below_alloc | apply pw_below_drewN | apply below_drew1) | exact HB.out))) : w.heap.size ≤ gb979)); clear HO0_6; clear HB; have HO0_6 := n0_; have HB := n1_; have BK979 := n2_; have GW979 := n3_; have GE979 := n4_; clear n0_ n1_ n2_ n3_ n4_; clear hb hbox hg) | ((with_reducible refine gate_callee (f := 147) rfl ?_); refine goesL_ (some 6) rfl rfl Try.func147 (by kernel_rfl) rfl #[.int .u8 a1] rfl (by (try simp only [List.map_toArray, List.map_cons, List.map_nil]); first | done | rfl | (simp only [List.length_drop, List.length_take]; rfl)) ?_; (with_reducible refine (least_axes.calls a1 true _ A3.out).mono ?_); rintro e w9 ⟨rfl, hb⟩; refine ⟨_, rfl, ?_⟩; have n0_ := Aside0.mk (Kd.V_below (by (with_reducible repeat (first | apply Kd.V_alloc | apply Kd.V_drewN | apply Kd.V_drew)); exact HO0_6.out) hb); have n1_ := Aside0.mk (blk_below (g := gb979) (o := .cells #[.int .u8 a0_0, .int .i64 a0_1, .int .i64 a0_2, .int .i64 a0_3, .int .i64 a0_4, .int .i64 a0_5, .slice A0_6 l0_6.length c0_6] 26 (0, 0)) (by (with_reducible repeat (first | refine blk_drewN ?_ _ | refine blk_drew ?_ | refine blk_alloc ?_ _)); exact BK979.out) hb); have n2_ := Aside0.mk (below_step (by repeat (first | (with_reducible first | exact HB.out | apply below_alloc | apply pw_below_drewN | apply below_drew1 | refine below_set ?_ GE979.out) | exact HB.out)) hb); clear HO0_6; clear BK979; clear HB; have HO0_6 := n0_; have BK979 := n1_; have HB := n2_; clear n0_ n1_ n2_; (try clear hb); (try clear hb2); (try clear hk); (try clear hi); have hcz10_0 : w9.cell? ⟨gb979, 0, none⟩ = some (.int .u8 a0_0) := (blk_cell BK979.out 0).trans rfl; have hcz10_1 : w9.cell? ⟨gb979, 1, none⟩ = some (.int .i64 a0_1) := (blk_cell BK979.out 1).trans rfl; have hcz10_2 : w9.cell? ⟨gb979, 2, none⟩ = some (.int .i64 a0_2) := (blk_cell BK979.out 2).trans rfl; have hcz10_3 : w9.cell? ⟨gb979, 3, none⟩ = some (.int .i64 a0_3) := (blk_cell BK979.out 3).trans rfl; have hcz10_4 : w9.cell? ⟨gb979, 4, none⟩ = some (.int .i64 a0_4) := (blk_cell BK979.out 4).trans rfl; have hcz10_5 : w9.cell? ⟨gb979, 5, none⟩ = some (.int .i64 a0_5) := (blk_cell BK979.out 5).trans rfl; have hcz10_6 : w9.cell? ⟨gb979, 6, none⟩ = some (.slice A0_6 l0_6.length c0_6) := (blk_cell BK979.out 6).trans rfl; have hfz10_0 := blk_frozen BK979.out 0; have hfz10_1 := blk_frozen BK979.out 1; have hfz10_2 := blk_frozen BK979.out 2; have hfz10_3 := blk_frozen BK979.out 3; have hfz10_4 := blk_frozen BK979.out 4; have hfz10_5 := blk_frozen BK979.out 5; have hfz10_6 := blk_frozen BK979.out 6) | ((with_reducible refine gate_dst (N := 10) rfl ?_); (try (refine gate_guard (by rfl) ?_; dsimp only)); refine Kd.N_lit k26 _ 26 ?hg (N' := 10) ?hd (xs := ([(⟨a0_0, (⟨a0_1, a0_2, a0_3, a0_4⟩ : S23), a0_5, l0_6⟩ : S26)] : List (S26))) (inner := [.int .u8 a0_0, .int .i64 a0_1, .int .i64 a0_2, .int .i64 a0_3, .int .i64 a0_4, .int .i64 a0_5, .slice A0_6 l0_6.length c0_6]) (ok := (fun k_ => (P0_6_ k_ ∨ w.heap.size ≤ k_) ∧ k_ ≠ gb979)) (okp := (fun k_ => (P0_6_ k_ ∨ w.heap.size ≤ k_) ∧ k_ ≠ gb979)) ?hr ?hp (fun _ hk => hk) ((show ∀ k_, w9.heap.size ≤ k_ → (fun k_ => (P0_6_ k_ ∨ w.heap.size ≤ k_) ∧ k_ ≠ gb979) k_ from fun k_ hk => ⟨(.inr (Nat.le_trans (below_size (by repeat (first | (with_reducible first | exact HB.out | apply below_alloc | apply pw_below_drewN | apply below_drew1 | refine below_set ?_ GE979.out) | exact HB.out))) hk)), Kd.freshB (g := gb979) (o := .cells #[.int .u8 a0_0, .int .i64 a0_1, .int .i64 a0_2, .int .i64 a0_3, .int .i64 a0_4, .int .i64 a0_5, .slice A0_6 l0_6.length c0_6] 26 (0, 0)) (by (with_reducible repeat (first | refine blk_drewN ?_ _ | refine blk_drew ?_ | refine blk_alloc ?_ _)); exact BK979.out) k_ hk⟩) _ (Nat.le_refl _)) (Below.refl _ _) (Nat.le_refl _) (by simp) ?_; (case hd => rfl); (case hg => rfl); (case hr => first | (go_simp; done) | (go_simp; rfl)); (case hp => exact (Reps.c7 (show Kd.FK k26 _ _ (⟨a0_0, (⟨a0_1, a0_2, a0_3, a0_4⟩ : S23), a0_5, l0_6⟩ : S26) [.int .u8 a0_0, .int .i64 a0_1, .int .i64 a0_2, .int .i64 a0_3, .int .i64 a0_4, .int .i64 a0_5, .slice A0_6 l0_6.length c0_6] from (k26_mkF _ _ (⟨a0_0, (⟨a0_1, a0_2, a0_3, a0_4⟩ : S23), a0_5, l0_6⟩ : S26) (Kd.V_reads' (Kd.V_mono (ok' := (fun k_ => (P0_6_ k_ ∨ w.heap.size ≤ k_) ∧ k_ ≠ gb979)) (HO0_6.out) (fun k_ hk => ⟨hk.1, hk.2⟩))).2.1 (Kd.V_F (Kd.V_mono (ok' := (fun k_ => (P0_6_ k_ ∨ w.heap.size ≤ k_) ∧ k_ ≠ gb979)) (HO0_6.out) (fun k_ hk => ⟨hk.1, hk.2⟩))))) (Reps.none _ _))); intro v982 w11 ho12 hb hg_ hnew_; clear hg_ hnew_; (first | rw [← Ny981.out] at ho12 | (simp only [Int.reduceToNat] at ho12; rw [← Ny981.out] at ho12)); have n0_ := Aside0.mk (Kd.V_elder' (by (with_reducible repeat (first | apply Kd.V_alloc | apply Kd.V_drewN | apply Kd.V_drew)); exact HO0_6.out) (Kd.N_base ho12) hb); have n1_ := Aside0.mk (Kd.N_lower ho12 (below_size (by repeat (first | (with_reducible first | exact HB.out | apply below_alloc | apply pw_below_drewN | apply below_drew1 | refine below_set ?_ GE979.out) | exact HB.out)))); have n2_ := Aside0.mk (blk_below (g := gb979) (o := .cells #[.int .u8 a0_0, .int .i64 a0_1, .int .i64 a0_2, .int .i64 a0_3, .int .i64 a0_4, .int .i64 a0_5, .slice A0_6 l0_6.length c0_6] 26 (0, 0)) (by (with_reducible repeat (first | refine blk_drewN ?_ _ | refine blk_drew ?_ | refine blk_alloc ?_ _)); exact BK979.out) hb); have n3_ := Aside0.mk (below_step (by repeat (first | (with_reducible first | exact HB.out | apply below_alloc | apply pw_below_drewN | apply below_drew1 | refine below_set ?_ GE979.out) | exact HB.out)) hb); clear HO0_6; clear BK979; clear HB; have HO0_6 := n0_; have HO983 := n1_; have BK979 := n2_; have HB := n3_; clear n0_ n1_ n2_ n3_; clear hb ho12; obtain ⟨Ao13, co13, eo13⟩ := Kd.N_slice HO983.out; subst eo13) | (go_at_call 76; (with_reducible refine (cell_May.calls _ _ y981 true _ ?side1 ?side2 A5.out).mono ?_); (case side1 => repeat (first | exact (Kd.N_reads' HO983.out).2.2 | (with_reducible refine Kd.C_alloc ?_ _) | (with_reducible refine Kd.C_drewN ?_ _) | (with_reducible refine Kd.C_drew ?_))); (case side2 => exact (Kd.N_reads' HO983.out).2.1); rintro e w14 ⟨rfl, hb⟩; have n0_ := Aside0.mk (Kd.V_below (by (with_reducible repeat (first | apply Kd.V_alloc | apply Kd.V_drewN | apply Kd.V_drew)); exact HO0_6.out) hb); have n1_ := Aside0.mk (Kd.N_below (by (with_reducible repeat (first | apply Kd.N_alloc | apply Kd.N_drewN | apply Kd.N_drew)); exact HO983.out) hb); have n2_ := Aside0.mk (blk_below (g := gb979) (o := .cells #[.int .u8 a0_0, .int .i64 a0_1, .int .i64 a0_2, .int .i64 a0_3, .int .i64 a0_4, .int .i64 a0_5, .slice A0_6 l0_6.length c0_6] 26 (0, 0)) (by (with_reducible repeat (first | refine blk_drewN ?_ _ | refine blk_drew ?_ | refine blk_alloc ?_ _)); exact BK979.out) hb); have n3_ := Aside0.mk (below_step (by repeat (first | (with_reducible first | exact HB.out | apply below_alloc | apply pw_below_drewN | apply below_drew1 | refine below_set ?_ GE979.out) | exact HB.out)) hb); clear HO0_6; clear HO983; clear BK979; clear HB; have HO0_6 := n0_; have HO983 := n1_; have BK979 := n2_; have HB := n3_; clear n0_ n1_ n2_ n3_; (try clear hb); (try clear hb2); (try clear hk); (try clear hi); have hcz15_0 : w14.cell? ⟨gb979, 0, none⟩ = some (.int .u8 a0_0) := (blk_cell BK979.out 0).trans rfl; have hcz15_1 : w14.cell? ⟨gb979, 1, none⟩ = some (.int .i64 a0_1) := (blk_cell BK979.out 1).trans rfl; have hcz15_2 : w14.cell? ⟨gb979, 2, none⟩ = some (.int .i64 a0_2) := (blk_cell BK979.out 2).trans rfl; have hcz15_3 : w14.cell? ⟨gb979, 3, none⟩ = some (.int .i64 a0_3) := (blk_cell BK979.out 3).trans rfl; have hcz15_4 : w14.cell? ⟨gb979, 4, none⟩ = some (.int .i64 a0_4) := (blk_cell BK979.out 4).trans rfl; have hcz15_5 : w14.cell? ⟨gb979, 5, none⟩ = some (.int .i64 a0_5) := (blk_cell BK979.out 5).trans rfl; have hcz15_6 : w14.cell? ⟨gb979, 6, none⟩ = some (.slice A0_6 l0_6.length c0_6) := (blk_cell BK979.out 6).trans rfl; have hfz15_0 := blk_frozen BK979.out 0; have hfz15_1 := blk_frozen BK979.out 1; have hfz15_2 := blk_frozen BK979.out 2; have hfz15_3 := blk_frozen BK979.out 3; have hfz15_4 := blk_frozen BK979.out 4; have hfz15_5 := blk_frozen BK979.out 5; have hfz15_6 := blk_frozen BK979.out 6) | ((with_reducible refine gate_callee (f := 149) rfl ?_); refine goesL_ (some 16) rfl rfl Try.func149 (by kernel_rfl) rfl #[.agg #[.int .u8 a0_0, .int .i64 a0_1, .int .i64 a0_2, .int .i64 a0_3, .int .i64 a0_4, .int .i64 a0_5, .slice A0_6 l0_6.length c0_6], .int .u8 a1] rfl (by (try simp only [List.map_toArray, List.map_cons, List.map_nil]); first | done | rfl | (simp only [List.length_drop, List.length_take]; rfl)) ?_; (with_reducible refine (least_least.calls k a0_0 a0_1 a0_2 a0_3 a0_4 a0_5 _ _ l0_6 a1 t985 _ ?side1 ?side2 A7.out).mono ?_); (case side1 => repeat (first | exact (Kd.V_reads' HO0_6.out).2.2 | (with_reducible refine Kd.C_alloc ?_ _) | (with_reducible refine Kd.C_drewN ?_ _) | (with_reducible refine Kd.C_drew ?_))); (case side2 => exact (Kd.V_reads' HO0_6.out).2.1); rintro e w16 ⟨rfl, hb⟩; refine ⟨_, rfl, ?_⟩; have n0_ := Aside0.mk (Kd.V_below (by (with_reducible repeat (first | apply Kd.V_alloc | apply Kd.V_drewN | apply Kd.V_drew)); exact HO0_6.out) hb); have n1_ := Aside0.mk (Kd.N_below (by (with_reducible repeat (first | apply Kd.N_alloc | apply Kd.N_drewN | apply Kd.N_drew)); exact HO983.out) hb); have n2_ := Aside0.mk (blk_below (g := gb979) (o := .cells #[.int .u8 a0_0, .int .i64 a0_1, .int .i64 a0_2, .int .i64 a0_3, .int .i64 a0_4, .int .i64 a0_5, .slice A0_6 l0_6.length c0_6] 26 (0, 0)) (by (with_reducible repeat (first | refine blk_drewN ?_ _ | refine blk_drew ?_ | refine blk_alloc ?_ _)); exact BK979.out) hb); have n3_ := Aside0.mk (below_step (by repeat (first | (with_reducible first | exact HB.out | apply below_alloc | apply pw_below_drewN | apply below_drew1 | refine below_set ?_ GE979.out) | exact HB.out)) hb); clear HO0_6; clear HO983; clear BK979; clear HB; have HO0_6 := n0_; have HO983 := n1_; have BK979 := n2_; have HB := n3_; clear n0_ n1_ n2_ n3_; (try clear hb); (try clear hb2); (try clear hk); (try clear hi)))
   go_ret
   exact ⟨by first | rfl | (simp [errW_none, errW_some] <;> rfl) | (simp [*, errW_none, errW_some] <;> rfl), by repeat (first | (with_reducible first | exact HB.out | apply below_alloc | apply pw_below_drewN | apply below_drew1 | refine below_set ?_ GE979.out) | exact HB.out)⟩
  ·replace c6 := Bool.eq_false_iff.mpr c6
   subst c6
   have H1 : (some 0) = some r := by rw [if_neg (show ¬ (false = true) by decide)] at H; exact H
   clear H
   have H := H1
   clear H1
   obtain rfl := Option.some.inj H
   go_enter Try.func93, Try.ntmps93
   go_wp2_with (first | ((with_reducible refine gate_dst (N := 2) rfl ?_); (try (refine gate_guard (by rfl) ?_; dsimp only)); refine box_event ?hg (N := 2) ?hd (cs := #[.int .u8 a0_0, .int .i64 a0_1, .int .i64 a0_2, .int .i64 a0_3, .int .i64 a0_4, .int .i64 a0_5, .slice A0_6 l0_6.length c0_6]) (t := 26) ?hr ?_; (case hd => rfl); (case hg => rfl); (case hr => first | (go_simp; done) | (go_simp; rfl)); intro gb979 hg w17 hbox hb; have n0_ := Aside0.mk (Kd.V_below (Kd.V_elderB (by (with_reducible repeat (first | apply Kd.V_alloc | apply Kd.V_drewN | apply Kd.V_drew)); exact HO0_6.out) gb979 (Nat.le_of_eq hg.symm)) hb); have n1_ := Aside0.mk (below_step (by repeat (first | (with_reducible first | exact HB.out | apply below_alloc | apply pw_below_drewN | apply below_drew1) | exact HB.out)) hb); have n2_ := Aside0.mk (hbox); have n3_ := Aside0.mk ((by rw [hg]; exact (below_size (by repeat (first | (with_reducible first | exact HB.out | apply below_alloc | apply pw_below_drewN | apply below_drew1) | exact HB.out))) : w.heap.size ≤ gb979)); have n4_ := Aside0.mk ((by rw [hg]; exact (below_size (by repeat (first | (with_reducible first | exact HB.out | apply below_alloc | apply pw_below_drewN | apply below_drew1) | exact HB.out))) : w.heap.size ≤ gb979)); clear HO0_6; clear HB; have HO0_6 := n0_; have HB := n1_; have BK979 := n2_; have GW979 := n3_; have GE979 := n4_; clear n0_ n1_ n2_ n3_ n4_; clear hb hbox hg) | ((with_reducible refine gate_callee (f := 147) rfl ?_); refine goesL_ (some 6) rfl rfl Try.func147 (by kernel_rfl) rfl #[.int .u8 a1] rfl (by (try simp only [List.map_toArray, List.map_cons, List.map_nil]); first | done | rfl | (simp only [List.length_drop, List.length_take]; rfl)) ?_; (with_reducible refine (least_axes.calls a1 true _ A3.out).mono ?_); rintro e w18 ⟨rfl, hb⟩; refine ⟨_, rfl, ?_⟩; have n0_ := Aside0.mk (Kd.V_below (by (with_reducible repeat (first | apply Kd.V_alloc | apply Kd.V_drewN | apply Kd.V_drew)); exact HO0_6.out) hb); have n1_ := Aside0.mk (blk_below (g := gb979) (o := .cells #[.int .u8 a0_0, .int .i64 a0_1, .int .i64 a0_2, .int .i64 a0_3, .int .i64 a0_4, .int .i64 a0_5, .slice A0_6 l0_6.length c0_6] 26 (0, 0)) (by (with_reducible repeat (first | refine blk_drewN ?_ _ | refine blk_drew ?_ | refine blk_alloc ?_ _)); exact BK979.out) hb); have n2_ := Aside0.mk (below_step (by repeat (first | (with_reducible first | exact HB.out | apply below_alloc | apply pw_below_drewN | apply below_drew1 | refine below_set ?_ GE979.out) | exact HB.out)) hb); clear HO0_6; clear BK979; clear HB; have HO0_6 := n0_; have BK979 := n1_; have HB := n2_; clear n0_ n1_ n2_; (try clear hb); (try clear hb2); (try clear hk); (try clear hi); have hcz19_0 : w18.cell? ⟨gb979, 0, none⟩ = some (.int .u8 a0_0) := (blk_cell BK979.out 0).trans rfl; have hcz19_1 : w18.cell? ⟨gb979, 1, none⟩ = some (.int .i64 a0_1) := (blk_cell BK979.out 1).trans rfl; have hcz19_2 : w18.cell? ⟨gb979, 2, none⟩ = some (.int .i64 a0_2) := (blk_cell BK979.out 2).trans rfl; have hcz19_3 : w18.cell? ⟨gb979, 3, none⟩ = some (.int .i64 a0_3) := (blk_cell BK979.out 3).trans rfl; have hcz19_4 : w18.cell? ⟨gb979, 4, none⟩ = some (.int .i64 a0_4) := (blk_cell BK979.out 4).trans rfl; have hcz19_5 : w18.cell? ⟨gb979, 5, none⟩ = some (.int .i64 a0_5) := (blk_cell BK979.out 5).trans rfl; have hcz19_6 : w18.cell? ⟨gb979, 6, none⟩ = some (.slice A0_6 l0_6.length c0_6) := (blk_cell BK979.out 6).trans rfl; have hfz19_0 := blk_frozen BK979.out 0; have hfz19_1 := blk_frozen BK979.out 1; have hfz19_2 := blk_frozen BK979.out 2; have hfz19_3 := blk_frozen BK979.out 3; have hfz19_4 := blk_frozen BK979.out 4; have hfz19_5 := blk_frozen BK979.out 5; have hfz19_6 := blk_frozen BK979.out 6) | ((with_reducible refine gate_dst (N := 10) rfl ?_); (try (refine gate_guard (by rfl) ?_; dsimp only)); refine Kd.N_lit k26 _ 26 ?hg (N' := 10) ?hd (xs := ([(⟨a0_0, (⟨a0_1, a0_2, a0_3, a0_4⟩ : S23), a0_5, l0_6⟩ : S26)] : List (S26))) (inner := [.int .u8 a0_0, .int .i64 a0_1, .int .i64 a0_2, .int .i64 a0_3, .int .i64 a0_4, .int .i64 a0_5, .slice A0_6 l0_6.length c0_6]) (ok := (fun k_ => (P0_6_ k_ ∨ w.heap.size ≤ k_) ∧ k_ ≠ gb979)) (okp := (fun k_ => (P0_6_ k_ ∨ w.heap.size ≤ k_) ∧ k_ ≠ gb979)) ?hr ?hp (fun _ hk => hk) ((show ∀ k_, w18.heap.size ≤ k_ → (fun k_ => (P0_6_ k_ ∨ w.heap.size ≤ k_) ∧ k_ ≠ gb979) k_ from fun k_ hk => ⟨(.inr (Nat.le_trans (below_size (by repeat (first | (with_reducible first | exact HB.out | apply below_alloc | apply pw_below_drewN | apply below_drew1 | refine below_set ?_ GE979.out) | exact HB.out))) hk)), Kd.freshB (g := gb979) (o := .cells #[.int .u8 a0_0, .int .i64 a0_1, .int .i64 a0_2, .int .i64 a0_3, .int .i64 a0_4, .int .i64 a0_5, .slice A0_6 l0_6.length c0_6] 26 (0, 0)) (by (with_reducible repeat (first | refine blk_drewN ?_ _ | refine blk_drew ?_ | refine blk_alloc ?_ _)); exact BK979.out) k_ hk⟩) _ (Nat.le_refl _)) (Below.refl _ _) (Nat.le_refl _) (by simp) ?_; (case hd => rfl); (case hg => rfl); (case hr => first | (go_simp; done) | (go_simp; rfl)); (case hp => exact (Reps.c7 (show Kd.FK k26 _ _ (⟨a0_0, (⟨a0_1, a0_2, a0_3, a0_4⟩ : S23), a0_5, l0_6⟩ : S26) [.int .u8 a0_0, .int .i64 a0_1, .int .i64 a0_2, .int .i64 a0_3, .int .i64 a0_4, .int .i64 a0_5, .slice A0_6 l0_6.length c0_6] from (k26_mkF _ _ (⟨a0_0, (⟨a0_1, a0_2, a0_3, a0_4⟩ : S23), a0_5, l0_6⟩ : S26) (Kd.V_reads' (Kd.V_mono (ok' := (fun k_ => (P0_6_ k_ ∨ w.heap.size ≤ k_) ∧ k_ ≠ gb979)) (HO0_6.out) (fun k_ hk => ⟨hk.1, hk.2⟩))).2.1 (Kd.V_F (Kd.V_mono (ok' := (fun k_ => (P0_6_ k_ ∨ w.heap.size ≤ k_) ∧ k_ ≠ gb979)) (HO0_6.out) (fun k_ hk => ⟨hk.1, hk.2⟩))))) (Reps.none _ _))); intro v982 w20 ho21 hb hg_ hnew_; clear hg_ hnew_; (first | rw [← Ny981.out] at ho21 | (simp only [Int.reduceToNat] at ho21; rw [← Ny981.out] at ho21)); have n0_ := Aside0.mk (Kd.V_elder' (by (with_reducible repeat (first | apply Kd.V_alloc | apply Kd.V_drewN | apply Kd.V_drew)); exact HO0_6.out) (Kd.N_base ho21) hb); have n1_ := Aside0.mk (Kd.N_lower ho21 (below_size (by repeat (first | (with_reducible first | exact HB.out | apply below_alloc | apply pw_below_drewN | apply below_drew1 | refine below_set ?_ GE979.out) | exact HB.out)))); have n2_ := Aside0.mk (blk_below (g := gb979) (o := .cells #[.int .u8 a0_0, .int .i64 a0_1, .int .i64 a0_2, .int .i64 a0_3, .int .i64 a0_4, .int .i64 a0_5, .slice A0_6 l0_6.length c0_6] 26 (0, 0)) (by (with_reducible repeat (first | refine blk_drewN ?_ _ | refine blk_drew ?_ | refine blk_alloc ?_ _)); exact BK979.out) hb); have n3_ := Aside0.mk (below_step (by repeat (first | (with_reducible first | exact HB.out | apply below_alloc | apply pw_below_drewN | apply below_drew1 | refine below_set ?_ GE979.out) | exact HB.out)) hb); clear HO0_6; clear BK979; clear HB; have HO0_6 := n0_; have HO983 := n1_; have BK979 := n2_; have HB := n3_; clear n0_ n1_ n2_ n3_; clear hb ho21; obtain ⟨Ao22, co22, eo22⟩ := Kd.N_slice HO983.out; subst eo22) | (go_at_call 76; (with_reducible refine (cell_May.calls _ _ y981 false _ ?side1 ?side2 A5.out).mono ?_); (case side1 => repeat (first | exact (Kd.N_reads' HO983.out).2.2 | (with_reducible refine Kd.C_alloc ?_ _) | (with_reducible refine Kd.C_drewN ?_ _) | (with_reducible refine Kd.C_drew ?_))); (case side2 => exact (Kd.N_reads' HO983.out).2.1); rintro e w23 ⟨rfl, hb⟩; have n0_ := Aside0.mk (Kd.V_below (by (with_reducible repeat (first | apply Kd.V_alloc | apply Kd.V_drewN | apply Kd.V_drew)); exact HO0_6.out) hb); have n1_ := Aside0.mk (Kd.N_below (by (with_reducible repeat (first | apply Kd.N_alloc | apply Kd.N_drewN | apply Kd.N_drew)); exact HO983.out) hb); have n2_ := Aside0.mk (blk_below (g := gb979) (o := .cells #[.int .u8 a0_0, .int .i64 a0_1, .int .i64 a0_2, .int .i64 a0_3, .int .i64 a0_4, .int .i64 a0_5, .slice A0_6 l0_6.length c0_6] 26 (0, 0)) (by (with_reducible repeat (first | refine blk_drewN ?_ _ | refine blk_drew ?_ | refine blk_alloc ?_ _)); exact BK979.out) hb); have n3_ := Aside0.mk (below_step (by repeat (first | (with_reducible first | exact HB.out | apply below_alloc | apply pw_below_drewN | apply below_drew1 | refine below_set ?_ GE979.out) | exact HB.out)) hb); clear HO0_6; clear HO983; clear BK979; clear HB; have HO0_6 := n0_; have HO983 := n1_; have BK979 := n2_; have HB := n3_; clear n0_ n1_ n2_ n3_; (try clear hb); (try clear hb2); (try clear hk); (try clear hi)))
   go_ret
   exact ⟨by first | rfl | (simp [errW_none, errW_some] <;> rfl) | (simp [*, errW_none, errW_some] <;> rfl), by repeat (first | (with_reducible first | exact HB.out | apply below_alloc | apply pw_below_drewN | apply below_drew1 | refine below_set ?_ GE979.out) | exact HB.out)⟩
 ·replace c4 := Bool.eq_false_iff.mpr c4
  subst c4
  have H1 : (some 0) = some r := by rw [if_neg (show ¬ (false = true) by decide)] at H; exact H
  clear H
  have H := H1
  clear H1
  obtain rfl := Option.some.inj H
  go_enter Try.func93, Try.ntmps93
  go_wp2_with (first | ((with_reducible refine gate_dst (N := 2) rfl ?_); (try (refine gate_guard (by rfl) ?_; dsimp only)); refine box_event ?hg (N := 2) ?hd (cs := #[.int .u8 a0_0, .int .i64 a0_1, .int .i64 a0_2, .int .i64 a0_3, .int .i64 a0_4, .int .i64 a0_5, .slice A0_6 l0_6.length c0_6]) (t := 26) ?hr ?_; (case hd => rfl); (case hg => rfl); (case hr => first | (go_simp; done) | (go_simp; rfl)); intro gb979 hg w24 hbox hb; have n0_ := Aside0.mk (Kd.V_below (Kd.V_elderB (by (with_reducible repeat (first | apply Kd.V_alloc | apply Kd.V_drewN | apply Kd.V_drew)); exact HO0_6.out) gb979 (Nat.le_of_eq hg.symm)) hb); have n1_ := Aside0.mk (below_step (by repeat (first | (with_reducible first | exact HB.out | apply below_alloc | apply pw_below_drewN | apply below_drew1) | exact HB.out)) hb); have n2_ := Aside0.mk (hbox); have n3_ := Aside0.mk ((by rw [hg]; exact (below_size (by repeat (first | (with_reducible first | exact HB.out | apply below_alloc | apply pw_below_drewN | apply below_drew1) | exact HB.out))) : w.heap.size ≤ gb979)); have n4_ := Aside0.mk ((by rw [hg]; exact (below_size (by repeat (first | (with_reducible first | exact HB.out | apply below_alloc | apply pw_below_drewN | apply below_drew1) | exact HB.out))) : w.heap.size ≤ gb979)); clear HO0_6; clear HB; have HO0_6 := n0_; have HB := n1_; have BK979 := n2_; have GW979 := n3_; have GE979 := n4_; clear n0_ n1_ n2_ n3_ n4_; clear hb hbox hg) | ((with_reducible refine gate_callee (f := 147) rfl ?_); refine goesL_ (some 6) rfl rfl Try.func147 (by kernel_rfl) rfl #[.int .u8 a1] rfl (by (try simp only [List.map_toArray, List.map_cons, List.map_nil]); first | done | rfl | (simp only [List.length_drop, List.length_take]; rfl)) ?_; (with_reducible refine (least_axes.calls a1 false _ A3.out).mono ?_); rintro e w25 ⟨rfl, hb⟩; refine ⟨_, rfl, ?_⟩; have n0_ := Aside0.mk (Kd.V_below (by (with_reducible repeat (first | apply Kd.V_alloc | apply Kd.V_drewN | apply Kd.V_drew)); exact HO0_6.out) hb); have n1_ := Aside0.mk (blk_below (g := gb979) (o := .cells #[.int .u8 a0_0, .int .i64 a0_1, .int .i64 a0_2, .int .i64 a0_3, .int .i64 a0_4, .int .i64 a0_5, .slice A0_6 l0_6.length c0_6] 26 (0, 0)) (by (with_reducible repeat (first | refine blk_drewN ?_ _ | refine blk_drew ?_ | refine blk_alloc ?_ _)); exact BK979.out) hb); have n2_ := Aside0.mk (below_step (by repeat (first | (with_reducible first | exact HB.out | apply below_alloc | apply pw_below_drewN | apply below_drew1 | refine below_set ?_ GE979.out) | exact HB.out)) hb); clear HO0_6; clear BK979; clear HB; have HO0_6 := n0_; have BK979 := n1_; have HB := n2_; clear n0_ n1_ n2_; (try clear hb); (try clear hb2); (try clear hk); (try clear hi)))
  go_ret
  exact ⟨by first | rfl | (simp [errW_none, errW_some] <;> rfl) | (simp [*, errW_none, errW_some] <;> rfl), by repeat (first | (with_reducible first | exact HB.out | apply below_alloc | apply pw_below_drewN | apply below_drew1 | refine below_set ?_ GE979.out) | exact HB.out)⟩

end Go.Proofs.Ytfdmfgaiblfbhaa.P
namespace Go.Proofs.Ytfdmfgaiblfbhaa.P
open Go.RowKit Go.Proofs.YtfdmfgaiblfbhaaW.PrintWords Go.Proofs.YtfdmfgaiblfbhaaW.PrintLast Go.Proofs.YtfdmfgaiblfbhaaW.PrintMore
attribute [local go_sem] max2_int min2_int max_two min_two max_three min_three max_four min_four   -- for this text's walks alone
set_option linter.unusedVariables false
set_option linter.unusedSimpArgs false

/-! ### sashref05_May: function 38 -/
mutual
def sashref05_May.l0 : Nat → List (S26) → Int → Int → Int → Int → Int → Int → Int → Int → List (S26) → Option (Bool)
 | 0, _, _, _, _, _, _, _, _, _, _ => none
 | k + 1, x3, x14, x15, x175000, x175001, x175002, x175003, x175004, x175005, x175006 => if x15 < x14 then (if 0 ≤ x15 then (if x15 < (x3.length : Int) then ((sashref04_May.f ((rd_T26 x3 x15).f1.f0) ((rd_T26 x3 x15).f1.f1) ((rd_T26 x3 x15).f1.f2) ((rd_T26 x3 x15).f1.f3)).bind fun t179 => (if t179 = true then (if ((rd_T26 x3 x15).f0) < 1 then (sashref05_May.j1 k x3 x15 x14 x15 true x175000 x175001 x175002 x175003 x175004 x175005 x175006) else (sashref05_May.j1 k x3 x15 x14 x15 (decide (((rd_T26 x3 x15).f0) > 3)) x175000 x175001 x175002 x175003 x175004 x175005 x175006)) else (sashref05_May.j1 k x3 x15 x14 x15 true x175000 x175001 x175002 x175003 x175004 x175005 x175006))) else (none)) else (none)) else ((sashref05_Leaves.f k x175000 x175001 x175002 x175003 x175004 x175005 x175006).bind fun t192 => (sashref05_May.l1 k t192 (t192.length : Int) 0))
def sashref05_May.j1 : Nat → List (S26) → Int → Int → Int → Bool → Int → Int → Int → Int → Int → Int → List (S26) → Option (Bool)
 | 0, _, _, _, _, _, _, _, _, _, _, _, _ => none
 | k + 1, x3, x4, x14, x15, x40, x175000, x175001, x175002, x175003, x175004, x175005, x175006 => if x40 = true then (some false) else (if 0 ≤ x4 then (if x4 < (x3.length : Int) then (if ((rd_T26 x3 x4).f0) = 1 then (if (((rd_T26 x3 x4).f3).length : Int) > 0 then (some false) else (if ((rd_T26 x3 x4).f2) < 0 then (some false) else (if ((rd_T26 x3 x4).f2) > 2147483647 then (some false) else (if ((rd_T26 x3 x4).f0) > 1 then (if (((rd_T26 x3 x4).f3).length : Int) < 2 then (some false) else (if ((rd_T26 x3 x4).f2) = 0 then (sashref05_May.l0 k x3 x14 (wrap64 (x15 + 1)) x175000 x175001 x175002 x175003 x175004 x175005 x175006) else (some false))) else (sashref05_May.l0 k x3 x14 (wrap64 (x15 + 1)) x175000 x175001 x175002 x175003 x175004 x175005 x175006))))) else (if ((rd_T26 x3 x4).f0) > 1 then (if (((rd_T26 x3 x4).f3).length : Int) < 2 then (some false) else (if ((rd_T26 x3 x4).f2) = 0 then (sashref05_May.l0 k x3 x14 (wrap64 (x15 + 1)) x175000 x175001 x175002 x175003 x175004 x175005 x175006) else (some false))) else (sashref05_May.l0 k x3 x14 (wrap64 (x15 + 1)) x175000 x175001 x175002 x175003 x175004 x175005 x175006))) else (none)) else (none))
def sashref05_May.l1 : Nat → List (S26) → Int → Int → Option (Bool)
 | 0, _, _, _ => none
 | k + 1, x5, x101, x102 => if x102 < x101 then (sashref05_May.l2 k x5 x102 0 x101 x102) else (some true)
def sashref05_May.l2 : Nat → List (S26) → Int → Int → Int → Int → Option (Bool)
 | 0, _, _, _, _, _ => none
 | k + 1, x5, x6, x7, x101, x102 => if x7 < x6 then (if 0 ≤ x6 then (if x6 < (x5.length : Int) then (if 0 ≤ x7 then (if x7 < (x5.length : Int) then (if ((rd_T26 x5 x6).f2) = ((rd_T26 x5 x7).f2) then (some false) else (sashref05_May.l2 k x5 x6 (wrap64 (x7 + 1)) x101 x102)) else (none)) else (none)) else (none)) else (none)) else (sashref05_May.l1 k x5 x101 (wrap64 (x102 + 1)))
end
def sashref05_May.f (k : Nat) (a0_0 : Int) (a0_1 : Int) (a0_2 : Int) (a0_3 : Int) (a0_4 : Int) (a0_5 : Int) (l0_6 : List (S26)) : Option (Bool) := (sashref05_All.f k a0_0 a0_1 a0_2 a0_3 a0_4 a0_5 l0_6).bind fun t175 => (if (t175.length : Int) > 20000 then (some false) else (sashref05_May.l0 k t175 (t175.length : Int) 0 a0_0 a0_1 a0_2 a0_3 a0_4 a0_5 l0_6))
theorem sashref05_May.mono_l : ∀ k, (∀ y0 y1 y2 y3 y4 y5 y6 y7 y8 y9, LeO (sashref05_May.l0 k y0 y1 y2 y3 y4 y5 y6 y7 y8 y9) (sashref05_May.l0 (k + 1) y0 y1 y2 y3 y4 y5 y6 y7 y8 y9)) ∧ (∀ y0 y1 y2 y3 y4 y5 y6 y7 y8 y9 y10 y11, LeO (sashref05_May.j1 k y0 y1 y2 y3 y4 y5 y6 y7 y8 y9 y10 y11) (sashref05_May.j1 (k + 1) y0 y1 y2 y3 y4 y5 y6 y7 y8 y9 y10 y11)) ∧ (∀ y0 y1 y2, LeO (sashref05_May.l1 k y0 y1 y2) (sashref05_May.l1 (k + 1) y0 y1 y2)) ∧ (∀ y0 y1 y2 y3 y4, LeO (sashref05_May.l2 k y0 y1 y2 y3 y4) (sashref05_May.l2 (k + 1) y0 y1 y2 y3 y4))
 | 0 => ⟨fun _ _ _ _ _ _ _ _ _ _ r h => by simp [sashref05_May.l0] at h, fun _ _ _ _ _ _ _ _ _ _ _ _ r h => by simp [sashref05_May.j1] at h, fun _ _ _ r h => by simp [sashref05_May.l1] at h, fun _ _ _ _ _ r h => by simp [sashref05_May.l2] at h⟩
 | k + 1 => by
  obtain ⟨ih0, ih1, ih2, ih3⟩ := sashref05_May.mono_l k
  refine ⟨?_, ?_, ?_, ?_⟩
  ·intro y0 y1 y2 y3 y4 y5 y6 y7 y8 y9
   unfold sashref05_May.l0
   repeat' first
   | (with_reducible exact ih0 _ _ _ _ _ _ _ _ _ _)
   | (with_reducible exact ih1 _ _ _ _ _ _ _ _ _ _ _ _)
   | (with_reducible exact ih2 _ _ _)
   | (with_reducible exact ih3 _ _ _ _ _)
   | (with_reducible exact sashref05_All.mono _ _ _ _ _ _ _ _)
   | (with_reducible exact sashref05_Leaves.mono _ _ _ _ _ _ _ _)
   | (with_reducible exact LeO.refl _)
   | (with_reducible exact LeO.none _)
   | (with_reducible refine LeO.ite ?_ ?_)
   | (with_reducible refine LeO.bind ?_ (fun _ => ?_))
   | exact ih0 _ _ _ _ _ _ _ _ _ _
   | exact ih1 _ _ _ _ _ _ _ _ _ _ _ _
   | exact ih2 _ _ _
   | exact ih3 _ _ _ _ _
   | exact sashref05_All.mono _ _ _ _ _ _ _ _
   | exact sashref05_Leaves.mono _ _ _ _ _ _ _ _
   | exact LeO.none _
   | refine LeO.ite ?_ ?_
   | refine LeO.bind ?_ (fun _ => ?_)
  ·intro y0 y1 y2 y3 y4 y5 y6 y7 y8 y9 y10 y11
   unfold sashref05_May.j1
   repeat' first
   | (with_reducible exact ih0 _ _ _ _ _ _ _ _ _ _)
   | (with_reducible exact ih1 _ _ _ _ _ _ _ _ _ _ _ _)
   | (with_reducible exact ih2 _ _ _)
   | (with_reducible exact ih3 _ _ _ _ _)
   | (with_reducible exact sashref05_All.mono _ _ _ _ _ _ _ _)
   | (with_reducible exact sashref05_Leaves.mono _ _ _ _ _ _ _ _)
   | (with_reducible exact LeO.refl _)
   | (with_reducible exact LeO.none _)
   | (with_reducible refine LeO.ite ?_ ?_)
   | (with_reducible refine LeO.bind ?_ (fun _ => ?_))
   | exact ih0 _ _ _ _ _ _ _ _ _ _
   | exact ih1 _ _ _ _ _ _ _ _ _ _ _ _
   | exact ih2 _ _ _
   | exact ih3 _ _ _ _ _
   | exact sashref05_All.mono _ _ _ _ _ _ _ _
   | exact sashref05_Leaves.mono _ _ _ _ _ _ _ _
   | exact LeO.none _
   | refine LeO.ite ?_ ?_
   | refine LeO.bind ?_ (fun _ => ?_)
  ·intro y0 y1 y2
   unfold sashref05_May.l1
   repeat' first
   | (with_reducible exact ih0 _ _ _ _ _ _ _ _ _ _)
   | (with_reducible exact ih1 _ _ _ _ _ _ _ _ _ _ _ _)
   | (with_reducible exact ih2 _ _ _)
   | (with_reducible exact ih3 _ _ _ _ _)
   | (with_reducible exact sashref05_All.mono _ _ _ _ _ _ _ _)
   | (with_reducible exact sashref05_Leaves.mono _ _ _ _ _ _ _ _)
   | (with_reducible exact LeO.refl _)
   | (with_reducible exact LeO.none _)
   | (with_reducible refine LeO.ite ?_ ?_)
   | (with_reducible refine LeO.bind ?_ (fun _ => ?_))
   | exact ih0 _ _ _ _ _ _ _ _ _ _
   | exact ih1 _ _ _ _ _ _ _ _ _ _ _ _
   | exact ih2 _ _ _
   | exact ih3 _ _ _ _ _
   | exact sashref05_All.mono _ _ _ _ _ _ _ _
   | exact sashref05_Leaves.mono _ _ _ _ _ _ _ _
   | exact LeO.none _
   | refine LeO.ite ?_ ?_
   | refine LeO.bind ?_ (fun _ => ?_)
  ·intro y0 y1 y2 y3 y4
   unfold sashref05_May.l2
   repeat' first
   | (with_reducible exact ih0 _ _ _ _ _ _ _ _ _ _)
   | (with_reducible exact ih1 _ _ _ _ _ _ _ _ _ _ _ _)
   | (with_reducible exact ih2 _ _ _)
   | (with_reducible exact ih3 _ _ _ _ _)
   | (with_reducible exact sashref05_All.mono _ _ _ _ _ _ _ _)
   | (with_reducible exact sashref05_Leaves.mono _ _ _ _ _ _ _ _)
   | (with_reducible exact LeO.refl _)
   | (with_reducible exact LeO.none _)
   | (with_reducible refine LeO.ite ?_ ?_)
   | (with_reducible refine LeO.bind ?_ (fun _ => ?_))
   | exact ih0 _ _ _ _ _ _ _ _ _ _
   | exact ih1 _ _ _ _ _ _ _ _ _ _ _ _
   | exact ih2 _ _ _
   | exact ih3 _ _ _ _ _
   | exact sashref05_All.mono _ _ _ _ _ _ _ _
   | exact sashref05_Leaves.mono _ _ _ _ _ _ _ _
   | exact LeO.none _
   | refine LeO.ite ?_ ?_
   | refine LeO.bind ?_ (fun _ => ?_)
theorem sashref05_May.mono : ∀ a0 a1 a2 a3 a4 a5 a6 k, LeO (sashref05_May.f k a0 a1 a2 a3 a4 a5 a6) (sashref05_May.f (k + 1) a0 a1 a2 a3 a4 a5 a6) := by
 intro a0 a1 a2 a3 a4 a5 a6 k
 obtain ⟨ih0, ih1, ih2, ih3⟩ := sashref05_May.mono_l k
 unfold sashref05_May.f
 repeat' first
   | (with_reducible exact ih0 _ _ _ _ _ _ _ _ _ _)
   | (with_reducible exact ih1 _ _ _ _ _ _ _ _ _ _ _ _)
   | (with_reducible exact ih2 _ _ _)
   | (with_reducible exact ih3 _ _ _ _ _)
   | (with_reducible exact sashref05_All.mono _ _ _ _ _ _ _ _)
   | (with_reducible exact sashref05_Leaves.mono _ _ _ _ _ _ _ _)
   | (with_reducible exact LeO.refl _)
   | (with_reducible exact LeO.none _)
   | (with_reducible refine LeO.ite ?_ ?_)
   | (with_reducible refine LeO.bind ?_ (fun _ => ?_))
   | exact ih0 _ _ _ _ _ _ _ _ _ _
   | exact ih1 _ _ _ _ _ _ _ _ _ _ _ _
   | exact ih2 _ _ _
   | exact ih3 _ _ _ _ _
   | exact sashref05_All.mono _ _ _ _ _ _ _ _
   | exact sashref05_Leaves.mono _ _ _ _ _ _ _ _
   | exact LeO.none _
   | refine LeO.ite ?_ ?_
   | refine LeO.bind ?_ (fun _ => ?_)
end Go.Proofs.Ytfdmfgaiblfbhaa.P
/- May a tree be, by the reference: plain data. -/
namespace Go.Proofs.Ytfdmfgaiblfbhaa.P
open Go.RowKit Go.Proofs.YtfdmfgaiblfbhaaW.PrintWords Go.Proofs.YtfdmfgaiblfbhaaW.PrintLast Go.Proofs.YtfdmfgaiblfbhaaW.PrintMore

theorem may_ev (c : S26) (h : sz c ≤ 1048576) : Ev (fun k => sashref05_May.f k c.f0 c.f1.f0 c.f1.f1 c.f1.f2 c.f1.f3 c.f2 c.f3) (mayC c) := by
  unfold sashref05_May.f
  refine Ev.bind (all_cells _ c h (Nat.le_refl _)) ?_
  by_cases h2 : ((allC c).length : Int) > 20000
  · refine ev_pos h2 ?_
    have : mayC c = false := by
      unfold mayC sz
      rw [decide_eq_false (by omega), Bool.false_and]
    rw [this]
    exact Ev.now _
  refine ev_neg h2 ?_
  have hm : mayC c = ((allC c).all okC && distinctC (leavesC c)) := by
    unfold mayC sz
    rw [decide_eq_true (by omega), Bool.true_and]
  have hlv : (leavesC c).length ≤ 1048576 := by have := leaves_len c; omega
  -- the leaves' numbers
  have inner : ∀ (pre : List S26) (x : S26) (rest : List S26), pre ++ x :: rest = leavesC c → ∀ b : Bool, (apartTo pre x = true → Ev (fun k => sashref05_May.l1 k (leavesC c) ((leavesC c).length : Int) ((pre ++ [x]).length : Int)) b) → (apartTo pre x = false → b = false) →
      ∀ (q p : List S26), p ++ q = pre → apartTo p x = true → Ev (fun k => sashref05_May.l2 k (leavesC c) (pre.length : Int) (p.length : Int) ((leavesC c).length : Int) (pre.length : Int)) b := by
    intro pre x rest hp b hb hf q
    have hl : (pre.length : Int) < ((leavesC c).length : Int) := by rw [← hp, List.length_append, List.length_cons]; omega
    have hr : rd_T26 (leavesC c) (pre.length : Int) = x := by rw [← hp]; exact rd26_in pre x rest
    have hu : wrap64 ((pre.length : Int) + 1) = ((pre ++ [x]).length : Int) := up_in pre x rest (by rw [hp]; omega)
    induction q with
    | nil =>
      intro p hq ha
      rw [List.append_nil] at hq
      subst hq
      refine Ev.step (fun k => ?_) (hb ha)
      simp only [sashref05_May.l2]
      rw [if_neg (by omega), hu]
    | cons y ys ihq =>
      intro p hq ha
      have hpl : (p.length : Int) < (pre.length : Int) := by rw [← hq, List.length_append, List.length_cons]; omega
      have hpr : rd_T26 (leavesC c) (p.length : Int) = y := by rw [← hp, ← hq, List.append_assoc, List.cons_append]; exact rd26_in p y _
      have hpu : wrap64 ((p.length : Int) + 1) = ((p ++ [y]).length : Int) := up_in p y ys (by rw [hq]; omega)
      by_cases he : x.f2 = y.f2
      · have hbf : b = false := hf (by
          unfold apartTo
          rw [← hq, List.all_append, List.all_cons, decide_eq_false (by simpa using he), Bool.false_and, Bool.and_false])
        rw [hbf]
        refine Ev.step (f := fun _ => some false) (fun k => ?_) (Ev.now _)
        simp only [sashref05_May.l2]
        rw [if_pos hpl, if_pos (by omega), if_pos hl, if_pos (by omega), if_pos (by omega), hr, hpr, if_pos he]
      · have e2 := ihq (p ++ [y]) (by rw [List.append_assoc]; exact hq) (by
          unfold apartTo at ha ⊢
          rw [List.all_append, ha, Bool.true_and, List.all_cons, decide_eq_true (by simpa using he)]
          rfl)
        refine Ev.step (fun k => ?_) e2
        simp only [sashref05_May.l2]
        rw [if_pos hpl, if_pos (by omega), if_pos hl, if_pos (by omega), if_pos (by omega), hr, hpr, if_neg he, hpu]
  have outer : ∀ (rest pre : List S26), pre ++ rest = leavesC c → distinctC pre = true → Ev (fun k => sashref05_May.l1 k (leavesC c) ((leavesC c).length : Int) (pre.length : Int)) (distinctC (leavesC c)) := by
    intro rest
    induction rest with
    | nil =>
      intro pre hp hd
      rw [List.append_nil] at hp
      have hd2 : distinctC (leavesC c) = true := by rw [← hp]; exact hd
      rw [hd2]
      refine Ev.step (f := fun _ => some true) (fun k => ?_) (Ev.now _)
      simp only [sashref05_May.l1]
      rw [if_neg (by rw [← hp]; omega)]
    | cons x xs ihr =>
      intro pre hp hd
      have hl : (pre.length : Int) < ((leavesC c).length : Int) := by rw [← hp, List.length_append, List.length_cons]; omega
      have e := inner pre x xs hp (distinctC (leavesC c)) (fun ha => ihr (pre ++ [x]) (by rw [List.append_assoc]; exact hp) (by rw [distinctC_app, hd, ha]; rfl)) (fun ha => by
        have := distinctC_pre (pre ++ [x]) xs (by rw [distinctC_app, ha, Bool.and_false])
        rwa [List.append_assoc, List.singleton_append, hp] at this) pre [] rfl rfl
      refine Ev.step (fun k => ?_) e
      simp only [sashref05_May.l1]
      rw [if_pos hl]
      rfl
  -- the cells
  have cells : ∀ (rest pre : List S26), pre ++ rest = allC c → pre.all okC = true → Ev (fun k => sashref05_May.l0 k (allC c) ((allC c).length : Int) (pre.length : Int) c.f0 c.f1.f0 c.f1.f1 c.f1.f2 c.f1.f3 c.f2 c.f3) (mayC c) := by
    intro rest
    induction rest with
    | nil =>
      intro pre hp ha
      rw [List.append_nil] at hp
      rw [hm, ← hp, ha, Bool.true_and, hp]
      refine Ev.step (f := fun k => (sashref05_Leaves.f k c.f0 c.f1.f0 c.f1.f1 c.f1.f2 c.f1.f3 c.f2 c.f3).bind fun t => sashref05_May.l1 k t (t.length : Int) 0) (fun k => ?_) (Ev.bind (leaves_ev c h) (outer (leavesC c) [] rfl rfl))
      simp only [sashref05_May.l0]
      rw [if_neg (by omega)]
    | cons x xs ihr =>
      intro pre hp ha
      have hsz : (allC c).length ≤ 1048576 := h
      have hl : (pre.length : Int) < ((allC c).length : Int) := by rw [← hp, List.length_append, List.length_cons]; omega
      have hr : rd_T26 (allC c) (pre.length : Int) = x := by rw [← hp]; exact rd26_in pre x xs
      have hu : wrap64 ((pre.length : Int) + 1) = ((pre ++ [x]).length : Int) := up_in pre x xs (by rw [hp]; omega)
      have hno : okC x = false → mayC c = false := fun hx => by
        rw [hm, ← hp, List.all_append, List.all_cons, hx, Bool.false_and, Bool.and_false, Bool.false_and]
      have hyes : okC x = true → Ev (fun k => sashref05_May.l0 k (allC c) ((allC c).length : Int) ((pre ++ [x]).length : Int) c.f0 c.f1.f0 c.f1.f1 c.f1.f2 c.f1.f3 c.f2 c.f3) (mayC c) := fun hx =>
        ihr (pre ++ [x]) (by rw [List.append_assoc]; exact hp) (by rw [List.all_append, ha, Bool.true_and, List.all_cons, hx]; rfl)
      have j1t : okC x = false → Ev (fun k => sashref05_May.j1 k (allC c) (pre.length : Int) ((allC c).length : Int) (pre.length : Int) true c.f0 c.f1.f0 c.f1.f1 c.f1.f2 c.f1.f3 c.f2 c.f3) (mayC c) := fun hx => by
        rw [hno hx]
        refine Ev.step (f := fun _ => some false) (fun k => ?_) (Ev.now _)
        simp only [sashref05_May.j1]
        rw [if_pos trivial]
      refine Ev.step (f := fun k => (sashref04_May.f x.f1.f0 x.f1.f1 x.f1.f2 x.f1.f3).bind fun t179 => (if t179 = true then (if x.f0 < 1 then (sashref05_May.j1 k (allC c) (pre.length : Int) ((allC c).length : Int) (pre.length : Int) true c.f0 c.f1.f0 c.f1.f1 c.f1.f2 c.f1.f3 c.f2 c.f3) else (sashref05_May.j1 k (allC c) (pre.length : Int) ((allC c).length : Int) (pre.length : Int) (decide (x.f0 > 3)) c.f0 c.f1.f0 c.f1.f1 c.f1.f2 c.f1.f3 c.f2 c.f3)) else (sashref05_May.j1 k (allC c) (pre.length : Int) ((allC c).length : Int) (pre.length : Int) true c.f0 c.f1.f0 c.f1.f1 c.f1.f2 c.f1.f3 c.f2 c.f3))) (fun k => ?_) ?_
      · simp only [sashref05_May.l0]
        rw [if_pos hl, if_pos (by omega), if_pos hl, hr]
      · refine Ev.bind (a := mayR x.f1) (ev_some fun k => refmay_some _ _ _ _) ?_
        by_cases hmr : mayR x.f1 = true
        · refine ev_pos hmr ?_
          by_cases h1 : x.f0 < 1
          · refine ev_pos h1 (j1t ?_)
            unfold okC
            rw [decide_eq_false (p := 1 ≤ x.f0 ∧ x.f0 ≤ 3) (by omega)]
            simp
          · refine ev_neg h1 ?_
            by_cases h3 : x.f0 > 3
            · rw [decide_eq_true h3]
              refine j1t ?_
              unfold okC
              rw [decide_eq_false (p := 1 ≤ x.f0 ∧ x.f0 ≤ 3) (by omega)]
              simp
            · rw [decide_eq_false h3]
              have hk : okC x = (decide (x.f0 = 1 → x.f3.length = 0 ∧ 0 ≤ x.f2 ∧ x.f2 ≤ 2147483647) && decide (x.f0 > 1 → 2 ≤ x.f3.length ∧ x.f2 = 0)) := by
                unfold okC
                rw [hmr, decide_eq_true (p := 1 ≤ x.f0 ∧ x.f0 ≤ 3) (by omega), Bool.true_and, Bool.true_and]
              have go : ∀ {f : Nat → Option Bool}, Ev f (mayC c) → (∀ k, sashref05_May.j1 (k + 1) (allC c) (pre.length : Int) ((allC c).length : Int) (pre.length : Int) false c.f0 c.f1.f0 c.f1.f1 c.f1.f2 c.f1.f3 c.f2 c.f3 = f k) → Ev (fun k => sashref05_May.j1 k (allC c) (pre.length : Int) ((allC c).length : Int) (pre.length : Int) false c.f0 c.f1.f0 c.f1.f1 c.f1.f2 c.f1.f3 c.f2 c.f3) (mayC c) := fun he hs => Ev.step hs he
              have base : ∀ k, sashref05_May.j1 (k + 1) (allC c) (pre.length : Int) ((allC c).length : Int) (pre.length : Int) false c.f0 c.f1.f0 c.f1.f1 c.f1.f2 c.f1.f3 c.f2 c.f3 =
                  (if x.f0 = 1 then (if (x.f3.length : Int) > 0 then (some false) else (if x.f2 < 0 then (some false) else (if x.f2 > 2147483647 then (some false) else (if x.f0 > 1 then (if (x.f3.length : Int) < 2 then (some false) else (if x.f2 = 0 then (sashref05_May.l0 k (allC c) ((allC c).length : Int) ((pre ++ [x]).length : Int) c.f0 c.f1.f0 c.f1.f1 c.f1.f2 c.f1.f3 c.f2 c.f3) else (some false))) else (sashref05_May.l0 k (allC c) ((allC c).length : Int) ((pre ++ [x]).length : Int) c.f0 c.f1.f0 c.f1.f1 c.f1.f2 c.f1.f3 c.f2 c.f3))))) else (if x.f0 > 1 then (if (x.f3.length : Int) < 2 then (some false) else (if x.f2 = 0 then (sashref05_May.l0 k (allC c) ((allC c).length : Int) ((pre ++ [x]).length : Int) c.f0 c.f1.f0 c.f1.f1 c.f1.f2 c.f1.f3 c.f2 c.f3) else (some false))) else (sashref05_May.l0 k (allC c) ((allC c).length : Int) ((pre ++ [x]).length : Int) c.f0 c.f1.f0 c.f1.f1 c.f1.f2 c.f1.f3 c.f2 c.f3))) := by
                intro k
                simp only [sashref05_May.j1]
                rw [if_neg (by simp), if_pos (by omega), if_pos hl, hr, hu]
              have bad : okC x = false → Ev (fun _ : Nat => some false) (mayC c) := fun hx => by rw [hno hx]; exact Ev.now _
              by_cases g1 : x.f0 = 1
              · by_cases g2 : (x.f3.length : Int) > 0
                · exact go (bad (by rw [hk, decide_eq_false (by omega), Bool.false_and])) (fun k => by rw [base, if_pos g1, if_pos g2])
                · by_cases g3 : x.f2 < 0
                  · exact go (bad (by rw [hk, decide_eq_false (by omega), Bool.false_and])) (fun k => by rw [base, if_pos g1, if_neg g2, if_pos g3])
                  · by_cases g4 : x.f2 > 2147483647
                    · exact go (bad (by rw [hk, decide_eq_false (by omega), Bool.false_and])) (fun k => by rw [base, if_pos g1, if_neg g2, if_neg g3, if_pos g4])
                    · exact go (hyes (by rw [hk, decide_eq_true (by omega), decide_eq_true (by omega)]; rfl)) (fun k => by rw [base, if_pos g1, if_neg g2, if_neg g3, if_neg g4, if_neg (by omega)])
              · by_cases g2 : (x.f3.length : Int) < 2
                · exact go (bad (by rw [hk, decide_eq_false (p := x.f0 > 1 → 2 ≤ x.f3.length ∧ x.f2 = 0) (by omega), Bool.and_false])) (fun k => by rw [base, if_neg g1, if_pos (by omega), if_pos g2])
                · by_cases g3 : x.f2 = 0
                  · exact go (hyes (by rw [hk, decide_eq_true (by omega), decide_eq_true (by omega)]; rfl)) (fun k => by rw [base, if_neg g1, if_pos (by omega), if_neg g2, if_pos g3])
                  · exact go (bad (by rw [hk, decide_eq_false (p := x.f0 > 1 → 2 ≤ x.f3.length ∧ x.f2 = 0) (by omega), Bool.and_false])) (fun k => by rw [base, if_neg g1, if_pos (by omega), if_neg g2, if_neg g3])
        · refine ev_neg hmr (j1t ?_)
          unfold okC
          rw [Bool.eq_false_iff.2 hmr, Bool.false_and, Bool.false_and, Bool.false_and]
  exact cells (allC c) [] rfl rfl
end Go.Proofs.Ytfdmfgaiblfbhaa.P
namespace Go.Proofs.Ytfdmfgaiblfbhaa.P
open Go.RowKit Go.Proofs.YtfdmfgaiblfbhaaW.PrintWords Go.Proofs.YtfdmfgaiblfbhaaW.PrintLast Go.Proofs.YtfdmfgaiblfbhaaW.PrintMore
attribute [local go_sem] max2_int min2_int max_two min_two max_three min_three max_four min_four   -- for this text's walks alone
set_option linter.unusedVariables false
set_option linter.unusedSimpArgs false

/-! ### sashref06_Sizes: function 194 -/
def sashref06_Sizes.l0 : Nat → List Int → Int → Int → Int → Int → Int → Int → Int → Int → List (S26) → Option (List Int)
 | 0, _, _, _, _, _, _, _, _, _, _ => none
 | k + 1, x3, x8, x9, x909000, x909001, x909002, x909003, x909004, x909005, x909006 => if x9 < x8 then (if x909000 = 2 then (if 0 ≤ x9 then (if x9 < (x909006.length : Int) then (if x3.length < 17592186044416 then (sashref06_Sizes.l0 k (x3 ++ [(rd_T26 x909006 x9).f1.f2]) x8 (wrap64 (x9 + 1)) x909000 x909001 x909002 x909003 x909004 x909005 x909006) else (none)) else (none)) else (none)) else (if 0 ≤ x9 then (if x9 < (x909006.length : Int) then (if x3.length < 17592186044416 then (sashref06_Sizes.l0 k (x3 ++ [(rd_T26 x909006 x9).f1.f3]) x8 (wrap64 (x9 + 1)) x909000 x909001 x909002 x909003 x909004 x909005 x909006) else (none)) else (none)) else (none))) else (some x3)
def sashref06_Sizes.f (k : Nat) (a0_0 : Int) (a0_1 : Int) (a0_2 : Int) (a0_3 : Int) (a0_4 : Int) (a0_5 : Int) (l0_6 : List (S26)) : Option (List Int) := sashref06_Sizes.l0 k (([] : List Int)) (l0_6.length : Int) 0 a0_0 a0_1 a0_2 a0_3 a0_4 a0_5 l0_6
theorem sashref06_Sizes.mono_l : ∀ k, (∀ y0 y1 y2 y3 y4 y5 y6 y7 y8 y9, LeO (sashref06_Sizes.l0 k y0 y1 y2 y3 y4 y5 y6 y7 y8 y9) (sashref06_Sizes.l0 (k + 1) y0 y1 y2 y3 y4 y5 y6 y7 y8 y9))
 | 0 => fun _ _ _ _ _ _ _ _ _ _ r h => by simp [sashref06_Sizes.l0] at h
 | k + 1 => by
  have ih0 := sashref06_Sizes.mono_l k
  ·intro y0 y1 y2 y3 y4 y5 y6 y7 y8 y9
   unfold sashref06_Sizes.l0
   repeat' first
   | (with_reducible exact ih0 _ _ _ _ _ _ _ _ _ _)
   | (with_reducible exact LeO.refl _)
   | (with_reducible exact LeO.none _)
   | (with_reducible refine LeO.ite ?_ ?_)
   | (with_reducible refine LeO.bind ?_ (fun _ => ?_))
   | exact ih0 _ _ _ _ _ _ _ _ _ _
   | exact LeO.none _
   | refine LeO.ite ?_ ?_
   | refine LeO.bind ?_ (fun _ => ?_)
theorem sashref06_Sizes.mono : ∀ a0 a1 a2 a3 a4 a5 a6 k, LeO (sashref06_Sizes.f k a0 a1 a2 a3 a4 a5 a6) (sashref06_Sizes.f (k + 1) a0 a1 a2 a3 a4 a5 a6) := by
 intro a0 a1 a2 a3 a4 a5 a6 k
 have ih0 := sashref06_Sizes.mono_l k
 unfold sashref06_Sizes.f
 repeat' first
   | (with_reducible exact ih0 _ _ _ _ _ _ _ _ _ _)
   | (with_reducible exact LeO.refl _)
   | (with_reducible exact LeO.none _)
   | (with_reducible refine LeO.ite ?_ ?_)
   | (with_reducible refine LeO.bind ?_ (fun _ => ?_))
   | exact ih0 _ _ _ _ _ _ _ _ _ _
   | exact LeO.none _
   | refine LeO.ite ?_ ?_
   | refine LeO.bind ?_ (fun _ => ?_)
end Go.Proofs.Ytfdmfgaiblfbhaa.P
namespace Go.Proofs.Ytfdmfgaiblfbhaa.P
open Go.RowKit Go.Proofs.YtfdmfgaiblfbhaaW.PrintWords Go.Proofs.YtfdmfgaiblfbhaaW.PrintLast Go.Proofs.YtfdmfgaiblfbhaaW.PrintMore
attribute [local go_sem] max2_int min2_int max_two min_two max_three min_three max_four min_four   -- for this text's walks alone
set_option linter.unusedVariables false
set_option linter.unusedSimpArgs false

attribute [local go_sem high] eqA23
/-! ### sashref06_one: function 178 -/
def sashref06_one.l0 : Nat → List (S23) → List (S23) → Int → Int → Int → Int → Int → Int → Int → Int → List (S26) → Option ((List (S23)) × Bool)
 | 0, _, _, _, _, _, _, _, _, _, _, _ => none
 | k + 1, x4, x5, x28, x29, x921000, x921001, x921002, x921003, x921004, x921005, x921006 => if x29 < x28 then (if 0 ≤ x29 then (if x29 < (x4.length : Int) then (if x29 < (x921006.length : Int) then (if (!(((rd_T23 x4 x29).f0) == ((rd_T26 x921006 x29).f1.f0)) || (!(((rd_T23 x4 x29).f1) == ((rd_T26 x921006 x29).f1.f1)) || (!(((rd_T23 x4 x29).f2) == ((rd_T26 x921006 x29).f1.f2)) || (!(((rd_T23 x4 x29).f3) == ((rd_T26 x921006 x29).f1.f3)))))) = true then (some ((([] : List (S23))), false)) else (sashref06_one.l0 k x4 x5 x28 (wrap64 (x29 + 1)) x921000 x921001 x921002 x921003 x921004 x921005 x921006)) else (none)) else (none)) else (none)) else (some (x5, true))
def sashref06_one.f (k : Nat) (a0_0 : Int) (a0_1 : Int) (a0_2 : Int) (a0_3 : Int) (a0_4 : Int) (a0_5 : Int) (l0_6 : List (S26)) : Option ((List (S23)) × Bool) := if a0_0 = 1 then (some ((([] : List (S23))), true)) else ((sashref06_Sizes.f k a0_0 a0_1 a0_2 a0_3 a0_4 a0_5 l0_6).bind fun t924 => ((sashref04_Cut.f k a0_1 a0_2 a0_3 a0_4 ((a0_0 - 1) % 256) t924).bind fun bt927 => (if bt927.2.2 = true then (sashref06_one.l0 k bt927.1 bt927.2.1 (bt927.1.length : Int) 0 a0_0 a0_1 a0_2 a0_3 a0_4 a0_5 l0_6) else (some (bt927.2.1, false)))))
theorem sashref06_one.mono_l : ∀ k, (∀ y0 y1 y2 y3 y4 y5 y6 y7 y8 y9 y10, LeO (sashref06_one.l0 k y0 y1 y2 y3 y4 y5 y6 y7 y8 y9 y10) (sashref06_one.l0 (k + 1) y0 y1 y2 y3 y4 y5 y6 y7 y8 y9 y10))
 | 0 => fun _ _ _ _ _ _ _ _ _ _ _ r h => by simp [sashref06_one.l0] at h
 | k + 1 => by
  have ih0 := sashref06_one.mono_l k
  ·intro y0 y1 y2 y3 y4 y5 y6 y7 y8 y9 y10
   unfold sashref06_one.l0
   repeat' first
   | (with_reducible exact ih0 _ _ _ _ _ _ _ _ _ _ _)
   | (with_reducible exact sashref04_Cut.mono _ _ _ _ _ _ _)
   | (with_reducible exact sashref06_Sizes.mono _ _ _ _ _ _ _ _)
   | (with_reducible exact LeO.refl _)
   | (with_reducible exact LeO.none _)
   | (with_reducible refine LeO.ite ?_ ?_)
   | (with_reducible refine LeO.bind ?_ (fun _ => ?_))
   | exact ih0 _ _ _ _ _ _ _ _ _ _ _
   | exact sashref04_Cut.mono _ _ _ _ _ _ _
   | exact sashref06_Sizes.mono _ _ _ _ _ _ _ _
   | exact LeO.none _
   | refine LeO.ite ?_ ?_
   | refine LeO.bind ?_ (fun _ => ?_)
theorem sashref06_one.mono : ∀ a0 a1 a2 a3 a4 a5 a6 k, LeO (sashref06_one.f k a0 a1 a2 a3 a4 a5 a6) (sashref06_one.f (k + 1) a0 a1 a2 a3 a4 a5 a6) := by
 intro a0 a1 a2 a3 a4 a5 a6 k
 have ih0 := sashref06_one.mono_l k
 unfold sashref06_one.f
 repeat' first
   | (with_reducible exact ih0 _ _ _ _ _ _ _ _ _ _ _)
   | (with_reducible exact sashref04_Cut.mono _ _ _ _ _ _ _)
   | (with_reducible exact sashref06_Sizes.mono _ _ _ _ _ _ _ _)
   | (with_reducible exact LeO.refl _)
   | (with_reducible exact LeO.none _)
   | (with_reducible refine LeO.ite ?_ ?_)
   | (with_reducible refine LeO.bind ?_ (fun _ => ?_))
   | exact ih0 _ _ _ _ _ _ _ _ _ _ _
   | exact sashref04_Cut.mono _ _ _ _ _ _ _
   | exact sashref06_Sizes.mono _ _ _ _ _ _ _ _
   | exact LeO.none _
   | refine LeO.ite ?_ ?_
   | refine LeO.bind ?_ (fun _ => ?_)
def sashref06_one.T3 : Bool × List (List Nat × List Nat) := (true, [([], []), ([0], [0]), ([], []), ([2], [2]), ([3], [3]), ([], []), ([5], [5]), ([1, 4, 6, 6], [1, 4, 6]), ([7], [7]), ([8], [8]), ([8], [8]), ([8], [8]), ([9, 7, 0, 1, 2, 3, 4, 5, 6, 7, 8, 9], [9]), ([10, 12, 0, 1, 2, 3, 4, 5, 6, 7, 8, 9, 10, 12], [10]), ([11, 13, 0, 1, 2, 3, 4, 5, 6, 7, 8, 9, 10, 11, 12, 13], [11])])
def sashref06_one.B3 : List Nat := [0, 1, 0, 4, 12, 0, 32, 127, 255, 511, 511, 511, 1023, 6143, 16383]
def sashref06_one.T9 : Bool × List (List Nat × List Nat) := (true, [([], []), ([], []), ([0, 1], [0, 1]), ([2], [2]), ([], []), ([4], [4]), ([], []), ([5, 6], [5, 6]), ([7], [7]), ([8], [8]), ([3, 9], [3, 9])])
def sashref06_one.B9 : List Nat := [0, 0, 3, 7, 0, 16, 0, 112, 240, 496, 1023]
end Go.Proofs.Ytfdmfgaiblfbhaa.P
namespace Go.Proofs.Ytfdmfgaiblfbhaa.P
open Go.RowKit Go.Proofs.YtfdmfgaiblfbhaaW.PrintWords Go.Proofs.YtfdmfgaiblfbhaaW.PrintLast Go.Proofs.YtfdmfgaiblfbhaaW.PrintMore
attribute [local go_sem] max2_int min2_int max_two min_two max_three min_three max_four min_four   -- for this text's walks alone
set_option linter.unusedVariables false
set_option linter.unusedSimpArgs false

/-! ### sashref06_Check: function 146 -/
def sashref06_Check.l0 : Nat → List (S23) → List (S26) → List (S23) → Int → Int → Option ((List (S23)) × Int × Int)
 | 0, _, _, _, _, _ => none
 | k + 1, x5, x6, x7, x20, x21 => if x21 < x20 then (if 0 ≤ x21 then (if x21 < (x6.length : Int) then ((sashref06_one.f k ((rd_T26 x6 x21).f0) ((rd_T26 x6 x21).f1.f0) ((rd_T26 x6 x21).f1.f1) ((rd_T26 x6 x21).f1.f2) ((rd_T26 x6 x21).f1.f3) ((rd_T26 x6 x21).f2) ((rd_T26 x6 x21).f3)).bind fun bt951 => (if bt951.2 = true then (if x7.length + bt951.1.length < 4398046511104 then (sashref06_Check.l0 k x5 x6 (x7 ++ bt951.1) x20 (wrap64 (x21 + 1))) else (none)) else (some (x5, 5, x21)))) else (none)) else (none)) else (some (x7, 0, 0))
def sashref06_Check.f (k : Nat) (a0_0 : Int) (a0_1 : Int) (a0_2 : Int) (a0_3 : Int) (a0_4 : Int) (a0_5 : Int) (l0_6 : List (S26)) : Option ((List (S23)) × Int × Int) := (some (([] : List (S23)) : List (S23))).bind fun y940 => ((sashref05_May.f k a0_0 a0_1 a0_2 a0_3 a0_4 a0_5 l0_6).bind fun t943 => (if t943 = true then ((sashref05_All.f k a0_0 a0_1 a0_2 a0_3 a0_4 a0_5 l0_6).bind fun t944 => (sashref06_Check.l0 k y940 t944 (([] : List (S23))) (t944.length : Int) 0)) else (some (y940, 1, 0))))
theorem sashref06_Check.mono_l : ∀ k, (∀ y0 y1 y2 y3 y4, LeO (sashref06_Check.l0 k y0 y1 y2 y3 y4) (sashref06_Check.l0 (k + 1) y0 y1 y2 y3 y4))
 | 0 => fun _ _ _ _ _ r h => by simp [sashref06_Check.l0] at h
 | k + 1 => by
  have ih0 := sashref06_Check.mono_l k
  ·intro y0 y1 y2 y3 y4
   unfold sashref06_Check.l0
   repeat' first
   | (with_reducible exact ih0 _ _ _ _ _)
   | (with_reducible exact sashref05_All.mono _ _ _ _ _ _ _ _)
   | (with_reducible exact sashref05_May.mono _ _ _ _ _ _ _ _)
   | (with_reducible exact sashref06_one.mono _ _ _ _ _ _ _ _)
   | (with_reducible exact LeO.refl _)
   | (with_reducible exact LeO.none _)
   | (with_reducible refine LeO.ite ?_ ?_)
   | (with_reducible refine LeO.bind ?_ (fun _ => ?_))
   | exact ih0 _ _ _ _ _
   | exact sashref05_All.mono _ _ _ _ _ _ _ _
   | exact sashref05_May.mono _ _ _ _ _ _ _ _
   | exact sashref06_one.mono _ _ _ _ _ _ _ _
   | exact LeO.none _
   | refine LeO.ite ?_ ?_
   | refine LeO.bind ?_ (fun _ => ?_)
theorem sashref06_Check.mono : ∀ a0 a1 a2 a3 a4 a5 a6 k, LeO (sashref06_Check.f k a0 a1 a2 a3 a4 a5 a6) (sashref06_Check.f (k + 1) a0 a1 a2 a3 a4 a5 a6) := by
 intro a0 a1 a2 a3 a4 a5 a6 k
 have ih0 := sashref06_Check.mono_l k
 unfold sashref06_Check.f
 repeat' first
   | (with_reducible exact ih0 _ _ _ _ _)
   | (with_reducible exact sashref05_All.mono _ _ _ _ _ _ _ _)
   | (with_reducible exact sashref05_May.mono _ _ _ _ _ _ _ _)
   | (with_reducible exact sashref06_one.mono _ _ _ _ _ _ _ _)
   | (with_reducible exact LeO.refl _)
   | (with_reducible exact LeO.none _)
   | (with_reducible refine LeO.ite ?_ ?_)
   | (with_reducible refine LeO.bind ?_ (fun _ => ?_))
   | exact ih0 _ _ _ _ _
   | exact sashref05_All.mono _ _ _ _ _ _ _ _
   | exact sashref05_May.mono _ _ _ _ _ _ _ _
   | exact sashref06_one.mono _ _ _ _ _ _ _ _
   | exact LeO.none _
   | refine LeO.ite ?_ ?_
   | refine LeO.bind ?_ (fun _ => ?_)
end Go.Proofs.Ytfdmfgaiblfbhaa.P
namespace Go.Proofs.Ytfdmfgaiblfbhaa.P
open Go.RowKit Go.Proofs.YtfdmfgaiblfbhaaW.PrintWords Go.Proofs.YtfdmfgaiblfbhaaW.PrintLast Go.Proofs.YtfdmfgaiblfbhaaW.PrintMore
attribute [local go_sem] max2_int min2_int max_two min_two max_three min_three max_four min_four   -- for this text's walks alone
set_option linter.unusedVariables false
set_option linter.unusedSimpArgs false

/-! ### sashref06_Tiles: function 84 -/
def sashref06_Tiles.f (k : Nat) (a0_0 : Int) (a0_1 : Int) (a0_2 : Int) (a0_3 : Int) (a0_4 : Int) (a0_5 : Int) (l0_6 : List (S26)) : Option (Bool) := (sashref06_Check.f k a0_0 a0_1 a0_2 a0_3 a0_4 a0_5 l0_6).bind fun bt959 => (some (bt959.2.1 == 0))
theorem sashref06_Tiles.mono : ∀ a0 a1 a2 a3 a4 a5 a6 k, LeO (sashref06_Tiles.f k a0 a1 a2 a3 a4 a5 a6) (sashref06_Tiles.f (k + 1) a0 a1 a2 a3 a4 a5 a6) := by
 intro a0 a1 a2 a3 a4 a5 a6 k
 unfold sashref06_Tiles.f
 repeat' first
   | (with_reducible exact sashref06_Check.mono _ _ _ _ _ _ _ _)
   | (with_reducible exact LeO.refl _)
   | (with_reducible exact LeO.none _)
   | (with_reducible refine LeO.ite ?_ ?_)
   | (with_reducible refine LeO.bind ?_ (fun _ => ?_))
   | exact sashref06_Check.mono _ _ _ _ _ _ _ _
   | exact LeO.none _
   | refine LeO.ite ?_ ?_
   | refine LeO.bind ?_ (fun _ => ?_)
end Go.Proofs.Ytfdmfgaiblfbhaa.P
/- Whether a tree tiles, by the reference: plain data. -/
namespace Go.Proofs.Ytfdmfgaiblfbhaa.P
open Go.RowKit Go.Proofs.YtfdmfgaiblfbhaaW.PrintWords Go.Proofs.YtfdmfgaiblfbhaaW.PrintLast Go.Proofs.YtfdmfgaiblfbhaaW.PrintMore
theorem all_sz : ∀ (N : Nat), (∀ c : S26, sz c ≤ N → ∀ d, d ∈ allC c → sz d ≤ sz c) ∧ (∀ l : List S26, szL l ≤ N → ∀ d, d ∈ allL l → sz d ≤ szL l) := by
  intro N
  induction N with
  | zero =>
    refine ⟨fun c h => ?_, fun l h => ?_⟩
    · rw [sz_eq] at h; omega
    · cases l with
      | nil => intro d hd; rw [allL_nil] at hd; cases hd
      | cons z zs => rw [szL_cons, sz_eq] at h; omega
  | succ N ih =>
    have hC : ∀ c : S26, sz c ≤ N + 1 → ∀ d, d ∈ allC c → sz d ≤ sz c := by
      intro c h d hd
      have hs := sz_eq c
      rw [allC_eq] at hd
      rcases List.mem_cons.1 hd with rfl | hd
      · exact Nat.le_refl _
      · have := ih.2 c.f3 (by omega) d hd
        omega
    refine ⟨hC, fun l => ?_⟩
    induction l with
    | nil => intro _ d hd; rw [allL_nil] at hd; cases hd
    | cons x xs ihl =>
      intro h d hd
      rw [szL_cons] at h ⊢
      rw [allL_cons] at hd
      rcases List.mem_append.1 hd with hd | hd
      · have := hC x (by omega) d hd
        omega
      · have := ihl (by omega) d hd
        omega
theorem cutP_len (ax X Y W H : Int) : ∀ (ns : List Int) (off : Int), (cutP ax X Y W H off ns).length = ns.length := by
  intro ns
  induction ns with
  | nil => intro off; rfl
  | cons n ns ih => intro off; simp [cutP, ih]
theorem sizes_ev (c : S26) (h : c.f3.length ≤ 1048576) : Ev (fun k => sashref06_Sizes.f k c.f0 c.f1.f0 c.f1.f1 c.f1.f2 c.f1.f3 c.f2 c.f3) (sizesC c) := by
  have key : ∀ (rest pre : List S26), pre ++ rest = c.f3 → Ev (fun k => sashref06_Sizes.l0 k (pre.map (szK c)) (c.f3.length : Int) (pre.length : Int) c.f0 c.f1.f0 c.f1.f1 c.f1.f2 c.f1.f3 c.f2 c.f3) (sizesC c) := by
    intro rest
    induction rest with
    | nil =>
      intro pre hp
      rw [List.append_nil] at hp
      subst hp
      refine Ev.step (f := fun _ => some (sizesC c)) (fun k => ?_) (Ev.now _)
      simp only [sashref06_Sizes.l0]
      rw [if_neg (by omega)]
      rfl
    | cons x xs ih =>
      intro pre hp
      have hl : (pre.length : Int) < (c.f3.length : Int) := by rw [← hp, List.length_append, List.length_cons]; omega
      have hr : rd_T26 c.f3 (pre.length : Int) = x := by rw [← hp]; exact rd26_in pre x xs
      have hu : wrap64 ((pre.length : Int) + 1) = ((pre ++ [x]).length : Int) := up_in pre x xs (by rw [hp]; omega)
      have e2 := ih (pre ++ [x]) (by rw [List.append_assoc]; exact hp)
      have hm : (pre ++ [x]).map (szK c) = pre.map (szK c) ++ [szK c x] := by simp
      rw [hm] at e2
      refine Ev.step (fun k => ?_) e2
      simp only [sashref06_Sizes.l0]
      rw [if_pos hl, hr, hu, List.length_map]
      by_cases h2 : c.f0 = 2
      · rw [if_pos h2, if_pos (by omega), if_pos hl, if_pos (by omega), show szK c x = x.f1.f2 from if_pos h2]
      · rw [if_neg h2, if_pos (by omega), if_pos hl, if_pos (by omega), show szK c x = x.f1.f3 from if_neg h2]
  unfold sashref06_Sizes.f
  exact key c.f3 [] rfl
theorem one_ev (c : S26) (h : c.f3.length ≤ 20000) : ∃ ls : List S23, ls.length ≤ c.f3.length ∧ Ev (fun k => sashref06_one.f k c.f0 c.f1.f0 c.f1.f1 c.f1.f2 c.f1.f3 c.f2 c.f3) (ls, oneB c) := by
  unfold oneB oneT
  by_cases h1 : c.f0 = 1
  · refine ⟨[], by simp, Ev.congr (f := fun _ => some ([], true)) (fun k => ?_) ?_⟩
    · unfold sashref06_one.f
      rw [if_pos h1]
    · rw [show (c.f0 == 1) = true from by simp [h1], Bool.true_or]
      exact Ev.now _
  · rw [show (c.f0 == 1) = false from by simp [h1], Bool.false_or]
    obtain ⟨⟨l1, l2⟩, hg, _, t2⟩ := cutT_spec c h
    have hax : (c.f0 - 1) % 256 = axC c.f0 := by unfold axC; omega
    generalize cutT c = t at l1 l2 hg t2
    have main : ∀ ls : List S23, ∀ b : Bool, Ev (fun k => if t.2.2 = true then (sashref06_one.l0 k t.1 t.2.1 (t.1.length : Int) 0 c.f0 c.f1.f0 c.f1.f1 c.f1.f2 c.f1.f3 c.f2 c.f3) else (some (t.2.1, false))) (ls, b) → Ev (fun k => sashref06_one.f k c.f0 c.f1.f0 c.f1.f1 c.f1.f2 c.f1.f3 c.f2 c.f3) (ls, b) := by
      intro ls b he
      refine Ev.congr (f := fun k => (sashref06_Sizes.f k c.f0 c.f1.f0 c.f1.f1 c.f1.f2 c.f1.f3 c.f2 c.f3).bind fun s => (sashref04_Cut.f k c.f1.f0 c.f1.f1 c.f1.f2 c.f1.f3 (axC c.f0) s).bind fun bt => (if bt.2.2 = true then (sashref06_one.l0 k bt.1 bt.2.1 (bt.1.length : Int) 0 c.f0 c.f1.f0 c.f1.f1 c.f1.f2 c.f1.f3 c.f2 c.f3) else (some (bt.2.1, false)))) (fun k => ?_) (Ev.bind (sizes_ev c (by omega)) (Ev.bind t2 he))
      unfold sashref06_one.f
      rw [if_neg h1, hax]
    cases ht : t.2.2 with
    | false =>
      rw [Bool.false_and]
      exact ⟨t.2.1, l2, main _ _ (ev_neg (by rw [ht]; simp) (Ev.now _))⟩
    | true =>
      obtain ⟨_, gp, _, _⟩ := hg ht
      have hlen : t.1.length = c.f3.length := by rw [gp, cutP_len]; simp [sizesC]
      rw [show (c.f3.length == t.1.length) = true from by simp [hlen], Bool.true_and, Bool.true_and]
      have key : ∀ (rest pre : List S23) (rb pb : List S26), pre ++ rest = t.1 → pb ++ rb = c.f3 → pre.length = pb.length → ∃ ls : List S23, ls.length ≤ c.f3.length ∧ Ev (fun k => sashref06_one.l0 k t.1 t.2.1 (t.1.length : Int) (pre.length : Int) c.f0 c.f1.f0 c.f1.f1 c.f1.f2 c.f1.f3 c.f2 c.f3) (ls, eqL (fun k r => rectB k.f1 r) rb rest) := by
        intro rest
        induction rest with
        | nil =>
          intro pre rb pb hp hb he
          rw [List.append_nil] at hp
          have hr : rb = [] := by
            apply List.eq_nil_of_length_eq_zero
            have h2 := congrArg List.length hb
            rw [List.length_append] at h2
            rw [← hp] at hlen
            omega
          subst hr
          refine ⟨t.2.1, l2, Ev.step (f := fun _ => some (t.2.1, true)) (fun k => ?_) (Ev.now _)⟩
          simp only [sashref06_one.l0]
          rw [if_neg (by rw [hp]; omega)]
        | cons r rs ih =>
          intro pre rb pb hp hb he
          have h4 : t.1.length = pre.length + (rs.length + 1) := by rw [← hp, List.length_append, List.length_cons]
          cases rb with
          | nil => rw [List.append_nil] at hb; rw [← hb] at hlen; omega
          | cons x xs =>
            have hl : (pre.length : Int) < (t.1.length : Int) := by omega
            have hr : rd_T26 c.f3 (pre.length : Int) = x := by rw [he, ← hb]; exact rd26_in pb x xs
            have hr2 : rd_T23 t.1 (pre.length : Int) = r := by rw [← hp]; simp [rd_T23, List.getD_eq_getElem?_getD]
            have hu : wrap64 ((pre.length : Int) + 1) = ((pre ++ [r]).length : Int) := up_in pre r rs (by rw [hp]; omega)
            have hq : (!(r.f0 == x.f1.f0) || (!(r.f1 == x.f1.f1) || (!(r.f2 == x.f1.f2) || (!(r.f3 == x.f1.f3))))) = !(rectB x.f1 r) := by
              unfold rectB
              rw [Bool.not_and, Bool.not_and, Bool.not_and, Bool.beq_comm (a := r.f0), Bool.beq_comm (a := r.f1), Bool.beq_comm (a := r.f2), Bool.beq_comm (a := r.f3)]
            simp only [eqL]
            cases hx : rectB x.f1 r with
            | false =>
              refine ⟨[], by simp, Ev.step (f := fun _ => some ([], false)) (fun k => ?_) (Ev.now _)⟩
              simp only [sashref06_one.l0]
              rw [if_pos hl, if_pos (by omega), if_pos hl, if_pos (by omega), hr, hr2, hq, hx, if_pos (by rfl)]
            | true =>
              obtain ⟨ls, a1, a2⟩ := ih (pre ++ [r]) xs (pb ++ [x]) (by rw [List.append_assoc]; exact hp) (by rw [List.append_assoc]; exact hb) (by rw [List.length_append, List.length_append, he]; rfl)
              refine ⟨ls, a1, Ev.step (fun k => ?_) a2⟩
              simp only [sashref06_one.l0]
              rw [if_pos hl, if_pos (by omega), if_pos hl, if_pos (by omega), hr, hr2, hq, hx, if_neg (by simp), hu]
      obtain ⟨ls, a1, a2⟩ := key t.1 [] c.f3 [] rfl rfl rfl
      exact ⟨ls, a1, main _ _ (ev_pos ht a2)⟩
theorem ref_tiles_ev (c : S26) (hz : sz c ≤ 1048576) : Ev (fun k => sashref06_Tiles.f k c.f0 c.f1.f0 c.f1.f1 c.f1.f2 c.f1.f3 c.f2 c.f3) (tilesC c) := by
  unfold tilesC
  cases hm : mayC c with
  | false =>
    rw [Bool.false_and]
    refine Ev.congr (fun k => ?_) (Ev.bind (a := (([], 1, 0) : List S23 × Int × Int)) (g := fun k => sashref06_Check.f k c.f0 c.f1.f0 c.f1.f1 c.f1.f2 c.f1.f3 c.f2 c.f3) (f := fun _ bt => some (bt.2.1 == 0)) ?_ (Ev.now _))
    · rfl
    · unfold sashref06_Check.f
      have e := may_ev c hz
      rw [hm] at e
      exact Ev.bind (Ev.now ([] : List S23)) (Ev.bind e (ev_neg (by simp) (Ev.now _)))
  | true =>
    rw [Bool.true_and]
    have hs := may_small hm
    have hlen : ∀ d, d ∈ allC c → d.f3.length ≤ 20000 := fun d hd => by
      have h1 := (all_sz (sz c)).1 c (Nat.le_refl _) d hd
      have h2 := sz_eq d
      have h3 := szL_len d.f3
      omega
    have key : ∀ (rest pre : List S26), pre ++ rest = allC c → ∀ out : List S23, out.length ≤ 20001 * pre.length → ∃ r : List S23 × Int × Int, Ev (fun k => sashref06_Check.l0 k ([] : List S23) (allC c) out ((allC c).length : Int) (pre.length : Int)) r ∧ (r.2.1 == 0) = rest.all oneB := by
      intro rest
      induction rest with
      | nil =>
        intro pre hp out ho
        rw [List.append_nil] at hp
        refine ⟨(out, 0, 0), Ev.step (f := fun _ => some (out, 0, 0)) (fun k => ?_) (Ev.now _), rfl⟩
        simp only [sashref06_Check.l0]
        rw [if_neg (by rw [hp]; omega)]
      | cons x xs ih =>
        intro pre hp out ho
        have hl : (pre.length : Int) < ((allC c).length : Int) := by rw [← hp, List.length_append, List.length_cons]; omega
        have hl2 : (allC c).length = sz c := rfl
        have hr : rd_T26 (allC c) (pre.length : Int) = x := by rw [← hp]; exact rd26_in pre x xs
        have hu : wrap64 ((pre.length : Int) + 1) = ((pre ++ [x]).length : Int) := up_in pre x xs (by rw [hp]; omega)
        have hx := hlen x (by rw [← hp]; simp)
        obtain ⟨ls, b1, b2⟩ := one_ev x hx
        rw [List.all_cons]
        cases ho1 : oneB x with
        | false =>
          rw [ho1] at b2
          refine ⟨([], 5, (pre.length : Int)), Ev.step (f := fun k => (sashref06_one.f k x.f0 x.f1.f0 x.f1.f1 x.f1.f2 x.f1.f3 x.f2 x.f3).bind fun bt => (if bt.2 = true then (if out.length + bt.1.length < 4398046511104 then (sashref06_Check.l0 k ([] : List S23) (allC c) (out ++ bt.1) ((allC c).length : Int) (wrap64 ((pre.length : Int) + 1))) else (none)) else (some (([] : List S23), 5, (pre.length : Int))))) (fun k => ?_) (Ev.bind b2 (ev_neg (by simp) (Ev.now _))), by rfl⟩
          simp only [sashref06_Check.l0]
          rw [if_pos hl, if_pos (by omega), if_pos hl, hr]
        | true =>
          rw [ho1] at b2
          obtain ⟨r, c1, c2⟩ := ih (pre ++ [x]) (by rw [List.append_assoc]; exact hp) (out ++ ls) (by rw [List.length_append, List.length_append, List.length_singleton]; omega)
          refine ⟨r, Ev.step (f := fun k => (sashref06_one.f k x.f0 x.f1.f0 x.f1.f1 x.f1.f2 x.f1.f3 x.f2 x.f3).bind fun bt => (if bt.2 = true then (if out.length + bt.1.length < 4398046511104 then (sashref06_Check.l0 k ([] : List S23) (allC c) (out ++ bt.1) ((allC c).length : Int) (wrap64 ((pre.length : Int) + 1))) else (none)) else (some (([] : List S23), 5, (pre.length : Int))))) (fun k => ?_) (Ev.bind b2 (ev_pos rfl (ev_pos ?_ ?_))), by rw [c2, Bool.true_and]⟩
          · simp only [sashref06_Check.l0]
            rw [if_pos hl, if_pos (by omega), if_pos hl, hr]
          · have : pre.length ≤ 20000 := by omega
            show out.length + ls.length < 4398046511104
            omega
          · rw [hu]
            exact c1
    obtain ⟨r, e1, e2⟩ := key (allC c) [] rfl [] (by simp)
    have e3 : Ev (fun k => sashref06_Check.f k c.f0 c.f1.f0 c.f1.f1 c.f1.f2 c.f1.f3 c.f2 c.f3) r := by
      unfold sashref06_Check.f
      have e := may_ev c hz
      rw [hm] at e
      exact Ev.bind (Ev.now ([] : List S23)) (Ev.bind e (ev_pos rfl (Ev.bind (all_cells _ c hz (Nat.le_refl _)) e1)))
    have e4 := Ev.bind (f := fun _ bt => some (bt.2.1 == 0)) e3 (Ev.now (r.2.1 == 0))
    rw [e2] at e4
    exact e4
end Go.Proofs.Ytfdmfgaiblfbhaa.P
namespace Go.Proofs.Ytfdmfgaiblfbhaa.P
open Go.RowKit Go.Proofs.YtfdmfgaiblfbhaaW.PrintWords Go.Proofs.YtfdmfgaiblfbhaaW.PrintLast Go.Proofs.YtfdmfgaiblfbhaaW.PrintMore
attribute [local go_sem] max2_int min2_int max_two min_two max_three min_three max_four min_four   -- for this text's walks alone
set_option linter.unusedVariables false
set_option linter.unusedSimpArgs false

/-! ### sashref08_Of: function 152 -/
mutual
def sashref08_Of.l0 : Nat → Int → Int → Int → Int → Int → Int → Int → Int → Int → Int → List (S26) → Option (Int)
 | 0, _, _, _, _, _, _, _, _, _, _, _ => none
 | k + 1, x1, x5, x14, x15, x1082000, x1082001, x1082002, x1082003, x1082004, x1082005, x1082006 => if x15 < x14 then (if 0 ≤ x15 then (if x15 < (x1082006.length : Int) then ((sashref08_Of.f k ((rd_T26 x1082006 x15).f0) ((rd_T26 x1082006 x15).f1.f0) ((rd_T26 x1082006 x15).f1.f1) ((rd_T26 x1082006 x15).f1.f2) ((rd_T26 x1082006 x15).f1.f3) ((rd_T26 x1082006 x15).f2) ((rd_T26 x1082006 x15).f3) x1).bind fun t1083 => ((sashref08_Along.f x1082000 x1082001 x1082002 x1082003 x1082004 x1082005 x1082006 x1).bind fun t1084 => (if t1084 = true then (if x15 > 0 then (sashref08_Of.l0 k x1 (wrap64 ((wrap64 (x5 + t1083)) + 1)) x14 (wrap64 (x15 + 1)) x1082000 x1082001 x1082002 x1082003 x1082004 x1082005 x1082006) else (sashref08_Of.l0 k x1 (wrap64 (x5 + t1083)) x14 (wrap64 (x15 + 1)) x1082000 x1082001 x1082002 x1082003 x1082004 x1082005 x1082006)) else (if t1083 > x5 then (sashref08_Of.l0 k x1 t1083 x14 (wrap64 (x15 + 1)) x1082000 x1082001 x1082002 x1082003 x1082004 x1082005 x1082006) else (sashref08_Of.l0 k x1 x5 x14 (wrap64 (x15 + 1)) x1082000 x1082001 x1082002 x1082003 x1082004 x1082005 x1082006))))) else (none)) else (none)) else (some x5)
def sashref08_Of.f : Nat → Int → Int → Int → Int → Int → Int → List (S26) → Int → Option (Int)
 | 0, _, _, _, _, _, _, _, _ => none
 | k + 1, a0_0, a0_1, a0_2, a0_3, a0_4, a0_5, l0_6, a1 => if (l0_6.length : Int) = 0 then (some 1) else (sashref08_Of.l0 k a1 0 (l0_6.length : Int) 0 a0_0 a0_1 a0_2 a0_3 a0_4 a0_5 l0_6)
end
end Go.Proofs.Ytfdmfgaiblfbhaa.P
/- The least size of a tree, by the code and by the reference: plain data. -/
namespace Go.Proofs.Ytfdmfgaiblfbhaa.P
open Go.RowKit Go.Proofs.YtfdmfgaiblfbhaaW.PrintWords Go.Proofs.YtfdmfgaiblfbhaaW.PrintLast Go.Proofs.YtfdmfgaiblfbhaaW.PrintMore
def alongK (ax k : Int) : Bool := (k == 2 && ax == 1) || (k == 3 && ax == 2)
theorem along_some (c : S26) (ax : Int) : least_Along.f c.f0 c.f1.f0 c.f1.f1 c.f1.f2 c.f1.f3 c.f2 c.f3 ax = some (alongK ax c.f0) := by
  unfold least_Along.f alongK
  by_cases h2 : c.f0 = 2
  · by_cases h1 : ax = 1
    · rw [if_pos h2, if_pos h1]; simp [h2, h1]
    · rw [if_pos h2, if_neg h1, if_neg (by omega)]; simp [h2, h1]
  · rw [if_neg h2]
    by_cases h3 : c.f0 = 3
    · rw [if_pos h3]; simp [h3]
    · rw [if_neg h3]; simp [h2, h3]
theorem ralong_some (c : S26) (ax : Int) : sashref08_Along.f c.f0 c.f1.f0 c.f1.f1 c.f1.f2 c.f1.f3 c.f2 c.f3 ax = some (alongK ax c.f0) := along_some c ax
mutual
def leastC (ax : Int) : S26 → Int
  | ⟨a, _, _, l⟩ => if a = 1 then 1 else if alongK ax a = true then ((l.length : Int) - 1) + sumL ax l else mostL ax 0 l
def sumL (ax : Int) : List S26 → Int
  | [] => 0
  | k :: ks => leastC ax k + sumL ax ks
def mostL (ax : Int) : Int → List S26 → Int
  | m, [] => m
  | m, k :: ks => mostL ax (mx m (leastC ax k)) ks
end
theorem leastC_eq (ax : Int) (c : S26) : leastC ax c = if c.f0 = 1 then 1 else if alongK ax c.f0 = true then ((c.f3.length : Int) - 1) + sumL ax c.f3 else mostL ax 0 c.f3 := by cases c; simp [leastC]
theorem sumL_nil (ax : Int) : sumL ax [] = 0 := by simp [sumL]
theorem sumL_cons (ax : Int) (k : S26) (ks : List S26) : sumL ax (k :: ks) = leastC ax k + sumL ax ks := by simp [sumL]
theorem sumL_app (ax : Int) (a b : List S26) : sumL ax (a ++ b) = sumL ax a + sumL ax b := by
  induction a with
  | nil => rw [List.nil_append, sumL_nil]; omega
  | cons x xs ih => rw [List.cons_append, sumL_cons, sumL_cons, ih]; omega
theorem mostL_nil (ax m : Int) : mostL ax m [] = m := by simp [mostL]
theorem mostL_cons (ax m : Int) (k : S26) (ks : List S26) : mostL ax m (k :: ks) = mostL ax (mx m (leastC ax k)) ks := by simp [mostL]
theorem mx_le {a b c : Int} (h : a ≤ c) (k : b ≤ c) : mx a b ≤ c := by unfold mx; split <;> omega
theorem le_mx1 (a b : Int) : a ≤ mx a b := by unfold mx; split <;> omega
theorem leastC_bd (ax : Int) : ∀ (N : Nat), (∀ c : S26, sz c ≤ N → -(sz c : Int) ≤ leastC ax c ∧ leastC ax c ≤ 2 * (sz c : Int) - 1) ∧
    (∀ l : List S26, szL l ≤ N → -(szL l : Int) ≤ sumL ax l ∧ sumL ax l ≤ 2 * (szL l : Int) - (l.length : Int)) ∧ (∀ l : List S26, szL l ≤ N → ∀ m : Int, m ≤ mostL ax m l ∧ ∀ u, m ≤ u → 2 * (szL l : Int) ≤ u → mostL ax m l ≤ u) := by
  intro N
  induction N with
  | zero =>
    refine ⟨fun c h => ?_, fun l h => ?_, fun l h => ?_⟩
    · rw [sz_eq] at h; omega
    · cases l with
      | nil => rw [sumL_nil, szL_nil]; simp
      | cons z zs => rw [szL_cons, sz_eq] at h; omega
    · cases l with
      | nil => intro m; rw [mostL_nil]; exact ⟨Int.le_refl _, fun u h _ => h⟩
      | cons z zs => rw [szL_cons, sz_eq] at h; omega
  | succ N ih =>
    have hC : ∀ c : S26, sz c ≤ N + 1 → -(sz c : Int) ≤ leastC ax c ∧ leastC ax c ≤ 2 * (sz c : Int) - 1 := by
      intro c h
      have hs := sz_eq c
      have h1 := ih.2.1 c.f3 (by omega)
      have h2 := ih.2.2 c.f3 (by omega) 0
      have h3 := h2.2 (2 * (szL c.f3 : Int)) (by omega) (Int.le_refl _)
      rw [leastC_eq]
      split
      · omega
      · split
        · omega
        · omega
    refine ⟨hC, fun l => ?_, fun l => ?_⟩
    · induction l with
      | nil => intro _; rw [sumL_nil, szL_nil]; simp
      | cons x xs ihl =>
        intro h
        rw [szL_cons] at h ⊢
        have h1 := hC x (by omega)
        have h2 := ihl (by omega)
        rw [sumL_cons, List.length_cons]
        omega
    · induction l with
      | nil => intro _ m; rw [mostL_nil]; exact ⟨Int.le_refl _, fun u h _ => h⟩
      | cons x xs ihl =>
        intro h m
        rw [szL_cons] at h ⊢
        have h1 := hC x (by omega)
        have h2 := ihl (by omega) (mx m (leastC ax x))
        rw [mostL_cons]
        refine ⟨Int.le_trans (le_mx1 m (leastC ax x)) h2.1, fun u hu hu2 => h2.2 u (mx_le hu (by omega)) (by omega)⟩
theorem least_ev (ax : Int) : ∀ (N : Nat) (c : S26), sz c ≤ N → N ≤ 1048576 → Ev (fun k => least_least.f k c.f0 c.f1.f0 c.f1.f1 c.f1.f2 c.f1.f3 c.f2 c.f3 ax) (leastC ax c) := by
  intro N
  induction N with
  | zero => intro c h _; rw [sz_eq] at h; omega
  | succ N ih =>
    intro c hc hN
    have hs := sz_eq c
    have hlen := szL_len c.f3
    rw [leastC_eq]
    by_cases h1 : c.f0 = 1
    · rw [if_pos h1]
      refine Ev.step (f := fun _ => some 1) (fun k => ?_) (Ev.now _)
      simp only [least_least.f]
      rw [if_pos h1]
    · rw [if_neg h1]
      have key : ∀ (rest pre : List S26), pre ++ rest = c.f3 → ∀ m : Int, Ev (fun k => least_least.l0 k ax (((c.f3.length : Int) - 1) + sumL ax pre) m c.f3 (c.f3.length : Int) (pre.length : Int) c.f0 c.f1.f0 c.f1.f1 c.f1.f2 c.f1.f3 c.f2 c.f3) (if alongK ax c.f0 = true then ((c.f3.length : Int) - 1) + sumL ax c.f3 else mostL ax m rest) := by
        intro rest
        induction rest with
        | nil =>
          intro pre hp m
          rw [List.append_nil] at hp
          subst hp
          rw [mostL_nil]
          refine Ev.step (f := fun _ => some (if alongK ax c.f0 = true then ((c.f3.length : Int) - 1) + sumL ax c.f3 else m)) (fun k => ?_) (Ev.now _)
          simp only [least_least.l0]
          rw [if_neg (by omega), along_some]
          simp only [Option.bind_some]
          split <;> rfl
        | cons x xs ihr =>
          intro pre hp m
          have hl : (pre.length : Int) < (c.f3.length : Int) := by rw [← hp, List.length_append, List.length_cons]; omega
          have hsum : szL c.f3 = szL pre + (sz x + szL xs) := by rw [← hp, szL_app, szL_cons]
          have hr : rd_T26 c.f3 (pre.length : Int) = x := by rw [← hp]; exact rd26_in pre x xs
          have hu : wrap64 ((pre.length : Int) + 1) = ((pre ++ [x]).length : Int) := up_in pre x xs (by rw [hp]; omega)
          have e2 := ihr (pre ++ [x]) (by rw [List.append_assoc]; exact hp) (mx m (leastC ax x))
          have b1 := (leastC_bd ax (sz x)).1 x (Nat.le_refl _)
          have b2 := (leastC_bd ax (szL pre)).2.1 pre (Nat.le_refl _)
          have hw : wrap64 ((((c.f3.length : Int) - 1) + sumL ax pre) + leastC ax x) = ((c.f3.length : Int) - 1) + sumL ax (pre ++ [x]) := by
            rw [wq (by omega) (by omega), sumL_app, sumL_cons, sumL_nil]
            omega
          rw [mostL_cons]
          refine Ev.step (f := fun k => (least_least.f k x.f0 x.f1.f0 x.f1.f1 x.f1.f2 x.f1.f3 x.f2 x.f3 ax).bind fun t => least_least.l0 k ax (wrap64 ((((c.f3.length : Int) - 1) + sumL ax pre) + t)) (mx m t) c.f3 (c.f3.length : Int) (wrap64 ((pre.length : Int) + 1)) c.f0 c.f1.f0 c.f1.f1 c.f1.f2 c.f1.f3 c.f2 c.f3) (fun k => ?_) (Ev.bind (ih x (by omega) (by omega)) ?_)
          · simp only [least_least.l0]
            rw [if_pos hl, if_pos (by omega), if_pos hl, hr]
          · rw [hu, hw]
            exact e2
      have e := key c.f3 [] rfl 0
      rw [sumL_nil, Int.add_zero] at e
      refine Ev.step (fun k => ?_) e
      simp only [least_least.f]
      rw [if_neg h1, wq (by omega) (by omega)]
      rfl
end Go.Proofs.Ytfdmfgaiblfbhaa.P
/- least.Size: plain data. -/
namespace Go.Proofs.Ytfdmfgaiblfbhaa.P
open Go.RowKit Go.Proofs.YtfdmfgaiblfbhaaW.PrintWords Go.Proofs.YtfdmfgaiblfbhaaW.PrintLast Go.Proofs.YtfdmfgaiblfbhaaW.PrintMore
def sizeR (ax : Int) (r : S23) : Int := if ax = 1 then r.f2 else if ax = 2 then r.f3 else 0
theorem size_some (r : S23) (ax : Int) : least_Size.f r.f0 r.f1 r.f2 r.f3 ax = some (sizeR ax r) := by
  unfold least_Size.f sizeR
  by_cases h1 : ax = 1
  · rw [if_neg (by omega), if_pos h1, if_pos h1]
  · by_cases h2 : ax = 2
    · rw [if_pos h2, if_neg h1, if_pos h2]
    · rw [if_neg h2, if_neg h1, if_neg h1, if_neg h2]
end Go.Proofs.Ytfdmfgaiblfbhaa.P
namespace Go.Proofs.Ytfdmfgaiblfbhaa.P
open Go.RowKit Go.Proofs.YtfdmfgaiblfbhaaW.PrintWords Go.Proofs.YtfdmfgaiblfbhaaW.PrintLast Go.Proofs.YtfdmfgaiblfbhaaW.PrintMore
attribute [local go_sem] max2_int min2_int max_two min_two max_three min_three max_four min_four   -- for this text's walks alone
set_option linter.unusedVariables false
set_option linter.unusedSimpArgs false

/-! ### sashref08_Least: function 94 -/
def sashref08_Least.f (k : Nat) (a0_0 : Int) (a0_1 : Int) (a0_2 : Int) (a0_3 : Int) (a0_4 : Int) (a0_5 : Int) (l0_6 : List (S26)) (a1 : Int) : Option (Int) := if a1 < 1 then (some 0) else (if a1 > 2 then (some 0) else ((sashref05_May.f k a0_0 a0_1 a0_2 a0_3 a0_4 a0_5 l0_6).bind fun t1086 => (if t1086 = true then ((sashref08_Of.f k a0_0 a0_1 a0_2 a0_3 a0_4 a0_5 l0_6 a1).bind fun t1087 => (some t1087)) else (some 0))))
end Go.Proofs.Ytfdmfgaiblfbhaa.P
namespace Go.Proofs.Ytfdmfgaiblfbhaa.P
open Go.RowKit Go.Proofs.YtfdmfgaiblfbhaaW.PrintWords Go.Proofs.YtfdmfgaiblfbhaaW.PrintLast Go.Proofs.YtfdmfgaiblfbhaaW.PrintMore
attribute [local go_sem] max2_int min2_int max_two min_two max_three min_three max_four min_four   -- for this text's walks alone
set_option linter.unusedVariables false
set_option linter.unusedSimpArgs false

/-! ### sashref08_Gives: function 95 -/
def sashref08_Gives.j0 : Nat → Int → Bool → Int → Int → Int → Int → Int → Int → List (S26) → Option (Int)
 | 0, _, _, _, _, _, _, _, _, _ => none
 | k + 1, x1, x15, x1089000, x1089001, x1089002, x1089003, x1089004, x1089005, x1089006 => if x15 = true then (some 0) else ((sashref08_Size.f x1089001 x1089002 x1089003 x1089004 x1).bind fun t1090 => ((sashref08_Of.f k x1089000 x1089001 x1089002 x1089003 x1089004 x1089005 x1089006 x1).bind fun t1091 => (some (wrap64 (t1090 - t1091)))))
def sashref08_Gives.f (k : Nat) (a0_0 : Int) (a0_1 : Int) (a0_2 : Int) (a0_3 : Int) (a0_4 : Int) (a0_5 : Int) (l0_6 : List (S26)) (a1 : Int) : Option (Int) := if a1 < 1 then (sashref08_Gives.j0 k a1 true a0_0 a0_1 a0_2 a0_3 a0_4 a0_5 l0_6) else (if a1 > 2 then (sashref08_Gives.j0 k a1 true a0_0 a0_1 a0_2 a0_3 a0_4 a0_5 l0_6) else ((sashref06_Tiles.f k a0_0 a0_1 a0_2 a0_3 a0_4 a0_5 l0_6).bind fun t1089 => (sashref08_Gives.j0 k a1 (!t1089) a0_0 a0_1 a0_2 a0_3 a0_4 a0_5 l0_6)))
def sashref08_Gives.T3 : Bool × List (List Nat × List Nat) := (true, [([], []), ([0], [0]), ([], []), ([1, 2], [1, 2]), ([], []), ([], []), ([4, 5, 3], [4, 5]), ([3, 6], [3, 6]), ([7, 6, 0, 1, 2, 3, 4, 5, 6, 7], [7])])
def sashref08_Gives.B3 : List Nat := [0, 1, 0, 7, 0, 0, 63, 127, 255]
end Go.Proofs.Ytfdmfgaiblfbhaa.P
namespace Go.Proofs.Ytfdmfgaiblfbhaa.P
open Go.RowKit Go.Proofs.YtfdmfgaiblfbhaaW.PrintWords Go.Proofs.YtfdmfgaiblfbhaaW.PrintLast Go.Proofs.YtfdmfgaiblfbhaaW.PrintMore
attribute [local go_sem] max2_int min2_int max_two min_two max_three min_three max_four min_four   -- for this text's walks alone
set_option linter.unusedVariables false
set_option linter.unusedSimpArgs false

/-! ### least_Fits: function 96 -/
def least_Fits.f (k : Nat) (a0_0 : Int) (a0_1 : Int) (a0_2 : Int) (a0_3 : Int) (a0_4 : Int) (a0_5 : Int) (l0_6 : List (S26)) (a1 : Int) (a2 : Int) : Option (Bool) := (cell_May.f (([(⟨a0_0, (⟨a0_1, a0_2, a0_3, a0_4⟩ : S23), a0_5, l0_6⟩ : S26)] : List (S26)))).bind fun t1105 => (if t1105 = true then ((least_least.f k a0_0 a0_1 a0_2 a0_3 a0_4 a0_5 l0_6 1).bind fun t1106 => (if a1 ≥ t1106 then ((least_least.f k a0_0 a0_1 a0_2 a0_3 a0_4 a0_5 l0_6 2).bind fun t1107 => (if a2 ≥ t1107 then (if a1 ≤ (wrap64 (10000 - a0_1)) then (some (decide (a2 ≤ (wrap64 (10000 - a0_2))))) else (some false)) else (some false))) else (some false))) else (some false))
end Go.Proofs.Ytfdmfgaiblfbhaa.P
namespace Go.Proofs.Ytfdmfgaiblfbhaa.P
open Go.RowKit Go.Proofs.YtfdmfgaiblfbhaaW.PrintWords Go.Proofs.YtfdmfgaiblfbhaaW.PrintLast Go.Proofs.YtfdmfgaiblfbhaaW.PrintMore
attribute [local go_sem] max2_int min2_int max_two min_two max_three min_three max_four min_four   -- for this text's walks alone
set_option linter.unusedVariables false
set_option linter.unusedSimpArgs false

/-! ### sashref08_Fits: function 97 -/
def sashref08_Fits.f (k : Nat) (a0_0 : Int) (a0_1 : Int) (a0_2 : Int) (a0_3 : Int) (a0_4 : Int) (a0_5 : Int) (l0_6 : List (S26)) (a1 : Int) (a2 : Int) : Option (Bool) := (sashref05_May.f k a0_0 a0_1 a0_2 a0_3 a0_4 a0_5 l0_6).bind fun t1100 => (if t1100 = true then ((sashref08_Of.f k a0_0 a0_1 a0_2 a0_3 a0_4 a0_5 l0_6 1).bind fun t1101 => (if a1 ≥ t1101 then (if a1 ≤ (wrap64 (10000 - a0_1)) then ((sashref08_Of.f k a0_0 a0_1 a0_2 a0_3 a0_4 a0_5 l0_6 2).bind fun t1102 => (if a2 ≥ t1102 then (some (decide (a2 ≤ (wrap64 (10000 - a0_2))))) else (some false))) else (some false)) else (some false))) else (some false))
end Go.Proofs.Ytfdmfgaiblfbhaa.P
/- What a tree can give, its least size, whether a size fits it, by the code and by the reference: plain data. -/
namespace Go.Proofs.Ytfdmfgaiblfbhaa.P
open Go.RowKit Go.Proofs.YtfdmfgaiblfbhaaW.PrintWords Go.Proofs.YtfdmfgaiblfbhaaW.PrintLast Go.Proofs.YtfdmfgaiblfbhaaW.PrintMore
theorem Ev.unique {α : Type} {g : Nat → Option α} {a b : α} (h : Ev g a) (k : Ev g b) : a = b := by
  obtain ⟨n, hn⟩ := h
  obtain ⟨m, hm⟩ := k
  have e := (hn (max n m) (by omega)).symm.trans (hm (max n m) (by omega))
  exact Option.some.inj e
theorem rsize_some (r : S23) (ax : Int) : sashref08_Size.f r.f0 r.f1 r.f2 r.f3 ax = some (sizeR ax r) := by
  unfold sashref08_Size.f sizeR
  split
  · rfl
  · split <;> rfl
theorem may1_some (c : S26) (hz : sz c ≤ 1048576) : cell_May.f ([(⟨c.f0, (⟨c.f1.f0, c.f1.f1, c.f1.f2, c.f1.f3⟩ : S23), c.f2, c.f3⟩ : S26)] : List S26) = some (mayC c) := by
  rw [eta26]
  unfold cell_May.f
  rw [if_pos (by simp [hz])]
  simp
theorem tiles1_some (c : S26) (hz : sz c ≤ 1048576) : tile_Tiles.f ([(⟨c.f0, (⟨c.f1.f0, c.f1.f1, c.f1.f2, c.f1.f3⟩ : S23), c.f2, c.f3⟩ : S26)] : List S26) = some (tilesC c) := by
  rw [eta26]
  unfold tile_Tiles.f
  rw [if_pos (by simp [hz])]
  simp
noncomputable def givesC (ax : Int) (c : S26) : Int := if (ax = 1 ∨ ax = 2) ∧ tilesC c = true then wrap64 (sizeR ax c.f1 - leastC ax c) else 0
def lstC (ax : Int) (c : S26) : Int := if (ax = 1 ∨ ax = 2) ∧ mayC c = true then leastC ax c else 0
def fitsC (c : S26) (w h : Int) : Bool := mayC c && (decide (w ≥ leastC 1 c) && (decide (h ≥ leastC 2 c) && (decide (w ≤ wrap64 (10000 - c.f1.f0)) && decide (h ≤ wrap64 (10000 - c.f1.f1)))))
theorem gives_ev (c : S26) (hz : sz c ≤ 1048576) (ax : Int) : Ev (fun k => least_Gives.f k c.f0 c.f1.f0 c.f1.f1 c.f1.f2 c.f1.f3 c.f2 c.f3 ax) (givesC ax c) := by
  have no : Ev (fun k => least_Gives.j0 k ax true c.f0 c.f1.f0 c.f1.f1 c.f1.f2 c.f1.f3 c.f2 c.f3) 0 := by
    refine Ev.step (f := fun _ => some 0) (fun k => ?_) (Ev.now _)
    simp only [least_Gives.j0]
    rw [if_pos trivial]
  unfold givesC
  by_cases hax : ax = 1 ∨ ax = 2
  · have ha : least_axes.f ax = some true := by
      unfold least_axes.f
      rcases hax with rfl | rfl <;> rfl
    cases ht : tilesC c with
    | false =>
      rw [if_neg (by simp)]
      refine Ev.congr (f := fun k => least_Gives.j0 k ax true c.f0 c.f1.f0 c.f1.f1 c.f1.f2 c.f1.f3 c.f2 c.f3) (fun k => ?_) no
      unfold least_Gives.f
      rw [ha]
      simp only [Option.bind_some, if_true]
      rw [tiles1_some c hz, ht]
      rfl
    | true =>
      rw [if_pos ⟨hax, rfl⟩]
      refine Ev.congr (f := fun k => least_Gives.j0 k ax false c.f0 c.f1.f0 c.f1.f1 c.f1.f2 c.f1.f3 c.f2 c.f3) (fun k => ?_) (Ev.step (f := fun k => (least_least.f k c.f0 c.f1.f0 c.f1.f1 c.f1.f2 c.f1.f3 c.f2 c.f3 ax).bind fun t => some (wrap64 (sizeR ax c.f1 - t))) (fun k => ?_) (Ev.bind (least_ev ax (sz c) c (Nat.le_refl _) hz) (Ev.now _)))
      · unfold least_Gives.f
        rw [ha]
        simp only [Option.bind_some, if_true]
        rw [tiles1_some c hz, ht]
        rfl
      · simp only [least_Gives.j0]
        rw [if_neg (by simp), size_some c.f1 ax]
        rfl
  · rw [if_neg (fun h => hax h.1)]
    refine Ev.congr (f := fun k => least_Gives.j0 k ax true c.f0 c.f1.f0 c.f1.f1 c.f1.f2 c.f1.f3 c.f2 c.f3) (fun k => ?_) no
    unfold least_Gives.f least_axes.f
    rw [if_neg (fun h => hax (.inl h)), show (ax == 2) = false from by simp; exact fun h => hax (.inr h)]
    simp only [Option.bind_some, Bool.false_eq_true, if_false]
theorem lst_ev (c : S26) (hz : sz c ≤ 1048576) (ax : Int) : Ev (fun k => least_Least.f k c.f0 c.f1.f0 c.f1.f1 c.f1.f2 c.f1.f3 c.f2 c.f3 ax) (lstC ax c) := by
  unfold lstC least_Least.f
  by_cases hax : ax = 1 ∨ ax = 2
  · have ha : least_axes.f ax = some true := by
      unfold least_axes.f
      rcases hax with rfl | rfl <;> rfl
    rw [ha, may1_some c hz]
    simp only [Option.bind_some, if_true]
    cases hm : mayC c with
    | false =>
      rw [if_neg (by simp)]
      exact ev_neg (by simp) (Ev.now _)
    | true =>
      rw [if_pos ⟨hax, rfl⟩]
      exact ev_pos rfl (Ev.bind (least_ev ax (sz c) c (Nat.le_refl _) hz) (Ev.now _))
  · rw [if_neg (fun h => hax h.1)]
    unfold least_axes.f
    rw [if_neg (fun h => hax (.inl h)), show (ax == 2) = false from by simp; exact fun h => hax (.inr h)]
    simp only [Option.bind_some, Bool.false_eq_true, if_false]
    exact Ev.now _
def tree08 : S26 := ⟨2, ⟨0, 0, 7, 2⟩, 0, [⟨1, ⟨0, 0, 3, 2⟩, 1, []⟩, ⟨1, ⟨4, 0, 3, 2⟩, 2, []⟩]⟩
theorem tree08_tiles : tilesC tree08 = true :=
  Ev.unique (ref_tiles_ev tree08 (by decide +kernel)) (Ev.of (k := 60) (fun k => sashref06_Tiles.mono _ _ _ _ _ _ _ k) (by decide +kernel))
theorem l08_1 : lstC 1 tree08 = 3 := by decide +kernel
theorem l08_2 : lstC 2 tree08 = 1 := by decide +kernel
theorem l08_3 : leastC 1 tree08 = 3 := by decide +kernel
theorem g08 : givesC 1 tree08 = 4 := by
  unfold givesC
  rw [if_pos ⟨.inl rfl, tree08_tiles⟩, l08_3]
  decide +kernel
end Go.Proofs.Ytfdmfgaiblfbhaa.P
/- The document's example of chapter 08, walked: it holds. -/
namespace Go.Proofs.Ytfdmfgaiblfbhaa.P
open Go.RowKit Go.Proofs.YtfdmfgaiblfbhaaW.PrintWords Go.Proofs.YtfdmfgaiblfbhaaW.PrintLast Go.Proofs.YtfdmfgaiblfbhaaW.PrintMore
attribute [local go_sem] max2_int min2_int max_two min_two max_three min_three max_four min_four
set_option linter.unusedVariables false
set_option linter.unusedSimpArgs false
def sashlaw08_awake.f : Option Bool := some true
set_option maxHeartbeats 8000000 in
set_option maxRecDepth 100000 in
theorem sashlaw08_awake.calls (r : Bool) (w : World) (h : sashlaw08_awake.f = some r) :
    Calls Try.prog 85 #[] w fun e w' => e = .returned (.bool r) ∧ Below w.heap.size w w' := by
  have hu23 := Try.underlying23
  have hu26 := Try.underlying26
  have HB := Aside0.mk (Below.refl w.heap.size w)
  injection h with h
  subst h
  obtain ⟨y988, hy988⟩ : ∃ y_ : List (S26), y_ = (([(⟨1, (⟨0, 0, 3, 2⟩ : S23), 1, ([] : List (S26))⟩ : S26), (⟨1, (⟨4, 0, 3, 2⟩ : S23), 2, ([] : List (S26))⟩ : S26)] : List (S26))) := ⟨_, rfl⟩
  have e1 := lst_ev tree08 (by decide +kernel) 1
  have e2 := lst_ev tree08 (by decide +kernel) 2
  have e3 := gives_ev tree08 (by decide +kernel) 1
  rw [l08_1] at e1
  rw [l08_2] at e2
  rw [g08] at e3
  obtain ⟨k1, e1⟩ := e1
  obtain ⟨k2, e2⟩ := e2
  obtain ⟨k3, e3⟩ := e3
  obtain ⟨k, hk1, hk2, hk3⟩ : ∃ k : Nat, k1 ≤ k ∧ k2 ≤ k ∧ k3 ≤ k := ⟨k1 + k2 + k3, by omega, by omega, by omega⟩
  obtain ⟨t992, h992⟩ : ∃ t : Int, t = 3 := ⟨_, rfl⟩
  obtain ⟨t993, h993⟩ : ∃ t : Int, t = 1 := ⟨_, rfl⟩
  obtain ⟨t994, h994⟩ : ∃ t : Int, t = 4 := ⟨_, rfl⟩
  have A1 : Aside0 (least_Least.f k 2 0 0 7 2 0 y988 1 = some t992) := ⟨by rw [hy988, h992]; exact e1 k hk1⟩
  have A3 : Aside0 (least_Least.f k 2 0 0 7 2 0 y988 2 = some t993) := ⟨by rw [hy988, h993]; exact e2 k hk2⟩
  have A5 : Aside0 (least_Gives.f k 2 0 0 7 2 0 y988 1 = some t994) := ⟨by rw [hy988, h994]; exact e3 k hk3⟩
  have Ny988 := Aside0.mk hy988
  clear hy988 e1 e2 e3 hk1 hk2 hk3
  have c2b0 : (t992 == 3) = true := beq_iff_eq.mpr h992
  have c2b1 : (t992 != 3) = false := bne_eq_false_iff_eq.mpr h992
  have c4b0 : (t993 == 1) = true := beq_iff_eq.mpr h993
  have c4b1 : (t993 != 1) = false := bne_eq_false_iff_eq.mpr h993
  have c5b0 : (t994 == 4) = true := beq_iff_eq.mpr h994
  clear h992 h993 h994
  go_enter Try.func85, Try.ntmps85
  go_wp2_with (first | ((with_reducible refine gate_dst (N := 1) rfl ?_); refine box_event ?hg (N := 1) ?hd (cs := #[.int .u8 0, .int .i64 0, .int .i64 0, .int .i64 0, .int .i64 0, .int .i64 0, .slice none 0 0]) (t := 26) ?hr ?_; (case hd => rfl); (case hg => rfl); (case hr => first | (go_simp; done) | (go_simp; rfl)); intro gb986 hg w6 hbox hb; have n0_ := Aside0.mk (below_step (by repeat (first | (with_reducible first | exact HB.out | apply below_alloc | apply pw_below_drewN | apply below_drew1) | exact HB.out)) hb); have n1_ := Aside0.mk (hbox); have n2_ := Aside0.mk ((by rw [hg]; exact (below_size (by repeat (first | (with_reducible first | exact HB.out | apply below_alloc | apply pw_below_drewN | apply below_drew1) | exact HB.out))) : w.heap.size ≤ gb986)); have n3_ := Aside0.mk ((by rw [hg]; exact (below_size (by repeat (first | (with_reducible first | exact HB.out | apply below_alloc | apply pw_below_drewN | apply below_drew1) | exact HB.out))) : w.heap.size ≤ gb986)); clear HB; have HB := n0_; have BK986 := n1_; have GW986 := n2_; have GE986 := n3_; clear n0_ n1_ n2_ n3_; clear hb hbox hg; have hcz7_0 : w6.cell? ⟨gb986, 0, none⟩ = some (.int .u8 0) := (blk_cell BK986.out 0).trans rfl; have hcz7_1 : w6.cell? ⟨gb986, 1, none⟩ = some (.int .i64 0) := (blk_cell BK986.out 1).trans rfl; have hcz7_2 : w6.cell? ⟨gb986, 2, none⟩ = some (.int .i64 0) := (blk_cell BK986.out 2).trans rfl; have hcz7_3 : w6.cell? ⟨gb986, 3, none⟩ = some (.int .i64 0) := (blk_cell BK986.out 3).trans rfl; have hcz7_4 : w6.cell? ⟨gb986, 4, none⟩ = some (.int .i64 0) := (blk_cell BK986.out 4).trans rfl; have hcz7_5 : w6.cell? ⟨gb986, 5, none⟩ = some (.int .i64 0) := (blk_cell BK986.out 5).trans rfl; have hcz7_6 : w6.cell? ⟨gb986, 6, none⟩ = some (.slice none 0 0) := (blk_cell BK986.out 6).trans rfl; have hfz7_0 := blk_frozen BK986.out 0; have hfz7_1 := blk_frozen BK986.out 1; have hfz7_2 := blk_frozen BK986.out 2; have hfz7_3 := blk_frozen BK986.out 3; have hfz7_4 := blk_frozen BK986.out 4; have hfz7_5 := blk_frozen BK986.out 5; have hfz7_6 := blk_frozen BK986.out 6) | ((with_reducible refine gate_dst (N := 2) rfl ?_); refine box_event ?hg (N := 2) ?hd (cs := #[.int .u8 0, .int .i64 0, .int .i64 0, .int .i64 0, .int .i64 0, .int .i64 0, .slice none 0 0]) (t := 26) ?hr ?_; (case hd => rfl); (case hg => rfl); (case hr => first | (go_simp; done) | (go_simp; rfl)); intro gb987 hg w8 hbox hb; have n0_ := Aside0.mk (blk_below (g := gb986) (o := .cells #[.int .u8 1, .int .i64 0, .int .i64 0, .int .i64 3, .int .i64 2, .int .i64 1, .slice none 0 0] 26 (0, 0)) (by (with_reducible repeat (first | refine blk_drewN ?_ _ | refine blk_drew ?_ | refine blk_alloc ?_ _)); refine blk_put (cs := #[.int .u8 1, .int .i64 0, .int .i64 0, .int .i64 3, .int .i64 2, .int .i64 1, .slice none 0 0]) ?_ 6 _ rfl; (with_reducible repeat (first | refine blk_drewN ?_ _ | refine blk_drew ?_ | refine blk_alloc ?_ _)); refine blk_put (cs := #[.int .u8 1, .int .i64 0, .int .i64 0, .int .i64 3, .int .i64 2, .int .i64 0, .slice none 0 0]) ?_ 5 _ rfl; (with_reducible repeat (first | refine blk_drewN ?_ _ | refine blk_drew ?_ | refine blk_alloc ?_ _)); refine blk_put (cs := #[.int .u8 1, .int .i64 0, .int .i64 0, .int .i64 3, .int .i64 0, .int .i64 0, .slice none 0 0]) ?_ 4 _ rfl; (with_reducible repeat (first | refine blk_drewN ?_ _ | refine blk_drew ?_ | refine blk_alloc ?_ _)); refine blk_put (cs := #[.int .u8 1, .int .i64 0, .int .i64 0, .int .i64 0, .int .i64 0, .int .i64 0, .slice none 0 0]) ?_ 3 _ rfl; (with_reducible repeat (first | refine blk_drewN ?_ _ | refine blk_drew ?_ | refine blk_alloc ?_ _)); refine blk_put (cs := #[.int .u8 1, .int .i64 0, .int .i64 0, .int .i64 0, .int .i64 0, .int .i64 0, .slice none 0 0]) ?_ 2 _ rfl; (with_reducible repeat (first | refine blk_drewN ?_ _ | refine blk_drew ?_ | refine blk_alloc ?_ _)); refine blk_put (cs := #[.int .u8 1, .int .i64 0, .int .i64 0, .int .i64 0, .int .i64 0, .int .i64 0, .slice none 0 0]) ?_ 1 _ rfl; (with_reducible repeat (first | refine blk_drewN ?_ _ | refine blk_drew ?_ | refine blk_alloc ?_ _)); refine blk_put (cs := #[.int .u8 0, .int .i64 0, .int .i64 0, .int .i64 0, .int .i64 0, .int .i64 0, .slice none 0 0]) ?_ 0 _ rfl; (with_reducible repeat (first | refine blk_drewN ?_ _ | refine blk_drew ?_ | refine blk_alloc ?_ _)); exact BK986.out) hb); have n1_ := Aside0.mk (below_step (by repeat (first | (with_reducible first | exact HB.out | apply below_alloc | apply pw_below_drewN | apply below_drew1 | refine below_set ?_ GE986.out) | exact HB.out)) hb); have n2_ := Aside0.mk (hbox); have n3_ := Aside0.mk ((by rw [hg]; exact (below_size (by repeat (first | (with_reducible first | exact HB.out | apply below_alloc | apply pw_below_drewN | apply below_drew1 | refine below_set ?_ GE986.out) | exact HB.out))) : w.heap.size ≤ gb987)); have n4_ := Aside0.mk ((by rw [hg]; exact (below_size (by repeat (first | (with_reducible first | exact HB.out | apply below_alloc | apply pw_below_drewN | apply below_drew1 | refine below_set ?_ GE986.out) | exact HB.out))) : w.heap.size ≤ gb987)); have n5_ := Aside0.mk ((by rw [hg]; exact Nat.ne_of_lt (blk_lt (g := gb986) (o := .cells #[.int .u8 1, .int .i64 0, .int .i64 0, .int .i64 3, .int .i64 2, .int .i64 1, .slice none 0 0] 26 (0, 0)) (by (with_reducible repeat (first | refine blk_drewN ?_ _ | refine blk_drew ?_ | refine blk_alloc ?_ _)); refine blk_put (cs := #[.int .u8 1, .int .i64 0, .int .i64 0, .int .i64 3, .int .i64 2, .int .i64 1, .slice none 0 0]) ?_ 6 _ rfl; (with_reducible repeat (first | refine blk_drewN ?_ _ | refine blk_drew ?_ | refine blk_alloc ?_ _)); refine blk_put (cs := #[.int .u8 1, .int .i64 0, .int .i64 0, .int .i64 3, .int .i64 2, .int .i64 0, .slice none 0 0]) ?_ 5 _ rfl; (with_reducible repeat (first | refine blk_drewN ?_ _ | refine blk_drew ?_ | refine blk_alloc ?_ _)); refine blk_put (cs := #[.int .u8 1, .int .i64 0, .int .i64 0, .int .i64 3, .int .i64 0, .int .i64 0, .slice none 0 0]) ?_ 4 _ rfl; (with_reducible repeat (first | refine blk_drewN ?_ _ | refine blk_drew ?_ | refine blk_alloc ?_ _)); refine blk_put (cs := #[.int .u8 1, .int .i64 0, .int .i64 0, .int .i64 0, .int .i64 0, .int .i64 0, .slice none 0 0]) ?_ 3 _ rfl; (with_reducible repeat (first | refine blk_drewN ?_ _ | refine blk_drew ?_ | refine blk_alloc ?_ _)); refine blk_put (cs := #[.int .u8 1, .int .i64 0, .int .i64 0, .int .i64 0, .int .i64 0, .int .i64 0, .slice none 0 0]) ?_ 2 _ rfl; (with_reducible repeat (first | refine blk_drewN ?_ _ | refine blk_drew ?_ | refine blk_alloc ?_ _)); refine blk_put (cs := #[.int .u8 1, .int .i64 0, .int .i64 0, .int .i64 0, .int .i64 0, .int .i64 0, .slice none 0 0]) ?_ 1 _ rfl; (with_reducible repeat (first | refine blk_drewN ?_ _ | refine blk_drew ?_ | refine blk_alloc ?_ _)); refine blk_put (cs := #[.int .u8 0, .int .i64 0, .int .i64 0, .int .i64 0, .int .i64 0, .int .i64 0, .slice none 0 0]) ?_ 0 _ rfl; (with_reducible repeat (first | refine blk_drewN ?_ _ | refine blk_drew ?_ | refine blk_alloc ?_ _)); exact BK986.out)) : gb986 ≠ gb987)); have n6_ := Aside0.mk ((by rw [hg]; exact Nat.ne_of_gt (blk_lt (g := gb986) (o := .cells #[.int .u8 1, .int .i64 0, .int .i64 0, .int .i64 3, .int .i64 2, .int .i64 1, .slice none 0 0] 26 (0, 0)) (by (with_reducible repeat (first | refine blk_drewN ?_ _ | refine blk_drew ?_ | refine blk_alloc ?_ _)); refine blk_put (cs := #[.int .u8 1, .int .i64 0, .int .i64 0, .int .i64 3, .int .i64 2, .int .i64 1, .slice none 0 0]) ?_ 6 _ rfl; (with_reducible repeat (first | refine blk_drewN ?_ _ | refine blk_drew ?_ | refine blk_alloc ?_ _)); refine blk_put (cs := #[.int .u8 1, .int .i64 0, .int .i64 0, .int .i64 3, .int .i64 2, .int .i64 0, .slice none 0 0]) ?_ 5 _ rfl; (with_reducible repeat (first | refine blk_drewN ?_ _ | refine blk_drew ?_ | refine blk_alloc ?_ _)); refine blk_put (cs := #[.int .u8 1, .int .i64 0, .int .i64 0, .int .i64 3, .int .i64 0, .int .i64 0, .slice none 0 0]) ?_ 4 _ rfl; (with_reducible repeat (first | refine blk_drewN ?_ _ | refine blk_drew ?_ | refine blk_alloc ?_ _)); refine blk_put (cs := #[.int .u8 1, .int .i64 0, .int .i64 0, .int .i64 0, .int .i64 0, .int .i64 0, .slice none 0 0]) ?_ 3 _ rfl; (with_reducible repeat (first | refine blk_drewN ?_ _ | refine blk_drew ?_ | refine blk_alloc ?_ _)); refine blk_put (cs := #[.int .u8 1, .int .i64 0, .int .i64 0, .int .i64 0, .int .i64 0, .int .i64 0, .slice none 0 0]) ?_ 2 _ rfl; (with_reducible repeat (first | refine blk_drewN ?_ _ | refine blk_drew ?_ | refine blk_alloc ?_ _)); refine blk_put (cs := #[.int .u8 1, .int .i64 0, .int .i64 0, .int .i64 0, .int .i64 0, .int .i64 0, .slice none 0 0]) ?_ 1 _ rfl; (with_reducible repeat (first | refine blk_drewN ?_ _ | refine blk_drew ?_ | refine blk_alloc ?_ _)); refine blk_put (cs := #[.int .u8 0, .int .i64 0, .int .i64 0, .int .i64 0, .int .i64 0, .int .i64 0, .slice none 0 0]) ?_ 0 _ rfl; (with_reducible repeat (first | refine blk_drewN ?_ _ | refine blk_drew ?_ | refine blk_alloc ?_ _)); exact BK986.out)) : gb987 ≠ gb986)); clear BK986; clear HB; have BK986 := n0_; have HB := n1_; have BK987 := n2_; have GW987 := n3_; have GE987 := n4_; have NB986_987 := n5_; have NB987_986 := n6_; clear n0_ n1_ n2_ n3_ n4_ n5_ n6_; clear hb hbox hg; have hnb9 := NB987_986.out; have hnc9 := NB986_987.out; have hcz10_0 : w8.cell? ⟨gb987, 0, none⟩ = some (.int .u8 0) := (blk_cell BK987.out 0).trans rfl; have hcz10_1 : w8.cell? ⟨gb987, 1, none⟩ = some (.int .i64 0) := (blk_cell BK987.out 1).trans rfl; have hcz10_2 : w8.cell? ⟨gb987, 2, none⟩ = some (.int .i64 0) := (blk_cell BK987.out 2).trans rfl; have hcz10_3 : w8.cell? ⟨gb987, 3, none⟩ = some (.int .i64 0) := (blk_cell BK987.out 3).trans rfl; have hcz10_4 : w8.cell? ⟨gb987, 4, none⟩ = some (.int .i64 0) := (blk_cell BK987.out 4).trans rfl; have hcz10_5 : w8.cell? ⟨gb987, 5, none⟩ = some (.int .i64 0) := (blk_cell BK987.out 5).trans rfl; have hcz10_6 : w8.cell? ⟨gb987, 6, none⟩ = some (.slice none 0 0) := (blk_cell BK987.out 6).trans rfl; have hfz10_0 := blk_frozen BK987.out 0; have hfz10_1 := blk_frozen BK987.out 1; have hfz10_2 := blk_frozen BK987.out 2; have hfz10_3 := blk_frozen BK987.out 3; have hfz10_4 := blk_frozen BK987.out 4; have hfz10_5 := blk_frozen BK987.out 5; have hfz10_6 := blk_frozen BK987.out 6; have hcz11_0 : w8.cell? ⟨gb986, 0, none⟩ = some (.int .u8 1) := (blk_cell BK986.out 0).trans rfl; have hcz11_1 : w8.cell? ⟨gb986, 1, none⟩ = some (.int .i64 0) := (blk_cell BK986.out 1).trans rfl; have hcz11_2 : w8.cell? ⟨gb986, 2, none⟩ = some (.int .i64 0) := (blk_cell BK986.out 2).trans rfl; have hcz11_3 : w8.cell? ⟨gb986, 3, none⟩ = some (.int .i64 3) := (blk_cell BK986.out 3).trans rfl; have hcz11_4 : w8.cell? ⟨gb986, 4, none⟩ = some (.int .i64 2) := (blk_cell BK986.out 4).trans rfl; have hcz11_5 : w8.cell? ⟨gb986, 5, none⟩ = some (.int .i64 1) := (blk_cell BK986.out 5).trans rfl; have hcz11_6 : w8.cell? ⟨gb986, 6, none⟩ = some (.slice none 0 0) := (blk_cell BK986.out 6).trans rfl; have hfz11_0 := blk_frozen BK986.out 0; have hfz11_1 := blk_frozen BK986.out 1; have hfz11_2 := blk_frozen BK986.out 2; have hfz11_3 := blk_frozen BK986.out 3; have hfz11_4 := blk_frozen BK986.out 4; have hfz11_5 := blk_frozen BK986.out 5; have hfz11_6 := blk_frozen BK986.out 6) | ((with_reducible refine gate_dst (N := 11) rfl ?_); refine Kd.R_lit k26 _ 26 ?hg (N := 11) ?hd (xs := ([(⟨1, (⟨0, 0, 3, 2⟩ : S23), 1, ([] : List (S26))⟩ : S26), (⟨1, (⟨4, 0, 3, 2⟩ : S23), 2, ([] : List (S26))⟩ : S26)] : List (S26))) (inner := [.int .u8 1, .int .i64 0, .int .i64 0, .int .i64 3, .int .i64 2, .int .i64 1, .slice none 0 0, .int .u8 1, .int .i64 4, .int .i64 0, .int .i64 3, .int .i64 2, .int .i64 2, .slice none 0 0]) (ok := fun _ => True) (okp := fun _ => True) ?hr ?hp (fun _ hk => hk) trivial (Below.refl _ _) (Nat.le_refl _) (by simp) ?_; (case hd => rfl); (case hg => rfl); (case hr => first | (go_simp; done) | (go_simp; rfl)); (case hp => exact (Reps.c7 (show Kd.M k26 _ _ _ (⟨1, (⟨0, 0, 3, 2⟩ : S23), 1, ([] : List (S26))⟩ : S26) [.int .u8 1, .int .i64 0, .int .i64 0, .int .i64 3, .int .i64 2, .int .i64 1, .slice none 0 0] from (k26_mkM _ _ _ (⟨1, (⟨0, 0, 3, 2⟩ : S23), 1, ([] : List (S26))⟩ : S26) (Kd.R_nil _ _ _ _ _))) (Reps.c7 (show Kd.M k26 _ _ _ (⟨1, (⟨4, 0, 3, 2⟩ : S23), 2, ([] : List (S26))⟩ : S26) [.int .u8 1, .int .i64 4, .int .i64 0, .int .i64 3, .int .i64 2, .int .i64 2, .slice none 0 0] from (k26_mkM _ _ _ (⟨1, (⟨4, 0, 3, 2⟩ : S23), 2, ([] : List (S26))⟩ : S26) (Kd.R_nil _ _ _ _ _))) (Reps.none _ _)))); intro v989 w12 ho13 hb hg_ hnew_; clear hg_ hnew_; (first | rw [← Ny988.out] at ho13 | (simp only [Int.reduceToNat] at ho13; rw [← Ny988.out] at ho13)); have n0_ := Aside0.mk (Kd.R_lower (Kd.R_newB (Kd.R_newB ho13 (g := gb986) (o := .cells #[.int .u8 1, .int .i64 0, .int .i64 0, .int .i64 3, .int .i64 2, .int .i64 1, .slice none 0 0] 26 (0, 0)) (by (with_reducible repeat (first | refine blk_drewN ?_ _ | refine blk_drew ?_ | refine blk_alloc ?_ _)); refine blk_far ?_ NB986_987.out _; (with_reducible repeat (first | refine blk_drewN ?_ _ | refine blk_drew ?_ | refine blk_alloc ?_ _)); refine blk_far ?_ NB986_987.out _; (with_reducible repeat (first | refine blk_drewN ?_ _ | refine blk_drew ?_ | refine blk_alloc ?_ _)); refine blk_far ?_ NB986_987.out _; (with_reducible repeat (first | refine blk_drewN ?_ _ | refine blk_drew ?_ | refine blk_alloc ?_ _)); refine blk_far ?_ NB986_987.out _; (with_reducible repeat (first | refine blk_drewN ?_ _ | refine blk_drew ?_ | refine blk_alloc ?_ _)); refine blk_far ?_ NB986_987.out _; (with_reducible repeat (first | refine blk_drewN ?_ _ | refine blk_drew ?_ | refine blk_alloc ?_ _)); refine blk_far ?_ NB986_987.out _; (with_reducible repeat (first | refine blk_drewN ?_ _ | refine blk_drew ?_ | refine blk_alloc ?_ _)); refine blk_far ?_ NB986_987.out _; (with_reducible repeat (first | refine blk_drewN ?_ _ | refine blk_drew ?_ | refine blk_alloc ?_ _)); exact BK986.out)) (g := gb987) (o := .cells #[.int .u8 1, .int .i64 4, .int .i64 0, .int .i64 3, .int .i64 2, .int .i64 2, .slice none 0 0] 26 (0, 0)) (by (with_reducible repeat (first | refine blk_drewN ?_ _ | refine blk_drew ?_ | refine blk_alloc ?_ _)); refine blk_put (cs := #[.int .u8 1, .int .i64 4, .int .i64 0, .int .i64 3, .int .i64 2, .int .i64 2, .slice none 0 0]) ?_ 6 _ rfl; (with_reducible repeat (first | refine blk_drewN ?_ _ | refine blk_drew ?_ | refine blk_alloc ?_ _)); refine blk_put (cs := #[.int .u8 1, .int .i64 4, .int .i64 0, .int .i64 3, .int .i64 2, .int .i64 0, .slice none 0 0]) ?_ 5 _ rfl; (with_reducible repeat (first | refine blk_drewN ?_ _ | refine blk_drew ?_ | refine blk_alloc ?_ _)); refine blk_put (cs := #[.int .u8 1, .int .i64 4, .int .i64 0, .int .i64 3, .int .i64 0, .int .i64 0, .slice none 0 0]) ?_ 4 _ rfl; (with_reducible repeat (first | refine blk_drewN ?_ _ | refine blk_drew ?_ | refine blk_alloc ?_ _)); refine blk_put (cs := #[.int .u8 1, .int .i64 4, .int .i64 0, .int .i64 0, .int .i64 0, .int .i64 0, .slice none 0 0]) ?_ 3 _ rfl; (with_reducible repeat (first | refine blk_drewN ?_ _ | refine blk_drew ?_ | refine blk_alloc ?_ _)); refine blk_put (cs := #[.int .u8 1, .int .i64 4, .int .i64 0, .int .i64 0, .int .i64 0, .int .i64 0, .slice none 0 0]) ?_ 2 _ rfl; (with_reducible repeat (first | refine blk_drewN ?_ _ | refine blk_drew ?_ | refine blk_alloc ?_ _)); refine blk_put (cs := #[.int .u8 1, .int .i64 0, .int .i64 0, .int .i64 0, .int .i64 0, .int .i64 0, .slice none 0 0]) ?_ 1 _ rfl; (with_reducible repeat (first | refine blk_drewN ?_ _ | refine blk_drew ?_ | refine blk_alloc ?_ _)); refine blk_put (cs := #[.int .u8 0, .int .i64 0, .int .i64 0, .int .i64 0, .int .i64 0, .int .i64 0, .slice none 0 0]) ?_ 0 _ rfl; (with_reducible repeat (first | refine blk_drewN ?_ _ | refine blk_drew ?_ | refine blk_alloc ?_ _)); exact BK987.out)) (below_size (by repeat (first | (with_reducible first | exact HB.out | apply below_alloc | apply pw_below_drewN | apply below_drew1 | refine below_set ?_ GE986.out | refine below_set ?_ GE987.out) | exact HB.out)))); have n1_ := Aside0.mk (blk_below (g := gb986) (o := .cells #[.int .u8 1, .int .i64 0, .int .i64 0, .int .i64 3, .int .i64 2, .int .i64 1, .slice none 0 0] 26 (0, 0)) (by (with_reducible repeat (first | refine blk_drewN ?_ _ | refine blk_drew ?_ | refine blk_alloc ?_ _)); refine blk_far ?_ NB986_987.out _; (with_reducible repeat (first | refine blk_drewN ?_ _ | refine blk_drew ?_ | refine blk_alloc ?_ _)); refine blk_far ?_ NB986_987.out _; (with_reducible repeat (first | refine blk_drewN ?_ _ | refine blk_drew ?_ | refine blk_alloc ?_ _)); refine blk_far ?_ NB986_987.out _; (with_reducible repeat (first | refine blk_drewN ?_ _ | refine blk_drew ?_ | refine blk_alloc ?_ _)); refine blk_far ?_ NB986_987.out _; (with_reducible repeat (first | refine blk_drewN ?_ _ | refine blk_drew ?_ | refine blk_alloc ?_ _)); refine blk_far ?_ NB986_987.out _; (with_reducible repeat (first | refine blk_drewN ?_ _ | refine blk_drew ?_ | refine blk_alloc ?_ _)); refine blk_far ?_ NB986_987.out _; (with_reducible repeat (first | refine blk_drewN ?_ _ | refine blk_drew ?_ | refine blk_alloc ?_ _)); refine blk_far ?_ NB986_987.out _; (with_reducible repeat (first | refine blk_drewN ?_ _ | refine blk_drew ?_ | refine blk_alloc ?_ _)); exact BK986.out) hb); have n2_ := Aside0.mk (blk_below (g := gb987) (o := .cells #[.int .u8 1, .int .i64 4, .int .i64 0, .int .i64 3, .int .i64 2, .int .i64 2, .slice none 0 0] 26 (0, 0)) (by (with_reducible repeat (first | refine blk_drewN ?_ _ | refine blk_drew ?_ | refine blk_alloc ?_ _)); refine blk_put (cs := #[.int .u8 1, .int .i64 4, .int .i64 0, .int .i64 3, .int .i64 2, .int .i64 2, .slice none 0 0]) ?_ 6 _ rfl; (with_reducible repeat (first | refine blk_drewN ?_ _ | refine blk_drew ?_ | refine blk_alloc ?_ _)); refine blk_put (cs := #[.int .u8 1, .int .i64 4, .int .i64 0, .int .i64 3, .int .i64 2, .int .i64 0, .slice none 0 0]) ?_ 5 _ rfl; (with_reducible repeat (first | refine blk_drewN ?_ _ | refine blk_drew ?_ | refine blk_alloc ?_ _)); refine blk_put (cs := #[.int .u8 1, .int .i64 4, .int .i64 0, .int .i64 3, .int .i64 0, .int .i64 0, .slice none 0 0]) ?_ 4 _ rfl; (with_reducible repeat (first | refine blk_drewN ?_ _ | refine blk_drew ?_ | refine blk_alloc ?_ _)); refine blk_put (cs := #[.int .u8 1, .int .i64 4, .int .i64 0, .int .i64 0, .int .i64 0, .int .i64 0, .slice none 0 0]) ?_ 3 _ rfl; (with_reducible repeat (first | refine blk_drewN ?_ _ | refine blk_drew ?_ | refine blk_alloc ?_ _)); refine blk_put (cs := #[.int .u8 1, .int .i64 4, .int .i64 0, .int .i64 0, .int .i64 0, .int .i64 0, .slice none 0 0]) ?_ 2 _ rfl; (with_reducible repeat (first | refine blk_drewN ?_ _ | refine blk_drew ?_ | refine blk_alloc ?_ _)); refine blk_put (cs := #[.int .u8 1, .int .i64 0, .int .i64 0, .int .i64 0, .int .i64 0, .int .i64 0, .slice none 0 0]) ?_ 1 _ rfl; (with_reducible repeat (first | refine blk_drewN ?_ _ | refine blk_drew ?_ | refine blk_alloc ?_ _)); refine blk_put (cs := #[.int .u8 0, .int .i64 0, .int .i64 0, .int .i64 0, .int .i64 0, .int .i64 0, .slice none 0 0]) ?_ 0 _ rfl; (with_reducible repeat (first | refine blk_drewN ?_ _ | refine blk_drew ?_ | refine blk_alloc ?_ _)); exact BK987.out) hb); have n3_ := Aside0.mk (below_step (by repeat (first | (with_reducible first | exact HB.out | apply below_alloc | apply pw_below_drewN | apply below_drew1 | refine below_set ?_ GE986.out | refine below_set ?_ GE987.out) | exact HB.out)) hb); clear BK986; clear BK987; clear HB; have HO990 := n0_; have BK986 := n1_; have BK987 := n2_; have HB := n3_; clear n0_ n1_ n2_ n3_; clear hb ho13; obtain ⟨Ao14, co14, eo14⟩ := Kd.R_slice HO990.out; subst eo14) | ((with_reducible refine gate_dst (N := 3) rfl ?_); refine box_event ?hg (N := 3) ?hd (cs := #[.int .u8 0, .int .i64 0, .int .i64 0, .int .i64 0, .int .i64 0, .int .i64 0, .slice none 0 0]) (t := 26) ?hr ?_; (case hd => rfl); (case hg => rfl); (case hr => first | (go_simp; done) | (go_simp; rfl)); intro gb991 hg w15 hbox hb; have n0_ := Aside0.mk (Kd.R_below (Kd.R_elderB (by (with_reducible repeat (first | apply Kd.R_alloc | apply Kd.R_drewN | apply Kd.R_drew)); exact HO990.out) gb991 (Nat.le_of_eq hg.symm)) hb); have n1_ := Aside0.mk (blk_below (g := gb986) (o := .cells #[.int .u8 1, .int .i64 0, .int .i64 0, .int .i64 3, .int .i64 2, .int .i64 1, .slice none 0 0] 26 (0, 0)) (by (with_reducible repeat (first | refine blk_drewN ?_ _ | refine blk_drew ?_ | refine blk_alloc ?_ _)); exact BK986.out) hb); have n2_ := Aside0.mk (blk_below (g := gb987) (o := .cells #[.int .u8 1, .int .i64 4, .int .i64 0, .int .i64 3, .int .i64 2, .int .i64 2, .slice none 0 0] 26 (0, 0)) (by (with_reducible repeat (first | refine blk_drewN ?_ _ | refine blk_drew ?_ | refine blk_alloc ?_ _)); exact BK987.out) hb); have n3_ := Aside0.mk (below_step (by repeat (first | (with_reducible first | exact HB.out | apply below_alloc | apply pw_below_drewN | apply below_drew1 | refine below_set ?_ GE986.out | refine below_set ?_ GE987.out) | exact HB.out)) hb); have n4_ := Aside0.mk (hbox); have n5_ := Aside0.mk ((by rw [hg]; exact (below_size (by repeat (first | (with_reducible first | exact HB.out | apply below_alloc | apply pw_below_drewN | apply below_drew1 | refine below_set ?_ GE986.out | refine below_set ?_ GE987.out) | exact HB.out))) : w.heap.size ≤ gb991)); have n6_ := Aside0.mk ((by rw [hg]; exact (below_size (by repeat (first | (with_reducible first | exact HB.out | apply below_alloc | apply pw_below_drewN | apply below_drew1 | refine below_set ?_ GE986.out | refine below_set ?_ GE987.out) | exact HB.out))) : w.heap.size ≤ gb991)); have n7_ := Aside0.mk ((by rw [hg]; exact Nat.ne_of_lt (blk_lt (g := gb986) (o := .cells #[.int .u8 1, .int .i64 0, .int .i64 0, .int .i64 3, .int .i64 2, .int .i64 1, .slice none 0 0] 26 (0, 0)) (by (with_reducible repeat (first | refine blk_drewN ?_ _ | refine blk_drew ?_ | refine blk_alloc ?_ _)); exact BK986.out)) : gb986 ≠ gb991)); have n8_ := Aside0.mk ((by rw [hg]; exact Nat.ne_of_gt (blk_lt (g := gb986) (o := .cells #[.int .u8 1, .int .i64 0, .int .i64 0, .int .i64 3, .int .i64 2, .int .i64 1, .slice none 0 0] 26 (0, 0)) (by (with_reducible repeat (first | refine blk_drewN ?_ _ | refine blk_drew ?_ | refine blk_alloc ?_ _)); exact BK986.out)) : gb991 ≠ gb986)); have n9_ := Aside0.mk ((by rw [hg]; exact Nat.ne_of_lt (blk_lt (g := gb987) (o := .cells #[.int .u8 1, .int .i64 4, .int .i64 0, .int .i64 3, .int .i64 2, .int .i64 2, .slice none 0 0] 26 (0, 0)) (by (with_reducible repeat (first | refine blk_drewN ?_ _ | refine blk_drew ?_ | refine blk_alloc ?_ _)); exact BK987.out)) : gb987 ≠ gb991)); have n10_ := Aside0.mk ((by rw [hg]; exact Nat.ne_of_gt (blk_lt (g := gb987) (o := .cells #[.int .u8 1, .int .i64 4, .int .i64 0, .int .i64 3, .int .i64 2, .int .i64 2, .slice none 0 0] 26 (0, 0)) (by (with_reducible repeat (first | refine blk_drewN ?_ _ | refine blk_drew ?_ | refine blk_alloc ?_ _)); exact BK987.out)) : gb991 ≠ gb987)); clear HO990; clear BK986; clear BK987; clear HB; have HO990 := n0_; have BK986 := n1_; have BK987 := n2_; have HB := n3_; have BK991 := n4_; have GW991 := n5_; have GE991 := n6_; have NB986_991 := n7_; have NB991_986 := n8_; have NB987_991 := n9_; have NB991_987 := n10_; clear n0_ n1_ n2_ n3_ n4_ n5_ n6_ n7_ n8_ n9_ n10_; clear hb hbox hg; have hnb16 := NB991_986.out; have hnc16 := NB986_991.out; have hnb17 := NB991_987.out; have hnc17 := NB987_991.out; have hcz18_0 : w15.cell? ⟨gb991, 0, none⟩ = some (.int .u8 0) := (blk_cell BK991.out 0).trans rfl; have hcz18_1 : w15.cell? ⟨gb991, 1, none⟩ = some (.int .i64 0) := (blk_cell BK991.out 1).trans rfl; have hcz18_2 : w15.cell? ⟨gb991, 2, none⟩ = some (.int .i64 0) := (blk_cell BK991.out 2).trans rfl; have hcz18_3 : w15.cell? ⟨gb991, 3, none⟩ = some (.int .i64 0) := (blk_cell BK991.out 3).trans rfl; have hcz18_4 : w15.cell? ⟨gb991, 4, none⟩ = some (.int .i64 0) := (blk_cell BK991.out 4).trans rfl; have hcz18_5 : w15.cell? ⟨gb991, 5, none⟩ = some (.int .i64 0) := (blk_cell BK991.out 5).trans rfl; have hcz18_6 : w15.cell? ⟨gb991, 6, none⟩ = some (.slice none 0 0) := (blk_cell BK991.out 6).trans rfl; have hfz18_0 := blk_frozen BK991.out 0; have hfz18_1 := blk_frozen BK991.out 1; have hfz18_2 := blk_frozen BK991.out 2; have hfz18_3 := blk_frozen BK991.out 3; have hfz18_4 := blk_frozen BK991.out 4; have hfz18_5 := blk_frozen BK991.out 5; have hfz18_6 := blk_frozen BK991.out 6) | ((with_reducible refine gate_store (t := 26) (p := 3) rfl ?_); refine store_event (t := 26) (p := 3) (v := ?vo_w19) (w1 := (((((((w15.setCell ⟨gb991, 0, none⟩ (.int .u8 2)).setCell ⟨gb991, 1, none⟩ (.int .i64 0)).setCell ⟨gb991, 2, none⟩ (.int .i64 0)).setCell ⟨gb991, 3, none⟩ (.int .i64 7)).setCell ⟨gb991, 4, none⟩ (.int .i64 2)).setCell ⟨gb991, 5, none⟩ (.int .i64 0)).setCell ⟨gb991, 6, none⟩ (.slice Ao14 y988.length co14))) ?hg ?ho ?hn ?hr ?_; (case ho => rfl); (case hg => rfl); (case hn => rfl); (case hr => first | (go_simp; done) | (go_simp; rfl)); intro w19 hw; have n0_ : Aside0 (Kd.R k26 26 w19 w.heap.size (fun k_ => k_ ≠ gb986 ∧ k_ ≠ gb987 ∧ k_ ≠ gb991) (.slice Ao14 y988.length co14) y988) := ⟨(by rw [hw]; exact (by (with_reducible repeat (first | apply Kd.R_alloc | apply Kd.R_drewN | apply Kd.R_drew)); exact Kd.R_mono (Kd.R_far (p := ⟨gb991, 6, none⟩) (Kd.R_far (p := ⟨gb991, 5, none⟩) (Kd.R_far (p := ⟨gb991, 4, none⟩) (Kd.R_far (p := ⟨gb991, 3, none⟩) (Kd.R_far (p := ⟨gb991, 2, none⟩) (Kd.R_far (p := ⟨gb991, 1, none⟩) (Kd.R_far (p := ⟨gb991, 0, none⟩) (Kd.R_mono HO990.out (fun k_ hk => (⟨hk, hk.2⟩ : _ ∧ k_ ≠ gb991))) (fun _ hk => hk.2) (.int .u8 2)) (fun _ hk => hk.2) (.int .i64 0)) (fun _ hk => hk.2) (.int .i64 0)) (fun _ hk => hk.2) (.int .i64 7)) (fun _ hk => hk.2) (.int .i64 2)) (fun _ hk => hk.2) (.int .i64 0)) (fun _ hk => hk.2) (.slice Ao14 y988.length co14)) (fun _ hk => ⟨hk.1.1.1.2, ⟨hk.1.1.2, hk.1.2⟩⟩)))⟩; have n1_ : Aside0 (w19.heap[gb986]? = some (.cells #[.int .u8 1, .int .i64 0, .int .i64 0, .int .i64 3, .int .i64 2, .int .i64 1, .slice none 0 0] 26 (0, 0))) := ⟨(by rw [hw]; exact (by (with_reducible repeat (first | refine blk_drewN ?_ _ | refine blk_drew ?_ | refine blk_alloc ?_ _)); refine blk_far ?_ NB986_991.out _; (with_reducible repeat (first | refine blk_drewN ?_ _ | refine blk_drew ?_ | refine blk_alloc ?_ _)); refine blk_far ?_ NB986_991.out _; (with_reducible repeat (first | refine blk_drewN ?_ _ | refine blk_drew ?_ | refine blk_alloc ?_ _)); refine blk_far ?_ NB986_991.out _; (with_reducible repeat (first | refine blk_drewN ?_ _ | refine blk_drew ?_ | refine blk_alloc ?_ _)); refine blk_far ?_ NB986_991.out _; (with_reducible repeat (first | refine blk_drewN ?_ _ | refine blk_drew ?_ | refine blk_alloc ?_ _)); refine blk_far ?_ NB986_991.out _; (with_reducible repeat (first | refine blk_drewN ?_ _ | refine blk_drew ?_ | refine blk_alloc ?_ _)); refine blk_far ?_ NB986_991.out _; (with_reducible repeat (first | refine blk_drewN ?_ _ | refine blk_drew ?_ | refine blk_alloc ?_ _)); refine blk_far ?_ NB986_991.out _; (with_reducible repeat (first | refine blk_drewN ?_ _ | refine blk_drew ?_ | refine blk_alloc ?_ _)); exact BK986.out))⟩; have n2_ : Aside0 (w19.heap[gb987]? = some (.cells #[.int .u8 1, .int .i64 4, .int .i64 0, .int .i64 3, .int .i64 2, .int .i64 2, .slice none 0 0] 26 (0, 0))) := ⟨(by rw [hw]; exact (by (with_reducible repeat (first | refine blk_drewN ?_ _ | refine blk_drew ?_ | refine blk_alloc ?_ _)); refine blk_far ?_ NB987_991.out _; (with_reducible repeat (first | refine blk_drewN ?_ _ | refine blk_drew ?_ | refine blk_alloc ?_ _)); refine blk_far ?_ NB987_991.out _; (with_reducible repeat (first | refine blk_drewN ?_ _ | refine blk_drew ?_ | refine blk_alloc ?_ _)); refine blk_far ?_ NB987_991.out _; (with_reducible repeat (first | refine blk_drewN ?_ _ | refine blk_drew ?_ | refine blk_alloc ?_ _)); refine blk_far ?_ NB987_991.out _; (with_reducible repeat (first | refine blk_drewN ?_ _ | refine blk_drew ?_ | refine blk_alloc ?_ _)); refine blk_far ?_ NB987_991.out _; (with_reducible repeat (first | refine blk_drewN ?_ _ | refine blk_drew ?_ | refine blk_alloc ?_ _)); refine blk_far ?_ NB987_991.out _; (with_reducible repeat (first | refine blk_drewN ?_ _ | refine blk_drew ?_ | refine blk_alloc ?_ _)); refine blk_far ?_ NB987_991.out _; (with_reducible repeat (first | refine blk_drewN ?_ _ | refine blk_drew ?_ | refine blk_alloc ?_ _)); exact BK987.out))⟩; have n3_ : Aside0 (w19.heap[gb991]? = some (.cells #[.int .u8 2, .int .i64 0, .int .i64 0, .int .i64 7, .int .i64 2, .int .i64 0, .slice Ao14 y988.length co14] 26 (0, 0))) := ⟨(by rw [hw]; exact (by (with_reducible repeat (first | refine blk_drewN ?_ _ | refine blk_drew ?_ | refine blk_alloc ?_ _)); refine blk_put (cs := #[.int .u8 2, .int .i64 0, .int .i64 0, .int .i64 7, .int .i64 2, .int .i64 0, .slice none 0 0]) ?_ 6 _ rfl; (with_reducible repeat (first | refine blk_drewN ?_ _ | refine blk_drew ?_ | refine blk_alloc ?_ _)); refine blk_put (cs := #[.int .u8 2, .int .i64 0, .int .i64 0, .int .i64 7, .int .i64 2, .int .i64 0, .slice none 0 0]) ?_ 5 _ rfl; (with_reducible repeat (first | refine blk_drewN ?_ _ | refine blk_drew ?_ | refine blk_alloc ?_ _)); refine blk_put (cs := #[.int .u8 2, .int .i64 0, .int .i64 0, .int .i64 7, .int .i64 0, .int .i64 0, .slice none 0 0]) ?_ 4 _ rfl; (with_reducible repeat (first | refine blk_drewN ?_ _ | refine blk_drew ?_ | refine blk_alloc ?_ _)); refine blk_put (cs := #[.int .u8 2, .int .i64 0, .int .i64 0, .int .i64 0, .int .i64 0, .int .i64 0, .slice none 0 0]) ?_ 3 _ rfl; (with_reducible repeat (first | refine blk_drewN ?_ _ | refine blk_drew ?_ | refine blk_alloc ?_ _)); refine blk_put (cs := #[.int .u8 2, .int .i64 0, .int .i64 0, .int .i64 0, .int .i64 0, .int .i64 0, .slice none 0 0]) ?_ 2 _ rfl; (with_reducible repeat (first | refine blk_drewN ?_ _ | refine blk_drew ?_ | refine blk_alloc ?_ _)); refine blk_put (cs := #[.int .u8 2, .int .i64 0, .int .i64 0, .int .i64 0, .int .i64 0, .int .i64 0, .slice none 0 0]) ?_ 1 _ rfl; (with_reducible repeat (first | refine blk_drewN ?_ _ | refine blk_drew ?_ | refine blk_alloc ?_ _)); refine blk_put (cs := #[.int .u8 0, .int .i64 0, .int .i64 0, .int .i64 0, .int .i64 0, .int .i64 0, .slice none 0 0]) ?_ 0 _ rfl; (with_reducible repeat (first | refine blk_drewN ?_ _ | refine blk_drew ?_ | refine blk_alloc ?_ _)); exact BK991.out))⟩; have n4_ : Aside0 (Below w.heap.size w w19) := ⟨(by rw [hw]; exact (by repeat (first | (with_reducible first | exact HB.out | apply below_alloc | apply pw_below_drewN | apply below_drew1 | refine below_set ?_ GE986.out | refine below_set ?_ GE987.out | refine below_set ?_ GE991.out) | exact HB.out)))⟩; clear hw; clear HO990; clear BK986; clear BK987; clear BK991; clear HB; have HO990 := n0_; have BK986 := n1_; have BK987 := n2_; have BK991 := n3_; have HB := n4_; clear n0_ n1_ n2_ n3_ n4_; have hcz20_0 : w19.cell? ⟨gb991, 0, none⟩ = some (.int .u8 2) := (blk_cell BK991.out 0).trans rfl; have hcz20_1 : w19.cell? ⟨gb991, 1, none⟩ = some (.int .i64 0) := (blk_cell BK991.out 1).trans rfl; have hcz20_2 : w19.cell? ⟨gb991, 2, none⟩ = some (.int .i64 0) := (blk_cell BK991.out 2).trans rfl; have hcz20_3 : w19.cell? ⟨gb991, 3, none⟩ = some (.int .i64 7) := (blk_cell BK991.out 3).trans rfl; have hcz20_4 : w19.cell? ⟨gb991, 4, none⟩ = some (.int .i64 2) := (blk_cell BK991.out 4).trans rfl; have hcz20_5 : w19.cell? ⟨gb991, 5, none⟩ = some (.int .i64 0) := (blk_cell BK991.out 5).trans rfl; have hcz20_6 : w19.cell? ⟨gb991, 6, none⟩ = some (.slice Ao14 y988.length co14) := (blk_cell BK991.out 6).trans rfl; have hfz20_0 := blk_frozen BK991.out 0; have hfz20_1 := blk_frozen BK991.out 1; have hfz20_2 := blk_frozen BK991.out 2; have hfz20_3 := blk_frozen BK991.out 3; have hfz20_4 := blk_frozen BK991.out 4; have hfz20_5 := blk_frozen BK991.out 5; have hfz20_6 := blk_frozen BK991.out 6) | ((with_reducible refine gate_callee (f := 93) rfl ?_); refine goesL_ (some 14) rfl rfl Try.func93 (by kernel_rfl) rfl #[.agg #[.int .u8 2, .int .i64 0, .int .i64 0, .int .i64 7, .int .i64 2, .int .i64 0, .slice Ao14 y988.length co14], .int .u8 1] rfl (by (try simp only [List.map_toArray, List.map_cons, List.map_nil]); first | done | rfl | (simp only [List.length_drop, List.length_take]; rfl)) ?_; (with_reducible refine (least_Least.calls k 2 0 0 7 2 0 (fun k_ => (k_ ≠ gb986 ∧ (k_ ≠ gb987 ∧ k_ ≠ gb991))) _ _ y988 1 t992 _ ?side1 A1.out).mono ?_); (case side1 => exact Kd.R_V (HO990.out)); rintro e w21 ⟨rfl, hb⟩; refine ⟨_, rfl, ?_⟩; have n0_ := Aside0.mk (Kd.R_below (by (with_reducible repeat (first | apply Kd.R_alloc | apply Kd.R_drewN | apply Kd.R_drew)); exact HO990.out) hb); have n1_ := Aside0.mk (blk_below (g := gb986) (o := .cells #[.int .u8 1, .int .i64 0, .int .i64 0, .int .i64 3, .int .i64 2, .int .i64 1, .slice none 0 0] 26 (0, 0)) (by (with_reducible repeat (first | refine blk_drewN ?_ _ | refine blk_drew ?_ | refine blk_alloc ?_ _)); exact BK986.out) hb); have n2_ := Aside0.mk (blk_below (g := gb987) (o := .cells #[.int .u8 1, .int .i64 4, .int .i64 0, .int .i64 3, .int .i64 2, .int .i64 2, .slice none 0 0] 26 (0, 0)) (by (with_reducible repeat (first | refine blk_drewN ?_ _ | refine blk_drew ?_ | refine blk_alloc ?_ _)); exact BK987.out) hb); have n3_ := Aside0.mk (blk_below (g := gb991) (o := .cells #[.int .u8 2, .int .i64 0, .int .i64 0, .int .i64 7, .int .i64 2, .int .i64 0, .slice Ao14 y988.length co14] 26 (0, 0)) (by (with_reducible repeat (first | refine blk_drewN ?_ _ | refine blk_drew ?_ | refine blk_alloc ?_ _)); exact BK991.out) hb); have n4_ := Aside0.mk (below_step (by repeat (first | (with_reducible first | exact HB.out | apply below_alloc | apply pw_below_drewN | apply below_drew1 | refine below_set ?_ GE986.out | refine below_set ?_ GE987.out | refine below_set ?_ GE991.out) | exact HB.out)) hb); clear HO990; clear BK986; clear BK987; clear BK991; clear HB; have HO990 := n0_; have BK986 := n1_; have BK987 := n2_; have BK991 := n3_; have HB := n4_; clear n0_ n1_ n2_ n3_ n4_; (try clear hb); (try clear hb2); (try clear hk); (try clear hi); have hcz22_0 : w21.cell? ⟨gb991, 0, none⟩ = some (.int .u8 2) := (blk_cell BK991.out 0).trans rfl; have hcz22_1 : w21.cell? ⟨gb991, 1, none⟩ = some (.int .i64 0) := (blk_cell BK991.out 1).trans rfl; have hcz22_2 : w21.cell? ⟨gb991, 2, none⟩ = some (.int .i64 0) := (blk_cell BK991.out 2).trans rfl; have hcz22_3 : w21.cell? ⟨gb991, 3, none⟩ = some (.int .i64 7) := (blk_cell BK991.out 3).trans rfl; have hcz22_4 : w21.cell? ⟨gb991, 4, none⟩ = some (.int .i64 2) := (blk_cell BK991.out 4).trans rfl; have hcz22_5 : w21.cell? ⟨gb991, 5, none⟩ = some (.int .i64 0) := (blk_cell BK991.out 5).trans rfl; have hcz22_6 : w21.cell? ⟨gb991, 6, none⟩ = some (.slice Ao14 y988.length co14) := (blk_cell BK991.out 6).trans rfl; have hfz22_0 := blk_frozen BK991.out 0; have hfz22_1 := blk_frozen BK991.out 1; have hfz22_2 := blk_frozen BK991.out 2; have hfz22_3 := blk_frozen BK991.out 3; have hfz22_4 := blk_frozen BK991.out 4; have hfz22_5 := blk_frozen BK991.out 5; have hfz22_6 := blk_frozen BK991.out 6) | (go_at_call 93; (with_reducible refine (least_Least.calls k 2 0 0 7 2 0 (fun k_ => (k_ ≠ gb986 ∧ (k_ ≠ gb987 ∧ k_ ≠ gb991))) _ _ y988 2 t993 _ ?side1 A3.out).mono ?_); (case side1 => exact Kd.R_V (HO990.out)); rintro e w23 ⟨rfl, hb⟩; have n0_ := Aside0.mk (Kd.R_below (by (with_reducible repeat (first | apply Kd.R_alloc | apply Kd.R_drewN | apply Kd.R_drew)); exact HO990.out) hb); have n1_ := Aside0.mk (blk_below (g := gb986) (o := .cells #[.int .u8 1, .int .i64 0, .int .i64 0, .int .i64 3, .int .i64 2, .int .i64 1, .slice none 0 0] 26 (0, 0)) (by (with_reducible repeat (first | refine blk_drewN ?_ _ | refine blk_drew ?_ | refine blk_alloc ?_ _)); exact BK986.out) hb); have n2_ := Aside0.mk (blk_below (g := gb987) (o := .cells #[.int .u8 1, .int .i64 4, .int .i64 0, .int .i64 3, .int .i64 2, .int .i64 2, .slice none 0 0] 26 (0, 0)) (by (with_reducible repeat (first | refine blk_drewN ?_ _ | refine blk_drew ?_ | refine blk_alloc ?_ _)); exact BK987.out) hb); have n3_ := Aside0.mk (blk_below (g := gb991) (o := .cells #[.int .u8 2, .int .i64 0, .int .i64 0, .int .i64 7, .int .i64 2, .int .i64 0, .slice Ao14 y988.length co14] 26 (0, 0)) (by (with_reducible repeat (first | refine blk_drewN ?_ _ | refine blk_drew ?_ | refine blk_alloc ?_ _)); exact BK991.out) hb); have n4_ := Aside0.mk (below_step (by repeat (first | (with_reducible first | exact HB.out | apply below_alloc | apply pw_below_drewN | apply below_drew1 | refine below_set ?_ GE986.out | refine below_set ?_ GE987.out | refine below_set ?_ GE991.out) | exact HB.out)) hb); clear HO990; clear BK986; clear BK987; clear BK991; clear HB; have HO990 := n0_; have BK986 := n1_; have BK987 := n2_; have BK991 := n3_; have HB := n4_; clear n0_ n1_ n2_ n3_ n4_; (try clear hb); (try clear hb2); (try clear hk); (try clear hi); have hcz24_0 : w23.cell? ⟨gb991, 0, none⟩ = some (.int .u8 2) := (blk_cell BK991.out 0).trans rfl; have hcz24_1 : w23.cell? ⟨gb991, 1, none⟩ = some (.int .i64 0) := (blk_cell BK991.out 1).trans rfl; have hcz24_2 : w23.cell? ⟨gb991, 2, none⟩ = some (.int .i64 0) := (blk_cell BK991.out 2).trans rfl; have hcz24_3 : w23.cell? ⟨gb991, 3, none⟩ = some (.int .i64 7) := (blk_cell BK991.out 3).trans rfl; have hcz24_4 : w23.cell? ⟨gb991, 4, none⟩ = some (.int .i64 2) := (blk_cell BK991.out 4).trans rfl; have hcz24_5 : w23.cell? ⟨gb991, 5, none⟩ = some (.int .i64 0) := (blk_cell BK991.out 5).trans rfl; have hcz24_6 : w23.cell? ⟨gb991, 6, none⟩ = some (.slice Ao14 y988.length co14) := (blk_cell BK991.out 6).trans rfl; have hfz24_0 := blk_frozen BK991.out 0; have hfz24_1 := blk_frozen BK991.out 1; have hfz24_2 := blk_frozen BK991.out 2; have hfz24_3 := blk_frozen BK991.out 3; have hfz24_4 := blk_frozen BK991.out 4; have hfz24_5 := blk_frozen BK991.out 5; have hfz24_6 := blk_frozen BK991.out 6) | (go_at_call 86; (with_reducible refine (least_Gives.calls k 2 0 0 7 2 0 (fun k_ => (k_ ≠ gb986 ∧ (k_ ≠ gb987 ∧ k_ ≠ gb991))) _ _ y988 1 t994 _ ?side1 A5.out).mono ?_); (case side1 => exact Kd.R_V (HO990.out)); rintro e w25 ⟨rfl, hb⟩; have n0_ := Aside0.mk (Kd.R_below (by (with_reducible repeat (first | apply Kd.R_alloc | apply Kd.R_drewN | apply Kd.R_drew)); exact HO990.out) hb); have n1_ := Aside0.mk (blk_below (g := gb986) (o := .cells #[.int .u8 1, .int .i64 0, .int .i64 0, .int .i64 3, .int .i64 2, .int .i64 1, .slice none 0 0] 26 (0, 0)) (by (with_reducible repeat (first | refine blk_drewN ?_ _ | refine blk_drew ?_ | refine blk_alloc ?_ _)); exact BK986.out) hb); have n2_ := Aside0.mk (blk_below (g := gb987) (o := .cells #[.int .u8 1, .int .i64 4, .int .i64 0, .int .i64 3, .int .i64 2, .int .i64 2, .slice none 0 0] 26 (0, 0)) (by (with_reducible repeat (first | refine blk_drewN ?_ _ | refine blk_drew ?_ | refine blk_alloc ?_ _)); exact BK987.out) hb); have n3_ := Aside0.mk (blk_below (g := gb991) (o := .cells #[.int .u8 2, .int .i64 0, .int .i64 0, .int .i64 7, .int .i64 2, .int .i64 0, .slice Ao14 y988.length co14] 26 (0, 0)) (by (with_reducible repeat (first | refine blk_drewN ?_ _ | refine blk_drew ?_ | refine blk_alloc ?_ _)); exact BK991.out) hb); have n4_ := Aside0.mk (below_step (by repeat (first | (with_reducible first | exact HB.out | apply below_alloc | apply pw_below_drewN | apply below_drew1 | refine below_set ?_ GE986.out | refine below_set ?_ GE987.out | refine below_set ?_ GE991.out) | exact HB.out)) hb); clear HO990; clear BK986; clear BK987; clear BK991; clear HB; have HO990 := n0_; have BK986 := n1_; have BK987 := n2_; have BK991 := n3_; have HB := n4_; clear n0_ n1_ n2_ n3_ n4_; (try clear hb); (try clear hb2); (try clear hk); (try clear hi)))
  go_ret
  exact ⟨by first | rfl | (simp [errW_none, errW_some] <;> rfl) | (simp [*, errW_none, errW_some] <;> rfl), by repeat (first | (with_reducible first | exact HB.out | apply below_alloc | apply pw_below_drewN | apply below_drew1 | refine below_set ?_ GE986.out | refine below_set ?_ GE987.out | refine below_set ?_ GE991.out) | exact HB.out)⟩
end Go.Proofs.Ytfdmfgaiblfbhaa.P
