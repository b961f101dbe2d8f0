-- Written by a program for this claim; Lean checks it.
import Derived.Test.YtfdmfgaiblfbhaaPK
import Derived.Test.YtfdmfgaiblfbhaaPF57
namespace Go.Proofs.Ytfdmfgaiblfbhaa.P
open Go.RowKit Go.Proofs.YtfdmfgaiblfbhaaW.PrintWords Go.Proofs.YtfdmfgaiblfbhaaW.PrintLast Go.Proofs.YtfdmfgaiblfbhaaW.PrintMore
attribute [local go_sem] max2_int min2_int max_two min_two max_three min_three max_four min_four   -- for this text's walks alone
set_option linter.unusedVariables false
set_option linter.unusedSimpArgs false

/-! ### sashref04_Area: function 73 -/
def sashref04_Area.l0 : Nat → List (S23) → Int → Int → Int → Option (Int)
  | 0, _, _, _, _ => none
  | k + 1, x0, x3, x6, x7 => if x7 < x6 then (if 0 ≤ x7 then (if x7 < (x0.length : Int) then ((sashref04_May.f ((rd_T23 x0 x7).f0) ((rd_T23 x0 x7).f1) ((rd_T23 x0 x7).f2) ((rd_T23 x0 x7).f3)).bind fun t615 => (if t615 = true then (sashref04_Area.l0 k x0 (wrap64 (x3 + (wrap64 (((rd_T23 x0 x7).f2) * ((rd_T23 x0 x7).f3))))) x6 (wrap64 (x7 + 1))) else (sashref04_Area.l0 k x0 x3 x6 (wrap64 (x7 + 1))))) else (none)) else (none)) else (some x3)
def sashref04_Area.f (k : Nat) (l0 : List (S23)) : Option (Int) := sashref04_Area.l0 k l0 0 (l0.length : Int) 0
theorem sashref04_Area.mono_l : ∀ k, (∀ y0 y1 y2 y3, LeO (sashref04_Area.l0 k y0 y1 y2 y3) (sashref04_Area.l0 (k + 1) y0 y1 y2 y3))
  | 0 => fun _ _ _ _ r h => by simp [sashref04_Area.l0] at h
  | k + 1 => by
    have ih0 := sashref04_Area.mono_l k
    · intro y0 y1 y2 y3
      unfold sashref04_Area.l0
      repeat' first
      | (with_reducible exact ih0 _ _ _ _)
      | (with_reducible exact LeO.refl _)
      | (with_reducible exact LeO.none _)
      | (with_reducible refine LeO.ite ?_ ?_)
      | (with_reducible refine LeO.bind ?_ (fun _ => ?_))
      | exact ih0 _ _ _ _
      | exact LeO.none _
      | refine LeO.ite ?_ ?_
      | refine LeO.bind ?_ (fun _ => ?_)
theorem sashref04_Area.mono : ∀ a0 k, LeO (sashref04_Area.f k a0) (sashref04_Area.f (k + 1) a0) := by
  intro a0 k
  have ih0 := sashref04_Area.mono_l k
  unfold sashref04_Area.f
  repeat' first
      | (with_reducible exact ih0 _ _ _ _)
      | (with_reducible exact LeO.refl _)
      | (with_reducible exact LeO.none _)
      | (with_reducible refine LeO.ite ?_ ?_)
      | (with_reducible refine LeO.bind ?_ (fun _ => ?_))
      | exact ih0 _ _ _ _
      | exact LeO.none _
      | refine LeO.ite ?_ ?_
      | refine LeO.bind ?_ (fun _ => ?_)
set_option maxHeartbeats 8000000 in
set_option maxRecDepth 100000 in
theorem sashref04_Area.calls (k : Nat) (A0 : Option Addr) (c0 : Nat) (l0 : List (S23)) (r : Int) (w : World) (hr0 : Kd.C k23 w A0 l0.length l0) (hc0 : l0.length ≤ c0) (h : sashref04_Area.f k l0 = some r) :
    Calls Try.prog 73 #[.slice A0 l0.length c0] w fun e w' => e = .returned (.int .i64 r) ∧ Below w.heap.size w w' := by
  have hu23 := Try.underlying23
  have HR0 := Aside0.mk hr0
  have HC0 := Aside0.mk hc0
  clear hr0 hc0
  have HB := Aside0.mk (Below.refl w.heap.size w)
  have H : (sashref04_Area.l0 k l0 0 (l0.length : Int) 0) = some r := h
  clear h
  have H' := Aside0.mk H
  clear H
  go_enter Try.func73, Try.ntmps73
  go_wp2
  repeat (go_quiet (fail); try go_wp2)
  go_loopg [3, 7] k (fun kq v3 v7 w' => ∃ (x3_1 : Int) (x7_1 : Int), v3 = .int .i64 x3_1 ∧ v7 = .int .i64 x7_1 ∧ Aside0 (sashref04_Area.l0 kq l0 x3_1 (l0.length : Int) x7_1 = some r) ∧ Aside0 (kq ≤ k) ∧ Aside0 (Below w.heap.size w w'))
  case atStart => exact ⟨(0), (0), (by first | rfl | (simp; done) | (simp [*]; done)), (by first | rfl | (simp; done) | (simp [*]; done)), H', ⟨Nat.le_refl _⟩, ⟨by repeat (first | (with_reducible first | exact HB.out | apply below_alloc | apply pw_below_drewN | apply below_drew1) | exact HB.out)⟩⟩
  case round =>
    clear H'
    obtain ⟨x3_1, x7_1, rfl, rfl, HA, HK1, HB⟩ := hrel
    cases gk with
    | zero => exact absurd HA.out (by simp [sashref04_Area.l0])
    | succ k1 =>
      have H := HA.out
      clear HA
      simp only [sashref04_Area.l0] at H
      by_cases c2 : x7_1 < (l0.length : Int)
      · rw [if_pos c2] at H
        have c2b0 : decide (x7_1 < (l0.length : Int)) = true := decide_eq_true c2
        clear c2
        by_cases c3 : 0 ≤ x7_1
        · rw [if_pos c3] at H
          have c3b0 : decide (0 ≤ x7_1) = true := decide_eq_true c3
          clear c3
          by_cases c4 : x7_1 < (l0.length : Int)
          · rw [if_pos c4] at H
            have c4b0 : decide (x7_1 < (l0.length : Int)) = true := decide_eq_true c4
            clear c4
            replace H := Option.bind_eq_some_iff.mp H
            obtain ⟨t615, A50, H⟩ := H
            replace H : (if t615 = true then (sashref04_Area.l0 k1 l0 (wrap64 (x3_1 + (wrap64 (((rd_T23 l0 x7_1).f2) * ((rd_T23 l0 x7_1).f3))))) (l0.length : Int) (wrap64 (x7_1 + 1))) else (sashref04_Area.l0 k1 l0 x3_1 (l0.length : Int) (wrap64 (x7_1 + 1)))) = some r := H
            have A5 := Aside0.mk A50
            clear A50
            by_cases c6 : t615 = true
            · subst c6
              have H1 : (sashref04_Area.l0 k1 l0 (wrap64 (x3_1 + (wrap64 (((rd_T23 l0 x7_1).f2) * ((rd_T23 l0 x7_1).f3))))) (l0.length : Int) (wrap64 (x7_1 + 1))) = some r := by rw [if_pos rfl] at H; exact H
              clear H
              have H := H1
              clear H1
              have H' := Aside0.mk H
              clear H
              have p614 : 0 ≤ (x7_1 : Int) := of_decide_eq_true (by first | (with_reducible assumption) | assumption)
              have q614 : x7_1 < (l0.length : Int) := of_decide_eq_true (by first | (with_reducible assumption) | assumption)
              obtain ⟨ad614, e614, hx614_0, hx614_1, hx614_2, hx614_3⟩ := at_T23 HR0.out x7_1 p614 q614
              cases e614
              replace hx614_0 := (HB.out.cell (World.block_lt_of_cell? w _ hx614_0)).trans hx614_0
              replace hx614_1 := (HB.out.cell (World.block_lt_of_cell? w _ hx614_1)).trans hx614_1
              replace hx614_2 := (HB.out.cell (World.block_lt_of_cell? w _ hx614_2)).trans hx614_2
              replace hx614_3 := (HB.out.cell (World.block_lt_of_cell? w _ hx614_3)).trans hx614_3
              replace p614 := eq_true p614
              replace q614 := eq_true q614
              go_wp2_with (first | (go_at_call 57; (with_reducible refine (sashref04_May.calls ((rd_T23 l0 x7_1).f0) ((rd_T23 l0 x7_1).f1) ((rd_T23 l0 x7_1).f2) ((rd_T23 l0 x7_1).f3) true _ A5.out).mono ?_); rintro e w7 ⟨rfl, hb⟩; have n0_ := Aside0.mk (below_step (by repeat (first | (with_reducible first | exact HB.out | apply below_alloc | apply pw_below_drewN | apply below_drew1) | exact HB.out)) hb); clear HB; have HB := n0_; clear n0_; (try clear hb); (try clear hb2); (try clear hk); (try clear hi); have p616 : 0 ≤ (x7_1 : Int) := of_decide_eq_true (by first | (with_reducible assumption) | assumption); have q616 : x7_1 < (l0.length : Int) := of_decide_eq_true (by first | (with_reducible assumption) | assumption); obtain ⟨ad616, e616, hx616_0, hx616_1, hx616_2, hx616_3⟩ := at_T23 HR0.out x7_1 p616 q616; obtain rfl : ad614 = ad616 := (by injection e616); replace hx616_0 := (HB.out.cell (World.block_lt_of_cell? w _ hx616_0)).trans hx616_0; replace hx616_1 := (HB.out.cell (World.block_lt_of_cell? w _ hx616_1)).trans hx616_1; replace hx616_2 := (HB.out.cell (World.block_lt_of_cell? w _ hx616_2)).trans hx616_2; replace hx616_3 := (HB.out.cell (World.block_lt_of_cell? w _ hx616_3)).trans hx616_3; replace p616 := eq_true p616; replace q616 := eq_true q616; have p617 : 0 ≤ (x7_1 : Int) := of_decide_eq_true (by first | (with_reducible assumption) | assumption); have q617 : x7_1 < (l0.length : Int) := of_decide_eq_true (by first | (with_reducible assumption) | assumption); obtain ⟨ad617, e617, hx617_0, hx617_1, hx617_2, hx617_3⟩ := at_T23 HR0.out x7_1 p617 q617; obtain rfl : ad614 = ad617 := (by injection e617); replace hx617_0 := (HB.out.cell (World.block_lt_of_cell? w _ hx617_0)).trans hx617_0; replace hx617_1 := (HB.out.cell (World.block_lt_of_cell? w _ hx617_1)).trans hx617_1; replace hx617_2 := (HB.out.cell (World.block_lt_of_cell? w _ hx617_2)).trans hx617_2; replace hx617_3 := (HB.out.cell (World.block_lt_of_cell? w _ hx617_3)).trans hx617_3; replace p617 := eq_true p617; replace q617 := eq_true q617))
              repeat (go_quiet (first | (go_at_call 57; (with_reducible refine (sashref04_May.calls ((rd_T23 l0 x7_1).f0) ((rd_T23 l0 x7_1).f1) ((rd_T23 l0 x7_1).f2) ((rd_T23 l0 x7_1).f3) true _ A5.out).mono ?_); rintro e w7 ⟨rfl, hb⟩; have n0_ := Aside0.mk (below_step (by repeat (first | (with_reducible first | exact HB.out | apply below_alloc | apply pw_below_drewN | apply below_drew1) | exact HB.out)) hb); clear HB; have HB := n0_; clear n0_; (try clear hb); (try clear hb2); (try clear hk); (try clear hi); have p616 : 0 ≤ (x7_1 : Int) := of_decide_eq_true (by first | (with_reducible assumption) | assumption); have q616 : x7_1 < (l0.length : Int) := of_decide_eq_true (by first | (with_reducible assumption) | assumption); obtain ⟨ad616, e616, hx616_0, hx616_1, hx616_2, hx616_3⟩ := at_T23 HR0.out x7_1 p616 q616; obtain rfl : ad614 = ad616 := (by injection e616); replace hx616_0 := (HB.out.cell (World.block_lt_of_cell? w _ hx616_0)).trans hx616_0; replace hx616_1 := (HB.out.cell (World.block_lt_of_cell? w _ hx616_1)).trans hx616_1; replace hx616_2 := (HB.out.cell (World.block_lt_of_cell? w _ hx616_2)).trans hx616_2; replace hx616_3 := (HB.out.cell (World.block_lt_of_cell? w _ hx616_3)).trans hx616_3; replace p616 := eq_true p616; replace q616 := eq_true q616; have p617 : 0 ≤ (x7_1 : Int) := of_decide_eq_true (by first | (with_reducible assumption) | assumption); have q617 : x7_1 < (l0.length : Int) := of_decide_eq_true (by first | (with_reducible assumption) | assumption); obtain ⟨ad617, e617, hx617_0, hx617_1, hx617_2, hx617_3⟩ := at_T23 HR0.out x7_1 p617 q617; obtain rfl : ad614 = ad617 := (by injection e617); replace hx617_0 := (HB.out.cell (World.block_lt_of_cell? w _ hx617_0)).trans hx617_0; replace hx617_1 := (HB.out.cell (World.block_lt_of_cell? w _ hx617_1)).trans hx617_1; replace hx617_2 := (HB.out.cell (World.block_lt_of_cell? w _ hx617_2)).trans hx617_2; replace hx617_3 := (HB.out.cell (World.block_lt_of_cell? w _ hx617_3)).trans hx617_3; replace p617 := eq_true p617; replace q617 := eq_true q617)); try go_wp2_with (first | (go_at_call 57; (with_reducible refine (sashref04_May.calls ((rd_T23 l0 x7_1).f0) ((rd_T23 l0 x7_1).f1) ((rd_T23 l0 x7_1).f2) ((rd_T23 l0 x7_1).f3) true _ A5.out).mono ?_); rintro e w7 ⟨rfl, hb⟩; have n0_ := Aside0.mk (below_step (by repeat (first | (with_reducible first | exact HB.out | apply below_alloc | apply pw_below_drewN | apply below_drew1) | exact HB.out)) hb); clear HB; have HB := n0_; clear n0_; (try clear hb); (try clear hb2); (try clear hk); (try clear hi); have p616 : 0 ≤ (x7_1 : Int) := of_decide_eq_true (by first | (with_reducible assumption) | assumption); have q616 : x7_1 < (l0.length : Int) := of_decide_eq_true (by first | (with_reducible assumption) | assumption); obtain ⟨ad616, e616, hx616_0, hx616_1, hx616_2, hx616_3⟩ := at_T23 HR0.out x7_1 p616 q616; obtain rfl : ad614 = ad616 := (by injection e616); replace hx616_0 := (HB.out.cell (World.block_lt_of_cell? w _ hx616_0)).trans hx616_0; replace hx616_1 := (HB.out.cell (World.block_lt_of_cell? w _ hx616_1)).trans hx616_1; replace hx616_2 := (HB.out.cell (World.block_lt_of_cell? w _ hx616_2)).trans hx616_2; replace hx616_3 := (HB.out.cell (World.block_lt_of_cell? w _ hx616_3)).trans hx616_3; replace p616 := eq_true p616; replace q616 := eq_true q616; have p617 : 0 ≤ (x7_1 : Int) := of_decide_eq_true (by first | (with_reducible assumption) | assumption); have q617 : x7_1 < (l0.length : Int) := of_decide_eq_true (by first | (with_reducible assumption) | assumption); obtain ⟨ad617, e617, hx617_0, hx617_1, hx617_2, hx617_3⟩ := at_T23 HR0.out x7_1 p617 q617; obtain rfl : ad614 = ad617 := (by injection e617); replace hx617_0 := (HB.out.cell (World.block_lt_of_cell? w _ hx617_0)).trans hx617_0; replace hx617_1 := (HB.out.cell (World.block_lt_of_cell? w _ hx617_1)).trans hx617_1; replace hx617_2 := (HB.out.cell (World.block_lt_of_cell? w _ hx617_2)).trans hx617_2; replace hx617_3 := (HB.out.cell (World.block_lt_of_cell? w _ hx617_3)).trans hx617_3; replace p617 := eq_true p617; replace q617 := eq_true q617)))
              go_roundg k1
              case measure => have := HK1.out; omega
              case rel => exact ⟨(wrap64 (x3_1 + (wrap64 (((rd_T23 l0 x7_1).f2) * ((rd_T23 l0 x7_1).f3))))), (wrap64 (x7_1 + 1)), (by first | rfl | (simp; done) | (simp [*]; done)), (by first | rfl | (simp; done) | (simp [*]; done)), H', ⟨by have := HK1.out; omega⟩, ⟨by repeat (first | (with_reducible first | exact HB.out | apply below_alloc | apply pw_below_drewN | apply below_drew1) | exact HB.out)⟩⟩
            · replace c6 := Bool.eq_false_iff.mpr c6
              subst c6
              have H1 : (sashref04_Area.l0 k1 l0 x3_1 (l0.length : Int) (wrap64 (x7_1 + 1))) = some r := by rw [if_neg (show ¬ (false = true) by decide)] at H; exact H
              clear H
              have H := H1
              clear H1
              have H' := Aside0.mk H
              clear H
              have p614 : 0 ≤ (x7_1 : Int) := of_decide_eq_true (by first | (with_reducible assumption) | assumption)
              have q614 : x7_1 < (l0.length : Int) := of_decide_eq_true (by first | (with_reducible assumption) | assumption)
              obtain ⟨ad614, e614, hx614_0, hx614_1, hx614_2, hx614_3⟩ := at_T23 HR0.out x7_1 p614 q614
              cases e614
              replace hx614_0 := (HB.out.cell (World.block_lt_of_cell? w _ hx614_0)).trans hx614_0
              replace hx614_1 := (HB.out.cell (World.block_lt_of_cell? w _ hx614_1)).trans hx614_1
              replace hx614_2 := (HB.out.cell (World.block_lt_of_cell? w _ hx614_2)).trans hx614_2
              replace hx614_3 := (HB.out.cell (World.block_lt_of_cell? w _ hx614_3)).trans hx614_3
              replace p614 := eq_true p614
              replace q614 := eq_true q614
              go_wp2_with (first | (go_at_call 57; (with_reducible refine (sashref04_May.calls ((rd_T23 l0 x7_1).f0) ((rd_T23 l0 x7_1).f1) ((rd_T23 l0 x7_1).f2) ((rd_T23 l0 x7_1).f3) false _ A5.out).mono ?_); rintro e w8 ⟨rfl, hb⟩; have n0_ := Aside0.mk (below_step (by repeat (first | (with_reducible first | exact HB.out | apply below_alloc | apply pw_below_drewN | apply below_drew1) | exact HB.out)) hb); clear HB; have HB := n0_; clear n0_; (try clear hb); (try clear hb2); (try clear hk); (try clear hi)))
              repeat (go_quiet (first | (go_at_call 57; (with_reducible refine (sashref04_May.calls ((rd_T23 l0 x7_1).f0) ((rd_T23 l0 x7_1).f1) ((rd_T23 l0 x7_1).f2) ((rd_T23 l0 x7_1).f3) false _ A5.out).mono ?_); rintro e w8 ⟨rfl, hb⟩; have n0_ := Aside0.mk (below_step (by repeat (first | (with_reducible first | exact HB.out | apply below_alloc | apply pw_below_drewN | apply below_drew1) | exact HB.out)) hb); clear HB; have HB := n0_; clear n0_; (try clear hb); (try clear hb2); (try clear hk); (try clear hi))); try go_wp2_with (first | (go_at_call 57; (with_reducible refine (sashref04_May.calls ((rd_T23 l0 x7_1).f0) ((rd_T23 l0 x7_1).f1) ((rd_T23 l0 x7_1).f2) ((rd_T23 l0 x7_1).f3) false _ A5.out).mono ?_); rintro e w8 ⟨rfl, hb⟩; have n0_ := Aside0.mk (below_step (by repeat (first | (with_reducible first | exact HB.out | apply below_alloc | apply pw_below_drewN | apply below_drew1) | exact HB.out)) hb); clear HB; have HB := n0_; clear n0_; (try clear hb); (try clear hb2); (try clear hk); (try clear hi))))
              go_roundg k1
              case measure => have := HK1.out; omega
              case rel => exact ⟨(x3_1), (wrap64 (x7_1 + 1)), (by first | rfl | (simp; done) | (simp [*]; done)), (by first | rfl | (simp; done) | (simp [*]; done)), H', ⟨by have := HK1.out; omega⟩, ⟨by repeat (first | (with_reducible first | exact HB.out | apply below_alloc | apply pw_below_drewN | apply below_drew1) | exact HB.out)⟩⟩
          · rw [if_neg c4] at H
            exact absurd H (by simp)
        · rw [if_neg c3] at H
          exact absurd H (by simp)
      · rw [if_neg c2] at H
        have c2b0 : decide (x7_1 < (l0.length : Int)) = false := decide_eq_false c2
        clear c2
        obtain rfl := Option.some.inj H
        go_wp2
        repeat (go_quiet (fail); try go_wp2)
        go_ret
        exact ⟨by first | rfl | (simp [errW_none, errW_some] <;> rfl) | (simp [*, errW_none, errW_some] <;> rfl), by repeat (first | (with_reducible first | exact HB.out | apply below_alloc | apply pw_below_drewN | apply below_drew1) | exact HB.out)⟩

end Go.Proofs.Ytfdmfgaiblfbhaa.P
