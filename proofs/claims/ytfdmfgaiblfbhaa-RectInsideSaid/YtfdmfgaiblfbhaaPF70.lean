-- Written by a program for this claim; Lean checks it.
import Derived.Test.YtfdmfgaiblfbhaaPK
import Derived.Test.YtfdmfgaiblfbhaaPF57
namespace Go.Proofs.Ytfdmfgaiblfbhaa.P
open Go.RowKit Go.Proofs.YtfdmfgaiblfbhaaW.PrintWords Go.Proofs.YtfdmfgaiblfbhaaW.PrintLast Go.Proofs.YtfdmfgaiblfbhaaW.PrintMore
attribute [local go_sem] max2_int min2_int max_two min_two max_three min_three max_four min_four   -- for this text's walks alone
set_option linter.unusedVariables false
set_option linter.unusedSimpArgs false

/-! ### sashref04_All: function 70 -/
def sashref04_All.l0 : Nat → List (S23) → Int → Int → Option (Bool)
  | 0, _, _, _ => none
  | k + 1, x0, x5, x6 => if x6 < x5 then (if 0 ≤ x6 then (if x6 < (x0.length : Int) then ((sashref04_May.f ((rd_T23 x0 x6).f0) ((rd_T23 x0 x6).f1) ((rd_T23 x0 x6).f2) ((rd_T23 x0 x6).f3)).bind fun t604 => (if t604 = true then (sashref04_All.l0 k x0 x5 (wrap64 (x6 + 1))) else (some false))) else (none)) else (none)) else (some true)
def sashref04_All.f (k : Nat) (l0 : List (S23)) : Option (Bool) := sashref04_All.l0 k l0 (l0.length : Int) 0
theorem sashref04_All.mono_l : ∀ k, (∀ y0 y1 y2, LeO (sashref04_All.l0 k y0 y1 y2) (sashref04_All.l0 (k + 1) y0 y1 y2))
  | 0 => fun _ _ _ r h => by simp [sashref04_All.l0] at h
  | k + 1 => by
    have ih0 := sashref04_All.mono_l k
    · intro y0 y1 y2
      unfold sashref04_All.l0
      repeat' first
      | (with_reducible exact ih0 _ _ _)
      | (with_reducible exact LeO.refl _)
      | (with_reducible exact LeO.none _)
      | (with_reducible refine LeO.ite ?_ ?_)
      | (with_reducible refine LeO.bind ?_ (fun _ => ?_))
      | exact ih0 _ _ _
      | exact LeO.none _
      | refine LeO.ite ?_ ?_
      | refine LeO.bind ?_ (fun _ => ?_)
theorem sashref04_All.mono : ∀ a0 k, LeO (sashref04_All.f k a0) (sashref04_All.f (k + 1) a0) := by
  intro a0 k
  have ih0 := sashref04_All.mono_l k
  unfold sashref04_All.f
  repeat' first
      | (with_reducible exact ih0 _ _ _)
      | (with_reducible exact LeO.refl _)
      | (with_reducible exact LeO.none _)
      | (with_reducible refine LeO.ite ?_ ?_)
      | (with_reducible refine LeO.bind ?_ (fun _ => ?_))
      | exact ih0 _ _ _
      | exact LeO.none _
      | refine LeO.ite ?_ ?_
      | refine LeO.bind ?_ (fun _ => ?_)
set_option maxHeartbeats 8000000 in
set_option maxRecDepth 100000 in
theorem sashref04_All.calls (k : Nat) (A0 : Option Addr) (c0 : Nat) (l0 : List (S23)) (r : Bool) (w : World) (hr0 : Kd.C k23 w A0 l0.length l0) (hc0 : l0.length ≤ c0) (h : sashref04_All.f k l0 = some r) :
    Calls Try.prog 70 #[.slice A0 l0.length c0] w fun e w' => e = .returned (.bool r) ∧ Below w.heap.size w w' := by
  have hu23 := Try.underlying23
  have HR0 := Aside0.mk hr0
  have HC0 := Aside0.mk hc0
  clear hr0 hc0
  have HB := Aside0.mk (Below.refl w.heap.size w)
  have H : (sashref04_All.l0 k l0 (l0.length : Int) 0) = some r := h
  clear h
  have H' := Aside0.mk H
  clear H
  go_enter Try.func70, Try.ntmps70
  go_wp2
  go_loopg [6] k (fun kq v6 w' => ∃ (x6_1 : Int), v6 = .int .i64 x6_1 ∧ Aside0 (sashref04_All.l0 kq l0 (l0.length : Int) x6_1 = some r) ∧ Aside0 (kq ≤ k) ∧ Aside0 (Below w.heap.size w w'))
  case atStart => exact ⟨(0), (by first | rfl | (simp; done) | (simp [*]; done)), H', ⟨Nat.le_refl _⟩, ⟨by repeat (first | (with_reducible first | exact HB.out | apply below_alloc | apply pw_below_drewN | apply below_drew1) | exact HB.out)⟩⟩
  case round =>
    clear H'
    obtain ⟨x6_1, rfl, HA, HK1, HB⟩ := hrel
    cases gk with
    | zero => exact absurd HA.out (by simp [sashref04_All.l0])
    | succ k1 =>
      have H := HA.out
      clear HA
      simp only [sashref04_All.l0] at H
      by_cases c2 : x6_1 < (l0.length : Int)
      · rw [if_pos c2] at H
        have c2b0 : decide (x6_1 < (l0.length : Int)) = true := decide_eq_true c2
        clear c2
        by_cases c3 : 0 ≤ x6_1
        · rw [if_pos c3] at H
          have c3b0 : decide (0 ≤ x6_1) = true := decide_eq_true c3
          clear c3
          by_cases c4 : x6_1 < (l0.length : Int)
          · rw [if_pos c4] at H
            have c4b0 : decide (x6_1 < (l0.length : Int)) = true := decide_eq_true c4
            clear c4
            replace H := Option.bind_eq_some_iff.mp H
            obtain ⟨t604, A50, H⟩ := H
            replace H : (if t604 = true then (sashref04_All.l0 k1 l0 (l0.length : Int) (wrap64 (x6_1 + 1))) else (some false)) = some r := H
            have A5 := Aside0.mk A50
            clear A50
            by_cases c6 : t604 = true
            · subst c6
              have H1 : (sashref04_All.l0 k1 l0 (l0.length : Int) (wrap64 (x6_1 + 1))) = some r := by rw [if_pos rfl] at H; exact H
              clear H
              have H := H1
              clear H1
              have H' := Aside0.mk H
              clear H
              have p603 : 0 ≤ (x6_1 : Int) := of_decide_eq_true (by first | (with_reducible assumption) | assumption)
              have q603 : x6_1 < (l0.length : Int) := of_decide_eq_true (by first | (with_reducible assumption) | assumption)
              obtain ⟨ad603, e603, hx603_0, hx603_1, hx603_2, hx603_3⟩ := at_T23 HR0.out x6_1 p603 q603
              cases e603
              replace hx603_0 := (HB.out.cell (World.block_lt_of_cell? w _ hx603_0)).trans hx603_0
              replace hx603_1 := (HB.out.cell (World.block_lt_of_cell? w _ hx603_1)).trans hx603_1
              replace hx603_2 := (HB.out.cell (World.block_lt_of_cell? w _ hx603_2)).trans hx603_2
              replace hx603_3 := (HB.out.cell (World.block_lt_of_cell? w _ hx603_3)).trans hx603_3
              replace p603 := eq_true p603
              replace q603 := eq_true q603
              go_wp2_with (first | ((with_reducible refine gate_callee (f := 57) rfl ?_); refine goesL_ (some 13) rfl rfl Try.func57 (by kernel_rfl) rfl #[.agg #[.int .i64 ((rd_T23 l0 x6_1).f0), .int .i64 ((rd_T23 l0 x6_1).f1), .int .i64 ((rd_T23 l0 x6_1).f2), .int .i64 ((rd_T23 l0 x6_1).f3)]] rfl (by (try simp only [List.map_toArray, List.map_cons, List.map_nil]); first | done | rfl | (simp only [List.length_drop, List.length_take]; rfl)) ?_; (with_reducible refine (sashref04_May.calls ((rd_T23 l0 x6_1).f0) ((rd_T23 l0 x6_1).f1) ((rd_T23 l0 x6_1).f2) ((rd_T23 l0 x6_1).f3) true _ A5.out).mono ?_); rintro e w7 ⟨rfl, hb⟩; refine ⟨_, rfl, ?_⟩; have n0_ := Aside0.mk (below_step (by repeat (first | (with_reducible first | exact HB.out | apply below_alloc | apply pw_below_drewN | apply below_drew1) | exact HB.out)) hb); clear HB; have HB := n0_; clear n0_; (try clear hb); (try clear hb2); (try clear hk); (try clear hi)))
              go_roundg k1
              case measure => have := HK1.out; omega
              case rel => exact ⟨(wrap64 (x6_1 + 1)), (by first | rfl | (simp; done) | (simp [*]; done)), H', ⟨by have := HK1.out; omega⟩, ⟨by repeat (first | (with_reducible first | exact HB.out | apply below_alloc | apply pw_below_drewN | apply below_drew1) | exact HB.out)⟩⟩
            · replace c6 := Bool.eq_false_iff.mpr c6
              subst c6
              have H1 : (some false) = some r := by rw [if_neg (show ¬ (false = true) by decide)] at H; exact H
              clear H
              have H := H1
              clear H1
              obtain rfl := Option.some.inj H
              have p603 : 0 ≤ (x6_1 : Int) := of_decide_eq_true (by first | (with_reducible assumption) | assumption)
              have q603 : x6_1 < (l0.length : Int) := of_decide_eq_true (by first | (with_reducible assumption) | assumption)
              obtain ⟨ad603, e603, hx603_0, hx603_1, hx603_2, hx603_3⟩ := at_T23 HR0.out x6_1 p603 q603
              cases e603
              replace hx603_0 := (HB.out.cell (World.block_lt_of_cell? w _ hx603_0)).trans hx603_0
              replace hx603_1 := (HB.out.cell (World.block_lt_of_cell? w _ hx603_1)).trans hx603_1
              replace hx603_2 := (HB.out.cell (World.block_lt_of_cell? w _ hx603_2)).trans hx603_2
              replace hx603_3 := (HB.out.cell (World.block_lt_of_cell? w _ hx603_3)).trans hx603_3
              replace p603 := eq_true p603
              replace q603 := eq_true q603
              go_wp2_with (first | ((with_reducible refine gate_callee (f := 57) rfl ?_); refine goesL_ (some 13) rfl rfl Try.func57 (by kernel_rfl) rfl #[.agg #[.int .i64 ((rd_T23 l0 x6_1).f0), .int .i64 ((rd_T23 l0 x6_1).f1), .int .i64 ((rd_T23 l0 x6_1).f2), .int .i64 ((rd_T23 l0 x6_1).f3)]] rfl (by (try simp only [List.map_toArray, List.map_cons, List.map_nil]); first | done | rfl | (simp only [List.length_drop, List.length_take]; rfl)) ?_; (with_reducible refine (sashref04_May.calls ((rd_T23 l0 x6_1).f0) ((rd_T23 l0 x6_1).f1) ((rd_T23 l0 x6_1).f2) ((rd_T23 l0 x6_1).f3) false _ A5.out).mono ?_); rintro e w8 ⟨rfl, hb⟩; refine ⟨_, rfl, ?_⟩; have n0_ := Aside0.mk (below_step (by repeat (first | (with_reducible first | exact HB.out | apply below_alloc | apply pw_below_drewN | apply below_drew1) | exact HB.out)) hb); clear HB; have HB := n0_; clear n0_; (try clear hb); (try clear hb2); (try clear hk); (try clear hi)))
              go_ret
              exact ⟨by first | rfl | (simp [errW_none, errW_some] <;> rfl) | (simp [*, errW_none, errW_some] <;> rfl), by repeat (first | (with_reducible first | exact HB.out | apply below_alloc | apply pw_below_drewN | apply below_drew1) | exact HB.out)⟩
          · rw [if_neg c4] at H
            exact absurd H (by simp)
        · rw [if_neg c3] at H
          exact absurd H (by simp)
      · rw [if_neg c2] at H
        have c2b0 : decide (x6_1 < (l0.length : Int)) = false := decide_eq_false c2
        clear c2
        obtain rfl := Option.some.inj H
        go_wp2
        go_ret
        exact ⟨by first | rfl | (simp [errW_none, errW_some] <;> rfl) | (simp [*, errW_none, errW_some] <;> rfl), by repeat (first | (with_reducible first | exact HB.out | apply below_alloc | apply pw_below_drewN | apply below_drew1) | exact HB.out)⟩

end Go.Proofs.Ytfdmfgaiblfbhaa.P
