-- Written by a program for this claim; Lean checks it.
import Derived.Test.YtfdmfgaiblfbhaaPK
import Derived.Test.YtfdmfgaiblfbhaaPF51
import Derived.Test.YtfdmfgaiblfbhaaPF53
import Derived.Test.YtfdmfgaiblfbhaaPF52
import Derived.Test.YtfdmfgaiblfbhaaPF54
namespace Go.Proofs.Ytfdmfgaiblfbhaa.P
open Go.RowKit Go.Proofs.YtfdmfgaiblfbhaaW.PrintWords Go.Proofs.YtfdmfgaiblfbhaaW.PrintLast Go.Proofs.YtfdmfgaiblfbhaaW.PrintMore
attribute [local go_sem] max2_int min2_int max_two min_two max_three min_three max_four min_four   -- for this text's walks alone
set_option linter.unusedVariables false
set_option linter.unusedSimpArgs false

/-! ### sashlaw16_SpreadSizes: function 8 -/
mutual
def sashlaw16_SpreadSizes.j0 : Nat → Int → Int → Bool → Option (Bool)
  | 0, _, _, _ => none
  | k + 1, x0, x1, x16 => if x16 = true then ((sashlaw16_awake.f k).bind fun t411 => (some t411)) else ((spread_Sizes.f k x0 x1).bind fun bt412 => ((sashref16_Sizes.f k x0 x1).bind fun bt416 => (if (bt412.2 != bt416.2) = true then (sashlaw16_SpreadSizes.j1 k x0 x1 bt412.1 bt412.2 true) else ((sashref05_Ints.f k bt412.1 bt416.1).bind fun t420 => (sashlaw16_SpreadSizes.j1 k x0 x1 bt412.1 bt412.2 (!t420))))))
def sashlaw16_SpreadSizes.j1 : Nat → Int → Int → List Int → Bool → Bool → Option (Bool)
  | 0, _, _, _, _, _ => none
  | k + 1, x0, x1, x5, x6, x38 => if x38 = true then (some false) else (sashlaw16_SpreadSizes.l0 k x0 x5 x6 (wrap64 (x1 - 1)) 0)
def sashlaw16_SpreadSizes.l0 : Nat → Int → List Int → Bool → Int → Int → Option (Bool)
  | 0, _, _, _, _, _ => none
  | k + 1, x0, x5, x6, x9, x10 => if x10 < (x5.length : Int) then (if 0 ≤ x10 then (if (rd x5 x10) < 1 then (some false) else (if 0 < (x5.length : Int) then (if (rd x5 x10) > (rd x5 0) then (some false) else (if (rd x5 x10) < (wrap64 ((rd x5 0) - 1)) then (some false) else (sashlaw16_SpreadSizes.l0 k x0 x5 x6 (wrap64 (x9 + (rd x5 x10))) (wrap64 (x10 + 1))))) else (none))) else (none)) else (if x6 = true then (if x9 = x0 then ((sashlaw16_awake.f k).bind fun t427 => (some t427)) else (some false)) else ((sashlaw16_awake.f k).bind fun t428 => (some t428)))
end
def sashlaw16_SpreadSizes.f (k : Nat) (a0 : Int) (a1 : Int) : Option (Bool) := if a1 > 2000 then (sashlaw16_SpreadSizes.j0 k a0 a1 (decide (a1 ≤ 20000))) else (sashlaw16_SpreadSizes.j0 k a0 a1 false)
theorem sashlaw16_SpreadSizes.mono_l : ∀ k, (∀ y0 y1 y2, LeO (sashlaw16_SpreadSizes.j0 k y0 y1 y2) (sashlaw16_SpreadSizes.j0 (k + 1) y0 y1 y2)) ∧ (∀ y0 y1 y2 y3 y4, LeO (sashlaw16_SpreadSizes.j1 k y0 y1 y2 y3 y4) (sashlaw16_SpreadSizes.j1 (k + 1) y0 y1 y2 y3 y4)) ∧ (∀ y0 y1 y2 y3 y4, LeO (sashlaw16_SpreadSizes.l0 k y0 y1 y2 y3 y4) (sashlaw16_SpreadSizes.l0 (k + 1) y0 y1 y2 y3 y4))
  | 0 => ⟨fun _ _ _ r h => by simp [sashlaw16_SpreadSizes.j0] at h, fun _ _ _ _ _ r h => by simp [sashlaw16_SpreadSizes.j1] at h, fun _ _ _ _ _ r h => by simp [sashlaw16_SpreadSizes.l0] at h⟩
  | k + 1 => by
    obtain ⟨ih0, ih1, ih2⟩ := sashlaw16_SpreadSizes.mono_l k
    refine ⟨?_, ?_, ?_⟩
    · intro y0 y1 y2
      unfold sashlaw16_SpreadSizes.j0
      repeat' first
      | (with_reducible exact ih0 _ _ _)
      | (with_reducible exact ih1 _ _ _ _ _)
      | (with_reducible exact ih2 _ _ _ _ _)
      | (with_reducible exact sashlaw16_awake.mono _)
      | (with_reducible exact sashref05_Ints.mono _ _ _)
      | (with_reducible exact sashref16_Sizes.mono _ _ _)
      | (with_reducible exact spread_Sizes.mono _ _ _)
      | (with_reducible exact LeO.refl _)
      | (with_reducible exact LeO.none _)
      | (with_reducible refine LeO.ite ?_ ?_)
      | (with_reducible refine LeO.bind ?_ (fun _ => ?_))
      | exact ih0 _ _ _
      | exact ih1 _ _ _ _ _
      | exact ih2 _ _ _ _ _
      | exact sashlaw16_awake.mono _
      | exact sashref05_Ints.mono _ _ _
      | exact sashref16_Sizes.mono _ _ _
      | exact spread_Sizes.mono _ _ _
      | exact LeO.none _
      | refine LeO.ite ?_ ?_
      | refine LeO.bind ?_ (fun _ => ?_)
    · intro y0 y1 y2 y3 y4
      unfold sashlaw16_SpreadSizes.j1
      repeat' first
      | (with_reducible exact ih0 _ _ _)
      | (with_reducible exact ih1 _ _ _ _ _)
      | (with_reducible exact ih2 _ _ _ _ _)
      | (with_reducible exact sashlaw16_awake.mono _)
      | (with_reducible exact sashref05_Ints.mono _ _ _)
      | (with_reducible exact sashref16_Sizes.mono _ _ _)
      | (with_reducible exact spread_Sizes.mono _ _ _)
      | (with_reducible exact LeO.refl _)
      | (with_reducible exact LeO.none _)
      | (with_reducible refine LeO.ite ?_ ?_)
      | (with_reducible refine LeO.bind ?_ (fun _ => ?_))
      | exact ih0 _ _ _
      | exact ih1 _ _ _ _ _
      | exact ih2 _ _ _ _ _
      | exact sashlaw16_awake.mono _
      | exact sashref05_Ints.mono _ _ _
      | exact sashref16_Sizes.mono _ _ _
      | exact spread_Sizes.mono _ _ _
      | exact LeO.none _
      | refine LeO.ite ?_ ?_
      | refine LeO.bind ?_ (fun _ => ?_)
    · intro y0 y1 y2 y3 y4
      unfold sashlaw16_SpreadSizes.l0
      repeat' first
      | (with_reducible exact ih0 _ _ _)
      | (with_reducible exact ih1 _ _ _ _ _)
      | (with_reducible exact ih2 _ _ _ _ _)
      | (with_reducible exact sashlaw16_awake.mono _)
      | (with_reducible exact sashref05_Ints.mono _ _ _)
      | (with_reducible exact sashref16_Sizes.mono _ _ _)
      | (with_reducible exact spread_Sizes.mono _ _ _)
      | (with_reducible exact LeO.refl _)
      | (with_reducible exact LeO.none _)
      | (with_reducible refine LeO.ite ?_ ?_)
      | (with_reducible refine LeO.bind ?_ (fun _ => ?_))
      | exact ih0 _ _ _
      | exact ih1 _ _ _ _ _
      | exact ih2 _ _ _ _ _
      | exact sashlaw16_awake.mono _
      | exact sashref05_Ints.mono _ _ _
      | exact sashref16_Sizes.mono _ _ _
      | exact spread_Sizes.mono _ _ _
      | exact LeO.none _
      | refine LeO.ite ?_ ?_
      | refine LeO.bind ?_ (fun _ => ?_)
theorem sashlaw16_SpreadSizes.mono : ∀ a0 a1 k, LeO (sashlaw16_SpreadSizes.f k a0 a1) (sashlaw16_SpreadSizes.f (k + 1) a0 a1) := by
  intro a0 a1 k
  obtain ⟨ih0, ih1, ih2⟩ := sashlaw16_SpreadSizes.mono_l k
  unfold sashlaw16_SpreadSizes.f
  repeat' first
      | (with_reducible exact ih0 _ _ _)
      | (with_reducible exact ih1 _ _ _ _ _)
      | (with_reducible exact ih2 _ _ _ _ _)
      | (with_reducible exact sashlaw16_awake.mono _)
      | (with_reducible exact sashref05_Ints.mono _ _ _)
      | (with_reducible exact sashref16_Sizes.mono _ _ _)
      | (with_reducible exact spread_Sizes.mono _ _ _)
      | (with_reducible exact LeO.refl _)
      | (with_reducible exact LeO.none _)
      | (with_reducible refine LeO.ite ?_ ?_)
      | (with_reducible refine LeO.bind ?_ (fun _ => ?_))
      | exact ih0 _ _ _
      | exact ih1 _ _ _ _ _
      | exact ih2 _ _ _ _ _
      | exact sashlaw16_awake.mono _
      | exact sashref05_Ints.mono _ _ _
      | exact sashref16_Sizes.mono _ _ _
      | exact spread_Sizes.mono _ _ _
      | exact LeO.none _
      | refine LeO.ite ?_ ?_
      | refine LeO.bind ?_ (fun _ => ?_)
set_option maxHeartbeats 8000000 in
set_option maxRecDepth 100000 in
theorem sashlaw16_SpreadSizes.calls (k : Nat) (a0 : Int) (a1 : Int) (r : Bool) (w : World) (h : sashlaw16_SpreadSizes.f k a0 a1 = some r) :
    Calls Try.prog 8 #[.int .i64 a0, .int .i64 a1] w fun e w' => e = .returned (.bool r) ∧ Below w.heap.size w w' := by
  have HB := Aside0.mk (Below.refl w.heap.size w)
  have H : (if a1 > 2000 then (sashlaw16_SpreadSizes.j0 k a0 a1 (decide (a1 ≤ 20000))) else (sashlaw16_SpreadSizes.j0 k a0 a1 false)) = some r := h
  clear h
  have HC3 := Aside0.mk H
  clear H
  go_enter Try.func8, Try.ntmps8
  go_upto_region 1 with (fail)
  repeat (go_quiet (fail); go_upto_region 1 with (fail))
  go_cut [16] (fun v16 wc => ∃ (kq : Nat) (x16_2 : Bool), v16 = .bool x16_2 ∧ Aside0 (sashlaw16_SpreadSizes.j0 kq a0 a1 x16_2 = some r) ∧ Aside0 (kq ≤ k) ∧ Aside0 (Below w.heap.size w wc))
  case first =>
    have H := HC3.out
    clear HC3
    by_cases c4 : a1 > 2000
    · rw [if_pos c4] at H
      have c4b0 : decide (2000 < a1) = true := decide_eq_true c4
      clear c4
      (first | rw [c4b0] | (simp only [i64_w, i32_w]; rw [c4b0]) | skip)
      have H' := Aside0.mk H
      clear H
      go_wp2
      repeat (go_quiet (fail); try go_wp2)
      go_meet
      case rel => exact ⟨_, (decide (a1 ≤ 20000)), (by first | rfl | (simp; done) | (simp [*]; done)), H', ⟨by first | omega | exact Nat.le_refl _⟩, ⟨by repeat (first | (with_reducible first | exact HB.out | apply below_alloc | apply pw_below_drewN | apply below_drew1) | exact HB.out)⟩⟩
    · rw [if_neg c4] at H
      have c4b0 : decide (2000 < a1) = false := decide_eq_false c4
      clear c4
      (first | rw [c4b0] | (simp only [i64_w, i32_w]; rw [c4b0]) | skip)
      have H' := Aside0.mk H
      clear H
      go_wp2
      repeat (go_quiet (fail); try go_wp2)
      go_meet
      case rel => exact ⟨_, (false), (by first | rfl | (simp; done) | (simp [*]; done)), H', ⟨by first | omega | exact Nat.le_refl _⟩, ⟨by repeat (first | (with_reducible first | exact HB.out | apply below_alloc | apply pw_below_drewN | apply below_drew1) | exact HB.out)⟩⟩
  case rest =>
    clear HC3
    try clear p2
    try clear c4
    try clear c4b0
    obtain ⟨kq, x16_2, rfl, HA, HJ2, HB⟩ := hcut
    cases kq with
    | zero => exact absurd HA.out (by simp [sashlaw16_SpreadSizes.j0])
    | succ kj2 =>
      have H := HA.out
      clear HA
      simp only [sashlaw16_SpreadSizes.j0] at H
      by_cases c5 : x16_2 = true
      · subst c5
        have H1 : ((sashlaw16_awake.f kj2).bind fun t411 => (some t411)) = some r := by rw [if_pos rfl] at H; exact H
        clear H
        have H := H1
        clear H1
        replace H := Option.bind_eq_some_iff.mp H
        obtain ⟨t411, A60, H⟩ := H
        replace H : (some t411) = some r := H
        have A6 := Aside0.mk A60
        clear A60
        obtain rfl := Option.some.inj H
        go_wp2_with (first | (go_at_call 52; (with_reducible refine (sashlaw16_awake.calls kj2  t411 _ A6.out).mono ?_); rintro e w7 ⟨rfl, hb⟩; have n0_ := Aside0.mk (below_step (by repeat (first | (with_reducible first | exact HB.out | apply below_alloc | apply pw_below_drewN | apply below_drew1) | exact HB.out)) hb); clear HB; have HB := n0_; clear n0_; (try clear hb); (try clear hb2); (try clear hk); (try clear hi)))
        repeat (go_quiet (first | (go_at_call 52; (with_reducible refine (sashlaw16_awake.calls kj2  t411 _ A6.out).mono ?_); rintro e w7 ⟨rfl, hb⟩; have n0_ := Aside0.mk (below_step (by repeat (first | (with_reducible first | exact HB.out | apply below_alloc | apply pw_below_drewN | apply below_drew1) | exact HB.out)) hb); clear HB; have HB := n0_; clear n0_; (try clear hb); (try clear hb2); (try clear hk); (try clear hi))); try go_wp2_with (first | (go_at_call 52; (with_reducible refine (sashlaw16_awake.calls kj2  t411 _ A6.out).mono ?_); rintro e w7 ⟨rfl, hb⟩; have n0_ := Aside0.mk (below_step (by repeat (first | (with_reducible first | exact HB.out | apply below_alloc | apply pw_below_drewN | apply below_drew1) | exact HB.out)) hb); clear HB; have HB := n0_; clear n0_; (try clear hb); (try clear hb2); (try clear hk); (try clear hi))))
        go_ret
        exact ⟨by first | rfl | (simp [errW_none, errW_some] <;> rfl) | (simp [*, errW_none, errW_some] <;> rfl), by repeat (first | (with_reducible first | exact HB.out | apply below_alloc | apply pw_below_drewN | apply below_drew1) | exact HB.out)⟩
      · replace c5 := Bool.eq_false_iff.mpr c5
        subst c5
        have H1 : ((spread_Sizes.f kj2 a0 a1).bind fun bt412 => ((sashref16_Sizes.f kj2 a0 a1).bind fun bt416 => (if (bt412.2 != bt416.2) = true then (sashlaw16_SpreadSizes.j1 kj2 a0 a1 bt412.1 bt412.2 true) else ((sashref05_Ints.f kj2 bt412.1 bt416.1).bind fun t420 => (sashlaw16_SpreadSizes.j1 kj2 a0 a1 bt412.1 bt412.2 (!t420)))))) = some r := by rw [if_neg (show ¬ (false = true) by decide)] at H; exact H
        clear H
        have H := H1
        clear H1
        replace H := Option.bind_eq_some_iff.mp H
        obtain ⟨⟨t412, t413⟩, A80, H⟩ := H
        replace H : ((sashref16_Sizes.f kj2 a0 a1).bind fun bt416 => (if (t413 != bt416.2) = true then (sashlaw16_SpreadSizes.j1 kj2 a0 a1 t412 t413 true) else ((sashref05_Ints.f kj2 t412 bt416.1).bind fun t420 => (sashlaw16_SpreadSizes.j1 kj2 a0 a1 t412 t413 (!t420))))) = some r := H
        have A8 := Aside0.mk A80
        clear A80
        replace H := Option.bind_eq_some_iff.mp H
        obtain ⟨⟨t416, t417⟩, A90, H⟩ := H
        replace H : (if (t413 != t417) = true then (sashlaw16_SpreadSizes.j1 kj2 a0 a1 t412 t413 true) else ((sashref05_Ints.f kj2 t412 t416).bind fun t420 => (sashlaw16_SpreadSizes.j1 kj2 a0 a1 t412 t413 (!t420)))) = some r := H
        have A9 := Aside0.mk A90
        clear A90
        have HC10 := Aside0.mk H
        clear H
        go_upto_region 5 with (first | (go_at_call 53; (with_reducible refine (spread_Sizes.calls kj2 a0 a1 t412 t413 _ A8.out).mono ?_); rintro e w11 ⟨v414, rfl, ho0, hb⟩; have n0_ := Aside0.mk (Kd.R_lower ho0 (below_size (by repeat (first | (with_reducible first | exact HB.out | apply below_alloc | apply pw_below_drewN | apply below_drew1) | exact HB.out)))); have n1_ := Aside0.mk (below_step (by repeat (first | (with_reducible first | exact HB.out | apply below_alloc | apply pw_below_drewN | apply below_drew1) | exact HB.out)) hb); clear HB; have HO415 := n0_; have HB := n1_; clear n0_ n1_; (try clear hb); (try clear hb2); (try clear hk); (try clear hi); (try clear ho0)) | (go_at_call 54; (with_reducible refine (sashref16_Sizes.calls kj2 a0 a1 t416 t417 _ A9.out).mono ?_); rintro e w12 ⟨v418, rfl, ho0, hb⟩; have n0_ := Aside0.mk (Kd.R_elder' (by (with_reducible repeat (first | apply Kd.R_alloc | apply Kd.R_drewN | apply Kd.R_drew)); exact HO415.out) (Kd.R_base ho0) hb); have n1_ := Aside0.mk (Kd.R_lower (Kd.R_new' ho0 (Kd.R_lt (by (with_reducible repeat (first | apply Kd.R_alloc | apply Kd.R_drewN | apply Kd.R_drew)); exact HO415.out))) (below_size (by repeat (first | (with_reducible first | exact HB.out | apply below_alloc | apply pw_below_drewN | apply below_drew1) | exact HB.out)))); have n2_ := Aside0.mk (below_step (by repeat (first | (with_reducible first | exact HB.out | apply below_alloc | apply pw_below_drewN | apply below_drew1) | exact HB.out)) hb); clear HO415; clear HB; have HO415 := n0_; have HO419 := n1_; have HB := n2_; clear n0_ n1_ n2_; (try clear hb); (try clear hb2); (try clear hk); (try clear hi); (try clear ho0)))
        repeat (go_quiet (first | (go_at_call 53; (with_reducible refine (spread_Sizes.calls kj2 a0 a1 t412 t413 _ A8.out).mono ?_); rintro e w11 ⟨v414, rfl, ho0, hb⟩; have n0_ := Aside0.mk (Kd.R_lower ho0 (below_size (by repeat (first | (with_reducible first | exact HB.out | apply below_alloc | apply pw_below_drewN | apply below_drew1) | exact HB.out)))); have n1_ := Aside0.mk (below_step (by repeat (first | (with_reducible first | exact HB.out | apply below_alloc | apply pw_below_drewN | apply below_drew1) | exact HB.out)) hb); clear HB; have HO415 := n0_; have HB := n1_; clear n0_ n1_; (try clear hb); (try clear hb2); (try clear hk); (try clear hi); (try clear ho0)) | (go_at_call 54; (with_reducible refine (sashref16_Sizes.calls kj2 a0 a1 t416 t417 _ A9.out).mono ?_); rintro e w12 ⟨v418, rfl, ho0, hb⟩; have n0_ := Aside0.mk (Kd.R_elder' (by (with_reducible repeat (first | apply Kd.R_alloc | apply Kd.R_drewN | apply Kd.R_drew)); exact HO415.out) (Kd.R_base ho0) hb); have n1_ := Aside0.mk (Kd.R_lower (Kd.R_new' ho0 (Kd.R_lt (by (with_reducible repeat (first | apply Kd.R_alloc | apply Kd.R_drewN | apply Kd.R_drew)); exact HO415.out))) (below_size (by repeat (first | (with_reducible first | exact HB.out | apply below_alloc | apply pw_below_drewN | apply below_drew1) | exact HB.out)))); have n2_ := Aside0.mk (below_step (by repeat (first | (with_reducible first | exact HB.out | apply below_alloc | apply pw_below_drewN | apply below_drew1) | exact HB.out)) hb); clear HO415; clear HB; have HO415 := n0_; have HO419 := n1_; have HB := n2_; clear n0_ n1_ n2_; (try clear hb); (try clear hb2); (try clear hk); (try clear hi); (try clear ho0))); go_upto_region 5 with (first | (go_at_call 53; (with_reducible refine (spread_Sizes.calls kj2 a0 a1 t412 t413 _ A8.out).mono ?_); rintro e w11 ⟨v414, rfl, ho0, hb⟩; have n0_ := Aside0.mk (Kd.R_lower ho0 (below_size (by repeat (first | (with_reducible first | exact HB.out | apply below_alloc | apply pw_below_drewN | apply below_drew1) | exact HB.out)))); have n1_ := Aside0.mk (below_step (by repeat (first | (with_reducible first | exact HB.out | apply below_alloc | apply pw_below_drewN | apply below_drew1) | exact HB.out)) hb); clear HB; have HO415 := n0_; have HB := n1_; clear n0_ n1_; (try clear hb); (try clear hb2); (try clear hk); (try clear hi); (try clear ho0)) | (go_at_call 54; (with_reducible refine (sashref16_Sizes.calls kj2 a0 a1 t416 t417 _ A9.out).mono ?_); rintro e w12 ⟨v418, rfl, ho0, hb⟩; have n0_ := Aside0.mk (Kd.R_elder' (by (with_reducible repeat (first | apply Kd.R_alloc | apply Kd.R_drewN | apply Kd.R_drew)); exact HO415.out) (Kd.R_base ho0) hb); have n1_ := Aside0.mk (Kd.R_lower (Kd.R_new' ho0 (Kd.R_lt (by (with_reducible repeat (first | apply Kd.R_alloc | apply Kd.R_drewN | apply Kd.R_drew)); exact HO415.out))) (below_size (by repeat (first | (with_reducible first | exact HB.out | apply below_alloc | apply pw_below_drewN | apply below_drew1) | exact HB.out)))); have n2_ := Aside0.mk (below_step (by repeat (first | (with_reducible first | exact HB.out | apply below_alloc | apply pw_below_drewN | apply below_drew1) | exact HB.out)) hb); clear HO415; clear HB; have HO415 := n0_; have HO419 := n1_; have HB := n2_; clear n0_ n1_ n2_; (try clear hb); (try clear hb2); (try clear hk); (try clear hi); (try clear ho0))))
        (try simp only [Act.put, List.setIfInBounds_toArray, List.set_cons_zero, List.set_cons_succ])
        go_cut [38] (fun v38 wc => ∃ (kq : Nat) (x38_9 : Bool), v38 = .bool x38_9 ∧ Aside0 (sashlaw16_SpreadSizes.j1 kq a0 a1 t412 t413 x38_9 = some r) ∧ Aside0 (kq ≤ kj2) ∧ Aside0 (Kd.R (Kd.int .i64) 3 wc w.heap.size (fun _ => True) v414 t412) ∧ Aside0 (Below w.heap.size w wc))
        case first =>
          have H := HC10.out
          clear HC10
          by_cases c13 : (t413 != t417) = true
          · rw [if_pos c13] at H
            have c13b0 : (t413 != t417) = true := c13
            (try (have c13b1 : decide (t413 = t417) = false := by simpa using c13))
            (try (have c13b2 : (t413 == t417) = false := by simpa using c13))
            (try (have c13b3 : ¬ (t413 = t417) := by simpa using c13))
            clear c13
            (first | rw [c13b0] | (simp only [i64_w, i32_w]; rw [c13b0]) | skip)
            have H' := Aside0.mk H
            clear H
            go_wp2
            repeat (go_quiet (fail); try go_wp2)
            go_meet
            case rel => exact ⟨_, (true), (by first | rfl | (simp; done) | (simp [*]; done)), H', ⟨by have := HJ2.out; first | omega | exact Nat.le_refl _⟩, ⟨by (with_reducible repeat (first | apply Kd.R_alloc | apply Kd.R_drewN | apply Kd.R_drew)); exact Kd.R_mono HO415.out (fun _ hk => trivial)⟩, ⟨by repeat (first | (with_reducible first | exact HB.out | apply below_alloc | apply pw_below_drewN | apply below_drew1) | exact HB.out)⟩⟩
          · rw [if_neg c13] at H
            have c13b0 : (t413 != t417) = false := by simpa using c13
            (try (have c13b1 : decide (t413 = t417) = true := by simpa using c13))
            (try (have c13b2 : (t413 == t417) = true := by simpa using c13))
            clear c13
            (first | rw [c13b0] | (simp only [i64_w, i32_w]; rw [c13b0]) | skip)
            replace H := Option.bind_eq_some_iff.mp H
            obtain ⟨t420, A140, H⟩ := H
            replace H : (sashlaw16_SpreadSizes.j1 kj2 a0 a1 t412 t413 (!t420)) = some r := H
            have A14 := Aside0.mk A140
            clear A140
            have H' := Aside0.mk H
            clear H
            obtain ⟨Ao15, co15, eo15⟩ := Kd.R_slice HO415.out
            subst eo15
            obtain ⟨Ao16, co16, eo16⟩ := Kd.R_slice HO419.out
            subst eo16
            go_wp2_with (first | (go_at_call 51; (with_reducible refine (sashref05_Ints.calls kj2 _ _ t412 _ _ t416 t420 _ ?side1 ?side2 ?side3 ?side4 A14.out).mono ?_); (case side1 => repeat (first | exact (Kd.R_reads' HO415.out).2.2 | (with_reducible refine Kd.C_alloc ?_ _) | (with_reducible refine Kd.C_drewN ?_ _) | (with_reducible refine Kd.C_drew ?_))); (case side2 => exact (Kd.R_reads' HO415.out).2.1); (case side3 => repeat (first | exact (Kd.R_reads' HO419.out).2.2 | (with_reducible refine Kd.C_alloc ?_ _) | (with_reducible refine Kd.C_drewN ?_ _) | (with_reducible refine Kd.C_drew ?_))); (case side4 => exact (Kd.R_reads' HO419.out).2.1); rintro e w' ⟨rfl, ⟨nd, rfl⟩⟩; (try first | exact ⟨rfl, _, World.drewN_drewN _ _ _⟩ | exact ⟨rfl, _, Eq.trans (World.drewN_drewN _ _ _) (congrArg (World.drewN _) (Nat.add_assoc _ _ _))⟩)))
            repeat (go_quiet (first | (go_at_call 51; (with_reducible refine (sashref05_Ints.calls kj2 _ _ t412 _ _ t416 t420 _ ?side1 ?side2 ?side3 ?side4 A14.out).mono ?_); (case side1 => repeat (first | exact (Kd.R_reads' HO415.out).2.2 | (with_reducible refine Kd.C_alloc ?_ _) | (with_reducible refine Kd.C_drewN ?_ _) | (with_reducible refine Kd.C_drew ?_))); (case side2 => exact (Kd.R_reads' HO415.out).2.1); (case side3 => repeat (first | exact (Kd.R_reads' HO419.out).2.2 | (with_reducible refine Kd.C_alloc ?_ _) | (with_reducible refine Kd.C_drewN ?_ _) | (with_reducible refine Kd.C_drew ?_))); (case side4 => exact (Kd.R_reads' HO419.out).2.1); rintro e w' ⟨rfl, ⟨nd, rfl⟩⟩; (try first | exact ⟨rfl, _, World.drewN_drewN _ _ _⟩ | exact ⟨rfl, _, Eq.trans (World.drewN_drewN _ _ _) (congrArg (World.drewN _) (Nat.add_assoc _ _ _))⟩))); try go_wp2_with (first | (go_at_call 51; (with_reducible refine (sashref05_Ints.calls kj2 _ _ t412 _ _ t416 t420 _ ?side1 ?side2 ?side3 ?side4 A14.out).mono ?_); (case side1 => repeat (first | exact (Kd.R_reads' HO415.out).2.2 | (with_reducible refine Kd.C_alloc ?_ _) | (with_reducible refine Kd.C_drewN ?_ _) | (with_reducible refine Kd.C_drew ?_))); (case side2 => exact (Kd.R_reads' HO415.out).2.1); (case side3 => repeat (first | exact (Kd.R_reads' HO419.out).2.2 | (with_reducible refine Kd.C_alloc ?_ _) | (with_reducible refine Kd.C_drewN ?_ _) | (with_reducible refine Kd.C_drew ?_))); (case side4 => exact (Kd.R_reads' HO419.out).2.1); rintro e w' ⟨rfl, ⟨nd, rfl⟩⟩; (try first | exact ⟨rfl, _, World.drewN_drewN _ _ _⟩ | exact ⟨rfl, _, Eq.trans (World.drewN_drewN _ _ _) (congrArg (World.drewN _) (Nat.add_assoc _ _ _))⟩))))
            go_meet
            case rel => exact ⟨_, (!t420), (by first | rfl | (simp; done) | (simp [*]; done)), H', ⟨by have := HJ2.out; first | omega | exact Nat.le_refl _⟩, ⟨by (with_reducible repeat (first | apply Kd.R_alloc | apply Kd.R_drewN | apply Kd.R_drew)); exact Kd.R_mono HO415.out (fun _ hk => trivial)⟩, ⟨by repeat (first | (with_reducible first | exact HB.out | apply below_alloc | apply pw_below_drewN | apply below_drew1) | exact HB.out)⟩⟩
        case rest =>
          clear HC10
          try clear c1
          try clear p2
          try clear c4
          try clear c4b0
          try clear c5
          try clear c8
          try clear c13
          try clear c13b0
          try clear c13b1
          try clear c13b2
          try clear p2
          obtain ⟨kq, x38_9, rfl, HA, HJ9, HO_5, HB⟩ := hcut
          cases kq with
          | zero => exact absurd HA.out (by simp [sashlaw16_SpreadSizes.j1])
          | succ kj9 =>
            have H := HA.out
            clear HA
            simp only [sashlaw16_SpreadSizes.j1] at H
            by_cases c17 : x38_9 = true
            · subst c17
              have H1 : (some false) = some r := by rw [if_pos rfl] at H; exact H
              clear H
              have H := H1
              clear H1
              obtain rfl := Option.some.inj H
              go_wp2
              repeat (go_quiet (fail); try go_wp2)
              go_ret
              exact ⟨by first | rfl | (simp [errW_none, errW_some] <;> rfl) | (simp [*, errW_none, errW_some] <;> rfl), by repeat (first | (with_reducible first | exact HB.out | apply below_alloc | apply pw_below_drewN | apply below_drew1) | exact HB.out)⟩
            · replace c17 := Bool.eq_false_iff.mpr c17
              subst c17
              have H1 : (sashlaw16_SpreadSizes.l0 kj9 a0 t412 t413 (wrap64 (a1 - 1)) 0) = some r := by rw [if_neg (show ¬ (false = true) by decide)] at H; exact H
              clear H
              have H := H1
              clear H1
              have H' := Aside0.mk H
              clear H
              go_wp2
              repeat (go_quiet (fail); try go_wp2)
              go_loopg [9, 10] kj9 (fun kq v9 v10 w' => ∃ (x9_3 : Int) (x10_3 : Int), v9 = .int .i64 x9_3 ∧ v10 = .int .i64 x10_3 ∧ Aside0 (sashlaw16_SpreadSizes.l0 kq a0 t412 t413 x9_3 x10_3 = some r) ∧ Aside0 (kq ≤ kj9) ∧ Aside0 (Kd.R (Kd.int .i64) 3 w' w.heap.size (fun _ => True) v414 t412) ∧ Aside0 (Below w.heap.size w w'))
              case atStart => exact ⟨(wrap64 (a1 - 1)), (0), (by first | rfl | (simp; done) | (simp [*]; done)), (by first | rfl | (simp; done) | (simp [*]; done)), H', ⟨Nat.le_refl _⟩, ⟨by (with_reducible repeat (first | apply Kd.R_alloc | apply Kd.R_drewN | apply Kd.R_drew)); exact HO_5.out⟩, ⟨by repeat (first | (with_reducible first | exact HB.out | apply below_alloc | apply pw_below_drewN | apply below_drew1) | exact HB.out)⟩⟩
              case round =>
                clear H'
                try clear c1
                try clear p2
                try clear c4
                try clear c4b0
                try clear c5
                try clear p6
                try clear c8
                try clear c13
                try clear c13b0
                try clear c13b1
                try clear c13b2
                try clear c17
                try clear p2
                obtain ⟨x9_3, x10_3, rfl, rfl, HA, HK3, HO_5, HB⟩ := hrel
                cases gk with
                | zero => exact absurd HA.out (by simp [sashlaw16_SpreadSizes.l0])
                | succ k3 =>
                  have H := HA.out
                  clear HA
                  simp only [sashlaw16_SpreadSizes.l0] at H
                  by_cases c18 : x10_3 < (t412.length : Int)
                  · rw [if_pos c18] at H
                    have c18b0 : decide (x10_3 < (t412.length : Int)) = true := decide_eq_true c18
                    clear c18
                    by_cases c19 : 0 ≤ x10_3
                    · rw [if_pos c19] at H
                      have c19b0 : decide (0 ≤ x10_3) = true := decide_eq_true c19
                      clear c19
                      by_cases c20 : (rd t412 x10_3) < 1
                      · rw [if_pos c20] at H
                        have c20b0 : decide ((rd t412 x10_3) < 1) = true := decide_eq_true c20
                        clear c20
                        obtain rfl := Option.some.inj H
                        obtain ⟨Ao21, co21, eo21⟩ := Kd.R_slice HO_5.out
                        subst eo21
                        have p421 : 0 ≤ (x10_3 : Int) := of_decide_eq_true (by first | (with_reducible assumption) | assumption)
                        have q421 : x10_3 < (t412.length : Int) := of_decide_eq_true (by first | (with_reducible assumption) | assumption)
                        obtain ⟨ad421, e421, hx421_0⟩ := Kd.at_int (Kd.R_reads' HO_5.out).2.2 x10_3 p421 q421
                        cases e421
                        replace p421 := eq_true p421
                        replace q421 := eq_true q421
                        have p422 : 0 ≤ (x10_3 : Int) := of_decide_eq_true (by first | (with_reducible assumption) | assumption)
                        have q422 : x10_3 < (t412.length : Int) := of_decide_eq_true (by first | (with_reducible assumption) | assumption)
                        obtain ⟨ad422, e422, hx422_0⟩ := Kd.at_int (Kd.R_reads' HO_5.out).2.2 x10_3 p422 q422
                        obtain rfl : ad421 = ad422 := (by injection e422)
                        replace p422 := eq_true p422
                        replace q422 := eq_true q422
                        go_wp2
                        repeat (go_quiet (fail); try go_wp2)
                        go_ret
                        exact ⟨by first | rfl | (simp [errW_none, errW_some] <;> rfl) | (simp [*, errW_none, errW_some] <;> rfl), by repeat (first | (with_reducible first | exact HB.out | apply below_alloc | apply pw_below_drewN | apply below_drew1) | exact HB.out)⟩
                      · rw [if_neg c20] at H
                        have c20b0 : decide ((rd t412 x10_3) < 1) = false := decide_eq_false c20
                        clear c20
                        by_cases c22 : 0 < (t412.length : Int)
                        · rw [if_pos c22] at H
                          have c22b0 : decide (0 < (t412.length : Int)) = true := decide_eq_true c22
                          have c22b1 : decide (0 < t412.length) = true := decide_eq_true (by omega)
                          clear c22
                          by_cases c23 : (rd t412 x10_3) > (rd t412 0)
                          · rw [if_pos c23] at H
                            have c23b0 : decide ((rd t412 0) < (rd t412 x10_3)) = true := decide_eq_true c23
                            clear c23
                            obtain rfl := Option.some.inj H
                            obtain ⟨Ao24, co24, eo24⟩ := Kd.R_slice HO_5.out
                            subst eo24
                            have p421 : 0 ≤ (x10_3 : Int) := of_decide_eq_true (by first | (with_reducible assumption) | assumption)
                            have q421 : x10_3 < (t412.length : Int) := of_decide_eq_true (by first | (with_reducible assumption) | assumption)
                            obtain ⟨ad421, e421, hx421_0⟩ := Kd.at_int (Kd.R_reads' HO_5.out).2.2 x10_3 p421 q421
                            cases e421
                            replace p421 := eq_true p421
                            replace q421 := eq_true q421
                            have p422 : 0 ≤ (x10_3 : Int) := of_decide_eq_true (by first | (with_reducible assumption) | assumption)
                            have q422 : x10_3 < (t412.length : Int) := of_decide_eq_true (by first | (with_reducible assumption) | assumption)
                            obtain ⟨ad422, e422, hx422_0⟩ := Kd.at_int (Kd.R_reads' HO_5.out).2.2 x10_3 p422 q422
                            obtain rfl : ad421 = ad422 := (by injection e422)
                            replace p422 := eq_true p422
                            replace q422 := eq_true q422
                            have p423 : 0 ≤ (x10_3 : Int) := of_decide_eq_true (by first | (with_reducible assumption) | assumption)
                            have q423 : x10_3 < (t412.length : Int) := of_decide_eq_true (by first | (with_reducible assumption) | assumption)
                            obtain ⟨ad423, e423, hx423_0⟩ := Kd.at_int (Kd.R_reads' HO_5.out).2.2 x10_3 p423 q423
                            obtain rfl : ad421 = ad423 := (by injection e423)
                            replace p423 := eq_true p423
                            replace q423 := eq_true q423
                            have p424 : 0 ≤ (0 : Int) := (by omega)
                            have q424 : 0 < (t412.length : Int) := of_decide_eq_true (by first | (with_reducible assumption) | assumption)
                            obtain ⟨ad424, e424, hx424_0⟩ := Kd.at_int (Kd.R_reads' HO_5.out).2.2 0 p424 q424
                            obtain rfl : ad421 = ad424 := (by injection e424)
                            have qi424 : (0 < t412.length) = True := eq_true (by omega)
                            (try rw [show ((0 : Int)).toNat = 0 from rfl] at hx424_0)
                            (try rw [Addr.add_zero'] at hx424_0)
                            replace p424 := eq_true p424
                            replace q424 := eq_true q424
                            go_wp2
                            repeat (go_quiet (fail); try go_wp2)
                            go_ret
                            exact ⟨by first | rfl | (simp [errW_none, errW_some] <;> rfl) | (simp [*, errW_none, errW_some] <;> rfl), by repeat (first | (with_reducible first | exact HB.out | apply below_alloc | apply pw_below_drewN | apply below_drew1) | exact HB.out)⟩
                          · rw [if_neg c23] at H
                            have c23b0 : decide ((rd t412 0) < (rd t412 x10_3)) = false := decide_eq_false c23
                            clear c23
                            by_cases c25 : (rd t412 x10_3) < (wrap64 ((rd t412 0) - 1))
                            · rw [if_pos c25] at H
                              have c25b0 : decide ((rd t412 x10_3) < (wrap64 ((rd t412 0) - 1))) = true := decide_eq_true c25
                              clear c25
                              obtain rfl := Option.some.inj H
                              obtain ⟨Ao26, co26, eo26⟩ := Kd.R_slice HO_5.out
                              subst eo26
                              have p421 : 0 ≤ (x10_3 : Int) := of_decide_eq_true (by first | (with_reducible assumption) | assumption)
                              have q421 : x10_3 < (t412.length : Int) := of_decide_eq_true (by first | (with_reducible assumption) | assumption)
                              obtain ⟨ad421, e421, hx421_0⟩ := Kd.at_int (Kd.R_reads' HO_5.out).2.2 x10_3 p421 q421
                              cases e421
                              replace p421 := eq_true p421
                              replace q421 := eq_true q421
                              have p422 : 0 ≤ (x10_3 : Int) := of_decide_eq_true (by first | (with_reducible assumption) | assumption)
                              have q422 : x10_3 < (t412.length : Int) := of_decide_eq_true (by first | (with_reducible assumption) | assumption)
                              obtain ⟨ad422, e422, hx422_0⟩ := Kd.at_int (Kd.R_reads' HO_5.out).2.2 x10_3 p422 q422
                              obtain rfl : ad421 = ad422 := (by injection e422)
                              replace p422 := eq_true p422
                              replace q422 := eq_true q422
                              have p423 : 0 ≤ (x10_3 : Int) := of_decide_eq_true (by first | (with_reducible assumption) | assumption)
                              have q423 : x10_3 < (t412.length : Int) := of_decide_eq_true (by first | (with_reducible assumption) | assumption)
                              obtain ⟨ad423, e423, hx423_0⟩ := Kd.at_int (Kd.R_reads' HO_5.out).2.2 x10_3 p423 q423
                              obtain rfl : ad421 = ad423 := (by injection e423)
                              replace p423 := eq_true p423
                              replace q423 := eq_true q423
                              have p424 : 0 ≤ (0 : Int) := (by omega)
                              have q424 : 0 < (t412.length : Int) := of_decide_eq_true (by first | (with_reducible assumption) | assumption)
                              obtain ⟨ad424, e424, hx424_0⟩ := Kd.at_int (Kd.R_reads' HO_5.out).2.2 0 p424 q424
                              obtain rfl : ad421 = ad424 := (by injection e424)
                              have qi424 : (0 < t412.length) = True := eq_true (by omega)
                              (try rw [show ((0 : Int)).toNat = 0 from rfl] at hx424_0)
                              (try rw [Addr.add_zero'] at hx424_0)
                              replace p424 := eq_true p424
                              replace q424 := eq_true q424
                              have p425 : 0 ≤ (x10_3 : Int) := of_decide_eq_true (by first | (with_reducible assumption) | assumption)
                              have q425 : x10_3 < (t412.length : Int) := of_decide_eq_true (by first | (with_reducible assumption) | assumption)
                              obtain ⟨ad425, e425, hx425_0⟩ := Kd.at_int (Kd.R_reads' HO_5.out).2.2 x10_3 p425 q425
                              obtain rfl : ad421 = ad425 := (by injection e425)
                              replace p425 := eq_true p425
                              replace q425 := eq_true q425
                              have p426 : 0 ≤ (0 : Int) := (by omega)
                              have q426 : 0 < (t412.length : Int) := of_decide_eq_true (by first | (with_reducible assumption) | assumption)
                              obtain ⟨ad426, e426, hx426_0⟩ := Kd.at_int (Kd.R_reads' HO_5.out).2.2 0 p426 q426
                              obtain rfl : ad421 = ad426 := (by injection e426)
                              have qi426 : (0 < t412.length) = True := eq_true (by omega)
                              (try rw [show ((0 : Int)).toNat = 0 from rfl] at hx426_0)
                              (try rw [Addr.add_zero'] at hx426_0)
                              replace p426 := eq_true p426
                              replace q426 := eq_true q426
                              go_wp2
                              repeat (go_quiet (fail); try go_wp2)
                              go_ret
                              exact ⟨by first | rfl | (simp [errW_none, errW_some] <;> rfl) | (simp [*, errW_none, errW_some] <;> rfl), by repeat (first | (with_reducible first | exact HB.out | apply below_alloc | apply pw_below_drewN | apply below_drew1) | exact HB.out)⟩
                            · rw [if_neg c25] at H
                              have c25b0 : decide ((rd t412 x10_3) < (wrap64 ((rd t412 0) - 1))) = false := decide_eq_false c25
                              clear c25
                              have H' := Aside0.mk H
                              clear H
                              obtain ⟨Ao27, co27, eo27⟩ := Kd.R_slice HO_5.out
                              subst eo27
                              have p421 : 0 ≤ (x10_3 : Int) := of_decide_eq_true (by first | (with_reducible assumption) | assumption)
                              have q421 : x10_3 < (t412.length : Int) := of_decide_eq_true (by first | (with_reducible assumption) | assumption)
                              obtain ⟨ad421, e421, hx421_0⟩ := Kd.at_int (Kd.R_reads' HO_5.out).2.2 x10_3 p421 q421
                              cases e421
                              replace p421 := eq_true p421
                              replace q421 := eq_true q421
                              have p422 : 0 ≤ (x10_3 : Int) := of_decide_eq_true (by first | (with_reducible assumption) | assumption)
                              have q422 : x10_3 < (t412.length : Int) := of_decide_eq_true (by first | (with_reducible assumption) | assumption)
                              obtain ⟨ad422, e422, hx422_0⟩ := Kd.at_int (Kd.R_reads' HO_5.out).2.2 x10_3 p422 q422
                              obtain rfl : ad421 = ad422 := (by injection e422)
                              replace p422 := eq_true p422
                              replace q422 := eq_true q422
                              have p423 : 0 ≤ (x10_3 : Int) := of_decide_eq_true (by first | (with_reducible assumption) | assumption)
                              have q423 : x10_3 < (t412.length : Int) := of_decide_eq_true (by first | (with_reducible assumption) | assumption)
                              obtain ⟨ad423, e423, hx423_0⟩ := Kd.at_int (Kd.R_reads' HO_5.out).2.2 x10_3 p423 q423
                              obtain rfl : ad421 = ad423 := (by injection e423)
                              replace p423 := eq_true p423
                              replace q423 := eq_true q423
                              have p424 : 0 ≤ (0 : Int) := (by omega)
                              have q424 : 0 < (t412.length : Int) := of_decide_eq_true (by first | (with_reducible assumption) | assumption)
                              obtain ⟨ad424, e424, hx424_0⟩ := Kd.at_int (Kd.R_reads' HO_5.out).2.2 0 p424 q424
                              obtain rfl : ad421 = ad424 := (by injection e424)
                              have qi424 : (0 < t412.length) = True := eq_true (by omega)
                              (try rw [show ((0 : Int)).toNat = 0 from rfl] at hx424_0)
                              (try rw [Addr.add_zero'] at hx424_0)
                              replace p424 := eq_true p424
                              replace q424 := eq_true q424
                              have p425 : 0 ≤ (x10_3 : Int) := of_decide_eq_true (by first | (with_reducible assumption) | assumption)
                              have q425 : x10_3 < (t412.length : Int) := of_decide_eq_true (by first | (with_reducible assumption) | assumption)
                              obtain ⟨ad425, e425, hx425_0⟩ := Kd.at_int (Kd.R_reads' HO_5.out).2.2 x10_3 p425 q425
                              obtain rfl : ad421 = ad425 := (by injection e425)
                              replace p425 := eq_true p425
                              replace q425 := eq_true q425
                              have p426 : 0 ≤ (0 : Int) := (by omega)
                              have q426 : 0 < (t412.length : Int) := of_decide_eq_true (by first | (with_reducible assumption) | assumption)
                              obtain ⟨ad426, e426, hx426_0⟩ := Kd.at_int (Kd.R_reads' HO_5.out).2.2 0 p426 q426
                              obtain rfl : ad421 = ad426 := (by injection e426)
                              have qi426 : (0 < t412.length) = True := eq_true (by omega)
                              (try rw [show ((0 : Int)).toNat = 0 from rfl] at hx426_0)
                              (try rw [Addr.add_zero'] at hx426_0)
                              replace p426 := eq_true p426
                              replace q426 := eq_true q426
                              go_wp2
                              repeat (go_quiet (fail); try go_wp2)
                              go_roundg k3
                              case measure => have := HJ2.out; have := HJ9.out; have := HK3.out; omega
                              case rel => exact ⟨(wrap64 (x9_3 + (rd t412 x10_3))), (wrap64 (x10_3 + 1)), (by first | rfl | (simp; done) | (simp [*]; done)), (by first | rfl | (simp; done) | (simp [*]; done)), H', ⟨by have := HJ2.out; have := HJ9.out; have := HK3.out; omega⟩, ⟨by (with_reducible repeat (first | apply Kd.R_alloc | apply Kd.R_drewN | apply Kd.R_drew)); exact HO_5.out⟩, ⟨by repeat (first | (with_reducible first | exact HB.out | apply below_alloc | apply pw_below_drewN | apply below_drew1) | exact HB.out)⟩⟩
                        · rw [if_neg c22] at H
                          exact absurd H (by simp)
                    · rw [if_neg c19] at H
                      exact absurd H (by simp)
                  · rw [if_neg c18] at H
                    have c18b0 : decide (x10_3 < (t412.length : Int)) = false := decide_eq_false c18
                    clear c18
                    by_cases c28 : t413 = true
                    · subst c28
                      have H1 : (if x9_3 = a0 then ((sashlaw16_awake.f k3).bind fun t427 => (some t427)) else (some false)) = some r := by rw [if_pos rfl] at H; exact H
                      clear H
                      have H := H1
                      clear H1
                      by_cases c29 : x9_3 = a0
                      · rw [if_pos c29] at H
                        have c29b0 : (x9_3 == a0) = true := beq_iff_eq.mpr c29
                        have c29b1 : (x9_3 != a0) = false := bne_eq_false_iff_eq.mpr c29
                        clear c29
                        replace H := Option.bind_eq_some_iff.mp H
                        obtain ⟨t427, A300, H⟩ := H
                        replace H : (some t427) = some r := H
                        have A30 := Aside0.mk A300
                        clear A300
                        obtain rfl := Option.some.inj H
                        obtain ⟨Ao31, co31, eo31⟩ := Kd.R_slice HO_5.out
                        subst eo31
                        go_wp2_with (first | (go_at_call 52; (with_reducible refine (sashlaw16_awake.calls k3  t427 _ A30.out).mono ?_); rintro e w32 ⟨rfl, hb⟩; have n0_ := Aside0.mk (Kd.R_below (by (with_reducible repeat (first | apply Kd.R_alloc | apply Kd.R_drewN | apply Kd.R_drew)); exact HO_5.out) hb); have n1_ := Aside0.mk (below_step (by repeat (first | (with_reducible first | exact HB.out | apply below_alloc | apply pw_below_drewN | apply below_drew1) | exact HB.out)) hb); clear HO_5; clear HB; have HO_5 := n0_; have HB := n1_; clear n0_ n1_; (try clear hb); (try clear hb2); (try clear hk); (try clear hi)))
                        repeat (go_quiet (first | (go_at_call 52; (with_reducible refine (sashlaw16_awake.calls k3  t427 _ A30.out).mono ?_); rintro e w32 ⟨rfl, hb⟩; have n0_ := Aside0.mk (Kd.R_below (by (with_reducible repeat (first | apply Kd.R_alloc | apply Kd.R_drewN | apply Kd.R_drew)); exact HO_5.out) hb); have n1_ := Aside0.mk (below_step (by repeat (first | (with_reducible first | exact HB.out | apply below_alloc | apply pw_below_drewN | apply below_drew1) | exact HB.out)) hb); clear HO_5; clear HB; have HO_5 := n0_; have HB := n1_; clear n0_ n1_; (try clear hb); (try clear hb2); (try clear hk); (try clear hi))); try go_wp2_with (first | (go_at_call 52; (with_reducible refine (sashlaw16_awake.calls k3  t427 _ A30.out).mono ?_); rintro e w32 ⟨rfl, hb⟩; have n0_ := Aside0.mk (Kd.R_below (by (with_reducible repeat (first | apply Kd.R_alloc | apply Kd.R_drewN | apply Kd.R_drew)); exact HO_5.out) hb); have n1_ := Aside0.mk (below_step (by repeat (first | (with_reducible first | exact HB.out | apply below_alloc | apply pw_below_drewN | apply below_drew1) | exact HB.out)) hb); clear HO_5; clear HB; have HO_5 := n0_; have HB := n1_; clear n0_ n1_; (try clear hb); (try clear hb2); (try clear hk); (try clear hi))))
                        go_ret
                        exact ⟨by first | rfl | (simp [errW_none, errW_some] <;> rfl) | (simp [*, errW_none, errW_some] <;> rfl), by repeat (first | (with_reducible first | exact HB.out | apply below_alloc | apply pw_below_drewN | apply below_drew1) | exact HB.out)⟩
                      · rw [if_neg c29] at H
                        have c29b0 : (x9_3 == a0) = false := beq_eq_false_iff_ne.mpr c29
                        have c29b1 : (x9_3 != a0) = true := bne_iff_ne.mpr c29
                        obtain rfl := Option.some.inj H
                        obtain ⟨Ao33, co33, eo33⟩ := Kd.R_slice HO_5.out
                        subst eo33
                        go_wp2
                        repeat (go_quiet (fail); try go_wp2)
                        go_ret
                        exact ⟨by first | rfl | (simp [errW_none, errW_some] <;> rfl) | (simp [*, errW_none, errW_some] <;> rfl), by repeat (first | (with_reducible first | exact HB.out | apply below_alloc | apply pw_below_drewN | apply below_drew1) | exact HB.out)⟩
                    · replace c28 := Bool.eq_false_iff.mpr c28
                      subst c28
                      have H1 : ((sashlaw16_awake.f k3).bind fun t428 => (some t428)) = some r := by rw [if_neg (show ¬ (false = true) by decide)] at H; exact H
                      clear H
                      have H := H1
                      clear H1
                      replace H := Option.bind_eq_some_iff.mp H
                      obtain ⟨t428, A340, H⟩ := H
                      replace H : (some t428) = some r := H
                      have A34 := Aside0.mk A340
                      clear A340
                      obtain rfl := Option.some.inj H
                      obtain ⟨Ao35, co35, eo35⟩ := Kd.R_slice HO_5.out
                      subst eo35
                      go_wp2_with (first | (go_at_call 52; (with_reducible refine (sashlaw16_awake.calls k3  t428 _ A34.out).mono ?_); rintro e w36 ⟨rfl, hb⟩; have n0_ := Aside0.mk (Kd.R_below (by (with_reducible repeat (first | apply Kd.R_alloc | apply Kd.R_drewN | apply Kd.R_drew)); exact HO_5.out) hb); have n1_ := Aside0.mk (below_step (by repeat (first | (with_reducible first | exact HB.out | apply below_alloc | apply pw_below_drewN | apply below_drew1) | exact HB.out)) hb); clear HO_5; clear HB; have HO_5 := n0_; have HB := n1_; clear n0_ n1_; (try clear hb); (try clear hb2); (try clear hk); (try clear hi)))
                      repeat (go_quiet (first | (go_at_call 52; (with_reducible refine (sashlaw16_awake.calls k3  t428 _ A34.out).mono ?_); rintro e w36 ⟨rfl, hb⟩; have n0_ := Aside0.mk (Kd.R_below (by (with_reducible repeat (first | apply Kd.R_alloc | apply Kd.R_drewN | apply Kd.R_drew)); exact HO_5.out) hb); have n1_ := Aside0.mk (below_step (by repeat (first | (with_reducible first | exact HB.out | apply below_alloc | apply pw_below_drewN | apply below_drew1) | exact HB.out)) hb); clear HO_5; clear HB; have HO_5 := n0_; have HB := n1_; clear n0_ n1_; (try clear hb); (try clear hb2); (try clear hk); (try clear hi))); try go_wp2_with (first | (go_at_call 52; (with_reducible refine (sashlaw16_awake.calls k3  t428 _ A34.out).mono ?_); rintro e w36 ⟨rfl, hb⟩; have n0_ := Aside0.mk (Kd.R_below (by (with_reducible repeat (first | apply Kd.R_alloc | apply Kd.R_drewN | apply Kd.R_drew)); exact HO_5.out) hb); have n1_ := Aside0.mk (below_step (by repeat (first | (with_reducible first | exact HB.out | apply below_alloc | apply pw_below_drewN | apply below_drew1) | exact HB.out)) hb); clear HO_5; clear HB; have HO_5 := n0_; have HB := n1_; clear n0_ n1_; (try clear hb); (try clear hb2); (try clear hk); (try clear hi))))
                      go_ret
                      exact ⟨by first | rfl | (simp [errW_none, errW_some] <;> rfl) | (simp [*, errW_none, errW_some] <;> rfl), by repeat (first | (with_reducible first | exact HB.out | apply below_alloc | apply pw_below_drewN | apply below_drew1) | exact HB.out)⟩

/-- THE ONE PURE STATEMENT of sashlaw16_SpreadSizes: yours. -/
def sashlaw16_SpreadSizes.Pure : Prop := ∀ (a0 : Int) (a1 : Int), (Lit.int .i64 a0).wf = true → (Lit.int .i64 a1).wf = true → ∃ k, sashlaw16_SpreadSizes.f k a0 a1 = some true
theorem sashlaw16_SpreadSizes.walk (P : sashlaw16_SpreadSizes.Pure) (a0 : Int) (a1 : Int) (w : World) (w0 : (Lit.int .i64 a0).wf = true) (w1 : (Lit.int .i64 a1).wf = true) :
    Calls Try.prog 8 #[.int .i64 a0, .int .i64 a1] w fun e w' => e = .returned (.bool true) ∧ Below w.heap.size w w' := by
  obtain ⟨k, h⟩ := P a0 a1 w0 w1
  refine (sashlaw16_SpreadSizes.calls k a0 a1 true w h).mono ?_
  rintro e w' ⟨rfl, hd⟩
  exact ⟨rfl, hd⟩

end Go.Proofs.Ytfdmfgaiblfbhaa.P
