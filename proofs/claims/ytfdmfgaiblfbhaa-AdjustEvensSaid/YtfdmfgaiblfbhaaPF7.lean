-- Written by a program for this claim; Lean checks it.
import Derived.Test.YtfdmfgaiblfbhaaPK
import Derived.Test.YtfdmfgaiblfbhaaPF49
import Derived.Test.YtfdmfgaiblfbhaaPF48
namespace Go.Proofs.Ytfdmfgaiblfbhaa.P
open Go.RowKit Go.Proofs.YtfdmfgaiblfbhaaW.PrintWords Go.Proofs.YtfdmfgaiblfbhaaW.PrintLast Go.Proofs.YtfdmfgaiblfbhaaW.PrintMore
attribute [local go_sem] max2_int min2_int max_two min_two max_three min_three max_four min_four   -- for this text's walks alone
set_option linter.unusedVariables false
set_option linter.unusedSimpArgs false

/-! ### sashlaw09_AdjustEvens: function 7 -/
mutual
def sashlaw09_AdjustEvens.j0 : Nat → Int → List Int → Bool → Option (Bool)
  | 0, _, _, _ => none
  | k + 1, x0, x1, x20 => if x20 = true then ((sashlaw09_awake.f k).bind fun t357 => (some t357)) else ((adjust_Shares.f k x0 x1).bind fun bt358 => (if bt358.2 = true then (if (bt358.1.length : Int) = (x1.length : Int) then (sashlaw09_AdjustEvens.l0 k x0 x1 bt358.1 0 0) else (some false)) else ((sashlaw09_awake.f k).bind fun t362 => (some t362))))
def sashlaw09_AdjustEvens.l0 : Nat → Int → List Int → List Int → Int → Int → Option (Bool)
  | 0, _, _, _, _, _ => none
  | k + 1, x0, x1, x5, x7, x8 => if x8 < (x5.length : Int) then (if 0 ≤ x8 then (sashlaw09_AdjustEvens.l1 k x0 x1 x5 (wrap64 (x7 + (rd x5 x8))) x8 0) else (none)) else (if x7 = x0 then ((sashlaw09_awake.f k).bind fun t363 => (some t363)) else (some false))
def sashlaw09_AdjustEvens.l1 : Nat → Int → List Int → List Int → Int → Int → Int → Option (Bool)
  | 0, _, _, _, _, _, _ => none
  | k + 1, x0, x1, x5, x7, x8, x9 => if x9 < (x5.length : Int) then (if x0 ≥ 0 then (if 0 ≤ x8 then (if x8 < (x5.length : Int) then (if (rd x5 x8) < 0 then (some false) else (if 0 ≤ x9 then (if (rd x5 x8) > (wrap64 ((rd x5 x9) + 1)) then (some false) else (if x0 < 0 then (if (rd x5 x8) > 0 then (some false) else (sashlaw09_AdjustEvens.l1 k x0 x1 x5 x7 x8 (wrap64 (x9 + 1)))) else (sashlaw09_AdjustEvens.l1 k x0 x1 x5 x7 x8 (wrap64 (x9 + 1))))) else (none))) else (none)) else (none)) else (if x0 < 0 then (if 0 ≤ x8 then (if x8 < (x5.length : Int) then (if (rd x5 x8) > 0 then (some false) else (if 0 ≤ x9 then (if (rd x5 x8) > (wrap64 ((rd x5 x9) + 1)) then (if x8 < (x1.length : Int) then (if (rd x5 x8) = (wrap64 (-(rd x1 x8))) then (sashlaw09_AdjustEvens.l1 k x0 x1 x5 x7 x8 (wrap64 (x9 + 1))) else (some false)) else (none)) else (sashlaw09_AdjustEvens.l1 k x0 x1 x5 x7 x8 (wrap64 (x9 + 1)))) else (none))) else (none)) else (none)) else (sashlaw09_AdjustEvens.l1 k x0 x1 x5 x7 x8 (wrap64 (x9 + 1))))) else (if 0 ≤ x8 then (if x8 < (x5.length : Int) then (if (rd x5 x8) < 0 then (if x8 < (x1.length : Int) then (if (wrap64 (-(rd x5 x8))) > (rd x1 x8) then (some false) else (sashlaw09_AdjustEvens.l0 k x0 x1 x5 x7 (wrap64 (x8 + 1)))) else (none)) else (sashlaw09_AdjustEvens.l0 k x0 x1 x5 x7 (wrap64 (x8 + 1)))) else (none)) else (none))
end
def sashlaw09_AdjustEvens.f (k : Nat) (a0 : Int) (l1 : List Int) : Option (Bool) := if (l1.length : Int) > 50 then (sashlaw09_AdjustEvens.j0 k a0 l1 true) else (if a0 > 3000 then (sashlaw09_AdjustEvens.j0 k a0 l1 true) else (sashlaw09_AdjustEvens.j0 k a0 l1 (decide (a0 < (-3000)))))
theorem sashlaw09_AdjustEvens.mono_l : ∀ k, (∀ y0 y1 y2, LeO (sashlaw09_AdjustEvens.j0 k y0 y1 y2) (sashlaw09_AdjustEvens.j0 (k + 1) y0 y1 y2)) ∧ (∀ y0 y1 y2 y3 y4, LeO (sashlaw09_AdjustEvens.l0 k y0 y1 y2 y3 y4) (sashlaw09_AdjustEvens.l0 (k + 1) y0 y1 y2 y3 y4)) ∧ (∀ y0 y1 y2 y3 y4 y5, LeO (sashlaw09_AdjustEvens.l1 k y0 y1 y2 y3 y4 y5) (sashlaw09_AdjustEvens.l1 (k + 1) y0 y1 y2 y3 y4 y5))
  | 0 => ⟨fun _ _ _ r h => by simp [sashlaw09_AdjustEvens.j0] at h, fun _ _ _ _ _ r h => by simp [sashlaw09_AdjustEvens.l0] at h, fun _ _ _ _ _ _ r h => by simp [sashlaw09_AdjustEvens.l1] at h⟩
  | k + 1 => by
    obtain ⟨ih0, ih1, ih2⟩ := sashlaw09_AdjustEvens.mono_l k
    refine ⟨?_, ?_, ?_⟩
    · intro y0 y1 y2
      unfold sashlaw09_AdjustEvens.j0
      repeat' first
      | (with_reducible exact ih0 _ _ _)
      | (with_reducible exact ih1 _ _ _ _ _)
      | (with_reducible exact ih2 _ _ _ _ _ _)
      | (with_reducible exact adjust_Shares.mono _ _ _)
      | (with_reducible exact sashlaw09_awake.mono _)
      | (with_reducible exact LeO.refl _)
      | (with_reducible exact LeO.none _)
      | (with_reducible refine LeO.ite ?_ ?_)
      | (with_reducible refine LeO.bind ?_ (fun _ => ?_))
      | exact ih0 _ _ _
      | exact ih1 _ _ _ _ _
      | exact ih2 _ _ _ _ _ _
      | exact adjust_Shares.mono _ _ _
      | exact sashlaw09_awake.mono _
      | exact LeO.none _
      | refine LeO.ite ?_ ?_
      | refine LeO.bind ?_ (fun _ => ?_)
    · intro y0 y1 y2 y3 y4
      unfold sashlaw09_AdjustEvens.l0
      repeat' first
      | (with_reducible exact ih0 _ _ _)
      | (with_reducible exact ih1 _ _ _ _ _)
      | (with_reducible exact ih2 _ _ _ _ _ _)
      | (with_reducible exact adjust_Shares.mono _ _ _)
      | (with_reducible exact sashlaw09_awake.mono _)
      | (with_reducible exact LeO.refl _)
      | (with_reducible exact LeO.none _)
      | (with_reducible refine LeO.ite ?_ ?_)
      | (with_reducible refine LeO.bind ?_ (fun _ => ?_))
      | exact ih0 _ _ _
      | exact ih1 _ _ _ _ _
      | exact ih2 _ _ _ _ _ _
      | exact adjust_Shares.mono _ _ _
      | exact sashlaw09_awake.mono _
      | exact LeO.none _
      | refine LeO.ite ?_ ?_
      | refine LeO.bind ?_ (fun _ => ?_)
    · intro y0 y1 y2 y3 y4 y5
      unfold sashlaw09_AdjustEvens.l1
      repeat' first
      | (with_reducible exact ih0 _ _ _)
      | (with_reducible exact ih1 _ _ _ _ _)
      | (with_reducible exact ih2 _ _ _ _ _ _)
      | (with_reducible exact adjust_Shares.mono _ _ _)
      | (with_reducible exact sashlaw09_awake.mono _)
      | (with_reducible exact LeO.refl _)
      | (with_reducible exact LeO.none _)
      | (with_reducible refine LeO.ite ?_ ?_)
      | (with_reducible refine LeO.bind ?_ (fun _ => ?_))
      | exact ih0 _ _ _
      | exact ih1 _ _ _ _ _
      | exact ih2 _ _ _ _ _ _
      | exact adjust_Shares.mono _ _ _
      | exact sashlaw09_awake.mono _
      | exact LeO.none _
      | refine LeO.ite ?_ ?_
      | refine LeO.bind ?_ (fun _ => ?_)
theorem sashlaw09_AdjustEvens.mono : ∀ a0 a1 k, LeO (sashlaw09_AdjustEvens.f k a0 a1) (sashlaw09_AdjustEvens.f (k + 1) a0 a1) := by
  intro a0 a1 k
  obtain ⟨ih0, ih1, ih2⟩ := sashlaw09_AdjustEvens.mono_l k
  unfold sashlaw09_AdjustEvens.f
  repeat' first
      | (with_reducible exact ih0 _ _ _)
      | (with_reducible exact ih1 _ _ _ _ _)
      | (with_reducible exact ih2 _ _ _ _ _ _)
      | (with_reducible exact adjust_Shares.mono _ _ _)
      | (with_reducible exact sashlaw09_awake.mono _)
      | (with_reducible exact LeO.refl _)
      | (with_reducible exact LeO.none _)
      | (with_reducible refine LeO.ite ?_ ?_)
      | (with_reducible refine LeO.bind ?_ (fun _ => ?_))
      | exact ih0 _ _ _
      | exact ih1 _ _ _ _ _
      | exact ih2 _ _ _ _ _ _
      | exact adjust_Shares.mono _ _ _
      | exact sashlaw09_awake.mono _
      | exact LeO.none _
      | refine LeO.ite ?_ ?_
      | refine LeO.bind ?_ (fun _ => ?_)
set_option maxHeartbeats 8000000 in
set_option maxRecDepth 100000 in
theorem sashlaw09_AdjustEvens.calls (k : Nat) (a0 : Int) (A1 : Option Addr) (c1 : Nat) (l1 : List Int) (r : Bool) (w : World) (hr1 : Kd.C (Kd.int .i64) w A1 l1.length l1) (hc1 : l1.length ≤ c1) (h : sashlaw09_AdjustEvens.f k a0 l1 = some r) :
    Calls Try.prog 7 #[.int .i64 a0, .slice A1 l1.length c1] w fun e w' => e = .returned (.bool r) ∧ Below w.heap.size w w' := by
  have HR1 := Aside0.mk hr1
  have HC1 := Aside0.mk hc1
  clear hr1 hc1
  have HB := Aside0.mk (Below.refl w.heap.size w)
  have H : (if (l1.length : Int) > 50 then (sashlaw09_AdjustEvens.j0 k a0 l1 true) else (if a0 > 3000 then (sashlaw09_AdjustEvens.j0 k a0 l1 true) else (sashlaw09_AdjustEvens.j0 k a0 l1 (decide (a0 < (-3000)))))) = some r := h
  clear h
  have HC3 := Aside0.mk H
  clear H
  go_enter Try.func7, Try.ntmps7
  go_upto_region 1 with (fail)
  repeat (go_quiet (fail); go_upto_region 1 with (fail))
  go_cut [20] (fun v20 wc => ∃ (kq : Nat) (x20_2 : Bool), v20 = .bool x20_2 ∧ Aside0 (sashlaw09_AdjustEvens.j0 kq a0 l1 x20_2 = some r) ∧ Aside0 (kq ≤ k) ∧ Aside0 (Below w.heap.size w wc))
  case first =>
    have H := HC3.out
    clear HC3
    by_cases c4 : (l1.length : Int) > 50
    · rw [if_pos c4] at H
      have c4b0 : decide (50 < (l1.length : Int)) = true := decide_eq_true c4
      have c4b1 : decide (50 < l1.length) = true := decide_eq_true (by omega)
      clear c4
      (first | rw [c4b0] | (simp only [i64_w, i32_w]; rw [c4b0]) | skip)
      have H' := Aside0.mk H
      clear H
      go_wp2
      repeat (go_quiet (fail); try go_wp2)
      go_meet
      case rel => exact ⟨_, (true), (by first | rfl | (simp; done) | (simp [*]; done)), H', ⟨by first | omega | exact Nat.le_refl _⟩, ⟨by repeat (first | (with_reducible first | exact HB.out | apply below_alloc | apply pw_below_drewN | apply below_drew1) | exact HB.out)⟩⟩
    · rw [if_neg c4] at H
      have c4b0 : decide (50 < (l1.length : Int)) = false := decide_eq_false c4
      have c4b1 : decide (50 < l1.length) = false := decide_eq_false (by omega)
      clear c4
      (first | rw [c4b0] | (simp only [i64_w, i32_w]; rw [c4b0]) | skip)
      by_cases c5 : a0 > 3000
      · rw [if_pos c5] at H
        have c5b0 : decide (3000 < a0) = true := decide_eq_true c5
        clear c5
        have H' := Aside0.mk H
        clear H
        go_wp2
        repeat (go_quiet (fail); try go_wp2)
        go_meet
        case rel => exact ⟨_, (true), (by first | rfl | (simp; done) | (simp [*]; done)), H', ⟨by first | omega | exact Nat.le_refl _⟩, ⟨by repeat (first | (with_reducible first | exact HB.out | apply below_alloc | apply pw_below_drewN | apply below_drew1) | exact HB.out)⟩⟩
      · rw [if_neg c5] at H
        have c5b0 : decide (3000 < a0) = false := decide_eq_false c5
        clear c5
        have H' := Aside0.mk H
        clear H
        go_wp2
        repeat (go_quiet (fail); try go_wp2)
        go_meet
        case rel => exact ⟨_, (decide (a0 < (-3000))), (by first | rfl | (simp; done) | (simp [*]; done)), H', ⟨by first | omega | exact Nat.le_refl _⟩, ⟨by repeat (first | (with_reducible first | exact HB.out | apply below_alloc | apply pw_below_drewN | apply below_drew1) | exact HB.out)⟩⟩
  case rest =>
    clear HC3
    try clear c1
    try clear p2
    try clear c4
    try clear c4b0
    try clear c4b1
    try clear c5
    try clear c5b0
    obtain ⟨kq, x20_2, rfl, HA, HJ2, HB⟩ := hcut
    cases kq with
    | zero => exact absurd HA.out (by simp [sashlaw09_AdjustEvens.j0])
    | succ kj2 =>
      have H := HA.out
      clear HA
      simp only [sashlaw09_AdjustEvens.j0] at H
      by_cases c6 : x20_2 = true
      · subst c6
        have H1 : ((sashlaw09_awake.f kj2).bind fun t357 => (some t357)) = some r := by rw [if_pos rfl] at H; exact H
        clear H
        have H := H1
        clear H1
        replace H := Option.bind_eq_some_iff.mp H
        obtain ⟨t357, A70, H⟩ := H
        replace H : (some t357) = some r := H
        have A7 := Aside0.mk A70
        clear A70
        obtain rfl := Option.some.inj H
        go_wp2_with (first | (go_at_call 48; (with_reducible refine (sashlaw09_awake.calls kj2  t357 _ A7.out).mono ?_); rintro e w8 ⟨rfl, hb⟩; have n0_ := Aside0.mk (below_step (by repeat (first | (with_reducible first | exact HB.out | apply below_alloc | apply pw_below_drewN | apply below_drew1) | exact HB.out)) hb); clear HB; have HB := n0_; clear n0_; (try clear hb); (try clear hb2); (try clear hk); (try clear hi)))
        repeat (go_quiet (first | (go_at_call 48; (with_reducible refine (sashlaw09_awake.calls kj2  t357 _ A7.out).mono ?_); rintro e w8 ⟨rfl, hb⟩; have n0_ := Aside0.mk (below_step (by repeat (first | (with_reducible first | exact HB.out | apply below_alloc | apply pw_below_drewN | apply below_drew1) | exact HB.out)) hb); clear HB; have HB := n0_; clear n0_; (try clear hb); (try clear hb2); (try clear hk); (try clear hi))); try go_wp2_with (first | (go_at_call 48; (with_reducible refine (sashlaw09_awake.calls kj2  t357 _ A7.out).mono ?_); rintro e w8 ⟨rfl, hb⟩; have n0_ := Aside0.mk (below_step (by repeat (first | (with_reducible first | exact HB.out | apply below_alloc | apply pw_below_drewN | apply below_drew1) | exact HB.out)) hb); clear HB; have HB := n0_; clear n0_; (try clear hb); (try clear hb2); (try clear hk); (try clear hi))))
        go_ret
        exact ⟨by first | rfl | (simp [errW_none, errW_some] <;> rfl) | (simp [*, errW_none, errW_some] <;> rfl), by repeat (first | (with_reducible first | exact HB.out | apply below_alloc | apply pw_below_drewN | apply below_drew1) | exact HB.out)⟩
      · replace c6 := Bool.eq_false_iff.mpr c6
        subst c6
        have H1 : ((adjust_Shares.f kj2 a0 l1).bind fun bt358 => (if bt358.2 = true then (if (bt358.1.length : Int) = (l1.length : Int) then (sashlaw09_AdjustEvens.l0 kj2 a0 l1 bt358.1 0 0) else (some false)) else ((sashlaw09_awake.f kj2).bind fun t362 => (some t362)))) = some r := by rw [if_neg (show ¬ (false = true) by decide)] at H; exact H
        clear H
        have H := H1
        clear H1
        replace H := Option.bind_eq_some_iff.mp H
        obtain ⟨⟨t358, t359⟩, A90, H⟩ := H
        replace H : (if t359 = true then (if (t358.length : Int) = (l1.length : Int) then (sashlaw09_AdjustEvens.l0 kj2 a0 l1 t358 0 0) else (some false)) else ((sashlaw09_awake.f kj2).bind fun t362 => (some t362))) = some r := H
        have A9 := Aside0.mk A90
        clear A90
        by_cases c10 : t359 = true
        · subst c10
          have H1 : (if (t358.length : Int) = (l1.length : Int) then (sashlaw09_AdjustEvens.l0 kj2 a0 l1 t358 0 0) else (some false)) = some r := by rw [if_pos rfl] at H; exact H
          clear H
          have H := H1
          clear H1
          by_cases c11 : (t358.length : Int) = (l1.length : Int)
          · rw [if_pos c11] at H
            have c11b0 : ((t358.length : Int) == (l1.length : Int)) = true := beq_iff_eq.mpr c11
            have c11b1 : ((t358.length : Int) != (l1.length : Int)) = false := bne_eq_false_iff_eq.mpr c11
            have c11b2 : (t358.length == l1.length) = true := by first | simpa using c11 | (simp at c11 ⊢; omega)
            clear c11
            have H' := Aside0.mk H
            clear H
            go_wp2_with (first | (go_at_call 49; (with_reducible refine (adjust_Shares.calls kj2 a0 _ _ l1 t358 true _ ?side1 ?side2 A9.out).mono ?_); (case side1 => repeat (first | exact (Kd.C_below HR1.out HB.out) | (with_reducible refine Kd.C_alloc ?_ _) | (with_reducible refine Kd.C_drewN ?_ _) | (with_reducible refine Kd.C_drew ?_))); (case side2 => exact HC1.out); rintro e w12 ⟨v360, rfl, ho0, hb⟩; have n0_ := Aside0.mk (Kd.R_lower ho0 (below_size (by repeat (first | (with_reducible first | exact HB.out | apply below_alloc | apply pw_below_drewN | apply below_drew1) | exact HB.out)))); have n1_ := Aside0.mk (below_step (by repeat (first | (with_reducible first | exact HB.out | apply below_alloc | apply pw_below_drewN | apply below_drew1) | exact HB.out)) hb); clear HB; have HO361 := n0_; have HB := n1_; clear n0_ n1_; (try clear hb); (try clear hb2); (try clear hk); (try clear hi); (try clear ho0); obtain ⟨Ao13, co13, eo13⟩ := Kd.R_slice HO361.out; subst eo13))
            repeat (go_quiet (first | (go_at_call 49; (with_reducible refine (adjust_Shares.calls kj2 a0 _ _ l1 t358 true _ ?side1 ?side2 A9.out).mono ?_); (case side1 => repeat (first | exact (Kd.C_below HR1.out HB.out) | (with_reducible refine Kd.C_alloc ?_ _) | (with_reducible refine Kd.C_drewN ?_ _) | (with_reducible refine Kd.C_drew ?_))); (case side2 => exact HC1.out); rintro e w12 ⟨v360, rfl, ho0, hb⟩; have n0_ := Aside0.mk (Kd.R_lower ho0 (below_size (by repeat (first | (with_reducible first | exact HB.out | apply below_alloc | apply pw_below_drewN | apply below_drew1) | exact HB.out)))); have n1_ := Aside0.mk (below_step (by repeat (first | (with_reducible first | exact HB.out | apply below_alloc | apply pw_below_drewN | apply below_drew1) | exact HB.out)) hb); clear HB; have HO361 := n0_; have HB := n1_; clear n0_ n1_; (try clear hb); (try clear hb2); (try clear hk); (try clear hi); (try clear ho0); obtain ⟨Ao13, co13, eo13⟩ := Kd.R_slice HO361.out; subst eo13)); try go_wp2_with (first | (go_at_call 49; (with_reducible refine (adjust_Shares.calls kj2 a0 _ _ l1 t358 true _ ?side1 ?side2 A9.out).mono ?_); (case side1 => repeat (first | exact (Kd.C_below HR1.out HB.out) | (with_reducible refine Kd.C_alloc ?_ _) | (with_reducible refine Kd.C_drewN ?_ _) | (with_reducible refine Kd.C_drew ?_))); (case side2 => exact HC1.out); rintro e w12 ⟨v360, rfl, ho0, hb⟩; have n0_ := Aside0.mk (Kd.R_lower ho0 (below_size (by repeat (first | (with_reducible first | exact HB.out | apply below_alloc | apply pw_below_drewN | apply below_drew1) | exact HB.out)))); have n1_ := Aside0.mk (below_step (by repeat (first | (with_reducible first | exact HB.out | apply below_alloc | apply pw_below_drewN | apply below_drew1) | exact HB.out)) hb); clear HB; have HO361 := n0_; have HB := n1_; clear n0_ n1_; (try clear hb); (try clear hb2); (try clear hk); (try clear hi); (try clear ho0); obtain ⟨Ao13, co13, eo13⟩ := Kd.R_slice HO361.out; subst eo13)))
            go_loopg [7, 8] kj2 (fun kq v7 v8 w' => ∃ (x7_2 : Int) (x8_2 : Int), v7 = .int .i64 x7_2 ∧ v8 = .int .i64 x8_2 ∧ Aside0 (sashlaw09_AdjustEvens.l0 kq a0 l1 t358 x7_2 x8_2 = some r) ∧ Aside0 (kq ≤ kj2) ∧ Aside0 (Kd.R (Kd.int .i64) 3 w' w.heap.size (fun _ => True) (.slice Ao13 t358.length co13) t358) ∧ Aside0 (Below w.heap.size w w'))
            case atStart => exact ⟨(0), (0), (by first | rfl | (simp; done) | (simp [*]; done)), (by first | rfl | (simp; done) | (simp [*]; done)), H', ⟨Nat.le_refl _⟩, ⟨by (with_reducible repeat (first | apply Kd.R_alloc | apply Kd.R_drewN | apply Kd.R_drew)); exact HO361.out⟩, ⟨by repeat (first | (with_reducible first | exact HB.out | apply below_alloc | apply pw_below_drewN | apply below_drew1) | exact HB.out)⟩⟩
            case round =>
              clear H'
              try clear c1
              try clear p2
              try clear c4
              try clear c4b0
              try clear c4b1
              try clear c5
              try clear c5b0
              try clear c6
              try clear c7
              try clear c10
              try clear c11
              try clear c11b0
              try clear c11b1
              try clear c11b2
              try clear p2
              obtain ⟨x7_2, x8_2, rfl, rfl, HA, HK2, HO_5, HB⟩ := hrel
              cases gk with
              | zero => exact absurd HA.out (by simp [sashlaw09_AdjustEvens.l0])
              | succ k2 =>
                have H := HA.out
                clear HA
                simp only [sashlaw09_AdjustEvens.l0] at H
                by_cases c14 : x8_2 < (t358.length : Int)
                · rw [if_pos c14] at H
                  have c14b0 : decide (x8_2 < (t358.length : Int)) = true := decide_eq_true c14
                  clear c14
                  by_cases c15 : 0 ≤ x8_2
                  · rw [if_pos c15] at H
                    have c15b0 : decide (0 ≤ x8_2) = true := decide_eq_true c15
                    clear c15
                    have H' := Aside0.mk H
                    clear H
                    have p364 : 0 ≤ (x8_2 : Int) := of_decide_eq_true (by first | (with_reducible assumption) | assumption)
                    have q364 : x8_2 < (t358.length : Int) := of_decide_eq_true (by first | (with_reducible assumption) | assumption)
                    obtain ⟨ad364, e364, hx364_0⟩ := Kd.at_int (Kd.R_reads' HO_5.out).2.2 x8_2 p364 q364
                    cases e364
                    replace p364 := eq_true p364
                    replace q364 := eq_true q364
                    go_wp2
                    repeat (go_quiet (fail); try go_wp2)
                    go_loopg [9] k2 (fun kq v9 w' => ∃ (x9_3 : Int), v9 = .int .i64 x9_3 ∧ Aside0 (sashlaw09_AdjustEvens.l1 kq a0 l1 t358 (wrap64 (x7_2 + (rd t358 x8_2))) x8_2 x9_3 = some r) ∧ Aside0 (kq ≤ k2) ∧ Aside0 (Kd.R (Kd.int .i64) 3 w' w.heap.size (fun _ => True) (.slice (some ad364) t358.length co13) t358) ∧ Aside0 (Below w.heap.size w w'))
                    case atStart => exact ⟨(0), (by first | rfl | (simp; done) | (simp [*]; done)), H', ⟨Nat.le_refl _⟩, ⟨by (with_reducible repeat (first | apply Kd.R_alloc | apply Kd.R_drewN | apply Kd.R_drew)); exact HO_5.out⟩, ⟨by repeat (first | (with_reducible first | exact HB.out | apply below_alloc | apply pw_below_drewN | apply below_drew1) | exact HB.out)⟩⟩
                    case round =>
                      clear H'
                      try clear c1
                      try clear p2
                      try clear p3
                      try clear q3
                      try clear hx3
                      try clear c4
                      try clear c4b0
                      try clear c4b1
                      try clear c5
                      try clear c5b0
                      try clear c6
                      try clear p6
                      try clear c7
                      try clear c10
                      try clear c11
                      try clear c11b0
                      try clear c11b1
                      try clear c11b2
                      try clear c14
                      try clear c14b0
                      try clear c15
                      try clear c15b0
                      try clear hx364_0
                      try clear p2
                      try clear p364
                      try clear q364
                      obtain ⟨x9_3, rfl, HA, HK3, HO_5, HB⟩ := hrel
                      cases gk with
                      | zero => exact absurd HA.out (by simp [sashlaw09_AdjustEvens.l1])
                      | succ k3 =>
                        have H := HA.out
                        clear HA
                        simp only [sashlaw09_AdjustEvens.l1] at H
                        by_cases c16 : x9_3 < (t358.length : Int)
                        · rw [if_pos c16] at H
                          have c16b0 : decide (x9_3 < (t358.length : Int)) = true := decide_eq_true c16
                          clear c16
                          by_cases c17 : a0 ≥ 0
                          · rw [if_pos c17] at H
                            have c17b0 : decide (0 ≤ a0) = true := decide_eq_true c17
                            clear c17
                            by_cases c18 : 0 ≤ x8_2
                            · rw [if_pos c18] at H
                              have c18b0 : decide (0 ≤ x8_2) = true := decide_eq_true c18
                              clear c18
                              by_cases c19 : x8_2 < (t358.length : Int)
                              · rw [if_pos c19] at H
                                have c19b0 : decide (x8_2 < (t358.length : Int)) = true := decide_eq_true c19
                                clear c19
                                by_cases c20 : (rd t358 x8_2) < 0
                                · rw [if_pos c20] at H
                                  have c20b0 : decide ((rd t358 x8_2) < 0) = true := decide_eq_true c20
                                  clear c20
                                  obtain rfl := Option.some.inj H
                                  have p365 : 0 ≤ (x8_2 : Int) := of_decide_eq_true (by first | (with_reducible assumption) | assumption)
                                  have q365 : x8_2 < (t358.length : Int) := of_decide_eq_true (by first | (with_reducible assumption) | assumption)
                                  obtain ⟨ad365, e365, hx365_0⟩ := Kd.at_int (Kd.R_reads' HO_5.out).2.2 x8_2 p365 q365
                                  obtain rfl : ad364 = ad365 := (by injection e365)
                                  replace p365 := eq_true p365
                                  replace q365 := eq_true q365
                                  go_wp2
                                  repeat (go_quiet (fail); try go_wp2)
                                  go_ret
                                  exact ⟨by first | rfl | (simp [errW_none, errW_some] <;> rfl) | (simp [*, errW_none, errW_some] <;> rfl), by repeat (first | (with_reducible first | exact HB.out | apply below_alloc | apply pw_below_drewN | apply below_drew1) | exact HB.out)⟩
                                · rw [if_neg c20] at H
                                  have c20b0 : decide ((rd t358 x8_2) < 0) = false := decide_eq_false c20
                                  clear c20
                                  by_cases c21 : 0 ≤ x9_3
                                  · rw [if_pos c21] at H
                                    have c21b0 : decide (0 ≤ x9_3) = true := decide_eq_true c21
                                    clear c21
                                    by_cases c22 : (rd t358 x8_2) > (wrap64 ((rd t358 x9_3) + 1))
                                    · rw [if_pos c22] at H
                                      have c22b0 : decide ((wrap64 ((rd t358 x9_3) + 1)) < (rd t358 x8_2)) = true := decide_eq_true c22
                                      clear c22
                                      obtain rfl := Option.some.inj H
                                      have p365 : 0 ≤ (x8_2 : Int) := of_decide_eq_true (by first | (with_reducible assumption) | assumption)
                                      have q365 : x8_2 < (t358.length : Int) := of_decide_eq_true (by first | (with_reducible assumption) | assumption)
                                      obtain ⟨ad365, e365, hx365_0⟩ := Kd.at_int (Kd.R_reads' HO_5.out).2.2 x8_2 p365 q365
                                      obtain rfl : ad364 = ad365 := (by injection e365)
                                      replace p365 := eq_true p365
                                      replace q365 := eq_true q365
                                      have p366 : 0 ≤ (x8_2 : Int) := of_decide_eq_true (by first | (with_reducible assumption) | assumption)
                                      have q366 : x8_2 < (t358.length : Int) := of_decide_eq_true (by first | (with_reducible assumption) | assumption)
                                      obtain ⟨ad366, e366, hx366_0⟩ := Kd.at_int (Kd.R_reads' HO_5.out).2.2 x8_2 p366 q366
                                      obtain rfl : ad364 = ad366 := (by injection e366)
                                      replace p366 := eq_true p366
                                      replace q366 := eq_true q366
                                      have p367 : 0 ≤ (x9_3 : Int) := of_decide_eq_true (by first | (with_reducible assumption) | assumption)
                                      have q367 : x9_3 < (t358.length : Int) := of_decide_eq_true (by first | (with_reducible assumption) | assumption)
                                      obtain ⟨ad367, e367, hx367_0⟩ := Kd.at_int (Kd.R_reads' HO_5.out).2.2 x9_3 p367 q367
                                      obtain rfl : ad364 = ad367 := (by injection e367)
                                      replace p367 := eq_true p367
                                      replace q367 := eq_true q367
                                      go_wp2
                                      repeat (go_quiet (fail); try go_wp2)
                                      go_ret
                                      exact ⟨by first | rfl | (simp [errW_none, errW_some] <;> rfl) | (simp [*, errW_none, errW_some] <;> rfl), by repeat (first | (with_reducible first | exact HB.out | apply below_alloc | apply pw_below_drewN | apply below_drew1) | exact HB.out)⟩
                                    · rw [if_neg c22] at H
                                      have c22b0 : decide ((wrap64 ((rd t358 x9_3) + 1)) < (rd t358 x8_2)) = false := decide_eq_false c22
                                      clear c22
                                      by_cases c23 : a0 < 0
                                      · rw [if_pos c23] at H
                                        have c23b0 : decide (a0 < 0) = true := decide_eq_true c23
                                        clear c23
                                        by_cases c24 : (rd t358 x8_2) > 0
                                        · rw [if_pos c24] at H
                                          have c24b0 : decide (0 < (rd t358 x8_2)) = true := decide_eq_true c24
                                          clear c24
                                          obtain rfl := Option.some.inj H
                                          have p365 : 0 ≤ (x8_2 : Int) := of_decide_eq_true (by first | (with_reducible assumption) | assumption)
                                          have q365 : x8_2 < (t358.length : Int) := of_decide_eq_true (by first | (with_reducible assumption) | assumption)
                                          obtain ⟨ad365, e365, hx365_0⟩ := Kd.at_int (Kd.R_reads' HO_5.out).2.2 x8_2 p365 q365
                                          obtain rfl : ad364 = ad365 := (by injection e365)
                                          replace p365 := eq_true p365
                                          replace q365 := eq_true q365
                                          have p366 : 0 ≤ (x8_2 : Int) := of_decide_eq_true (by first | (with_reducible assumption) | assumption)
                                          have q366 : x8_2 < (t358.length : Int) := of_decide_eq_true (by first | (with_reducible assumption) | assumption)
                                          obtain ⟨ad366, e366, hx366_0⟩ := Kd.at_int (Kd.R_reads' HO_5.out).2.2 x8_2 p366 q366
                                          obtain rfl : ad364 = ad366 := (by injection e366)
                                          replace p366 := eq_true p366
                                          replace q366 := eq_true q366
                                          have p367 : 0 ≤ (x9_3 : Int) := of_decide_eq_true (by first | (with_reducible assumption) | assumption)
                                          have q367 : x9_3 < (t358.length : Int) := of_decide_eq_true (by first | (with_reducible assumption) | assumption)
                                          obtain ⟨ad367, e367, hx367_0⟩ := Kd.at_int (Kd.R_reads' HO_5.out).2.2 x9_3 p367 q367
                                          obtain rfl : ad364 = ad367 := (by injection e367)
                                          replace p367 := eq_true p367
                                          replace q367 := eq_true q367
                                          have p368 : 0 ≤ (x8_2 : Int) := of_decide_eq_true (by first | (with_reducible assumption) | assumption)
                                          have q368 : x8_2 < (t358.length : Int) := of_decide_eq_true (by first | (with_reducible assumption) | assumption)
                                          obtain ⟨ad368, e368, hx368_0⟩ := Kd.at_int (Kd.R_reads' HO_5.out).2.2 x8_2 p368 q368
                                          obtain rfl : ad364 = ad368 := (by injection e368)
                                          replace p368 := eq_true p368
                                          replace q368 := eq_true q368
                                          go_wp2
                                          repeat (go_quiet (fail); try go_wp2)
                                          go_ret
                                          exact ⟨by first | rfl | (simp [errW_none, errW_some] <;> rfl) | (simp [*, errW_none, errW_some] <;> rfl), by repeat (first | (with_reducible first | exact HB.out | apply below_alloc | apply pw_below_drewN | apply below_drew1) | exact HB.out)⟩
                                        · rw [if_neg c24] at H
                                          have c24b0 : decide (0 < (rd t358 x8_2)) = false := decide_eq_false c24
                                          clear c24
                                          have H' := Aside0.mk H
                                          clear H
                                          have p365 : 0 ≤ (x8_2 : Int) := of_decide_eq_true (by first | (with_reducible assumption) | assumption)
                                          have q365 : x8_2 < (t358.length : Int) := of_decide_eq_true (by first | (with_reducible assumption) | assumption)
                                          obtain ⟨ad365, e365, hx365_0⟩ := Kd.at_int (Kd.R_reads' HO_5.out).2.2 x8_2 p365 q365
                                          obtain rfl : ad364 = ad365 := (by injection e365)
                                          replace p365 := eq_true p365
                                          replace q365 := eq_true q365
                                          have p366 : 0 ≤ (x8_2 : Int) := of_decide_eq_true (by first | (with_reducible assumption) | assumption)
                                          have q366 : x8_2 < (t358.length : Int) := of_decide_eq_true (by first | (with_reducible assumption) | assumption)
                                          obtain ⟨ad366, e366, hx366_0⟩ := Kd.at_int (Kd.R_reads' HO_5.out).2.2 x8_2 p366 q366
                                          obtain rfl : ad364 = ad366 := (by injection e366)
                                          replace p366 := eq_true p366
                                          replace q366 := eq_true q366
                                          have p367 : 0 ≤ (x9_3 : Int) := of_decide_eq_true (by first | (with_reducible assumption) | assumption)
                                          have q367 : x9_3 < (t358.length : Int) := of_decide_eq_true (by first | (with_reducible assumption) | assumption)
                                          obtain ⟨ad367, e367, hx367_0⟩ := Kd.at_int (Kd.R_reads' HO_5.out).2.2 x9_3 p367 q367
                                          obtain rfl : ad364 = ad367 := (by injection e367)
                                          replace p367 := eq_true p367
                                          replace q367 := eq_true q367
                                          have p368 : 0 ≤ (x8_2 : Int) := of_decide_eq_true (by first | (with_reducible assumption) | assumption)
                                          have q368 : x8_2 < (t358.length : Int) := of_decide_eq_true (by first | (with_reducible assumption) | assumption)
                                          obtain ⟨ad368, e368, hx368_0⟩ := Kd.at_int (Kd.R_reads' HO_5.out).2.2 x8_2 p368 q368
                                          obtain rfl : ad364 = ad368 := (by injection e368)
                                          replace p368 := eq_true p368
                                          replace q368 := eq_true q368
                                          have p369 : 0 ≤ (x8_2 : Int) := of_decide_eq_true (by first | (with_reducible assumption) | assumption)
                                          have q369 : x8_2 < (t358.length : Int) := of_decide_eq_true (by first | (with_reducible assumption) | assumption)
                                          obtain ⟨ad369, e369, hx369_0⟩ := Kd.at_int (Kd.R_reads' HO_5.out).2.2 x8_2 p369 q369
                                          obtain rfl : ad364 = ad369 := (by injection e369)
                                          replace p369 := eq_true p369
                                          replace q369 := eq_true q369
                                          have p370 : 0 ≤ (x9_3 : Int) := of_decide_eq_true (by first | (with_reducible assumption) | assumption)
                                          have q370 : x9_3 < (t358.length : Int) := of_decide_eq_true (by first | (with_reducible assumption) | assumption)
                                          obtain ⟨ad370, e370, hx370_0⟩ := Kd.at_int (Kd.R_reads' HO_5.out).2.2 x9_3 p370 q370
                                          obtain rfl : ad364 = ad370 := (by injection e370)
                                          replace p370 := eq_true p370
                                          replace q370 := eq_true q370
                                          go_wp2
                                          repeat (go_quiet (fail); try go_wp2)
                                          go_roundg k3
                                          case measure => have := HJ2.out; have := HK2.out; have := HK3.out; omega
                                          case rel => exact ⟨(wrap64 (x9_3 + 1)), (by first | rfl | (simp; done) | (simp [*]; done)), H', ⟨by have := HJ2.out; have := HK2.out; have := HK3.out; omega⟩, ⟨by (with_reducible repeat (first | apply Kd.R_alloc | apply Kd.R_drewN | apply Kd.R_drew)); exact HO_5.out⟩, ⟨by repeat (first | (with_reducible first | exact HB.out | apply below_alloc | apply pw_below_drewN | apply below_drew1) | exact HB.out)⟩⟩
                                      · rw [if_neg c23] at H
                                        have c23b0 : decide (a0 < 0) = false := decide_eq_false c23
                                        clear c23
                                        have H' := Aside0.mk H
                                        clear H
                                        have p365 : 0 ≤ (x8_2 : Int) := of_decide_eq_true (by first | (with_reducible assumption) | assumption)
                                        have q365 : x8_2 < (t358.length : Int) := of_decide_eq_true (by first | (with_reducible assumption) | assumption)
                                        obtain ⟨ad365, e365, hx365_0⟩ := Kd.at_int (Kd.R_reads' HO_5.out).2.2 x8_2 p365 q365
                                        obtain rfl : ad364 = ad365 := (by injection e365)
                                        replace p365 := eq_true p365
                                        replace q365 := eq_true q365
                                        have p366 : 0 ≤ (x8_2 : Int) := of_decide_eq_true (by first | (with_reducible assumption) | assumption)
                                        have q366 : x8_2 < (t358.length : Int) := of_decide_eq_true (by first | (with_reducible assumption) | assumption)
                                        obtain ⟨ad366, e366, hx366_0⟩ := Kd.at_int (Kd.R_reads' HO_5.out).2.2 x8_2 p366 q366
                                        obtain rfl : ad364 = ad366 := (by injection e366)
                                        replace p366 := eq_true p366
                                        replace q366 := eq_true q366
                                        have p367 : 0 ≤ (x9_3 : Int) := of_decide_eq_true (by first | (with_reducible assumption) | assumption)
                                        have q367 : x9_3 < (t358.length : Int) := of_decide_eq_true (by first | (with_reducible assumption) | assumption)
                                        obtain ⟨ad367, e367, hx367_0⟩ := Kd.at_int (Kd.R_reads' HO_5.out).2.2 x9_3 p367 q367
                                        obtain rfl : ad364 = ad367 := (by injection e367)
                                        replace p367 := eq_true p367
                                        replace q367 := eq_true q367
                                        go_wp2
                                        repeat (go_quiet (fail); try go_wp2)
                                        go_roundg k3
                                        case measure => have := HJ2.out; have := HK2.out; have := HK3.out; omega
                                        case rel => exact ⟨(wrap64 (x9_3 + 1)), (by first | rfl | (simp; done) | (simp [*]; done)), H', ⟨by have := HJ2.out; have := HK2.out; have := HK3.out; omega⟩, ⟨by (with_reducible repeat (first | apply Kd.R_alloc | apply Kd.R_drewN | apply Kd.R_drew)); exact HO_5.out⟩, ⟨by repeat (first | (with_reducible first | exact HB.out | apply below_alloc | apply pw_below_drewN | apply below_drew1) | exact HB.out)⟩⟩
                                  · rw [if_neg c21] at H
                                    exact absurd H (by simp)
                              · rw [if_neg c19] at H
                                exact absurd H (by simp)
                            · rw [if_neg c18] at H
                              exact absurd H (by simp)
                          · rw [if_neg c17] at H
                            have c17b0 : decide (0 ≤ a0) = false := decide_eq_false c17
                            clear c17
                            by_cases c25 : a0 < 0
                            · rw [if_pos c25] at H
                              have c25b0 : decide (a0 < 0) = true := decide_eq_true c25
                              clear c25
                              by_cases c26 : 0 ≤ x8_2
                              · rw [if_pos c26] at H
                                have c26b0 : decide (0 ≤ x8_2) = true := decide_eq_true c26
                                clear c26
                                by_cases c27 : x8_2 < (t358.length : Int)
                                · rw [if_pos c27] at H
                                  have c27b0 : decide (x8_2 < (t358.length : Int)) = true := decide_eq_true c27
                                  clear c27
                                  by_cases c28 : (rd t358 x8_2) > 0
                                  · rw [if_pos c28] at H
                                    have c28b0 : decide (0 < (rd t358 x8_2)) = true := decide_eq_true c28
                                    clear c28
                                    obtain rfl := Option.some.inj H
                                    have p371 : 0 ≤ (x8_2 : Int) := of_decide_eq_true (by first | (with_reducible assumption) | assumption)
                                    have q371 : x8_2 < (t358.length : Int) := of_decide_eq_true (by first | (with_reducible assumption) | assumption)
                                    obtain ⟨ad371, e371, hx371_0⟩ := Kd.at_int (Kd.R_reads' HO_5.out).2.2 x8_2 p371 q371
                                    obtain rfl : ad364 = ad371 := (by injection e371)
                                    replace p371 := eq_true p371
                                    replace q371 := eq_true q371
                                    go_wp2
                                    repeat (go_quiet (fail); try go_wp2)
                                    go_ret
                                    exact ⟨by first | rfl | (simp [errW_none, errW_some] <;> rfl) | (simp [*, errW_none, errW_some] <;> rfl), by repeat (first | (with_reducible first | exact HB.out | apply below_alloc | apply pw_below_drewN | apply below_drew1) | exact HB.out)⟩
                                  · rw [if_neg c28] at H
                                    have c28b0 : decide (0 < (rd t358 x8_2)) = false := decide_eq_false c28
                                    clear c28
                                    by_cases c29 : 0 ≤ x9_3
                                    · rw [if_pos c29] at H
                                      have c29b0 : decide (0 ≤ x9_3) = true := decide_eq_true c29
                                      clear c29
                                      by_cases c30 : (rd t358 x8_2) > (wrap64 ((rd t358 x9_3) + 1))
                                      · rw [if_pos c30] at H
                                        have c30b0 : decide ((wrap64 ((rd t358 x9_3) + 1)) < (rd t358 x8_2)) = true := decide_eq_true c30
                                        clear c30
                                        by_cases c31 : x8_2 < (l1.length : Int)
                                        · rw [if_pos c31] at H
                                          have c31b0 : decide (x8_2 < (l1.length : Int)) = true := decide_eq_true c31
                                          clear c31
                                          by_cases c32 : (rd t358 x8_2) = (wrap64 (-(rd l1 x8_2)))
                                          · rw [if_pos c32] at H
                                            have c32b0 : ((rd t358 x8_2) == (wrap64 (-(rd l1 x8_2)))) = true := beq_iff_eq.mpr c32
                                            have c32b1 : ((rd t358 x8_2) != (wrap64 (-(rd l1 x8_2)))) = false := bne_eq_false_iff_eq.mpr c32
                                            clear c32
                                            have H' := Aside0.mk H
                                            clear H
                                            have p371 : 0 ≤ (x8_2 : Int) := of_decide_eq_true (by first | (with_reducible assumption) | assumption)
                                            have q371 : x8_2 < (t358.length : Int) := of_decide_eq_true (by first | (with_reducible assumption) | assumption)
                                            obtain ⟨ad371, e371, hx371_0⟩ := Kd.at_int (Kd.R_reads' HO_5.out).2.2 x8_2 p371 q371
                                            obtain rfl : ad364 = ad371 := (by injection e371)
                                            replace p371 := eq_true p371
                                            replace q371 := eq_true q371
                                            have p372 : 0 ≤ (x8_2 : Int) := of_decide_eq_true (by first | (with_reducible assumption) | assumption)
                                            have q372 : x8_2 < (t358.length : Int) := of_decide_eq_true (by first | (with_reducible assumption) | assumption)
                                            obtain ⟨ad372, e372, hx372_0⟩ := Kd.at_int (Kd.R_reads' HO_5.out).2.2 x8_2 p372 q372
                                            obtain rfl : ad364 = ad372 := (by injection e372)
                                            replace p372 := eq_true p372
                                            replace q372 := eq_true q372
                                            have p373 : 0 ≤ (x9_3 : Int) := of_decide_eq_true (by first | (with_reducible assumption) | assumption)
                                            have q373 : x9_3 < (t358.length : Int) := of_decide_eq_true (by first | (with_reducible assumption) | assumption)
                                            obtain ⟨ad373, e373, hx373_0⟩ := Kd.at_int (Kd.R_reads' HO_5.out).2.2 x9_3 p373 q373
                                            obtain rfl : ad364 = ad373 := (by injection e373)
                                            replace p373 := eq_true p373
                                            replace q373 := eq_true q373
                                            have p374 : 0 ≤ (x8_2 : Int) := of_decide_eq_true (by first | (with_reducible assumption) | assumption)
                                            have q374 : x8_2 < (t358.length : Int) := of_decide_eq_true (by first | (with_reducible assumption) | assumption)
                                            obtain ⟨ad374, e374, hx374_0⟩ := Kd.at_int (Kd.R_reads' HO_5.out).2.2 x8_2 p374 q374
                                            obtain rfl : ad364 = ad374 := (by injection e374)
                                            replace p374 := eq_true p374
                                            replace q374 := eq_true q374
                                            have p375 : 0 ≤ (x8_2 : Int) := of_decide_eq_true (by first | (with_reducible assumption) | assumption)
                                            have q375 : x8_2 < (l1.length : Int) := of_decide_eq_true (by first | (with_reducible assumption) | assumption)
                                            obtain ⟨ad375, e375, hx375_0⟩ := Kd.at_int HR1.out x8_2 p375 q375
                                            cases e375
                                            replace hx375_0 := (HB.out.cell (World.block_lt_of_cell? w _ hx375_0)).trans hx375_0
                                            replace p375 := eq_true p375
                                            replace q375 := eq_true q375
                                            go_wp2
                                            repeat (go_quiet (fail); try go_wp2)
                                            go_roundg k3
                                            case measure => have := HJ2.out; have := HK2.out; have := HK3.out; omega
                                            case rel => exact ⟨(wrap64 (x9_3 + 1)), (by first | rfl | (simp; done) | (simp [*]; done)), H', ⟨by have := HJ2.out; have := HK2.out; have := HK3.out; omega⟩, ⟨by (with_reducible repeat (first | apply Kd.R_alloc | apply Kd.R_drewN | apply Kd.R_drew)); exact HO_5.out⟩, ⟨by repeat (first | (with_reducible first | exact HB.out | apply below_alloc | apply pw_below_drewN | apply below_drew1) | exact HB.out)⟩⟩
                                          · rw [if_neg c32] at H
                                            have c32b0 : ((rd t358 x8_2) == (wrap64 (-(rd l1 x8_2)))) = false := beq_eq_false_iff_ne.mpr c32
                                            have c32b1 : ((rd t358 x8_2) != (wrap64 (-(rd l1 x8_2)))) = true := bne_iff_ne.mpr c32
                                            obtain rfl := Option.some.inj H
                                            have p371 : 0 ≤ (x8_2 : Int) := of_decide_eq_true (by first | (with_reducible assumption) | assumption)
                                            have q371 : x8_2 < (t358.length : Int) := of_decide_eq_true (by first | (with_reducible assumption) | assumption)
                                            obtain ⟨ad371, e371, hx371_0⟩ := Kd.at_int (Kd.R_reads' HO_5.out).2.2 x8_2 p371 q371
                                            obtain rfl : ad364 = ad371 := (by injection e371)
                                            replace p371 := eq_true p371
                                            replace q371 := eq_true q371
                                            have p372 : 0 ≤ (x8_2 : Int) := of_decide_eq_true (by first | (with_reducible assumption) | assumption)
                                            have q372 : x8_2 < (t358.length : Int) := of_decide_eq_true (by first | (with_reducible assumption) | assumption)
                                            obtain ⟨ad372, e372, hx372_0⟩ := Kd.at_int (Kd.R_reads' HO_5.out).2.2 x8_2 p372 q372
                                            obtain rfl : ad364 = ad372 := (by injection e372)
                                            replace p372 := eq_true p372
                                            replace q372 := eq_true q372
                                            have p373 : 0 ≤ (x9_3 : Int) := of_decide_eq_true (by first | (with_reducible assumption) | assumption)
                                            have q373 : x9_3 < (t358.length : Int) := of_decide_eq_true (by first | (with_reducible assumption) | assumption)
                                            obtain ⟨ad373, e373, hx373_0⟩ := Kd.at_int (Kd.R_reads' HO_5.out).2.2 x9_3 p373 q373
                                            obtain rfl : ad364 = ad373 := (by injection e373)
                                            replace p373 := eq_true p373
                                            replace q373 := eq_true q373
                                            have p374 : 0 ≤ (x8_2 : Int) := of_decide_eq_true (by first | (with_reducible assumption) | assumption)
                                            have q374 : x8_2 < (t358.length : Int) := of_decide_eq_true (by first | (with_reducible assumption) | assumption)
                                            obtain ⟨ad374, e374, hx374_0⟩ := Kd.at_int (Kd.R_reads' HO_5.out).2.2 x8_2 p374 q374
                                            obtain rfl : ad364 = ad374 := (by injection e374)
                                            replace p374 := eq_true p374
                                            replace q374 := eq_true q374
                                            have p375 : 0 ≤ (x8_2 : Int) := of_decide_eq_true (by first | (with_reducible assumption) | assumption)
                                            have q375 : x8_2 < (l1.length : Int) := of_decide_eq_true (by first | (with_reducible assumption) | assumption)
                                            obtain ⟨ad375, e375, hx375_0⟩ := Kd.at_int HR1.out x8_2 p375 q375
                                            cases e375
                                            replace hx375_0 := (HB.out.cell (World.block_lt_of_cell? w _ hx375_0)).trans hx375_0
                                            replace p375 := eq_true p375
                                            replace q375 := eq_true q375
                                            go_wp2
                                            repeat (go_quiet (fail); try go_wp2)
                                            go_ret
                                            exact ⟨by first | rfl | (simp [errW_none, errW_some] <;> rfl) | (simp [*, errW_none, errW_some] <;> rfl), by repeat (first | (with_reducible first | exact HB.out | apply below_alloc | apply pw_below_drewN | apply below_drew1) | exact HB.out)⟩
                                        · rw [if_neg c31] at H
                                          exact absurd H (by simp)
                                      · rw [if_neg c30] at H
                                        have c30b0 : decide ((wrap64 ((rd t358 x9_3) + 1)) < (rd t358 x8_2)) = false := decide_eq_false c30
                                        clear c30
                                        have H' := Aside0.mk H
                                        clear H
                                        have p371 : 0 ≤ (x8_2 : Int) := of_decide_eq_true (by first | (with_reducible assumption) | assumption)
                                        have q371 : x8_2 < (t358.length : Int) := of_decide_eq_true (by first | (with_reducible assumption) | assumption)
                                        obtain ⟨ad371, e371, hx371_0⟩ := Kd.at_int (Kd.R_reads' HO_5.out).2.2 x8_2 p371 q371
                                        obtain rfl : ad364 = ad371 := (by injection e371)
                                        replace p371 := eq_true p371
                                        replace q371 := eq_true q371
                                        have p372 : 0 ≤ (x8_2 : Int) := of_decide_eq_true (by first | (with_reducible assumption) | assumption)
                                        have q372 : x8_2 < (t358.length : Int) := of_decide_eq_true (by first | (with_reducible assumption) | assumption)
                                        obtain ⟨ad372, e372, hx372_0⟩ := Kd.at_int (Kd.R_reads' HO_5.out).2.2 x8_2 p372 q372
                                        obtain rfl : ad364 = ad372 := (by injection e372)
                                        replace p372 := eq_true p372
                                        replace q372 := eq_true q372
                                        have p373 : 0 ≤ (x9_3 : Int) := of_decide_eq_true (by first | (with_reducible assumption) | assumption)
                                        have q373 : x9_3 < (t358.length : Int) := of_decide_eq_true (by first | (with_reducible assumption) | assumption)
                                        obtain ⟨ad373, e373, hx373_0⟩ := Kd.at_int (Kd.R_reads' HO_5.out).2.2 x9_3 p373 q373
                                        obtain rfl : ad364 = ad373 := (by injection e373)
                                        replace p373 := eq_true p373
                                        replace q373 := eq_true q373
                                        go_wp2
                                        repeat (go_quiet (fail); try go_wp2)
                                        go_roundg k3
                                        case measure => have := HJ2.out; have := HK2.out; have := HK3.out; omega
                                        case rel => exact ⟨(wrap64 (x9_3 + 1)), (by first | rfl | (simp; done) | (simp [*]; done)), H', ⟨by have := HJ2.out; have := HK2.out; have := HK3.out; omega⟩, ⟨by (with_reducible repeat (first | apply Kd.R_alloc | apply Kd.R_drewN | apply Kd.R_drew)); exact HO_5.out⟩, ⟨by repeat (first | (with_reducible first | exact HB.out | apply below_alloc | apply pw_below_drewN | apply below_drew1) | exact HB.out)⟩⟩
                                    · rw [if_neg c29] at H
                                      exact absurd H (by simp)
                                · rw [if_neg c27] at H
                                  exact absurd H (by simp)
                              · rw [if_neg c26] at H
                                exact absurd H (by simp)
                            · rw [if_neg c25] at H
                              have c25b0 : decide (a0 < 0) = false := decide_eq_false c25
                              clear c25
                              have H' := Aside0.mk H
                              clear H
                              go_wp2
                              repeat (go_quiet (fail); try go_wp2)
                              go_roundg k3
                              case measure => have := HJ2.out; have := HK2.out; have := HK3.out; omega
                              case rel => exact ⟨(wrap64 (x9_3 + 1)), (by first | rfl | (simp; done) | (simp [*]; done)), H', ⟨by have := HJ2.out; have := HK2.out; have := HK3.out; omega⟩, ⟨by (with_reducible repeat (first | apply Kd.R_alloc | apply Kd.R_drewN | apply Kd.R_drew)); exact HO_5.out⟩, ⟨by repeat (first | (with_reducible first | exact HB.out | apply below_alloc | apply pw_below_drewN | apply below_drew1) | exact HB.out)⟩⟩
                        · rw [if_neg c16] at H
                          have c16b0 : decide (x9_3 < (t358.length : Int)) = false := decide_eq_false c16
                          clear c16
                          by_cases c33 : 0 ≤ x8_2
                          · rw [if_pos c33] at H
                            have c33b0 : decide (0 ≤ x8_2) = true := decide_eq_true c33
                            clear c33
                            by_cases c34 : x8_2 < (t358.length : Int)
                            · rw [if_pos c34] at H
                              have c34b0 : decide (x8_2 < (t358.length : Int)) = true := decide_eq_true c34
                              clear c34
                              by_cases c35 : (rd t358 x8_2) < 0
                              · rw [if_pos c35] at H
                                have c35b0 : decide ((rd t358 x8_2) < 0) = true := decide_eq_true c35
                                clear c35
                                by_cases c36 : x8_2 < (l1.length : Int)
                                · rw [if_pos c36] at H
                                  have c36b0 : decide (x8_2 < (l1.length : Int)) = true := decide_eq_true c36
                                  clear c36
                                  by_cases c37 : (wrap64 (-(rd t358 x8_2))) > (rd l1 x8_2)
                                  · rw [if_pos c37] at H
                                    have c37b0 : decide ((rd l1 x8_2) < (wrap64 (-(rd t358 x8_2)))) = true := decide_eq_true c37
                                    clear c37
                                    obtain rfl := Option.some.inj H
                                    have p376 : 0 ≤ (x8_2 : Int) := of_decide_eq_true (by first | (with_reducible assumption) | assumption)
                                    have q376 : x8_2 < (t358.length : Int) := of_decide_eq_true (by first | (with_reducible assumption) | assumption)
                                    obtain ⟨ad376, e376, hx376_0⟩ := Kd.at_int (Kd.R_reads' HO_5.out).2.2 x8_2 p376 q376
                                    obtain rfl : ad364 = ad376 := (by injection e376)
                                    replace p376 := eq_true p376
                                    replace q376 := eq_true q376
                                    have p377 : 0 ≤ (x8_2 : Int) := of_decide_eq_true (by first | (with_reducible assumption) | assumption)
                                    have q377 : x8_2 < (t358.length : Int) := of_decide_eq_true (by first | (with_reducible assumption) | assumption)
                                    obtain ⟨ad377, e377, hx377_0⟩ := Kd.at_int (Kd.R_reads' HO_5.out).2.2 x8_2 p377 q377
                                    obtain rfl : ad364 = ad377 := (by injection e377)
                                    replace p377 := eq_true p377
                                    replace q377 := eq_true q377
                                    have p378 : 0 ≤ (x8_2 : Int) := of_decide_eq_true (by first | (with_reducible assumption) | assumption)
                                    have q378 : x8_2 < (l1.length : Int) := of_decide_eq_true (by first | (with_reducible assumption) | assumption)
                                    obtain ⟨ad378, e378, hx378_0⟩ := Kd.at_int HR1.out x8_2 p378 q378
                                    cases e378
                                    replace hx378_0 := (HB.out.cell (World.block_lt_of_cell? w _ hx378_0)).trans hx378_0
                                    replace p378 := eq_true p378
                                    replace q378 := eq_true q378
                                    go_wp2
                                    repeat (go_quiet (fail); try go_wp2)
                                    go_ret
                                    exact ⟨by first | rfl | (simp [errW_none, errW_some] <;> rfl) | (simp [*, errW_none, errW_some] <;> rfl), by repeat (first | (with_reducible first | exact HB.out | apply below_alloc | apply pw_below_drewN | apply below_drew1) | exact HB.out)⟩
                                  · rw [if_neg c37] at H
                                    have c37b0 : decide ((rd l1 x8_2) < (wrap64 (-(rd t358 x8_2)))) = false := decide_eq_false c37
                                    clear c37
                                    have H' := Aside0.mk H
                                    clear H
                                    have p376 : 0 ≤ (x8_2 : Int) := of_decide_eq_true (by first | (with_reducible assumption) | assumption)
                                    have q376 : x8_2 < (t358.length : Int) := of_decide_eq_true (by first | (with_reducible assumption) | assumption)
                                    obtain ⟨ad376, e376, hx376_0⟩ := Kd.at_int (Kd.R_reads' HO_5.out).2.2 x8_2 p376 q376
                                    obtain rfl : ad364 = ad376 := (by injection e376)
                                    replace p376 := eq_true p376
                                    replace q376 := eq_true q376
                                    have p377 : 0 ≤ (x8_2 : Int) := of_decide_eq_true (by first | (with_reducible assumption) | assumption)
                                    have q377 : x8_2 < (t358.length : Int) := of_decide_eq_true (by first | (with_reducible assumption) | assumption)
                                    obtain ⟨ad377, e377, hx377_0⟩ := Kd.at_int (Kd.R_reads' HO_5.out).2.2 x8_2 p377 q377
                                    obtain rfl : ad364 = ad377 := (by injection e377)
                                    replace p377 := eq_true p377
                                    replace q377 := eq_true q377
                                    have p378 : 0 ≤ (x8_2 : Int) := of_decide_eq_true (by first | (with_reducible assumption) | assumption)
                                    have q378 : x8_2 < (l1.length : Int) := of_decide_eq_true (by first | (with_reducible assumption) | assumption)
                                    obtain ⟨ad378, e378, hx378_0⟩ := Kd.at_int HR1.out x8_2 p378 q378
                                    cases e378
                                    replace hx378_0 := (HB.out.cell (World.block_lt_of_cell? w _ hx378_0)).trans hx378_0
                                    replace p378 := eq_true p378
                                    replace q378 := eq_true q378
                                    go_wp2
                                    repeat (go_quiet (fail); try go_wp2)
                                    go_roundg k3
                                    case measure => have := HJ2.out; have := HK2.out; have := HK3.out; omega
                                    case rel => exact ⟨((wrap64 (x7_2 + (rd t358 x8_2)))), (wrap64 (x8_2 + 1)), (by first | rfl | (simp; done) | (simp [*]; done)), (by first | rfl | (simp; done) | (simp [*]; done)), H', ⟨by have := HJ2.out; have := HK2.out; have := HK3.out; omega⟩, ⟨by (with_reducible repeat (first | apply Kd.R_alloc | apply Kd.R_drewN | apply Kd.R_drew)); exact HO_5.out⟩, ⟨by repeat (first | (with_reducible first | exact HB.out | apply below_alloc | apply pw_below_drewN | apply below_drew1) | exact HB.out)⟩⟩
                                · rw [if_neg c36] at H
                                  exact absurd H (by simp)
                              · rw [if_neg c35] at H
                                have c35b0 : decide ((rd t358 x8_2) < 0) = false := decide_eq_false c35
                                clear c35
                                have H' := Aside0.mk H
                                clear H
                                have p376 : 0 ≤ (x8_2 : Int) := of_decide_eq_true (by first | (with_reducible assumption) | assumption)
                                have q376 : x8_2 < (t358.length : Int) := of_decide_eq_true (by first | (with_reducible assumption) | assumption)
                                obtain ⟨ad376, e376, hx376_0⟩ := Kd.at_int (Kd.R_reads' HO_5.out).2.2 x8_2 p376 q376
                                obtain rfl : ad364 = ad376 := (by injection e376)
                                replace p376 := eq_true p376
                                replace q376 := eq_true q376
                                go_wp2
                                repeat (go_quiet (fail); try go_wp2)
                                go_roundg k3
                                case measure => have := HJ2.out; have := HK2.out; have := HK3.out; omega
                                case rel => exact ⟨((wrap64 (x7_2 + (rd t358 x8_2)))), (wrap64 (x8_2 + 1)), (by first | rfl | (simp; done) | (simp [*]; done)), (by first | rfl | (simp; done) | (simp [*]; done)), H', ⟨by have := HJ2.out; have := HK2.out; have := HK3.out; omega⟩, ⟨by (with_reducible repeat (first | apply Kd.R_alloc | apply Kd.R_drewN | apply Kd.R_drew)); exact HO_5.out⟩, ⟨by repeat (first | (with_reducible first | exact HB.out | apply below_alloc | apply pw_below_drewN | apply below_drew1) | exact HB.out)⟩⟩
                            · rw [if_neg c34] at H
                              exact absurd H (by simp)
                          · rw [if_neg c33] at H
                            exact absurd H (by simp)
                  · rw [if_neg c15] at H
                    exact absurd H (by simp)
                · rw [if_neg c14] at H
                  have c14b0 : decide (x8_2 < (t358.length : Int)) = false := decide_eq_false c14
                  clear c14
                  by_cases c38 : x7_2 = a0
                  · rw [if_pos c38] at H
                    have c38b0 : (x7_2 == a0) = true := beq_iff_eq.mpr c38
                    have c38b1 : (x7_2 != a0) = false := bne_eq_false_iff_eq.mpr c38
                    clear c38
                    replace H := Option.bind_eq_some_iff.mp H
                    obtain ⟨t363, A390, H⟩ := H
                    replace H : (some t363) = some r := H
                    have A39 := Aside0.mk A390
                    clear A390
                    obtain rfl := Option.some.inj H
                    go_wp2_with (first | (go_at_call 48; (with_reducible refine (sashlaw09_awake.calls k2  t363 _ A39.out).mono ?_); rintro e w40 ⟨rfl, hb⟩; have n0_ := Aside0.mk (Kd.R_below (by (with_reducible repeat (first | apply Kd.R_alloc | apply Kd.R_drewN | apply Kd.R_drew)); exact HO_5.out) hb); have n1_ := Aside0.mk (below_step (by repeat (first | (with_reducible first | exact HB.out | apply below_alloc | apply pw_below_drewN | apply below_drew1) | exact HB.out)) hb); clear HO_5; clear HB; have HO_5 := n0_; have HB := n1_; clear n0_ n1_; (try clear hb); (try clear hb2); (try clear hk); (try clear hi)))
                    repeat (go_quiet (first | (go_at_call 48; (with_reducible refine (sashlaw09_awake.calls k2  t363 _ A39.out).mono ?_); rintro e w40 ⟨rfl, hb⟩; have n0_ := Aside0.mk (Kd.R_below (by (with_reducible repeat (first | apply Kd.R_alloc | apply Kd.R_drewN | apply Kd.R_drew)); exact HO_5.out) hb); have n1_ := Aside0.mk (below_step (by repeat (first | (with_reducible first | exact HB.out | apply below_alloc | apply pw_below_drewN | apply below_drew1) | exact HB.out)) hb); clear HO_5; clear HB; have HO_5 := n0_; have HB := n1_; clear n0_ n1_; (try clear hb); (try clear hb2); (try clear hk); (try clear hi))); try go_wp2_with (first | (go_at_call 48; (with_reducible refine (sashlaw09_awake.calls k2  t363 _ A39.out).mono ?_); rintro e w40 ⟨rfl, hb⟩; have n0_ := Aside0.mk (Kd.R_below (by (with_reducible repeat (first | apply Kd.R_alloc | apply Kd.R_drewN | apply Kd.R_drew)); exact HO_5.out) hb); have n1_ := Aside0.mk (below_step (by repeat (first | (with_reducible first | exact HB.out | apply below_alloc | apply pw_below_drewN | apply below_drew1) | exact HB.out)) hb); clear HO_5; clear HB; have HO_5 := n0_; have HB := n1_; clear n0_ n1_; (try clear hb); (try clear hb2); (try clear hk); (try clear hi))))
                    go_ret
                    exact ⟨by first | rfl | (simp [errW_none, errW_some] <;> rfl) | (simp [*, errW_none, errW_some] <;> rfl), by repeat (first | (with_reducible first | exact HB.out | apply below_alloc | apply pw_below_drewN | apply below_drew1) | exact HB.out)⟩
                  · rw [if_neg c38] at H
                    have c38b0 : (x7_2 == a0) = false := beq_eq_false_iff_ne.mpr c38
                    have c38b1 : (x7_2 != a0) = true := bne_iff_ne.mpr c38
                    obtain rfl := Option.some.inj H
                    go_wp2
                    repeat (go_quiet (fail); try go_wp2)
                    go_ret
                    exact ⟨by first | rfl | (simp [errW_none, errW_some] <;> rfl) | (simp [*, errW_none, errW_some] <;> rfl), by repeat (first | (with_reducible first | exact HB.out | apply below_alloc | apply pw_below_drewN | apply below_drew1) | exact HB.out)⟩
          · rw [if_neg c11] at H
            have c11b0 : ((t358.length : Int) == (l1.length : Int)) = false := beq_eq_false_iff_ne.mpr c11
            have c11b1 : ((t358.length : Int) != (l1.length : Int)) = true := bne_iff_ne.mpr c11
            have c11b2 : (t358.length == l1.length) = false := by first | simpa using c11 | (simp at c11 ⊢; omega)
            obtain rfl := Option.some.inj H
            go_wp2_with (first | (go_at_call 49; (with_reducible refine (adjust_Shares.calls kj2 a0 _ _ l1 t358 true _ ?side1 ?side2 A9.out).mono ?_); (case side1 => repeat (first | exact (Kd.C_below HR1.out HB.out) | (with_reducible refine Kd.C_alloc ?_ _) | (with_reducible refine Kd.C_drewN ?_ _) | (with_reducible refine Kd.C_drew ?_))); (case side2 => exact HC1.out); rintro e w41 ⟨v360, rfl, ho0, hb⟩; have n0_ := Aside0.mk (Kd.R_lower ho0 (below_size (by repeat (first | (with_reducible first | exact HB.out | apply below_alloc | apply pw_below_drewN | apply below_drew1) | exact HB.out)))); have n1_ := Aside0.mk (below_step (by repeat (first | (with_reducible first | exact HB.out | apply below_alloc | apply pw_below_drewN | apply below_drew1) | exact HB.out)) hb); clear HB; have HO361 := n0_; have HB := n1_; clear n0_ n1_; (try clear hb); (try clear hb2); (try clear hk); (try clear hi); (try clear ho0); obtain ⟨Ao42, co42, eo42⟩ := Kd.R_slice HO361.out; subst eo42))
            repeat (go_quiet (first | (go_at_call 49; (with_reducible refine (adjust_Shares.calls kj2 a0 _ _ l1 t358 true _ ?side1 ?side2 A9.out).mono ?_); (case side1 => repeat (first | exact (Kd.C_below HR1.out HB.out) | (with_reducible refine Kd.C_alloc ?_ _) | (with_reducible refine Kd.C_drewN ?_ _) | (with_reducible refine Kd.C_drew ?_))); (case side2 => exact HC1.out); rintro e w41 ⟨v360, rfl, ho0, hb⟩; have n0_ := Aside0.mk (Kd.R_lower ho0 (below_size (by repeat (first | (with_reducible first | exact HB.out | apply below_alloc | apply pw_below_drewN | apply below_drew1) | exact HB.out)))); have n1_ := Aside0.mk (below_step (by repeat (first | (with_reducible first | exact HB.out | apply below_alloc | apply pw_below_drewN | apply below_drew1) | exact HB.out)) hb); clear HB; have HO361 := n0_; have HB := n1_; clear n0_ n1_; (try clear hb); (try clear hb2); (try clear hk); (try clear hi); (try clear ho0); obtain ⟨Ao42, co42, eo42⟩ := Kd.R_slice HO361.out; subst eo42)); try go_wp2_with (first | (go_at_call 49; (with_reducible refine (adjust_Shares.calls kj2 a0 _ _ l1 t358 true _ ?side1 ?side2 A9.out).mono ?_); (case side1 => repeat (first | exact (Kd.C_below HR1.out HB.out) | (with_reducible refine Kd.C_alloc ?_ _) | (with_reducible refine Kd.C_drewN ?_ _) | (with_reducible refine Kd.C_drew ?_))); (case side2 => exact HC1.out); rintro e w41 ⟨v360, rfl, ho0, hb⟩; have n0_ := Aside0.mk (Kd.R_lower ho0 (below_size (by repeat (first | (with_reducible first | exact HB.out | apply below_alloc | apply pw_below_drewN | apply below_drew1) | exact HB.out)))); have n1_ := Aside0.mk (below_step (by repeat (first | (with_reducible first | exact HB.out | apply below_alloc | apply pw_below_drewN | apply below_drew1) | exact HB.out)) hb); clear HB; have HO361 := n0_; have HB := n1_; clear n0_ n1_; (try clear hb); (try clear hb2); (try clear hk); (try clear hi); (try clear ho0); obtain ⟨Ao42, co42, eo42⟩ := Kd.R_slice HO361.out; subst eo42)))
            go_ret
            exact ⟨by first | rfl | (simp [errW_none, errW_some] <;> rfl) | (simp [*, errW_none, errW_some] <;> rfl), by repeat (first | (with_reducible first | exact HB.out | apply below_alloc | apply pw_below_drewN | apply below_drew1) | exact HB.out)⟩
        · replace c10 := Bool.eq_false_iff.mpr c10
          subst c10
          have H1 : ((sashlaw09_awake.f kj2).bind fun t362 => (some t362)) = some r := by rw [if_neg (show ¬ (false = true) by decide)] at H; exact H
          clear H
          have H := H1
          clear H1
          replace H := Option.bind_eq_some_iff.mp H
          obtain ⟨t362, A430, H⟩ := H
          replace H : (some t362) = some r := H
          have A43 := Aside0.mk A430
          clear A430
          obtain rfl := Option.some.inj H
          go_wp2_with (first | (go_at_call 49; (with_reducible refine (adjust_Shares.calls kj2 a0 _ _ l1 t358 false _ ?side1 ?side2 A9.out).mono ?_); (case side1 => repeat (first | exact (Kd.C_below HR1.out HB.out) | (with_reducible refine Kd.C_alloc ?_ _) | (with_reducible refine Kd.C_drewN ?_ _) | (with_reducible refine Kd.C_drew ?_))); (case side2 => exact HC1.out); rintro e w44 ⟨v360, rfl, ho0, hb⟩; have n0_ := Aside0.mk (Kd.R_lower ho0 (below_size (by repeat (first | (with_reducible first | exact HB.out | apply below_alloc | apply pw_below_drewN | apply below_drew1) | exact HB.out)))); have n1_ := Aside0.mk (below_step (by repeat (first | (with_reducible first | exact HB.out | apply below_alloc | apply pw_below_drewN | apply below_drew1) | exact HB.out)) hb); clear HB; have HO361 := n0_; have HB := n1_; clear n0_ n1_; (try clear hb); (try clear hb2); (try clear hk); (try clear hi); (try clear ho0)) | (go_at_call 48; (with_reducible refine (sashlaw09_awake.calls kj2  t362 _ A43.out).mono ?_); rintro e w45 ⟨rfl, hb⟩; have n0_ := Aside0.mk (Kd.R_below (by (with_reducible repeat (first | apply Kd.R_alloc | apply Kd.R_drewN | apply Kd.R_drew)); exact HO361.out) hb); have n1_ := Aside0.mk (below_step (by repeat (first | (with_reducible first | exact HB.out | apply below_alloc | apply pw_below_drewN | apply below_drew1) | exact HB.out)) hb); clear HO361; clear HB; have HO361 := n0_; have HB := n1_; clear n0_ n1_; (try clear hb); (try clear hb2); (try clear hk); (try clear hi)))
          repeat (go_quiet (first | (go_at_call 49; (with_reducible refine (adjust_Shares.calls kj2 a0 _ _ l1 t358 false _ ?side1 ?side2 A9.out).mono ?_); (case side1 => repeat (first | exact (Kd.C_below HR1.out HB.out) | (with_reducible refine Kd.C_alloc ?_ _) | (with_reducible refine Kd.C_drewN ?_ _) | (with_reducible refine Kd.C_drew ?_))); (case side2 => exact HC1.out); rintro e w44 ⟨v360, rfl, ho0, hb⟩; have n0_ := Aside0.mk (Kd.R_lower ho0 (below_size (by repeat (first | (with_reducible first | exact HB.out | apply below_alloc | apply pw_below_drewN | apply below_drew1) | exact HB.out)))); have n1_ := Aside0.mk (below_step (by repeat (first | (with_reducible first | exact HB.out | apply below_alloc | apply pw_below_drewN | apply below_drew1) | exact HB.out)) hb); clear HB; have HO361 := n0_; have HB := n1_; clear n0_ n1_; (try clear hb); (try clear hb2); (try clear hk); (try clear hi); (try clear ho0)) | (go_at_call 48; (with_reducible refine (sashlaw09_awake.calls kj2  t362 _ A43.out).mono ?_); rintro e w45 ⟨rfl, hb⟩; have n0_ := Aside0.mk (Kd.R_below (by (with_reducible repeat (first | apply Kd.R_alloc | apply Kd.R_drewN | apply Kd.R_drew)); exact HO361.out) hb); have n1_ := Aside0.mk (below_step (by repeat (first | (with_reducible first | exact HB.out | apply below_alloc | apply pw_below_drewN | apply below_drew1) | exact HB.out)) hb); clear HO361; clear HB; have HO361 := n0_; have HB := n1_; clear n0_ n1_; (try clear hb); (try clear hb2); (try clear hk); (try clear hi))); try go_wp2_with (first | (go_at_call 49; (with_reducible refine (adjust_Shares.calls kj2 a0 _ _ l1 t358 false _ ?side1 ?side2 A9.out).mono ?_); (case side1 => repeat (first | exact (Kd.C_below HR1.out HB.out) | (with_reducible refine Kd.C_alloc ?_ _) | (with_reducible refine Kd.C_drewN ?_ _) | (with_reducible refine Kd.C_drew ?_))); (case side2 => exact HC1.out); rintro e w44 ⟨v360, rfl, ho0, hb⟩; have n0_ := Aside0.mk (Kd.R_lower ho0 (below_size (by repeat (first | (with_reducible first | exact HB.out | apply below_alloc | apply pw_below_drewN | apply below_drew1) | exact HB.out)))); have n1_ := Aside0.mk (below_step (by repeat (first | (with_reducible first | exact HB.out | apply below_alloc | apply pw_below_drewN | apply below_drew1) | exact HB.out)) hb); clear HB; have HO361 := n0_; have HB := n1_; clear n0_ n1_; (try clear hb); (try clear hb2); (try clear hk); (try clear hi); (try clear ho0)) | (go_at_call 48; (with_reducible refine (sashlaw09_awake.calls kj2  t362 _ A43.out).mono ?_); rintro e w45 ⟨rfl, hb⟩; have n0_ := Aside0.mk (Kd.R_below (by (with_reducible repeat (first | apply Kd.R_alloc | apply Kd.R_drewN | apply Kd.R_drew)); exact HO361.out) hb); have n1_ := Aside0.mk (below_step (by repeat (first | (with_reducible first | exact HB.out | apply below_alloc | apply pw_below_drewN | apply below_drew1) | exact HB.out)) hb); clear HO361; clear HB; have HO361 := n0_; have HB := n1_; clear n0_ n1_; (try clear hb); (try clear hb2); (try clear hk); (try clear hi))))
          go_ret
          exact ⟨by first | rfl | (simp [errW_none, errW_some] <;> rfl) | (simp [*, errW_none, errW_some] <;> rfl), by repeat (first | (with_reducible first | exact HB.out | apply below_alloc | apply pw_below_drewN | apply below_drew1) | exact HB.out)⟩

/-- THE ONE PURE STATEMENT of sashlaw09_AdjustEvens: yours. -/
def sashlaw09_AdjustEvens.Pure : Prop := ∀ (a0 : Int) (l1 : List Int), (Lit.int .i64 a0).wf = true → l1.length ≤ maxLen → l1.length * 8 ≤ 140737488351232 → (∀ x ∈ l1, (Lit.int .i64 x).wf = true) → ∃ k, sashlaw09_AdjustEvens.f k a0 l1 = some true
theorem sashlaw09_AdjustEvens.walk (P : sashlaw09_AdjustEvens.Pure) (a0 : Int) (a1 : Option Addr) (len1 cap1 : Nat) (z1 : List Int) (w : World) (w0 : (Lit.int .i64 a0).wf = true) (w1 : (a1 = none ∧ len1 = 0 ∧ cap1 = 0 ∧ z1 = []) ∨ ∃ x, a1 = some x ∧ len1 ≤ cap1 ∧ cap1 ≤ maxLen ∧ z1.length = cap1 ∧ (∀ i, i < z1.length → w.cell? (x.add i) = some (.int .i64 (z1.getD i 0))) ∧ ∀ n ∈ z1, (Lit.int .i64 n).wf = true) (y1 : len1 * 8 ≤ 140737488351232) :
    Calls Try.prog 7 #[.int .i64 a0, .slice a1 len1 cap1] w fun e w' => e = .returned (.bool true) ∧ Below w.heap.size w w' := by
  obtain ⟨l1, rfl, hr1, hm1, hw1, hc1⟩ := ReadsInt.ofRowC w1
  obtain ⟨k, h⟩ := P a0 l1 w0 hm1 y1 hw1
  refine (sashlaw09_AdjustEvens.calls k a0 _ _ l1 true w (Kd.C_of_reads (d := (0 : Int)) (h1 := fun _ => rfl) hr1) hc1 h).mono ?_
  rintro e w' ⟨rfl, hd⟩
  exact ⟨rfl, hd⟩

end Go.Proofs.Ytfdmfgaiblfbhaa.P
