-- Written by a program for this claim; Lean checks it.
import Derived.Test.YtfdmfgaiblfbhaaPK
import Derived.Test.YtfdmfgaiblfbhaaPF70
import Derived.Test.YtfdmfgaiblfbhaaPF141
namespace Go.Proofs.Ytfdmfgaiblfbhaa.P
open Go.RowKit Go.Proofs.YtfdmfgaiblfbhaaW.PrintWords Go.Proofs.YtfdmfgaiblfbhaaW.PrintLast Go.Proofs.YtfdmfgaiblfbhaaW.PrintMore
attribute [local go_sem] max2_int min2_int max_two min_two max_three min_three max_four min_four   -- for this text's walks alone
set_option linter.unusedVariables false
set_option linter.unusedSimpArgs false

/-! ### sashref04_Apartments: function 71 -/
mutual
def sashref04_Apartments.l0 : Nat → List (S23) → Int → Int → Option (Bool)
  | 0, _, _, _ => none
  | k + 1, x0, x6, x7 => if x7 < x6 then (sashref04_Apartments.l1 k x0 x7 0 x6 x7) else ((sashref04_All.f k x0).bind fun t607 => (some t607))
def sashref04_Apartments.l1 : Nat → List (S23) → Int → Int → Int → Int → Option (Bool)
  | 0, _, _, _, _, _ => none
  | k + 1, x0, x3, x4, x6, x7 => if x4 < x3 then (if 0 ≤ x3 then (if x3 < (x0.length : Int) then (if 0 ≤ x4 then (if x4 < (x0.length : Int) then ((sashref04_Apart.f ((rd_T23 x0 x3).f0) ((rd_T23 x0 x3).f1) ((rd_T23 x0 x3).f2) ((rd_T23 x0 x3).f3) ((rd_T23 x0 x4).f0) ((rd_T23 x0 x4).f1) ((rd_T23 x0 x4).f2) ((rd_T23 x0 x4).f3)).bind fun t610 => (if t610 = true then (sashref04_Apartments.l1 k x0 x3 (wrap64 (x4 + 1)) x6 x7) else (some false))) else (none)) else (none)) else (none)) else (none)) else (sashref04_Apartments.l0 k x0 x6 (wrap64 (x7 + 1)))
end
def sashref04_Apartments.f (k : Nat) (l0 : List (S23)) : Option (Bool) := sashref04_Apartments.l0 k l0 (l0.length : Int) 0
theorem sashref04_Apartments.mono_l : ∀ k, (∀ y0 y1 y2, LeO (sashref04_Apartments.l0 k y0 y1 y2) (sashref04_Apartments.l0 (k + 1) y0 y1 y2)) ∧ (∀ y0 y1 y2 y3 y4, LeO (sashref04_Apartments.l1 k y0 y1 y2 y3 y4) (sashref04_Apartments.l1 (k + 1) y0 y1 y2 y3 y4))
  | 0 => ⟨fun _ _ _ r h => by simp [sashref04_Apartments.l0] at h, fun _ _ _ _ _ r h => by simp [sashref04_Apartments.l1] at h⟩
  | k + 1 => by
    obtain ⟨ih0, ih1⟩ := sashref04_Apartments.mono_l k
    refine ⟨?_, ?_⟩
    · intro y0 y1 y2
      unfold sashref04_Apartments.l0
      repeat' first
      | (with_reducible exact ih0 _ _ _)
      | (with_reducible exact ih1 _ _ _ _ _)
      | (with_reducible exact sashref04_All.mono _ _)
      | (with_reducible exact LeO.refl _)
      | (with_reducible exact LeO.none _)
      | (with_reducible refine LeO.ite ?_ ?_)
      | (with_reducible refine LeO.bind ?_ (fun _ => ?_))
      | exact ih0 _ _ _
      | exact ih1 _ _ _ _ _
      | exact sashref04_All.mono _ _
      | exact LeO.none _
      | refine LeO.ite ?_ ?_
      | refine LeO.bind ?_ (fun _ => ?_)
    · intro y0 y1 y2 y3 y4
      unfold sashref04_Apartments.l1
      repeat' first
      | (with_reducible exact ih0 _ _ _)
      | (with_reducible exact ih1 _ _ _ _ _)
      | (with_reducible exact sashref04_All.mono _ _)
      | (with_reducible exact LeO.refl _)
      | (with_reducible exact LeO.none _)
      | (with_reducible refine LeO.ite ?_ ?_)
      | (with_reducible refine LeO.bind ?_ (fun _ => ?_))
      | exact ih0 _ _ _
      | exact ih1 _ _ _ _ _
      | exact sashref04_All.mono _ _
      | exact LeO.none _
      | refine LeO.ite ?_ ?_
      | refine LeO.bind ?_ (fun _ => ?_)
theorem sashref04_Apartments.mono : ∀ a0 k, LeO (sashref04_Apartments.f k a0) (sashref04_Apartments.f (k + 1) a0) := by
  intro a0 k
  obtain ⟨ih0, ih1⟩ := sashref04_Apartments.mono_l k
  unfold sashref04_Apartments.f
  repeat' first
      | (with_reducible exact ih0 _ _ _)
      | (with_reducible exact ih1 _ _ _ _ _)
      | (with_reducible exact sashref04_All.mono _ _)
      | (with_reducible exact LeO.refl _)
      | (with_reducible exact LeO.none _)
      | (with_reducible refine LeO.ite ?_ ?_)
      | (with_reducible refine LeO.bind ?_ (fun _ => ?_))
      | exact ih0 _ _ _
      | exact ih1 _ _ _ _ _
      | exact sashref04_All.mono _ _
      | exact LeO.none _
      | refine LeO.ite ?_ ?_
      | refine LeO.bind ?_ (fun _ => ?_)
def sashref04_Apartments.T7 : Bool × List (List Nat × List Nat) := (true, [([], []), ([], []), ([0, 1], [0, 1]), ([2], [2]), ([], []), ([], []), ([4, 5], [4, 5]), ([6], [6]), ([3, 7], [3, 7]), ([8], [8])])
def sashref04_Apartments.B7 : List Nat := [0, 0, 3, 7, 0, 0, 48, 112, 255, 511]
theorem sashref04_Apartments.tab7 : rtab .any (opsOf Try.f71 7) = sashref04_Apartments.T7 := by kernel_rfl
theorem sashref04_Apartments.bits7 : waitsOk sashref04_Apartments.T7.2 sashref04_Apartments.B7 = true := by kernel_rfl
set_option maxHeartbeats 8000000 in
set_option maxRecDepth 100000 in
theorem sashref04_Apartments.calls (k : Nat) (A0 : Option Addr) (c0 : Nat) (l0 : List (S23)) (r : Bool) (w : World) (hr0 : Kd.C k23 w A0 l0.length l0) (hc0 : l0.length ≤ c0) (h : sashref04_Apartments.f k l0 = some r) :
    Calls Try.prog 71 #[.slice A0 l0.length c0] w fun e w' => e = .returned (.bool r) ∧ Below w.heap.size w w' := by
  have hu23 := Try.underlying23
  have HR0 := Aside0.mk hr0
  have HC0 := Aside0.mk hc0
  clear hr0 hc0
  have HB := Aside0.mk (Below.refl w.heap.size w)
  have H : (sashref04_Apartments.l0 k l0 (l0.length : Int) 0) = some r := h
  clear h
  have H' := Aside0.mk H
  clear H
  go_enter Try.func71, Try.ntmps71
  go_wp2
  go_loopg [7] k (fun kq v7 w' => ∃ (x7_1 : Int), v7 = .int .i64 x7_1 ∧ Aside0 (sashref04_Apartments.l0 kq l0 (l0.length : Int) x7_1 = some r) ∧ Aside0 (kq ≤ k) ∧ Aside0 (Below w.heap.size w w'))
  case atStart => exact ⟨(0), (by first | rfl | (simp; done) | (simp [*]; done)), H', ⟨Nat.le_refl _⟩, ⟨by repeat (first | (with_reducible first | exact HB.out | apply below_alloc | apply pw_below_drewN | apply below_drew1) | exact HB.out)⟩⟩
  case round =>
    clear H'
    obtain ⟨x7_1, rfl, HA, HK1, HB⟩ := hrel
    cases gk with
    | zero => exact absurd HA.out (by simp [sashref04_Apartments.l0])
    | succ k1 =>
      have H := HA.out
      clear HA
      simp only [sashref04_Apartments.l0] at H
      by_cases c2 : x7_1 < (l0.length : Int)
      · rw [if_pos c2] at H
        have c2b0 : decide (x7_1 < (l0.length : Int)) = true := decide_eq_true c2
        clear c2
        have H' := Aside0.mk H
        clear H
        go_wp2
        go_loopg [4] k1 (fun kq v4 w' => ∃ (x4_2 : Int), v4 = .int .i64 x4_2 ∧ Aside0 (sashref04_Apartments.l1 kq l0 x7_1 x4_2 (l0.length : Int) x7_1 = some r) ∧ Aside0 (kq ≤ k1) ∧ Aside0 (Below w.heap.size w w'))
        case atStart => exact ⟨(0), (by first | rfl | (simp; done) | (simp [*]; done)), H', ⟨Nat.le_refl _⟩, ⟨by repeat (first | (with_reducible first | exact HB.out | apply below_alloc | apply pw_below_drewN | apply below_drew1) | exact HB.out)⟩⟩
        case round =>
          clear H'
          try clear c2
          try clear c2b0
          try clear p2
          obtain ⟨x4_2, rfl, HA, HK2, HB⟩ := hrel
          cases gk with
          | zero => exact absurd HA.out (by simp [sashref04_Apartments.l1])
          | succ k2 =>
            have H := HA.out
            clear HA
            simp only [sashref04_Apartments.l1] at H
            by_cases c3 : x4_2 < x7_1
            · rw [if_pos c3] at H
              have c3b0 : decide (x4_2 < x7_1) = true := decide_eq_true c3
              clear c3
              by_cases c4 : 0 ≤ x7_1
              · rw [if_pos c4] at H
                have c4b0 : decide (0 ≤ x7_1) = true := decide_eq_true c4
                clear c4
                by_cases c5 : x7_1 < (l0.length : Int)
                · rw [if_pos c5] at H
                  have c5b0 : decide (x7_1 < (l0.length : Int)) = true := decide_eq_true c5
                  clear c5
                  by_cases c6 : 0 ≤ x4_2
                  · rw [if_pos c6] at H
                    have c6b0 : decide (0 ≤ x4_2) = true := decide_eq_true c6
                    clear c6
                    by_cases c7 : x4_2 < (l0.length : Int)
                    · rw [if_pos c7] at H
                      have c7b0 : decide (x4_2 < (l0.length : Int)) = true := decide_eq_true c7
                      clear c7
                      replace H := Option.bind_eq_some_iff.mp H
                      obtain ⟨t610, A80, H⟩ := H
                      replace H : (if t610 = true then (sashref04_Apartments.l1 k2 l0 x7_1 (wrap64 (x4_2 + 1)) (l0.length : Int) x7_1) else (some false)) = some r := H
                      have A8 := Aside0.mk A80
                      clear A80
                      by_cases c9 : t610 = true
                      · subst c9
                        have H1 : (sashref04_Apartments.l1 k2 l0 x7_1 (wrap64 (x4_2 + 1)) (l0.length : Int) x7_1) = some r := by rw [if_pos rfl] at H; exact H
                        clear H
                        have H := H1
                        clear H1
                        have H' := Aside0.mk H
                        clear H
                        try go_wp2
                        have n0_ := Aside0.mk (below_drew1 HB.out)
                        clear HB
                        have HB := n0_
                        clear n0_
                        have p608 : 0 ≤ (x7_1 : Int) := of_decide_eq_true (by first | (with_reducible assumption) | assumption)
                        have q608 : x7_1 < (l0.length : Int) := of_decide_eq_true (by first | (with_reducible assumption) | assumption)
                        obtain ⟨ad608, e608, hx608_0, hx608_1, hx608_2, hx608_3⟩ := at_T23 HR0.out x7_1 p608 q608
                        have hw608_3 := hx608_3
                        have hw608_2 := hx608_2
                        have hw608_1 := hx608_1
                        have hw608_0 := hx608_0
                        cases e608
                        replace hx608_0 := (HB.out.cell (World.block_lt_of_cell? w _ hx608_0)).trans hx608_0
                        replace hx608_1 := (HB.out.cell (World.block_lt_of_cell? w _ hx608_1)).trans hx608_1
                        replace hx608_2 := (HB.out.cell (World.block_lt_of_cell? w _ hx608_2)).trans hx608_2
                        replace hx608_3 := (HB.out.cell (World.block_lt_of_cell? w _ hx608_3)).trans hx608_3
                        replace p608 := eq_true p608
                        replace q608 := eq_true q608
                        have p609 : 0 ≤ (x4_2 : Int) := of_decide_eq_true (by first | (with_reducible assumption) | assumption)
                        have q609 : x4_2 < (l0.length : Int) := of_decide_eq_true (by first | (with_reducible assumption) | assumption)
                        obtain ⟨ad609, e609, hx609_0, hx609_1, hx609_2, hx609_3⟩ := at_T23 HR0.out x4_2 p609 q609
                        have hw609_3 := hx609_3
                        have hw609_2 := hx609_2
                        have hw609_1 := hx609_1
                        have hw609_0 := hx609_0
                        obtain rfl : ad608 = ad609 := (by injection e609)
                        replace hx609_0 := (HB.out.cell (World.block_lt_of_cell? w _ hx609_0)).trans hx609_0
                        replace hx609_1 := (HB.out.cell (World.block_lt_of_cell? w _ hx609_1)).trans hx609_1
                        replace hx609_2 := (HB.out.cell (World.block_lt_of_cell? w _ hx609_2)).trans hx609_2
                        replace hx609_3 := (HB.out.cell (World.block_lt_of_cell? w _ hx609_3)).trans hx609_3
                        replace p609 := eq_true p609
                        replace q609 := eq_true q609
                        refine start_ (n := 10) (S := fun w' => w'.cell? (ad608.add ((x7_1).toNat * 4)) = some (.int .i64 ((rd_T23 l0 x7_1).f0)) ∧ w'.cell? ⟨(ad608.add ((x7_1).toNat * 4)).block, (ad608.add ((x7_1).toNat * 4)).off + 1, none⟩ = some (.int .i64 ((rd_T23 l0 x7_1).f1)) ∧ w'.cell? ⟨(ad608.add ((x7_1).toNat * 4)).block, (ad608.add ((x7_1).toNat * 4)).off + 2, none⟩ = some (.int .i64 ((rd_T23 l0 x7_1).f2)) ∧ w'.cell? ⟨(ad608.add ((x7_1).toNat * 4)).block, (ad608.add ((x7_1).toNat * 4)).off + 3, none⟩ = some (.int .i64 ((rd_T23 l0 x7_1).f3)) ∧ w'.cell? (ad608.add ((x4_2).toNat * 4)) = some (.int .i64 ((rd_T23 l0 x4_2).f0)) ∧ w'.cell? ⟨(ad608.add ((x4_2).toNat * 4)).block, (ad608.add ((x4_2).toNat * 4)).off + 1, none⟩ = some (.int .i64 ((rd_T23 l0 x4_2).f1)) ∧ w'.cell? ⟨(ad608.add ((x4_2).toNat * 4)).block, (ad608.add ((x4_2).toNat * 4)).off + 2, none⟩ = some (.int .i64 ((rd_T23 l0 x4_2).f2)) ∧ w'.cell? ⟨(ad608.add ((x4_2).toNat * 4)).block, (ad608.add ((x4_2).toNat * 4)).off + 3, none⟩ = some (.int .i64 ((rd_T23 l0 x4_2).f3))) (ds := []) #[false, false, false, false, false, false, false, false, false, false] (by kernel_rfl) rfl rfl ⟨((HB.out.cell (World.block_lt_of_cell? w _ hw608_0)).trans hw608_0), ((HB.out.cell (World.block_lt_of_cell? w _ hw608_1)).trans hw608_1), ((HB.out.cell (World.block_lt_of_cell? w _ hw608_2)).trans hw608_2), ((HB.out.cell (World.block_lt_of_cell? w _ hw608_3)).trans hw608_3), ((HB.out.cell (World.block_lt_of_cell? w _ hw609_0)).trans hw609_0), ((HB.out.cell (World.block_lt_of_cell? w _ hw609_1)).trans hw609_1), ((HB.out.cell (World.block_lt_of_cell? w _ hw609_2)).trans hw609_2), ((HB.out.cell (World.block_lt_of_cell? w _ hw609_3)).trans hw609_3)⟩ (fun hHeld => ?_); refine with_tabW sashref04_Apartments.tab7 sashref04_Apartments.bits7 (fun HT_ HW_ => ?_)
                        generalize wr.drew = w10 at HB hx608_0 hx608_1 hx608_2 hx608_3 hx609_0 hx609_1 hx609_2 hx609_3 hHeld ⊢
                        refine pure_ (i := 0) (N := some 15) (v := ?_) (a' := ?_) #[true, false, false, false, false, false, false, false, false, false] rfl rfl (any_of HT_.out (by kernel_rfl)) (fun _ _ _ h => h) (Or.inl ⟨by rfl, ?_⟩) ?_ ?_
                        rotate_left
                        · intro w'
                          go_simp
                          with_reducible rfl
                        rotate_left
                        · simp only [Act.put, List.setIfInBounds_toArray, List.set_cons_zero, List.set_cons_succ, i64_w, i32_w]
                          rfl
                        refine pure_ (i := 1) (N := some 16) (v := ?_) (a' := ?_) #[true, true, false, false, false, false, false, false, false, false] rfl rfl (any_of HT_.out (by kernel_rfl)) (fun _ _ _ h => h) (Or.inl ⟨by rfl, ?_⟩) ?_ ?_
                        rotate_left
                        · intro w'
                          go_simp
                          with_reducible rfl
                        rotate_left
                        · simp only [Act.put, List.setIfInBounds_toArray, List.set_cons_zero, List.set_cons_succ, i64_w, i32_w]
                          rfl
                        refine pure_ (i := 2) (N := some 17) (v := ?_) (a' := ?_) #[true, true, true, false, false, false, false, false, false, false] rfl rfl (any_of HT_.out (by kernel_rfl)) (fun _ _ _ h => h) (Or.inl ⟨by rfl, ?_⟩) ?_ ?_
                        rotate_left
                        · intro w'
                          go_simp
                          with_reducible rfl
                        rotate_left
                        · simp only [Act.put, List.setIfInBounds_toArray, List.set_cons_zero, List.set_cons_succ, i64_w, i32_w]
                          rfl
                        refine pure_ (i := 4) (N := some 19) (v := ?_) (a' := ?_) #[true, true, true, false, true, false, false, false, false, false] rfl rfl (any_of HT_.out (by kernel_rfl)) (fun _ _ _ h => h) (Or.inl ⟨by rfl, ?_⟩) ?_ ?_
                        rotate_left
                        · intro w'
                          go_simp
                          with_reducible rfl
                        rotate_left
                        · simp only [Act.put, List.setIfInBounds_toArray, List.set_cons_zero, List.set_cons_succ, i64_w, i32_w]
                          rfl
                        refine pure_ (i := 5) (N := some 20) (v := ?_) (a' := ?_) #[true, true, true, false, true, true, false, false, false, false] rfl rfl (any_of HT_.out (by kernel_rfl)) (fun _ _ _ h => h) (Or.inl ⟨by rfl, ?_⟩) ?_ ?_
                        rotate_left
                        · intro w'
                          go_simp
                          with_reducible rfl
                        rotate_left
                        · simp only [Act.put, List.setIfInBounds_toArray, List.set_cons_zero, List.set_cons_succ, i64_w, i32_w]
                          rfl
                        refine pure_ (i := 6) (N := some 21) (v := ?_) (a' := ?_) #[true, true, true, false, true, true, true, false, false, false] rfl rfl (any_of HT_.out (by kernel_rfl)) (fun _ _ _ h => h) (Or.inl ⟨by rfl, ?_⟩) ?_ ?_
                        rotate_left
                        · intro w'
                          go_simp
                          with_reducible rfl
                        rotate_left
                        · simp only [Act.put, List.setIfInBounds_toArray, List.set_cons_zero, List.set_cons_succ, i64_w, i32_w]
                          rfl
                        refine take_ (i := 3) (N := some 18) (v := ?_) (a' := ?_) #[true, true, true, true, true, true, true, false, false, false] rfl rfl (take_ofW HT_.out HW_.out (by kernel_rfl)) (fun _ _ _ h => h) (Or.inl ⟨by rfl, ?_⟩) hHeld ?_ ?_
                        rotate_left
                        · rintro w' ⟨s0, s1, s2, s3, s4, s5, s6, s7⟩
                          go_simp
                          with_reducible rfl
                        rotate_left
                        · simp only [Act.put, List.setIfInBounds_toArray, List.set_cons_zero, List.set_cons_succ, i64_w, i32_w]
                          rfl
                        refine take_ (i := 7) (N := some 22) (v := ?_) (a' := ?_) #[true, true, true, true, true, true, true, true, false, false] rfl rfl (take_ofW HT_.out HW_.out (by kernel_rfl)) (fun _ _ _ h => h) (Or.inl ⟨by rfl, ?_⟩) hHeld ?_ ?_
                        rotate_left
                        · rintro w' ⟨s0, s1, s2, s3, s4, s5, s6, s7⟩
                          go_simp
                          with_reducible rfl
                        rotate_left
                        · simp only [Act.put, List.setIfInBounds_toArray, List.set_cons_zero, List.set_cons_succ, i64_w, i32_w]
                          rfl
                        refine one_ (i := 8) (N := some 23) #[true, true, true, true, true, true, true, true, true, false] rfl rfl (one_of HT_.out (by kernel_rfl)) (by decide) (fun K hK => ?_)
                        refine goes_ Try.func141 (by kernel_rfl) rfl #[.agg #[.int .i64 ((rd_T23 l0 x7_1).f0), .int .i64 ((rd_T23 l0 x7_1).f1), .int .i64 ((rd_T23 l0 x7_1).f2), .int .i64 ((rd_T23 l0 x7_1).f3)], .agg #[.int .i64 ((rd_T23 l0 x4_2).f0), .int .i64 ((rd_T23 l0 x4_2).f1), .int .i64 ((rd_T23 l0 x4_2).f2), .int .i64 ((rd_T23 l0 x4_2).f3)]] (by rfl) rfl rfl (by (try simp only [List.map_toArray, List.map_cons, List.map_nil]); first | done | rfl | (simp only [List.length_drop, List.length_take]; rfl)) ?_
                        with_reducible refine (sashref04_Apart.calls ((rd_T23 l0 x7_1).f0) ((rd_T23 l0 x7_1).f1) ((rd_T23 l0 x7_1).f2) ((rd_T23 l0 x7_1).f3) ((rd_T23 l0 x4_2).f0) ((rd_T23 l0 x4_2).f1) ((rd_T23 l0 x4_2).f2) ((rd_T23 l0 x4_2).f3) true _ A8.out).mono ?_
                        rintro e w11 ⟨rfl, hb⟩
                        refine ⟨_, rfl, ?_⟩
                        have n0_ := Aside0.mk (below_step (by repeat (first | (with_reducible first | exact HB.out | apply below_alloc | apply pw_below_drewN | apply below_drew1) | exact HB.out)) hb)
                        clear HB
                        have HB := n0_
                        clear n0_
                        (try clear hb)
                        (try clear hb2)
                        (try clear hk)
                        (try clear hi)
                        refine hK.out _ _ ⟨((HB.out.cell (World.block_lt_of_cell? w _ hw608_0)).trans hw608_0), ((HB.out.cell (World.block_lt_of_cell? w _ hw608_1)).trans hw608_1), ((HB.out.cell (World.block_lt_of_cell? w _ hw608_2)).trans hw608_2), ((HB.out.cell (World.block_lt_of_cell? w _ hw608_3)).trans hw608_3), ((HB.out.cell (World.block_lt_of_cell? w _ hw609_0)).trans hw609_0), ((HB.out.cell (World.block_lt_of_cell? w _ hw609_1)).trans hw609_1), ((HB.out.cell (World.block_lt_of_cell? w _ hw609_2)).trans hw609_2), ((HB.out.cell (World.block_lt_of_cell? w _ hw609_3)).trans hw609_3)⟩ (fun hHeld => ?_)
                        clear hK K
                        refine norm_ (a' := ?_) ?_ ?_
                        rotate_left
                        · show Act.put _ (some 23) _ = _
                          simp only [Act.put, List.setIfInBounds_toArray, List.set_cons_zero, List.set_cons_succ, i64_w, i32_w]
                          rfl
                        refine pure_ (i := 9) (N := some 24) (v := ?_) (a' := ?_) #[true, true, true, true, true, true, true, true, true, true] rfl rfl (any_of HT_.out (by kernel_rfl)) (fun _ _ _ h => h) (Or.inl ⟨by rfl, ?_⟩) ?_ ?_
                        rotate_left
                        · intro w'
                          go_simp
                          with_reducible rfl
                        rotate_left
                        · simp only [Act.put, List.setIfInBounds_toArray, List.set_cons_zero, List.set_cons_succ, i64_w, i32_w]
                          rfl
                        refine done_ (done_of HT_.out (by kernel_rfl)) ?_
                        try go_wp2
                        go_roundg k2
                        case measure => have := HK1.out; have := HK2.out; omega
                        case rel => exact ⟨(wrap64 (x4_2 + 1)), (by first | rfl | (simp; done) | (simp [*]; done)), H', ⟨by have := HK1.out; have := HK2.out; omega⟩, ⟨by repeat (first | (with_reducible first | exact HB.out | apply below_alloc | apply pw_below_drewN | apply below_drew1) | exact HB.out)⟩⟩
                      · replace c9 := Bool.eq_false_iff.mpr c9
                        subst c9
                        have H1 : (some false) = some r := by rw [if_neg (show ¬ (false = true) by decide)] at H; exact H
                        clear H
                        have H := H1
                        clear H1
                        obtain rfl := Option.some.inj H
                        try go_wp2
                        have n0_ := Aside0.mk (below_drew1 HB.out)
                        clear HB
                        have HB := n0_
                        clear n0_
                        have p608 : 0 ≤ (x7_1 : Int) := of_decide_eq_true (by first | (with_reducible assumption) | assumption)
                        have q608 : x7_1 < (l0.length : Int) := of_decide_eq_true (by first | (with_reducible assumption) | assumption)
                        obtain ⟨ad608, e608, hx608_0, hx608_1, hx608_2, hx608_3⟩ := at_T23 HR0.out x7_1 p608 q608
                        have hw608_3 := hx608_3
                        have hw608_2 := hx608_2
                        have hw608_1 := hx608_1
                        have hw608_0 := hx608_0
                        cases e608
                        replace hx608_0 := (HB.out.cell (World.block_lt_of_cell? w _ hx608_0)).trans hx608_0
                        replace hx608_1 := (HB.out.cell (World.block_lt_of_cell? w _ hx608_1)).trans hx608_1
                        replace hx608_2 := (HB.out.cell (World.block_lt_of_cell? w _ hx608_2)).trans hx608_2
                        replace hx608_3 := (HB.out.cell (World.block_lt_of_cell? w _ hx608_3)).trans hx608_3
                        replace p608 := eq_true p608
                        replace q608 := eq_true q608
                        have p609 : 0 ≤ (x4_2 : Int) := of_decide_eq_true (by first | (with_reducible assumption) | assumption)
                        have q609 : x4_2 < (l0.length : Int) := of_decide_eq_true (by first | (with_reducible assumption) | assumption)
                        obtain ⟨ad609, e609, hx609_0, hx609_1, hx609_2, hx609_3⟩ := at_T23 HR0.out x4_2 p609 q609
                        have hw609_3 := hx609_3
                        have hw609_2 := hx609_2
                        have hw609_1 := hx609_1
                        have hw609_0 := hx609_0
                        obtain rfl : ad608 = ad609 := (by injection e609)
                        replace hx609_0 := (HB.out.cell (World.block_lt_of_cell? w _ hx609_0)).trans hx609_0
                        replace hx609_1 := (HB.out.cell (World.block_lt_of_cell? w _ hx609_1)).trans hx609_1
                        replace hx609_2 := (HB.out.cell (World.block_lt_of_cell? w _ hx609_2)).trans hx609_2
                        replace hx609_3 := (HB.out.cell (World.block_lt_of_cell? w _ hx609_3)).trans hx609_3
                        replace p609 := eq_true p609
                        replace q609 := eq_true q609
                        refine start_ (n := 10) (S := fun w' => w'.cell? (ad608.add ((x7_1).toNat * 4)) = some (.int .i64 ((rd_T23 l0 x7_1).f0)) ∧ w'.cell? ⟨(ad608.add ((x7_1).toNat * 4)).block, (ad608.add ((x7_1).toNat * 4)).off + 1, none⟩ = some (.int .i64 ((rd_T23 l0 x7_1).f1)) ∧ w'.cell? ⟨(ad608.add ((x7_1).toNat * 4)).block, (ad608.add ((x7_1).toNat * 4)).off + 2, none⟩ = some (.int .i64 ((rd_T23 l0 x7_1).f2)) ∧ w'.cell? ⟨(ad608.add ((x7_1).toNat * 4)).block, (ad608.add ((x7_1).toNat * 4)).off + 3, none⟩ = some (.int .i64 ((rd_T23 l0 x7_1).f3)) ∧ w'.cell? (ad608.add ((x4_2).toNat * 4)) = some (.int .i64 ((rd_T23 l0 x4_2).f0)) ∧ w'.cell? ⟨(ad608.add ((x4_2).toNat * 4)).block, (ad608.add ((x4_2).toNat * 4)).off + 1, none⟩ = some (.int .i64 ((rd_T23 l0 x4_2).f1)) ∧ w'.cell? ⟨(ad608.add ((x4_2).toNat * 4)).block, (ad608.add ((x4_2).toNat * 4)).off + 2, none⟩ = some (.int .i64 ((rd_T23 l0 x4_2).f2)) ∧ w'.cell? ⟨(ad608.add ((x4_2).toNat * 4)).block, (ad608.add ((x4_2).toNat * 4)).off + 3, none⟩ = some (.int .i64 ((rd_T23 l0 x4_2).f3))) (ds := []) #[false, false, false, false, false, false, false, false, false, false] (by kernel_rfl) rfl rfl ⟨((HB.out.cell (World.block_lt_of_cell? w _ hw608_0)).trans hw608_0), ((HB.out.cell (World.block_lt_of_cell? w _ hw608_1)).trans hw608_1), ((HB.out.cell (World.block_lt_of_cell? w _ hw608_2)).trans hw608_2), ((HB.out.cell (World.block_lt_of_cell? w _ hw608_3)).trans hw608_3), ((HB.out.cell (World.block_lt_of_cell? w _ hw609_0)).trans hw609_0), ((HB.out.cell (World.block_lt_of_cell? w _ hw609_1)).trans hw609_1), ((HB.out.cell (World.block_lt_of_cell? w _ hw609_2)).trans hw609_2), ((HB.out.cell (World.block_lt_of_cell? w _ hw609_3)).trans hw609_3)⟩ (fun hHeld => ?_); refine with_tabW sashref04_Apartments.tab7 sashref04_Apartments.bits7 (fun HT_ HW_ => ?_)
                        generalize wr.drew = w12 at HB hx608_0 hx608_1 hx608_2 hx608_3 hx609_0 hx609_1 hx609_2 hx609_3 hHeld ⊢
                        refine pure_ (i := 0) (N := some 15) (v := ?_) (a' := ?_) #[true, false, false, false, false, false, false, false, false, false] rfl rfl (any_of HT_.out (by kernel_rfl)) (fun _ _ _ h => h) (Or.inl ⟨by rfl, ?_⟩) ?_ ?_
                        rotate_left
                        · intro w'
                          go_simp
                          with_reducible rfl
                        rotate_left
                        · simp only [Act.put, List.setIfInBounds_toArray, List.set_cons_zero, List.set_cons_succ, i64_w, i32_w]
                          rfl
                        refine pure_ (i := 1) (N := some 16) (v := ?_) (a' := ?_) #[true, true, false, false, false, false, false, false, false, false] rfl rfl (any_of HT_.out (by kernel_rfl)) (fun _ _ _ h => h) (Or.inl ⟨by rfl, ?_⟩) ?_ ?_
                        rotate_left
                        · intro w'
                          go_simp
                          with_reducible rfl
                        rotate_left
                        · simp only [Act.put, List.setIfInBounds_toArray, List.set_cons_zero, List.set_cons_succ, i64_w, i32_w]
                          rfl
                        refine pure_ (i := 2) (N := some 17) (v := ?_) (a' := ?_) #[true, true, true, false, false, false, false, false, false, false] rfl rfl (any_of HT_.out (by kernel_rfl)) (fun _ _ _ h => h) (Or.inl ⟨by rfl, ?_⟩) ?_ ?_
                        rotate_left
                        · intro w'
                          go_simp
                          with_reducible rfl
                        rotate_left
                        · simp only [Act.put, List.setIfInBounds_toArray, List.set_cons_zero, List.set_cons_succ, i64_w, i32_w]
                          rfl
                        refine pure_ (i := 4) (N := some 19) (v := ?_) (a' := ?_) #[true, true, true, false, true, false, false, false, false, false] rfl rfl (any_of HT_.out (by kernel_rfl)) (fun _ _ _ h => h) (Or.inl ⟨by rfl, ?_⟩) ?_ ?_
                        rotate_left
                        · intro w'
                          go_simp
                          with_reducible rfl
                        rotate_left
                        · simp only [Act.put, List.setIfInBounds_toArray, List.set_cons_zero, List.set_cons_succ, i64_w, i32_w]
                          rfl
                        refine pure_ (i := 5) (N := some 20) (v := ?_) (a' := ?_) #[true, true, true, false, true, true, false, false, false, false] rfl rfl (any_of HT_.out (by kernel_rfl)) (fun _ _ _ h => h) (Or.inl ⟨by rfl, ?_⟩) ?_ ?_
                        rotate_left
                        · intro w'
                          go_simp
                          with_reducible rfl
                        rotate_left
                        · simp only [Act.put, List.setIfInBounds_toArray, List.set_cons_zero, List.set_cons_succ, i64_w, i32_w]
                          rfl
                        refine pure_ (i := 6) (N := some 21) (v := ?_) (a' := ?_) #[true, true, true, false, true, true, true, false, false, false] rfl rfl (any_of HT_.out (by kernel_rfl)) (fun _ _ _ h => h) (Or.inl ⟨by rfl, ?_⟩) ?_ ?_
                        rotate_left
                        · intro w'
                          go_simp
                          with_reducible rfl
                        rotate_left
                        · simp only [Act.put, List.setIfInBounds_toArray, List.set_cons_zero, List.set_cons_succ, i64_w, i32_w]
                          rfl
                        refine take_ (i := 3) (N := some 18) (v := ?_) (a' := ?_) #[true, true, true, true, true, true, true, false, false, false] rfl rfl (take_ofW HT_.out HW_.out (by kernel_rfl)) (fun _ _ _ h => h) (Or.inl ⟨by rfl, ?_⟩) hHeld ?_ ?_
                        rotate_left
                        · rintro w' ⟨s0, s1, s2, s3, s4, s5, s6, s7⟩
                          go_simp
                          with_reducible rfl
                        rotate_left
                        · simp only [Act.put, List.setIfInBounds_toArray, List.set_cons_zero, List.set_cons_succ, i64_w, i32_w]
                          rfl
                        refine take_ (i := 7) (N := some 22) (v := ?_) (a' := ?_) #[true, true, true, true, true, true, true, true, false, false] rfl rfl (take_ofW HT_.out HW_.out (by kernel_rfl)) (fun _ _ _ h => h) (Or.inl ⟨by rfl, ?_⟩) hHeld ?_ ?_
                        rotate_left
                        · rintro w' ⟨s0, s1, s2, s3, s4, s5, s6, s7⟩
                          go_simp
                          with_reducible rfl
                        rotate_left
                        · simp only [Act.put, List.setIfInBounds_toArray, List.set_cons_zero, List.set_cons_succ, i64_w, i32_w]
                          rfl
                        refine one_ (i := 8) (N := some 23) #[true, true, true, true, true, true, true, true, true, false] rfl rfl (one_of HT_.out (by kernel_rfl)) (by decide) (fun K hK => ?_)
                        refine goes_ Try.func141 (by kernel_rfl) rfl #[.agg #[.int .i64 ((rd_T23 l0 x7_1).f0), .int .i64 ((rd_T23 l0 x7_1).f1), .int .i64 ((rd_T23 l0 x7_1).f2), .int .i64 ((rd_T23 l0 x7_1).f3)], .agg #[.int .i64 ((rd_T23 l0 x4_2).f0), .int .i64 ((rd_T23 l0 x4_2).f1), .int .i64 ((rd_T23 l0 x4_2).f2), .int .i64 ((rd_T23 l0 x4_2).f3)]] (by rfl) rfl rfl (by (try simp only [List.map_toArray, List.map_cons, List.map_nil]); first | done | rfl | (simp only [List.length_drop, List.length_take]; rfl)) ?_
                        with_reducible refine (sashref04_Apart.calls ((rd_T23 l0 x7_1).f0) ((rd_T23 l0 x7_1).f1) ((rd_T23 l0 x7_1).f2) ((rd_T23 l0 x7_1).f3) ((rd_T23 l0 x4_2).f0) ((rd_T23 l0 x4_2).f1) ((rd_T23 l0 x4_2).f2) ((rd_T23 l0 x4_2).f3) false _ A8.out).mono ?_
                        rintro e w13 ⟨rfl, hb⟩
                        refine ⟨_, rfl, ?_⟩
                        have n0_ := Aside0.mk (below_step (by repeat (first | (with_reducible first | exact HB.out | apply below_alloc | apply pw_below_drewN | apply below_drew1) | exact HB.out)) hb)
                        clear HB
                        have HB := n0_
                        clear n0_
                        (try clear hb)
                        (try clear hb2)
                        (try clear hk)
                        (try clear hi)
                        refine hK.out _ _ ⟨((HB.out.cell (World.block_lt_of_cell? w _ hw608_0)).trans hw608_0), ((HB.out.cell (World.block_lt_of_cell? w _ hw608_1)).trans hw608_1), ((HB.out.cell (World.block_lt_of_cell? w _ hw608_2)).trans hw608_2), ((HB.out.cell (World.block_lt_of_cell? w _ hw608_3)).trans hw608_3), ((HB.out.cell (World.block_lt_of_cell? w _ hw609_0)).trans hw609_0), ((HB.out.cell (World.block_lt_of_cell? w _ hw609_1)).trans hw609_1), ((HB.out.cell (World.block_lt_of_cell? w _ hw609_2)).trans hw609_2), ((HB.out.cell (World.block_lt_of_cell? w _ hw609_3)).trans hw609_3)⟩ (fun hHeld => ?_)
                        clear hK K
                        refine norm_ (a' := ?_) ?_ ?_
                        rotate_left
                        · show Act.put _ (some 23) _ = _
                          simp only [Act.put, List.setIfInBounds_toArray, List.set_cons_zero, List.set_cons_succ, i64_w, i32_w]
                          rfl
                        refine pure_ (i := 9) (N := some 24) (v := ?_) (a' := ?_) #[true, true, true, true, true, true, true, true, true, true] rfl rfl (any_of HT_.out (by kernel_rfl)) (fun _ _ _ h => h) (Or.inl ⟨by rfl, ?_⟩) ?_ ?_
                        rotate_left
                        · intro w'
                          go_simp
                          with_reducible rfl
                        rotate_left
                        · simp only [Act.put, List.setIfInBounds_toArray, List.set_cons_zero, List.set_cons_succ, i64_w, i32_w]
                          rfl
                        refine done_ (done_of HT_.out (by kernel_rfl)) ?_
                        try go_wp2
                        go_ret
                        exact ⟨by first | rfl | (simp [errW_none, errW_some] <;> rfl) | (simp [*, errW_none, errW_some] <;> rfl), by repeat (first | (with_reducible first | exact HB.out | apply below_alloc | apply pw_below_drewN | apply below_drew1) | exact HB.out)⟩
                    · rw [if_neg c7] at H
                      exact absurd H (by simp)
                  · rw [if_neg c6] at H
                    exact absurd H (by simp)
                · rw [if_neg c5] at H
                  exact absurd H (by simp)
              · rw [if_neg c4] at H
                exact absurd H (by simp)
            · rw [if_neg c3] at H
              have c3b0 : decide (x4_2 < x7_1) = false := decide_eq_false c3
              clear c3
              have H' := Aside0.mk H
              clear H
              go_wp2
              go_roundg k2
              case measure => have := HK1.out; have := HK2.out; omega
              case rel => exact ⟨(wrap64 (x7_1 + 1)), (by first | rfl | (simp; done) | (simp [*]; done)), H', ⟨by have := HK1.out; have := HK2.out; omega⟩, ⟨by repeat (first | (with_reducible first | exact HB.out | apply below_alloc | apply pw_below_drewN | apply below_drew1) | exact HB.out)⟩⟩
      · rw [if_neg c2] at H
        have c2b0 : decide (x7_1 < (l0.length : Int)) = false := decide_eq_false c2
        clear c2
        replace H := Option.bind_eq_some_iff.mp H
        obtain ⟨t607, A140, H⟩ := H
        replace H : (some t607) = some r := H
        have A14 := Aside0.mk A140
        clear A140
        obtain rfl := Option.some.inj H
        go_wp2_with (first | ((with_reducible refine gate_callee (f := 70) rfl ?_); refine goesL_ (some 27) rfl rfl Try.func70 (by kernel_rfl) rfl #[.slice A0 l0.length c0] rfl (by (try simp only [List.map_toArray, List.map_cons, List.map_nil]); first | done | rfl | (simp only [List.length_drop, List.length_take]; rfl)) ?_; (with_reducible refine (sashref04_All.calls k1 _ _ l0 t607 _ ?side1 ?side2 A14.out).mono ?_); (case side1 => repeat (first | exact (Kd.C_below HR0.out HB.out) | (with_reducible refine Kd.C_alloc ?_ _) | (with_reducible refine Kd.C_drewN ?_ _) | (with_reducible refine Kd.C_drew ?_))); (case side2 => exact HC0.out); rintro e w15 ⟨rfl, hb⟩; refine ⟨_, rfl, ?_⟩; have n0_ := Aside0.mk (below_step (by repeat (first | (with_reducible first | exact HB.out | apply below_alloc | apply pw_below_drewN | apply below_drew1) | exact HB.out)) hb); clear HB; have HB := n0_; clear n0_; (try clear hb); (try clear hb2); (try clear hk); (try clear hi)))
        go_ret
        exact ⟨by first | rfl | (simp [errW_none, errW_some] <;> rfl) | (simp [*, errW_none, errW_some] <;> rfl), by repeat (first | (with_reducible first | exact HB.out | apply below_alloc | apply pw_below_drewN | apply below_drew1) | exact HB.out)⟩

end Go.Proofs.Ytfdmfgaiblfbhaa.P
