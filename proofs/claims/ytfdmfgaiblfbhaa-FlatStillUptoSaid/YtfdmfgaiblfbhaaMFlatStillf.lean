/- FlatStill: part 6 of 7 of this claim's texts, one behind the other. The words of the kit's printer stand in it cut down, by a program, to those that are used. -/
import Derived.Test.YtfdmfgaiblfbhaaMFlatStillc
import Derived.Test.YtfdmfgaiblfbhaaMFlatStilld
import Derived.Test.YtfdmfgaiblfbhaaMFlatStille
namespace Go.Proofs.Ytfdmfgaiblfbhaa.P
open Go.RowKit Go.Proofs.YtfdmfgaiblfbhaaW.PrintWords Go.Proofs.YtfdmfgaiblfbhaaW.PrintLast Go.Proofs.YtfdmfgaiblfbhaaW.PrintMore
attribute [local go_sem] max2_int min2_int max_two min_two max_three min_three max_four min_four   -- for this text's walks alone
set_option linter.unusedVariables false
set_option linter.unusedSimpArgs false

/-! ### sashlaw07_FlatStill: function 15 -/
mutual
def sashlaw07_FlatStill.j0 : Nat → Bool → Int → Int → Int → Int → Int → Int → List (S26) → Option (Bool)
  | 0, _, _, _, _, _, _, _, _ => none
  | k + 1, x14, x784000, x784001, x784002, x784003, x784004, x784005, x784006 => if x14 = true then ((sashlaw07_awake.f k).bind fun t786 => (some t786)) else ((flat_List.f k x784000 x784001 x784002 x784003 x784004 x784005 x784006).bind fun t787 => (sashlaw07_FlatStill.l0 k t787 (([] : List Int)) 0 x784000 x784001 x784002 x784003 x784004 x784005 x784006))
def sashlaw07_FlatStill.l0 : Nat → List (S35) → List Int → Int → Int → Int → Int → Int → Int → Int → List (S26) → Option (Bool)
  | 0, _, _, _, _, _, _, _, _, _, _ => none
  | k + 1, x3, x4, x5, x784000, x784001, x784002, x784003, x784004, x784005, x784006 => if x5 < (x3.length : Int) then (if x4.length < 17592186044416 then (sashlaw07_FlatStill.l0 k x3 (x4 ++ [wrap64 ((-1) - x5)]) (wrap64 (x5 + 1)) x784000 x784001 x784002 x784003 x784004 x784005 x784006) else (none)) else ((flat_Name.f k x784000 x784001 x784002 x784003 x784004 x784005 x784006 x4).bind fun bt796 => (if bt796.2.2.2.2.2.2.2 = true then ((flat_Changed.f x3 x3).bind fun t807 => (if (t807.length : Int) = 0 then ((flat_List.f k bt796.1 bt796.2.1 bt796.2.2.1 bt796.2.2.2.1 bt796.2.2.2.2.1 bt796.2.2.2.2.2.1 bt796.2.2.2.2.2.2.1).bind fun t810 => ((flat_Changed.f x3 t810).bind fun t813 => ((sashref07_List.f k bt796.1 bt796.2.1 bt796.2.2.1 bt796.2.2.2.1 bt796.2.2.2.2.1 bt796.2.2.2.2.2.1 bt796.2.2.2.2.2.2.1).bind fun t816 => ((sashref07_Same.f k t813 t816).bind fun t819 => (if t819 = true then ((sashlaw07_awake.f k).bind fun t820 => (some t820)) else (some false)))))) else (some false))) else (some false)))
end
def sashlaw07_FlatStill.f (k : Nat) (a0_0 : Int) (a0_1 : Int) (a0_2 : Int) (a0_3 : Int) (a0_4 : Int) (a0_5 : Int) (l0_6 : List (S26)) : Option (Bool) := (sashref05_Great.f k a0_0 a0_1 a0_2 a0_3 a0_4 a0_5 l0_6).bind fun t784 => (if t784 = true then (sashlaw07_FlatStill.j0 k true a0_0 a0_1 a0_2 a0_3 a0_4 a0_5 l0_6) else ((sashref05_May.f k a0_0 a0_1 a0_2 a0_3 a0_4 a0_5 l0_6).bind fun t785 => (sashlaw07_FlatStill.j0 k (!t785) a0_0 a0_1 a0_2 a0_3 a0_4 a0_5 l0_6)))
theorem sashlaw07_FlatStill.mono_l : ∀ k, (∀ y0 y1 y2 y3 y4 y5 y6 y7, LeO (sashlaw07_FlatStill.j0 k y0 y1 y2 y3 y4 y5 y6 y7) (sashlaw07_FlatStill.j0 (k + 1) y0 y1 y2 y3 y4 y5 y6 y7)) ∧ (∀ y0 y1 y2 y3 y4 y5 y6 y7 y8 y9, LeO (sashlaw07_FlatStill.l0 k y0 y1 y2 y3 y4 y5 y6 y7 y8 y9) (sashlaw07_FlatStill.l0 (k + 1) y0 y1 y2 y3 y4 y5 y6 y7 y8 y9))
  | 0 => ⟨fun _ _ _ _ _ _ _ _ r h => by simp [sashlaw07_FlatStill.j0] at h, fun _ _ _ _ _ _ _ _ _ _ r h => by simp [sashlaw07_FlatStill.l0] at h⟩
  | k + 1 => by
    obtain ⟨ih0, ih1⟩ := sashlaw07_FlatStill.mono_l k
    refine ⟨?_, ?_⟩
    · intro y0 y1 y2 y3 y4 y5 y6 y7
      unfold sashlaw07_FlatStill.j0
      repeat' first
      | (with_reducible exact ih0 _ _ _ _ _ _ _ _)
      | (with_reducible exact ih1 _ _ _ _ _ _ _ _ _ _)
      | (with_reducible exact flat_List.mono _ _ _ _ _ _ _ _)
      | (with_reducible exact flat_Name.mono _ _ _ _ _ _ _ _ _)
      | (with_reducible exact sashlaw07_awake.mono _)
      | (with_reducible exact sashref05_Great.mono _ _ _ _ _ _ _ _)
      | (with_reducible exact sashref05_May.mono _ _ _ _ _ _ _ _)
      | (with_reducible exact sashref07_List.mono _ _ _ _ _ _ _ _)
      | (with_reducible exact sashref07_Same.mono _ _ _)
      | (with_reducible exact LeO.refl _)
      | (with_reducible exact LeO.none _)
      | (with_reducible refine LeO.ite ?_ ?_)
      | (with_reducible refine LeO.bind ?_ (fun _ => ?_))
      | exact ih0 _ _ _ _ _ _ _ _
      | exact ih1 _ _ _ _ _ _ _ _ _ _
      | exact flat_List.mono _ _ _ _ _ _ _ _
      | exact flat_Name.mono _ _ _ _ _ _ _ _ _
      | exact sashlaw07_awake.mono _
      | exact sashref05_Great.mono _ _ _ _ _ _ _ _
      | exact sashref05_May.mono _ _ _ _ _ _ _ _
      | exact sashref07_List.mono _ _ _ _ _ _ _ _
      | exact sashref07_Same.mono _ _ _
      | exact LeO.none _
      | refine LeO.ite ?_ ?_
      | refine LeO.bind ?_ (fun _ => ?_)
    · intro y0 y1 y2 y3 y4 y5 y6 y7 y8 y9
      unfold sashlaw07_FlatStill.l0
      repeat' first
      | (with_reducible exact ih0 _ _ _ _ _ _ _ _)
      | (with_reducible exact ih1 _ _ _ _ _ _ _ _ _ _)
      | (with_reducible exact flat_List.mono _ _ _ _ _ _ _ _)
      | (with_reducible exact flat_Name.mono _ _ _ _ _ _ _ _ _)
      | (with_reducible exact sashlaw07_awake.mono _)
      | (with_reducible exact sashref05_Great.mono _ _ _ _ _ _ _ _)
      | (with_reducible exact sashref05_May.mono _ _ _ _ _ _ _ _)
      | (with_reducible exact sashref07_List.mono _ _ _ _ _ _ _ _)
      | (with_reducible exact sashref07_Same.mono _ _ _)
      | (with_reducible exact LeO.refl _)
      | (with_reducible exact LeO.none _)
      | (with_reducible refine LeO.ite ?_ ?_)
      | (with_reducible refine LeO.bind ?_ (fun _ => ?_))
      | exact ih0 _ _ _ _ _ _ _ _
      | exact ih1 _ _ _ _ _ _ _ _ _ _
      | exact flat_List.mono _ _ _ _ _ _ _ _
      | exact flat_Name.mono _ _ _ _ _ _ _ _ _
      | exact sashlaw07_awake.mono _
      | exact sashref05_Great.mono _ _ _ _ _ _ _ _
      | exact sashref05_May.mono _ _ _ _ _ _ _ _
      | exact sashref07_List.mono _ _ _ _ _ _ _ _
      | exact sashref07_Same.mono _ _ _
      | exact LeO.none _
      | refine LeO.ite ?_ ?_
      | refine LeO.bind ?_ (fun _ => ?_)
theorem sashlaw07_FlatStill.mono : ∀ a0 a1 a2 a3 a4 a5 a6 k, LeO (sashlaw07_FlatStill.f k a0 a1 a2 a3 a4 a5 a6) (sashlaw07_FlatStill.f (k + 1) a0 a1 a2 a3 a4 a5 a6) := by
  intro a0 a1 a2 a3 a4 a5 a6 k
  obtain ⟨ih0, ih1⟩ := sashlaw07_FlatStill.mono_l k
  unfold sashlaw07_FlatStill.f
  repeat' first
      | (with_reducible exact ih0 _ _ _ _ _ _ _ _)
      | (with_reducible exact ih1 _ _ _ _ _ _ _ _ _ _)
      | (with_reducible exact flat_List.mono _ _ _ _ _ _ _ _)
      | (with_reducible exact flat_Name.mono _ _ _ _ _ _ _ _ _)
      | (with_reducible exact sashlaw07_awake.mono _)
      | (with_reducible exact sashref05_Great.mono _ _ _ _ _ _ _ _)
      | (with_reducible exact sashref05_May.mono _ _ _ _ _ _ _ _)
      | (with_reducible exact sashref07_List.mono _ _ _ _ _ _ _ _)
      | (with_reducible exact sashref07_Same.mono _ _ _)
      | (with_reducible exact LeO.refl _)
      | (with_reducible exact LeO.none _)
      | (with_reducible refine LeO.ite ?_ ?_)
      | (with_reducible refine LeO.bind ?_ (fun _ => ?_))
      | exact ih0 _ _ _ _ _ _ _ _
      | exact ih1 _ _ _ _ _ _ _ _ _ _
      | exact flat_List.mono _ _ _ _ _ _ _ _
      | exact flat_Name.mono _ _ _ _ _ _ _ _ _
      | exact sashlaw07_awake.mono _
      | exact sashref05_Great.mono _ _ _ _ _ _ _ _
      | exact sashref05_May.mono _ _ _ _ _ _ _ _
      | exact sashref07_List.mono _ _ _ _ _ _ _ _
      | exact sashref07_Same.mono _ _ _
      | exact LeO.none _
      | refine LeO.ite ?_ ?_
      | refine LeO.bind ?_ (fun _ => ?_)
def sashlaw07_FlatStill.T10 : Bool × List (List Nat × List Nat) := (true, [([], []), ([0], [0]), ([1], [1]), ([1], [1]), ([2, 3, 1, 1], [1, 2, 3]), ([4, 1], [1, 4]), ([5, 1], [1, 5]), ([1, 6], [1, 6]), ([7, 4], [7]), ([8], [8]), ([8], [8]), ([10, 8, 8], [8, 10]), ([9, 11, 11, 8], [8, 9, 11]), ([8], [8]), ([13, 12, 8], [8, 13]), ([12, 14, 14, 8], [8, 12, 14]), ([8, 15], [8, 15]), ([16, 15], [16]), ([17, 17], [17]), ([17, 18], [17, 18]), ([19, 18, 0, 1, 2, 3, 4, 5, 6, 7, 8, 9, 10, 11, 12, 13, 14, 15, 16, 17, 18, 19], [19])])
def sashlaw07_FlatStill.B10 : List Nat := [0, 1, 3, 3, 15, 31, 63, 127, 255, 511, 511, 1535, 4095, 511, 16383, 32767, 65535, 131071, 262143, 524287, 1048575]
theorem sashlaw07_FlatStill.tab10 : rtab .any (opsOf Try.f15 10) = sashlaw07_FlatStill.T10 := by kernel_rfl
theorem sashlaw07_FlatStill.bits10 : waitsOk sashlaw07_FlatStill.T10.2 sashlaw07_FlatStill.B10 = true := by kernel_rfl
set_option maxHeartbeats 8000000 in
set_option maxRecDepth 100000 in
theorem sashlaw07_FlatStill.calls (k : Nat) (a0_0 : Int) (a0_1 : Int) (a0_2 : Int) (a0_3 : Int) (a0_4 : Int) (a0_5 : Int) (A0_6 : Option Addr) (c0_6 : Nat) (l0_6 : List (S26)) (r : Bool) (w : World) (hr0_6 : Kd.C k26 w A0_6 l0_6.length l0_6) (hc0_6 : l0_6.length ≤ c0_6) (h : sashlaw07_FlatStill.f k a0_0 a0_1 a0_2 a0_3 a0_4 a0_5 l0_6 = some r) :
    Calls Try.prog 15 #[.agg #[.int .u8 a0_0, .int .i64 a0_1, .int .i64 a0_2, .int .i64 a0_3, .int .i64 a0_4, .int .i64 a0_5, .slice A0_6 l0_6.length c0_6]] w fun e w' => e = .returned (.bool r) ∧ Below w.heap.size w w' := by
  have hu26 := Try.underlying26
  have HR0_6 := Aside0.mk hr0_6
  have HC0_6 := Aside0.mk hc0_6
  clear hr0_6 hc0_6
  have HB := Aside0.mk (Below.refl w.heap.size w)
  have H : ((sashref05_Great.f k a0_0 a0_1 a0_2 a0_3 a0_4 a0_5 l0_6).bind fun t784 => (if t784 = true then (sashlaw07_FlatStill.j0 k true a0_0 a0_1 a0_2 a0_3 a0_4 a0_5 l0_6) else ((sashref05_May.f k a0_0 a0_1 a0_2 a0_3 a0_4 a0_5 l0_6).bind fun t785 => (sashlaw07_FlatStill.j0 k (!t785) a0_0 a0_1 a0_2 a0_3 a0_4 a0_5 l0_6)))) = some r := h
  clear h
  have HC2 := Aside0.mk H
  clear H
  go_enter Try.func15, Try.ntmps15
  go_upto_region 1 with (first | ((with_reducible refine gate_dst (N := 1) rfl ?_); (try (refine gate_guard (by rfl) ?_; dsimp only)); refine box_event ?hg (N := 1) ?hd (cs := #[.int .u8 a0_0, .int .i64 a0_1, .int .i64 a0_2, .int .i64 a0_3, .int .i64 a0_4, .int .i64 a0_5, .slice A0_6 l0_6.length c0_6]) (t := 26) ?hr ?_; (case hd => rfl); (case hg => rfl); (case hr => first | (go_simp; done) | (go_simp; rfl)); intro gb783 hg w3 hbox hb; have n0_ := Aside0.mk (below_step (by repeat (first | (with_reducible first | exact HB.out | apply below_alloc | apply pw_below_drewN | apply below_drew1) | exact HB.out)) hb); have n1_ := Aside0.mk (hbox); have n2_ := Aside0.mk ((by rw [hg]; exact (below_size (by repeat (first | (with_reducible first | exact HB.out | apply below_alloc | apply pw_below_drewN | apply below_drew1) | exact HB.out))) : w.heap.size ≤ gb783)); have n3_ := Aside0.mk ((by rw [hg]; exact (below_size (by repeat (first | (with_reducible first | exact HB.out | apply below_alloc | apply pw_below_drewN | apply below_drew1) | exact HB.out))) : w.heap.size ≤ gb783)); clear HB; have HB := n0_; have BK783 := n1_; have GW783 := n2_; have GE783 := n3_; clear n0_ n1_ n2_ n3_; clear hb hbox hg))
  (try simp only [Act.put, List.setIfInBounds_toArray, List.set_cons_zero, List.set_cons_succ])
  go_cut [14] (fun v14 wc => ∃ (kq : Nat) (x14_1 : Bool), v14 = .bool x14_1 ∧ Aside0 (sashlaw07_FlatStill.j0 kq x14_1 a0_0 a0_1 a0_2 a0_3 a0_4 a0_5 l0_6 = some r) ∧ Aside0 (kq ≤ k) ∧ Aside0 (wc.heap[gb783]? = some (.cells #[.int .u8 a0_0, .int .i64 a0_1, .int .i64 a0_2, .int .i64 a0_3, .int .i64 a0_4, .int .i64 a0_5, (.slice A0_6 l0_6.length c0_6)] 26 (0, 0))) ∧ Aside0 (Below w.heap.size w wc))
  case first =>
    have H := HC2.out
    clear HC2
    replace H := Option.bind_eq_some_iff.mp H
    obtain ⟨t784, A40, H⟩ := H
    replace H : (if t784 = true then (sashlaw07_FlatStill.j0 k true a0_0 a0_1 a0_2 a0_3 a0_4 a0_5 l0_6) else ((sashref05_May.f k a0_0 a0_1 a0_2 a0_3 a0_4 a0_5 l0_6).bind fun t785 => (sashlaw07_FlatStill.j0 k (!t785) a0_0 a0_1 a0_2 a0_3 a0_4 a0_5 l0_6))) = some r := H
    have A4 := Aside0.mk A40
    clear A40
    by_cases c5 : t784 = true
    · subst c5
      have H1 : (sashlaw07_FlatStill.j0 k true a0_0 a0_1 a0_2 a0_3 a0_4 a0_5 l0_6) = some r := by rw [if_pos rfl] at H; exact H
      clear H
      have H := H1
      clear H1
      have H' := Aside0.mk H
      clear H
      have hcz6_0 : w3.cell? ⟨gb783, 0, none⟩ = some (.int .u8 a0_0) := (blk_cell BK783.out 0).trans rfl
      have hcz6_1 : w3.cell? ⟨gb783, 1, none⟩ = some (.int .i64 a0_1) := (blk_cell BK783.out 1).trans rfl
      have hcz6_2 : w3.cell? ⟨gb783, 2, none⟩ = some (.int .i64 a0_2) := (blk_cell BK783.out 2).trans rfl
      have hcz6_3 : w3.cell? ⟨gb783, 3, none⟩ = some (.int .i64 a0_3) := (blk_cell BK783.out 3).trans rfl
      have hcz6_4 : w3.cell? ⟨gb783, 4, none⟩ = some (.int .i64 a0_4) := (blk_cell BK783.out 4).trans rfl
      have hcz6_5 : w3.cell? ⟨gb783, 5, none⟩ = some (.int .i64 a0_5) := (blk_cell BK783.out 5).trans rfl
      have hcz6_6 : w3.cell? ⟨gb783, 6, none⟩ = some (.slice A0_6 l0_6.length c0_6) := (blk_cell BK783.out 6).trans rfl
      have hfz6_0 := blk_frozen BK783.out 0
      have hfz6_1 := blk_frozen BK783.out 1
      have hfz6_2 := blk_frozen BK783.out 2
      have hfz6_3 := blk_frozen BK783.out 3
      have hfz6_4 := blk_frozen BK783.out 4
      have hfz6_5 := blk_frozen BK783.out 5
      have hfz6_6 := blk_frozen BK783.out 6
      go_wp2_with (first | ((with_reducible refine gate_callee (f := 34) rfl ?_); refine goesL_ (some 9) rfl rfl Try.func34 (by kernel_rfl) rfl #[.agg #[.int .u8 a0_0, .int .i64 a0_1, .int .i64 a0_2, .int .i64 a0_3, .int .i64 a0_4, .int .i64 a0_5, .slice A0_6 l0_6.length c0_6]] rfl (by (try simp only [List.map_toArray, List.map_cons, List.map_nil]); first | done | rfl | (simp only [List.length_drop, List.length_take]; rfl)) ?_; (with_reducible refine (sashref05_Great.calls k a0_0 a0_1 a0_2 a0_3 a0_4 a0_5 _ _ l0_6 true _ ?side1 ?side2 A4.out).mono ?_); (case side1 => repeat (first | exact (Kd.C_below HR0_6.out HB.out) | (with_reducible refine Kd.C_alloc ?_ _) | (with_reducible refine Kd.C_drewN ?_ _) | (with_reducible refine Kd.C_drew ?_))); (case side2 => exact HC0_6.out); rintro e w7 ⟨rfl, hb⟩; refine ⟨_, rfl, ?_⟩; have n0_ := Aside0.mk (blk_below (g := gb783) (o := .cells #[.int .u8 a0_0, .int .i64 a0_1, .int .i64 a0_2, .int .i64 a0_3, .int .i64 a0_4, .int .i64 a0_5, .slice A0_6 l0_6.length c0_6] 26 (0, 0)) (by (with_reducible repeat (first | refine blk_drewN ?_ _ | refine blk_drew ?_ | refine blk_alloc ?_ _)); exact BK783.out) hb); have n1_ := Aside0.mk (below_step (by repeat (first | (with_reducible first | exact HB.out | apply below_alloc | apply pw_below_drewN | apply below_drew1 | refine below_set ?_ GE783.out) | exact HB.out)) hb); clear BK783; clear HB; have BK783 := n0_; have HB := n1_; clear n0_ n1_; (try clear hb); (try clear hb2); (try clear hk); (try clear hi)))
      go_meet
      case rel => exact ⟨_, (true), (by first | rfl | (simp; done) | (simp [*]; done)), H', ⟨by first | omega | exact Nat.le_refl _⟩, ⟨by (with_reducible repeat (first | refine blk_drewN ?_ _ | refine blk_drew ?_ | refine blk_alloc ?_ _)); exact BK783.out⟩, ⟨by repeat (first | (with_reducible first | exact HB.out | apply below_alloc | apply pw_below_drewN | apply below_drew1 | refine below_set ?_ GE783.out) | exact HB.out)⟩⟩
    · replace c5 := Bool.eq_false_iff.mpr c5
      subst c5
      have H1 : ((sashref05_May.f k a0_0 a0_1 a0_2 a0_3 a0_4 a0_5 l0_6).bind fun t785 => (sashlaw07_FlatStill.j0 k (!t785) a0_0 a0_1 a0_2 a0_3 a0_4 a0_5 l0_6)) = some r := by rw [if_neg (show ¬ (false = true) by decide)] at H; exact H
      clear H
      have H := H1
      clear H1
      replace H := Option.bind_eq_some_iff.mp H
      obtain ⟨t785, A80, H⟩ := H
      replace H : (sashlaw07_FlatStill.j0 k (!t785) a0_0 a0_1 a0_2 a0_3 a0_4 a0_5 l0_6) = some r := H
      have A8 := Aside0.mk A80
      clear A80
      have H' := Aside0.mk H
      clear H
      have hcz9_0 : w3.cell? ⟨gb783, 0, none⟩ = some (.int .u8 a0_0) := (blk_cell BK783.out 0).trans rfl
      have hcz9_1 : w3.cell? ⟨gb783, 1, none⟩ = some (.int .i64 a0_1) := (blk_cell BK783.out 1).trans rfl
      have hcz9_2 : w3.cell? ⟨gb783, 2, none⟩ = some (.int .i64 a0_2) := (blk_cell BK783.out 2).trans rfl
      have hcz9_3 : w3.cell? ⟨gb783, 3, none⟩ = some (.int .i64 a0_3) := (blk_cell BK783.out 3).trans rfl
      have hcz9_4 : w3.cell? ⟨gb783, 4, none⟩ = some (.int .i64 a0_4) := (blk_cell BK783.out 4).trans rfl
      have hcz9_5 : w3.cell? ⟨gb783, 5, none⟩ = some (.int .i64 a0_5) := (blk_cell BK783.out 5).trans rfl
      have hcz9_6 : w3.cell? ⟨gb783, 6, none⟩ = some (.slice A0_6 l0_6.length c0_6) := (blk_cell BK783.out 6).trans rfl
      have hfz9_0 := blk_frozen BK783.out 0
      have hfz9_1 := blk_frozen BK783.out 1
      have hfz9_2 := blk_frozen BK783.out 2
      have hfz9_3 := blk_frozen BK783.out 3
      have hfz9_4 := blk_frozen BK783.out 4
      have hfz9_5 := blk_frozen BK783.out 5
      have hfz9_6 := blk_frozen BK783.out 6
      go_wp2_with (first | ((with_reducible refine gate_callee (f := 34) rfl ?_); refine goesL_ (some 9) rfl rfl Try.func34 (by kernel_rfl) rfl #[.agg #[.int .u8 a0_0, .int .i64 a0_1, .int .i64 a0_2, .int .i64 a0_3, .int .i64 a0_4, .int .i64 a0_5, .slice A0_6 l0_6.length c0_6]] rfl (by (try simp only [List.map_toArray, List.map_cons, List.map_nil]); first | done | rfl | (simp only [List.length_drop, List.length_take]; rfl)) ?_; (with_reducible refine (sashref05_Great.calls k a0_0 a0_1 a0_2 a0_3 a0_4 a0_5 _ _ l0_6 false _ ?side1 ?side2 A4.out).mono ?_); (case side1 => repeat (first | exact (Kd.C_below HR0_6.out HB.out) | (with_reducible refine Kd.C_alloc ?_ _) | (with_reducible refine Kd.C_drewN ?_ _) | (with_reducible refine Kd.C_drew ?_))); (case side2 => exact HC0_6.out); rintro e w10 ⟨rfl, hb⟩; refine ⟨_, rfl, ?_⟩; have n0_ := Aside0.mk (blk_below (g := gb783) (o := .cells #[.int .u8 a0_0, .int .i64 a0_1, .int .i64 a0_2, .int .i64 a0_3, .int .i64 a0_4, .int .i64 a0_5, .slice A0_6 l0_6.length c0_6] 26 (0, 0)) (by (with_reducible repeat (first | refine blk_drewN ?_ _ | refine blk_drew ?_ | refine blk_alloc ?_ _)); exact BK783.out) hb); have n1_ := Aside0.mk (below_step (by repeat (first | (with_reducible first | exact HB.out | apply below_alloc | apply pw_below_drewN | apply below_drew1 | refine below_set ?_ GE783.out) | exact HB.out)) hb); clear BK783; clear HB; have BK783 := n0_; have HB := n1_; clear n0_ n1_; (try clear hb); (try clear hb2); (try clear hk); (try clear hi); have hcz11_0 : w10.cell? ⟨gb783, 0, none⟩ = some (.int .u8 a0_0) := (blk_cell BK783.out 0).trans rfl; have hcz11_1 : w10.cell? ⟨gb783, 1, none⟩ = some (.int .i64 a0_1) := (blk_cell BK783.out 1).trans rfl; have hcz11_2 : w10.cell? ⟨gb783, 2, none⟩ = some (.int .i64 a0_2) := (blk_cell BK783.out 2).trans rfl; have hcz11_3 : w10.cell? ⟨gb783, 3, none⟩ = some (.int .i64 a0_3) := (blk_cell BK783.out 3).trans rfl; have hcz11_4 : w10.cell? ⟨gb783, 4, none⟩ = some (.int .i64 a0_4) := (blk_cell BK783.out 4).trans rfl; have hcz11_5 : w10.cell? ⟨gb783, 5, none⟩ = some (.int .i64 a0_5) := (blk_cell BK783.out 5).trans rfl; have hcz11_6 : w10.cell? ⟨gb783, 6, none⟩ = some (.slice A0_6 l0_6.length c0_6) := (blk_cell BK783.out 6).trans rfl; have hfz11_0 := blk_frozen BK783.out 0; have hfz11_1 := blk_frozen BK783.out 1; have hfz11_2 := blk_frozen BK783.out 2; have hfz11_3 := blk_frozen BK783.out 3; have hfz11_4 := blk_frozen BK783.out 4; have hfz11_5 := blk_frozen BK783.out 5; have hfz11_6 := blk_frozen BK783.out 6) | (go_at_call 38; (with_reducible refine (sashref05_May.calls k a0_0 a0_1 a0_2 a0_3 a0_4 a0_5 _ _ l0_6 t785 _ ?side1 ?side2 A8.out).mono ?_); (case side1 => repeat (first | exact (Kd.C_below HR0_6.out HB.out) | (with_reducible refine Kd.C_alloc ?_ _) | (with_reducible refine Kd.C_drewN ?_ _) | (with_reducible refine Kd.C_drew ?_))); (case side2 => exact HC0_6.out); rintro e w12 ⟨rfl, hb⟩; have n0_ := Aside0.mk (blk_below (g := gb783) (o := .cells #[.int .u8 a0_0, .int .i64 a0_1, .int .i64 a0_2, .int .i64 a0_3, .int .i64 a0_4, .int .i64 a0_5, .slice A0_6 l0_6.length c0_6] 26 (0, 0)) (by (with_reducible repeat (first | refine blk_drewN ?_ _ | refine blk_drew ?_ | refine blk_alloc ?_ _)); exact BK783.out) hb); have n1_ := Aside0.mk (below_step (by repeat (first | (with_reducible first | exact HB.out | apply below_alloc | apply pw_below_drewN | apply below_drew1 | refine below_set ?_ GE783.out) | exact HB.out)) hb); clear BK783; clear HB; have BK783 := n0_; have HB := n1_; clear n0_ n1_; (try clear hb); (try clear hb2); (try clear hk); (try clear hi)))
      go_meet
      case rel => exact ⟨_, (!t785), (by first | rfl | (simp; done) | (simp [*]; done)), H', ⟨by first | omega | exact Nat.le_refl _⟩, ⟨by (with_reducible repeat (first | refine blk_drewN ?_ _ | refine blk_drew ?_ | refine blk_alloc ?_ _)); exact BK783.out⟩, ⟨by repeat (first | (with_reducible first | exact HB.out | apply below_alloc | apply pw_below_drewN | apply below_drew1 | refine below_set ?_ GE783.out) | exact HB.out)⟩⟩
  case rest =>
    clear HC2
    try clear c1
    try clear p2
    try clear c3
    try clear c5
    try clear hcz11_0
    try clear hcz11_1
    try clear hcz11_2
    try clear hcz11_3
    try clear hcz11_4
    try clear hcz11_5
    try clear hcz11_6
    try clear hcz6_0
    try clear hcz6_1
    try clear hcz6_2
    try clear hcz6_3
    try clear hcz6_4
    try clear hcz6_5
    try clear hcz6_6
    try clear hcz9_0
    try clear hcz9_1
    try clear hcz9_2
    try clear hcz9_3
    try clear hcz9_4
    try clear hcz9_5
    try clear hcz9_6
    try clear hfz11_0
    try clear hfz11_1
    try clear hfz11_2
    try clear hfz11_3
    try clear hfz11_4
    try clear hfz11_5
    try clear hfz11_6
    try clear hfz6_0
    try clear hfz6_1
    try clear hfz6_2
    try clear hfz6_3
    try clear hfz6_4
    try clear hfz6_5
    try clear hfz6_6
    try clear hfz9_0
    try clear hfz9_1
    try clear hfz9_2
    try clear hfz9_3
    try clear hfz9_4
    try clear hfz9_5
    try clear hfz9_6
    obtain ⟨kq, x14_1, rfl, HA, HJ1, BK783, HB⟩ := hcut
    cases kq with
    | zero => exact absurd HA.out (by simp [sashlaw07_FlatStill.j0])
    | succ kj1 =>
      have H := HA.out
      clear HA
      simp only [sashlaw07_FlatStill.j0] at H
      by_cases c13 : x14_1 = true
      · subst c13
        have H1 : ((sashlaw07_awake.f kj1).bind fun t786 => (some t786)) = some r := by rw [if_pos rfl] at H; exact H
        clear H
        have H := H1
        clear H1
        replace H := Option.bind_eq_some_iff.mp H
        obtain ⟨t786, A140, H⟩ := H
        replace H : (some t786) = some r := H
        have A14 := Aside0.mk A140
        clear A140
        obtain rfl := Option.some.inj H
        go_wp2_with (first | ((with_reducible refine gate_callee (f := 35) rfl ?_); refine goesL_ (some 15) rfl rfl Try.func35 (by kernel_rfl) rfl #[] rfl (by (try simp only [List.map_toArray, List.map_cons, List.map_nil]); first | done | rfl | (simp only [List.length_drop, List.length_take]; rfl)) ?_; (with_reducible refine (sashlaw07_awake.calls kj1  t786 _ A14.out).mono ?_); rintro e w15 ⟨rfl, hb⟩; refine ⟨_, rfl, ?_⟩; have n0_ := Aside0.mk (blk_below (g := gb783) (o := .cells #[.int .u8 a0_0, .int .i64 a0_1, .int .i64 a0_2, .int .i64 a0_3, .int .i64 a0_4, .int .i64 a0_5, .slice A0_6 l0_6.length c0_6] 26 (0, 0)) (by (with_reducible repeat (first | refine blk_drewN ?_ _ | refine blk_drew ?_ | refine blk_alloc ?_ _)); exact BK783.out) hb); have n1_ := Aside0.mk (below_step (by repeat (first | (with_reducible first | exact HB.out | apply below_alloc | apply pw_below_drewN | apply below_drew1 | refine below_set ?_ GE783.out) | exact HB.out)) hb); clear BK783; clear HB; have BK783 := n0_; have HB := n1_; clear n0_ n1_; (try clear hb); (try clear hb2); (try clear hk); (try clear hi)))
        go_ret
        exact ⟨by first | rfl | (simp [errW_none, errW_some] <;> rfl) | (simp [*, errW_none, errW_some] <;> rfl), by repeat (first | (with_reducible first | exact HB.out | apply below_alloc | apply pw_below_drewN | apply below_drew1 | refine below_set ?_ GE783.out) | exact HB.out)⟩
      · replace c13 := Bool.eq_false_iff.mpr c13
        subst c13
        have H1 : ((flat_List.f kj1 a0_0 a0_1 a0_2 a0_3 a0_4 a0_5 l0_6).bind fun t787 => (sashlaw07_FlatStill.l0 kj1 t787 (([] : List Int)) 0 a0_0 a0_1 a0_2 a0_3 a0_4 a0_5 l0_6)) = some r := by rw [if_neg (show ¬ (false = true) by decide)] at H; exact H
        clear H
        have H := H1
        clear H1
        replace H := Option.bind_eq_some_iff.mp H
        obtain ⟨t787, A160, H⟩ := H
        replace H : (sashlaw07_FlatStill.l0 kj1 t787 (([] : List Int)) 0 a0_0 a0_1 a0_2 a0_3 a0_4 a0_5 l0_6) = some r := H
        have A16 := Aside0.mk A160
        clear A160
        obtain ⟨y790, hy790⟩ : ∃ y_ : List Int, y_ = (([] : List Int)) := ⟨_, rfl⟩
        replace H : (sashlaw07_FlatStill.l0 kj1 t787 y790 0 a0_0 a0_1 a0_2 a0_3 a0_4 a0_5 l0_6) = some r := by first | (rw [hy790]; with_reducible exact H) | (have H2_ := (Option.bind_some _ _).symm.trans H; rw [hy790]; with_reducible exact H2_) | (have H2_ := (Option.bind_some _ _).symm.trans H; with_reducible exact H2_) | with_reducible exact H | (rw [hy790]; exact H) | exact H
        have Ny790 := Aside0.mk hy790
        clear hy790
        have H' := Aside0.mk H
        clear H
        have hcz17_0 : wc.cell? ⟨gb783, 0, none⟩ = some (.int .u8 a0_0) := (blk_cell BK783.out 0).trans rfl
        have hcz17_1 : wc.cell? ⟨gb783, 1, none⟩ = some (.int .i64 a0_1) := (blk_cell BK783.out 1).trans rfl
        have hcz17_2 : wc.cell? ⟨gb783, 2, none⟩ = some (.int .i64 a0_2) := (blk_cell BK783.out 2).trans rfl
        have hcz17_3 : wc.cell? ⟨gb783, 3, none⟩ = some (.int .i64 a0_3) := (blk_cell BK783.out 3).trans rfl
        have hcz17_4 : wc.cell? ⟨gb783, 4, none⟩ = some (.int .i64 a0_4) := (blk_cell BK783.out 4).trans rfl
        have hcz17_5 : wc.cell? ⟨gb783, 5, none⟩ = some (.int .i64 a0_5) := (blk_cell BK783.out 5).trans rfl
        have hcz17_6 : wc.cell? ⟨gb783, 6, none⟩ = some (.slice A0_6 l0_6.length c0_6) := (blk_cell BK783.out 6).trans rfl
        have hfz17_0 := blk_frozen BK783.out 0
        have hfz17_1 := blk_frozen BK783.out 1
        have hfz17_2 := blk_frozen BK783.out 2
        have hfz17_3 := blk_frozen BK783.out 3
        have hfz17_4 := blk_frozen BK783.out 4
        have hfz17_5 := blk_frozen BK783.out 5
        have hfz17_6 := blk_frozen BK783.out 6
        go_wp2_with (first | ((with_reducible refine gate_callee (f := 43) rfl ?_); refine goesL_ (some 17) rfl rfl Try.func43 (by kernel_rfl) rfl #[.agg #[.int .u8 a0_0, .int .i64 a0_1, .int .i64 a0_2, .int .i64 a0_3, .int .i64 a0_4, .int .i64 a0_5, .slice A0_6 l0_6.length c0_6]] rfl (by (try simp only [List.map_toArray, List.map_cons, List.map_nil]); first | done | rfl | (simp only [List.length_drop, List.length_take]; rfl)) ?_; (with_reducible refine (flat_List.calls kj1 a0_0 a0_1 a0_2 a0_3 a0_4 a0_5 _ _ l0_6 t787 _ ?side1 ?side2 A16.out).mono ?_); (case side1 => repeat (first | exact (Kd.C_below HR0_6.out HB.out) | (with_reducible refine Kd.C_alloc ?_ _) | (with_reducible refine Kd.C_drewN ?_ _) | (with_reducible refine Kd.C_drew ?_))); (case side2 => exact HC0_6.out); rintro e w18 ⟨v788, rfl, ho0, hb⟩; refine ⟨_, rfl, ?_⟩; have n0_ := Aside0.mk (Kd.R_lower ho0 (below_size (by repeat (first | (with_reducible first | exact HB.out | apply below_alloc | apply pw_below_drewN | apply below_drew1 | refine below_set ?_ GE783.out) | exact HB.out)))); have n1_ := Aside0.mk (blk_below (g := gb783) (o := .cells #[.int .u8 a0_0, .int .i64 a0_1, .int .i64 a0_2, .int .i64 a0_3, .int .i64 a0_4, .int .i64 a0_5, .slice A0_6 l0_6.length c0_6] 26 (0, 0)) (by (with_reducible repeat (first | refine blk_drewN ?_ _ | refine blk_drew ?_ | refine blk_alloc ?_ _)); exact BK783.out) hb); have n2_ := Aside0.mk (below_step (by repeat (first | (with_reducible first | exact HB.out | apply below_alloc | apply pw_below_drewN | apply below_drew1 | refine below_set ?_ GE783.out) | exact HB.out)) hb); clear BK783; clear HB; have HO789 := n0_; have BK783 := n1_; have HB := n2_; clear n0_ n1_ n2_; (try clear hb); (try clear hb2); (try clear hk); (try clear hi); (try clear ho0)) | ((with_reducible refine gate_dst (N := 18) rfl ?_); (try (refine gate_guard (by rfl) ?_; dsimp only)); refine Kd.R_lit (Kd.int .i64) _ 3 ?hg (N := 18) ?hd (xs := ([] : List Int)) (inner := []) (ok := fun _ => True) (okp := fun _ => True) ?hr ?hp (fun _ hk => hk) trivial (Below.refl _ _) (Nat.le_refl _) (by simp) ?_; (case hd => rfl); (case hg => rfl); (case hr => first | (go_simp; done) | (go_simp; rfl)); (case hp => exact (Reps.none _ _)); intro v791 w19 ho20 hb hg_ hnew_; clear hg_ hnew_; (first | rw [← Ny790.out] at ho20 | (simp only [Int.reduceToNat] at ho20; rw [← Ny790.out] at ho20)); have n0_ := Aside0.mk (Kd.R_below (by (with_reducible repeat (first | apply Kd.R_alloc | apply Kd.R_drewN | apply Kd.R_drew)); exact HO789.out) hb); have n1_ := Aside0.mk (Kd.R_lower ho20 (below_size (by repeat (first | (with_reducible first | exact HB.out | apply below_alloc | apply pw_below_drewN | apply below_drew1 | refine below_set ?_ GE783.out) | exact HB.out)))); have n2_ := Aside0.mk (blk_below (g := gb783) (o := .cells #[.int .u8 a0_0, .int .i64 a0_1, .int .i64 a0_2, .int .i64 a0_3, .int .i64 a0_4, .int .i64 a0_5, .slice A0_6 l0_6.length c0_6] 26 (0, 0)) (by (with_reducible repeat (first | refine blk_drewN ?_ _ | refine blk_drew ?_ | refine blk_alloc ?_ _)); exact BK783.out) hb); have n3_ := Aside0.mk (below_step (by repeat (first | (with_reducible first | exact HB.out | apply below_alloc | apply pw_below_drewN | apply below_drew1 | refine below_set ?_ GE783.out) | exact HB.out)) hb); clear HO789; clear BK783; clear HB; have HO789 := n0_; have HO792 := n1_; have BK783 := n2_; have HB := n3_; clear n0_ n1_ n2_ n3_; clear hb ho20))
        go_loopg [4, 5] kj1 (fun kq v4 v5 w' => ∃ (x4_2 : List Int) (x5_2 : Int), v5 = .int .i64 x5_2 ∧ Aside0 (sashlaw07_FlatStill.l0 kq t787 x4_2 x5_2 a0_0 a0_1 a0_2 a0_3 a0_4 a0_5 l0_6 = some r) ∧ Aside0 (kq ≤ kj1) ∧ Aside0 (Kd.R k35 35 w' w.heap.size (fun _ => True) v788 t787) ∧ Aside0 (Kd.R (Kd.int .i64) 3 w' w.heap.size (fun _ => True) v4 x4_2) ∧ Aside0 (w'.heap[gb783]? = some (.cells #[.int .u8 a0_0, .int .i64 a0_1, .int .i64 a0_2, .int .i64 a0_3, .int .i64 a0_4, .int .i64 a0_5, (.slice A0_6 l0_6.length c0_6)] 26 (0, 0))) ∧ Aside0 (Below w.heap.size w w'))
        case atStart => exact ⟨(y790), (0), (by first | rfl | (simp; done) | (simp [*]; done)), H', ⟨Nat.le_refl _⟩, ⟨by (with_reducible repeat (first | apply Kd.R_alloc | apply Kd.R_drewN | apply Kd.R_drew)); exact HO789.out⟩, ⟨by (with_reducible repeat (first | apply Kd.R_alloc | apply Kd.R_drewN | apply Kd.R_drew)); exact HO792.out⟩, ⟨by (with_reducible repeat (first | refine blk_drewN ?_ _ | refine blk_drew ?_ | refine blk_alloc ?_ _)); exact BK783.out⟩, ⟨by repeat (first | (with_reducible first | exact HB.out | apply below_alloc | apply pw_below_drewN | apply below_drew1 | refine below_set ?_ GE783.out) | exact HB.out)⟩⟩
        case round =>
          clear H'
          try clear c1
          try clear p2
          try clear c3
          try clear c4
          try clear c5
          try clear c13
          try clear c15
          try clear hcz11_0
          try clear hcz11_1
          try clear hcz11_2
          try clear hcz11_3
          try clear hcz11_4
          try clear hcz11_5
          try clear hcz11_6
          try clear hcz17_0
          try clear hcz17_1
          try clear hcz17_2
          try clear hcz17_3
          try clear hcz17_4
          try clear hcz17_5
          try clear hcz17_6
          try clear hcz6_0
          try clear hcz6_1
          try clear hcz6_2
          try clear hcz6_3
          try clear hcz6_4
          try clear hcz6_5
          try clear hcz6_6
          try clear hcz9_0
          try clear hcz9_1
          try clear hcz9_2
          try clear hcz9_3
          try clear hcz9_4
          try clear hcz9_5
          try clear hcz9_6
          try clear hfz11_0
          try clear hfz11_1
          try clear hfz11_2
          try clear hfz11_3
          try clear hfz11_4
          try clear hfz11_5
          try clear hfz11_6
          try clear hfz17_0
          try clear hfz17_1
          try clear hfz17_2
          try clear hfz17_3
          try clear hfz17_4
          try clear hfz17_5
          try clear hfz17_6
          try clear hfz6_0
          try clear hfz6_1
          try clear hfz6_2
          try clear hfz6_3
          try clear hfz6_4
          try clear hfz6_5
          try clear hfz6_6
          try clear hfz9_0
          try clear hfz9_1
          try clear hfz9_2
          try clear hfz9_3
          try clear hfz9_4
          try clear hfz9_5
          try clear hfz9_6
          try clear p2
          obtain ⟨x4_2, x5_2, rfl, HA, HK2, HO_3, HO_4, BK783, HB⟩ := hrel
          cases gk with
          | zero => exact absurd HA.out (by simp [sashlaw07_FlatStill.l0])
          | succ k2 =>
            have H := HA.out
            clear HA
            simp only [sashlaw07_FlatStill.l0] at H
            by_cases c21 : x5_2 < (t787.length : Int)
            · rw [if_pos c21] at H
              have c21b0 : decide (x5_2 < (t787.length : Int)) = true := decide_eq_true c21
              clear c21
              by_cases c22 : x4_2.length < 17592186044416
              · rw [if_pos c22] at H
                have LMc22 := Aside0.mk c22
                clear c22
                obtain ⟨y793, hy793⟩ : ∃ y_ : List Int, y_ = (x4_2 ++ [wrap64 ((-1) - x5_2)]) := ⟨_, rfl⟩
                replace H : (sashlaw07_FlatStill.l0 k2 t787 y793 (wrap64 (x5_2 + 1)) a0_0 a0_1 a0_2 a0_3 a0_4 a0_5 l0_6) = some r := by first | (rw [hy793]; with_reducible exact H) | (have H2_ := (Option.bind_some _ _).symm.trans H; rw [hy793]; with_reducible exact H2_) | (have H2_ := (Option.bind_some _ _).symm.trans H; with_reducible exact H2_) | with_reducible exact H | (rw [hy793]; exact H) | exact H
                have Ny793 := Aside0.mk hy793
                clear hy793
                have H' := Aside0.mk H
                clear H
                obtain ⟨Ao23, co23, eo23⟩ := Kd.R_slice HO_3.out
                subst eo23
                go_wp2_with (first | ((with_reducible refine gate_builtin (b := .append) (xs := #[.tmp 25, .tmp 28]) rfl ?_); (try (refine gate_guard (by rfl) ?_; dsimp only)); at_builtin; refine Kd.R_append (Kd.int .i64) (w0 := w) w.heap.size rfl (.tmp 25) (.tmp 28) 41 3 (.int .i64 0) 8 rfl Try.underlying41 info3 rfl (by decide) (by omega) u4 x4_2 (wrap64 ((-1) - x5_2)) [.int .i64 (wrap64 ((-1) - x5_2))] (fun _ => True) (fun _ => False) rfl rfl ?aP (fun _ hk => hk.elim) ?aF ?aO ?aB ?aS ?aL ?_; (case aP => exact rfl); (case aB => exact (by repeat (first | (with_reducible first | exact HB.out | apply below_alloc | apply pw_below_drewN | apply below_drew1 | refine below_set ?_ GE783.out) | exact HB.out))); (case aF => exact (fun _ _ => trivial)); (case aO => exact (by (with_reducible repeat (first | apply Kd.R_alloc | apply Kd.R_drewN | apply Kd.R_drew)); exact HO_4.out)); (case aS => exact (below_size (by repeat (first | (with_reducible first | exact HB.out | apply below_alloc | apply pw_below_drewN | apply below_drew1 | refine below_set ?_ GE783.out) | exact HB.out)))); (case aL => have := LMc22.out; omega); intro v794 w24 ho hb hg hat; rw [← Ny793.out] at ho; have n0_ := Aside0.mk (Kd.R_over' (by (with_reducible repeat (first | apply Kd.R_alloc | apply Kd.R_drewN | apply Kd.R_drew)); exact HO_3.out) (Kd.R_typed (by (with_reducible repeat (first | apply Kd.R_alloc | apply Kd.R_drewN | apply Kd.R_drew)); exact HO_4.out)) (by decide) hg); have n1_ := Aside0.mk (blk_grown (g := gb783) (o := .cells #[.int .u8 a0_0, .int .i64 a0_1, .int .i64 a0_2, .int .i64 a0_3, .int .i64 a0_4, .int .i64 a0_5, .slice A0_6 l0_6.length c0_6] 26 (0, 0)) (by (with_reducible repeat (first | refine blk_drewN ?_ _ | refine blk_drew ?_ | refine blk_alloc ?_ _)); exact BK783.out) hg (Kd.R_ne HO_4.out BK783.out (by decide))); have n2_ := Aside0.mk (hb); have n3_ := Aside0.mk (ho); clear HO_3; clear BK783; clear HB; clear HO_4; have HO_3 := n0_; have BK783 := n1_; have HB := n2_; have HO795 := n3_; clear n0_ n1_ n2_ n3_; clear ho hb hg hat))
                go_roundg k2
                case measure => have := HJ1.out; have := HK2.out; omega
                case rel => exact ⟨(y793), (wrap64 (x5_2 + 1)), (by first | rfl | (simp; done) | (simp [*]; done)), H', ⟨by have := HJ1.out; have := HK2.out; omega⟩, ⟨by (with_reducible repeat (first | apply Kd.R_alloc | apply Kd.R_drewN | apply Kd.R_drew)); exact HO_3.out⟩, ⟨by (with_reducible repeat (first | apply Kd.R_alloc | apply Kd.R_drewN | apply Kd.R_drew)); exact HO795.out⟩, ⟨by (with_reducible repeat (first | refine blk_drewN ?_ _ | refine blk_drew ?_ | refine blk_alloc ?_ _)); exact BK783.out⟩, ⟨by repeat (first | (with_reducible first | exact HB.out | apply below_alloc | apply pw_below_drewN | apply below_drew1 | refine below_set ?_ GE783.out) | exact HB.out)⟩⟩
              · rw [if_neg c22] at H
                exact absurd H (by simp)
            · rw [if_neg c21] at H
              have c21b0 : decide (x5_2 < (t787.length : Int)) = false := decide_eq_false c21
              clear c21
              replace H := Option.bind_eq_some_iff.mp H
              obtain ⟨⟨t796, t797, t798, t799, t800, t801, t802, t805⟩, A250, H⟩ := H
              replace H : (if t805 = true then ((flat_Changed.f t787 t787).bind fun t807 => (if (t807.length : Int) = 0 then ((flat_List.f k2 t796 t797 t798 t799 t800 t801 t802).bind fun t810 => ((flat_Changed.f t787 t810).bind fun t813 => ((sashref07_List.f k2 t796 t797 t798 t799 t800 t801 t802).bind fun t816 => ((sashref07_Same.f k2 t813 t816).bind fun t819 => (if t819 = true then ((sashlaw07_awake.f k2).bind fun t820 => (some t820)) else (some false)))))) else (some false))) else (some false)) = some r := H
              have A25 := Aside0.mk A250
              clear A250
              by_cases c26 : t805 = true
              · subst c26
                have H1 : ((flat_Changed.f t787 t787).bind fun t807 => (if (t807.length : Int) = 0 then ((flat_List.f k2 t796 t797 t798 t799 t800 t801 t802).bind fun t810 => ((flat_Changed.f t787 t810).bind fun t813 => ((sashref07_List.f k2 t796 t797 t798 t799 t800 t801 t802).bind fun t816 => ((sashref07_Same.f k2 t813 t816).bind fun t819 => (if t819 = true then ((sashlaw07_awake.f k2).bind fun t820 => (some t820)) else (some false)))))) else (some false))) = some r := by rw [if_pos rfl] at H; exact H
                clear H
                have H := H1
                clear H1
                replace H := Option.bind_eq_some_iff.mp H
                obtain ⟨t807, A270, H⟩ := H
                replace H : (if (t807.length : Int) = 0 then ((flat_List.f k2 t796 t797 t798 t799 t800 t801 t802).bind fun t810 => ((flat_Changed.f t787 t810).bind fun t813 => ((sashref07_List.f k2 t796 t797 t798 t799 t800 t801 t802).bind fun t816 => ((sashref07_Same.f k2 t813 t816).bind fun t819 => (if t819 = true then ((sashlaw07_awake.f k2).bind fun t820 => (some t820)) else (some false)))))) else (some false)) = some r := H
                have A27 := Aside0.mk A270
                clear A270
                by_cases c28 : (t807.length : Int) = 0
                · rw [if_pos c28] at H
                  have c28b0 : ((t807.length : Int) == 0) = true := beq_iff_eq.mpr c28
                  have c28b1 : ((t807.length : Int) != 0) = false := bne_eq_false_iff_eq.mpr c28
                  clear c28
                  replace H := Option.bind_eq_some_iff.mp H
                  obtain ⟨t810, A290, H⟩ := H
                  replace H : ((flat_Changed.f t787 t810).bind fun t813 => ((sashref07_List.f k2 t796 t797 t798 t799 t800 t801 t802).bind fun t816 => ((sashref07_Same.f k2 t813 t816).bind fun t819 => (if t819 = true then ((sashlaw07_awake.f k2).bind fun t820 => (some t820)) else (some false))))) = some r := H
                  have A29 := Aside0.mk A290
                  clear A290
                  replace H := Option.bind_eq_some_iff.mp H
                  obtain ⟨t813, A300, H⟩ := H
                  replace H : ((sashref07_List.f k2 t796 t797 t798 t799 t800 t801 t802).bind fun t816 => ((sashref07_Same.f k2 t813 t816).bind fun t819 => (if t819 = true then ((sashlaw07_awake.f k2).bind fun t820 => (some t820)) else (some false)))) = some r := H
                  have A30 := Aside0.mk A300
                  clear A300
                  replace H := Option.bind_eq_some_iff.mp H
                  obtain ⟨t816, A310, H⟩ := H
                  replace H : ((sashref07_Same.f k2 t813 t816).bind fun t819 => (if t819 = true then ((sashlaw07_awake.f k2).bind fun t820 => (some t820)) else (some false))) = some r := H
                  have A31 := Aside0.mk A310
                  clear A310
                  replace H := Option.bind_eq_some_iff.mp H
                  obtain ⟨t819, A320, H⟩ := H
                  replace H : (if t819 = true then ((sashlaw07_awake.f k2).bind fun t820 => (some t820)) else (some false)) = some r := H
                  have A32 := Aside0.mk A320
                  clear A320
                  by_cases c33 : t819 = true
                  · subst c33
                    have H1 : ((sashlaw07_awake.f k2).bind fun t820 => (some t820)) = some r := by rw [if_pos rfl] at H; exact H
                    clear H
                    have H := H1
                    clear H1
                    replace H := Option.bind_eq_some_iff.mp H
                    obtain ⟨t820, A340, H⟩ := H
                    replace H : (some t820) = some r := H
                    have A34 := Aside0.mk A340
                    clear A340
                    obtain rfl := Option.some.inj H
                    obtain ⟨Ao35, co35, eo35⟩ := Kd.R_slice HO_3.out
                    subst eo35
                    have hcz36_0 : wr.cell? ⟨gb783, 0, none⟩ = some (.int .u8 a0_0) := (blk_cell BK783.out 0).trans rfl
                    have hcz36_1 : wr.cell? ⟨gb783, 1, none⟩ = some (.int .i64 a0_1) := (blk_cell BK783.out 1).trans rfl
                    have hcz36_2 : wr.cell? ⟨gb783, 2, none⟩ = some (.int .i64 a0_2) := (blk_cell BK783.out 2).trans rfl
                    have hcz36_3 : wr.cell? ⟨gb783, 3, none⟩ = some (.int .i64 a0_3) := (blk_cell BK783.out 3).trans rfl
                    have hcz36_4 : wr.cell? ⟨gb783, 4, none⟩ = some (.int .i64 a0_4) := (blk_cell BK783.out 4).trans rfl
                    have hcz36_5 : wr.cell? ⟨gb783, 5, none⟩ = some (.int .i64 a0_5) := (blk_cell BK783.out 5).trans rfl
                    have hcz36_6 : wr.cell? ⟨gb783, 6, none⟩ = some (.slice A0_6 l0_6.length c0_6) := (blk_cell BK783.out 6).trans rfl
                    have hfz36_0 := blk_frozen BK783.out 0
                    have hfz36_1 := blk_frozen BK783.out 1
                    have hfz36_2 := blk_frozen BK783.out 2
                    have hfz36_3 := blk_frozen BK783.out 3
                    have hfz36_4 := blk_frozen BK783.out 4
                    have hfz36_5 := blk_frozen BK783.out 5
                    have hfz36_6 := blk_frozen BK783.out 6
                    obtain ⟨Ao37, co37, eo37⟩ := Kd.R_slice HO_4.out
                    subst eo37
                    try go_wp2_with (first | ((with_reducible refine gate_callee (f := 62) rfl ?_); refine goesL_ (some 33) rfl rfl Try.func62 (by kernel_rfl) rfl #[.agg #[.int .u8 a0_0, .int .i64 a0_1, .int .i64 a0_2, .int .i64 a0_3, .int .i64 a0_4, .int .i64 a0_5, .slice A0_6 l0_6.length c0_6], .slice Ao37 x4_2.length co37] rfl (by (try simp only [List.map_toArray, List.map_cons, List.map_nil]); first | done | rfl | (simp only [List.length_drop, List.length_take]; rfl)) ?_; (with_reducible refine (flat_Name.calls k2 a0_0 a0_1 a0_2 a0_3 a0_4 a0_5 (fun k_ => k_ < w.heap.size) _ _ l0_6 (fun k_ => some k_ = (.slice Ao37 x4_2.length co37 : Value).ownBlock) _ _ x4_2 t796 t797 t798 t799 t800 t801 t802 true _ ?side1 ?side2 A25.out).mono ?_); (case side1 => exact Kd.V_mk HC0_6.out (Kd.F_below (Kd.C_F k26_heap HR0_6.out) (by repeat (first | (with_reducible first | exact HB.out | apply below_alloc | apply pw_below_drewN | apply below_drew1 | refine below_set ?_ GE783.out) | exact HB.out)))); (case side2 => exact Kd.R_V (Kd.R_tight rfl (Kd.R_types (Kd.R_apart' (HO_4.out) (Kd.R_typed HO_3.out) (by decide)) BK783.out (by decide)))); rintro e w38 ⟨v803, rfl, ho0, hb⟩; refine ⟨_, rfl, ?_⟩; have n0_ := Aside0.mk (Kd.R_below (by (with_reducible repeat (first | apply Kd.R_alloc | apply Kd.R_drewN | apply Kd.R_drew)); exact HO_3.out) hb); have n1_ := Aside0.mk (Kd.R_below (by (with_reducible repeat (first | apply Kd.R_alloc | apply Kd.R_drewN | apply Kd.R_drew)); exact HO_4.out) hb); have n2_ := Aside0.mk (Kd.N_lower (Kd.N_mono (ok' := fun k_ => some k_ ≠ (.slice Ao35 t787.length co35 : Value).ownBlock ∧ k_ ≠ gb783) ho0 (fun k_ hk_ => ⟨Or.elim hk_ (fun hs_ => Or.elim hs_ (fun hs_ => fun e_ => Nat.not_le.2 hs_ (Kd.R_base HO_3.out k_ e_.symm)) (fun hs_ => ((Kd.R_types (Kd.R_apart' (HO_4.out) (Kd.R_typed HO_3.out) (by decide)) BK783.out (by decide)).1 k_ hs_.symm).1.2)) (fun hn_ => (Kd.fresh' (Kd.R_lt (by (with_reducible repeat (first | apply Kd.R_alloc | apply Kd.R_drewN | apply Kd.R_drew)); exact HO_3.out)) k_ hn_)), Or.elim hk_ (fun hs_ => Or.elim hs_ (fun hs_ => fun e_ => Nat.not_le.2 hs_ (by rw [e_]; exact GW783.out)) (fun hs_ => ((Kd.R_types (Kd.R_apart' (HO_4.out) (Kd.R_typed HO_3.out) (by decide)) BK783.out (by decide)).1 k_ hs_.symm).2)) (fun hn_ => (Kd.freshB (g := gb783) (o := .cells #[.int .u8 a0_0, .int .i64 a0_1, .int .i64 a0_2, .int .i64 a0_3, .int .i64 a0_4, .int .i64 a0_5, .slice A0_6 l0_6.length c0_6] 26 (0, 0)) (by (with_reducible repeat (first | refine blk_drewN ?_ _ | refine blk_drew ?_ | refine blk_alloc ?_ _)); exact BK783.out) k_ hn_))⟩)) (below_size (by repeat (first | (with_reducible first | exact HB.out | apply below_alloc | apply pw_below_drewN | apply below_drew1 | refine below_set ?_ GE783.out) | exact HB.out)))); have n3_ := Aside0.mk (blk_below (g := gb783) (o := .cells #[.int .u8 a0_0, .int .i64 a0_1, .int .i64 a0_2, .int .i64 a0_3, .int .i64 a0_4, .int .i64 a0_5, .slice A0_6 l0_6.length c0_6] 26 (0, 0)) (by (with_reducible repeat (first | refine blk_drewN ?_ _ | refine blk_drew ?_ | refine blk_alloc ?_ _)); exact BK783.out) hb); have n4_ := Aside0.mk (below_step (by repeat (first | (with_reducible first | exact HB.out | apply below_alloc | apply pw_below_drewN | apply below_drew1 | refine below_set ?_ GE783.out) | exact HB.out)) hb); clear HO_3; clear HO_4; clear BK783; clear HB; have HO_3 := n0_; have HO_4 := n1_; have HO804 := n2_; have BK783 := n3_; have HB := n4_; clear n0_ n1_ n2_ n3_ n4_; (try clear hb); (try clear hb2); (try clear hk); (try clear hi); (try clear ho0)) | ((with_reducible refine gate_dst (N := 6) rfl ?_); (try (refine gate_guard (by rfl) ?_; dsimp only)); refine box_event ?hg (N := 6) ?hd (cs := #[.int .u8 0, .int .i64 0, .int .i64 0, .int .i64 0, .int .i64 0, .int .i64 0, .slice none 0 0]) (t := 26) ?hr ?_; (case hd => rfl); (case hg => rfl); (case hr => first | (go_simp; done) | (go_simp; rfl)); intro gb806 hg w39 hbox hb; have n0_ := Aside0.mk (Kd.R_below (by (with_reducible repeat (first | apply Kd.R_alloc | apply Kd.R_drewN | apply Kd.R_drew)); exact HO_3.out) hb); have n1_ := Aside0.mk (Kd.R_below (by (with_reducible repeat (first | apply Kd.R_alloc | apply Kd.R_drewN | apply Kd.R_drew)); exact HO_4.out) hb); have n2_ := Aside0.mk (Kd.N_below (Kd.N_elderB (by (with_reducible repeat (first | apply Kd.N_alloc | apply Kd.N_drewN | apply Kd.N_drew)); exact HO804.out) gb806 (Nat.le_of_eq hg.symm)) hb); have n3_ := Aside0.mk (blk_below (g := gb783) (o := .cells #[.int .u8 a0_0, .int .i64 a0_1, .int .i64 a0_2, .int .i64 a0_3, .int .i64 a0_4, .int .i64 a0_5, .slice A0_6 l0_6.length c0_6] 26 (0, 0)) (by (with_reducible repeat (first | refine blk_drewN ?_ _ | refine blk_drew ?_ | refine blk_alloc ?_ _)); exact BK783.out) hb); have n4_ := Aside0.mk (below_step (by repeat (first | (with_reducible first | exact HB.out | apply below_alloc | apply pw_below_drewN | apply below_drew1 | refine below_set ?_ GE783.out) | exact HB.out)) hb); have n5_ := Aside0.mk (hbox); have n6_ := Aside0.mk ((by rw [hg]; exact (below_size (by repeat (first | (with_reducible first | exact HB.out | apply below_alloc | apply pw_below_drewN | apply below_drew1 | refine below_set ?_ GE783.out) | exact HB.out))) : w.heap.size ≤ gb806)); have n7_ := Aside0.mk ((by rw [hg]; exact (below_size (by repeat (first | (with_reducible first | exact HB.out | apply below_alloc | apply pw_below_drewN | apply below_drew1 | refine below_set ?_ GE783.out) | exact HB.out))) : w.heap.size ≤ gb806)); have n8_ := Aside0.mk ((by rw [hg]; exact Nat.ne_of_lt (blk_lt (g := gb783) (o := .cells #[.int .u8 a0_0, .int .i64 a0_1, .int .i64 a0_2, .int .i64 a0_3, .int .i64 a0_4, .int .i64 a0_5, .slice A0_6 l0_6.length c0_6] 26 (0, 0)) (by (with_reducible repeat (first | refine blk_drewN ?_ _ | refine blk_drew ?_ | refine blk_alloc ?_ _)); exact BK783.out)) : gb783 ≠ gb806)); have n9_ := Aside0.mk ((by rw [hg]; exact Nat.ne_of_gt (blk_lt (g := gb783) (o := .cells #[.int .u8 a0_0, .int .i64 a0_1, .int .i64 a0_2, .int .i64 a0_3, .int .i64 a0_4, .int .i64 a0_5, .slice A0_6 l0_6.length c0_6] 26 (0, 0)) (by (with_reducible repeat (first | refine blk_drewN ?_ _ | refine blk_drew ?_ | refine blk_alloc ?_ _)); exact BK783.out)) : gb806 ≠ gb783)); clear HO_3; clear HO_4; clear HO804; clear BK783; clear HB; have HO_3 := n0_; have HO_4 := n1_; have HO804 := n2_; have BK783 := n3_; have HB := n4_; have BK806 := n5_; have GW806 := n6_; have GE806 := n7_; have NB783_806 := n8_; have NB806_783 := n9_; clear n0_ n1_ n2_ n3_ n4_ n5_ n6_ n7_ n8_ n9_; clear hb hbox hg; have hnb40 := NB806_783.out; have hnc40 := NB783_806.out; have hcz41_0 : w39.cell? ⟨gb806, 0, none⟩ = some (.int .u8 0) := (blk_cell BK806.out 0).trans rfl; have hcz41_1 : w39.cell? ⟨gb806, 1, none⟩ = some (.int .i64 0) := (blk_cell BK806.out 1).trans rfl; have hcz41_2 : w39.cell? ⟨gb806, 2, none⟩ = some (.int .i64 0) := (blk_cell BK806.out 2).trans rfl; have hcz41_3 : w39.cell? ⟨gb806, 3, none⟩ = some (.int .i64 0) := (blk_cell BK806.out 3).trans rfl; have hcz41_4 : w39.cell? ⟨gb806, 4, none⟩ = some (.int .i64 0) := (blk_cell BK806.out 4).trans rfl; have hcz41_5 : w39.cell? ⟨gb806, 5, none⟩ = some (.int .i64 0) := (blk_cell BK806.out 5).trans rfl; have hcz41_6 : w39.cell? ⟨gb806, 6, none⟩ = some (.slice none 0 0) := (blk_cell BK806.out 6).trans rfl; have hfz41_0 := blk_frozen BK806.out 0; have hfz41_1 := blk_frozen BK806.out 1; have hfz41_2 := blk_frozen BK806.out 2; have hfz41_3 := blk_frozen BK806.out 3; have hfz41_4 := blk_frozen BK806.out 4; have hfz41_5 := blk_frozen BK806.out 5; have hfz41_6 := blk_frozen BK806.out 6; obtain ⟨Ao42, co42, eo42⟩ := Kd.N_slice HO804.out; subst eo42))
                    have n0_ : Aside0 (Kd.R k35 35 (((((((w39.setCell ⟨gb806, 0, none⟩ (.int .u8 t796)).setCell ⟨gb806, 1, none⟩ (.int .i64 t797)).setCell ⟨gb806, 2, none⟩ (.int .i64 t798)).setCell ⟨gb806, 3, none⟩ (.int .i64 t799)).setCell ⟨gb806, 4, none⟩ (.int .i64 t800)).setCell ⟨gb806, 5, none⟩ (.int .i64 t801)).setCell ⟨gb806, 6, none⟩ (.slice Ao42 t802.length co42)) w.heap.size (fun _ => True) (.slice Ao35 t787.length co35) t787) := ⟨by (with_reducible repeat (first | apply Kd.R_alloc | apply Kd.R_drewN | apply Kd.R_drew)); exact Kd.R_mono (Kd.R_far (p := ⟨gb806, 6, none⟩) (Kd.R_far (p := ⟨gb806, 5, none⟩) (Kd.R_far (p := ⟨gb806, 4, none⟩) (Kd.R_far (p := ⟨gb806, 3, none⟩) (Kd.R_far (p := ⟨gb806, 2, none⟩) (Kd.R_far (p := ⟨gb806, 1, none⟩) (Kd.R_far (p := ⟨gb806, 0, none⟩) (Kd.R_types HO_3.out BK806.out (by decide)) (fun _ hk => hk.2) (.int .u8 t796)) (fun _ hk => hk.2) (.int .i64 t797)) (fun _ hk => hk.2) (.int .i64 t798)) (fun _ hk => hk.2) (.int .i64 t799)) (fun _ hk => hk.2) (.int .i64 t800)) (fun _ hk => hk.2) (.int .i64 t801)) (fun _ hk => hk.2) (.slice Ao42 t802.length co42)) (fun _ hk => trivial)⟩
                    have n1_ : Aside0 (Kd.R (Kd.int .i64) 3 (((((((w39.setCell ⟨gb806, 0, none⟩ (.int .u8 t796)).setCell ⟨gb806, 1, none⟩ (.int .i64 t797)).setCell ⟨gb806, 2, none⟩ (.int .i64 t798)).setCell ⟨gb806, 3, none⟩ (.int .i64 t799)).setCell ⟨gb806, 4, none⟩ (.int .i64 t800)).setCell ⟨gb806, 5, none⟩ (.int .i64 t801)).setCell ⟨gb806, 6, none⟩ (.slice Ao42 t802.length co42)) w.heap.size (fun _ => True) (.slice Ao37 x4_2.length co37) x4_2) := ⟨by (with_reducible repeat (first | apply Kd.R_alloc | apply Kd.R_drewN | apply Kd.R_drew)); exact Kd.R_mono (Kd.R_far (p := ⟨gb806, 6, none⟩) (Kd.R_far (p := ⟨gb806, 5, none⟩) (Kd.R_far (p := ⟨gb806, 4, none⟩) (Kd.R_far (p := ⟨gb806, 3, none⟩) (Kd.R_far (p := ⟨gb806, 2, none⟩) (Kd.R_far (p := ⟨gb806, 1, none⟩) (Kd.R_far (p := ⟨gb806, 0, none⟩) (Kd.R_types HO_4.out BK806.out (by decide)) (fun _ hk => hk.2) (.int .u8 t796)) (fun _ hk => hk.2) (.int .i64 t797)) (fun _ hk => hk.2) (.int .i64 t798)) (fun _ hk => hk.2) (.int .i64 t799)) (fun _ hk => hk.2) (.int .i64 t800)) (fun _ hk => hk.2) (.int .i64 t801)) (fun _ hk => hk.2) (.slice Ao42 t802.length co42)) (fun _ hk => trivial)⟩
                    have n2_ : Aside0 (Kd.N k26 26 (((((((w39.setCell ⟨gb806, 0, none⟩ (.int .u8 t796)).setCell ⟨gb806, 1, none⟩ (.int .i64 t797)).setCell ⟨gb806, 2, none⟩ (.int .i64 t798)).setCell ⟨gb806, 3, none⟩ (.int .i64 t799)).setCell ⟨gb806, 4, none⟩ (.int .i64 t800)).setCell ⟨gb806, 5, none⟩ (.int .i64 t801)).setCell ⟨gb806, 6, none⟩ (.slice Ao42 t802.length co42)) w.heap.size (fun k_ => some k_ ≠ (.slice Ao35 t787.length co35 : Value).ownBlock ∧ k_ ≠ gb783 ∧ k_ ≠ gb806) (.slice Ao42 t802.length co42) t802) := ⟨by (with_reducible repeat (first | apply Kd.N_alloc | apply Kd.N_drewN | apply Kd.N_drew)); exact Kd.N_mono (Kd.N_far (p := ⟨gb806, 6, none⟩) (Kd.N_far (p := ⟨gb806, 5, none⟩) (Kd.N_far (p := ⟨gb806, 4, none⟩) (Kd.N_far (p := ⟨gb806, 3, none⟩) (Kd.N_far (p := ⟨gb806, 2, none⟩) (Kd.N_far (p := ⟨gb806, 1, none⟩) (Kd.N_far (p := ⟨gb806, 0, none⟩) (Kd.N_mono HO804.out (fun k_ hk => (⟨hk, hk.2⟩ : _ ∧ k_ ≠ gb806))) (fun _ hk => hk.2) (.int .u8 t796)) (fun _ hk => hk.2) (.int .i64 t797)) (fun _ hk => hk.2) (.int .i64 t798)) (fun _ hk => hk.2) (.int .i64 t799)) (fun _ hk => hk.2) (.int .i64 t800)) (fun _ hk => hk.2) (.int .i64 t801)) (fun _ hk => hk.2) (.slice Ao42 t802.length co42)) (fun _ hk => ⟨hk.1.1.1, ⟨hk.1.1.2, hk.1.2⟩⟩)⟩
                    have n3_ : Aside0 ((((((((w39.setCell ⟨gb806, 0, none⟩ (.int .u8 t796)).setCell ⟨gb806, 1, none⟩ (.int .i64 t797)).setCell ⟨gb806, 2, none⟩ (.int .i64 t798)).setCell ⟨gb806, 3, none⟩ (.int .i64 t799)).setCell ⟨gb806, 4, none⟩ (.int .i64 t800)).setCell ⟨gb806, 5, none⟩ (.int .i64 t801)).setCell ⟨gb806, 6, none⟩ (.slice Ao42 t802.length co42)).heap[gb783]? = some (.cells #[.int .u8 a0_0, .int .i64 a0_1, .int .i64 a0_2, .int .i64 a0_3, .int .i64 a0_4, .int .i64 a0_5, .slice A0_6 l0_6.length c0_6] 26 (0, 0))) := ⟨by (with_reducible repeat (first | refine blk_drewN ?_ _ | refine blk_drew ?_ | refine blk_alloc ?_ _)); refine blk_far ?_ NB783_806.out _; (with_reducible repeat (first | refine blk_drewN ?_ _ | refine blk_drew ?_ | refine blk_alloc ?_ _)); refine blk_far ?_ NB783_806.out _; (with_reducible repeat (first | refine blk_drewN ?_ _ | refine blk_drew ?_ | refine blk_alloc ?_ _)); refine blk_far ?_ NB783_806.out _; (with_reducible repeat (first | refine blk_drewN ?_ _ | refine blk_drew ?_ | refine blk_alloc ?_ _)); refine blk_far ?_ NB783_806.out _; (with_reducible repeat (first | refine blk_drewN ?_ _ | refine blk_drew ?_ | refine blk_alloc ?_ _)); refine blk_far ?_ NB783_806.out _; (with_reducible repeat (first | refine blk_drewN ?_ _ | refine blk_drew ?_ | refine blk_alloc ?_ _)); refine blk_far ?_ NB783_806.out _; (with_reducible repeat (first | refine blk_drewN ?_ _ | refine blk_drew ?_ | refine blk_alloc ?_ _)); refine blk_far ?_ NB783_806.out _; (with_reducible repeat (first | refine blk_drewN ?_ _ | refine blk_drew ?_ | refine blk_alloc ?_ _)); exact BK783.out⟩
                    have n4_ : Aside0 ((((((((w39.setCell ⟨gb806, 0, none⟩ (.int .u8 t796)).setCell ⟨gb806, 1, none⟩ (.int .i64 t797)).setCell ⟨gb806, 2, none⟩ (.int .i64 t798)).setCell ⟨gb806, 3, none⟩ (.int .i64 t799)).setCell ⟨gb806, 4, none⟩ (.int .i64 t800)).setCell ⟨gb806, 5, none⟩ (.int .i64 t801)).setCell ⟨gb806, 6, none⟩ (.slice Ao42 t802.length co42)).heap[gb806]? = some (.cells #[.int .u8 t796, .int .i64 t797, .int .i64 t798, .int .i64 t799, .int .i64 t800, .int .i64 t801, .slice Ao42 t802.length co42] 26 (0, 0))) := ⟨by (with_reducible repeat (first | refine blk_drewN ?_ _ | refine blk_drew ?_ | refine blk_alloc ?_ _)); refine blk_put (cs := #[.int .u8 t796, .int .i64 t797, .int .i64 t798, .int .i64 t799, .int .i64 t800, .int .i64 t801, .slice none 0 0]) ?_ 6 _ rfl; (with_reducible repeat (first | refine blk_drewN ?_ _ | refine blk_drew ?_ | refine blk_alloc ?_ _)); refine blk_put (cs := #[.int .u8 t796, .int .i64 t797, .int .i64 t798, .int .i64 t799, .int .i64 t800, .int .i64 0, .slice none 0 0]) ?_ 5 _ rfl; (with_reducible repeat (first | refine blk_drewN ?_ _ | refine blk_drew ?_ | refine blk_alloc ?_ _)); refine blk_put (cs := #[.int .u8 t796, .int .i64 t797, .int .i64 t798, .int .i64 t799, .int .i64 0, .int .i64 0, .slice none 0 0]) ?_ 4 _ rfl; (with_reducible repeat (first | refine blk_drewN ?_ _ | refine blk_drew ?_ | refine blk_alloc ?_ _)); refine blk_put (cs := #[.int .u8 t796, .int .i64 t797, .int .i64 t798, .int .i64 0, .int .i64 0, .int .i64 0, .slice none 0 0]) ?_ 3 _ rfl; (with_reducible repeat (first | refine blk_drewN ?_ _ | refine blk_drew ?_ | refine blk_alloc ?_ _)); refine blk_put (cs := #[.int .u8 t796, .int .i64 t797, .int .i64 0, .int .i64 0, .int .i64 0, .int .i64 0, .slice none 0 0]) ?_ 2 _ rfl; (with_reducible repeat (first | refine blk_drewN ?_ _ | refine blk_drew ?_ | refine blk_alloc ?_ _)); refine blk_put (cs := #[.int .u8 t796, .int .i64 0, .int .i64 0, .int .i64 0, .int .i64 0, .int .i64 0, .slice none 0 0]) ?_ 1 _ rfl; (with_reducible repeat (first | refine blk_drewN ?_ _ | refine blk_drew ?_ | refine blk_alloc ?_ _)); refine blk_put (cs := #[.int .u8 0, .int .i64 0, .int .i64 0, .int .i64 0, .int .i64 0, .int .i64 0, .slice none 0 0]) ?_ 0 _ rfl; (with_reducible repeat (first | refine blk_drewN ?_ _ | refine blk_drew ?_ | refine blk_alloc ?_ _)); exact BK806.out⟩
                    have n5_ : Aside0 (Below w.heap.size w (((((((w39.setCell ⟨gb806, 0, none⟩ (.int .u8 t796)).setCell ⟨gb806, 1, none⟩ (.int .i64 t797)).setCell ⟨gb806, 2, none⟩ (.int .i64 t798)).setCell ⟨gb806, 3, none⟩ (.int .i64 t799)).setCell ⟨gb806, 4, none⟩ (.int .i64 t800)).setCell ⟨gb806, 5, none⟩ (.int .i64 t801)).setCell ⟨gb806, 6, none⟩ (.slice Ao42 t802.length co42))) := ⟨by repeat (first | (with_reducible first | exact HB.out | apply below_alloc | apply pw_below_drewN | apply below_drew1 | refine below_set ?_ GE783.out | refine below_set ?_ GE806.out) | exact HB.out)⟩
                    (try clear HO_3)
                    (try clear HO_4)
                    (try clear HO804)
                    (try clear BK783)
                    (try clear BK806)
                    (try clear HB)
                    generalize (((((((w39.setCell ⟨gb806, 0, none⟩ (.int .u8 t796)).setCell ⟨gb806, 1, none⟩ (.int .i64 t797)).setCell ⟨gb806, 2, none⟩ (.int .i64 t798)).setCell ⟨gb806, 3, none⟩ (.int .i64 t799)).setCell ⟨gb806, 4, none⟩ (.int .i64 t800)).setCell ⟨gb806, 5, none⟩ (.int .i64 t801)).setCell ⟨gb806, 6, none⟩ (.slice Ao42 t802.length co42)) = w43 at n0_ n1_ n2_ n3_ n4_ n5_ ⊢
                    have HO_3 := n0_
                    have HO_4 := n1_
                    have HO804 := n2_
                    have BK783 := n3_
                    have BK806 := n4_
                    have HB := n5_
                    clear n0_ n1_ n2_ n3_ n4_ n5_
                    have n0_ := Aside0.mk (Kd.R_drew HO_3.out)
                    have n1_ := Aside0.mk (Kd.R_drew HO_4.out)
                    have n2_ := Aside0.mk (Kd.N_drew HO804.out)
                    have n3_ := Aside0.mk (blk_drew BK783.out)
                    have n4_ := Aside0.mk (blk_drew BK806.out)
                    have n5_ := Aside0.mk (below_drew1 HB.out)
                    clear HO_3
                    clear HO_4
                    clear HO804
                    clear BK783
                    clear BK806
                    clear HB
                    have HO_3 := n0_
                    have HO_4 := n1_
                    have HO804 := n2_
                    have BK783 := n3_
                    have BK806 := n4_
                    have HB := n5_
                    clear n0_ n1_ n2_ n3_ n4_ n5_
                    refine start_ (n := 21) (S := fun w' => w'.cell? ⟨gb806, 0, none⟩ = some (.int .u8 t796) ∧ w'.cell? ⟨gb806, 1, none⟩ = some (.int .i64 t797) ∧ w'.cell? ⟨gb806, 2, none⟩ = some (.int .i64 t798) ∧ w'.cell? ⟨gb806, 3, none⟩ = some (.int .i64 t799) ∧ w'.cell? ⟨gb806, 4, none⟩ = some (.int .i64 t800) ∧ w'.cell? ⟨gb806, 5, none⟩ = some (.int .i64 t801) ∧ w'.cell? ⟨gb806, 6, none⟩ = some (.slice Ao42 t802.length co42)) (ds := []) #[false, false, false, false, false, false, false, false, false, false, false, false, false, false, false, false, false, false, false, false, false] (by kernel_rfl) rfl rfl ⟨(blk_cell BK806.out 0).trans rfl, (blk_cell BK806.out 1).trans rfl, (blk_cell BK806.out 2).trans rfl, (blk_cell BK806.out 3).trans rfl, (blk_cell BK806.out 4).trans rfl, (blk_cell BK806.out 5).trans rfl, (blk_cell BK806.out 6).trans rfl⟩ (fun hHeld => ?_); refine with_tabW sashlaw07_FlatStill.tab10 sashlaw07_FlatStill.bits10 (fun HT_ HW_ => ?_)
                    generalize w43.drew = w44 at HO_3 HO_4 HO804 BK783 BK806 HB hHeld ⊢
                    refine pure_ (i := 0) (N := some 36) (v := ?_) (a' := ?_) #[true, false, false, false, false, false, false, false, false, false, false, false, false, false, false, false, false, false, false, false, false] rfl rfl (any_of HT_.out (by kernel_rfl)) (fun _ _ _ h => h) (Or.inl ⟨by rfl, ?_⟩) ?_ ?_
                    rotate_left
                    · intro w'
                      go_simp
                      with_reducible rfl
                    rotate_left
                    · simp only [Act.put, List.setIfInBounds_toArray, List.set_cons_zero, List.set_cons_succ, i64_w, i32_w]
                      rfl
                    refine pure_ (i := 1) (N := some 37) (v := ?_) (a' := ?_) #[true, true, false, false, false, false, false, false, false, false, false, false, false, false, false, false, false, false, false, false, false] rfl rfl (any_of HT_.out (by kernel_rfl)) (fun _ _ _ h => h) (Or.inl ⟨by rfl, ?_⟩) ?_ ?_
                    rotate_left
                    · intro w'
                      go_simp
                      with_reducible rfl
                    rotate_left
                    · simp only [Act.put, List.setIfInBounds_toArray, List.set_cons_zero, List.set_cons_succ, i64_w, i32_w]
                      rfl
                    refine pure_ (i := 2) (N := some 38) (v := ?_) (a' := ?_) #[true, true, true, false, false, false, false, false, false, false, false, false, false, false, false, false, false, false, false, false, false] rfl rfl (any_of HT_.out (by kernel_rfl)) (fun _ _ _ h => h) (Or.inl ⟨by rfl, ?_⟩) ?_ ?_
                    rotate_left
                    · intro w'
                      go_simp
                      with_reducible rfl
                    rotate_left
                    · simp only [Act.put, List.setIfInBounds_toArray, List.set_cons_zero, List.set_cons_succ, i64_w, i32_w]
                      rfl
                    refine pure_ (i := 3) (N := some 39) (v := ?_) (a' := ?_) #[true, true, true, true, false, false, false, false, false, false, false, false, false, false, false, false, false, false, false, false, false] rfl rfl (any_of HT_.out (by kernel_rfl)) (fun _ _ _ h => h) (Or.inl ⟨by rfl, ?_⟩) ?_ ?_
                    rotate_left
                    · intro w'
                      go_simp
                      with_reducible rfl
                    rotate_left
                    · simp only [Act.put, List.setIfInBounds_toArray, List.set_cons_zero, List.set_cons_succ, i64_w, i32_w]
                      rfl
                    refine one_ (i := 4) (N := some 40) #[true, true, true, true, true, false, false, false, false, false, false, false, false, false, false, false, false, false, false, false, false] rfl rfl (one_of HT_.out (by kernel_rfl)) (by decide) (fun K hK => ?_)
                    refine goes_ Try.func55 (by kernel_rfl) rfl #[.slice Ao35 t787.length co35, .slice Ao35 t787.length co35] (by rfl) rfl rfl (by (try simp only [List.map_toArray, List.map_cons, List.map_nil]); first | done | rfl | (simp only [List.length_drop, List.length_take]; rfl)) ?_
                    with_reducible refine (flat_Changed.calls _ _ t787 _ _ t787 t807 _ ?side1 ?side2 ?side3 ?side4 A27.out).mono ?_
                    (case side1 => repeat (first | exact (Kd.R_reads' HO_3.out).2.2 | (with_reducible refine Kd.C_alloc ?_ _) | (with_reducible refine Kd.C_drewN ?_ _) | (with_reducible refine Kd.C_drew ?_)))
                    (case side2 => exact (Kd.R_reads' HO_3.out).2.1)
                    (case side3 => repeat (first | exact (Kd.R_reads' HO_3.out).2.2 | (with_reducible refine Kd.C_alloc ?_ _) | (with_reducible refine Kd.C_drewN ?_ _) | (with_reducible refine Kd.C_drew ?_)))
                    (case side4 => exact (Kd.R_reads' HO_3.out).2.1)
                    rintro e w45 ⟨v808, rfl, ho0, hb⟩
                    refine ⟨_, rfl, ?_⟩
                    have n0_ := Aside0.mk (Kd.R_elder' (by (with_reducible repeat (first | apply Kd.R_alloc | apply Kd.R_drewN | apply Kd.R_drew)); exact HO_3.out) (Kd.R_base ho0) hb)
                    have n1_ := Aside0.mk (Kd.R_below (by (with_reducible repeat (first | apply Kd.R_alloc | apply Kd.R_drewN | apply Kd.R_drew)); exact HO_4.out) hb)
                    have n2_ := Aside0.mk (Kd.N_elder' (by (with_reducible repeat (first | apply Kd.N_alloc | apply Kd.N_drewN | apply Kd.N_drew)); exact HO804.out) (Kd.R_base ho0) hb)
                    have n3_ := Aside0.mk (Kd.R_lower (Kd.R_new' ho0 (Kd.R_lt (by (with_reducible repeat (first | apply Kd.R_alloc | apply Kd.R_drewN | apply Kd.R_drew)); exact HO_3.out))) (below_size (by repeat (first | (with_reducible first | exact HB.out | apply below_alloc | apply pw_below_drewN | apply below_drew1 | refine below_set ?_ GE783.out | refine below_set ?_ GE806.out) | exact HB.out))))
                    have n4_ := Aside0.mk (blk_below (g := gb783) (o := .cells #[.int .u8 a0_0, .int .i64 a0_1, .int .i64 a0_2, .int .i64 a0_3, .int .i64 a0_4, .int .i64 a0_5, .slice A0_6 l0_6.length c0_6] 26 (0, 0)) (by (with_reducible repeat (first | refine blk_drewN ?_ _ | refine blk_drew ?_ | refine blk_alloc ?_ _)); exact BK783.out) hb)
                    have n5_ := Aside0.mk (blk_below (g := gb806) (o := .cells #[.int .u8 t796, .int .i64 t797, .int .i64 t798, .int .i64 t799, .int .i64 t800, .int .i64 t801, .slice Ao42 t802.length co42] 26 (0, 0)) (by (with_reducible repeat (first | refine blk_drewN ?_ _ | refine blk_drew ?_ | refine blk_alloc ?_ _)); exact BK806.out) hb)
                    have n6_ := Aside0.mk (below_step (by repeat (first | (with_reducible first | exact HB.out | apply below_alloc | apply pw_below_drewN | apply below_drew1 | refine below_set ?_ GE783.out | refine below_set ?_ GE806.out) | exact HB.out)) hb)
                    clear HO_3
                    clear HO_4
                    clear HO804
                    clear BK783
                    clear BK806
                    clear HB
                    have HO_3 := n0_
                    have HO_4 := n1_
                    have HO804 := n2_
                    have HO809 := n3_
                    have BK783 := n4_
                    have BK806 := n5_
                    have HB := n6_
                    clear n0_ n1_ n2_ n3_ n4_ n5_ n6_
                    (try clear hb)
                    (try clear hb2)
                    (try clear hk)
                    (try clear hi)
                    (try clear ho0)
                    obtain ⟨Ao46, co46, eo46⟩ := Kd.R_slice HO809.out
                    (first | subst eo46 | (injection eo46 with f1_ f2_ f3_; have f4_ := f1_.symm; have f5_ := f3_.symm; clear f1_ f2_ f3_; subst f4_; subst f5_))
                    refine hK.out _ _ ⟨(blk_cell BK806.out 0).trans rfl, (blk_cell BK806.out 1).trans rfl, (blk_cell BK806.out 2).trans rfl, (blk_cell BK806.out 3).trans rfl, (blk_cell BK806.out 4).trans rfl, (blk_cell BK806.out 5).trans rfl, (blk_cell BK806.out 6).trans rfl⟩ (fun hHeld => ?_)
                    clear hK K
                    refine norm_ (a' := ?_) ?_ ?_
                    rotate_left
                    · show Act.put _ (some 40) _ = _
                      simp only [Act.put, List.setIfInBounds_toArray, List.set_cons_zero, List.set_cons_succ, i64_w, i32_w]
                      rfl
                    refine pure_ (i := 5) (N := some 41) (v := ?_) (a' := ?_) #[true, true, true, true, true, true, false, false, false, false, false, false, false, false, false, false, false, false, false, false, false] rfl rfl (any_of HT_.out (by kernel_rfl)) (fun _ _ _ h => h) (Or.inl ⟨by rfl, ?_⟩) ?_ ?_
                    rotate_left
                    · intro w'
                      go_simp
                      with_reducible rfl
                    rotate_left
                    · simp only [Act.put, List.setIfInBounds_toArray, List.set_cons_zero, List.set_cons_succ, i64_w, i32_w]
                      rfl
                    refine pure_ (i := 6) (N := some 42) (v := ?_) (a' := ?_) #[true, true, true, true, true, true, true, false, false, false, false, false, false, false, false, false, false, false, false, false, false] rfl rfl (any_of HT_.out (by kernel_rfl)) (fun _ _ _ h => h) (Or.inl ⟨by rfl, ?_⟩) ?_ ?_
                    rotate_left
                    · intro w'
                      go_simp
                      with_reducible rfl
                    rotate_left
                    · simp only [Act.put, List.setIfInBounds_toArray, List.set_cons_zero, List.set_cons_succ, i64_w, i32_w]
                      rfl
                    refine pure_ (i := 7) (N := some 43) (v := ?_) (a' := ?_) #[true, true, true, true, true, true, true, true, false, false, false, false, false, false, false, false, false, false, false, false, false] rfl rfl (any_of HT_.out (by kernel_rfl)) (fun _ _ _ h => h) (Or.inl ⟨by rfl, ?_⟩) ?_ ?_
                    rotate_left
                    · intro w'
                      go_simp
                      with_reducible rfl
                    rotate_left
                    · simp only [Act.put, List.setIfInBounds_toArray, List.set_cons_zero, List.set_cons_succ, i64_w, i32_w]
                      rfl
                    refine pure_ (i := 8) (N := some 44) (v := ?_) (a' := ?_) #[true, true, true, true, true, true, true, true, true, false, false, false, false, false, false, false, false, false, false, false, false] rfl rfl (any_of HT_.out (by kernel_rfl)) (fun _ _ _ h => h) (Or.inl ⟨by rfl, ?_⟩) ?_ ?_
                    rotate_left
                    · intro w'
                      go_simp
                      with_reducible rfl
                    rotate_left
                    · simp only [Act.put, List.setIfInBounds_toArray, List.set_cons_zero, List.set_cons_succ, i64_w, i32_w]
                      rfl
                    refine pure_ (i := 9) (N := some 45) (v := ?_) (a' := ?_) #[true, true, true, true, true, true, true, true, true, true, false, false, false, false, false, false, false, false, false, false, false] rfl rfl (any_of HT_.out (by kernel_rfl)) (fun _ _ _ h => h) (Or.inl ⟨by rfl, ?_⟩) ?_ ?_
                    rotate_left
                    · intro w'
                      go_simp
                      with_reducible rfl
                    rotate_left
                    · simp only [Act.put, List.setIfInBounds_toArray, List.set_cons_zero, List.set_cons_succ, i64_w, i32_w]
                      rfl
                    refine take_ (i := 10) (N := some 46) (v := ?_) (a' := ?_) #[true, true, true, true, true, true, true, true, true, true, true, false, false, false, false, false, false, false, false, false, false] rfl rfl (take_ofW HT_.out HW_.out (by kernel_rfl)) (fun _ _ _ h => h) (Or.inl ⟨by rfl, ?_⟩) hHeld ?_ ?_
                    rotate_left
                    · rintro w' ⟨s0, s1, s2, s3, s4, s5, s6⟩
                      go_simp
                      with_reducible rfl
                    rotate_left
                    · simp only [Act.put, List.setIfInBounds_toArray, List.set_cons_zero, List.set_cons_succ, i64_w, i32_w]
                      rfl
                    refine take_ (i := 13) (N := some 49) (v := ?_) (a' := ?_) #[true, true, true, true, true, true, true, true, true, true, true, false, false, true, false, false, false, false, false, false, false] rfl rfl (take_ofW HT_.out HW_.out (by kernel_rfl)) (fun _ _ _ h => h) (Or.inl ⟨by rfl, ?_⟩) hHeld ?_ ?_
                    rotate_left
                    · rintro w' ⟨s0, s1, s2, s3, s4, s5, s6⟩
                      go_simp
                      with_reducible rfl
                    rotate_left
                    · simp only [Act.put, List.setIfInBounds_toArray, List.set_cons_zero, List.set_cons_succ, i64_w, i32_w]
                      rfl
                    refine one_ (i := 11) (N := some 47) #[true, true, true, true, true, true, true, true, true, true, true, true, false, true, false, false, false, false, false, false, false] rfl rfl (one_of HT_.out (by kernel_rfl)) (by decide) (fun K hK => ?_)
                    refine goes_ Try.func43 (by kernel_rfl) rfl #[.agg #[.int .u8 t796, .int .i64 t797, .int .i64 t798, .int .i64 t799, .int .i64 t800, .int .i64 t801, .slice Ao42 t802.length co42]] (by rfl) rfl rfl (by (try simp only [List.map_toArray, List.map_cons, List.map_nil]); first | done | rfl | (simp only [List.length_drop, List.length_take]; rfl)) ?_
                    with_reducible refine (flat_List.calls k2 t796 t797 t798 t799 t800 t801 _ _ t802 t810 _ ?side1 ?side2 A29.out).mono ?_
                    (case side1 => repeat (first | exact (Kd.N_reads' HO804.out).2.2 | (with_reducible refine Kd.C_alloc ?_ _) | (with_reducible refine Kd.C_drewN ?_ _) | (with_reducible refine Kd.C_drew ?_)))
                    (case side2 => exact (Kd.N_reads' HO804.out).2.1)
                    rintro e w47 ⟨v811, rfl, ho0, hb⟩
                    refine ⟨_, rfl, ?_⟩
                    have n0_ := Aside0.mk (Kd.R_elder' (by (with_reducible repeat (first | apply Kd.R_alloc | apply Kd.R_drewN | apply Kd.R_drew)); exact HO_3.out) (Kd.R_base ho0) hb)
                    have n1_ := Aside0.mk (Kd.R_below (by (with_reducible repeat (first | apply Kd.R_alloc | apply Kd.R_drewN | apply Kd.R_drew)); exact HO_4.out) hb)
                    have n2_ := Aside0.mk (Kd.N_elder' (by (with_reducible repeat (first | apply Kd.N_alloc | apply Kd.N_drewN | apply Kd.N_drew)); exact HO804.out) (Kd.R_base ho0) hb)
                    have n3_ := Aside0.mk (Kd.R_elder' (by (with_reducible repeat (first | apply Kd.R_alloc | apply Kd.R_drewN | apply Kd.R_drew)); exact HO809.out) (Kd.R_base ho0) hb)
                    have n4_ := Aside0.mk (Kd.R_lower (Kd.R_new' (Kd.R_new' ho0 (Kd.R_lt (by (with_reducible repeat (first | apply Kd.R_alloc | apply Kd.R_drewN | apply Kd.R_drew)); exact HO_3.out))) (Kd.R_lt (by (with_reducible repeat (first | apply Kd.R_alloc | apply Kd.R_drewN | apply Kd.R_drew)); exact HO809.out))) (below_size (by repeat (first | (with_reducible first | exact HB.out | apply below_alloc | apply pw_below_drewN | apply below_drew1 | refine below_set ?_ GE783.out | refine below_set ?_ GE806.out) | exact HB.out))))
                    have n5_ := Aside0.mk (blk_below (g := gb783) (o := .cells #[.int .u8 a0_0, .int .i64 a0_1, .int .i64 a0_2, .int .i64 a0_3, .int .i64 a0_4, .int .i64 a0_5, .slice A0_6 l0_6.length c0_6] 26 (0, 0)) (by (with_reducible repeat (first | refine blk_drewN ?_ _ | refine blk_drew ?_ | refine blk_alloc ?_ _)); exact BK783.out) hb)
                    have n6_ := Aside0.mk (blk_below (g := gb806) (o := .cells #[.int .u8 t796, .int .i64 t797, .int .i64 t798, .int .i64 t799, .int .i64 t800, .int .i64 t801, .slice Ao42 t802.length co42] 26 (0, 0)) (by (with_reducible repeat (first | refine blk_drewN ?_ _ | refine blk_drew ?_ | refine blk_alloc ?_ _)); exact BK806.out) hb)
                    have n7_ := Aside0.mk (below_step (by repeat (first | (with_reducible first | exact HB.out | apply below_alloc | apply pw_below_drewN | apply below_drew1 | refine below_set ?_ GE783.out | refine below_set ?_ GE806.out) | exact HB.out)) hb)
                    clear HO_3
                    clear HO_4
                    clear HO804
                    clear HO809
                    clear BK783
                    clear BK806
                    clear HB
                    have HO_3 := n0_
                    have HO_4 := n1_
                    have HO804 := n2_
                    have HO809 := n3_
                    have HO812 := n4_
                    have BK783 := n5_
                    have BK806 := n6_
                    have HB := n7_
                    clear n0_ n1_ n2_ n3_ n4_ n5_ n6_ n7_
                    (try clear hb)
                    (try clear hb2)
                    (try clear hk)
                    (try clear hi)
                    (try clear ho0)
                    obtain ⟨Ao48, co48, eo48⟩ := Kd.R_slice HO812.out
                    (first | subst eo48 | (injection eo48 with f1_ f2_ f3_; have f4_ := f1_.symm; have f5_ := f3_.symm; clear f1_ f2_ f3_; subst f4_; subst f5_))
                    refine hK.out _ _ ⟨(blk_cell BK806.out 0).trans rfl, (blk_cell BK806.out 1).trans rfl, (blk_cell BK806.out 2).trans rfl, (blk_cell BK806.out 3).trans rfl, (blk_cell BK806.out 4).trans rfl, (blk_cell BK806.out 5).trans rfl, (blk_cell BK806.out 6).trans rfl⟩ (fun hHeld => ?_)
                    clear hK K
                    refine norm_ (a' := ?_) ?_ ?_
                    rotate_left
                    · show Act.put _ (some 47) _ = _
                      simp only [Act.put, List.setIfInBounds_toArray, List.set_cons_zero, List.set_cons_succ, i64_w, i32_w]
                      rfl
                    refine one_ (i := 12) (N := some 48) #[true, true, true, true, true, true, true, true, true, true, true, true, true, true, false, false, false, false, false, false, false] rfl rfl (one_of HT_.out (by kernel_rfl)) (by decide) (fun K hK => ?_)
                    refine goes_ Try.func55 (by kernel_rfl) rfl #[.slice Ao35 t787.length co35, .slice Ao48 t810.length co48] (by rfl) rfl rfl (by (try simp only [List.map_toArray, List.map_cons, List.map_nil]); first | done | rfl | (simp only [List.length_drop, List.length_take]; rfl)) ?_
                    with_reducible refine (flat_Changed.calls _ _ t787 _ _ t810 t813 _ ?side1 ?side2 ?side3 ?side4 A30.out).mono ?_
                    (case side1 => repeat (first | exact (Kd.R_reads' HO_3.out).2.2 | (with_reducible refine Kd.C_alloc ?_ _) | (with_reducible refine Kd.C_drewN ?_ _) | (with_reducible refine Kd.C_drew ?_)))
                    (case side2 => exact (Kd.R_reads' HO_3.out).2.1)
                    (case side3 => repeat (first | exact (Kd.R_reads' HO812.out).2.2 | (with_reducible refine Kd.C_alloc ?_ _) | (with_reducible refine Kd.C_drewN ?_ _) | (with_reducible refine Kd.C_drew ?_)))
                    (case side4 => exact (Kd.R_reads' HO812.out).2.1)
                    rintro e w49 ⟨v814, rfl, ho0, hb⟩
                    refine ⟨_, rfl, ?_⟩
                    have n0_ := Aside0.mk (Kd.R_elder' (by (with_reducible repeat (first | apply Kd.R_alloc | apply Kd.R_drewN | apply Kd.R_drew)); exact HO_3.out) (Kd.R_base ho0) hb)
                    have n1_ := Aside0.mk (Kd.R_below (by (with_reducible repeat (first | apply Kd.R_alloc | apply Kd.R_drewN | apply Kd.R_drew)); exact HO_4.out) hb)
                    have n2_ := Aside0.mk (Kd.N_elder' (by (with_reducible repeat (first | apply Kd.N_alloc | apply Kd.N_drewN | apply Kd.N_drew)); exact HO804.out) (Kd.R_base ho0) hb)
                    have n3_ := Aside0.mk (Kd.R_elder' (by (with_reducible repeat (first | apply Kd.R_alloc | apply Kd.R_drewN | apply Kd.R_drew)); exact HO809.out) (Kd.R_base ho0) hb)
                    have n4_ := Aside0.mk (Kd.R_elder' (by (with_reducible repeat (first | apply Kd.R_alloc | apply Kd.R_drewN | apply Kd.R_drew)); exact HO812.out) (Kd.R_base ho0) hb)
                    have n5_ := Aside0.mk (Kd.R_lower (Kd.R_new' (Kd.R_new' (Kd.R_new' ho0 (Kd.R_lt (by (with_reducible repeat (first | apply Kd.R_alloc | apply Kd.R_drewN | apply Kd.R_drew)); exact HO_3.out))) (Kd.R_lt (by (with_reducible repeat (first | apply Kd.R_alloc | apply Kd.R_drewN | apply Kd.R_drew)); exact HO809.out))) (Kd.R_lt (by (with_reducible repeat (first | apply Kd.R_alloc | apply Kd.R_drewN | apply Kd.R_drew)); exact HO812.out))) (below_size (by repeat (first | (with_reducible first | exact HB.out | apply below_alloc | apply pw_below_drewN | apply below_drew1 | refine below_set ?_ GE783.out | refine below_set ?_ GE806.out) | exact HB.out))))
                    have n6_ := Aside0.mk (blk_below (g := gb783) (o := .cells #[.int .u8 a0_0, .int .i64 a0_1, .int .i64 a0_2, .int .i64 a0_3, .int .i64 a0_4, .int .i64 a0_5, .slice A0_6 l0_6.length c0_6] 26 (0, 0)) (by (with_reducible repeat (first | refine blk_drewN ?_ _ | refine blk_drew ?_ | refine blk_alloc ?_ _)); exact BK783.out) hb)
                    have n7_ := Aside0.mk (blk_below (g := gb806) (o := .cells #[.int .u8 t796, .int .i64 t797, .int .i64 t798, .int .i64 t799, .int .i64 t800, .int .i64 t801, .slice Ao42 t802.length co42] 26 (0, 0)) (by (with_reducible repeat (first | refine blk_drewN ?_ _ | refine blk_drew ?_ | refine blk_alloc ?_ _)); exact BK806.out) hb)
                    have n8_ := Aside0.mk (below_step (by repeat (first | (with_reducible first | exact HB.out | apply below_alloc | apply pw_below_drewN | apply below_drew1 | refine below_set ?_ GE783.out | refine below_set ?_ GE806.out) | exact HB.out)) hb)
                    clear HO_3
                    clear HO_4
                    clear HO804
                    clear HO809
                    clear HO812
                    clear BK783
                    clear BK806
                    clear HB
                    have HO_3 := n0_
                    have HO_4 := n1_
                    have HO804 := n2_
                    have HO809 := n3_
                    have HO812 := n4_
                    have HO815 := n5_
                    have BK783 := n6_
                    have BK806 := n7_
                    have HB := n8_
                    clear n0_ n1_ n2_ n3_ n4_ n5_ n6_ n7_ n8_
                    (try clear hb)
                    (try clear hb2)
                    (try clear hk)
                    (try clear hi)
                    (try clear ho0)
                    refine hK.out _ _ ⟨(blk_cell BK806.out 0).trans rfl, (blk_cell BK806.out 1).trans rfl, (blk_cell BK806.out 2).trans rfl, (blk_cell BK806.out 3).trans rfl, (blk_cell BK806.out 4).trans rfl, (blk_cell BK806.out 5).trans rfl, (blk_cell BK806.out 6).trans rfl⟩ (fun hHeld => ?_)
                    clear hK K
                    refine norm_ (a' := ?_) ?_ ?_
                    rotate_left
                    · show Act.put _ (some 48) _ = _
                      simp only [Act.put, List.setIfInBounds_toArray, List.set_cons_zero, List.set_cons_succ, i64_w, i32_w]
                      rfl
                    refine one_ (i := 14) (N := some 50) #[true, true, true, true, true, true, true, true, true, true, true, true, true, true, true, false, false, false, false, false, false] rfl rfl (one_of HT_.out (by kernel_rfl)) (by decide) (fun K hK => ?_)
                    refine goes_ Try.func39 (by kernel_rfl) rfl #[.agg #[.int .u8 t796, .int .i64 t797, .int .i64 t798, .int .i64 t799, .int .i64 t800, .int .i64 t801, .slice Ao42 t802.length co42]] (by rfl) rfl rfl (by (try simp only [List.map_toArray, List.map_cons, List.map_nil]); first | done | rfl | (simp only [List.length_drop, List.length_take]; rfl)) ?_
                    with_reducible refine (sashref07_List.calls k2 t796 t797 t798 t799 t800 t801 _ _ t802 t816 _ ?side1 ?side2 A31.out).mono ?_
                    (case side1 => repeat (first | exact (Kd.N_reads' HO804.out).2.2 | (with_reducible refine Kd.C_alloc ?_ _) | (with_reducible refine Kd.C_drewN ?_ _) | (with_reducible refine Kd.C_drew ?_)))
                    (case side2 => exact (Kd.N_reads' HO804.out).2.1)
                    rintro e w50 ⟨v817, rfl, ho0, hb⟩
                    refine ⟨_, rfl, ?_⟩
                    have n0_ := Aside0.mk (Kd.R_elder' (by (with_reducible repeat (first | apply Kd.R_alloc | apply Kd.R_drewN | apply Kd.R_drew)); exact HO_3.out) (Kd.R_base ho0) hb)
                    have n1_ := Aside0.mk (Kd.R_below (by (with_reducible repeat (first | apply Kd.R_alloc | apply Kd.R_drewN | apply Kd.R_drew)); exact HO_4.out) hb)
                    have n2_ := Aside0.mk (Kd.N_elder' (by (with_reducible repeat (first | apply Kd.N_alloc | apply Kd.N_drewN | apply Kd.N_drew)); exact HO804.out) (Kd.R_base ho0) hb)
                    have n3_ := Aside0.mk (Kd.R_elder' (by (with_reducible repeat (first | apply Kd.R_alloc | apply Kd.R_drewN | apply Kd.R_drew)); exact HO809.out) (Kd.R_base ho0) hb)
                    have n4_ := Aside0.mk (Kd.R_elder' (by (with_reducible repeat (first | apply Kd.R_alloc | apply Kd.R_drewN | apply Kd.R_drew)); exact HO812.out) (Kd.R_base ho0) hb)
                    have n5_ := Aside0.mk (Kd.R_elder' (by (with_reducible repeat (first | apply Kd.R_alloc | apply Kd.R_drewN | apply Kd.R_drew)); exact HO815.out) (Kd.R_base ho0) hb)
                    have n6_ := Aside0.mk (Kd.R_lower (Kd.R_new' (Kd.R_new' (Kd.R_new' (Kd.R_new' ho0 (Kd.R_lt (by (with_reducible repeat (first | apply Kd.R_alloc | apply Kd.R_drewN | apply Kd.R_drew)); exact HO_3.out))) (Kd.R_lt (by (with_reducible repeat (first | apply Kd.R_alloc | apply Kd.R_drewN | apply Kd.R_drew)); exact HO809.out))) (Kd.R_lt (by (with_reducible repeat (first | apply Kd.R_alloc | apply Kd.R_drewN | apply Kd.R_drew)); exact HO812.out))) (Kd.R_lt (by (with_reducible repeat (first | apply Kd.R_alloc | apply Kd.R_drewN | apply Kd.R_drew)); exact HO815.out))) (below_size (by repeat (first | (with_reducible first | exact HB.out | apply below_alloc | apply pw_below_drewN | apply below_drew1 | refine below_set ?_ GE783.out | refine below_set ?_ GE806.out) | exact HB.out))))
                    have n7_ := Aside0.mk (blk_below (g := gb783) (o := .cells #[.int .u8 a0_0, .int .i64 a0_1, .int .i64 a0_2, .int .i64 a0_3, .int .i64 a0_4, .int .i64 a0_5, .slice A0_6 l0_6.length c0_6] 26 (0, 0)) (by (with_reducible repeat (first | refine blk_drewN ?_ _ | refine blk_drew ?_ | refine blk_alloc ?_ _)); exact BK783.out) hb)
                    have n8_ := Aside0.mk (blk_below (g := gb806) (o := .cells #[.int .u8 t796, .int .i64 t797, .int .i64 t798, .int .i64 t799, .int .i64 t800, .int .i64 t801, .slice Ao42 t802.length co42] 26 (0, 0)) (by (with_reducible repeat (first | refine blk_drewN ?_ _ | refine blk_drew ?_ | refine blk_alloc ?_ _)); exact BK806.out) hb)
                    have n9_ := Aside0.mk (below_step (by repeat (first | (with_reducible first | exact HB.out | apply below_alloc | apply pw_below_drewN | apply below_drew1 | refine below_set ?_ GE783.out | refine below_set ?_ GE806.out) | exact HB.out)) hb)
                    clear HO_3
                    clear HO_4
                    clear HO804
                    clear HO809
                    clear HO812
                    clear HO815
                    clear BK783
                    clear BK806
                    clear HB
                    have HO_3 := n0_
                    have HO_4 := n1_
                    have HO804 := n2_
                    have HO809 := n3_
                    have HO812 := n4_
                    have HO815 := n5_
                    have HO818 := n6_
                    have BK783 := n7_
                    have BK806 := n8_
                    have HB := n9_
                    clear n0_ n1_ n2_ n3_ n4_ n5_ n6_ n7_ n8_ n9_
                    (try clear hb)
                    (try clear hb2)
                    (try clear hk)
                    (try clear hi)
                    (try clear ho0)
                    obtain ⟨Ao51, co51, eo51⟩ := Kd.R_slice HO815.out
                    (first | subst eo51 | (injection eo51 with f1_ f2_ f3_; have f4_ := f1_.symm; have f5_ := f3_.symm; clear f1_ f2_ f3_; subst f4_; subst f5_))
                    obtain ⟨Ao52, co52, eo52⟩ := Kd.R_slice HO818.out
                    (first | subst eo52 | (injection eo52 with f1_ f2_ f3_; have f4_ := f1_.symm; have f5_ := f3_.symm; clear f1_ f2_ f3_; subst f4_; subst f5_))
                    refine hK.out _ _ ⟨(blk_cell BK806.out 0).trans rfl, (blk_cell BK806.out 1).trans rfl, (blk_cell BK806.out 2).trans rfl, (blk_cell BK806.out 3).trans rfl, (blk_cell BK806.out 4).trans rfl, (blk_cell BK806.out 5).trans rfl, (blk_cell BK806.out 6).trans rfl⟩ (fun hHeld => ?_)
                    clear hK K
                    refine norm_ (a' := ?_) ?_ ?_
                    rotate_left
                    · show Act.put _ (some 50) _ = _
                      simp only [Act.put, List.setIfInBounds_toArray, List.set_cons_zero, List.set_cons_succ, i64_w, i32_w]
                      rfl
                    refine one_ (i := 15) (N := some 51) #[true, true, true, true, true, true, true, true, true, true, true, true, true, true, true, true, false, false, false, false, false] rfl rfl (one_of HT_.out (by kernel_rfl)) (by decide) (fun K hK => ?_)
                    refine goes_ Try.func42 (by kernel_rfl) rfl #[.slice Ao51 t813.length co51, .slice Ao52 t816.length co52] (by rfl) rfl rfl (by (try simp only [List.map_toArray, List.map_cons, List.map_nil]); first | done | rfl | (simp only [List.length_drop, List.length_take]; rfl)) ?_
                    with_reducible refine (sashref07_Same.calls k2 _ _ t813 _ _ t816 true _ ?side1 ?side2 ?side3 ?side4 A32.out).mono ?_
                    (case side1 => repeat (first | exact (Kd.R_reads' HO815.out).2.2 | (with_reducible refine Kd.C_alloc ?_ _) | (with_reducible refine Kd.C_drewN ?_ _) | (with_reducible refine Kd.C_drew ?_)))
                    (case side2 => exact (Kd.R_reads' HO815.out).2.1)
                    (case side3 => repeat (first | exact (Kd.R_reads' HO818.out).2.2 | (with_reducible refine Kd.C_alloc ?_ _) | (with_reducible refine Kd.C_drewN ?_ _) | (with_reducible refine Kd.C_drew ?_)))
                    (case side4 => exact (Kd.R_reads' HO818.out).2.1)
                    rintro e w' ⟨rfl, ⟨nd, rfl⟩⟩
                    refine ⟨_, rfl, ?_⟩
                    refine hK.out _ _ ⟨(blk_cell BK806.out 0).trans rfl, (blk_cell BK806.out 1).trans rfl, (blk_cell BK806.out 2).trans rfl, (blk_cell BK806.out 3).trans rfl, (blk_cell BK806.out 4).trans rfl, (blk_cell BK806.out 5).trans rfl, (blk_cell BK806.out 6).trans rfl⟩ (fun hHeld => ?_)
                    clear hK K
                    refine norm_ (a' := ?_) ?_ ?_
                    rotate_left
                    · show Act.put _ (some 51) _ = _
                      simp only [Act.put, List.setIfInBounds_toArray, List.set_cons_zero, List.set_cons_succ, i64_w, i32_w]
                      rfl
                    refine pure_ (i := 16) (N := some 52) (v := ?_) (a' := ?_) #[true, true, true, true, true, true, true, true, true, true, true, true, true, true, true, true, true, false, false, false, false] rfl rfl (any_of HT_.out (by kernel_rfl)) (fun _ _ _ h => h) (Or.inl ⟨by rfl, ?_⟩) ?_ ?_
                    rotate_left
                    · intro w'
                      go_simp
                      with_reducible rfl
                    rotate_left
                    · simp only [Act.put, List.setIfInBounds_toArray, List.set_cons_zero, List.set_cons_succ, i64_w, i32_w]
                      rfl
                    refine pure_ (i := 17) (N := some 53) (v := ?_) (a' := ?_) #[true, true, true, true, true, true, true, true, true, true, true, true, true, true, true, true, true, true, false, false, false] rfl rfl (any_of HT_.out (by kernel_rfl)) (fun _ _ _ h => h) (Or.inl ⟨by rfl, ?_⟩) ?_ ?_
                    rotate_left
                    · intro w'
                      go_simp
                      with_reducible rfl
                    rotate_left
                    · simp only [Act.put, List.setIfInBounds_toArray, List.set_cons_zero, List.set_cons_succ, i64_w, i32_w]
                      rfl
                    refine one_ (i := 18) (N := some 54) #[true, true, true, true, true, true, true, true, true, true, true, true, true, true, true, true, true, true, true, false, false] rfl rfl (one_of HT_.out (by kernel_rfl)) (by decide) (fun K hK => ?_)
                    refine goes_ Try.func35 (by kernel_rfl) rfl #[] (by rfl) rfl rfl (by (try simp only [List.map_toArray, List.map_cons, List.map_nil]); first | done | rfl | (simp only [List.length_drop, List.length_take]; rfl)) ?_
                    with_reducible refine (sashlaw07_awake.calls k2  t820 _ A34.out).mono ?_
                    rintro e w53 ⟨rfl, hb⟩
                    refine ⟨_, rfl, ?_⟩
                    have n0_ := Aside0.mk (Kd.R_below (by (with_reducible repeat (first | apply Kd.R_alloc | apply Kd.R_drewN | apply Kd.R_drew)); exact HO_3.out) hb)
                    have n1_ := Aside0.mk (Kd.R_below (by (with_reducible repeat (first | apply Kd.R_alloc | apply Kd.R_drewN | apply Kd.R_drew)); exact HO_4.out) hb)
                    have n2_ := Aside0.mk (Kd.N_below (by (with_reducible repeat (first | apply Kd.N_alloc | apply Kd.N_drewN | apply Kd.N_drew)); exact HO804.out) hb)
                    have n3_ := Aside0.mk (Kd.R_below (by (with_reducible repeat (first | apply Kd.R_alloc | apply Kd.R_drewN | apply Kd.R_drew)); exact HO809.out) hb)
                    have n4_ := Aside0.mk (Kd.R_below (by (with_reducible repeat (first | apply Kd.R_alloc | apply Kd.R_drewN | apply Kd.R_drew)); exact HO812.out) hb)
                    have n5_ := Aside0.mk (Kd.R_below (by (with_reducible repeat (first | apply Kd.R_alloc | apply Kd.R_drewN | apply Kd.R_drew)); exact HO815.out) hb)
                    have n6_ := Aside0.mk (Kd.R_below (by (with_reducible repeat (first | apply Kd.R_alloc | apply Kd.R_drewN | apply Kd.R_drew)); exact HO818.out) hb)
                    have n7_ := Aside0.mk (blk_below (g := gb783) (o := .cells #[.int .u8 a0_0, .int .i64 a0_1, .int .i64 a0_2, .int .i64 a0_3, .int .i64 a0_4, .int .i64 a0_5, .slice A0_6 l0_6.length c0_6] 26 (0, 0)) (by (with_reducible repeat (first | refine blk_drewN ?_ _ | refine blk_drew ?_ | refine blk_alloc ?_ _)); exact BK783.out) hb)
                    have n8_ := Aside0.mk (blk_below (g := gb806) (o := .cells #[.int .u8 t796, .int .i64 t797, .int .i64 t798, .int .i64 t799, .int .i64 t800, .int .i64 t801, .slice Ao42 t802.length co42] 26 (0, 0)) (by (with_reducible repeat (first | refine blk_drewN ?_ _ | refine blk_drew ?_ | refine blk_alloc ?_ _)); exact BK806.out) hb)
                    have n9_ := Aside0.mk (below_step (by repeat (first | (with_reducible first | exact HB.out | apply below_alloc | apply pw_below_drewN | apply below_drew1 | refine below_set ?_ GE783.out | refine below_set ?_ GE806.out) | exact HB.out)) hb)
                    clear HO_3
                    clear HO_4
                    clear HO804
                    clear HO809
                    clear HO812
                    clear HO815
                    clear HO818
                    clear BK783
                    clear BK806
                    clear HB
                    have HO_3 := n0_
                    have HO_4 := n1_
                    have HO804 := n2_
                    have HO809 := n3_
                    have HO812 := n4_
                    have HO815 := n5_
                    have HO818 := n6_
                    have BK783 := n7_
                    have BK806 := n8_
                    have HB := n9_
                    clear n0_ n1_ n2_ n3_ n4_ n5_ n6_ n7_ n8_ n9_
                    (try clear hb)
                    (try clear hb2)
                    (try clear hk)
                    (try clear hi)
                    refine hK.out _ _ ⟨(blk_cell BK806.out 0).trans rfl, (blk_cell BK806.out 1).trans rfl, (blk_cell BK806.out 2).trans rfl, (blk_cell BK806.out 3).trans rfl, (blk_cell BK806.out 4).trans rfl, (blk_cell BK806.out 5).trans rfl, (blk_cell BK806.out 6).trans rfl⟩ (fun hHeld => ?_)
                    clear hK K
                    refine norm_ (a' := ?_) ?_ ?_
                    rotate_left
                    · show Act.put _ (some 54) _ = _
                      simp only [Act.put, List.setIfInBounds_toArray, List.set_cons_zero, List.set_cons_succ, i64_w, i32_w]
                      rfl
                    refine pure_ (i := 19) (N := some 55) (v := ?_) (a' := ?_) #[true, true, true, true, true, true, true, true, true, true, true, true, true, true, true, true, true, true, true, true, false] rfl rfl (any_of HT_.out (by kernel_rfl)) (fun _ _ _ h => h) (Or.inl ⟨by rfl, ?_⟩) ?_ ?_
                    rotate_left
                    · intro w'
                      go_simp
                      with_reducible rfl
                    rotate_left
                    · simp only [Act.put, List.setIfInBounds_toArray, List.set_cons_zero, List.set_cons_succ, i64_w, i32_w]
                      rfl
                    refine pure_ (i := 20) (N := some 2) (v := ?_) (a' := ?_) #[true, true, true, true, true, true, true, true, true, true, true, true, true, true, true, true, true, true, true, true, true] rfl rfl (any_of HT_.out (by kernel_rfl)) (fun _ _ _ h => h) (Or.inl ⟨by rfl, ?_⟩) ?_ ?_
                    rotate_left
                    · intro w'
                      go_simp
                      with_reducible rfl
                    rotate_left
                    · simp only [Act.put, List.setIfInBounds_toArray, List.set_cons_zero, List.set_cons_succ, i64_w, i32_w]
                      rfl
                    refine done_ (done_of HT_.out (by kernel_rfl)) ?_
                    try go_wp2
                    go_ret
                    exact ⟨by first | rfl | (simp [errW_none, errW_some] <;> rfl) | (simp [*, errW_none, errW_some] <;> rfl), by repeat (first | (with_reducible first | exact HB.out | apply below_alloc | apply pw_below_drewN | apply below_drew1 | refine below_set ?_ GE783.out | refine below_set ?_ GE806.out) | exact HB.out)⟩
                  · replace c33 := Bool.eq_false_iff.mpr c33
                    subst c33
                    have H1 : (some false) = some r := by rw [if_neg (show ¬ (false = true) by decide)] at H; exact H
                    clear H
                    have H := H1
                    clear H1
                    obtain rfl := Option.some.inj H
                    obtain ⟨Ao54, co54, eo54⟩ := Kd.R_slice HO_3.out
                    subst eo54
                    have hcz55_0 : wr.cell? ⟨gb783, 0, none⟩ = some (.int .u8 a0_0) := (blk_cell BK783.out 0).trans rfl
                    have hcz55_1 : wr.cell? ⟨gb783, 1, none⟩ = some (.int .i64 a0_1) := (blk_cell BK783.out 1).trans rfl
                    have hcz55_2 : wr.cell? ⟨gb783, 2, none⟩ = some (.int .i64 a0_2) := (blk_cell BK783.out 2).trans rfl
                    have hcz55_3 : wr.cell? ⟨gb783, 3, none⟩ = some (.int .i64 a0_3) := (blk_cell BK783.out 3).trans rfl
                    have hcz55_4 : wr.cell? ⟨gb783, 4, none⟩ = some (.int .i64 a0_4) := (blk_cell BK783.out 4).trans rfl
                    have hcz55_5 : wr.cell? ⟨gb783, 5, none⟩ = some (.int .i64 a0_5) := (blk_cell BK783.out 5).trans rfl
                    have hcz55_6 : wr.cell? ⟨gb783, 6, none⟩ = some (.slice A0_6 l0_6.length c0_6) := (blk_cell BK783.out 6).trans rfl
                    have hfz55_0 := blk_frozen BK783.out 0
                    have hfz55_1 := blk_frozen BK783.out 1
                    have hfz55_2 := blk_frozen BK783.out 2
                    have hfz55_3 := blk_frozen BK783.out 3
                    have hfz55_4 := blk_frozen BK783.out 4
                    have hfz55_5 := blk_frozen BK783.out 5
                    have hfz55_6 := blk_frozen BK783.out 6
                    obtain ⟨Ao56, co56, eo56⟩ := Kd.R_slice HO_4.out
                    subst eo56
                    try go_wp2_with (first | ((with_reducible refine gate_callee (f := 62) rfl ?_); refine goesL_ (some 33) rfl rfl Try.func62 (by kernel_rfl) rfl #[.agg #[.int .u8 a0_0, .int .i64 a0_1, .int .i64 a0_2, .int .i64 a0_3, .int .i64 a0_4, .int .i64 a0_5, .slice A0_6 l0_6.length c0_6], .slice Ao56 x4_2.length co56] rfl (by (try simp only [List.map_toArray, List.map_cons, List.map_nil]); first | done | rfl | (simp only [List.length_drop, List.length_take]; rfl)) ?_; (with_reducible refine (flat_Name.calls k2 a0_0 a0_1 a0_2 a0_3 a0_4 a0_5 (fun k_ => k_ < w.heap.size) _ _ l0_6 (fun k_ => some k_ = (.slice Ao56 x4_2.length co56 : Value).ownBlock) _ _ x4_2 t796 t797 t798 t799 t800 t801 t802 true _ ?side1 ?side2 A25.out).mono ?_); (case side1 => exact Kd.V_mk HC0_6.out (Kd.F_below (Kd.C_F k26_heap HR0_6.out) (by repeat (first | (with_reducible first | exact HB.out | apply below_alloc | apply pw_below_drewN | apply below_drew1 | refine below_set ?_ GE783.out) | exact HB.out)))); (case side2 => exact Kd.R_V (Kd.R_tight rfl (Kd.R_types (Kd.R_apart' (HO_4.out) (Kd.R_typed HO_3.out) (by decide)) BK783.out (by decide)))); rintro e w57 ⟨v803, rfl, ho0, hb⟩; refine ⟨_, rfl, ?_⟩; have n0_ := Aside0.mk (Kd.R_below (by (with_reducible repeat (first | apply Kd.R_alloc | apply Kd.R_drewN | apply Kd.R_drew)); exact HO_3.out) hb); have n1_ := Aside0.mk (Kd.R_below (by (with_reducible repeat (first | apply Kd.R_alloc | apply Kd.R_drewN | apply Kd.R_drew)); exact HO_4.out) hb); have n2_ := Aside0.mk (Kd.N_lower (Kd.N_mono (ok' := fun k_ => some k_ ≠ (.slice Ao54 t787.length co54 : Value).ownBlock ∧ k_ ≠ gb783) ho0 (fun k_ hk_ => ⟨Or.elim hk_ (fun hs_ => Or.elim hs_ (fun hs_ => fun e_ => Nat.not_le.2 hs_ (Kd.R_base HO_3.out k_ e_.symm)) (fun hs_ => ((Kd.R_types (Kd.R_apart' (HO_4.out) (Kd.R_typed HO_3.out) (by decide)) BK783.out (by decide)).1 k_ hs_.symm).1.2)) (fun hn_ => (Kd.fresh' (Kd.R_lt (by (with_reducible repeat (first | apply Kd.R_alloc | apply Kd.R_drewN | apply Kd.R_drew)); exact HO_3.out)) k_ hn_)), Or.elim hk_ (fun hs_ => Or.elim hs_ (fun hs_ => fun e_ => Nat.not_le.2 hs_ (by rw [e_]; exact GW783.out)) (fun hs_ => ((Kd.R_types (Kd.R_apart' (HO_4.out) (Kd.R_typed HO_3.out) (by decide)) BK783.out (by decide)).1 k_ hs_.symm).2)) (fun hn_ => (Kd.freshB (g := gb783) (o := .cells #[.int .u8 a0_0, .int .i64 a0_1, .int .i64 a0_2, .int .i64 a0_3, .int .i64 a0_4, .int .i64 a0_5, .slice A0_6 l0_6.length c0_6] 26 (0, 0)) (by (with_reducible repeat (first | refine blk_drewN ?_ _ | refine blk_drew ?_ | refine blk_alloc ?_ _)); exact BK783.out) k_ hn_))⟩)) (below_size (by repeat (first | (with_reducible first | exact HB.out | apply below_alloc | apply pw_below_drewN | apply below_drew1 | refine below_set ?_ GE783.out) | exact HB.out)))); have n3_ := Aside0.mk (blk_below (g := gb783) (o := .cells #[.int .u8 a0_0, .int .i64 a0_1, .int .i64 a0_2, .int .i64 a0_3, .int .i64 a0_4, .int .i64 a0_5, .slice A0_6 l0_6.length c0_6] 26 (0, 0)) (by (with_reducible repeat (first | refine blk_drewN ?_ _ | refine blk_drew ?_ | refine blk_alloc ?_ _)); exact BK783.out) hb); have n4_ := Aside0.mk (below_step (by repeat (first | (with_reducible first | exact HB.out | apply below_alloc | apply pw_below_drewN | apply below_drew1 | refine below_set ?_ GE783.out) | exact HB.out)) hb); clear HO_3; clear HO_4; clear BK783; clear HB; have HO_3 := n0_; have HO_4 := n1_; have HO804 := n2_; have BK783 := n3_; have HB := n4_; clear n0_ n1_ n2_ n3_ n4_; (try clear hb); (try clear hb2); (try clear hk); (try clear hi); (try clear ho0)) | ((with_reducible refine gate_dst (N := 6) rfl ?_); (try (refine gate_guard (by rfl) ?_; dsimp only)); refine box_event ?hg (N := 6) ?hd (cs := #[.int .u8 0, .int .i64 0, .int .i64 0, .int .i64 0, .int .i64 0, .int .i64 0, .slice none 0 0]) (t := 26) ?hr ?_; (case hd => rfl); (case hg => rfl); (case hr => first | (go_simp; done) | (go_simp; rfl)); intro gb806 hg w58 hbox hb; have n0_ := Aside0.mk (Kd.R_below (by (with_reducible repeat (first | apply Kd.R_alloc | apply Kd.R_drewN | apply Kd.R_drew)); exact HO_3.out) hb); have n1_ := Aside0.mk (Kd.R_below (by (with_reducible repeat (first | apply Kd.R_alloc | apply Kd.R_drewN | apply Kd.R_drew)); exact HO_4.out) hb); have n2_ := Aside0.mk (Kd.N_below (Kd.N_elderB (by (with_reducible repeat (first | apply Kd.N_alloc | apply Kd.N_drewN | apply Kd.N_drew)); exact HO804.out) gb806 (Nat.le_of_eq hg.symm)) hb); have n3_ := Aside0.mk (blk_below (g := gb783) (o := .cells #[.int .u8 a0_0, .int .i64 a0_1, .int .i64 a0_2, .int .i64 a0_3, .int .i64 a0_4, .int .i64 a0_5, .slice A0_6 l0_6.length c0_6] 26 (0, 0)) (by (with_reducible repeat (first | refine blk_drewN ?_ _ | refine blk_drew ?_ | refine blk_alloc ?_ _)); exact BK783.out) hb); have n4_ := Aside0.mk (below_step (by repeat (first | (with_reducible first | exact HB.out | apply below_alloc | apply pw_below_drewN | apply below_drew1 | refine below_set ?_ GE783.out) | exact HB.out)) hb); have n5_ := Aside0.mk (hbox); have n6_ := Aside0.mk ((by rw [hg]; exact (below_size (by repeat (first | (with_reducible first | exact HB.out | apply below_alloc | apply pw_below_drewN | apply below_drew1 | refine below_set ?_ GE783.out) | exact HB.out))) : w.heap.size ≤ gb806)); have n7_ := Aside0.mk ((by rw [hg]; exact (below_size (by repeat (first | (with_reducible first | exact HB.out | apply below_alloc | apply pw_below_drewN | apply below_drew1 | refine below_set ?_ GE783.out) | exact HB.out))) : w.heap.size ≤ gb806)); have n8_ := Aside0.mk ((by rw [hg]; exact Nat.ne_of_lt (blk_lt (g := gb783) (o := .cells #[.int .u8 a0_0, .int .i64 a0_1, .int .i64 a0_2, .int .i64 a0_3, .int .i64 a0_4, .int .i64 a0_5, .slice A0_6 l0_6.length c0_6] 26 (0, 0)) (by (with_reducible repeat (first | refine blk_drewN ?_ _ | refine blk_drew ?_ | refine blk_alloc ?_ _)); exact BK783.out)) : gb783 ≠ gb806)); have n9_ := Aside0.mk ((by rw [hg]; exact Nat.ne_of_gt (blk_lt (g := gb783) (o := .cells #[.int .u8 a0_0, .int .i64 a0_1, .int .i64 a0_2, .int .i64 a0_3, .int .i64 a0_4, .int .i64 a0_5, .slice A0_6 l0_6.length c0_6] 26 (0, 0)) (by (with_reducible repeat (first | refine blk_drewN ?_ _ | refine blk_drew ?_ | refine blk_alloc ?_ _)); exact BK783.out)) : gb806 ≠ gb783)); clear HO_3; clear HO_4; clear HO804; clear BK783; clear HB; have HO_3 := n0_; have HO_4 := n1_; have HO804 := n2_; have BK783 := n3_; have HB := n4_; have BK806 := n5_; have GW806 := n6_; have GE806 := n7_; have NB783_806 := n8_; have NB806_783 := n9_; clear n0_ n1_ n2_ n3_ n4_ n5_ n6_ n7_ n8_ n9_; clear hb hbox hg; have hnb59 := NB806_783.out; have hnc59 := NB783_806.out; have hcz60_0 : w58.cell? ⟨gb806, 0, none⟩ = some (.int .u8 0) := (blk_cell BK806.out 0).trans rfl; have hcz60_1 : w58.cell? ⟨gb806, 1, none⟩ = some (.int .i64 0) := (blk_cell BK806.out 1).trans rfl; have hcz60_2 : w58.cell? ⟨gb806, 2, none⟩ = some (.int .i64 0) := (blk_cell BK806.out 2).trans rfl; have hcz60_3 : w58.cell? ⟨gb806, 3, none⟩ = some (.int .i64 0) := (blk_cell BK806.out 3).trans rfl; have hcz60_4 : w58.cell? ⟨gb806, 4, none⟩ = some (.int .i64 0) := (blk_cell BK806.out 4).trans rfl; have hcz60_5 : w58.cell? ⟨gb806, 5, none⟩ = some (.int .i64 0) := (blk_cell BK806.out 5).trans rfl; have hcz60_6 : w58.cell? ⟨gb806, 6, none⟩ = some (.slice none 0 0) := (blk_cell BK806.out 6).trans rfl; have hfz60_0 := blk_frozen BK806.out 0; have hfz60_1 := blk_frozen BK806.out 1; have hfz60_2 := blk_frozen BK806.out 2; have hfz60_3 := blk_frozen BK806.out 3; have hfz60_4 := blk_frozen BK806.out 4; have hfz60_5 := blk_frozen BK806.out 5; have hfz60_6 := blk_frozen BK806.out 6; obtain ⟨Ao61, co61, eo61⟩ := Kd.N_slice HO804.out; subst eo61))
                    have n0_ : Aside0 (Kd.R k35 35 (((((((w58.setCell ⟨gb806, 0, none⟩ (.int .u8 t796)).setCell ⟨gb806, 1, none⟩ (.int .i64 t797)).setCell ⟨gb806, 2, none⟩ (.int .i64 t798)).setCell ⟨gb806, 3, none⟩ (.int .i64 t799)).setCell ⟨gb806, 4, none⟩ (.int .i64 t800)).setCell ⟨gb806, 5, none⟩ (.int .i64 t801)).setCell ⟨gb806, 6, none⟩ (.slice Ao61 t802.length co61)) w.heap.size (fun _ => True) (.slice Ao54 t787.length co54) t787) := ⟨by (with_reducible repeat (first | apply Kd.R_alloc | apply Kd.R_drewN | apply Kd.R_drew)); exact Kd.R_mono (Kd.R_far (p := ⟨gb806, 6, none⟩) (Kd.R_far (p := ⟨gb806, 5, none⟩) (Kd.R_far (p := ⟨gb806, 4, none⟩) (Kd.R_far (p := ⟨gb806, 3, none⟩) (Kd.R_far (p := ⟨gb806, 2, none⟩) (Kd.R_far (p := ⟨gb806, 1, none⟩) (Kd.R_far (p := ⟨gb806, 0, none⟩) (Kd.R_types HO_3.out BK806.out (by decide)) (fun _ hk => hk.2) (.int .u8 t796)) (fun _ hk => hk.2) (.int .i64 t797)) (fun _ hk => hk.2) (.int .i64 t798)) (fun _ hk => hk.2) (.int .i64 t799)) (fun _ hk => hk.2) (.int .i64 t800)) (fun _ hk => hk.2) (.int .i64 t801)) (fun _ hk => hk.2) (.slice Ao61 t802.length co61)) (fun _ hk => trivial)⟩
                    have n1_ : Aside0 (Kd.R (Kd.int .i64) 3 (((((((w58.setCell ⟨gb806, 0, none⟩ (.int .u8 t796)).setCell ⟨gb806, 1, none⟩ (.int .i64 t797)).setCell ⟨gb806, 2, none⟩ (.int .i64 t798)).setCell ⟨gb806, 3, none⟩ (.int .i64 t799)).setCell ⟨gb806, 4, none⟩ (.int .i64 t800)).setCell ⟨gb806, 5, none⟩ (.int .i64 t801)).setCell ⟨gb806, 6, none⟩ (.slice Ao61 t802.length co61)) w.heap.size (fun _ => True) (.slice Ao56 x4_2.length co56) x4_2) := ⟨by (with_reducible repeat (first | apply Kd.R_alloc | apply Kd.R_drewN | apply Kd.R_drew)); exact Kd.R_mono (Kd.R_far (p := ⟨gb806, 6, none⟩) (Kd.R_far (p := ⟨gb806, 5, none⟩) (Kd.R_far (p := ⟨gb806, 4, none⟩) (Kd.R_far (p := ⟨gb806, 3, none⟩) (Kd.R_far (p := ⟨gb806, 2, none⟩) (Kd.R_far (p := ⟨gb806, 1, none⟩) (Kd.R_far (p := ⟨gb806, 0, none⟩) (Kd.R_types HO_4.out BK806.out (by decide)) (fun _ hk => hk.2) (.int .u8 t796)) (fun _ hk => hk.2) (.int .i64 t797)) (fun _ hk => hk.2) (.int .i64 t798)) (fun _ hk => hk.2) (.int .i64 t799)) (fun _ hk => hk.2) (.int .i64 t800)) (fun _ hk => hk.2) (.int .i64 t801)) (fun _ hk => hk.2) (.slice Ao61 t802.length co61)) (fun _ hk => trivial)⟩
                    have n2_ : Aside0 (Kd.N k26 26 (((((((w58.setCell ⟨gb806, 0, none⟩ (.int .u8 t796)).setCell ⟨gb806, 1, none⟩ (.int .i64 t797)).setCell ⟨gb806, 2, none⟩ (.int .i64 t798)).setCell ⟨gb806, 3, none⟩ (.int .i64 t799)).setCell ⟨gb806, 4, none⟩ (.int .i64 t800)).setCell ⟨gb806, 5, none⟩ (.int .i64 t801)).setCell ⟨gb806, 6, none⟩ (.slice Ao61 t802.length co61)) w.heap.size (fun k_ => some k_ ≠ (.slice Ao54 t787.length co54 : Value).ownBlock ∧ k_ ≠ gb783 ∧ k_ ≠ gb806) (.slice Ao61 t802.length co61) t802) := ⟨by (with_reducible repeat (first | apply Kd.N_alloc | apply Kd.N_drewN | apply Kd.N_drew)); exact Kd.N_mono (Kd.N_far (p := ⟨gb806, 6, none⟩) (Kd.N_far (p := ⟨gb806, 5, none⟩) (Kd.N_far (p := ⟨gb806, 4, none⟩) (Kd.N_far (p := ⟨gb806, 3, none⟩) (Kd.N_far (p := ⟨gb806, 2, none⟩) (Kd.N_far (p := ⟨gb806, 1, none⟩) (Kd.N_far (p := ⟨gb806, 0, none⟩) (Kd.N_mono HO804.out (fun k_ hk => (⟨hk, hk.2⟩ : _ ∧ k_ ≠ gb806))) (fun _ hk => hk.2) (.int .u8 t796)) (fun _ hk => hk.2) (.int .i64 t797)) (fun _ hk => hk.2) (.int .i64 t798)) (fun _ hk => hk.2) (.int .i64 t799)) (fun _ hk => hk.2) (.int .i64 t800)) (fun _ hk => hk.2) (.int .i64 t801)) (fun _ hk => hk.2) (.slice Ao61 t802.length co61)) (fun _ hk => ⟨hk.1.1.1, ⟨hk.1.1.2, hk.1.2⟩⟩)⟩
                    have n3_ : Aside0 ((((((((w58.setCell ⟨gb806, 0, none⟩ (.int .u8 t796)).setCell ⟨gb806, 1, none⟩ (.int .i64 t797)).setCell ⟨gb806, 2, none⟩ (.int .i64 t798)).setCell ⟨gb806, 3, none⟩ (.int .i64 t799)).setCell ⟨gb806, 4, none⟩ (.int .i64 t800)).setCell ⟨gb806, 5, none⟩ (.int .i64 t801)).setCell ⟨gb806, 6, none⟩ (.slice Ao61 t802.length co61)).heap[gb783]? = some (.cells #[.int .u8 a0_0, .int .i64 a0_1, .int .i64 a0_2, .int .i64 a0_3, .int .i64 a0_4, .int .i64 a0_5, .slice A0_6 l0_6.length c0_6] 26 (0, 0))) := ⟨by (with_reducible repeat (first | refine blk_drewN ?_ _ | refine blk_drew ?_ | refine blk_alloc ?_ _)); refine blk_far ?_ NB783_806.out _; (with_reducible repeat (first | refine blk_drewN ?_ _ | refine blk_drew ?_ | refine blk_alloc ?_ _)); refine blk_far ?_ NB783_806.out _; (with_reducible repeat (first | refine blk_drewN ?_ _ | refine blk_drew ?_ | refine blk_alloc ?_ _)); refine blk_far ?_ NB783_806.out _; (with_reducible repeat (first | refine blk_drewN ?_ _ | refine blk_drew ?_ | refine blk_alloc ?_ _)); refine blk_far ?_ NB783_806.out _; (with_reducible repeat (first | refine blk_drewN ?_ _ | refine blk_drew ?_ | refine blk_alloc ?_ _)); refine blk_far ?_ NB783_806.out _; (with_reducible repeat (first | refine blk_drewN ?_ _ | refine blk_drew ?_ | refine blk_alloc ?_ _)); refine blk_far ?_ NB783_806.out _; (with_reducible repeat (first | refine blk_drewN ?_ _ | refine blk_drew ?_ | refine blk_alloc ?_ _)); refine blk_far ?_ NB783_806.out _; (with_reducible repeat (first | refine blk_drewN ?_ _ | refine blk_drew ?_ | refine blk_alloc ?_ _)); exact BK783.out⟩
                    have n4_ : Aside0 ((((((((w58.setCell ⟨gb806, 0, none⟩ (.int .u8 t796)).setCell ⟨gb806, 1, none⟩ (.int .i64 t797)).setCell ⟨gb806, 2, none⟩ (.int .i64 t798)).setCell ⟨gb806, 3, none⟩ (.int .i64 t799)).setCell ⟨gb806, 4, none⟩ (.int .i64 t800)).setCell ⟨gb806, 5, none⟩ (.int .i64 t801)).setCell ⟨gb806, 6, none⟩ (.slice Ao61 t802.length co61)).heap[gb806]? = some (.cells #[.int .u8 t796, .int .i64 t797, .int .i64 t798, .int .i64 t799, .int .i64 t800, .int .i64 t801, .slice Ao61 t802.length co61] 26 (0, 0))) := ⟨by (with_reducible repeat (first | refine blk_drewN ?_ _ | refine blk_drew ?_ | refine blk_alloc ?_ _)); refine blk_put (cs := #[.int .u8 t796, .int .i64 t797, .int .i64 t798, .int .i64 t799, .int .i64 t800, .int .i64 t801, .slice none 0 0]) ?_ 6 _ rfl; (with_reducible repeat (first | refine blk_drewN ?_ _ | refine blk_drew ?_ | refine blk_alloc ?_ _)); refine blk_put (cs := #[.int .u8 t796, .int .i64 t797, .int .i64 t798, .int .i64 t799, .int .i64 t800, .int .i64 0, .slice none 0 0]) ?_ 5 _ rfl; (with_reducible repeat (first | refine blk_drewN ?_ _ | refine blk_drew ?_ | refine blk_alloc ?_ _)); refine blk_put (cs := #[.int .u8 t796, .int .i64 t797, .int .i64 t798, .int .i64 t799, .int .i64 0, .int .i64 0, .slice none 0 0]) ?_ 4 _ rfl; (with_reducible repeat (first | refine blk_drewN ?_ _ | refine blk_drew ?_ | refine blk_alloc ?_ _)); refine blk_put (cs := #[.int .u8 t796, .int .i64 t797, .int .i64 t798, .int .i64 0, .int .i64 0, .int .i64 0, .slice none 0 0]) ?_ 3 _ rfl; (with_reducible repeat (first | refine blk_drewN ?_ _ | refine blk_drew ?_ | refine blk_alloc ?_ _)); refine blk_put (cs := #[.int .u8 t796, .int .i64 t797, .int .i64 0, .int .i64 0, .int .i64 0, .int .i64 0, .slice none 0 0]) ?_ 2 _ rfl; (with_reducible repeat (first | refine blk_drewN ?_ _ | refine blk_drew ?_ | refine blk_alloc ?_ _)); refine blk_put (cs := #[.int .u8 t796, .int .i64 0, .int .i64 0, .int .i64 0, .int .i64 0, .int .i64 0, .slice none 0 0]) ?_ 1 _ rfl; (with_reducible repeat (first | refine blk_drewN ?_ _ | refine blk_drew ?_ | refine blk_alloc ?_ _)); refine blk_put (cs := #[.int .u8 0, .int .i64 0, .int .i64 0, .int .i64 0, .int .i64 0, .int .i64 0, .slice none 0 0]) ?_ 0 _ rfl; (with_reducible repeat (first | refine blk_drewN ?_ _ | refine blk_drew ?_ | refine blk_alloc ?_ _)); exact BK806.out⟩
                    have n5_ : Aside0 (Below w.heap.size w (((((((w58.setCell ⟨gb806, 0, none⟩ (.int .u8 t796)).setCell ⟨gb806, 1, none⟩ (.int .i64 t797)).setCell ⟨gb806, 2, none⟩ (.int .i64 t798)).setCell ⟨gb806, 3, none⟩ (.int .i64 t799)).setCell ⟨gb806, 4, none⟩ (.int .i64 t800)).setCell ⟨gb806, 5, none⟩ (.int .i64 t801)).setCell ⟨gb806, 6, none⟩ (.slice Ao61 t802.length co61))) := ⟨by repeat (first | (with_reducible first | exact HB.out | apply below_alloc | apply pw_below_drewN | apply below_drew1 | refine below_set ?_ GE783.out | refine below_set ?_ GE806.out) | exact HB.out)⟩
                    (try clear HO_3)
                    (try clear HO_4)
                    (try clear HO804)
                    (try clear BK783)
                    (try clear BK806)
                    (try clear HB)
                    generalize (((((((w58.setCell ⟨gb806, 0, none⟩ (.int .u8 t796)).setCell ⟨gb806, 1, none⟩ (.int .i64 t797)).setCell ⟨gb806, 2, none⟩ (.int .i64 t798)).setCell ⟨gb806, 3, none⟩ (.int .i64 t799)).setCell ⟨gb806, 4, none⟩ (.int .i64 t800)).setCell ⟨gb806, 5, none⟩ (.int .i64 t801)).setCell ⟨gb806, 6, none⟩ (.slice Ao61 t802.length co61)) = w62 at n0_ n1_ n2_ n3_ n4_ n5_ ⊢
                    have HO_3 := n0_
                    have HO_4 := n1_
                    have HO804 := n2_
                    have BK783 := n3_
                    have BK806 := n4_
                    have HB := n5_
                    clear n0_ n1_ n2_ n3_ n4_ n5_
                    have n0_ := Aside0.mk (Kd.R_drew HO_3.out)
                    have n1_ := Aside0.mk (Kd.R_drew HO_4.out)
                    have n2_ := Aside0.mk (Kd.N_drew HO804.out)
                    have n3_ := Aside0.mk (blk_drew BK783.out)
                    have n4_ := Aside0.mk (blk_drew BK806.out)
                    have n5_ := Aside0.mk (below_drew1 HB.out)
                    clear HO_3
                    clear HO_4
                    clear HO804
                    clear BK783
                    clear BK806
                    clear HB
                    have HO_3 := n0_
                    have HO_4 := n1_
                    have HO804 := n2_
                    have BK783 := n3_
                    have BK806 := n4_
                    have HB := n5_
                    clear n0_ n1_ n2_ n3_ n4_ n5_
                    refine start_ (n := 21) (S := fun w' => w'.cell? ⟨gb806, 0, none⟩ = some (.int .u8 t796) ∧ w'.cell? ⟨gb806, 1, none⟩ = some (.int .i64 t797) ∧ w'.cell? ⟨gb806, 2, none⟩ = some (.int .i64 t798) ∧ w'.cell? ⟨gb806, 3, none⟩ = some (.int .i64 t799) ∧ w'.cell? ⟨gb806, 4, none⟩ = some (.int .i64 t800) ∧ w'.cell? ⟨gb806, 5, none⟩ = some (.int .i64 t801) ∧ w'.cell? ⟨gb806, 6, none⟩ = some (.slice Ao61 t802.length co61)) (ds := []) #[false, false, false, false, false, false, false, false, false, false, false, false, false, false, false, false, false, false, false, false, false] (by kernel_rfl) rfl rfl ⟨(blk_cell BK806.out 0).trans rfl, (blk_cell BK806.out 1).trans rfl, (blk_cell BK806.out 2).trans rfl, (blk_cell BK806.out 3).trans rfl, (blk_cell BK806.out 4).trans rfl, (blk_cell BK806.out 5).trans rfl, (blk_cell BK806.out 6).trans rfl⟩ (fun hHeld => ?_); refine with_tabW sashlaw07_FlatStill.tab10 sashlaw07_FlatStill.bits10 (fun HT_ HW_ => ?_)
                    generalize w62.drew = w63 at HO_3 HO_4 HO804 BK783 BK806 HB hHeld ⊢
                    refine pure_ (i := 0) (N := some 36) (v := ?_) (a' := ?_) #[true, false, false, false, false, false, false, false, false, false, false, false, false, false, false, false, false, false, false, false, false] rfl rfl (any_of HT_.out (by kernel_rfl)) (fun _ _ _ h => h) (Or.inl ⟨by rfl, ?_⟩) ?_ ?_
                    rotate_left
                    · intro w'
                      go_simp
                      with_reducible rfl
                    rotate_left
                    · simp only [Act.put, List.setIfInBounds_toArray, List.set_cons_zero, List.set_cons_succ, i64_w, i32_w]
                      rfl
                    refine pure_ (i := 1) (N := some 37) (v := ?_) (a' := ?_) #[true, true, false, false, false, false, false, false, false, false, false, false, false, false, false, false, false, false, false, false, false] rfl rfl (any_of HT_.out (by kernel_rfl)) (fun _ _ _ h => h) (Or.inl ⟨by rfl, ?_⟩) ?_ ?_
                    rotate_left
                    · intro w'
                      go_simp
                      with_reducible rfl
                    rotate_left
                    · simp only [Act.put, List.setIfInBounds_toArray, List.set_cons_zero, List.set_cons_succ, i64_w, i32_w]
                      rfl
                    refine pure_ (i := 2) (N := some 38) (v := ?_) (a' := ?_) #[true, true, true, false, false, false, false, false, false, false, false, false, false, false, false, false, false, false, false, false, false] rfl rfl (any_of HT_.out (by kernel_rfl)) (fun _ _ _ h => h) (Or.inl ⟨by rfl, ?_⟩) ?_ ?_
                    rotate_left
                    · intro w'
                      go_simp
                      with_reducible rfl
                    rotate_left
                    · simp only [Act.put, List.setIfInBounds_toArray, List.set_cons_zero, List.set_cons_succ, i64_w, i32_w]
                      rfl
                    refine pure_ (i := 3) (N := some 39) (v := ?_) (a' := ?_) #[true, true, true, true, false, false, false, false, false, false, false, false, false, false, false, false, false, false, false, false, false] rfl rfl (any_of HT_.out (by kernel_rfl)) (fun _ _ _ h => h) (Or.inl ⟨by rfl, ?_⟩) ?_ ?_
                    rotate_left
                    · intro w'
                      go_simp
                      with_reducible rfl
                    rotate_left
                    · simp only [Act.put, List.setIfInBounds_toArray, List.set_cons_zero, List.set_cons_succ, i64_w, i32_w]
                      rfl
                    refine one_ (i := 4) (N := some 40) #[true, true, true, true, true, false, false, false, false, false, false, false, false, false, false, false, false, false, false, false, false] rfl rfl (one_of HT_.out (by kernel_rfl)) (by decide) (fun K hK => ?_)
                    refine goes_ Try.func55 (by kernel_rfl) rfl #[.slice Ao54 t787.length co54, .slice Ao54 t787.length co54] (by rfl) rfl rfl (by (try simp only [List.map_toArray, List.map_cons, List.map_nil]); first | done | rfl | (simp only [List.length_drop, List.length_take]; rfl)) ?_
                    with_reducible refine (flat_Changed.calls _ _ t787 _ _ t787 t807 _ ?side1 ?side2 ?side3 ?side4 A27.out).mono ?_
                    (case side1 => repeat (first | exact (Kd.R_reads' HO_3.out).2.2 | (with_reducible refine Kd.C_alloc ?_ _) | (with_reducible refine Kd.C_drewN ?_ _) | (with_reducible refine Kd.C_drew ?_)))
                    (case side2 => exact (Kd.R_reads' HO_3.out).2.1)
                    (case side3 => repeat (first | exact (Kd.R_reads' HO_3.out).2.2 | (with_reducible refine Kd.C_alloc ?_ _) | (with_reducible refine Kd.C_drewN ?_ _) | (with_reducible refine Kd.C_drew ?_)))
                    (case side4 => exact (Kd.R_reads' HO_3.out).2.1)
                    rintro e w64 ⟨v808, rfl, ho0, hb⟩
                    refine ⟨_, rfl, ?_⟩
                    have n0_ := Aside0.mk (Kd.R_elder' (by (with_reducible repeat (first | apply Kd.R_alloc | apply Kd.R_drewN | apply Kd.R_drew)); exact HO_3.out) (Kd.R_base ho0) hb)
                    have n1_ := Aside0.mk (Kd.R_below (by (with_reducible repeat (first | apply Kd.R_alloc | apply Kd.R_drewN | apply Kd.R_drew)); exact HO_4.out) hb)
                    have n2_ := Aside0.mk (Kd.N_elder' (by (with_reducible repeat (first | apply Kd.N_alloc | apply Kd.N_drewN | apply Kd.N_drew)); exact HO804.out) (Kd.R_base ho0) hb)
                    have n3_ := Aside0.mk (Kd.R_lower (Kd.R_new' ho0 (Kd.R_lt (by (with_reducible repeat (first | apply Kd.R_alloc | apply Kd.R_drewN | apply Kd.R_drew)); exact HO_3.out))) (below_size (by repeat (first | (with_reducible first | exact HB.out | apply below_alloc | apply pw_below_drewN | apply below_drew1 | refine below_set ?_ GE783.out | refine below_set ?_ GE806.out) | exact HB.out))))
                    have n4_ := Aside0.mk (blk_below (g := gb783) (o := .cells #[.int .u8 a0_0, .int .i64 a0_1, .int .i64 a0_2, .int .i64 a0_3, .int .i64 a0_4, .int .i64 a0_5, .slice A0_6 l0_6.length c0_6] 26 (0, 0)) (by (with_reducible repeat (first | refine blk_drewN ?_ _ | refine blk_drew ?_ | refine blk_alloc ?_ _)); exact BK783.out) hb)
                    have n5_ := Aside0.mk (blk_below (g := gb806) (o := .cells #[.int .u8 t796, .int .i64 t797, .int .i64 t798, .int .i64 t799, .int .i64 t800, .int .i64 t801, .slice Ao61 t802.length co61] 26 (0, 0)) (by (with_reducible repeat (first | refine blk_drewN ?_ _ | refine blk_drew ?_ | refine blk_alloc ?_ _)); exact BK806.out) hb)
                    have n6_ := Aside0.mk (below_step (by repeat (first | (with_reducible first | exact HB.out | apply below_alloc | apply pw_below_drewN | apply below_drew1 | refine below_set ?_ GE783.out | refine below_set ?_ GE806.out) | exact HB.out)) hb)
                    clear HO_3
                    clear HO_4
                    clear HO804
                    clear BK783
                    clear BK806
                    clear HB
                    have HO_3 := n0_
                    have HO_4 := n1_
                    have HO804 := n2_
                    have HO809 := n3_
                    have BK783 := n4_
                    have BK806 := n5_
                    have HB := n6_
                    clear n0_ n1_ n2_ n3_ n4_ n5_ n6_
                    (try clear hb)
                    (try clear hb2)
                    (try clear hk)
                    (try clear hi)
                    (try clear ho0)
                    obtain ⟨Ao65, co65, eo65⟩ := Kd.R_slice HO809.out
                    (first | subst eo65 | (injection eo65 with f1_ f2_ f3_; have f4_ := f1_.symm; have f5_ := f3_.symm; clear f1_ f2_ f3_; subst f4_; subst f5_))
                    refine hK.out _ _ ⟨(blk_cell BK806.out 0).trans rfl, (blk_cell BK806.out 1).trans rfl, (blk_cell BK806.out 2).trans rfl, (blk_cell BK806.out 3).trans rfl, (blk_cell BK806.out 4).trans rfl, (blk_cell BK806.out 5).trans rfl, (blk_cell BK806.out 6).trans rfl⟩ (fun hHeld => ?_)
                    clear hK K
                    refine norm_ (a' := ?_) ?_ ?_
                    rotate_left
                    · show Act.put _ (some 40) _ = _
                      simp only [Act.put, List.setIfInBounds_toArray, List.set_cons_zero, List.set_cons_succ, i64_w, i32_w]
                      rfl
                    refine pure_ (i := 5) (N := some 41) (v := ?_) (a' := ?_) #[true, true, true, true, true, true, false, false, false, false, false, false, false, false, false, false, false, false, false, false, false] rfl rfl (any_of HT_.out (by kernel_rfl)) (fun _ _ _ h => h) (Or.inl ⟨by rfl, ?_⟩) ?_ ?_
                    rotate_left
                    · intro w'
                      go_simp
                      with_reducible rfl
                    rotate_left
                    · simp only [Act.put, List.setIfInBounds_toArray, List.set_cons_zero, List.set_cons_succ, i64_w, i32_w]
                      rfl
                    refine pure_ (i := 6) (N := some 42) (v := ?_) (a' := ?_) #[true, true, true, true, true, true, true, false, false, false, false, false, false, false, false, false, false, false, false, false, false] rfl rfl (any_of HT_.out (by kernel_rfl)) (fun _ _ _ h => h) (Or.inl ⟨by rfl, ?_⟩) ?_ ?_
                    rotate_left
                    · intro w'
                      go_simp
                      with_reducible rfl
                    rotate_left
                    · simp only [Act.put, List.setIfInBounds_toArray, List.set_cons_zero, List.set_cons_succ, i64_w, i32_w]
                      rfl
                    refine pure_ (i := 7) (N := some 43) (v := ?_) (a' := ?_) #[true, true, true, true, true, true, true, true, false, false, false, false, false, false, false, false, false, false, false, false, false] rfl rfl (any_of HT_.out (by kernel_rfl)) (fun _ _ _ h => h) (Or.inl ⟨by rfl, ?_⟩) ?_ ?_
                    rotate_left
                    · intro w'
                      go_simp
                      with_reducible rfl
                    rotate_left
                    · simp only [Act.put, List.setIfInBounds_toArray, List.set_cons_zero, List.set_cons_succ, i64_w, i32_w]
                      rfl
                    refine pure_ (i := 8) (N := some 44) (v := ?_) (a' := ?_) #[true, true, true, true, true, true, true, true, true, false, false, false, false, false, false, false, false, false, false, false, false] rfl rfl (any_of HT_.out (by kernel_rfl)) (fun _ _ _ h => h) (Or.inl ⟨by rfl, ?_⟩) ?_ ?_
                    rotate_left
                    · intro w'
                      go_simp
                      with_reducible rfl
                    rotate_left
                    · simp only [Act.put, List.setIfInBounds_toArray, List.set_cons_zero, List.set_cons_succ, i64_w, i32_w]
                      rfl
                    refine pure_ (i := 9) (N := some 45) (v := ?_) (a' := ?_) #[true, true, true, true, true, true, true, true, true, true, false, false, false, false, false, false, false, false, false, false, false] rfl rfl (any_of HT_.out (by kernel_rfl)) (fun _ _ _ h => h) (Or.inl ⟨by rfl, ?_⟩) ?_ ?_
                    rotate_left
                    · intro w'
                      go_simp
                      with_reducible rfl
                    rotate_left
                    · simp only [Act.put, List.setIfInBounds_toArray, List.set_cons_zero, List.set_cons_succ, i64_w, i32_w]
                      rfl
                    refine take_ (i := 10) (N := some 46) (v := ?_) (a' := ?_) #[true, true, true, true, true, true, true, true, true, true, true, false, false, false, false, false, false, false, false, false, false] rfl rfl (take_ofW HT_.out HW_.out (by kernel_rfl)) (fun _ _ _ h => h) (Or.inl ⟨by rfl, ?_⟩) hHeld ?_ ?_
                    rotate_left
                    · rintro w' ⟨s0, s1, s2, s3, s4, s5, s6⟩
                      go_simp
                      with_reducible rfl
                    rotate_left
                    · simp only [Act.put, List.setIfInBounds_toArray, List.set_cons_zero, List.set_cons_succ, i64_w, i32_w]
                      rfl
                    refine take_ (i := 13) (N := some 49) (v := ?_) (a' := ?_) #[true, true, true, true, true, true, true, true, true, true, true, false, false, true, false, false, false, false, false, false, false] rfl rfl (take_ofW HT_.out HW_.out (by kernel_rfl)) (fun _ _ _ h => h) (Or.inl ⟨by rfl, ?_⟩) hHeld ?_ ?_
                    rotate_left
                    · rintro w' ⟨s0, s1, s2, s3, s4, s5, s6⟩
                      go_simp
                      with_reducible rfl
                    rotate_left
                    · simp only [Act.put, List.setIfInBounds_toArray, List.set_cons_zero, List.set_cons_succ, i64_w, i32_w]
                      rfl
                    refine one_ (i := 11) (N := some 47) #[true, true, true, true, true, true, true, true, true, true, true, true, false, true, false, false, false, false, false, false, false] rfl rfl (one_of HT_.out (by kernel_rfl)) (by decide) (fun K hK => ?_)
                    refine goes_ Try.func43 (by kernel_rfl) rfl #[.agg #[.int .u8 t796, .int .i64 t797, .int .i64 t798, .int .i64 t799, .int .i64 t800, .int .i64 t801, .slice Ao61 t802.length co61]] (by rfl) rfl rfl (by (try simp only [List.map_toArray, List.map_cons, List.map_nil]); first | done | rfl | (simp only [List.length_drop, List.length_take]; rfl)) ?_
                    with_reducible refine (flat_List.calls k2 t796 t797 t798 t799 t800 t801 _ _ t802 t810 _ ?side1 ?side2 A29.out).mono ?_
                    (case side1 => repeat (first | exact (Kd.N_reads' HO804.out).2.2 | (with_reducible refine Kd.C_alloc ?_ _) | (with_reducible refine Kd.C_drewN ?_ _) | (with_reducible refine Kd.C_drew ?_)))
                    (case side2 => exact (Kd.N_reads' HO804.out).2.1)
                    rintro e w66 ⟨v811, rfl, ho0, hb⟩
                    refine ⟨_, rfl, ?_⟩
                    have n0_ := Aside0.mk (Kd.R_elder' (by (with_reducible repeat (first | apply Kd.R_alloc | apply Kd.R_drewN | apply Kd.R_drew)); exact HO_3.out) (Kd.R_base ho0) hb)
                    have n1_ := Aside0.mk (Kd.R_below (by (with_reducible repeat (first | apply Kd.R_alloc | apply Kd.R_drewN | apply Kd.R_drew)); exact HO_4.out) hb)
                    have n2_ := Aside0.mk (Kd.N_elder' (by (with_reducible repeat (first | apply Kd.N_alloc | apply Kd.N_drewN | apply Kd.N_drew)); exact HO804.out) (Kd.R_base ho0) hb)
                    have n3_ := Aside0.mk (Kd.R_elder' (by (with_reducible repeat (first | apply Kd.R_alloc | apply Kd.R_drewN | apply Kd.R_drew)); exact HO809.out) (Kd.R_base ho0) hb)
                    have n4_ := Aside0.mk (Kd.R_lower (Kd.R_new' (Kd.R_new' ho0 (Kd.R_lt (by (with_reducible repeat (first | apply Kd.R_alloc | apply Kd.R_drewN | apply Kd.R_drew)); exact HO_3.out))) (Kd.R_lt (by (with_reducible repeat (first | apply Kd.R_alloc | apply Kd.R_drewN | apply Kd.R_drew)); exact HO809.out))) (below_size (by repeat (first | (with_reducible first | exact HB.out | apply below_alloc | apply pw_below_drewN | apply below_drew1 | refine below_set ?_ GE783.out | refine below_set ?_ GE806.out) | exact HB.out))))
                    have n5_ := Aside0.mk (blk_below (g := gb783) (o := .cells #[.int .u8 a0_0, .int .i64 a0_1, .int .i64 a0_2, .int .i64 a0_3, .int .i64 a0_4, .int .i64 a0_5, .slice A0_6 l0_6.length c0_6] 26 (0, 0)) (by (with_reducible repeat (first | refine blk_drewN ?_ _ | refine blk_drew ?_ | refine blk_alloc ?_ _)); exact BK783.out) hb)
                    have n6_ := Aside0.mk (blk_below (g := gb806) (o := .cells #[.int .u8 t796, .int .i64 t797, .int .i64 t798, .int .i64 t799, .int .i64 t800, .int .i64 t801, .slice Ao61 t802.length co61] 26 (0, 0)) (by (with_reducible repeat (first | refine blk_drewN ?_ _ | refine blk_drew ?_ | refine blk_alloc ?_ _)); exact BK806.out) hb)
                    have n7_ := Aside0.mk (below_step (by repeat (first | (with_reducible first | exact HB.out | apply below_alloc | apply pw_below_drewN | apply below_drew1 | refine below_set ?_ GE783.out | refine below_set ?_ GE806.out) | exact HB.out)) hb)
                    clear HO_3
                    clear HO_4
                    clear HO804
                    clear HO809
                    clear BK783
                    clear BK806
                    clear HB
                    have HO_3 := n0_
                    have HO_4 := n1_
                    have HO804 := n2_
                    have HO809 := n3_
                    have HO812 := n4_
                    have BK783 := n5_
                    have BK806 := n6_
                    have HB := n7_
                    clear n0_ n1_ n2_ n3_ n4_ n5_ n6_ n7_
                    (try clear hb)
                    (try clear hb2)
                    (try clear hk)
                    (try clear hi)
                    (try clear ho0)
                    obtain ⟨Ao67, co67, eo67⟩ := Kd.R_slice HO812.out
                    (first | subst eo67 | (injection eo67 with f1_ f2_ f3_; have f4_ := f1_.symm; have f5_ := f3_.symm; clear f1_ f2_ f3_; subst f4_; subst f5_))
                    refine hK.out _ _ ⟨(blk_cell BK806.out 0).trans rfl, (blk_cell BK806.out 1).trans rfl, (blk_cell BK806.out 2).trans rfl, (blk_cell BK806.out 3).trans rfl, (blk_cell BK806.out 4).trans rfl, (blk_cell BK806.out 5).trans rfl, (blk_cell BK806.out 6).trans rfl⟩ (fun hHeld => ?_)
                    clear hK K
                    refine norm_ (a' := ?_) ?_ ?_
                    rotate_left
                    · show Act.put _ (some 47) _ = _
                      simp only [Act.put, List.setIfInBounds_toArray, List.set_cons_zero, List.set_cons_succ, i64_w, i32_w]
                      rfl
                    refine one_ (i := 12) (N := some 48) #[true, true, true, true, true, true, true, true, true, true, true, true, true, true, false, false, false, false, false, false, false] rfl rfl (one_of HT_.out (by kernel_rfl)) (by decide) (fun K hK => ?_)
                    refine goes_ Try.func55 (by kernel_rfl) rfl #[.slice Ao54 t787.length co54, .slice Ao67 t810.length co67] (by rfl) rfl rfl (by (try simp only [List.map_toArray, List.map_cons, List.map_nil]); first | done | rfl | (simp only [List.length_drop, List.length_take]; rfl)) ?_
                    with_reducible refine (flat_Changed.calls _ _ t787 _ _ t810 t813 _ ?side1 ?side2 ?side3 ?side4 A30.out).mono ?_
                    (case side1 => repeat (first | exact (Kd.R_reads' HO_3.out).2.2 | (with_reducible refine Kd.C_alloc ?_ _) | (with_reducible refine Kd.C_drewN ?_ _) | (with_reducible refine Kd.C_drew ?_)))
                    (case side2 => exact (Kd.R_reads' HO_3.out).2.1)
                    (case side3 => repeat (first | exact (Kd.R_reads' HO812.out).2.2 | (with_reducible refine Kd.C_alloc ?_ _) | (with_reducible refine Kd.C_drewN ?_ _) | (with_reducible refine Kd.C_drew ?_)))
                    (case side4 => exact (Kd.R_reads' HO812.out).2.1)
                    rintro e w68 ⟨v814, rfl, ho0, hb⟩
                    refine ⟨_, rfl, ?_⟩
                    have n0_ := Aside0.mk (Kd.R_elder' (by (with_reducible repeat (first | apply Kd.R_alloc | apply Kd.R_drewN | apply Kd.R_drew)); exact HO_3.out) (Kd.R_base ho0) hb)
                    have n1_ := Aside0.mk (Kd.R_below (by (with_reducible repeat (first | apply Kd.R_alloc | apply Kd.R_drewN | apply Kd.R_drew)); exact HO_4.out) hb)
                    have n2_ := Aside0.mk (Kd.N_elder' (by (with_reducible repeat (first | apply Kd.N_alloc | apply Kd.N_drewN | apply Kd.N_drew)); exact HO804.out) (Kd.R_base ho0) hb)
                    have n3_ := Aside0.mk (Kd.R_elder' (by (with_reducible repeat (first | apply Kd.R_alloc | apply Kd.R_drewN | apply Kd.R_drew)); exact HO809.out) (Kd.R_base ho0) hb)
                    have n4_ := Aside0.mk (Kd.R_elder' (by (with_reducible repeat (first | apply Kd.R_alloc | apply Kd.R_drewN | apply Kd.R_drew)); exact HO812.out) (Kd.R_base ho0) hb)
                    have n5_ := Aside0.mk (Kd.R_lower (Kd.R_new' (Kd.R_new' (Kd.R_new' ho0 (Kd.R_lt (by (with_reducible repeat (first | apply Kd.R_alloc | apply Kd.R_drewN | apply Kd.R_drew)); exact HO_3.out))) (Kd.R_lt (by (with_reducible repeat (first | apply Kd.R_alloc | apply Kd.R_drewN | apply Kd.R_drew)); exact HO809.out))) (Kd.R_lt (by (with_reducible repeat (first | apply Kd.R_alloc | apply Kd.R_drewN | apply Kd.R_drew)); exact HO812.out))) (below_size (by repeat (first | (with_reducible first | exact HB.out | apply below_alloc | apply pw_below_drewN | apply below_drew1 | refine below_set ?_ GE783.out | refine below_set ?_ GE806.out) | exact HB.out))))
                    have n6_ := Aside0.mk (blk_below (g := gb783) (o := .cells #[.int .u8 a0_0, .int .i64 a0_1, .int .i64 a0_2, .int .i64 a0_3, .int .i64 a0_4, .int .i64 a0_5, .slice A0_6 l0_6.length c0_6] 26 (0, 0)) (by (with_reducible repeat (first | refine blk_drewN ?_ _ | refine blk_drew ?_ | refine blk_alloc ?_ _)); exact BK783.out) hb)
                    have n7_ := Aside0.mk (blk_below (g := gb806) (o := .cells #[.int .u8 t796, .int .i64 t797, .int .i64 t798, .int .i64 t799, .int .i64 t800, .int .i64 t801, .slice Ao61 t802.length co61] 26 (0, 0)) (by (with_reducible repeat (first | refine blk_drewN ?_ _ | refine blk_drew ?_ | refine blk_alloc ?_ _)); exact BK806.out) hb)
                    have n8_ := Aside0.mk (below_step (by repeat (first | (with_reducible first | exact HB.out | apply below_alloc | apply pw_below_drewN | apply below_drew1 | refine below_set ?_ GE783.out | refine below_set ?_ GE806.out) | exact HB.out)) hb)
                    clear HO_3
                    clear HO_4
                    clear HO804
                    clear HO809
                    clear HO812
                    clear BK783
                    clear BK806
                    clear HB
                    have HO_3 := n0_
                    have HO_4 := n1_
                    have HO804 := n2_
                    have HO809 := n3_
                    have HO812 := n4_
                    have HO815 := n5_
                    have BK783 := n6_
                    have BK806 := n7_
                    have HB := n8_
                    clear n0_ n1_ n2_ n3_ n4_ n5_ n6_ n7_ n8_
                    (try clear hb)
                    (try clear hb2)
                    (try clear hk)
                    (try clear hi)
                    (try clear ho0)
                    refine hK.out _ _ ⟨(blk_cell BK806.out 0).trans rfl, (blk_cell BK806.out 1).trans rfl, (blk_cell BK806.out 2).trans rfl, (blk_cell BK806.out 3).trans rfl, (blk_cell BK806.out 4).trans rfl, (blk_cell BK806.out 5).trans rfl, (blk_cell BK806.out 6).trans rfl⟩ (fun hHeld => ?_)
                    clear hK K
                    refine norm_ (a' := ?_) ?_ ?_
                    rotate_left
                    · show Act.put _ (some 48) _ = _
                      simp only [Act.put, List.setIfInBounds_toArray, List.set_cons_zero, List.set_cons_succ, i64_w, i32_w]
                      rfl
                    refine one_ (i := 14) (N := some 50) #[true, true, true, true, true, true, true, true, true, true, true, true, true, true, true, false, false, false, false, false, false] rfl rfl (one_of HT_.out (by kernel_rfl)) (by decide) (fun K hK => ?_)
                    refine goes_ Try.func39 (by kernel_rfl) rfl #[.agg #[.int .u8 t796, .int .i64 t797, .int .i64 t798, .int .i64 t799, .int .i64 t800, .int .i64 t801, .slice Ao61 t802.length co61]] (by rfl) rfl rfl (by (try simp only [List.map_toArray, List.map_cons, List.map_nil]); first | done | rfl | (simp only [List.length_drop, List.length_take]; rfl)) ?_
                    with_reducible refine (sashref07_List.calls k2 t796 t797 t798 t799 t800 t801 _ _ t802 t816 _ ?side1 ?side2 A31.out).mono ?_
                    (case side1 => repeat (first | exact (Kd.N_reads' HO804.out).2.2 | (with_reducible refine Kd.C_alloc ?_ _) | (with_reducible refine Kd.C_drewN ?_ _) | (with_reducible refine Kd.C_drew ?_)))
                    (case side2 => exact (Kd.N_reads' HO804.out).2.1)
                    rintro e w69 ⟨v817, rfl, ho0, hb⟩
                    refine ⟨_, rfl, ?_⟩
                    have n0_ := Aside0.mk (Kd.R_elder' (by (with_reducible repeat (first | apply Kd.R_alloc | apply Kd.R_drewN | apply Kd.R_drew)); exact HO_3.out) (Kd.R_base ho0) hb)
                    have n1_ := Aside0.mk (Kd.R_below (by (with_reducible repeat (first | apply Kd.R_alloc | apply Kd.R_drewN | apply Kd.R_drew)); exact HO_4.out) hb)
                    have n2_ := Aside0.mk (Kd.N_elder' (by (with_reducible repeat (first | apply Kd.N_alloc | apply Kd.N_drewN | apply Kd.N_drew)); exact HO804.out) (Kd.R_base ho0) hb)
                    have n3_ := Aside0.mk (Kd.R_elder' (by (with_reducible repeat (first | apply Kd.R_alloc | apply Kd.R_drewN | apply Kd.R_drew)); exact HO809.out) (Kd.R_base ho0) hb)
                    have n4_ := Aside0.mk (Kd.R_elder' (by (with_reducible repeat (first | apply Kd.R_alloc | apply Kd.R_drewN | apply Kd.R_drew)); exact HO812.out) (Kd.R_base ho0) hb)
                    have n5_ := Aside0.mk (Kd.R_elder' (by (with_reducible repeat (first | apply Kd.R_alloc | apply Kd.R_drewN | apply Kd.R_drew)); exact HO815.out) (Kd.R_base ho0) hb)
                    have n6_ := Aside0.mk (Kd.R_lower (Kd.R_new' (Kd.R_new' (Kd.R_new' (Kd.R_new' ho0 (Kd.R_lt (by (with_reducible repeat (first | apply Kd.R_alloc | apply Kd.R_drewN | apply Kd.R_drew)); exact HO_3.out))) (Kd.R_lt (by (with_reducible repeat (first | apply Kd.R_alloc | apply Kd.R_drewN | apply Kd.R_drew)); exact HO809.out))) (Kd.R_lt (by (with_reducible repeat (first | apply Kd.R_alloc | apply Kd.R_drewN | apply Kd.R_drew)); exact HO812.out))) (Kd.R_lt (by (with_reducible repeat (first | apply Kd.R_alloc | apply Kd.R_drewN | apply Kd.R_drew)); exact HO815.out))) (below_size (by repeat (first | (with_reducible first | exact HB.out | apply below_alloc | apply pw_below_drewN | apply below_drew1 | refine below_set ?_ GE783.out | refine below_set ?_ GE806.out) | exact HB.out))))
                    have n7_ := Aside0.mk (blk_below (g := gb783) (o := .cells #[.int .u8 a0_0, .int .i64 a0_1, .int .i64 a0_2, .int .i64 a0_3, .int .i64 a0_4, .int .i64 a0_5, .slice A0_6 l0_6.length c0_6] 26 (0, 0)) (by (with_reducible repeat (first | refine blk_drewN ?_ _ | refine blk_drew ?_ | refine blk_alloc ?_ _)); exact BK783.out) hb)
                    have n8_ := Aside0.mk (blk_below (g := gb806) (o := .cells #[.int .u8 t796, .int .i64 t797, .int .i64 t798, .int .i64 t799, .int .i64 t800, .int .i64 t801, .slice Ao61 t802.length co61] 26 (0, 0)) (by (with_reducible repeat (first | refine blk_drewN ?_ _ | refine blk_drew ?_ | refine blk_alloc ?_ _)); exact BK806.out) hb)
                    have n9_ := Aside0.mk (below_step (by repeat (first | (with_reducible first | exact HB.out | apply below_alloc | apply pw_below_drewN | apply below_drew1 | refine below_set ?_ GE783.out | refine below_set ?_ GE806.out) | exact HB.out)) hb)
                    clear HO_3
                    clear HO_4
                    clear HO804
                    clear HO809
                    clear HO812
                    clear HO815
                    clear BK783
                    clear BK806
                    clear HB
                    have HO_3 := n0_
                    have HO_4 := n1_
                    have HO804 := n2_
                    have HO809 := n3_
                    have HO812 := n4_
                    have HO815 := n5_
                    have HO818 := n6_
                    have BK783 := n7_
                    have BK806 := n8_
                    have HB := n9_
                    clear n0_ n1_ n2_ n3_ n4_ n5_ n6_ n7_ n8_ n9_
                    (try clear hb)
                    (try clear hb2)
                    (try clear hk)
                    (try clear hi)
                    (try clear ho0)
                    obtain ⟨Ao70, co70, eo70⟩ := Kd.R_slice HO815.out
                    (first | subst eo70 | (injection eo70 with f1_ f2_ f3_; have f4_ := f1_.symm; have f5_ := f3_.symm; clear f1_ f2_ f3_; subst f4_; subst f5_))
                    obtain ⟨Ao71, co71, eo71⟩ := Kd.R_slice HO818.out
                    (first | subst eo71 | (injection eo71 with f1_ f2_ f3_; have f4_ := f1_.symm; have f5_ := f3_.symm; clear f1_ f2_ f3_; subst f4_; subst f5_))
                    refine hK.out _ _ ⟨(blk_cell BK806.out 0).trans rfl, (blk_cell BK806.out 1).trans rfl, (blk_cell BK806.out 2).trans rfl, (blk_cell BK806.out 3).trans rfl, (blk_cell BK806.out 4).trans rfl, (blk_cell BK806.out 5).trans rfl, (blk_cell BK806.out 6).trans rfl⟩ (fun hHeld => ?_)
                    clear hK K
                    refine norm_ (a' := ?_) ?_ ?_
                    rotate_left
                    · show Act.put _ (some 50) _ = _
                      simp only [Act.put, List.setIfInBounds_toArray, List.set_cons_zero, List.set_cons_succ, i64_w, i32_w]
                      rfl
                    refine one_ (i := 15) (N := some 51) #[true, true, true, true, true, true, true, true, true, true, true, true, true, true, true, true, false, false, false, false, false] rfl rfl (one_of HT_.out (by kernel_rfl)) (by decide) (fun K hK => ?_)
                    refine goes_ Try.func42 (by kernel_rfl) rfl #[.slice Ao70 t813.length co70, .slice Ao71 t816.length co71] (by rfl) rfl rfl (by (try simp only [List.map_toArray, List.map_cons, List.map_nil]); first | done | rfl | (simp only [List.length_drop, List.length_take]; rfl)) ?_
                    with_reducible refine (sashref07_Same.calls k2 _ _ t813 _ _ t816 false _ ?side1 ?side2 ?side3 ?side4 A32.out).mono ?_
                    (case side1 => repeat (first | exact (Kd.R_reads' HO815.out).2.2 | (with_reducible refine Kd.C_alloc ?_ _) | (with_reducible refine Kd.C_drewN ?_ _) | (with_reducible refine Kd.C_drew ?_)))
                    (case side2 => exact (Kd.R_reads' HO815.out).2.1)
                    (case side3 => repeat (first | exact (Kd.R_reads' HO818.out).2.2 | (with_reducible refine Kd.C_alloc ?_ _) | (with_reducible refine Kd.C_drewN ?_ _) | (with_reducible refine Kd.C_drew ?_)))
                    (case side4 => exact (Kd.R_reads' HO818.out).2.1)
                    rintro e w' ⟨rfl, ⟨nd, rfl⟩⟩
                    refine ⟨_, rfl, ?_⟩
                    refine hK.out _ _ ⟨(blk_cell BK806.out 0).trans rfl, (blk_cell BK806.out 1).trans rfl, (blk_cell BK806.out 2).trans rfl, (blk_cell BK806.out 3).trans rfl, (blk_cell BK806.out 4).trans rfl, (blk_cell BK806.out 5).trans rfl, (blk_cell BK806.out 6).trans rfl⟩ (fun hHeld => ?_)
                    clear hK K
                    refine norm_ (a' := ?_) ?_ ?_
                    rotate_left
                    · show Act.put _ (some 51) _ = _
                      simp only [Act.put, List.setIfInBounds_toArray, List.set_cons_zero, List.set_cons_succ, i64_w, i32_w]
                      rfl
                    refine pure_ (i := 16) (N := some 52) (v := ?_) (a' := ?_) #[true, true, true, true, true, true, true, true, true, true, true, true, true, true, true, true, true, false, false, false, false] rfl rfl (any_of HT_.out (by kernel_rfl)) (fun _ _ _ h => h) (Or.inl ⟨by rfl, ?_⟩) ?_ ?_
                    rotate_left
                    · intro w'
                      go_simp
                      with_reducible rfl
                    rotate_left
                    · simp only [Act.put, List.setIfInBounds_toArray, List.set_cons_zero, List.set_cons_succ, i64_w, i32_w]
                      rfl
                    refine pure_ (i := 17) (N := some 53) (v := ?_) (a' := ?_) #[true, true, true, true, true, true, true, true, true, true, true, true, true, true, true, true, true, true, false, false, false] rfl rfl (any_of HT_.out (by kernel_rfl)) (fun _ _ _ h => h) (Or.inl ⟨by rfl, ?_⟩) ?_ ?_
                    rotate_left
                    · intro w'
                      go_simp
                      with_reducible rfl
                    rotate_left
                    · simp only [Act.put, List.setIfInBounds_toArray, List.set_cons_zero, List.set_cons_succ, i64_w, i32_w]
                      rfl
                    refine pure_ (i := 18) (N := some 54) (v := undef) (a' := ?_) #[true, true, true, true, true, true, true, true, true, true, true, true, true, true, true, true, true, true, true, false, false] rfl rfl (any_of HT_.out (by kernel_rfl)) (fun _ _ _ h => h) (Or.inr ⟨by rfl, rfl⟩) ?_ ?_
                    rotate_left
                    · simp only [Act.put, List.setIfInBounds_toArray, List.set_cons_zero, List.set_cons_succ, i64_w, i32_w]
                      rfl
                    refine pure_ (i := 19) (N := some 55) (v := ?_) (a' := ?_) #[true, true, true, true, true, true, true, true, true, true, true, true, true, true, true, true, true, true, true, true, false] rfl rfl (any_of HT_.out (by kernel_rfl)) (fun _ _ _ h => h) (Or.inl ⟨by rfl, ?_⟩) ?_ ?_
                    rotate_left
                    · intro w'
                      go_simp
                      with_reducible rfl
                    rotate_left
                    · simp only [Act.put, List.setIfInBounds_toArray, List.set_cons_zero, List.set_cons_succ, i64_w, i32_w]
                      rfl
                    refine pure_ (i := 20) (N := some 2) (v := ?_) (a' := ?_) #[true, true, true, true, true, true, true, true, true, true, true, true, true, true, true, true, true, true, true, true, true] rfl rfl (any_of HT_.out (by kernel_rfl)) (fun _ _ _ h => h) (Or.inl ⟨by rfl, ?_⟩) ?_ ?_
                    rotate_left
                    · intro w'
                      go_simp
                      with_reducible rfl
                    rotate_left
                    · simp only [Act.put, List.setIfInBounds_toArray, List.set_cons_zero, List.set_cons_succ, i64_w, i32_w]
                      rfl
                    refine done_ (done_of HT_.out (by kernel_rfl)) ?_
                    try go_wp2
                    go_ret
                    exact ⟨by first | rfl | (simp [errW_none, errW_some] <;> rfl) | (simp [*, errW_none, errW_some] <;> rfl), by repeat (first | (with_reducible first | exact HB.out | apply below_alloc | apply pw_below_drewN | apply below_drew1 | refine below_set ?_ GE783.out | refine below_set ?_ GE806.out) | exact HB.out)⟩
                · rw [if_neg c28] at H
                  have c28b0 : ((t807.length : Int) == 0) = false := beq_eq_false_iff_ne.mpr c28
                  have c28b1 : ((t807.length : Int) != 0) = true := bne_iff_ne.mpr c28
                  have c28b2 : ¬ (t807 = []) := fun h_ => c28 (by rw [h_]; rfl)
                  obtain rfl := Option.some.inj H
                  obtain ⟨Ao72, co72, eo72⟩ := Kd.R_slice HO_3.out
                  subst eo72
                  have hcz73_0 : wr.cell? ⟨gb783, 0, none⟩ = some (.int .u8 a0_0) := (blk_cell BK783.out 0).trans rfl
                  have hcz73_1 : wr.cell? ⟨gb783, 1, none⟩ = some (.int .i64 a0_1) := (blk_cell BK783.out 1).trans rfl
                  have hcz73_2 : wr.cell? ⟨gb783, 2, none⟩ = some (.int .i64 a0_2) := (blk_cell BK783.out 2).trans rfl
                  have hcz73_3 : wr.cell? ⟨gb783, 3, none⟩ = some (.int .i64 a0_3) := (blk_cell BK783.out 3).trans rfl
                  have hcz73_4 : wr.cell? ⟨gb783, 4, none⟩ = some (.int .i64 a0_4) := (blk_cell BK783.out 4).trans rfl
                  have hcz73_5 : wr.cell? ⟨gb783, 5, none⟩ = some (.int .i64 a0_5) := (blk_cell BK783.out 5).trans rfl
                  have hcz73_6 : wr.cell? ⟨gb783, 6, none⟩ = some (.slice A0_6 l0_6.length c0_6) := (blk_cell BK783.out 6).trans rfl
                  have hfz73_0 := blk_frozen BK783.out 0
                  have hfz73_1 := blk_frozen BK783.out 1
                  have hfz73_2 := blk_frozen BK783.out 2
                  have hfz73_3 := blk_frozen BK783.out 3
                  have hfz73_4 := blk_frozen BK783.out 4
                  have hfz73_5 := blk_frozen BK783.out 5
                  have hfz73_6 := blk_frozen BK783.out 6
                  obtain ⟨Ao74, co74, eo74⟩ := Kd.R_slice HO_4.out
                  subst eo74
                  try go_wp2_with (first | ((with_reducible refine gate_callee (f := 62) rfl ?_); refine goesL_ (some 33) rfl rfl Try.func62 (by kernel_rfl) rfl #[.agg #[.int .u8 a0_0, .int .i64 a0_1, .int .i64 a0_2, .int .i64 a0_3, .int .i64 a0_4, .int .i64 a0_5, .slice A0_6 l0_6.length c0_6], .slice Ao74 x4_2.length co74] rfl (by (try simp only [List.map_toArray, List.map_cons, List.map_nil]); first | done | rfl | (simp only [List.length_drop, List.length_take]; rfl)) ?_; (with_reducible refine (flat_Name.calls k2 a0_0 a0_1 a0_2 a0_3 a0_4 a0_5 (fun k_ => k_ < w.heap.size) _ _ l0_6 (fun k_ => some k_ = (.slice Ao74 x4_2.length co74 : Value).ownBlock) _ _ x4_2 t796 t797 t798 t799 t800 t801 t802 true _ ?side1 ?side2 A25.out).mono ?_); (case side1 => exact Kd.V_mk HC0_6.out (Kd.F_below (Kd.C_F k26_heap HR0_6.out) (by repeat (first | (with_reducible first | exact HB.out | apply below_alloc | apply pw_below_drewN | apply below_drew1 | refine below_set ?_ GE783.out) | exact HB.out)))); (case side2 => exact Kd.R_V (Kd.R_tight rfl (Kd.R_types (Kd.R_apart' (HO_4.out) (Kd.R_typed HO_3.out) (by decide)) BK783.out (by decide)))); rintro e w75 ⟨v803, rfl, ho0, hb⟩; refine ⟨_, rfl, ?_⟩; have n0_ := Aside0.mk (Kd.R_below (by (with_reducible repeat (first | apply Kd.R_alloc | apply Kd.R_drewN | apply Kd.R_drew)); exact HO_3.out) hb); have n1_ := Aside0.mk (Kd.R_below (by (with_reducible repeat (first | apply Kd.R_alloc | apply Kd.R_drewN | apply Kd.R_drew)); exact HO_4.out) hb); have n2_ := Aside0.mk (Kd.N_lower (Kd.N_mono (ok' := fun k_ => some k_ ≠ (.slice Ao72 t787.length co72 : Value).ownBlock ∧ k_ ≠ gb783) ho0 (fun k_ hk_ => ⟨Or.elim hk_ (fun hs_ => Or.elim hs_ (fun hs_ => fun e_ => Nat.not_le.2 hs_ (Kd.R_base HO_3.out k_ e_.symm)) (fun hs_ => ((Kd.R_types (Kd.R_apart' (HO_4.out) (Kd.R_typed HO_3.out) (by decide)) BK783.out (by decide)).1 k_ hs_.symm).1.2)) (fun hn_ => (Kd.fresh' (Kd.R_lt (by (with_reducible repeat (first | apply Kd.R_alloc | apply Kd.R_drewN | apply Kd.R_drew)); exact HO_3.out)) k_ hn_)), Or.elim hk_ (fun hs_ => Or.elim hs_ (fun hs_ => fun e_ => Nat.not_le.2 hs_ (by rw [e_]; exact GW783.out)) (fun hs_ => ((Kd.R_types (Kd.R_apart' (HO_4.out) (Kd.R_typed HO_3.out) (by decide)) BK783.out (by decide)).1 k_ hs_.symm).2)) (fun hn_ => (Kd.freshB (g := gb783) (o := .cells #[.int .u8 a0_0, .int .i64 a0_1, .int .i64 a0_2, .int .i64 a0_3, .int .i64 a0_4, .int .i64 a0_5, .slice A0_6 l0_6.length c0_6] 26 (0, 0)) (by (with_reducible repeat (first | refine blk_drewN ?_ _ | refine blk_drew ?_ | refine blk_alloc ?_ _)); exact BK783.out) k_ hn_))⟩)) (below_size (by repeat (first | (with_reducible first | exact HB.out | apply below_alloc | apply pw_below_drewN | apply below_drew1 | refine below_set ?_ GE783.out) | exact HB.out)))); have n3_ := Aside0.mk (blk_below (g := gb783) (o := .cells #[.int .u8 a0_0, .int .i64 a0_1, .int .i64 a0_2, .int .i64 a0_3, .int .i64 a0_4, .int .i64 a0_5, .slice A0_6 l0_6.length c0_6] 26 (0, 0)) (by (with_reducible repeat (first | refine blk_drewN ?_ _ | refine blk_drew ?_ | refine blk_alloc ?_ _)); exact BK783.out) hb); have n4_ := Aside0.mk (below_step (by repeat (first | (with_reducible first | exact HB.out | apply below_alloc | apply pw_below_drewN | apply below_drew1 | refine below_set ?_ GE783.out) | exact HB.out)) hb); clear HO_3; clear HO_4; clear BK783; clear HB; have HO_3 := n0_; have HO_4 := n1_; have HO804 := n2_; have BK783 := n3_; have HB := n4_; clear n0_ n1_ n2_ n3_ n4_; (try clear hb); (try clear hb2); (try clear hk); (try clear hi); (try clear ho0)) | ((with_reducible refine gate_dst (N := 6) rfl ?_); (try (refine gate_guard (by rfl) ?_; dsimp only)); refine box_event ?hg (N := 6) ?hd (cs := #[.int .u8 0, .int .i64 0, .int .i64 0, .int .i64 0, .int .i64 0, .int .i64 0, .slice none 0 0]) (t := 26) ?hr ?_; (case hd => rfl); (case hg => rfl); (case hr => first | (go_simp; done) | (go_simp; rfl)); intro gb806 hg w76 hbox hb; have n0_ := Aside0.mk (Kd.R_below (by (with_reducible repeat (first | apply Kd.R_alloc | apply Kd.R_drewN | apply Kd.R_drew)); exact HO_3.out) hb); have n1_ := Aside0.mk (Kd.R_below (by (with_reducible repeat (first | apply Kd.R_alloc | apply Kd.R_drewN | apply Kd.R_drew)); exact HO_4.out) hb); have n2_ := Aside0.mk (Kd.N_below (Kd.N_elderB (by (with_reducible repeat (first | apply Kd.N_alloc | apply Kd.N_drewN | apply Kd.N_drew)); exact HO804.out) gb806 (Nat.le_of_eq hg.symm)) hb); have n3_ := Aside0.mk (blk_below (g := gb783) (o := .cells #[.int .u8 a0_0, .int .i64 a0_1, .int .i64 a0_2, .int .i64 a0_3, .int .i64 a0_4, .int .i64 a0_5, .slice A0_6 l0_6.length c0_6] 26 (0, 0)) (by (with_reducible repeat (first | refine blk_drewN ?_ _ | refine blk_drew ?_ | refine blk_alloc ?_ _)); exact BK783.out) hb); have n4_ := Aside0.mk (below_step (by repeat (first | (with_reducible first | exact HB.out | apply below_alloc | apply pw_below_drewN | apply below_drew1 | refine below_set ?_ GE783.out) | exact HB.out)) hb); have n5_ := Aside0.mk (hbox); have n6_ := Aside0.mk ((by rw [hg]; exact (below_size (by repeat (first | (with_reducible first | exact HB.out | apply below_alloc | apply pw_below_drewN | apply below_drew1 | refine below_set ?_ GE783.out) | exact HB.out))) : w.heap.size ≤ gb806)); have n7_ := Aside0.mk ((by rw [hg]; exact (below_size (by repeat (first | (with_reducible first | exact HB.out | apply below_alloc | apply pw_below_drewN | apply below_drew1 | refine below_set ?_ GE783.out) | exact HB.out))) : w.heap.size ≤ gb806)); have n8_ := Aside0.mk ((by rw [hg]; exact Nat.ne_of_lt (blk_lt (g := gb783) (o := .cells #[.int .u8 a0_0, .int .i64 a0_1, .int .i64 a0_2, .int .i64 a0_3, .int .i64 a0_4, .int .i64 a0_5, .slice A0_6 l0_6.length c0_6] 26 (0, 0)) (by (with_reducible repeat (first | refine blk_drewN ?_ _ | refine blk_drew ?_ | refine blk_alloc ?_ _)); exact BK783.out)) : gb783 ≠ gb806)); have n9_ := Aside0.mk ((by rw [hg]; exact Nat.ne_of_gt (blk_lt (g := gb783) (o := .cells #[.int .u8 a0_0, .int .i64 a0_1, .int .i64 a0_2, .int .i64 a0_3, .int .i64 a0_4, .int .i64 a0_5, .slice A0_6 l0_6.length c0_6] 26 (0, 0)) (by (with_reducible repeat (first | refine blk_drewN ?_ _ | refine blk_drew ?_ | refine blk_alloc ?_ _)); exact BK783.out)) : gb806 ≠ gb783)); clear HO_3; clear HO_4; clear HO804; clear BK783; clear HB; have HO_3 := n0_; have HO_4 := n1_; have HO804 := n2_; have BK783 := n3_; have HB := n4_; have BK806 := n5_; have GW806 := n6_; have GE806 := n7_; have NB783_806 := n8_; have NB806_783 := n9_; clear n0_ n1_ n2_ n3_ n4_ n5_ n6_ n7_ n8_ n9_; clear hb hbox hg; have hnb77 := NB806_783.out; have hnc77 := NB783_806.out; have hcz78_0 : w76.cell? ⟨gb806, 0, none⟩ = some (.int .u8 0) := (blk_cell BK806.out 0).trans rfl; have hcz78_1 : w76.cell? ⟨gb806, 1, none⟩ = some (.int .i64 0) := (blk_cell BK806.out 1).trans rfl; have hcz78_2 : w76.cell? ⟨gb806, 2, none⟩ = some (.int .i64 0) := (blk_cell BK806.out 2).trans rfl; have hcz78_3 : w76.cell? ⟨gb806, 3, none⟩ = some (.int .i64 0) := (blk_cell BK806.out 3).trans rfl; have hcz78_4 : w76.cell? ⟨gb806, 4, none⟩ = some (.int .i64 0) := (blk_cell BK806.out 4).trans rfl; have hcz78_5 : w76.cell? ⟨gb806, 5, none⟩ = some (.int .i64 0) := (blk_cell BK806.out 5).trans rfl; have hcz78_6 : w76.cell? ⟨gb806, 6, none⟩ = some (.slice none 0 0) := (blk_cell BK806.out 6).trans rfl; have hfz78_0 := blk_frozen BK806.out 0; have hfz78_1 := blk_frozen BK806.out 1; have hfz78_2 := blk_frozen BK806.out 2; have hfz78_3 := blk_frozen BK806.out 3; have hfz78_4 := blk_frozen BK806.out 4; have hfz78_5 := blk_frozen BK806.out 5; have hfz78_6 := blk_frozen BK806.out 6; obtain ⟨Ao79, co79, eo79⟩ := Kd.N_slice HO804.out; subst eo79))
                  have n0_ : Aside0 (Kd.R k35 35 (((((((w76.setCell ⟨gb806, 0, none⟩ (.int .u8 t796)).setCell ⟨gb806, 1, none⟩ (.int .i64 t797)).setCell ⟨gb806, 2, none⟩ (.int .i64 t798)).setCell ⟨gb806, 3, none⟩ (.int .i64 t799)).setCell ⟨gb806, 4, none⟩ (.int .i64 t800)).setCell ⟨gb806, 5, none⟩ (.int .i64 t801)).setCell ⟨gb806, 6, none⟩ (.slice Ao79 t802.length co79)) w.heap.size (fun _ => True) (.slice Ao72 t787.length co72) t787) := ⟨by (with_reducible repeat (first | apply Kd.R_alloc | apply Kd.R_drewN | apply Kd.R_drew)); exact Kd.R_mono (Kd.R_far (p := ⟨gb806, 6, none⟩) (Kd.R_far (p := ⟨gb806, 5, none⟩) (Kd.R_far (p := ⟨gb806, 4, none⟩) (Kd.R_far (p := ⟨gb806, 3, none⟩) (Kd.R_far (p := ⟨gb806, 2, none⟩) (Kd.R_far (p := ⟨gb806, 1, none⟩) (Kd.R_far (p := ⟨gb806, 0, none⟩) (Kd.R_types HO_3.out BK806.out (by decide)) (fun _ hk => hk.2) (.int .u8 t796)) (fun _ hk => hk.2) (.int .i64 t797)) (fun _ hk => hk.2) (.int .i64 t798)) (fun _ hk => hk.2) (.int .i64 t799)) (fun _ hk => hk.2) (.int .i64 t800)) (fun _ hk => hk.2) (.int .i64 t801)) (fun _ hk => hk.2) (.slice Ao79 t802.length co79)) (fun _ hk => trivial)⟩
                  have n1_ : Aside0 (Kd.R (Kd.int .i64) 3 (((((((w76.setCell ⟨gb806, 0, none⟩ (.int .u8 t796)).setCell ⟨gb806, 1, none⟩ (.int .i64 t797)).setCell ⟨gb806, 2, none⟩ (.int .i64 t798)).setCell ⟨gb806, 3, none⟩ (.int .i64 t799)).setCell ⟨gb806, 4, none⟩ (.int .i64 t800)).setCell ⟨gb806, 5, none⟩ (.int .i64 t801)).setCell ⟨gb806, 6, none⟩ (.slice Ao79 t802.length co79)) w.heap.size (fun _ => True) (.slice Ao74 x4_2.length co74) x4_2) := ⟨by (with_reducible repeat (first | apply Kd.R_alloc | apply Kd.R_drewN | apply Kd.R_drew)); exact Kd.R_mono (Kd.R_far (p := ⟨gb806, 6, none⟩) (Kd.R_far (p := ⟨gb806, 5, none⟩) (Kd.R_far (p := ⟨gb806, 4, none⟩) (Kd.R_far (p := ⟨gb806, 3, none⟩) (Kd.R_far (p := ⟨gb806, 2, none⟩) (Kd.R_far (p := ⟨gb806, 1, none⟩) (Kd.R_far (p := ⟨gb806, 0, none⟩) (Kd.R_types HO_4.out BK806.out (by decide)) (fun _ hk => hk.2) (.int .u8 t796)) (fun _ hk => hk.2) (.int .i64 t797)) (fun _ hk => hk.2) (.int .i64 t798)) (fun _ hk => hk.2) (.int .i64 t799)) (fun _ hk => hk.2) (.int .i64 t800)) (fun _ hk => hk.2) (.int .i64 t801)) (fun _ hk => hk.2) (.slice Ao79 t802.length co79)) (fun _ hk => trivial)⟩
                  have n2_ : Aside0 (Kd.N k26 26 (((((((w76.setCell ⟨gb806, 0, none⟩ (.int .u8 t796)).setCell ⟨gb806, 1, none⟩ (.int .i64 t797)).setCell ⟨gb806, 2, none⟩ (.int .i64 t798)).setCell ⟨gb806, 3, none⟩ (.int .i64 t799)).setCell ⟨gb806, 4, none⟩ (.int .i64 t800)).setCell ⟨gb806, 5, none⟩ (.int .i64 t801)).setCell ⟨gb806, 6, none⟩ (.slice Ao79 t802.length co79)) w.heap.size (fun k_ => some k_ ≠ (.slice Ao72 t787.length co72 : Value).ownBlock ∧ k_ ≠ gb783 ∧ k_ ≠ gb806) (.slice Ao79 t802.length co79) t802) := ⟨by (with_reducible repeat (first | apply Kd.N_alloc | apply Kd.N_drewN | apply Kd.N_drew)); exact Kd.N_mono (Kd.N_far (p := ⟨gb806, 6, none⟩) (Kd.N_far (p := ⟨gb806, 5, none⟩) (Kd.N_far (p := ⟨gb806, 4, none⟩) (Kd.N_far (p := ⟨gb806, 3, none⟩) (Kd.N_far (p := ⟨gb806, 2, none⟩) (Kd.N_far (p := ⟨gb806, 1, none⟩) (Kd.N_far (p := ⟨gb806, 0, none⟩) (Kd.N_mono HO804.out (fun k_ hk => (⟨hk, hk.2⟩ : _ ∧ k_ ≠ gb806))) (fun _ hk => hk.2) (.int .u8 t796)) (fun _ hk => hk.2) (.int .i64 t797)) (fun _ hk => hk.2) (.int .i64 t798)) (fun _ hk => hk.2) (.int .i64 t799)) (fun _ hk => hk.2) (.int .i64 t800)) (fun _ hk => hk.2) (.int .i64 t801)) (fun _ hk => hk.2) (.slice Ao79 t802.length co79)) (fun _ hk => ⟨hk.1.1.1, ⟨hk.1.1.2, hk.1.2⟩⟩)⟩
                  have n3_ : Aside0 ((((((((w76.setCell ⟨gb806, 0, none⟩ (.int .u8 t796)).setCell ⟨gb806, 1, none⟩ (.int .i64 t797)).setCell ⟨gb806, 2, none⟩ (.int .i64 t798)).setCell ⟨gb806, 3, none⟩ (.int .i64 t799)).setCell ⟨gb806, 4, none⟩ (.int .i64 t800)).setCell ⟨gb806, 5, none⟩ (.int .i64 t801)).setCell ⟨gb806, 6, none⟩ (.slice Ao79 t802.length co79)).heap[gb783]? = some (.cells #[.int .u8 a0_0, .int .i64 a0_1, .int .i64 a0_2, .int .i64 a0_3, .int .i64 a0_4, .int .i64 a0_5, .slice A0_6 l0_6.length c0_6] 26 (0, 0))) := ⟨by (with_reducible repeat (first | refine blk_drewN ?_ _ | refine blk_drew ?_ | refine blk_alloc ?_ _)); refine blk_far ?_ NB783_806.out _; (with_reducible repeat (first | refine blk_drewN ?_ _ | refine blk_drew ?_ | refine blk_alloc ?_ _)); refine blk_far ?_ NB783_806.out _; (with_reducible repeat (first | refine blk_drewN ?_ _ | refine blk_drew ?_ | refine blk_alloc ?_ _)); refine blk_far ?_ NB783_806.out _; (with_reducible repeat (first | refine blk_drewN ?_ _ | refine blk_drew ?_ | refine blk_alloc ?_ _)); refine blk_far ?_ NB783_806.out _; (with_reducible repeat (first | refine blk_drewN ?_ _ | refine blk_drew ?_ | refine blk_alloc ?_ _)); refine blk_far ?_ NB783_806.out _; (with_reducible repeat (first | refine blk_drewN ?_ _ | refine blk_drew ?_ | refine blk_alloc ?_ _)); refine blk_far ?_ NB783_806.out _; (with_reducible repeat (first | refine blk_drewN ?_ _ | refine blk_drew ?_ | refine blk_alloc ?_ _)); refine blk_far ?_ NB783_806.out _; (with_reducible repeat (first | refine blk_drewN ?_ _ | refine blk_drew ?_ | refine blk_alloc ?_ _)); exact BK783.out⟩
                  have n4_ : Aside0 ((((((((w76.setCell ⟨gb806, 0, none⟩ (.int .u8 t796)).setCell ⟨gb806, 1, none⟩ (.int .i64 t797)).setCell ⟨gb806, 2, none⟩ (.int .i64 t798)).setCell ⟨gb806, 3, none⟩ (.int .i64 t799)).setCell ⟨gb806, 4, none⟩ (.int .i64 t800)).setCell ⟨gb806, 5, none⟩ (.int .i64 t801)).setCell ⟨gb806, 6, none⟩ (.slice Ao79 t802.length co79)).heap[gb806]? = some (.cells #[.int .u8 t796, .int .i64 t797, .int .i64 t798, .int .i64 t799, .int .i64 t800, .int .i64 t801, .slice Ao79 t802.length co79] 26 (0, 0))) := ⟨by (with_reducible repeat (first | refine blk_drewN ?_ _ | refine blk_drew ?_ | refine blk_alloc ?_ _)); refine blk_put (cs := #[.int .u8 t796, .int .i64 t797, .int .i64 t798, .int .i64 t799, .int .i64 t800, .int .i64 t801, .slice none 0 0]) ?_ 6 _ rfl; (with_reducible repeat (first | refine blk_drewN ?_ _ | refine blk_drew ?_ | refine blk_alloc ?_ _)); refine blk_put (cs := #[.int .u8 t796, .int .i64 t797, .int .i64 t798, .int .i64 t799, .int .i64 t800, .int .i64 0, .slice none 0 0]) ?_ 5 _ rfl; (with_reducible repeat (first | refine blk_drewN ?_ _ | refine blk_drew ?_ | refine blk_alloc ?_ _)); refine blk_put (cs := #[.int .u8 t796, .int .i64 t797, .int .i64 t798, .int .i64 t799, .int .i64 0, .int .i64 0, .slice none 0 0]) ?_ 4 _ rfl; (with_reducible repeat (first | refine blk_drewN ?_ _ | refine blk_drew ?_ | refine blk_alloc ?_ _)); refine blk_put (cs := #[.int .u8 t796, .int .i64 t797, .int .i64 t798, .int .i64 0, .int .i64 0, .int .i64 0, .slice none 0 0]) ?_ 3 _ rfl; (with_reducible repeat (first | refine blk_drewN ?_ _ | refine blk_drew ?_ | refine blk_alloc ?_ _)); refine blk_put (cs := #[.int .u8 t796, .int .i64 t797, .int .i64 0, .int .i64 0, .int .i64 0, .int .i64 0, .slice none 0 0]) ?_ 2 _ rfl; (with_reducible repeat (first | refine blk_drewN ?_ _ | refine blk_drew ?_ | refine blk_alloc ?_ _)); refine blk_put (cs := #[.int .u8 t796, .int .i64 0, .int .i64 0, .int .i64 0, .int .i64 0, .int .i64 0, .slice none 0 0]) ?_ 1 _ rfl; (with_reducible repeat (first | refine blk_drewN ?_ _ | refine blk_drew ?_ | refine blk_alloc ?_ _)); refine blk_put (cs := #[.int .u8 0, .int .i64 0, .int .i64 0, .int .i64 0, .int .i64 0, .int .i64 0, .slice none 0 0]) ?_ 0 _ rfl; (with_reducible repeat (first | refine blk_drewN ?_ _ | refine blk_drew ?_ | refine blk_alloc ?_ _)); exact BK806.out⟩
                  have n5_ : Aside0 (Below w.heap.size w (((((((w76.setCell ⟨gb806, 0, none⟩ (.int .u8 t796)).setCell ⟨gb806, 1, none⟩ (.int .i64 t797)).setCell ⟨gb806, 2, none⟩ (.int .i64 t798)).setCell ⟨gb806, 3, none⟩ (.int .i64 t799)).setCell ⟨gb806, 4, none⟩ (.int .i64 t800)).setCell ⟨gb806, 5, none⟩ (.int .i64 t801)).setCell ⟨gb806, 6, none⟩ (.slice Ao79 t802.length co79))) := ⟨by repeat (first | (with_reducible first | exact HB.out | apply below_alloc | apply pw_below_drewN | apply below_drew1 | refine below_set ?_ GE783.out | refine below_set ?_ GE806.out) | exact HB.out)⟩
                  (try clear HO_3)
                  (try clear HO_4)
                  (try clear HO804)
                  (try clear BK783)
                  (try clear BK806)
                  (try clear HB)
                  generalize (((((((w76.setCell ⟨gb806, 0, none⟩ (.int .u8 t796)).setCell ⟨gb806, 1, none⟩ (.int .i64 t797)).setCell ⟨gb806, 2, none⟩ (.int .i64 t798)).setCell ⟨gb806, 3, none⟩ (.int .i64 t799)).setCell ⟨gb806, 4, none⟩ (.int .i64 t800)).setCell ⟨gb806, 5, none⟩ (.int .i64 t801)).setCell ⟨gb806, 6, none⟩ (.slice Ao79 t802.length co79)) = w80 at n0_ n1_ n2_ n3_ n4_ n5_ ⊢
                  have HO_3 := n0_
                  have HO_4 := n1_
                  have HO804 := n2_
                  have BK783 := n3_
                  have BK806 := n4_
                  have HB := n5_
                  clear n0_ n1_ n2_ n3_ n4_ n5_
                  have n0_ := Aside0.mk (Kd.R_drew HO_3.out)
                  have n1_ := Aside0.mk (Kd.R_drew HO_4.out)
                  have n2_ := Aside0.mk (Kd.N_drew HO804.out)
                  have n3_ := Aside0.mk (blk_drew BK783.out)
                  have n4_ := Aside0.mk (blk_drew BK806.out)
                  have n5_ := Aside0.mk (below_drew1 HB.out)
                  clear HO_3
                  clear HO_4
                  clear HO804
                  clear BK783
                  clear BK806
                  clear HB
                  have HO_3 := n0_
                  have HO_4 := n1_
                  have HO804 := n2_
                  have BK783 := n3_
                  have BK806 := n4_
                  have HB := n5_
                  clear n0_ n1_ n2_ n3_ n4_ n5_
                  refine start_ (n := 21) (S := fun w' => True) (ds := []) #[false, false, false, false, false, false, false, false, false, false, false, false, false, false, false, false, false, false, false, false, false] (by kernel_rfl) rfl rfl trivial (fun hHeld => ?_); refine with_tabW sashlaw07_FlatStill.tab10 sashlaw07_FlatStill.bits10 (fun HT_ HW_ => ?_)
                  generalize w80.drew = w81 at HO_3 HO_4 HO804 BK783 BK806 HB hHeld ⊢
                  refine pure_ (i := 0) (N := some 36) (v := ?_) (a' := ?_) #[true, false, false, false, false, false, false, false, false, false, false, false, false, false, false, false, false, false, false, false, false] rfl rfl (any_of HT_.out (by kernel_rfl)) (fun _ _ _ h => h) (Or.inl ⟨by rfl, ?_⟩) ?_ ?_
                  rotate_left
                  · intro w'
                    go_simp
                    with_reducible rfl
                  rotate_left
                  · simp only [Act.put, List.setIfInBounds_toArray, List.set_cons_zero, List.set_cons_succ, i64_w, i32_w]
                    rfl
                  refine pure_ (i := 1) (N := some 37) (v := ?_) (a' := ?_) #[true, true, false, false, false, false, false, false, false, false, false, false, false, false, false, false, false, false, false, false, false] rfl rfl (any_of HT_.out (by kernel_rfl)) (fun _ _ _ h => h) (Or.inl ⟨by rfl, ?_⟩) ?_ ?_
                  rotate_left
                  · intro w'
                    go_simp
                    with_reducible rfl
                  rotate_left
                  · simp only [Act.put, List.setIfInBounds_toArray, List.set_cons_zero, List.set_cons_succ, i64_w, i32_w]
                    rfl
                  refine pure_ (i := 2) (N := some 38) (v := ?_) (a' := ?_) #[true, true, true, false, false, false, false, false, false, false, false, false, false, false, false, false, false, false, false, false, false] rfl rfl (any_of HT_.out (by kernel_rfl)) (fun _ _ _ h => h) (Or.inl ⟨by rfl, ?_⟩) ?_ ?_
                  rotate_left
                  · intro w'
                    go_simp
                    with_reducible rfl
                  rotate_left
                  · simp only [Act.put, List.setIfInBounds_toArray, List.set_cons_zero, List.set_cons_succ, i64_w, i32_w]
                    rfl
                  refine pure_ (i := 3) (N := some 39) (v := ?_) (a' := ?_) #[true, true, true, true, false, false, false, false, false, false, false, false, false, false, false, false, false, false, false, false, false] rfl rfl (any_of HT_.out (by kernel_rfl)) (fun _ _ _ h => h) (Or.inl ⟨by rfl, ?_⟩) ?_ ?_
                  rotate_left
                  · intro w'
                    go_simp
                    with_reducible rfl
                  rotate_left
                  · simp only [Act.put, List.setIfInBounds_toArray, List.set_cons_zero, List.set_cons_succ, i64_w, i32_w]
                    rfl
                  refine one_ (i := 4) (N := some 40) #[true, true, true, true, true, false, false, false, false, false, false, false, false, false, false, false, false, false, false, false, false] rfl rfl (one_of HT_.out (by kernel_rfl)) (by decide) (fun K hK => ?_)
                  refine goes_ Try.func55 (by kernel_rfl) rfl #[.slice Ao72 t787.length co72, .slice Ao72 t787.length co72] (by rfl) rfl rfl (by (try simp only [List.map_toArray, List.map_cons, List.map_nil]); first | done | rfl | (simp only [List.length_drop, List.length_take]; rfl)) ?_
                  with_reducible refine (flat_Changed.calls _ _ t787 _ _ t787 t807 _ ?side1 ?side2 ?side3 ?side4 A27.out).mono ?_
                  (case side1 => repeat (first | exact (Kd.R_reads' HO_3.out).2.2 | (with_reducible refine Kd.C_alloc ?_ _) | (with_reducible refine Kd.C_drewN ?_ _) | (with_reducible refine Kd.C_drew ?_)))
                  (case side2 => exact (Kd.R_reads' HO_3.out).2.1)
                  (case side3 => repeat (first | exact (Kd.R_reads' HO_3.out).2.2 | (with_reducible refine Kd.C_alloc ?_ _) | (with_reducible refine Kd.C_drewN ?_ _) | (with_reducible refine Kd.C_drew ?_)))
                  (case side4 => exact (Kd.R_reads' HO_3.out).2.1)
                  rintro e w82 ⟨v808, rfl, ho0, hb⟩
                  refine ⟨_, rfl, ?_⟩
                  have n0_ := Aside0.mk (Kd.R_elder' (by (with_reducible repeat (first | apply Kd.R_alloc | apply Kd.R_drewN | apply Kd.R_drew)); exact HO_3.out) (Kd.R_base ho0) hb)
                  have n1_ := Aside0.mk (Kd.R_below (by (with_reducible repeat (first | apply Kd.R_alloc | apply Kd.R_drewN | apply Kd.R_drew)); exact HO_4.out) hb)
                  have n2_ := Aside0.mk (Kd.N_elder' (by (with_reducible repeat (first | apply Kd.N_alloc | apply Kd.N_drewN | apply Kd.N_drew)); exact HO804.out) (Kd.R_base ho0) hb)
                  have n3_ := Aside0.mk (Kd.R_lower (Kd.R_new' ho0 (Kd.R_lt (by (with_reducible repeat (first | apply Kd.R_alloc | apply Kd.R_drewN | apply Kd.R_drew)); exact HO_3.out))) (below_size (by repeat (first | (with_reducible first | exact HB.out | apply below_alloc | apply pw_below_drewN | apply below_drew1 | refine below_set ?_ GE783.out | refine below_set ?_ GE806.out) | exact HB.out))))
                  have n4_ := Aside0.mk (blk_below (g := gb783) (o := .cells #[.int .u8 a0_0, .int .i64 a0_1, .int .i64 a0_2, .int .i64 a0_3, .int .i64 a0_4, .int .i64 a0_5, .slice A0_6 l0_6.length c0_6] 26 (0, 0)) (by (with_reducible repeat (first | refine blk_drewN ?_ _ | refine blk_drew ?_ | refine blk_alloc ?_ _)); exact BK783.out) hb)
                  have n5_ := Aside0.mk (blk_below (g := gb806) (o := .cells #[.int .u8 t796, .int .i64 t797, .int .i64 t798, .int .i64 t799, .int .i64 t800, .int .i64 t801, .slice Ao79 t802.length co79] 26 (0, 0)) (by (with_reducible repeat (first | refine blk_drewN ?_ _ | refine blk_drew ?_ | refine blk_alloc ?_ _)); exact BK806.out) hb)
                  have n6_ := Aside0.mk (below_step (by repeat (first | (with_reducible first | exact HB.out | apply below_alloc | apply pw_below_drewN | apply below_drew1 | refine below_set ?_ GE783.out | refine below_set ?_ GE806.out) | exact HB.out)) hb)
                  clear HO_3
                  clear HO_4
                  clear HO804
                  clear BK783
                  clear BK806
                  clear HB
                  have HO_3 := n0_
                  have HO_4 := n1_
                  have HO804 := n2_
                  have HO809 := n3_
                  have BK783 := n4_
                  have BK806 := n5_
                  have HB := n6_
                  clear n0_ n1_ n2_ n3_ n4_ n5_ n6_
                  (try clear hb)
                  (try clear hb2)
                  (try clear hk)
                  (try clear hi)
                  (try clear ho0)
                  obtain ⟨Ao83, co83, eo83⟩ := Kd.R_slice HO809.out
                  (first | subst eo83 | (injection eo83 with f1_ f2_ f3_; have f4_ := f1_.symm; have f5_ := f3_.symm; clear f1_ f2_ f3_; subst f4_; subst f5_))
                  refine hK.out _ _ trivial (fun hHeld => ?_)
                  clear hK K
                  refine norm_ (a' := ?_) ?_ ?_
                  rotate_left
                  · show Act.put _ (some 40) _ = _
                    simp only [Act.put, List.setIfInBounds_toArray, List.set_cons_zero, List.set_cons_succ, i64_w, i32_w]
                    rfl
                  refine pure_ (i := 5) (N := some 41) (v := ?_) (a' := ?_) #[true, true, true, true, true, true, false, false, false, false, false, false, false, false, false, false, false, false, false, false, false] rfl rfl (any_of HT_.out (by kernel_rfl)) (fun _ _ _ h => h) (Or.inl ⟨by rfl, ?_⟩) ?_ ?_
                  rotate_left
                  · intro w'
                    go_simp
                    with_reducible rfl
                  rotate_left
                  · simp only [Act.put, List.setIfInBounds_toArray, List.set_cons_zero, List.set_cons_succ, i64_w, i32_w]
                    rfl
                  refine pure_ (i := 6) (N := some 42) (v := ?_) (a' := ?_) #[true, true, true, true, true, true, true, false, false, false, false, false, false, false, false, false, false, false, false, false, false] rfl rfl (any_of HT_.out (by kernel_rfl)) (fun _ _ _ h => h) (Or.inl ⟨by rfl, ?_⟩) ?_ ?_
                  rotate_left
                  · intro w'
                    go_simp
                    with_reducible rfl
                  rotate_left
                  · simp only [Act.put, List.setIfInBounds_toArray, List.set_cons_zero, List.set_cons_succ, i64_w, i32_w]
                    rfl
                  refine pure_ (i := 7) (N := some 43) (v := ?_) (a' := ?_) #[true, true, true, true, true, true, true, true, false, false, false, false, false, false, false, false, false, false, false, false, false] rfl rfl (any_of HT_.out (by kernel_rfl)) (fun _ _ _ h => h) (Or.inl ⟨by rfl, ?_⟩) ?_ ?_
                  rotate_left
                  · intro w'
                    go_simp
                    with_reducible rfl
                  rotate_left
                  · simp only [Act.put, List.setIfInBounds_toArray, List.set_cons_zero, List.set_cons_succ, i64_w, i32_w]
                    rfl
                  refine pure_ (i := 8) (N := some 44) (v := ?_) (a' := ?_) #[true, true, true, true, true, true, true, true, true, false, false, false, false, false, false, false, false, false, false, false, false] rfl rfl (any_of HT_.out (by kernel_rfl)) (fun _ _ _ h => h) (Or.inl ⟨by rfl, ?_⟩) ?_ ?_
                  rotate_left
                  · intro w'
                    go_simp
                    with_reducible rfl
                  rotate_left
                  · simp only [Act.put, List.setIfInBounds_toArray, List.set_cons_zero, List.set_cons_succ, i64_w, i32_w]
                    rfl
                  refine pure_ (i := 9) (N := some 45) (v := undef) (a' := ?_) #[true, true, true, true, true, true, true, true, true, true, false, false, false, false, false, false, false, false, false, false, false] rfl rfl (any_of HT_.out (by kernel_rfl)) (fun _ _ _ h => h) (Or.inr ⟨by rfl, rfl⟩) ?_ ?_
                  rotate_left
                  · simp only [Act.put, List.setIfInBounds_toArray, List.set_cons_zero, List.set_cons_succ, i64_w, i32_w]
                    rfl
                  refine pure_ (i := 10) (N := some 46) (v := undef) (a' := ?_) #[true, true, true, true, true, true, true, true, true, true, true, false, false, false, false, false, false, false, false, false, false] rfl rfl (any_of HT_.out (by kernel_rfl)) (fun _ _ _ h => h) (Or.inr ⟨by rfl, rfl⟩) ?_ ?_
                  rotate_left
                  · simp only [Act.put, List.setIfInBounds_toArray, List.set_cons_zero, List.set_cons_succ, i64_w, i32_w]
                    rfl
                  refine pure_ (i := 11) (N := some 47) (v := undef) (a' := ?_) #[true, true, true, true, true, true, true, true, true, true, true, true, false, false, false, false, false, false, false, false, false] rfl rfl (any_of HT_.out (by kernel_rfl)) (fun _ _ _ h => h) (Or.inr ⟨by rfl, rfl⟩) ?_ ?_
                  rotate_left
                  · simp only [Act.put, List.setIfInBounds_toArray, List.set_cons_zero, List.set_cons_succ, i64_w, i32_w]
                    rfl
                  refine pure_ (i := 12) (N := some 48) (v := undef) (a' := ?_) #[true, true, true, true, true, true, true, true, true, true, true, true, true, false, false, false, false, false, false, false, false] rfl rfl (any_of HT_.out (by kernel_rfl)) (fun _ _ _ h => h) (Or.inr ⟨by rfl, rfl⟩) ?_ ?_
                  rotate_left
                  · simp only [Act.put, List.setIfInBounds_toArray, List.set_cons_zero, List.set_cons_succ, i64_w, i32_w]
                    rfl
                  refine pure_ (i := 13) (N := some 49) (v := undef) (a' := ?_) #[true, true, true, true, true, true, true, true, true, true, true, true, true, true, false, false, false, false, false, false, false] rfl rfl (any_of HT_.out (by kernel_rfl)) (fun _ _ _ h => h) (Or.inr ⟨by rfl, rfl⟩) ?_ ?_
                  rotate_left
                  · simp only [Act.put, List.setIfInBounds_toArray, List.set_cons_zero, List.set_cons_succ, i64_w, i32_w]
                    rfl
                  refine pure_ (i := 14) (N := some 50) (v := undef) (a' := ?_) #[true, true, true, true, true, true, true, true, true, true, true, true, true, true, true, false, false, false, false, false, false] rfl rfl (any_of HT_.out (by kernel_rfl)) (fun _ _ _ h => h) (Or.inr ⟨by rfl, rfl⟩) ?_ ?_
                  rotate_left
                  · simp only [Act.put, List.setIfInBounds_toArray, List.set_cons_zero, List.set_cons_succ, i64_w, i32_w]
                    rfl
                  refine pure_ (i := 15) (N := some 51) (v := undef) (a' := ?_) #[true, true, true, true, true, true, true, true, true, true, true, true, true, true, true, true, false, false, false, false, false] rfl rfl (any_of HT_.out (by kernel_rfl)) (fun _ _ _ h => h) (Or.inr ⟨by rfl, rfl⟩) ?_ ?_
                  rotate_left
                  · simp only [Act.put, List.setIfInBounds_toArray, List.set_cons_zero, List.set_cons_succ, i64_w, i32_w]
                    rfl
                  refine pure_ (i := 16) (N := some 52) (v := ?_) (a' := ?_) #[true, true, true, true, true, true, true, true, true, true, true, true, true, true, true, true, true, false, false, false, false] rfl rfl (any_of HT_.out (by kernel_rfl)) (fun _ _ _ h => h) (Or.inl ⟨by rfl, ?_⟩) ?_ ?_
                  rotate_left
                  · intro w'
                    go_simp
                    with_reducible rfl
                  rotate_left
                  · simp only [Act.put, List.setIfInBounds_toArray, List.set_cons_zero, List.set_cons_succ, i64_w, i32_w]
                    rfl
                  refine pure_ (i := 17) (N := some 53) (v := ?_) (a' := ?_) #[true, true, true, true, true, true, true, true, true, true, true, true, true, true, true, true, true, true, false, false, false] rfl rfl (any_of HT_.out (by kernel_rfl)) (fun _ _ _ h => h) (Or.inl ⟨by rfl, ?_⟩) ?_ ?_
                  rotate_left
                  · intro w'
                    go_simp
                    with_reducible rfl
                  rotate_left
                  · simp only [Act.put, List.setIfInBounds_toArray, List.set_cons_zero, List.set_cons_succ, i64_w, i32_w]
                    rfl
                  refine pure_ (i := 18) (N := some 54) (v := undef) (a' := ?_) #[true, true, true, true, true, true, true, true, true, true, true, true, true, true, true, true, true, true, true, false, false] rfl rfl (any_of HT_.out (by kernel_rfl)) (fun _ _ _ h => h) (Or.inr ⟨by rfl, rfl⟩) ?_ ?_
                  rotate_left
                  · simp only [Act.put, List.setIfInBounds_toArray, List.set_cons_zero, List.set_cons_succ, i64_w, i32_w]
                    rfl
                  refine pure_ (i := 19) (N := some 55) (v := ?_) (a' := ?_) #[true, true, true, true, true, true, true, true, true, true, true, true, true, true, true, true, true, true, true, true, false] rfl rfl (any_of HT_.out (by kernel_rfl)) (fun _ _ _ h => h) (Or.inl ⟨by rfl, ?_⟩) ?_ ?_
                  rotate_left
                  · intro w'
                    go_simp
                    with_reducible rfl
                  rotate_left
                  · simp only [Act.put, List.setIfInBounds_toArray, List.set_cons_zero, List.set_cons_succ, i64_w, i32_w]
                    rfl
                  refine pure_ (i := 20) (N := some 2) (v := ?_) (a' := ?_) #[true, true, true, true, true, true, true, true, true, true, true, true, true, true, true, true, true, true, true, true, true] rfl rfl (any_of HT_.out (by kernel_rfl)) (fun _ _ _ h => h) (Or.inl ⟨by rfl, ?_⟩) ?_ ?_
                  rotate_left
                  · intro w'
                    go_simp
                    with_reducible rfl
                  rotate_left
                  · simp only [Act.put, List.setIfInBounds_toArray, List.set_cons_zero, List.set_cons_succ, i64_w, i32_w]
                    rfl
                  refine done_ (done_of HT_.out (by kernel_rfl)) ?_
                  try go_wp2
                  go_ret
                  exact ⟨by first | rfl | (simp [errW_none, errW_some] <;> rfl) | (simp [*, errW_none, errW_some] <;> rfl), by repeat (first | (with_reducible first | exact HB.out | apply below_alloc | apply pw_below_drewN | apply below_drew1 | refine below_set ?_ GE783.out | refine below_set ?_ GE806.out) | exact HB.out)⟩
              · replace c26 := Bool.eq_false_iff.mpr c26
                subst c26
                have H1 : (some false) = some r := by rw [if_neg (show ¬ (false = true) by decide)] at H; exact H
                clear H
                have H := H1
                clear H1
                obtain rfl := Option.some.inj H
                obtain ⟨Ao84, co84, eo84⟩ := Kd.R_slice HO_3.out
                subst eo84
                have hcz85_0 : wr.cell? ⟨gb783, 0, none⟩ = some (.int .u8 a0_0) := (blk_cell BK783.out 0).trans rfl
                have hcz85_1 : wr.cell? ⟨gb783, 1, none⟩ = some (.int .i64 a0_1) := (blk_cell BK783.out 1).trans rfl
                have hcz85_2 : wr.cell? ⟨gb783, 2, none⟩ = some (.int .i64 a0_2) := (blk_cell BK783.out 2).trans rfl
                have hcz85_3 : wr.cell? ⟨gb783, 3, none⟩ = some (.int .i64 a0_3) := (blk_cell BK783.out 3).trans rfl
                have hcz85_4 : wr.cell? ⟨gb783, 4, none⟩ = some (.int .i64 a0_4) := (blk_cell BK783.out 4).trans rfl
                have hcz85_5 : wr.cell? ⟨gb783, 5, none⟩ = some (.int .i64 a0_5) := (blk_cell BK783.out 5).trans rfl
                have hcz85_6 : wr.cell? ⟨gb783, 6, none⟩ = some (.slice A0_6 l0_6.length c0_6) := (blk_cell BK783.out 6).trans rfl
                have hfz85_0 := blk_frozen BK783.out 0
                have hfz85_1 := blk_frozen BK783.out 1
                have hfz85_2 := blk_frozen BK783.out 2
                have hfz85_3 := blk_frozen BK783.out 3
                have hfz85_4 := blk_frozen BK783.out 4
                have hfz85_5 := blk_frozen BK783.out 5
                have hfz85_6 := blk_frozen BK783.out 6
                obtain ⟨Ao86, co86, eo86⟩ := Kd.R_slice HO_4.out
                subst eo86
                try go_wp2_with (first | ((with_reducible refine gate_callee (f := 62) rfl ?_); refine goesL_ (some 33) rfl rfl Try.func62 (by kernel_rfl) rfl #[.agg #[.int .u8 a0_0, .int .i64 a0_1, .int .i64 a0_2, .int .i64 a0_3, .int .i64 a0_4, .int .i64 a0_5, .slice A0_6 l0_6.length c0_6], .slice Ao86 x4_2.length co86] rfl (by (try simp only [List.map_toArray, List.map_cons, List.map_nil]); first | done | rfl | (simp only [List.length_drop, List.length_take]; rfl)) ?_; (with_reducible refine (flat_Name.calls k2 a0_0 a0_1 a0_2 a0_3 a0_4 a0_5 (fun k_ => k_ < w.heap.size) _ _ l0_6 (fun k_ => some k_ = (.slice Ao86 x4_2.length co86 : Value).ownBlock) _ _ x4_2 t796 t797 t798 t799 t800 t801 t802 false _ ?side1 ?side2 A25.out).mono ?_); (case side1 => exact Kd.V_mk HC0_6.out (Kd.F_below (Kd.C_F k26_heap HR0_6.out) (by repeat (first | (with_reducible first | exact HB.out | apply below_alloc | apply pw_below_drewN | apply below_drew1 | refine below_set ?_ GE783.out) | exact HB.out)))); (case side2 => exact Kd.R_V (Kd.R_tight rfl (Kd.R_types (Kd.R_apart' (HO_4.out) (Kd.R_typed HO_3.out) (by decide)) BK783.out (by decide)))); rintro e w87 ⟨v803, rfl, ho0, hb⟩; refine ⟨_, rfl, ?_⟩; have n0_ := Aside0.mk (Kd.R_below (by (with_reducible repeat (first | apply Kd.R_alloc | apply Kd.R_drewN | apply Kd.R_drew)); exact HO_3.out) hb); have n1_ := Aside0.mk (Kd.R_below (by (with_reducible repeat (first | apply Kd.R_alloc | apply Kd.R_drewN | apply Kd.R_drew)); exact HO_4.out) hb); have n2_ := Aside0.mk (Kd.N_lower (Kd.N_mono (ok' := fun k_ => some k_ ≠ (.slice Ao84 t787.length co84 : Value).ownBlock ∧ k_ ≠ gb783) ho0 (fun k_ hk_ => ⟨Or.elim hk_ (fun hs_ => Or.elim hs_ (fun hs_ => fun e_ => Nat.not_le.2 hs_ (Kd.R_base HO_3.out k_ e_.symm)) (fun hs_ => ((Kd.R_types (Kd.R_apart' (HO_4.out) (Kd.R_typed HO_3.out) (by decide)) BK783.out (by decide)).1 k_ hs_.symm).1.2)) (fun hn_ => (Kd.fresh' (Kd.R_lt (by (with_reducible repeat (first | apply Kd.R_alloc | apply Kd.R_drewN | apply Kd.R_drew)); exact HO_3.out)) k_ hn_)), Or.elim hk_ (fun hs_ => Or.elim hs_ (fun hs_ => fun e_ => Nat.not_le.2 hs_ (by rw [e_]; exact GW783.out)) (fun hs_ => ((Kd.R_types (Kd.R_apart' (HO_4.out) (Kd.R_typed HO_3.out) (by decide)) BK783.out (by decide)).1 k_ hs_.symm).2)) (fun hn_ => (Kd.freshB (g := gb783) (o := .cells #[.int .u8 a0_0, .int .i64 a0_1, .int .i64 a0_2, .int .i64 a0_3, .int .i64 a0_4, .int .i64 a0_5, .slice A0_6 l0_6.length c0_6] 26 (0, 0)) (by (with_reducible repeat (first | refine blk_drewN ?_ _ | refine blk_drew ?_ | refine blk_alloc ?_ _)); exact BK783.out) k_ hn_))⟩)) (below_size (by repeat (first | (with_reducible first | exact HB.out | apply below_alloc | apply pw_below_drewN | apply below_drew1 | refine below_set ?_ GE783.out) | exact HB.out)))); have n3_ := Aside0.mk (blk_below (g := gb783) (o := .cells #[.int .u8 a0_0, .int .i64 a0_1, .int .i64 a0_2, .int .i64 a0_3, .int .i64 a0_4, .int .i64 a0_5, .slice A0_6 l0_6.length c0_6] 26 (0, 0)) (by (with_reducible repeat (first | refine blk_drewN ?_ _ | refine blk_drew ?_ | refine blk_alloc ?_ _)); exact BK783.out) hb); have n4_ := Aside0.mk (below_step (by repeat (first | (with_reducible first | exact HB.out | apply below_alloc | apply pw_below_drewN | apply below_drew1 | refine below_set ?_ GE783.out) | exact HB.out)) hb); clear HO_3; clear HO_4; clear BK783; clear HB; have HO_3 := n0_; have HO_4 := n1_; have HO804 := n2_; have BK783 := n3_; have HB := n4_; clear n0_ n1_ n2_ n3_ n4_; (try clear hb); (try clear hb2); (try clear hk); (try clear hi); (try clear ho0)) | ((with_reducible refine gate_dst (N := 6) rfl ?_); (try (refine gate_guard (by rfl) ?_; dsimp only)); refine box_event ?hg (N := 6) ?hd (cs := #[.int .u8 0, .int .i64 0, .int .i64 0, .int .i64 0, .int .i64 0, .int .i64 0, .slice none 0 0]) (t := 26) ?hr ?_; (case hd => rfl); (case hg => rfl); (case hr => first | (go_simp; done) | (go_simp; rfl)); intro gb806 hg w88 hbox hb; have n0_ := Aside0.mk (Kd.R_below (by (with_reducible repeat (first | apply Kd.R_alloc | apply Kd.R_drewN | apply Kd.R_drew)); exact HO_3.out) hb); have n1_ := Aside0.mk (Kd.R_below (by (with_reducible repeat (first | apply Kd.R_alloc | apply Kd.R_drewN | apply Kd.R_drew)); exact HO_4.out) hb); have n2_ := Aside0.mk (Kd.N_below (Kd.N_elderB (by (with_reducible repeat (first | apply Kd.N_alloc | apply Kd.N_drewN | apply Kd.N_drew)); exact HO804.out) gb806 (Nat.le_of_eq hg.symm)) hb); have n3_ := Aside0.mk (blk_below (g := gb783) (o := .cells #[.int .u8 a0_0, .int .i64 a0_1, .int .i64 a0_2, .int .i64 a0_3, .int .i64 a0_4, .int .i64 a0_5, .slice A0_6 l0_6.length c0_6] 26 (0, 0)) (by (with_reducible repeat (first | refine blk_drewN ?_ _ | refine blk_drew ?_ | refine blk_alloc ?_ _)); exact BK783.out) hb); have n4_ := Aside0.mk (below_step (by repeat (first | (with_reducible first | exact HB.out | apply below_alloc | apply pw_below_drewN | apply below_drew1 | refine below_set ?_ GE783.out) | exact HB.out)) hb); have n5_ := Aside0.mk (hbox); have n6_ := Aside0.mk ((by rw [hg]; exact (below_size (by repeat (first | (with_reducible first | exact HB.out | apply below_alloc | apply pw_below_drewN | apply below_drew1 | refine below_set ?_ GE783.out) | exact HB.out))) : w.heap.size ≤ gb806)); have n7_ := Aside0.mk ((by rw [hg]; exact (below_size (by repeat (first | (with_reducible first | exact HB.out | apply below_alloc | apply pw_below_drewN | apply below_drew1 | refine below_set ?_ GE783.out) | exact HB.out))) : w.heap.size ≤ gb806)); have n8_ := Aside0.mk ((by rw [hg]; exact Nat.ne_of_lt (blk_lt (g := gb783) (o := .cells #[.int .u8 a0_0, .int .i64 a0_1, .int .i64 a0_2, .int .i64 a0_3, .int .i64 a0_4, .int .i64 a0_5, .slice A0_6 l0_6.length c0_6] 26 (0, 0)) (by (with_reducible repeat (first | refine blk_drewN ?_ _ | refine blk_drew ?_ | refine blk_alloc ?_ _)); exact BK783.out)) : gb783 ≠ gb806)); have n9_ := Aside0.mk ((by rw [hg]; exact Nat.ne_of_gt (blk_lt (g := gb783) (o := .cells #[.int .u8 a0_0, .int .i64 a0_1, .int .i64 a0_2, .int .i64 a0_3, .int .i64 a0_4, .int .i64 a0_5, .slice A0_6 l0_6.length c0_6] 26 (0, 0)) (by (with_reducible repeat (first | refine blk_drewN ?_ _ | refine blk_drew ?_ | refine blk_alloc ?_ _)); exact BK783.out)) : gb806 ≠ gb783)); clear HO_3; clear HO_4; clear HO804; clear BK783; clear HB; have HO_3 := n0_; have HO_4 := n1_; have HO804 := n2_; have BK783 := n3_; have HB := n4_; have BK806 := n5_; have GW806 := n6_; have GE806 := n7_; have NB783_806 := n8_; have NB806_783 := n9_; clear n0_ n1_ n2_ n3_ n4_ n5_ n6_ n7_ n8_ n9_; clear hb hbox hg; have hnb89 := NB806_783.out; have hnc89 := NB783_806.out; have hcz90_0 : w88.cell? ⟨gb806, 0, none⟩ = some (.int .u8 0) := (blk_cell BK806.out 0).trans rfl; have hcz90_1 : w88.cell? ⟨gb806, 1, none⟩ = some (.int .i64 0) := (blk_cell BK806.out 1).trans rfl; have hcz90_2 : w88.cell? ⟨gb806, 2, none⟩ = some (.int .i64 0) := (blk_cell BK806.out 2).trans rfl; have hcz90_3 : w88.cell? ⟨gb806, 3, none⟩ = some (.int .i64 0) := (blk_cell BK806.out 3).trans rfl; have hcz90_4 : w88.cell? ⟨gb806, 4, none⟩ = some (.int .i64 0) := (blk_cell BK806.out 4).trans rfl; have hcz90_5 : w88.cell? ⟨gb806, 5, none⟩ = some (.int .i64 0) := (blk_cell BK806.out 5).trans rfl; have hcz90_6 : w88.cell? ⟨gb806, 6, none⟩ = some (.slice none 0 0) := (blk_cell BK806.out 6).trans rfl; have hfz90_0 := blk_frozen BK806.out 0; have hfz90_1 := blk_frozen BK806.out 1; have hfz90_2 := blk_frozen BK806.out 2; have hfz90_3 := blk_frozen BK806.out 3; have hfz90_4 := blk_frozen BK806.out 4; have hfz90_5 := blk_frozen BK806.out 5; have hfz90_6 := blk_frozen BK806.out 6; obtain ⟨Ao91, co91, eo91⟩ := Kd.N_slice HO804.out; subst eo91))
                have n0_ : Aside0 (Kd.R k35 35 (((((((w88.setCell ⟨gb806, 0, none⟩ (.int .u8 t796)).setCell ⟨gb806, 1, none⟩ (.int .i64 t797)).setCell ⟨gb806, 2, none⟩ (.int .i64 t798)).setCell ⟨gb806, 3, none⟩ (.int .i64 t799)).setCell ⟨gb806, 4, none⟩ (.int .i64 t800)).setCell ⟨gb806, 5, none⟩ (.int .i64 t801)).setCell ⟨gb806, 6, none⟩ (.slice Ao91 t802.length co91)) w.heap.size (fun _ => True) (.slice Ao84 t787.length co84) t787) := ⟨by (with_reducible repeat (first | apply Kd.R_alloc | apply Kd.R_drewN | apply Kd.R_drew)); exact Kd.R_mono (Kd.R_far (p := ⟨gb806, 6, none⟩) (Kd.R_far (p := ⟨gb806, 5, none⟩) (Kd.R_far (p := ⟨gb806, 4, none⟩) (Kd.R_far (p := ⟨gb806, 3, none⟩) (Kd.R_far (p := ⟨gb806, 2, none⟩) (Kd.R_far (p := ⟨gb806, 1, none⟩) (Kd.R_far (p := ⟨gb806, 0, none⟩) (Kd.R_types HO_3.out BK806.out (by decide)) (fun _ hk => hk.2) (.int .u8 t796)) (fun _ hk => hk.2) (.int .i64 t797)) (fun _ hk => hk.2) (.int .i64 t798)) (fun _ hk => hk.2) (.int .i64 t799)) (fun _ hk => hk.2) (.int .i64 t800)) (fun _ hk => hk.2) (.int .i64 t801)) (fun _ hk => hk.2) (.slice Ao91 t802.length co91)) (fun _ hk => trivial)⟩
                have n1_ : Aside0 (Kd.R (Kd.int .i64) 3 (((((((w88.setCell ⟨gb806, 0, none⟩ (.int .u8 t796)).setCell ⟨gb806, 1, none⟩ (.int .i64 t797)).setCell ⟨gb806, 2, none⟩ (.int .i64 t798)).setCell ⟨gb806, 3, none⟩ (.int .i64 t799)).setCell ⟨gb806, 4, none⟩ (.int .i64 t800)).setCell ⟨gb806, 5, none⟩ (.int .i64 t801)).setCell ⟨gb806, 6, none⟩ (.slice Ao91 t802.length co91)) w.heap.size (fun _ => True) (.slice Ao86 x4_2.length co86) x4_2) := ⟨by (with_reducible repeat (first | apply Kd.R_alloc | apply Kd.R_drewN | apply Kd.R_drew)); exact Kd.R_mono (Kd.R_far (p := ⟨gb806, 6, none⟩) (Kd.R_far (p := ⟨gb806, 5, none⟩) (Kd.R_far (p := ⟨gb806, 4, none⟩) (Kd.R_far (p := ⟨gb806, 3, none⟩) (Kd.R_far (p := ⟨gb806, 2, none⟩) (Kd.R_far (p := ⟨gb806, 1, none⟩) (Kd.R_far (p := ⟨gb806, 0, none⟩) (Kd.R_types HO_4.out BK806.out (by decide)) (fun _ hk => hk.2) (.int .u8 t796)) (fun _ hk => hk.2) (.int .i64 t797)) (fun _ hk => hk.2) (.int .i64 t798)) (fun _ hk => hk.2) (.int .i64 t799)) (fun _ hk => hk.2) (.int .i64 t800)) (fun _ hk => hk.2) (.int .i64 t801)) (fun _ hk => hk.2) (.slice Ao91 t802.length co91)) (fun _ hk => trivial)⟩
                have n2_ : Aside0 (Kd.N k26 26 (((((((w88.setCell ⟨gb806, 0, none⟩ (.int .u8 t796)).setCell ⟨gb806, 1, none⟩ (.int .i64 t797)).setCell ⟨gb806, 2, none⟩ (.int .i64 t798)).setCell ⟨gb806, 3, none⟩ (.int .i64 t799)).setCell ⟨gb806, 4, none⟩ (.int .i64 t800)).setCell ⟨gb806, 5, none⟩ (.int .i64 t801)).setCell ⟨gb806, 6, none⟩ (.slice Ao91 t802.length co91)) w.heap.size (fun k_ => some k_ ≠ (.slice Ao84 t787.length co84 : Value).ownBlock ∧ k_ ≠ gb783 ∧ k_ ≠ gb806) (.slice Ao91 t802.length co91) t802) := ⟨by (with_reducible repeat (first | apply Kd.N_alloc | apply Kd.N_drewN | apply Kd.N_drew)); exact Kd.N_mono (Kd.N_far (p := ⟨gb806, 6, none⟩) (Kd.N_far (p := ⟨gb806, 5, none⟩) (Kd.N_far (p := ⟨gb806, 4, none⟩) (Kd.N_far (p := ⟨gb806, 3, none⟩) (Kd.N_far (p := ⟨gb806, 2, none⟩) (Kd.N_far (p := ⟨gb806, 1, none⟩) (Kd.N_far (p := ⟨gb806, 0, none⟩) (Kd.N_mono HO804.out (fun k_ hk => (⟨hk, hk.2⟩ : _ ∧ k_ ≠ gb806))) (fun _ hk => hk.2) (.int .u8 t796)) (fun _ hk => hk.2) (.int .i64 t797)) (fun _ hk => hk.2) (.int .i64 t798)) (fun _ hk => hk.2) (.int .i64 t799)) (fun _ hk => hk.2) (.int .i64 t800)) (fun _ hk => hk.2) (.int .i64 t801)) (fun _ hk => hk.2) (.slice Ao91 t802.length co91)) (fun _ hk => ⟨hk.1.1.1, ⟨hk.1.1.2, hk.1.2⟩⟩)⟩
                have n3_ : Aside0 ((((((((w88.setCell ⟨gb806, 0, none⟩ (.int .u8 t796)).setCell ⟨gb806, 1, none⟩ (.int .i64 t797)).setCell ⟨gb806, 2, none⟩ (.int .i64 t798)).setCell ⟨gb806, 3, none⟩ (.int .i64 t799)).setCell ⟨gb806, 4, none⟩ (.int .i64 t800)).setCell ⟨gb806, 5, none⟩ (.int .i64 t801)).setCell ⟨gb806, 6, none⟩ (.slice Ao91 t802.length co91)).heap[gb783]? = some (.cells #[.int .u8 a0_0, .int .i64 a0_1, .int .i64 a0_2, .int .i64 a0_3, .int .i64 a0_4, .int .i64 a0_5, .slice A0_6 l0_6.length c0_6] 26 (0, 0))) := ⟨by (with_reducible repeat (first | refine blk_drewN ?_ _ | refine blk_drew ?_ | refine blk_alloc ?_ _)); refine blk_far ?_ NB783_806.out _; (with_reducible repeat (first | refine blk_drewN ?_ _ | refine blk_drew ?_ | refine blk_alloc ?_ _)); refine blk_far ?_ NB783_806.out _; (with_reducible repeat (first | refine blk_drewN ?_ _ | refine blk_drew ?_ | refine blk_alloc ?_ _)); refine blk_far ?_ NB783_806.out _; (with_reducible repeat (first | refine blk_drewN ?_ _ | refine blk_drew ?_ | refine blk_alloc ?_ _)); refine blk_far ?_ NB783_806.out _; (with_reducible repeat (first | refine blk_drewN ?_ _ | refine blk_drew ?_ | refine blk_alloc ?_ _)); refine blk_far ?_ NB783_806.out _; (with_reducible repeat (first | refine blk_drewN ?_ _ | refine blk_drew ?_ | refine blk_alloc ?_ _)); refine blk_far ?_ NB783_806.out _; (with_reducible repeat (first | refine blk_drewN ?_ _ | refine blk_drew ?_ | refine blk_alloc ?_ _)); refine blk_far ?_ NB783_806.out _; (with_reducible repeat (first | refine blk_drewN ?_ _ | refine blk_drew ?_ | refine blk_alloc ?_ _)); exact BK783.out⟩
                have n4_ : Aside0 ((((((((w88.setCell ⟨gb806, 0, none⟩ (.int .u8 t796)).setCell ⟨gb806, 1, none⟩ (.int .i64 t797)).setCell ⟨gb806, 2, none⟩ (.int .i64 t798)).setCell ⟨gb806, 3, none⟩ (.int .i64 t799)).setCell ⟨gb806, 4, none⟩ (.int .i64 t800)).setCell ⟨gb806, 5, none⟩ (.int .i64 t801)).setCell ⟨gb806, 6, none⟩ (.slice Ao91 t802.length co91)).heap[gb806]? = some (.cells #[.int .u8 t796, .int .i64 t797, .int .i64 t798, .int .i64 t799, .int .i64 t800, .int .i64 t801, .slice Ao91 t802.length co91] 26 (0, 0))) := ⟨by (with_reducible repeat (first | refine blk_drewN ?_ _ | refine blk_drew ?_ | refine blk_alloc ?_ _)); refine blk_put (cs := #[.int .u8 t796, .int .i64 t797, .int .i64 t798, .int .i64 t799, .int .i64 t800, .int .i64 t801, .slice none 0 0]) ?_ 6 _ rfl; (with_reducible repeat (first | refine blk_drewN ?_ _ | refine blk_drew ?_ | refine blk_alloc ?_ _)); refine blk_put (cs := #[.int .u8 t796, .int .i64 t797, .int .i64 t798, .int .i64 t799, .int .i64 t800, .int .i64 0, .slice none 0 0]) ?_ 5 _ rfl; (with_reducible repeat (first | refine blk_drewN ?_ _ | refine blk_drew ?_ | refine blk_alloc ?_ _)); refine blk_put (cs := #[.int .u8 t796, .int .i64 t797, .int .i64 t798, .int .i64 t799, .int .i64 0, .int .i64 0, .slice none 0 0]) ?_ 4 _ rfl; (with_reducible repeat (first | refine blk_drewN ?_ _ | refine blk_drew ?_ | refine blk_alloc ?_ _)); refine blk_put (cs := #[.int .u8 t796, .int .i64 t797, .int .i64 t798, .int .i64 0, .int .i64 0, .int .i64 0, .slice none 0 0]) ?_ 3 _ rfl; (with_reducible repeat (first | refine blk_drewN ?_ _ | refine blk_drew ?_ | refine blk_alloc ?_ _)); refine blk_put (cs := #[.int .u8 t796, .int .i64 t797, .int .i64 0, .int .i64 0, .int .i64 0, .int .i64 0, .slice none 0 0]) ?_ 2 _ rfl; (with_reducible repeat (first | refine blk_drewN ?_ _ | refine blk_drew ?_ | refine blk_alloc ?_ _)); refine blk_put (cs := #[.int .u8 t796, .int .i64 0, .int .i64 0, .int .i64 0, .int .i64 0, .int .i64 0, .slice none 0 0]) ?_ 1 _ rfl; (with_reducible repeat (first | refine blk_drewN ?_ _ | refine blk_drew ?_ | refine blk_alloc ?_ _)); refine blk_put (cs := #[.int .u8 0, .int .i64 0, .int .i64 0, .int .i64 0, .int .i64 0, .int .i64 0, .slice none 0 0]) ?_ 0 _ rfl; (with_reducible repeat (first | refine blk_drewN ?_ _ | refine blk_drew ?_ | refine blk_alloc ?_ _)); exact BK806.out⟩
                have n5_ : Aside0 (Below w.heap.size w (((((((w88.setCell ⟨gb806, 0, none⟩ (.int .u8 t796)).setCell ⟨gb806, 1, none⟩ (.int .i64 t797)).setCell ⟨gb806, 2, none⟩ (.int .i64 t798)).setCell ⟨gb806, 3, none⟩ (.int .i64 t799)).setCell ⟨gb806, 4, none⟩ (.int .i64 t800)).setCell ⟨gb806, 5, none⟩ (.int .i64 t801)).setCell ⟨gb806, 6, none⟩ (.slice Ao91 t802.length co91))) := ⟨by repeat (first | (with_reducible first | exact HB.out | apply below_alloc | apply pw_below_drewN | apply below_drew1 | refine below_set ?_ GE783.out | refine below_set ?_ GE806.out) | exact HB.out)⟩
                (try clear HO_3)
                (try clear HO_4)
                (try clear HO804)
                (try clear BK783)
                (try clear BK806)
                (try clear HB)
                generalize (((((((w88.setCell ⟨gb806, 0, none⟩ (.int .u8 t796)).setCell ⟨gb806, 1, none⟩ (.int .i64 t797)).setCell ⟨gb806, 2, none⟩ (.int .i64 t798)).setCell ⟨gb806, 3, none⟩ (.int .i64 t799)).setCell ⟨gb806, 4, none⟩ (.int .i64 t800)).setCell ⟨gb806, 5, none⟩ (.int .i64 t801)).setCell ⟨gb806, 6, none⟩ (.slice Ao91 t802.length co91)) = w92 at n0_ n1_ n2_ n3_ n4_ n5_ ⊢
                have HO_3 := n0_
                have HO_4 := n1_
                have HO804 := n2_
                have BK783 := n3_
                have BK806 := n4_
                have HB := n5_
                clear n0_ n1_ n2_ n3_ n4_ n5_
                have n0_ := Aside0.mk (Kd.R_drew HO_3.out)
                have n1_ := Aside0.mk (Kd.R_drew HO_4.out)
                have n2_ := Aside0.mk (Kd.N_drew HO804.out)
                have n3_ := Aside0.mk (blk_drew BK783.out)
                have n4_ := Aside0.mk (blk_drew BK806.out)
                have n5_ := Aside0.mk (below_drew1 HB.out)
                clear HO_3
                clear HO_4
                clear HO804
                clear BK783
                clear BK806
                clear HB
                have HO_3 := n0_
                have HO_4 := n1_
                have HO804 := n2_
                have BK783 := n3_
                have BK806 := n4_
                have HB := n5_
                clear n0_ n1_ n2_ n3_ n4_ n5_
                refine start_ (n := 21) (S := fun w' => True) (ds := []) #[false, false, false, false, false, false, false, false, false, false, false, false, false, false, false, false, false, false, false, false, false] (by kernel_rfl) rfl rfl trivial (fun hHeld => ?_); refine with_tabW sashlaw07_FlatStill.tab10 sashlaw07_FlatStill.bits10 (fun HT_ HW_ => ?_)
                generalize w92.drew = w93 at HO_3 HO_4 HO804 BK783 BK806 HB hHeld ⊢
                refine pure_ (i := 0) (N := some 36) (v := ?_) (a' := ?_) #[true, false, false, false, false, false, false, false, false, false, false, false, false, false, false, false, false, false, false, false, false] rfl rfl (any_of HT_.out (by kernel_rfl)) (fun _ _ _ h => h) (Or.inl ⟨by rfl, ?_⟩) ?_ ?_
                rotate_left
                · intro w'
                  go_simp
                  with_reducible rfl
                rotate_left
                · simp only [Act.put, List.setIfInBounds_toArray, List.set_cons_zero, List.set_cons_succ, i64_w, i32_w]
                  rfl
                refine pure_ (i := 1) (N := some 37) (v := ?_) (a' := ?_) #[true, true, false, false, false, false, false, false, false, false, false, false, false, false, false, false, false, false, false, false, false] rfl rfl (any_of HT_.out (by kernel_rfl)) (fun _ _ _ h => h) (Or.inl ⟨by rfl, ?_⟩) ?_ ?_
                rotate_left
                · intro w'
                  go_simp
                  with_reducible rfl
                rotate_left
                · simp only [Act.put, List.setIfInBounds_toArray, List.set_cons_zero, List.set_cons_succ, i64_w, i32_w]
                  rfl
                refine pure_ (i := 2) (N := some 38) (v := undef) (a' := ?_) #[true, true, true, false, false, false, false, false, false, false, false, false, false, false, false, false, false, false, false, false, false] rfl rfl (any_of HT_.out (by kernel_rfl)) (fun _ _ _ h => h) (Or.inr ⟨by rfl, rfl⟩) ?_ ?_
                rotate_left
                · simp only [Act.put, List.setIfInBounds_toArray, List.set_cons_zero, List.set_cons_succ, i64_w, i32_w]
                  rfl
                refine pure_ (i := 3) (N := some 39) (v := undef) (a' := ?_) #[true, true, true, true, false, false, false, false, false, false, false, false, false, false, false, false, false, false, false, false, false] rfl rfl (any_of HT_.out (by kernel_rfl)) (fun _ _ _ h => h) (Or.inr ⟨by rfl, rfl⟩) ?_ ?_
                rotate_left
                · simp only [Act.put, List.setIfInBounds_toArray, List.set_cons_zero, List.set_cons_succ, i64_w, i32_w]
                  rfl
                refine pure_ (i := 4) (N := some 40) (v := undef) (a' := ?_) #[true, true, true, true, true, false, false, false, false, false, false, false, false, false, false, false, false, false, false, false, false] rfl rfl (any_of HT_.out (by kernel_rfl)) (fun _ _ _ h => h) (Or.inr ⟨by rfl, rfl⟩) ?_ ?_
                rotate_left
                · simp only [Act.put, List.setIfInBounds_toArray, List.set_cons_zero, List.set_cons_succ, i64_w, i32_w]
                  rfl
                refine pure_ (i := 5) (N := some 41) (v := undef) (a' := ?_) #[true, true, true, true, true, true, false, false, false, false, false, false, false, false, false, false, false, false, false, false, false] rfl rfl (any_of HT_.out (by kernel_rfl)) (fun _ _ _ h => h) (Or.inr ⟨by rfl, rfl⟩) ?_ ?_
                rotate_left
                · simp only [Act.put, List.setIfInBounds_toArray, List.set_cons_zero, List.set_cons_succ, i64_w, i32_w]
                  rfl
                refine pure_ (i := 6) (N := some 42) (v := undef) (a' := ?_) #[true, true, true, true, true, true, true, false, false, false, false, false, false, false, false, false, false, false, false, false, false] rfl rfl (any_of HT_.out (by kernel_rfl)) (fun _ _ _ h => h) (Or.inr ⟨by rfl, rfl⟩) ?_ ?_
                rotate_left
                · simp only [Act.put, List.setIfInBounds_toArray, List.set_cons_zero, List.set_cons_succ, i64_w, i32_w]
                  rfl
                refine pure_ (i := 7) (N := some 43) (v := ?_) (a' := ?_) #[true, true, true, true, true, true, true, true, false, false, false, false, false, false, false, false, false, false, false, false, false] rfl rfl (any_of HT_.out (by kernel_rfl)) (fun _ _ _ h => h) (Or.inl ⟨by rfl, ?_⟩) ?_ ?_
                rotate_left
                · intro w'
                  go_simp
                  with_reducible rfl
                rotate_left
                · simp only [Act.put, List.setIfInBounds_toArray, List.set_cons_zero, List.set_cons_succ, i64_w, i32_w]
                  rfl
                refine pure_ (i := 8) (N := some 44) (v := ?_) (a' := ?_) #[true, true, true, true, true, true, true, true, true, false, false, false, false, false, false, false, false, false, false, false, false] rfl rfl (any_of HT_.out (by kernel_rfl)) (fun _ _ _ h => h) (Or.inl ⟨by rfl, ?_⟩) ?_ ?_
                rotate_left
                · intro w'
                  go_simp
                  with_reducible rfl
                rotate_left
                · simp only [Act.put, List.setIfInBounds_toArray, List.set_cons_zero, List.set_cons_succ, i64_w, i32_w]
                  rfl
                refine pure_ (i := 9) (N := some 45) (v := undef) (a' := ?_) #[true, true, true, true, true, true, true, true, true, true, false, false, false, false, false, false, false, false, false, false, false] rfl rfl (any_of HT_.out (by kernel_rfl)) (fun _ _ _ h => h) (Or.inr ⟨by rfl, rfl⟩) ?_ ?_
                rotate_left
                · simp only [Act.put, List.setIfInBounds_toArray, List.set_cons_zero, List.set_cons_succ, i64_w, i32_w]
                  rfl
                refine pure_ (i := 10) (N := some 46) (v := undef) (a' := ?_) #[true, true, true, true, true, true, true, true, true, true, true, false, false, false, false, false, false, false, false, false, false] rfl rfl (any_of HT_.out (by kernel_rfl)) (fun _ _ _ h => h) (Or.inr ⟨by rfl, rfl⟩) ?_ ?_
                rotate_left
                · simp only [Act.put, List.setIfInBounds_toArray, List.set_cons_zero, List.set_cons_succ, i64_w, i32_w]
                  rfl
                refine pure_ (i := 11) (N := some 47) (v := undef) (a' := ?_) #[true, true, true, true, true, true, true, true, true, true, true, true, false, false, false, false, false, false, false, false, false] rfl rfl (any_of HT_.out (by kernel_rfl)) (fun _ _ _ h => h) (Or.inr ⟨by rfl, rfl⟩) ?_ ?_
                rotate_left
                · simp only [Act.put, List.setIfInBounds_toArray, List.set_cons_zero, List.set_cons_succ, i64_w, i32_w]
                  rfl
                refine pure_ (i := 12) (N := some 48) (v := undef) (a' := ?_) #[true, true, true, true, true, true, true, true, true, true, true, true, true, false, false, false, false, false, false, false, false] rfl rfl (any_of HT_.out (by kernel_rfl)) (fun _ _ _ h => h) (Or.inr ⟨by rfl, rfl⟩) ?_ ?_
                rotate_left
                · simp only [Act.put, List.setIfInBounds_toArray, List.set_cons_zero, List.set_cons_succ, i64_w, i32_w]
                  rfl
                refine pure_ (i := 13) (N := some 49) (v := undef) (a' := ?_) #[true, true, true, true, true, true, true, true, true, true, true, true, true, true, false, false, false, false, false, false, false] rfl rfl (any_of HT_.out (by kernel_rfl)) (fun _ _ _ h => h) (Or.inr ⟨by rfl, rfl⟩) ?_ ?_
                rotate_left
                · simp only [Act.put, List.setIfInBounds_toArray, List.set_cons_zero, List.set_cons_succ, i64_w, i32_w]
                  rfl
                refine pure_ (i := 14) (N := some 50) (v := undef) (a' := ?_) #[true, true, true, true, true, true, true, true, true, true, true, true, true, true, true, false, false, false, false, false, false] rfl rfl (any_of HT_.out (by kernel_rfl)) (fun _ _ _ h => h) (Or.inr ⟨by rfl, rfl⟩) ?_ ?_
                rotate_left
                · simp only [Act.put, List.setIfInBounds_toArray, List.set_cons_zero, List.set_cons_succ, i64_w, i32_w]
                  rfl
                refine pure_ (i := 15) (N := some 51) (v := undef) (a' := ?_) #[true, true, true, true, true, true, true, true, true, true, true, true, true, true, true, true, false, false, false, false, false] rfl rfl (any_of HT_.out (by kernel_rfl)) (fun _ _ _ h => h) (Or.inr ⟨by rfl, rfl⟩) ?_ ?_
                rotate_left
                · simp only [Act.put, List.setIfInBounds_toArray, List.set_cons_zero, List.set_cons_succ, i64_w, i32_w]
                  rfl
                refine pure_ (i := 16) (N := some 52) (v := ?_) (a' := ?_) #[true, true, true, true, true, true, true, true, true, true, true, true, true, true, true, true, true, false, false, false, false] rfl rfl (any_of HT_.out (by kernel_rfl)) (fun _ _ _ h => h) (Or.inl ⟨by rfl, ?_⟩) ?_ ?_
                rotate_left
                · intro w'
                  go_simp
                  with_reducible rfl
                rotate_left
                · simp only [Act.put, List.setIfInBounds_toArray, List.set_cons_zero, List.set_cons_succ, i64_w, i32_w]
                  rfl
                refine pure_ (i := 17) (N := some 53) (v := ?_) (a' := ?_) #[true, true, true, true, true, true, true, true, true, true, true, true, true, true, true, true, true, true, false, false, false] rfl rfl (any_of HT_.out (by kernel_rfl)) (fun _ _ _ h => h) (Or.inl ⟨by rfl, ?_⟩) ?_ ?_
                rotate_left
                · intro w'
                  go_simp
                  with_reducible rfl
                rotate_left
                · simp only [Act.put, List.setIfInBounds_toArray, List.set_cons_zero, List.set_cons_succ, i64_w, i32_w]
                  rfl
                refine pure_ (i := 18) (N := some 54) (v := undef) (a' := ?_) #[true, true, true, true, true, true, true, true, true, true, true, true, true, true, true, true, true, true, true, false, false] rfl rfl (any_of HT_.out (by kernel_rfl)) (fun _ _ _ h => h) (Or.inr ⟨by rfl, rfl⟩) ?_ ?_
                rotate_left
                · simp only [Act.put, List.setIfInBounds_toArray, List.set_cons_zero, List.set_cons_succ, i64_w, i32_w]
                  rfl
                refine pure_ (i := 19) (N := some 55) (v := ?_) (a' := ?_) #[true, true, true, true, true, true, true, true, true, true, true, true, true, true, true, true, true, true, true, true, false] rfl rfl (any_of HT_.out (by kernel_rfl)) (fun _ _ _ h => h) (Or.inl ⟨by rfl, ?_⟩) ?_ ?_
                rotate_left
                · intro w'
                  go_simp
                  with_reducible rfl
                rotate_left
                · simp only [Act.put, List.setIfInBounds_toArray, List.set_cons_zero, List.set_cons_succ, i64_w, i32_w]
                  rfl
                refine pure_ (i := 20) (N := some 2) (v := ?_) (a' := ?_) #[true, true, true, true, true, true, true, true, true, true, true, true, true, true, true, true, true, true, true, true, true] rfl rfl (any_of HT_.out (by kernel_rfl)) (fun _ _ _ h => h) (Or.inl ⟨by rfl, ?_⟩) ?_ ?_
                rotate_left
                · intro w'
                  go_simp
                  with_reducible rfl
                rotate_left
                · simp only [Act.put, List.setIfInBounds_toArray, List.set_cons_zero, List.set_cons_succ, i64_w, i32_w]
                  rfl
                refine done_ (done_of HT_.out (by kernel_rfl)) ?_
                try go_wp2
                go_ret
                exact ⟨by first | rfl | (simp [errW_none, errW_some] <;> rfl) | (simp [*, errW_none, errW_some] <;> rfl), by repeat (first | (with_reducible first | exact HB.out | apply below_alloc | apply pw_below_drewN | apply below_drew1 | refine below_set ?_ GE783.out | refine below_set ?_ GE806.out) | exact HB.out)⟩

end Go.Proofs.Ytfdmfgaiblfbhaa.P
namespace Go.Proofs.Ytfdmfgaiblfbhaa.P
open Go.RowKit Go.Proofs.YtfdmfgaiblfbhaaW.PrintWords Go.Proofs.YtfdmfgaiblfbhaaW.PrintLast Go.Proofs.YtfdmfgaiblfbhaaW.PrintMore
attribute [local go_sem] max2_int min2_int max_two min_two max_three min_three max_four min_four   -- for this text's walks alone
set_option linter.unusedVariables false
set_option linter.unusedSimpArgs false

/-! ### rect_may: function 128 -/
def rect_may.f (a0_0 : Int) (a0_1 : Int) (a0_2 : Int) (a0_3 : Int) : Option (Bool) := if a0_0 ≥ 0 then (if a0_2 ≥ 1 then (if a0_2 ≤ 10000 then (if a0_0 ≤ (wrap64 (10000 - a0_2)) then (if a0_1 ≥ 0 then (if a0_3 ≥ 1 then (if a0_3 ≤ 10000 then (some (decide (a0_1 ≤ (wrap64 (10000 - a0_3))))) else (some false)) else (some false)) else (some false)) else (some false)) else (some false)) else (some false)) else (some false)
set_option maxHeartbeats 8000000 in
set_option maxRecDepth 100000 in
theorem rect_may.calls (a0_0 : Int) (a0_1 : Int) (a0_2 : Int) (a0_3 : Int) (r : Bool) (w : World) (h : rect_may.f a0_0 a0_1 a0_2 a0_3 = some r) :
    Calls Try.prog 128 #[.agg #[.int .i64 a0_0, .int .i64 a0_1, .int .i64 a0_2, .int .i64 a0_3]] w fun e w' => e = .returned (.bool r) ∧ Below w.heap.size w w' := by
  have hu23 := Try.underlying23
  have HB := Aside0.mk (Below.refl w.heap.size w)
  have H : (if a0_0 ≥ 0 then (if a0_2 ≥ 1 then (if a0_2 ≤ 10000 then (if a0_0 ≤ (wrap64 (10000 - a0_2)) then (if a0_1 ≥ 0 then (if a0_3 ≥ 1 then (if a0_3 ≤ 10000 then (some (decide (a0_1 ≤ (wrap64 (10000 - a0_3))))) else (some false)) else (some false)) else (some false)) else (some false)) else (some false)) else (some false)) else (some false)) = some r := h
  clear h
  by_cases c2 : a0_0 ≥ 0
  · rw [if_pos c2] at H
    have c2b0 : decide (0 ≤ a0_0) = true := decide_eq_true c2
    clear c2
    by_cases c3 : a0_2 ≥ 1
    · rw [if_pos c3] at H
      have c3b0 : decide (1 ≤ a0_2) = true := decide_eq_true c3
      clear c3
      by_cases c4 : a0_2 ≤ 10000
      · rw [if_pos c4] at H
        have c4b0 : decide (a0_2 ≤ 10000) = true := decide_eq_true c4
        clear c4
        by_cases c5 : a0_0 ≤ (wrap64 (10000 - a0_2))
        · rw [if_pos c5] at H
          have c5b0 : decide (a0_0 ≤ (wrap64 (10000 - a0_2))) = true := decide_eq_true c5
          clear c5
          by_cases c6 : a0_1 ≥ 0
          · rw [if_pos c6] at H
            have c6b0 : decide (0 ≤ a0_1) = true := decide_eq_true c6
            clear c6
            by_cases c7 : a0_3 ≥ 1
            · rw [if_pos c7] at H
              have c7b0 : decide (1 ≤ a0_3) = true := decide_eq_true c7
              clear c7
              by_cases c8 : a0_3 ≤ 10000
              · rw [if_pos c8] at H
                have c8b0 : decide (a0_3 ≤ 10000) = true := decide_eq_true c8
                clear c8
                obtain rfl := Option.some.inj H
                go_enter Try.func128, Try.ntmps128
                go_wp2_with (first | ((with_reducible refine gate_dst (N := 1) rfl ?_); refine box_event ?hg (N := 1) ?hd (cs := #[.int .i64 a0_0, .int .i64 a0_1, .int .i64 a0_2, .int .i64 a0_3]) (t := 23) ?hr ?_; (case hd => rfl); (case hg => rfl); (case hr => first | (go_simp; done) | (go_simp; rfl)); intro gb245 hg w9 hbox hb; have n0_ := Aside0.mk (below_step (by repeat (first | (with_reducible first | exact HB.out | apply below_alloc | apply pw_below_drewN | apply below_drew1) | exact HB.out)) hb); have n1_ := Aside0.mk (hbox); have n2_ := Aside0.mk ((by rw [hg]; exact (below_size (by repeat (first | (with_reducible first | exact HB.out | apply below_alloc | apply pw_below_drewN | apply below_drew1) | exact HB.out))) : w.heap.size ≤ gb245)); have n3_ := Aside0.mk ((by rw [hg]; exact (below_size (by repeat (first | (with_reducible first | exact HB.out | apply below_alloc | apply pw_below_drewN | apply below_drew1) | exact HB.out))) : w.heap.size ≤ gb245)); clear HB; have HB := n0_; have BK245 := n1_; have GW245 := n2_; have GE245 := n3_; clear n0_ n1_ n2_ n3_; clear hb hbox hg; have hcz10_0 : w9.cell? ⟨gb245, 0, none⟩ = some (.int .i64 a0_0) := (blk_cell BK245.out 0).trans rfl; have hcz10_1 : w9.cell? ⟨gb245, 1, none⟩ = some (.int .i64 a0_1) := (blk_cell BK245.out 1).trans rfl; have hcz10_2 : w9.cell? ⟨gb245, 2, none⟩ = some (.int .i64 a0_2) := (blk_cell BK245.out 2).trans rfl; have hcz10_3 : w9.cell? ⟨gb245, 3, none⟩ = some (.int .i64 a0_3) := (blk_cell BK245.out 3).trans rfl; have hfz10_0 := blk_frozen BK245.out 0; have hfz10_1 := blk_frozen BK245.out 1; have hfz10_2 := blk_frozen BK245.out 2; have hfz10_3 := blk_frozen BK245.out 3))
                go_ret
                exact ⟨by first | rfl | (simp [errW_none, errW_some] <;> rfl) | (simp [*, errW_none, errW_some] <;> rfl), by repeat (first | (with_reducible first | exact HB.out | apply below_alloc | apply pw_below_drewN | apply below_drew1 | refine below_set ?_ GE245.out) | exact HB.out)⟩
              · rw [if_neg c8] at H
                have c8b0 : decide (a0_3 ≤ 10000) = false := decide_eq_false c8
                clear c8
                obtain rfl := Option.some.inj H
                go_enter Try.func128, Try.ntmps128
                go_wp2_with (first | ((with_reducible refine gate_dst (N := 1) rfl ?_); refine box_event ?hg (N := 1) ?hd (cs := #[.int .i64 a0_0, .int .i64 a0_1, .int .i64 a0_2, .int .i64 a0_3]) (t := 23) ?hr ?_; (case hd => rfl); (case hg => rfl); (case hr => first | (go_simp; done) | (go_simp; rfl)); intro gb245 hg w11 hbox hb; have n0_ := Aside0.mk (below_step (by repeat (first | (with_reducible first | exact HB.out | apply below_alloc | apply pw_below_drewN | apply below_drew1) | exact HB.out)) hb); have n1_ := Aside0.mk (hbox); have n2_ := Aside0.mk ((by rw [hg]; exact (below_size (by repeat (first | (with_reducible first | exact HB.out | apply below_alloc | apply pw_below_drewN | apply below_drew1) | exact HB.out))) : w.heap.size ≤ gb245)); have n3_ := Aside0.mk ((by rw [hg]; exact (below_size (by repeat (first | (with_reducible first | exact HB.out | apply below_alloc | apply pw_below_drewN | apply below_drew1) | exact HB.out))) : w.heap.size ≤ gb245)); clear HB; have HB := n0_; have BK245 := n1_; have GW245 := n2_; have GE245 := n3_; clear n0_ n1_ n2_ n3_; clear hb hbox hg; have hcz12_0 : w11.cell? ⟨gb245, 0, none⟩ = some (.int .i64 a0_0) := (blk_cell BK245.out 0).trans rfl; have hcz12_1 : w11.cell? ⟨gb245, 1, none⟩ = some (.int .i64 a0_1) := (blk_cell BK245.out 1).trans rfl; have hcz12_2 : w11.cell? ⟨gb245, 2, none⟩ = some (.int .i64 a0_2) := (blk_cell BK245.out 2).trans rfl; have hcz12_3 : w11.cell? ⟨gb245, 3, none⟩ = some (.int .i64 a0_3) := (blk_cell BK245.out 3).trans rfl; have hfz12_0 := blk_frozen BK245.out 0; have hfz12_1 := blk_frozen BK245.out 1; have hfz12_2 := blk_frozen BK245.out 2; have hfz12_3 := blk_frozen BK245.out 3))
                go_ret
                exact ⟨by first | rfl | (simp [errW_none, errW_some] <;> rfl) | (simp [*, errW_none, errW_some] <;> rfl), by repeat (first | (with_reducible first | exact HB.out | apply below_alloc | apply pw_below_drewN | apply below_drew1 | refine below_set ?_ GE245.out) | exact HB.out)⟩
            · rw [if_neg c7] at H
              have c7b0 : decide (1 ≤ a0_3) = false := decide_eq_false c7
              clear c7
              obtain rfl := Option.some.inj H
              go_enter Try.func128, Try.ntmps128
              go_wp2_with (first | ((with_reducible refine gate_dst (N := 1) rfl ?_); refine box_event ?hg (N := 1) ?hd (cs := #[.int .i64 a0_0, .int .i64 a0_1, .int .i64 a0_2, .int .i64 a0_3]) (t := 23) ?hr ?_; (case hd => rfl); (case hg => rfl); (case hr => first | (go_simp; done) | (go_simp; rfl)); intro gb245 hg w13 hbox hb; have n0_ := Aside0.mk (below_step (by repeat (first | (with_reducible first | exact HB.out | apply below_alloc | apply pw_below_drewN | apply below_drew1) | exact HB.out)) hb); have n1_ := Aside0.mk (hbox); have n2_ := Aside0.mk ((by rw [hg]; exact (below_size (by repeat (first | (with_reducible first | exact HB.out | apply below_alloc | apply pw_below_drewN | apply below_drew1) | exact HB.out))) : w.heap.size ≤ gb245)); have n3_ := Aside0.mk ((by rw [hg]; exact (below_size (by repeat (first | (with_reducible first | exact HB.out | apply below_alloc | apply pw_below_drewN | apply below_drew1) | exact HB.out))) : w.heap.size ≤ gb245)); clear HB; have HB := n0_; have BK245 := n1_; have GW245 := n2_; have GE245 := n3_; clear n0_ n1_ n2_ n3_; clear hb hbox hg; have hcz14_0 : w13.cell? ⟨gb245, 0, none⟩ = some (.int .i64 a0_0) := (blk_cell BK245.out 0).trans rfl; have hcz14_1 : w13.cell? ⟨gb245, 1, none⟩ = some (.int .i64 a0_1) := (blk_cell BK245.out 1).trans rfl; have hcz14_2 : w13.cell? ⟨gb245, 2, none⟩ = some (.int .i64 a0_2) := (blk_cell BK245.out 2).trans rfl; have hcz14_3 : w13.cell? ⟨gb245, 3, none⟩ = some (.int .i64 a0_3) := (blk_cell BK245.out 3).trans rfl; have hfz14_0 := blk_frozen BK245.out 0; have hfz14_1 := blk_frozen BK245.out 1; have hfz14_2 := blk_frozen BK245.out 2; have hfz14_3 := blk_frozen BK245.out 3))
              go_ret
              exact ⟨by first | rfl | (simp [errW_none, errW_some] <;> rfl) | (simp [*, errW_none, errW_some] <;> rfl), by repeat (first | (with_reducible first | exact HB.out | apply below_alloc | apply pw_below_drewN | apply below_drew1 | refine below_set ?_ GE245.out) | exact HB.out)⟩
          · rw [if_neg c6] at H
            have c6b0 : decide (0 ≤ a0_1) = false := decide_eq_false c6
            clear c6
            obtain rfl := Option.some.inj H
            go_enter Try.func128, Try.ntmps128
            go_wp2_with (first | ((with_reducible refine gate_dst (N := 1) rfl ?_); refine box_event ?hg (N := 1) ?hd (cs := #[.int .i64 a0_0, .int .i64 a0_1, .int .i64 a0_2, .int .i64 a0_3]) (t := 23) ?hr ?_; (case hd => rfl); (case hg => rfl); (case hr => first | (go_simp; done) | (go_simp; rfl)); intro gb245 hg w15 hbox hb; have n0_ := Aside0.mk (below_step (by repeat (first | (with_reducible first | exact HB.out | apply below_alloc | apply pw_below_drewN | apply below_drew1) | exact HB.out)) hb); have n1_ := Aside0.mk (hbox); have n2_ := Aside0.mk ((by rw [hg]; exact (below_size (by repeat (first | (with_reducible first | exact HB.out | apply below_alloc | apply pw_below_drewN | apply below_drew1) | exact HB.out))) : w.heap.size ≤ gb245)); have n3_ := Aside0.mk ((by rw [hg]; exact (below_size (by repeat (first | (with_reducible first | exact HB.out | apply below_alloc | apply pw_below_drewN | apply below_drew1) | exact HB.out))) : w.heap.size ≤ gb245)); clear HB; have HB := n0_; have BK245 := n1_; have GW245 := n2_; have GE245 := n3_; clear n0_ n1_ n2_ n3_; clear hb hbox hg; have hcz16_0 : w15.cell? ⟨gb245, 0, none⟩ = some (.int .i64 a0_0) := (blk_cell BK245.out 0).trans rfl; have hcz16_1 : w15.cell? ⟨gb245, 1, none⟩ = some (.int .i64 a0_1) := (blk_cell BK245.out 1).trans rfl; have hcz16_2 : w15.cell? ⟨gb245, 2, none⟩ = some (.int .i64 a0_2) := (blk_cell BK245.out 2).trans rfl; have hcz16_3 : w15.cell? ⟨gb245, 3, none⟩ = some (.int .i64 a0_3) := (blk_cell BK245.out 3).trans rfl; have hfz16_0 := blk_frozen BK245.out 0; have hfz16_1 := blk_frozen BK245.out 1; have hfz16_2 := blk_frozen BK245.out 2; have hfz16_3 := blk_frozen BK245.out 3))
            go_ret
            exact ⟨by first | rfl | (simp [errW_none, errW_some] <;> rfl) | (simp [*, errW_none, errW_some] <;> rfl), by repeat (first | (with_reducible first | exact HB.out | apply below_alloc | apply pw_below_drewN | apply below_drew1 | refine below_set ?_ GE245.out) | exact HB.out)⟩
        · rw [if_neg c5] at H
          have c5b0 : decide (a0_0 ≤ (wrap64 (10000 - a0_2))) = false := decide_eq_false c5
          clear c5
          obtain rfl := Option.some.inj H
          go_enter Try.func128, Try.ntmps128
          go_wp2_with (first | ((with_reducible refine gate_dst (N := 1) rfl ?_); refine box_event ?hg (N := 1) ?hd (cs := #[.int .i64 a0_0, .int .i64 a0_1, .int .i64 a0_2, .int .i64 a0_3]) (t := 23) ?hr ?_; (case hd => rfl); (case hg => rfl); (case hr => first | (go_simp; done) | (go_simp; rfl)); intro gb245 hg w17 hbox hb; have n0_ := Aside0.mk (below_step (by repeat (first | (with_reducible first | exact HB.out | apply below_alloc | apply pw_below_drewN | apply below_drew1) | exact HB.out)) hb); have n1_ := Aside0.mk (hbox); have n2_ := Aside0.mk ((by rw [hg]; exact (below_size (by repeat (first | (with_reducible first | exact HB.out | apply below_alloc | apply pw_below_drewN | apply below_drew1) | exact HB.out))) : w.heap.size ≤ gb245)); have n3_ := Aside0.mk ((by rw [hg]; exact (below_size (by repeat (first | (with_reducible first | exact HB.out | apply below_alloc | apply pw_below_drewN | apply below_drew1) | exact HB.out))) : w.heap.size ≤ gb245)); clear HB; have HB := n0_; have BK245 := n1_; have GW245 := n2_; have GE245 := n3_; clear n0_ n1_ n2_ n3_; clear hb hbox hg; have hcz18_0 : w17.cell? ⟨gb245, 0, none⟩ = some (.int .i64 a0_0) := (blk_cell BK245.out 0).trans rfl; have hcz18_1 : w17.cell? ⟨gb245, 1, none⟩ = some (.int .i64 a0_1) := (blk_cell BK245.out 1).trans rfl; have hcz18_2 : w17.cell? ⟨gb245, 2, none⟩ = some (.int .i64 a0_2) := (blk_cell BK245.out 2).trans rfl; have hcz18_3 : w17.cell? ⟨gb245, 3, none⟩ = some (.int .i64 a0_3) := (blk_cell BK245.out 3).trans rfl; have hfz18_0 := blk_frozen BK245.out 0; have hfz18_1 := blk_frozen BK245.out 1; have hfz18_2 := blk_frozen BK245.out 2; have hfz18_3 := blk_frozen BK245.out 3))
          go_ret
          exact ⟨by first | rfl | (simp [errW_none, errW_some] <;> rfl) | (simp [*, errW_none, errW_some] <;> rfl), by repeat (first | (with_reducible first | exact HB.out | apply below_alloc | apply pw_below_drewN | apply below_drew1 | refine below_set ?_ GE245.out) | exact HB.out)⟩
      · rw [if_neg c4] at H
        have c4b0 : decide (a0_2 ≤ 10000) = false := decide_eq_false c4
        clear c4
        obtain rfl := Option.some.inj H
        go_enter Try.func128, Try.ntmps128
        go_wp2_with (first | ((with_reducible refine gate_dst (N := 1) rfl ?_); refine box_event ?hg (N := 1) ?hd (cs := #[.int .i64 a0_0, .int .i64 a0_1, .int .i64 a0_2, .int .i64 a0_3]) (t := 23) ?hr ?_; (case hd => rfl); (case hg => rfl); (case hr => first | (go_simp; done) | (go_simp; rfl)); intro gb245 hg w19 hbox hb; have n0_ := Aside0.mk (below_step (by repeat (first | (with_reducible first | exact HB.out | apply below_alloc | apply pw_below_drewN | apply below_drew1) | exact HB.out)) hb); have n1_ := Aside0.mk (hbox); have n2_ := Aside0.mk ((by rw [hg]; exact (below_size (by repeat (first | (with_reducible first | exact HB.out | apply below_alloc | apply pw_below_drewN | apply below_drew1) | exact HB.out))) : w.heap.size ≤ gb245)); have n3_ := Aside0.mk ((by rw [hg]; exact (below_size (by repeat (first | (with_reducible first | exact HB.out | apply below_alloc | apply pw_below_drewN | apply below_drew1) | exact HB.out))) : w.heap.size ≤ gb245)); clear HB; have HB := n0_; have BK245 := n1_; have GW245 := n2_; have GE245 := n3_; clear n0_ n1_ n2_ n3_; clear hb hbox hg; have hcz20_0 : w19.cell? ⟨gb245, 0, none⟩ = some (.int .i64 a0_0) := (blk_cell BK245.out 0).trans rfl; have hcz20_1 : w19.cell? ⟨gb245, 1, none⟩ = some (.int .i64 a0_1) := (blk_cell BK245.out 1).trans rfl; have hcz20_2 : w19.cell? ⟨gb245, 2, none⟩ = some (.int .i64 a0_2) := (blk_cell BK245.out 2).trans rfl; have hcz20_3 : w19.cell? ⟨gb245, 3, none⟩ = some (.int .i64 a0_3) := (blk_cell BK245.out 3).trans rfl; have hfz20_0 := blk_frozen BK245.out 0; have hfz20_1 := blk_frozen BK245.out 1; have hfz20_2 := blk_frozen BK245.out 2; have hfz20_3 := blk_frozen BK245.out 3))
        go_ret
        exact ⟨by first | rfl | (simp [errW_none, errW_some] <;> rfl) | (simp [*, errW_none, errW_some] <;> rfl), by repeat (first | (with_reducible first | exact HB.out | apply below_alloc | apply pw_below_drewN | apply below_drew1 | refine below_set ?_ GE245.out) | exact HB.out)⟩
    · rw [if_neg c3] at H
      have c3b0 : decide (1 ≤ a0_2) = false := decide_eq_false c3
      clear c3
      obtain rfl := Option.some.inj H
      go_enter Try.func128, Try.ntmps128
      go_wp2_with (first | ((with_reducible refine gate_dst (N := 1) rfl ?_); refine box_event ?hg (N := 1) ?hd (cs := #[.int .i64 a0_0, .int .i64 a0_1, .int .i64 a0_2, .int .i64 a0_3]) (t := 23) ?hr ?_; (case hd => rfl); (case hg => rfl); (case hr => first | (go_simp; done) | (go_simp; rfl)); intro gb245 hg w21 hbox hb; have n0_ := Aside0.mk (below_step (by repeat (first | (with_reducible first | exact HB.out | apply below_alloc | apply pw_below_drewN | apply below_drew1) | exact HB.out)) hb); have n1_ := Aside0.mk (hbox); have n2_ := Aside0.mk ((by rw [hg]; exact (below_size (by repeat (first | (with_reducible first | exact HB.out | apply below_alloc | apply pw_below_drewN | apply below_drew1) | exact HB.out))) : w.heap.size ≤ gb245)); have n3_ := Aside0.mk ((by rw [hg]; exact (below_size (by repeat (first | (with_reducible first | exact HB.out | apply below_alloc | apply pw_below_drewN | apply below_drew1) | exact HB.out))) : w.heap.size ≤ gb245)); clear HB; have HB := n0_; have BK245 := n1_; have GW245 := n2_; have GE245 := n3_; clear n0_ n1_ n2_ n3_; clear hb hbox hg; have hcz22_0 : w21.cell? ⟨gb245, 0, none⟩ = some (.int .i64 a0_0) := (blk_cell BK245.out 0).trans rfl; have hcz22_1 : w21.cell? ⟨gb245, 1, none⟩ = some (.int .i64 a0_1) := (blk_cell BK245.out 1).trans rfl; have hcz22_2 : w21.cell? ⟨gb245, 2, none⟩ = some (.int .i64 a0_2) := (blk_cell BK245.out 2).trans rfl; have hcz22_3 : w21.cell? ⟨gb245, 3, none⟩ = some (.int .i64 a0_3) := (blk_cell BK245.out 3).trans rfl; have hfz22_0 := blk_frozen BK245.out 0; have hfz22_1 := blk_frozen BK245.out 1; have hfz22_2 := blk_frozen BK245.out 2; have hfz22_3 := blk_frozen BK245.out 3))
      go_ret
      exact ⟨by first | rfl | (simp [errW_none, errW_some] <;> rfl) | (simp [*, errW_none, errW_some] <;> rfl), by repeat (first | (with_reducible first | exact HB.out | apply below_alloc | apply pw_below_drewN | apply below_drew1 | refine below_set ?_ GE245.out) | exact HB.out)⟩
  · rw [if_neg c2] at H
    have c2b0 : decide (0 ≤ a0_0) = false := decide_eq_false c2
    clear c2
    obtain rfl := Option.some.inj H
    go_enter Try.func128, Try.ntmps128
    go_wp2_with (first | ((with_reducible refine gate_dst (N := 1) rfl ?_); refine box_event ?hg (N := 1) ?hd (cs := #[.int .i64 a0_0, .int .i64 a0_1, .int .i64 a0_2, .int .i64 a0_3]) (t := 23) ?hr ?_; (case hd => rfl); (case hg => rfl); (case hr => first | (go_simp; done) | (go_simp; rfl)); intro gb245 hg w23 hbox hb; have n0_ := Aside0.mk (below_step (by repeat (first | (with_reducible first | exact HB.out | apply below_alloc | apply pw_below_drewN | apply below_drew1) | exact HB.out)) hb); have n1_ := Aside0.mk (hbox); have n2_ := Aside0.mk ((by rw [hg]; exact (below_size (by repeat (first | (with_reducible first | exact HB.out | apply below_alloc | apply pw_below_drewN | apply below_drew1) | exact HB.out))) : w.heap.size ≤ gb245)); have n3_ := Aside0.mk ((by rw [hg]; exact (below_size (by repeat (first | (with_reducible first | exact HB.out | apply below_alloc | apply pw_below_drewN | apply below_drew1) | exact HB.out))) : w.heap.size ≤ gb245)); clear HB; have HB := n0_; have BK245 := n1_; have GW245 := n2_; have GE245 := n3_; clear n0_ n1_ n2_ n3_; clear hb hbox hg; have hcz24_0 : w23.cell? ⟨gb245, 0, none⟩ = some (.int .i64 a0_0) := (blk_cell BK245.out 0).trans rfl; have hcz24_1 : w23.cell? ⟨gb245, 1, none⟩ = some (.int .i64 a0_1) := (blk_cell BK245.out 1).trans rfl; have hcz24_2 : w23.cell? ⟨gb245, 2, none⟩ = some (.int .i64 a0_2) := (blk_cell BK245.out 2).trans rfl; have hcz24_3 : w23.cell? ⟨gb245, 3, none⟩ = some (.int .i64 a0_3) := (blk_cell BK245.out 3).trans rfl; have hfz24_0 := blk_frozen BK245.out 0; have hfz24_1 := blk_frozen BK245.out 1; have hfz24_2 := blk_frozen BK245.out 2; have hfz24_3 := blk_frozen BK245.out 3))
    go_ret
    exact ⟨by first | rfl | (simp [errW_none, errW_some] <;> rfl) | (simp [*, errW_none, errW_some] <;> rfl), by repeat (first | (with_reducible first | exact HB.out | apply below_alloc | apply pw_below_drewN | apply below_drew1 | refine below_set ?_ GE245.out) | exact HB.out)⟩

end Go.Proofs.Ytfdmfgaiblfbhaa.P
/- May a rectangle be: plain words. -/
namespace Go.Proofs.Ytfdmfgaiblfbhaa.P
open Go.RowKit Go.Proofs.YtfdmfgaiblfbhaaW.PrintWords Go.Proofs.YtfdmfgaiblfbhaaW.PrintLast Go.Proofs.YtfdmfgaiblfbhaaW.PrintMore

theorem wq {x : Int} (h0 : -9223372036854775808 ≤ x) (h1 : x ≤ 9223372036854775807) : wrap64 x = x := by unfold wrap64; omega
theorem ev_pos {α : Type} {c : Prop} [Decidable c] {g f : Nat → Option α} {r : α} (hc : c) (h : Ev g r) : Ev (fun k => if c then g k else f k) r := by simp only [if_pos hc]; exact h
theorem ev_neg {α : Type} {c : Prop} [Decidable c] {g f : Nat → Option α} {r : α} (hc : ¬c) (h : Ev f r) : Ev (fun k => if c then g k else f k) r := by simp only [if_neg hc]; exact h
theorem ev_some {α : Type} {g : Nat → Option α} {r : α} (h : ∀ k, g k = some r) : Ev g r := ⟨0, fun k _ => h k⟩
/-- May a rectangle be? -/
def mayB (X Y W H : Int) : Bool := decide (0 ≤ X ∧ 1 ≤ W ∧ W ≤ 10000 ∧ X + W ≤ 10000 ∧ 0 ≤ Y ∧ 1 ≤ H ∧ H ≤ 10000 ∧ Y + H ≤ 10000)
theorem refmay_some (X Y W H : Int) : sashref04_May.f X Y W H = some (mayB X Y W H) := by
  unfold sashref04_May.f mayB
  by_cases h1 : X < 0
  · rw [if_pos h1, decide_eq_false (by omega)]
  · rw [if_neg h1]
    by_cases h2 : X > 10000
    · rw [if_pos h2, decide_eq_false (by omega)]
    · rw [if_neg h2]
      by_cases h3 : Y < 0
      · rw [if_pos h3, decide_eq_false (by omega)]
      · rw [if_neg h3]
        by_cases h4 : Y > 10000
        · rw [if_pos h4, decide_eq_false (by omega)]
        · rw [if_neg h4]
          by_cases h5 : W > 0
          · by_cases h6 : W ≤ 10000
            · by_cases h7 : H > 0
              · by_cases h8 : H ≤ 10000
                · rw [if_pos h5, if_pos h6, if_pos h7, if_pos h8, wq (x := X + W) (by omega) (by omega), wq (x := Y + H) (by omega) (by omega)]
                  by_cases h9 : X + W ≤ 10000
                  · rw [if_pos h9]
                    congr 1
                    rw [decide_eq_decide]
                    omega
                  · rw [if_neg h9, decide_eq_false (by omega)]
                · rw [if_pos h5, if_pos h6, if_pos h7, if_neg h8, decide_eq_false (by omega)]
              · rw [if_pos h5, if_pos h6, if_neg h7, decide_eq_false (by omega)]
            · rw [if_pos h5, if_neg h6, decide_eq_false (by omega)]
          · rw [if_neg h5, decide_eq_false (by omega)]

def mayR (r : S23) : Bool := mayB r.f0 r.f1 r.f2 r.f3
end Go.Proofs.Ytfdmfgaiblfbhaa.P
/- A tree's cells and their number: plain data. -/
namespace Go.Proofs.Ytfdmfgaiblfbhaa.P
open Go.RowKit Go.Proofs.YtfdmfgaiblfbhaaW.PrintWords Go.Proofs.YtfdmfgaiblfbhaaW.PrintLast Go.Proofs.YtfdmfgaiblfbhaaW.PrintMore

mutual
def allC : S26 → List S26
  | ⟨a, b, d, l⟩ => ⟨a, b, d, l⟩ :: allL l
def allL : List S26 → List S26
  | [] => []
  | c :: cs => allC c ++ allL cs
end
theorem allC_eq (c : S26) : allC c = c :: allL c.f3 := by cases c; simp [allC]
theorem allL_nil : allL [] = [] := by simp [allL]
theorem allL_cons (c : S26) (cs : List S26) : allL (c :: cs) = allC c ++ allL cs := by simp [allL]
theorem allL_app (a b : List S26) : allL (a ++ b) = allL a ++ allL b := by
  induction a with
  | nil => simp [allL_nil]
  | cons x xs ih => rw [List.cons_append, allL_cons, allL_cons, ih, List.append_assoc]
def sz (c : S26) : Nat := (allC c).length
def szL (l : List S26) : Nat := (allL l).length
theorem sz_eq (c : S26) : sz c = 1 + szL c.f3 := by unfold sz szL; rw [allC_eq, List.length_cons]; omega
theorem szL_nil : szL [] = 0 := by unfold szL; rw [allL_nil]; rfl
theorem szL_cons (c : S26) (cs : List S26) : szL (c :: cs) = sz c + szL cs := by unfold szL sz; rw [allL_cons, List.length_append]
theorem szL_app (a b : List S26) : szL (a ++ b) = szL a + szL b := by unfold szL; rw [allL_app, List.length_append]
theorem szL_len (l : List S26) : l.length ≤ szL l := by
  induction l with
  | nil => simp
  | cons x xs ih => rw [szL_cons, List.length_cons, sz_eq]; omega
theorem eta26 (c : S26) : (⟨c.f0, ⟨c.f1.f0, c.f1.f1, c.f1.f2, c.f1.f3⟩, c.f2, c.f3⟩ : S26) = c := by cases c; rfl
theorem szL_sum (l : List S26) : szL l = (l.map sz).sum := by
  induction l with
  | nil => rw [szL_nil]; rfl
  | cons x xs ih => rw [szL_cons, List.map_cons, List.sum_cons, ih]
end Go.Proofs.Ytfdmfgaiblfbhaa.P
/- Trees of cells: their size, their cells, their leaves, their panes: the reference's functions, as plain data. -/
namespace Go.Proofs.Ytfdmfgaiblfbhaa.P
open Go.RowKit Go.Proofs.YtfdmfgaiblfbhaaW.PrintWords Go.Proofs.YtfdmfgaiblfbhaaW.PrintLast Go.Proofs.YtfdmfgaiblfbhaaW.PrintMore

theorem rd26_in (pre : List S26) (p : S26) (rest : List S26) : rd_T26 (pre ++ p :: rest) (pre.length : Int) = p := by
  simp [rd_T26, List.getD_eq_getElem?_getD]
theorem rd35_in (pre : List S35) (p : S35) (rest : List S35) : rd_T35 (pre ++ p :: rest) (pre.length : Int) = p := by
  simp [rd_T35, List.getD_eq_getElem?_getD]
theorem up_in {α : Type} (pre : List α) (p : α) (rest : List α) (h : (pre ++ p :: rest).length ≤ 9223372036854775807) : wrap64 ((pre.length : Int) + 1) = ((pre ++ [p]).length : Int) := by
  simp only [List.length_append, List.length_cons, List.length_nil] at h ⊢
  rw [wq (by omega) (by omega)]
  omega

/-- THE COUNT, that ends once it is above a bound. -/
theorem count_ev (L : Int) : ∀ (N : Nat) (c : S26), sz c ≤ N → N ≤ 1048576 → ∃ n : Int, Ev (fun k => sashref05_count.f k c.f0 c.f1.f0 c.f1.f1 c.f1.f2 c.f1.f3 c.f2 c.f3 L) n ∧ 1 ≤ n ∧ n ≤ (sz c : Int) ∧ (n > L ∨ n = (sz c : Int)) := by
  intro N
  induction N with
  | zero => intro c h _; rw [sz_eq] at h; omega
  | succ N ih =>
    intro c hc hN
    have hs := sz_eq c
    have key : ∀ (rest pre : List S26), pre ++ rest = c.f3 → ∀ acc : Int, 1 ≤ acc → acc + (szL rest : Int) ≤ 1048576 → (acc > L ∨ acc = 1 + (szL pre : Int)) →
        ∃ n : Int, Ev (fun k => sashref05_count.l0 k L acc (c.f3.length : Int) (pre.length : Int) c.f0 c.f1.f0 c.f1.f1 c.f1.f2 c.f1.f3 c.f2 c.f3) n ∧ acc ≤ n ∧ n ≤ acc + (szL rest : Int) ∧ (n > L ∨ n = 1 + (szL c.f3 : Int)) := by
      intro rest
      induction rest with
      | nil =>
        intro pre hp acc h1 h2 h3
        rw [List.append_nil] at hp
        refine ⟨acc, Ev.step (f := fun _ => some acc) (fun k => ?_) (Ev.now _), by omega, by omega, by rw [← hp]; exact h3⟩
        simp only [sashref05_count.l0]
        rw [if_neg (by rw [hp]; omega)]
      | cons x xs ihr =>
        intro pre hp acc h1 h2 h3
        have hl : (pre.length : Int) < (c.f3.length : Int) := by rw [← hp, List.length_append, List.length_cons]; omega
        have hlen := szL_len c.f3
        by_cases hL : acc > L
        · refine ⟨acc, Ev.step (f := fun _ => some acc) (fun k => ?_) (Ev.now _), by omega, by omega, .inl hL⟩
          simp only [sashref05_count.l0]
          rw [if_pos hl, if_pos hL]
        · have h3' : acc = 1 + (szL pre : Int) := by omega
          have hsum : szL c.f3 = szL pre + (sz x + szL xs) := by rw [← hp, szL_app, szL_cons]
          obtain ⟨n1, e1, a1, b1, c1⟩ := ih x (by omega) (by omega)
          rw [szL_cons] at h2
          obtain ⟨n, e2, a2, b2, c2⟩ := ihr (pre ++ [x]) (by rw [List.append_assoc]; exact hp) (acc + n1) (by omega) (by omega) (by
            rw [szL_app, szL_cons, szL_nil]
            omega)
          refine ⟨n, ?_, by omega, by rw [szL_cons]; omega, c2⟩
          have hw : wrap64 (acc + n1) = acc + n1 := wq (by omega) (by omega)
          have hr : rd_T26 c.f3 (pre.length : Int) = x := by rw [← hp]; exact rd26_in pre x xs
          have hu : wrap64 ((pre.length : Int) + 1) = ((pre ++ [x]).length : Int) := up_in pre x xs (by rw [hp]; omega)
          refine Ev.step (f := fun k => (sashref05_count.f k x.f0 x.f1.f0 x.f1.f1 x.f1.f2 x.f1.f3 x.f2 x.f3 L).bind fun t => sashref05_count.l0 k L (wrap64 (acc + t)) (c.f3.length : Int) (wrap64 ((pre.length : Int) + 1)) c.f0 c.f1.f0 c.f1.f1 c.f1.f2 c.f1.f3 c.f2 c.f3) (fun k => ?_) (Ev.bind e1 ?_)
          · simp only [sashref05_count.l0]
            rw [if_pos hl, if_neg hL, if_pos (by omega), if_pos hl, hr]
          · rw [hw, hu]
            exact e2
    obtain ⟨n, e, a, b, d⟩ := key c.f3 [] rfl 1 (by omega) (by omega) (.inr (by rw [szL_nil]; rfl))
    refine ⟨n, Ev.step (fun k => ?_) e, a, by omega, by omega⟩
    simp only [sashref05_count.f]
    rfl
theorem great_ev (c : S26) (h : sz c ≤ 1048576) : ∃ b : Bool, Ev (fun k => sashref05_Great.f k c.f0 c.f1.f0 c.f1.f1 c.f1.f2 c.f1.f3 c.f2 c.f3) b ∧ (b = false → sz c ≤ 200) := by
  obtain ⟨n, e, h1, h2, h3⟩ := count_ev 200 1048576 c h (Nat.le_refl _)
  refine ⟨decide (n > 200), ?_, fun hb => ?_⟩
  · unfold sashref05_Great.f
    exact Ev.bind e (Ev.now _)
  · have := of_decide_eq_false hb
    omega

/-- ALL CELLS. -/
theorem all_cells : ∀ (N : Nat) (c : S26), sz c ≤ N → N ≤ 1048576 → Ev (fun k => sashref05_All.f k c.f0 c.f1.f0 c.f1.f1 c.f1.f2 c.f1.f3 c.f2 c.f3) (allC c) := by
  intro N
  induction N with
  | zero => intro c h _; rw [sz_eq] at h; omega
  | succ N ih =>
    intro c hc hN
    have hs := sz_eq c
    have key : ∀ (rest pre : List S26), pre ++ rest = c.f3 → Ev (fun k => sashref05_All.l0 k (c :: allL pre) (c.f3.length : Int) (pre.length : Int) c.f0 c.f1.f0 c.f1.f1 c.f1.f2 c.f1.f3 c.f2 c.f3) (allC c) := by
      intro rest
      induction rest with
      | nil =>
        intro pre hp
        rw [List.append_nil] at hp
        refine Ev.step (f := fun _ => some (allC c)) (fun k => ?_) (Ev.now _)
        simp only [sashref05_All.l0]
        rw [if_neg (by rw [hp]; omega), hp, allC_eq]
      | cons x xs ihr =>
        intro pre hp
        have hl : (pre.length : Int) < (c.f3.length : Int) := by rw [← hp, List.length_append, List.length_cons]; omega
        have hlen := szL_len c.f3
        have hsum : szL c.f3 = szL pre + (sz x + szL xs) := by rw [← hp, szL_app, szL_cons]
        have e2 := ihr (pre ++ [x]) (by rw [List.append_assoc]; exact hp)
        have hr : rd_T26 c.f3 (pre.length : Int) = x := by rw [← hp]; exact rd26_in pre x xs
        have hu : wrap64 ((pre.length : Int) + 1) = ((pre ++ [x]).length : Int) := up_in pre x xs (by rw [hp]; omega)
        have ha : c :: allL (pre ++ [x]) = (c :: allL pre) ++ allC x := by rw [allL_app, allL_cons, allL_nil, List.append_nil, List.cons_append]
        have hb : (c :: allL pre).length + (allC x).length < 1954687338268 := by
          have h1 : (allL pre).length = szL pre := rfl
          have h2 : (allC x).length = sz x := rfl
          rw [List.length_cons, h1, h2]
          omega
        rw [ha] at e2
        refine Ev.step (f := fun k => (sashref05_All.f k x.f0 x.f1.f0 x.f1.f1 x.f1.f2 x.f1.f3 x.f2 x.f3).bind fun t => (if (c :: allL pre).length + t.length < 1954687338268 then (sashref05_All.l0 k ((c :: allL pre) ++ t) (c.f3.length : Int) (wrap64 ((pre.length : Int) + 1)) c.f0 c.f1.f0 c.f1.f1 c.f1.f2 c.f1.f3 c.f2 c.f3) else none)) (fun k => ?_) (Ev.bind (ih x (by omega) (by omega)) (ev_pos hb ?_))
        · simp only [sashref05_All.l0]
          rw [if_pos hl, if_pos (by omega), if_pos hl, hr]
        · rw [hu]
          exact e2
    refine Ev.step (fun k => ?_) (key c.f3 [] rfl)
    simp only [sashref05_All.f, allL_nil, eta26]
    rfl

/-- The leaves. -/
def leavesC (c : S26) : List S26 := (allC c).filter fun x => decide (x.f0 = 1)
theorem leaves_len (c : S26) : (leavesC c).length ≤ sz c := List.length_filter_le _ _
theorem leaves_ev (c : S26) (h : sz c ≤ 1048576) : Ev (fun k => sashref05_Leaves.f k c.f0 c.f1.f0 c.f1.f1 c.f1.f2 c.f1.f3 c.f2 c.f3) (leavesC c) := by
  unfold sashref05_Leaves.f
  refine Ev.bind (all_cells _ c h (Nat.le_refl _)) ?_
  have key : ∀ (rest pre : List S26), pre ++ rest = allC c → Ev (fun k => sashref05_Leaves.l0 k (pre.filter fun x => decide (x.f0 = 1)) (allC c) ((allC c).length : Int) (pre.length : Int)) (leavesC c) := by
    intro rest
    induction rest with
    | nil =>
      intro pre hp
      rw [List.append_nil] at hp
      refine Ev.step (f := fun _ => some (leavesC c)) (fun k => ?_) (Ev.now _)
      simp only [sashref05_Leaves.l0]
      rw [if_neg (by rw [hp]; omega), hp]
      rfl
    | cons x xs ihr =>
      intro pre hp
      have hsz : (allC c).length ≤ 1048576 := h
      have hl : (pre.length : Int) < ((allC c).length : Int) := by rw [← hp, List.length_append, List.length_cons]; omega
      have e2 := ihr (pre ++ [x]) (by rw [List.append_assoc]; exact hp)
      have hr : rd_T26 (allC c) (pre.length : Int) = x := by rw [← hp]; exact rd26_in pre x xs
      have hu : wrap64 ((pre.length : Int) + 1) = ((pre ++ [x]).length : Int) := up_in pre x xs (by rw [hp]; omega)
      have hb : (pre.filter fun x => decide (x.f0 = 1)).length < 1954687338268 := by
        have := List.length_filter_le (fun x : S26 => decide (x.f0 = 1)) pre
        omega
      rw [List.filter_append] at e2
      refine Ev.step (fun k => ?_) e2
      simp only [sashref05_Leaves.l0]
      rw [if_pos hl, if_pos (by omega), if_pos hl, hr, hu]
      by_cases h1 : x.f0 = 1
      · rw [if_pos h1, if_pos hb, List.filter_cons_of_pos (by simpa using h1), eta26]
        rfl
      · rw [if_neg h1, List.filter_cons_of_neg (by simpa using h1), List.filter_nil, List.append_nil]
  exact key (allC c) [] rfl
end Go.Proofs.Ytfdmfgaiblfbhaa.P
namespace Go.Proofs.Ytfdmfgaiblfbhaa.P
open Go.RowKit Go.Proofs.YtfdmfgaiblfbhaaW.PrintWords Go.Proofs.YtfdmfgaiblfbhaaW.PrintLast Go.Proofs.YtfdmfgaiblfbhaaW.PrintMore
attribute [local go_sem] max2_int min2_int max_two min_two max_three min_three max_four min_four   -- for this text's walks alone
set_option linter.unusedVariables false
set_option linter.unusedSimpArgs false

/-! ### sashref07_Find: function 41 -/
def sashref07_Find.l0 : Nat → List (S35) → Int → Int → Int → Option (Int)
  | 0, _, _, _, _ => none
  | k + 1, x0, x1, x7, x8 => if x8 < x7 then (if 0 ≤ x8 then (if x8 < (x0.length : Int) then (if ((rd_T35 x0 x8).f0) = x1 then (some x8) else (sashref07_Find.l0 k x0 x1 x7 (wrap64 (x8 + 1)))) else (none)) else (none)) else (some (-1))
def sashref07_Find.f (k : Nat) (l0 : List (S35)) (a1 : Int) : Option (Int) := sashref07_Find.l0 k l0 a1 (l0.length : Int) 0
theorem sashref07_Find.mono_l : ∀ k, (∀ y0 y1 y2 y3, LeO (sashref07_Find.l0 k y0 y1 y2 y3) (sashref07_Find.l0 (k + 1) y0 y1 y2 y3))
  | 0 => fun _ _ _ _ r h => by simp [sashref07_Find.l0] at h
  | k + 1 => by
    have ih0 := sashref07_Find.mono_l k
    · intro y0 y1 y2 y3
      unfold sashref07_Find.l0
      repeat' first
      | (with_reducible exact ih0 _ _ _ _)
      | (with_reducible exact LeO.refl _)
      | (with_reducible exact LeO.none _)
      | (with_reducible refine LeO.ite ?_ ?_)
      | (with_reducible refine LeO.bind ?_ (fun _ => ?_))
      | exact ih0 _ _ _ _
      | exact LeO.none _
      | refine LeO.ite ?_ ?_
      | refine LeO.bind ?_ (fun _ => ?_)
theorem sashref07_Find.mono : ∀ a0 a1 k, LeO (sashref07_Find.f k a0 a1) (sashref07_Find.f (k + 1) a0 a1) := by
  intro a0 a1 k
  have ih0 := sashref07_Find.mono_l k
  unfold sashref07_Find.f
  repeat' first
      | (with_reducible exact ih0 _ _ _ _)
      | (with_reducible exact LeO.refl _)
      | (with_reducible exact LeO.none _)
      | (with_reducible refine LeO.ite ?_ ?_)
      | (with_reducible refine LeO.bind ?_ (fun _ => ?_))
      | exact ih0 _ _ _ _
      | exact LeO.none _
      | refine LeO.ite ?_ ?_
      | refine LeO.bind ?_ (fun _ => ?_)
set_option maxHeartbeats 8000000 in
set_option maxRecDepth 100000 in
theorem sashref07_Find.calls (k : Nat) (A0 : Option Addr) (c0 : Nat) (l0 : List (S35)) (a1 : Int) (r : Int) (w : World) (hr0 : Kd.C k35 w A0 l0.length l0) (hc0 : l0.length ≤ c0) (h : sashref07_Find.f k l0 a1 = some r) :
    Calls Try.prog 41 #[.slice A0 l0.length c0, .int .i64 a1] w fun e w' => e = .returned (.int .i64 r) ∧ Drawn0 w w' := by
  have HR0 := Aside0.mk hr0
  have HC0 := Aside0.mk hc0
  clear hr0 hc0
  have H : (sashref07_Find.l0 k l0 a1 (l0.length : Int) 0) = some r := h
  clear h
  have H' := Aside0.mk H
  clear H
  go_enter Try.func41, Try.ntmps41
  go_wp2
  go_loopg [8] k (fun kq v8 w' => ∃ (x8_1 : Int), v8 = .int .i64 x8_1 ∧ Aside0 (sashref07_Find.l0 kq l0 a1 (l0.length : Int) x8_1 = some r) ∧ Aside0 (kq ≤ k) ∧ Drawn0 w w')
  case atStart => exact ⟨(0), (by first | rfl | (simp; done) | (simp [*]; done)), H', ⟨Nat.le_refl _⟩, by repeat (first | exact Drawn0.refl _ | apply Drawn0.step)⟩
  case round =>
    clear H'
    try clear p2
    obtain ⟨x8_1, rfl, HA, HK1, ⟨m1, rfl⟩⟩ := hrel
    cases gk with
    | zero => exact absurd HA.out (by simp [sashref07_Find.l0])
    | succ k1 =>
      have H := HA.out
      clear HA
      simp only [sashref07_Find.l0] at H
      by_cases c3 : x8_1 < (l0.length : Int)
      · rw [if_pos c3] at H
        have c3b0 : decide (x8_1 < (l0.length : Int)) = true := decide_eq_true c3
        clear c3
        by_cases c4 : 0 ≤ x8_1
        · rw [if_pos c4] at H
          have c4b0 : decide (0 ≤ x8_1) = true := decide_eq_true c4
          clear c4
          by_cases c5 : x8_1 < (l0.length : Int)
          · rw [if_pos c5] at H
            have c5b0 : decide (x8_1 < (l0.length : Int)) = true := decide_eq_true c5
            clear c5
            by_cases c6 : ((rd_T35 l0 x8_1).f0) = a1
            · rw [if_pos c6] at H
              have c6b0 : (((rd_T35 l0 x8_1).f0) == a1) = true := beq_iff_eq.mpr c6
              have c6b1 : (((rd_T35 l0 x8_1).f0) != a1) = false := bne_eq_false_iff_eq.mpr c6
              clear c6
              obtain rfl := Option.some.inj H
              have p166 : 0 ≤ (x8_1 : Int) := of_decide_eq_true (by first | (with_reducible assumption) | assumption)
              have q166 : x8_1 < (l0.length : Int) := of_decide_eq_true (by first | (with_reducible assumption) | assumption)
              obtain ⟨ad166, e166, hx166_0, hx166_1, hx166_2, hx166_3, hx166_4⟩ := at_T35 HR0.out x8_1 p166 q166
              cases e166
              replace p166 := eq_true p166
              replace q166 := eq_true q166
              go_wp2
              go_ret
              exact ⟨by first | rfl | (simp; done) | (simp [*]; done), by repeat (first | exact Drawn0.refl _ | apply Drawn0.step)⟩
            · rw [if_neg c6] at H
              have c6b0 : (((rd_T35 l0 x8_1).f0) == a1) = false := beq_eq_false_iff_ne.mpr c6
              have c6b1 : (((rd_T35 l0 x8_1).f0) != a1) = true := bne_iff_ne.mpr c6
              have H' := Aside0.mk H
              clear H
              have p166 : 0 ≤ (x8_1 : Int) := of_decide_eq_true (by first | (with_reducible assumption) | assumption)
              have q166 : x8_1 < (l0.length : Int) := of_decide_eq_true (by first | (with_reducible assumption) | assumption)
              obtain ⟨ad166, e166, hx166_0, hx166_1, hx166_2, hx166_3, hx166_4⟩ := at_T35 HR0.out x8_1 p166 q166
              cases e166
              replace p166 := eq_true p166
              replace q166 := eq_true q166
              go_wp2
              go_roundg k1
              case measure => have := HK1.out; omega
              case rel => exact ⟨(wrap64 (x8_1 + 1)), (by first | rfl | (simp; done) | (simp [*]; done)), H', ⟨by have := HK1.out; omega⟩, by repeat (first | exact Drawn0.refl _ | apply Drawn0.step)⟩
          · rw [if_neg c5] at H
            exact absurd H (by simp)
        · rw [if_neg c4] at H
          exact absurd H (by simp)
      · rw [if_neg c3] at H
        have c3b0 : decide (x8_1 < (l0.length : Int)) = false := decide_eq_false c3
        clear c3
        obtain rfl := Option.some.inj H
        go_wp2
        go_ret
        exact ⟨by first | rfl | (simp; done) | (simp [*]; done), by repeat (first | exact Drawn0.refl _ | apply Drawn0.step)⟩

end Go.Proofs.Ytfdmfgaiblfbhaa.P
/- A tree's panes: the code's and the reference's, the place of one, the one so many places behind: plain data. -/
namespace Go.Proofs.Ytfdmfgaiblfbhaa.P
open Go.RowKit Go.Proofs.YtfdmfgaiblfbhaaW.PrintWords Go.Proofs.YtfdmfgaiblfbhaaW.PrintLast Go.Proofs.YtfdmfgaiblfbhaaW.PrintMore

def paneOf (c : S26) : S35 := ⟨c.f2, c.f1⟩
def panes (c : S26) : List S35 := (leavesC c).map paneOf
def panesL (l : List S26) : List S35 := ((allL l).filter fun x => decide (x.f0 = 1)).map paneOf
theorem panes_eq (c : S26) : panes c = (if c.f0 = 1 then [paneOf c] else []) ++ panesL c.f3 := by
  unfold panes leavesC panesL
  rw [allC_eq]
  by_cases h : c.f0 = 1
  · rw [if_pos h, List.filter_cons_of_pos (by simpa using h)]
    rfl
  · rw [if_neg h, List.filter_cons_of_neg (by simpa using h)]
    rfl
theorem panesL_app (a b : List S26) : panesL (a ++ b) = panesL a ++ panesL b := by
  unfold panesL
  rw [allL_app, List.filter_append, List.map_append]
theorem panesL_one (x : S26) : panesL [x] = panes x := by
  unfold panesL panes leavesC
  rw [allL_cons, allL_nil, List.append_nil]
theorem panes_len (c : S26) : (panes c).length ≤ sz c := by unfold panes; rw [List.length_map]; exact leaves_len c
theorem panesL_len (l : List S26) : (panesL l).length ≤ szL l := by unfold panesL; rw [List.length_map]; exact List.length_filter_le _ _

/-- The reference's list. -/
theorem reflist_ev (c : S26) (h : sz c ≤ 1048576) : Ev (fun k => sashref07_List.f k c.f0 c.f1.f0 c.f1.f1 c.f1.f2 c.f1.f3 c.f2 c.f3) (panes c) := by
  unfold sashref07_List.f
  refine Ev.bind (leaves_ev c h) ?_
  have hsz : (leavesC c).length ≤ 1048576 := by have := leaves_len c; omega
  have key : ∀ (rest pre : List S26), pre ++ rest = leavesC c → Ev (fun k => sashref07_List.l0 k (pre.map paneOf) (leavesC c) ((leavesC c).length : Int) (pre.length : Int)) (panes c) := by
    intro rest
    induction rest with
    | nil =>
      intro pre hp
      rw [List.append_nil] at hp
      refine Ev.step (f := fun _ => some (panes c)) (fun k => ?_) (Ev.now _)
      simp only [sashref07_List.l0]
      rw [if_neg (by rw [hp]; omega), hp]
      rfl
    | cons x xs ihr =>
      intro pre hp
      have hl : (pre.length : Int) < ((leavesC c).length : Int) := by rw [← hp, List.length_append, List.length_cons]; omega
      have e2 := ihr (pre ++ [x]) (by rw [List.append_assoc]; exact hp)
      have hr : rd_T26 (leavesC c) (pre.length : Int) = x := by rw [← hp]; exact rd26_in pre x xs
      have hu : wrap64 ((pre.length : Int) + 1) = ((pre ++ [x]).length : Int) := up_in pre x xs (by rw [hp]; omega)
      rw [List.map_append] at e2
      refine Ev.step (fun k => ?_) e2
      simp only [sashref07_List.l0]
      rw [if_pos hl, if_pos (by omega), if_pos hl, if_pos (by rw [List.length_map]; omega), hr, hu]
      rfl
  exact key (leavesC c) [] rfl

/-- The code's list. -/
theorem list_ev : ∀ (N : Nat) (c : S26), sz c ≤ N → N ≤ 1048576 → Ev (fun k => flat_List.f k c.f0 c.f1.f0 c.f1.f1 c.f1.f2 c.f1.f3 c.f2 c.f3) (panes c) := by
  intro N
  induction N with
  | zero => intro c h _; rw [sz_eq] at h; omega
  | succ N ih =>
    intro c hc hN
    have hs := sz_eq c
    have key : ∀ (p0 : List S35), p0.length ≤ 1 → ∀ (rest pre : List S26), pre ++ rest = c.f3 → Ev (fun k => flat_List.l0 k (p0 ++ panesL pre) c.f3 (c.f3.length : Int) (pre.length : Int)) (p0 ++ panesL c.f3) := by
      intro p0 hp0 rest
      induction rest with
      | nil =>
        intro pre hp
        rw [List.append_nil] at hp
        refine Ev.step (f := fun _ => some (p0 ++ panesL c.f3)) (fun k => ?_) (Ev.now _)
        simp only [flat_List.l0]
        rw [if_neg (by rw [hp]; omega), hp]
      | cons x xs ihr =>
        intro pre hp
        have hl : (pre.length : Int) < (c.f3.length : Int) := by rw [← hp, List.length_append, List.length_cons]; omega
        have hlen := szL_len c.f3
        have hsum : szL c.f3 = szL pre + (sz x + szL xs) := by rw [← hp, szL_app, szL_cons]
        have e2 := ihr (pre ++ [x]) (by rw [List.append_assoc]; exact hp)
        have hr : rd_T26 c.f3 (pre.length : Int) = x := by rw [← hp]; exact rd26_in pre x xs
        have hu : wrap64 ((pre.length : Int) + 1) = ((pre ++ [x]).length : Int) := up_in pre x xs (by rw [hp]; omega)
        rw [panesL_app, panesL_one, ← List.append_assoc] at e2
        have hb : (p0 ++ panesL pre).length + (panes x).length < 3518437208883 := by
          have h1 := panesL_len pre
          have h2 := panes_len x
          rw [List.length_append]
          omega
        refine Ev.step (f := fun k => (flat_List.f k x.f0 x.f1.f0 x.f1.f1 x.f1.f2 x.f1.f3 x.f2 x.f3).bind fun t => (if (p0 ++ panesL pre).length + t.length < 3518437208883 then (flat_List.l0 k ((p0 ++ panesL pre) ++ t) c.f3 (c.f3.length : Int) (wrap64 ((pre.length : Int) + 1))) else none)) (fun k => ?_) (Ev.bind (ih x (by omega) (by omega)) (ev_pos hb ?_))
        · simp only [flat_List.l0]
          rw [if_pos hl, if_pos (by omega), if_pos hl, hr]
        · rw [hu]
          exact e2
    rw [panes_eq]
    have hj : ∀ p0 : List S35, p0.length ≤ 1 → Ev (fun k => flat_List.j0 k p0 c.f0 c.f1.f0 c.f1.f1 c.f1.f2 c.f1.f3 c.f2 c.f3) (p0 ++ panesL c.f3) := by
      intro p0 hp0
      have := key p0 hp0 c.f3 [] rfl
      rw [show panesL [] = [] from by unfold panesL; rw [allL_nil]; rfl, List.append_nil] at this
      refine Ev.step (fun k => ?_) this
      simp only [flat_List.j0]
      rfl
    by_cases h1 : c.f0 = 1
    · rw [if_pos h1]
      refine Ev.step (fun k => ?_) (hj [paneOf c] (by simp))
      simp only [flat_List.f]
      rw [if_pos h1, if_pos (by simp)]
      rfl
    · rw [if_neg h1]
      refine Ev.step (fun k => ?_) (hj [] (by simp))
      simp only [flat_List.f]
      rw [if_neg h1]

theorem awake07 : Ev (fun k => sashlaw07_awake.f k) true := Ev.of (k := 6) sashlaw07_awake.mono (by decide +kernel)
end Go.Proofs.Ytfdmfgaiblfbhaa.P
/- May a tree be, by the reference: plain data. -/
namespace Go.Proofs.Ytfdmfgaiblfbhaa.P
open Go.RowKit Go.Proofs.YtfdmfgaiblfbhaaW.PrintWords Go.Proofs.YtfdmfgaiblfbhaaW.PrintLast Go.Proofs.YtfdmfgaiblfbhaaW.PrintMore

/-- May one cell be, by itself? -/
def okC (c : S26) : Bool := mayR c.f1 && decide (1 ≤ c.f0 ∧ c.f0 ≤ 3) && decide (c.f0 = 1 → c.f3.length = 0 ∧ 0 ≤ c.f2 ∧ c.f2 ≤ 2147483647) && decide (c.f0 > 1 → 2 ≤ c.f3.length ∧ c.f2 = 0)
/-- No number twice? -/
def distinctC : List S26 → Bool
  | [] => true
  | x :: xs => (xs.all fun y => decide (y.f2 ≠ x.f2)) && distinctC xs
def apartTo (pre : List S26) (x : S26) : Bool := pre.all fun y => decide (x.f2 ≠ y.f2)
theorem distinctC_app (pre : List S26) (x : S26) : distinctC (pre ++ [x]) = (distinctC pre && apartTo pre x) := by
  induction pre with
  | nil => simp [distinctC, apartTo]
  | cons y ys ih =>
    have : (decide (x.f2 ≠ y.f2)) = decide (¬ x.f2 = y.f2) := rfl
    simp only [List.cons_append, distinctC, ih, apartTo, List.all_append, List.all_cons, List.all_nil, Bool.and_true]
    cases (ys.all fun z => decide (z.f2 ≠ y.f2)) <;> cases (decide (x.f2 ≠ y.f2)) <;> cases distinctC ys <;> cases (ys.all fun z => decide (x.f2 ≠ z.f2)) <;> rfl
theorem distinctC_pre : ∀ (pre rest : List S26), distinctC pre = false → distinctC (pre ++ rest) = false := by
  intro pre rest h
  induction rest generalizing pre with
  | nil => rw [List.append_nil]; exact h
  | cons x xs ih =>
    have := ih (pre ++ [x]) (by rw [distinctC_app, h, Bool.false_and])
    rwa [List.append_assoc] at this
def mayC (c : S26) : Bool := decide (sz c ≤ 20000) && ((allC c).all okC && distinctC (leavesC c))

theorem may_ev (c : S26) (h : sz c ≤ 1048576) : Ev (fun k => sashref05_May.f k c.f0 c.f1.f0 c.f1.f1 c.f1.f2 c.f1.f3 c.f2 c.f3) (mayC c) := by
  unfold sashref05_May.f
  refine Ev.bind (all_cells _ c h (Nat.le_refl _)) ?_
  by_cases h2 : ((allC c).length : Int) > 20000
  · refine ev_pos h2 ?_
    have : mayC c = false := by
      unfold mayC sz
      rw [decide_eq_false (by omega), Bool.false_and]
    rw [this]
    exact Ev.now _
  refine ev_neg h2 ?_
  have hm : mayC c = ((allC c).all okC && distinctC (leavesC c)) := by
    unfold mayC sz
    rw [decide_eq_true (by omega), Bool.true_and]
  have hlv : (leavesC c).length ≤ 1048576 := by have := leaves_len c; omega
  -- the leaves' numbers
  have inner : ∀ (pre : List S26) (x : S26) (rest : List S26), pre ++ x :: rest = leavesC c → ∀ b : Bool, (apartTo pre x = true → Ev (fun k => sashref05_May.l1 k (leavesC c) ((leavesC c).length : Int) ((pre ++ [x]).length : Int)) b) → (apartTo pre x = false → b = false) →
      ∀ (q p : List S26), p ++ q = pre → apartTo p x = true → Ev (fun k => sashref05_May.l2 k (leavesC c) (pre.length : Int) (p.length : Int) ((leavesC c).length : Int) (pre.length : Int)) b := by
    intro pre x rest hp b hb hf q
    have hl : (pre.length : Int) < ((leavesC c).length : Int) := by rw [← hp, List.length_append, List.length_cons]; omega
    have hr : rd_T26 (leavesC c) (pre.length : Int) = x := by rw [← hp]; exact rd26_in pre x rest
    have hu : wrap64 ((pre.length : Int) + 1) = ((pre ++ [x]).length : Int) := up_in pre x rest (by rw [hp]; omega)
    induction q with
    | nil =>
      intro p hq ha
      rw [List.append_nil] at hq
      subst hq
      refine Ev.step (fun k => ?_) (hb ha)
      simp only [sashref05_May.l2]
      rw [if_neg (by omega), hu]
    | cons y ys ihq =>
      intro p hq ha
      have hpl : (p.length : Int) < (pre.length : Int) := by rw [← hq, List.length_append, List.length_cons]; omega
      have hpr : rd_T26 (leavesC c) (p.length : Int) = y := by rw [← hp, ← hq, List.append_assoc, List.cons_append]; exact rd26_in p y _
      have hpu : wrap64 ((p.length : Int) + 1) = ((p ++ [y]).length : Int) := up_in p y ys (by rw [hq]; omega)
      by_cases he : x.f2 = y.f2
      · have hbf : b = false := hf (by
          unfold apartTo
          rw [← hq, List.all_append, List.all_cons, decide_eq_false (by simpa using he), Bool.false_and, Bool.and_false])
        rw [hbf]
        refine Ev.step (f := fun _ => some false) (fun k => ?_) (Ev.now _)
        simp only [sashref05_May.l2]
        rw [if_pos hpl, if_pos (by omega), if_pos hl, if_pos (by omega), if_pos (by omega), hr, hpr, if_pos he]
      · have e2 := ihq (p ++ [y]) (by rw [List.append_assoc]; exact hq) (by
          unfold apartTo at ha ⊢
          rw [List.all_append, ha, Bool.true_and, List.all_cons, decide_eq_true (by simpa using he)]
          rfl)
        refine Ev.step (fun k => ?_) e2
        simp only [sashref05_May.l2]
        rw [if_pos hpl, if_pos (by omega), if_pos hl, if_pos (by omega), if_pos (by omega), hr, hpr, if_neg he, hpu]
  have outer : ∀ (rest pre : List S26), pre ++ rest = leavesC c → distinctC pre = true → Ev (fun k => sashref05_May.l1 k (leavesC c) ((leavesC c).length : Int) (pre.length : Int)) (distinctC (leavesC c)) := by
    intro rest
    induction rest with
    | nil =>
      intro pre hp hd
      rw [List.append_nil] at hp
      have hd2 : distinctC (leavesC c) = true := by rw [← hp]; exact hd
      rw [hd2]
      refine Ev.step (f := fun _ => some true) (fun k => ?_) (Ev.now _)
      simp only [sashref05_May.l1]
      rw [if_neg (by rw [← hp]; omega)]
    | cons x xs ihr =>
      intro pre hp hd
      have hl : (pre.length : Int) < ((leavesC c).length : Int) := by rw [← hp, List.length_append, List.length_cons]; omega
      have e := inner pre x xs hp (distinctC (leavesC c)) (fun ha => ihr (pre ++ [x]) (by rw [List.append_assoc]; exact hp) (by rw [distinctC_app, hd, ha]; rfl)) (fun ha => by
        have := distinctC_pre (pre ++ [x]) xs (by rw [distinctC_app, ha, Bool.and_false])
        rwa [List.append_assoc, List.singleton_append, hp] at this) pre [] rfl rfl
      refine Ev.step (fun k => ?_) e
      simp only [sashref05_May.l1]
      rw [if_pos hl]
      rfl
  -- the cells
  have cells : ∀ (rest pre : List S26), pre ++ rest = allC c → pre.all okC = true → Ev (fun k => sashref05_May.l0 k (allC c) ((allC c).length : Int) (pre.length : Int) c.f0 c.f1.f0 c.f1.f1 c.f1.f2 c.f1.f3 c.f2 c.f3) (mayC c) := by
    intro rest
    induction rest with
    | nil =>
      intro pre hp ha
      rw [List.append_nil] at hp
      rw [hm, ← hp, ha, Bool.true_and, hp]
      refine Ev.step (f := fun k => (sashref05_Leaves.f k c.f0 c.f1.f0 c.f1.f1 c.f1.f2 c.f1.f3 c.f2 c.f3).bind fun t => sashref05_May.l1 k t (t.length : Int) 0) (fun k => ?_) (Ev.bind (leaves_ev c h) (outer (leavesC c) [] rfl rfl))
      simp only [sashref05_May.l0]
      rw [if_neg (by omega)]
    | cons x xs ihr =>
      intro pre hp ha
      have hsz : (allC c).length ≤ 1048576 := h
      have hl : (pre.length : Int) < ((allC c).length : Int) := by rw [← hp, List.length_append, List.length_cons]; omega
      have hr : rd_T26 (allC c) (pre.length : Int) = x := by rw [← hp]; exact rd26_in pre x xs
      have hu : wrap64 ((pre.length : Int) + 1) = ((pre ++ [x]).length : Int) := up_in pre x xs (by rw [hp]; omega)
      have hno : okC x = false → mayC c = false := fun hx => by
        rw [hm, ← hp, List.all_append, List.all_cons, hx, Bool.false_and, Bool.and_false, Bool.false_and]
      have hyes : okC x = true → Ev (fun k => sashref05_May.l0 k (allC c) ((allC c).length : Int) ((pre ++ [x]).length : Int) c.f0 c.f1.f0 c.f1.f1 c.f1.f2 c.f1.f3 c.f2 c.f3) (mayC c) := fun hx =>
        ihr (pre ++ [x]) (by rw [List.append_assoc]; exact hp) (by rw [List.all_append, ha, Bool.true_and, List.all_cons, hx]; rfl)
      have j1t : okC x = false → Ev (fun k => sashref05_May.j1 k (allC c) (pre.length : Int) ((allC c).length : Int) (pre.length : Int) true c.f0 c.f1.f0 c.f1.f1 c.f1.f2 c.f1.f3 c.f2 c.f3) (mayC c) := fun hx => by
        rw [hno hx]
        refine Ev.step (f := fun _ => some false) (fun k => ?_) (Ev.now _)
        simp only [sashref05_May.j1]
        rw [if_pos trivial]
      refine Ev.step (f := fun k => (sashref04_May.f x.f1.f0 x.f1.f1 x.f1.f2 x.f1.f3).bind fun t179 => (if t179 = true then (if x.f0 < 1 then (sashref05_May.j1 k (allC c) (pre.length : Int) ((allC c).length : Int) (pre.length : Int) true c.f0 c.f1.f0 c.f1.f1 c.f1.f2 c.f1.f3 c.f2 c.f3) else (sashref05_May.j1 k (allC c) (pre.length : Int) ((allC c).length : Int) (pre.length : Int) (decide (x.f0 > 3)) c.f0 c.f1.f0 c.f1.f1 c.f1.f2 c.f1.f3 c.f2 c.f3)) else (sashref05_May.j1 k (allC c) (pre.length : Int) ((allC c).length : Int) (pre.length : Int) true c.f0 c.f1.f0 c.f1.f1 c.f1.f2 c.f1.f3 c.f2 c.f3))) (fun k => ?_) ?_
      · simp only [sashref05_May.l0]
        rw [if_pos hl, if_pos (by omega), if_pos hl, hr]
      · refine Ev.bind (a := mayR x.f1) (ev_some fun k => refmay_some _ _ _ _) ?_
        by_cases hmr : mayR x.f1 = true
        · refine ev_pos hmr ?_
          by_cases h1 : x.f0 < 1
          · refine ev_pos h1 (j1t ?_)
            unfold okC
            rw [decide_eq_false (p := 1 ≤ x.f0 ∧ x.f0 ≤ 3) (by omega)]
            simp
          · refine ev_neg h1 ?_
            by_cases h3 : x.f0 > 3
            · rw [decide_eq_true h3]
              refine j1t ?_
              unfold okC
              rw [decide_eq_false (p := 1 ≤ x.f0 ∧ x.f0 ≤ 3) (by omega)]
              simp
            · rw [decide_eq_false h3]
              have hk : okC x = (decide (x.f0 = 1 → x.f3.length = 0 ∧ 0 ≤ x.f2 ∧ x.f2 ≤ 2147483647) && decide (x.f0 > 1 → 2 ≤ x.f3.length ∧ x.f2 = 0)) := by
                unfold okC
                rw [hmr, decide_eq_true (p := 1 ≤ x.f0 ∧ x.f0 ≤ 3) (by omega), Bool.true_and, Bool.true_and]
              have go : ∀ {f : Nat → Option Bool}, Ev f (mayC c) → (∀ k, sashref05_May.j1 (k + 1) (allC c) (pre.length : Int) ((allC c).length : Int) (pre.length : Int) false c.f0 c.f1.f0 c.f1.f1 c.f1.f2 c.f1.f3 c.f2 c.f3 = f k) → Ev (fun k => sashref05_May.j1 k (allC c) (pre.length : Int) ((allC c).length : Int) (pre.length : Int) false c.f0 c.f1.f0 c.f1.f1 c.f1.f2 c.f1.f3 c.f2 c.f3) (mayC c) := fun he hs => Ev.step hs he
              have base : ∀ k, sashref05_May.j1 (k + 1) (allC c) (pre.length : Int) ((allC c).length : Int) (pre.length : Int) false c.f0 c.f1.f0 c.f1.f1 c.f1.f2 c.f1.f3 c.f2 c.f3 =
                  (if x.f0 = 1 then (if (x.f3.length : Int) > 0 then (some false) else (if x.f2 < 0 then (some false) else (if x.f2 > 2147483647 then (some false) else (if x.f0 > 1 then (if (x.f3.length : Int) < 2 then (some false) else (if x.f2 = 0 then (sashref05_May.l0 k (allC c) ((allC c).length : Int) ((pre ++ [x]).length : Int) c.f0 c.f1.f0 c.f1.f1 c.f1.f2 c.f1.f3 c.f2 c.f3) else (some false))) else (sashref05_May.l0 k (allC c) ((allC c).length : Int) ((pre ++ [x]).length : Int) c.f0 c.f1.f0 c.f1.f1 c.f1.f2 c.f1.f3 c.f2 c.f3))))) else (if x.f0 > 1 then (if (x.f3.length : Int) < 2 then (some false) else (if x.f2 = 0 then (sashref05_May.l0 k (allC c) ((allC c).length : Int) ((pre ++ [x]).length : Int) c.f0 c.f1.f0 c.f1.f1 c.f1.f2 c.f1.f3 c.f2 c.f3) else (some false))) else (sashref05_May.l0 k (allC c) ((allC c).length : Int) ((pre ++ [x]).length : Int) c.f0 c.f1.f0 c.f1.f1 c.f1.f2 c.f1.f3 c.f2 c.f3))) := by
                intro k
                simp only [sashref05_May.j1]
                rw [if_neg (by simp), if_pos (by omega), if_pos hl, hr, hu]
              have bad : okC x = false → Ev (fun _ : Nat => some false) (mayC c) := fun hx => by rw [hno hx]; exact Ev.now _
              by_cases g1 : x.f0 = 1
              · by_cases g2 : (x.f3.length : Int) > 0
                · exact go (bad (by rw [hk, decide_eq_false (by omega), Bool.false_and])) (fun k => by rw [base, if_pos g1, if_pos g2])
                · by_cases g3 : x.f2 < 0
                  · exact go (bad (by rw [hk, decide_eq_false (by omega), Bool.false_and])) (fun k => by rw [base, if_pos g1, if_neg g2, if_pos g3])
                  · by_cases g4 : x.f2 > 2147483647
                    · exact go (bad (by rw [hk, decide_eq_false (by omega), Bool.false_and])) (fun k => by rw [base, if_pos g1, if_neg g2, if_neg g3, if_pos g4])
                    · exact go (hyes (by rw [hk, decide_eq_true (by omega), decide_eq_true (by omega)]; rfl)) (fun k => by rw [base, if_pos g1, if_neg g2, if_neg g3, if_neg g4, if_neg (by omega)])
              · by_cases g2 : (x.f3.length : Int) < 2
                · exact go (bad (by rw [hk, decide_eq_false (p := x.f0 > 1 → 2 ≤ x.f3.length ∧ x.f2 = 0) (by omega), Bool.and_false])) (fun k => by rw [base, if_neg g1, if_pos (by omega), if_pos g2])
                · by_cases g3 : x.f2 = 0
                  · exact go (hyes (by rw [hk, decide_eq_true (by omega), decide_eq_true (by omega)]; rfl)) (fun k => by rw [base, if_neg g1, if_pos (by omega), if_neg g2, if_pos g3])
                  · exact go (bad (by rw [hk, decide_eq_false (p := x.f0 > 1 → 2 ≤ x.f3.length ∧ x.f2 = 0) (by omega), Bool.and_false])) (fun k => by rw [base, if_neg g1, if_pos (by omega), if_neg g2, if_neg g3])
        · refine ev_neg hmr (j1t ?_)
          unfold okC
          rw [Bool.eq_false_iff.2 hmr, Bool.false_and, Bool.false_and, Bool.false_and]
  exact cells (allC c) [] rfl rfl
end Go.Proofs.Ytfdmfgaiblfbhaa.P
/- The place of a pane among a tree's: plain data. -/
namespace Go.Proofs.Ytfdmfgaiblfbhaa.P
open Go.RowKit Go.Proofs.YtfdmfgaiblfbhaaW.PrintWords Go.Proofs.YtfdmfgaiblfbhaaW.PrintLast Go.Proofs.YtfdmfgaiblfbhaaW.PrintMore

theorem findP_at (x : S35) (rest : List S35) : ∀ (pre : List S35) (i : Int), (∀ y, y ∈ pre → y.f0 ≠ x.f0) → findP x.f0 i (pre ++ x :: rest) = i + (pre.length : Int) := by
  intro pre
  induction pre with
  | nil => intro i _; simp [findP]
  | cons y ys ih =>
    intro i h
    rw [List.cons_append]
    simp only [findP]
    rw [if_neg (h y (by simp)), ih (i + 1) (fun z hz => h z (by simp [hz]))]
    simp
    omega
theorem find_there (c : S26) (hd : distinctC (leavesC c) = true) (j : Int) (h0 : 0 ≤ j) (h1 : j < ((panes c).length : Int)) : findP (rd_T35 (panes c) j).f0 0 (panes c) = j := by
  have hn : j.toNat < (leavesC c).length := by unfold panes at h1; rw [List.length_map] at h1; omega
  have hsp : leavesC c = (leavesC c).take j.toNat ++ (leavesC c)[j.toNat] :: (leavesC c).drop (j.toNat + 1) := by
    rw [List.getElem_cons_drop, List.take_append_drop]
  generalize hp : (leavesC c).take j.toNat = p at hsp
  generalize (leavesC c)[j.toNat] = x at hsp
  generalize (leavesC c).drop (j.toNat + 1) = r at hsp
  have hpl : p.length = j.toNat := by rw [← hp, List.length_take]; omega
  have ha : apartTo p x = true := by
    have : distinctC (p ++ [x]) = true := by
      cases hq : distinctC (p ++ [x]) with
      | true => rfl
      | false =>
        have := distinctC_pre (p ++ [x]) r hq
        rw [List.append_assoc, List.singleton_append, ← hsp, hd] at this
        cases this
    rw [distinctC_app] at this
    exact (Bool.and_eq_true_iff.1 this).2
  have hpn : panes c = p.map paneOf ++ paneOf x :: r.map paneOf := by unfold panes; rw [hsp, List.map_append, List.map_cons]
  have hj : j = ((p.map paneOf).length : Int) := by rw [List.length_map, hpl]; omega
  rw [hpn]
  have hrd : rd_T35 (p.map paneOf ++ paneOf x :: r.map paneOf) j = paneOf x := by rw [hj]; exact rd35_in _ _ _
  rw [hrd, findP_at, Int.zero_add, ← hj]
  intro y hy
  obtain ⟨z, hz, rfl⟩ := List.mem_map.1 hy
  have := List.all_eq_true.1 ha z hz
  have := of_decide_eq_true this
  exact fun e => this (show x.f2 = z.f2 from e.symm)
end Go.Proofs.Ytfdmfgaiblfbhaa.P
