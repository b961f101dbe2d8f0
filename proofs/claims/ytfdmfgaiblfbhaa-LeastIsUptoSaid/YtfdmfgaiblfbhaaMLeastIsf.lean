/- LeastIs: part 6 of 7 of this claim's texts, one behind the other. The words of the kit's printer stand in it cut down, by a program, to those that are used. -/
import Derived.Test.YtfdmfgaiblfbhaaMLeastIsc
import Derived.Test.YtfdmfgaiblfbhaaMLeastIse
import Derived.Test.YtfdmfgaiblfbhaaMLeastIsd
namespace Go.Proofs.Ytfdmfgaiblfbhaa.P
open Go.RowKit Go.Proofs.YtfdmfgaiblfbhaaW.PrintWords Go.Proofs.YtfdmfgaiblfbhaaW.PrintLast Go.Proofs.YtfdmfgaiblfbhaaW.PrintMore
attribute [local go_sem] max2_int min2_int max_two min_two max_three min_three max_four min_four   -- for this text's walks alone
set_option linter.unusedVariables false
set_option linter.unusedSimpArgs false

/-! ### sashref08_Of: function 152 -/
mutual
def sashref08_Of.l0 : Nat → Int → Int → Int → Int → Int → Int → Int → Int → Int → Int → List (S26) → Option (Int)
 | 0, _, _, _, _, _, _, _, _, _, _, _ => none
 | k + 1, x1, x5, x14, x15, x1082000, x1082001, x1082002, x1082003, x1082004, x1082005, x1082006 => if x15 < x14 then (if 0 ≤ x15 then (if x15 < (x1082006.length : Int) then ((sashref08_Of.f k ((rd_T26 x1082006 x15).f0) ((rd_T26 x1082006 x15).f1.f0) ((rd_T26 x1082006 x15).f1.f1) ((rd_T26 x1082006 x15).f1.f2) ((rd_T26 x1082006 x15).f1.f3) ((rd_T26 x1082006 x15).f2) ((rd_T26 x1082006 x15).f3) x1).bind fun t1083 => ((sashref08_Along.f x1082000 x1082001 x1082002 x1082003 x1082004 x1082005 x1082006 x1).bind fun t1084 => (if t1084 = true then (if x15 > 0 then (sashref08_Of.l0 k x1 (wrap64 ((wrap64 (x5 + t1083)) + 1)) x14 (wrap64 (x15 + 1)) x1082000 x1082001 x1082002 x1082003 x1082004 x1082005 x1082006) else (sashref08_Of.l0 k x1 (wrap64 (x5 + t1083)) x14 (wrap64 (x15 + 1)) x1082000 x1082001 x1082002 x1082003 x1082004 x1082005 x1082006)) else (if t1083 > x5 then (sashref08_Of.l0 k x1 t1083 x14 (wrap64 (x15 + 1)) x1082000 x1082001 x1082002 x1082003 x1082004 x1082005 x1082006) else (sashref08_Of.l0 k x1 x5 x14 (wrap64 (x15 + 1)) x1082000 x1082001 x1082002 x1082003 x1082004 x1082005 x1082006))))) else (none)) else (none)) else (some x5)
def sashref08_Of.f : Nat → Int → Int → Int → Int → Int → Int → List (S26) → Int → Option (Int)
 | 0, _, _, _, _, _, _, _, _ => none
 | k + 1, a0_0, a0_1, a0_2, a0_3, a0_4, a0_5, l0_6, a1 => if (l0_6.length : Int) = 0 then (some 1) else (sashref08_Of.l0 k a1 0 (l0_6.length : Int) 0 a0_0 a0_1 a0_2 a0_3 a0_4 a0_5 l0_6)
end
set_option maxHeartbeats 8000000 in
set_option maxRecDepth 100000 in
theorem sashref08_Of.calls (k : Nat) : ∀ (a0_0 : Int) (a0_1 : Int) (a0_2 : Int) (a0_3 : Int) (a0_4 : Int) (a0_5 : Int) (A0_6 : Option Addr) (c0_6 : Nat) (l0_6 : List (S26)) (a1 : Int) (r : Int) (w : World) (hr0_6 : Kd.C k26 w A0_6 l0_6.length l0_6) (hc0_6 : l0_6.length ≤ c0_6) (h : sashref08_Of.f k a0_0 a0_1 a0_2 a0_3 a0_4 a0_5 l0_6 a1 = some r),
  Calls Try.prog 152 #[.agg #[.int .u8 a0_0, .int .i64 a0_1, .int .i64 a0_2, .int .i64 a0_3, .int .i64 a0_4, .int .i64 a0_5, .slice A0_6 l0_6.length c0_6], .int .u8 a1] w fun e w' => e = .returned (.int .i64 r) ∧ Below w.heap.size w w' := by
 induction k using Nat.strongRecOn with
 | _ k ih =>
 intro a0_0 a0_1 a0_2 a0_3 a0_4 a0_5 A0_6 c0_6 l0_6 a1 r w hr0_6 hc0_6 h
 cases k with
 | zero => exact absurd h (by simp [sashref08_Of.f])
 | succ k =>
 simp only [sashref08_Of.f] at h
 have hu26 := Try.underlying26
 have HR0_6 := Aside0.mk hr0_6
 have HC0_6 := Aside0.mk hc0_6
 clear hr0_6 hc0_6
 have HB := Aside0.mk (Below.refl w.heap.size w)
 have H : (if (l0_6.length : Int) = 0 then (some 1) else (sashref08_Of.l0 k a1 0 (l0_6.length : Int) 0 a0_0 a0_1 a0_2 a0_3 a0_4 a0_5 l0_6)) = some r := h
 clear h
 by_cases c3 : (l0_6.length : Int) = 0
 ·rw [if_pos c3] at H
  have c3b0 : ((l0_6.length : Int) == 0) = true := beq_iff_eq.mpr c3
  have c3b1 : ((l0_6.length : Int) != 0) = false := bne_eq_false_iff_eq.mpr c3
  clear c3
  obtain rfl := Option.some.inj H
  go_enter Try.func152, Try.ntmps152
  go_wp2_with (((with_reducible refine gate_dst (N := 2) rfl ?_); refine box_event ?hg (N := 2) ?hd (cs := #[.int .u8 a0_0, .int .i64 a0_1, .int .i64 a0_2, .int .i64 a0_3, .int .i64 a0_4, .int .i64 a0_5, .slice A0_6 l0_6.length c0_6]) (t := 26) ?hr ?_; (case hd => rfl); (case hg => rfl); (case hr => (go_simp; done)); intro gb1081 hg w4 hbox hb; have BK1081 := Aside0.mk (hbox); replace HB := Aside0.mk (below_step (by repeat ((with_reducible exact HB.out))) hb); clear hb hbox hg; have hcz5_0 : w4.cell? ⟨gb1081, 0, none⟩ = some (.int .u8 a0_0) := (blk_cell BK1081.out 0).trans rfl; have hcz5_1 : w4.cell? ⟨gb1081, 1, none⟩ = some (.int .i64 a0_1) := (blk_cell BK1081.out 1).trans rfl; have hcz5_2 : w4.cell? ⟨gb1081, 2, none⟩ = some (.int .i64 a0_2) := (blk_cell BK1081.out 2).trans rfl; have hcz5_3 : w4.cell? ⟨gb1081, 3, none⟩ = some (.int .i64 a0_3) := (blk_cell BK1081.out 3).trans rfl; have hcz5_4 : w4.cell? ⟨gb1081, 4, none⟩ = some (.int .i64 a0_4) := (blk_cell BK1081.out 4).trans rfl; have hcz5_5 : w4.cell? ⟨gb1081, 5, none⟩ = some (.int .i64 a0_5) := (blk_cell BK1081.out 5).trans rfl; have hcz5_6 : w4.cell? ⟨gb1081, 6, none⟩ = some (.slice A0_6 l0_6.length c0_6) := (blk_cell BK1081.out 6).trans rfl; have hfz5_0 := blk_frozen BK1081.out 0; have hfz5_1 := blk_frozen BK1081.out 1; have hfz5_2 := blk_frozen BK1081.out 2; have hfz5_3 := blk_frozen BK1081.out 3; have hfz5_4 := blk_frozen BK1081.out 4; have hfz5_5 := blk_frozen BK1081.out 5; have hfz5_6 := blk_frozen BK1081.out 6))
  go_ret
  exact ⟨by rfl, by repeat ((with_reducible exact HB.out))⟩
 ·rw [if_neg c3] at H
  have c3b0 : ((l0_6.length : Int) == 0) = false := beq_eq_false_iff_ne.mpr c3
  have c3b1 : ((l0_6.length : Int) != 0) = true := bne_iff_ne.mpr c3
  have c3b2 : ¬ (l0_6 = []) := fun h_ => c3 (by rw [h_]; rfl)
  have H' := Aside0.mk H
  clear H
  go_enter Try.func152, Try.ntmps152
  go_wp2_with (((with_reducible refine gate_dst (N := 2) rfl ?_); refine box_event ?hg (N := 2) ?hd (cs := #[.int .u8 a0_0, .int .i64 a0_1, .int .i64 a0_2, .int .i64 a0_3, .int .i64 a0_4, .int .i64 a0_5, .slice A0_6 l0_6.length c0_6]) (t := 26) ?hr ?_; (case hd => rfl); (case hg => rfl); (case hr => (go_simp; done)); intro gb1081 hg w6 hbox hb; have BK1081 := Aside0.mk (hbox); replace HB := Aside0.mk (below_step (by repeat ((with_reducible exact HB.out))) hb); clear hb hbox hg; have hcz7_0 : w6.cell? ⟨gb1081, 0, none⟩ = some (.int .u8 a0_0) := (blk_cell BK1081.out 0).trans rfl; have hcz7_1 : w6.cell? ⟨gb1081, 1, none⟩ = some (.int .i64 a0_1) := (blk_cell BK1081.out 1).trans rfl; have hcz7_2 : w6.cell? ⟨gb1081, 2, none⟩ = some (.int .i64 a0_2) := (blk_cell BK1081.out 2).trans rfl; have hcz7_3 : w6.cell? ⟨gb1081, 3, none⟩ = some (.int .i64 a0_3) := (blk_cell BK1081.out 3).trans rfl; have hcz7_4 : w6.cell? ⟨gb1081, 4, none⟩ = some (.int .i64 a0_4) := (blk_cell BK1081.out 4).trans rfl; have hcz7_5 : w6.cell? ⟨gb1081, 5, none⟩ = some (.int .i64 a0_5) := (blk_cell BK1081.out 5).trans rfl; have hcz7_6 : w6.cell? ⟨gb1081, 6, none⟩ = some (.slice A0_6 l0_6.length c0_6) := (blk_cell BK1081.out 6).trans rfl; have hfz7_0 := blk_frozen BK1081.out 0; have hfz7_1 := blk_frozen BK1081.out 1; have hfz7_2 := blk_frozen BK1081.out 2; have hfz7_3 := blk_frozen BK1081.out 3; have hfz7_4 := blk_frozen BK1081.out 4; have hfz7_5 := blk_frozen BK1081.out 5; have hfz7_6 := blk_frozen BK1081.out 6))
  go_loopg [5, 15] k (fun kq v5 v15 w' => ∃ (x5_1 : Int) (x15_1 : Int), v5 = .int .i64 x5_1 ∧ v15 = .int .i64 x15_1 ∧ Aside0 (sashref08_Of.l0 kq a1 x5_1 (l0_6.length : Int) x15_1 a0_0 a0_1 a0_2 a0_3 a0_4 a0_5 l0_6 = some r) ∧ Aside0 (kq ≤ k) ∧ Aside0 (w'.heap[gb1081]? = some (.cells #[.int .u8 a0_0, .int .i64 a0_1, .int .i64 a0_2, .int .i64 a0_3, .int .i64 a0_4, .int .i64 a0_5, (.slice A0_6 l0_6.length c0_6)] 26 (0, 0))) ∧ Aside0 (Below w.heap.size w w'))
  case atStart => exact ⟨(0), (0), (by rfl), (by rfl), H', ⟨Nat.le_refl _⟩, ⟨by exact BK1081.out⟩, ⟨by repeat ((with_reducible exact HB.out))⟩⟩
  case round =>
   clear H'
   clear c3 c3b0 c3b1 c3b2 hcz7_0 hcz7_1 hcz7_2 hcz7_3 hcz7_4 hcz7_5 hcz7_6 hfz7_0 hfz7_1 hfz7_2 hfz7_3 hfz7_4 hfz7_5 hfz7_6
   obtain ⟨x5_1, x15_1, rfl, rfl, HA, HK1, BK1081, HB⟩ := hrel
   cases gk with
   | zero => exact absurd HA.out (by simp [sashref08_Of.l0])
   | succ k1 =>
    have H := HA.out
    clear HA
    simp only [sashref08_Of.l0] at H
    by_cases c8 : x15_1 < (l0_6.length : Int)
    ·rw [if_pos c8] at H
     have c8b0 : decide (x15_1 < (l0_6.length : Int)) = true := decide_eq_true c8
     clear c8
     by_cases c9 : 0 ≤ x15_1
     ·rw [if_pos c9] at H
      have c9b0 : decide (0 ≤ x15_1) = true := decide_eq_true c9
      clear c9
      by_cases c10 : x15_1 < (l0_6.length : Int)
      ·rw [if_pos c10] at H
       have c10b0 : decide (x15_1 < (l0_6.length : Int)) = true := decide_eq_true c10
       clear c10
       replace H := Option.bind_eq_some_iff.mp H
       obtain ⟨t1083, A110, H⟩ := H
       replace H : ((sashref08_Along.f a0_0 a0_1 a0_2 a0_3 a0_4 a0_5 l0_6 a1).bind fun t1084 => (if t1084 = true then (if x15_1 > 0 then (sashref08_Of.l0 k1 a1 (wrap64 ((wrap64 (x5_1 + t1083)) + 1)) (l0_6.length : Int) (wrap64 (x15_1 + 1)) a0_0 a0_1 a0_2 a0_3 a0_4 a0_5 l0_6) else (sashref08_Of.l0 k1 a1 (wrap64 (x5_1 + t1083)) (l0_6.length : Int) (wrap64 (x15_1 + 1)) a0_0 a0_1 a0_2 a0_3 a0_4 a0_5 l0_6)) else (if t1083 > x5_1 then (sashref08_Of.l0 k1 a1 t1083 (l0_6.length : Int) (wrap64 (x15_1 + 1)) a0_0 a0_1 a0_2 a0_3 a0_4 a0_5 l0_6) else (sashref08_Of.l0 k1 a1 x5_1 (l0_6.length : Int) (wrap64 (x15_1 + 1)) a0_0 a0_1 a0_2 a0_3 a0_4 a0_5 l0_6)))) = some r := H
       have A11 := Aside0.mk A110
       clear A110
       replace H := Option.bind_eq_some_iff.mp H
       obtain ⟨t1084, A120, H⟩ := H
       replace H : (if t1084 = true then (if x15_1 > 0 then (sashref08_Of.l0 k1 a1 (wrap64 ((wrap64 (x5_1 + t1083)) + 1)) (l0_6.length : Int) (wrap64 (x15_1 + 1)) a0_0 a0_1 a0_2 a0_3 a0_4 a0_5 l0_6) else (sashref08_Of.l0 k1 a1 (wrap64 (x5_1 + t1083)) (l0_6.length : Int) (wrap64 (x15_1 + 1)) a0_0 a0_1 a0_2 a0_3 a0_4 a0_5 l0_6)) else (if t1083 > x5_1 then (sashref08_Of.l0 k1 a1 t1083 (l0_6.length : Int) (wrap64 (x15_1 + 1)) a0_0 a0_1 a0_2 a0_3 a0_4 a0_5 l0_6) else (sashref08_Of.l0 k1 a1 x5_1 (l0_6.length : Int) (wrap64 (x15_1 + 1)) a0_0 a0_1 a0_2 a0_3 a0_4 a0_5 l0_6))) = some r := H
       have A12 := Aside0.mk A120
       clear A120
       by_cases c13 : t1084 = true
       ·subst c13
        have H1 : (if x15_1 > 0 then (sashref08_Of.l0 k1 a1 (wrap64 ((wrap64 (x5_1 + t1083)) + 1)) (l0_6.length : Int) (wrap64 (x15_1 + 1)) a0_0 a0_1 a0_2 a0_3 a0_4 a0_5 l0_6) else (sashref08_Of.l0 k1 a1 (wrap64 (x5_1 + t1083)) (l0_6.length : Int) (wrap64 (x15_1 + 1)) a0_0 a0_1 a0_2 a0_3 a0_4 a0_5 l0_6)) = some r := by rw [if_pos rfl] at H; exact H
        clear H
        have H := H1
        clear H1
        by_cases c14 : x15_1 > 0
        ·rw [if_pos c14] at H
         have c14b0 : decide (0 < x15_1) = true := decide_eq_true c14
         clear c14
         have H' := Aside0.mk H
         clear H
         have hcz15_0 : wr.cell? ⟨gb1081, 0, none⟩ = some (.int .u8 a0_0) := (blk_cell BK1081.out 0).trans rfl
         have hcz15_1 : wr.cell? ⟨gb1081, 1, none⟩ = some (.int .i64 a0_1) := (blk_cell BK1081.out 1).trans rfl
         have hcz15_2 : wr.cell? ⟨gb1081, 2, none⟩ = some (.int .i64 a0_2) := (blk_cell BK1081.out 2).trans rfl
         have hcz15_3 : wr.cell? ⟨gb1081, 3, none⟩ = some (.int .i64 a0_3) := (blk_cell BK1081.out 3).trans rfl
         have hcz15_4 : wr.cell? ⟨gb1081, 4, none⟩ = some (.int .i64 a0_4) := (blk_cell BK1081.out 4).trans rfl
         have hcz15_5 : wr.cell? ⟨gb1081, 5, none⟩ = some (.int .i64 a0_5) := (blk_cell BK1081.out 5).trans rfl
         have hcz15_6 : wr.cell? ⟨gb1081, 6, none⟩ = some (.slice A0_6 l0_6.length c0_6) := (blk_cell BK1081.out 6).trans rfl
         have hfz15_0 := blk_frozen BK1081.out 0
         have hfz15_1 := blk_frozen BK1081.out 1
         have hfz15_2 := blk_frozen BK1081.out 2
         have hfz15_3 := blk_frozen BK1081.out 3
         have hfz15_4 := blk_frozen BK1081.out 4
         have hfz15_5 := blk_frozen BK1081.out 5
         have hfz15_6 := blk_frozen BK1081.out 6
         have p1082 : 0 ≤ (x15_1 : Int) := of_decide_eq_true (by (with_reducible assumption))
         have q1082 : x15_1 < (l0_6.length : Int) := of_decide_eq_true (by (with_reducible assumption))
         obtain ⟨ad1082, A1082_6, c1082_6, e1082, hx1082_0, hx1082_1, hx1082_2, hx1082_3, hx1082_4, hx1082_5, hx1082_6, hl1082_6, hi1082_6⟩ := at_T26 HR0_6.out x15_1 p1082 q1082
         cases e1082
         replace hx1082_0 := (HB.out.cell (World.block_lt_of_cell? w _ hx1082_0)).trans hx1082_0
         replace hx1082_1 := (HB.out.cell (World.block_lt_of_cell? w _ hx1082_1)).trans hx1082_1
         replace hx1082_2 := (HB.out.cell (World.block_lt_of_cell? w _ hx1082_2)).trans hx1082_2
         replace hx1082_3 := (HB.out.cell (World.block_lt_of_cell? w _ hx1082_3)).trans hx1082_3
         replace hx1082_4 := (HB.out.cell (World.block_lt_of_cell? w _ hx1082_4)).trans hx1082_4
         replace hx1082_5 := (HB.out.cell (World.block_lt_of_cell? w _ hx1082_5)).trans hx1082_5
         replace hx1082_6 := (HB.out.cell (World.block_lt_of_cell? w _ hx1082_6)).trans hx1082_6
         have HR1082_6 := Aside0.mk hi1082_6
         have HC1082_6 := Aside0.mk hl1082_6
         clear hi1082_6 hl1082_6
         replace p1082 := eq_true p1082
         replace q1082 := eq_true q1082
         go_wp2_with (first | ((with_reducible refine gate_callee (f := 152) rfl ?_); refine goesL_ (some 24) rfl rfl Try.func152 (by kernel_rfl) rfl #[.agg #[.int .u8 ((rd_T26 l0_6 x15_1).f0), .int .i64 ((rd_T26 l0_6 x15_1).f1.f0), .int .i64 ((rd_T26 l0_6 x15_1).f1.f1), .int .i64 ((rd_T26 l0_6 x15_1).f1.f2), .int .i64 ((rd_T26 l0_6 x15_1).f1.f3), .int .i64 ((rd_T26 l0_6 x15_1).f2), .slice A1082_6 ((rd_T26 l0_6 x15_1).f3).length c1082_6], .int .u8 a1] rfl (by (try simp only [List.map_toArray, List.map_cons, List.map_nil]); rfl) ?_; (with_reducible refine (ih k1 (by have := HK1.out; omega) ((rd_T26 l0_6 x15_1).f0) ((rd_T26 l0_6 x15_1).f1.f0) ((rd_T26 l0_6 x15_1).f1.f1) ((rd_T26 l0_6 x15_1).f1.f2) ((rd_T26 l0_6 x15_1).f1.f3) ((rd_T26 l0_6 x15_1).f2) _ _ ((rd_T26 l0_6 x15_1).f3) a1 t1083 _ ?side1 ?side2 A11.out).mono ?_); (case side1 => repeat (exact (Kd.C_below HR1082_6.out HB.out))); (case side2 => exact HC1082_6.out); rintro e w16 ⟨rfl, hb⟩; refine ⟨_, rfl, ?_⟩; replace BK1081 := Aside0.mk (blk_below BK1081.out hb); replace HB := Aside0.mk (below_step (by repeat ((with_reducible exact HB.out))) hb); (try clear hb); have hcz17_0 : w16.cell? ⟨gb1081, 0, none⟩ = some (.int .u8 a0_0) := (blk_cell BK1081.out 0).trans rfl; have hcz17_1 : w16.cell? ⟨gb1081, 1, none⟩ = some (.int .i64 a0_1) := (blk_cell BK1081.out 1).trans rfl; have hcz17_2 : w16.cell? ⟨gb1081, 2, none⟩ = some (.int .i64 a0_2) := (blk_cell BK1081.out 2).trans rfl; have hcz17_3 : w16.cell? ⟨gb1081, 3, none⟩ = some (.int .i64 a0_3) := (blk_cell BK1081.out 3).trans rfl; have hcz17_4 : w16.cell? ⟨gb1081, 4, none⟩ = some (.int .i64 a0_4) := (blk_cell BK1081.out 4).trans rfl; have hcz17_5 : w16.cell? ⟨gb1081, 5, none⟩ = some (.int .i64 a0_5) := (blk_cell BK1081.out 5).trans rfl; have hcz17_6 : w16.cell? ⟨gb1081, 6, none⟩ = some (.slice (some ad1082) l0_6.length c0_6) := (blk_cell BK1081.out 6).trans rfl; have hfz17_0 := blk_frozen BK1081.out 0; have hfz17_1 := blk_frozen BK1081.out 1; have hfz17_2 := blk_frozen BK1081.out 2; have hfz17_3 := blk_frozen BK1081.out 3; have hfz17_4 := blk_frozen BK1081.out 4; have hfz17_5 := blk_frozen BK1081.out 5; have hfz17_6 := blk_frozen BK1081.out 6) | ((with_reducible refine gate_callee (f := 88) rfl ?_); refine goesL_ (some 27) rfl rfl Try.func88 (by kernel_rfl) rfl #[.agg #[.int .u8 a0_0, .int .i64 a0_1, .int .i64 a0_2, .int .i64 a0_3, .int .i64 a0_4, .int .i64 a0_5, .slice (some ad1082) l0_6.length c0_6], .int .u8 a1] rfl (by (try simp only [List.map_toArray, List.map_cons, List.map_nil]); rfl) ?_; (with_reducible refine (sashref08_Along.calls a0_0 a0_1 a0_2 a0_3 a0_4 a0_5 _ _ l0_6 a1 true _ ?side1 ?side2 A12.out).mono ?_); (case side1 => repeat (exact (Kd.C_below HR0_6.out HB.out))); (case side2 => exact HC0_6.out); rintro e w18 ⟨rfl, hb⟩; refine ⟨_, rfl, ?_⟩; replace BK1081 := Aside0.mk (blk_below BK1081.out hb); replace HB := Aside0.mk (below_step (by repeat ((with_reducible exact HB.out))) hb); (try clear hb)))
         go_roundg k1
         case measure => have := HK1.out; omega
         case rel => exact ⟨(wrap64 ((wrap64 (x5_1 + t1083)) + 1)), (wrap64 (x15_1 + 1)), (by rfl), (by rfl), H', ⟨by have := HK1.out; omega⟩, ⟨by exact BK1081.out⟩, ⟨by repeat ((with_reducible exact HB.out))⟩⟩
        ·rw [if_neg c14] at H
         have c14b0 : decide (0 < x15_1) = false := decide_eq_false c14
         clear c14
         have H' := Aside0.mk H
         clear H
         have hcz19_0 : wr.cell? ⟨gb1081, 0, none⟩ = some (.int .u8 a0_0) := (blk_cell BK1081.out 0).trans rfl
         have hcz19_1 : wr.cell? ⟨gb1081, 1, none⟩ = some (.int .i64 a0_1) := (blk_cell BK1081.out 1).trans rfl
         have hcz19_2 : wr.cell? ⟨gb1081, 2, none⟩ = some (.int .i64 a0_2) := (blk_cell BK1081.out 2).trans rfl
         have hcz19_3 : wr.cell? ⟨gb1081, 3, none⟩ = some (.int .i64 a0_3) := (blk_cell BK1081.out 3).trans rfl
         have hcz19_4 : wr.cell? ⟨gb1081, 4, none⟩ = some (.int .i64 a0_4) := (blk_cell BK1081.out 4).trans rfl
         have hcz19_5 : wr.cell? ⟨gb1081, 5, none⟩ = some (.int .i64 a0_5) := (blk_cell BK1081.out 5).trans rfl
         have hcz19_6 : wr.cell? ⟨gb1081, 6, none⟩ = some (.slice A0_6 l0_6.length c0_6) := (blk_cell BK1081.out 6).trans rfl
         have hfz19_0 := blk_frozen BK1081.out 0
         have hfz19_1 := blk_frozen BK1081.out 1
         have hfz19_2 := blk_frozen BK1081.out 2
         have hfz19_3 := blk_frozen BK1081.out 3
         have hfz19_4 := blk_frozen BK1081.out 4
         have hfz19_5 := blk_frozen BK1081.out 5
         have hfz19_6 := blk_frozen BK1081.out 6
         have p1082 : 0 ≤ (x15_1 : Int) := of_decide_eq_true (by (with_reducible assumption))
         have q1082 : x15_1 < (l0_6.length : Int) := of_decide_eq_true (by (with_reducible assumption))
         obtain ⟨ad1082, A1082_6, c1082_6, e1082, hx1082_0, hx1082_1, hx1082_2, hx1082_3, hx1082_4, hx1082_5, hx1082_6, hl1082_6, hi1082_6⟩ := at_T26 HR0_6.out x15_1 p1082 q1082
         cases e1082
         replace hx1082_0 := (HB.out.cell (World.block_lt_of_cell? w _ hx1082_0)).trans hx1082_0
         replace hx1082_1 := (HB.out.cell (World.block_lt_of_cell? w _ hx1082_1)).trans hx1082_1
         replace hx1082_2 := (HB.out.cell (World.block_lt_of_cell? w _ hx1082_2)).trans hx1082_2
         replace hx1082_3 := (HB.out.cell (World.block_lt_of_cell? w _ hx1082_3)).trans hx1082_3
         replace hx1082_4 := (HB.out.cell (World.block_lt_of_cell? w _ hx1082_4)).trans hx1082_4
         replace hx1082_5 := (HB.out.cell (World.block_lt_of_cell? w _ hx1082_5)).trans hx1082_5
         replace hx1082_6 := (HB.out.cell (World.block_lt_of_cell? w _ hx1082_6)).trans hx1082_6
         have HR1082_6 := Aside0.mk hi1082_6
         have HC1082_6 := Aside0.mk hl1082_6
         clear hi1082_6 hl1082_6
         replace p1082 := eq_true p1082
         replace q1082 := eq_true q1082
         go_wp2_with (first | ((with_reducible refine gate_callee (f := 152) rfl ?_); refine goesL_ (some 24) rfl rfl Try.func152 (by kernel_rfl) rfl #[.agg #[.int .u8 ((rd_T26 l0_6 x15_1).f0), .int .i64 ((rd_T26 l0_6 x15_1).f1.f0), .int .i64 ((rd_T26 l0_6 x15_1).f1.f1), .int .i64 ((rd_T26 l0_6 x15_1).f1.f2), .int .i64 ((rd_T26 l0_6 x15_1).f1.f3), .int .i64 ((rd_T26 l0_6 x15_1).f2), .slice A1082_6 ((rd_T26 l0_6 x15_1).f3).length c1082_6], .int .u8 a1] rfl (by (try simp only [List.map_toArray, List.map_cons, List.map_nil]); rfl) ?_; (with_reducible refine (ih k1 (by have := HK1.out; omega) ((rd_T26 l0_6 x15_1).f0) ((rd_T26 l0_6 x15_1).f1.f0) ((rd_T26 l0_6 x15_1).f1.f1) ((rd_T26 l0_6 x15_1).f1.f2) ((rd_T26 l0_6 x15_1).f1.f3) ((rd_T26 l0_6 x15_1).f2) _ _ ((rd_T26 l0_6 x15_1).f3) a1 t1083 _ ?side1 ?side2 A11.out).mono ?_); (case side1 => repeat (exact (Kd.C_below HR1082_6.out HB.out))); (case side2 => exact HC1082_6.out); rintro e w20 ⟨rfl, hb⟩; refine ⟨_, rfl, ?_⟩; replace BK1081 := Aside0.mk (blk_below BK1081.out hb); replace HB := Aside0.mk (below_step (by repeat ((with_reducible exact HB.out))) hb); (try clear hb); have hcz21_0 : w20.cell? ⟨gb1081, 0, none⟩ = some (.int .u8 a0_0) := (blk_cell BK1081.out 0).trans rfl; have hcz21_1 : w20.cell? ⟨gb1081, 1, none⟩ = some (.int .i64 a0_1) := (blk_cell BK1081.out 1).trans rfl; have hcz21_2 : w20.cell? ⟨gb1081, 2, none⟩ = some (.int .i64 a0_2) := (blk_cell BK1081.out 2).trans rfl; have hcz21_3 : w20.cell? ⟨gb1081, 3, none⟩ = some (.int .i64 a0_3) := (blk_cell BK1081.out 3).trans rfl; have hcz21_4 : w20.cell? ⟨gb1081, 4, none⟩ = some (.int .i64 a0_4) := (blk_cell BK1081.out 4).trans rfl; have hcz21_5 : w20.cell? ⟨gb1081, 5, none⟩ = some (.int .i64 a0_5) := (blk_cell BK1081.out 5).trans rfl; have hcz21_6 : w20.cell? ⟨gb1081, 6, none⟩ = some (.slice (some ad1082) l0_6.length c0_6) := (blk_cell BK1081.out 6).trans rfl; have hfz21_0 := blk_frozen BK1081.out 0; have hfz21_1 := blk_frozen BK1081.out 1; have hfz21_2 := blk_frozen BK1081.out 2; have hfz21_3 := blk_frozen BK1081.out 3; have hfz21_4 := blk_frozen BK1081.out 4; have hfz21_5 := blk_frozen BK1081.out 5; have hfz21_6 := blk_frozen BK1081.out 6) | ((with_reducible refine gate_callee (f := 88) rfl ?_); refine goesL_ (some 27) rfl rfl Try.func88 (by kernel_rfl) rfl #[.agg #[.int .u8 a0_0, .int .i64 a0_1, .int .i64 a0_2, .int .i64 a0_3, .int .i64 a0_4, .int .i64 a0_5, .slice (some ad1082) l0_6.length c0_6], .int .u8 a1] rfl (by (try simp only [List.map_toArray, List.map_cons, List.map_nil]); rfl) ?_; (with_reducible refine (sashref08_Along.calls a0_0 a0_1 a0_2 a0_3 a0_4 a0_5 _ _ l0_6 a1 true _ ?side1 ?side2 A12.out).mono ?_); (case side1 => repeat (exact (Kd.C_below HR0_6.out HB.out))); (case side2 => exact HC0_6.out); rintro e w22 ⟨rfl, hb⟩; refine ⟨_, rfl, ?_⟩; replace BK1081 := Aside0.mk (blk_below BK1081.out hb); replace HB := Aside0.mk (below_step (by repeat ((with_reducible exact HB.out))) hb); (try clear hb)))
         go_roundg k1
         case measure => have := HK1.out; omega
         case rel => exact ⟨(wrap64 (x5_1 + t1083)), (wrap64 (x15_1 + 1)), (by rfl), (by rfl), H', ⟨by have := HK1.out; omega⟩, ⟨by exact BK1081.out⟩, ⟨by repeat ((with_reducible exact HB.out))⟩⟩
       ·replace c13 := Bool.eq_false_iff.mpr c13
        subst c13
        have H1 : (if t1083 > x5_1 then (sashref08_Of.l0 k1 a1 t1083 (l0_6.length : Int) (wrap64 (x15_1 + 1)) a0_0 a0_1 a0_2 a0_3 a0_4 a0_5 l0_6) else (sashref08_Of.l0 k1 a1 x5_1 (l0_6.length : Int) (wrap64 (x15_1 + 1)) a0_0 a0_1 a0_2 a0_3 a0_4 a0_5 l0_6)) = some r := by rw [if_neg (show ¬ (false = true) by decide)] at H; exact H
        clear H
        have H := H1
        clear H1
        by_cases c23 : t1083 > x5_1
        ·rw [if_pos c23] at H
         have c23b0 : decide (x5_1 < t1083) = true := decide_eq_true c23
         clear c23
         have H' := Aside0.mk H
         clear H
         have hcz24_0 : wr.cell? ⟨gb1081, 0, none⟩ = some (.int .u8 a0_0) := (blk_cell BK1081.out 0).trans rfl
         have hcz24_1 : wr.cell? ⟨gb1081, 1, none⟩ = some (.int .i64 a0_1) := (blk_cell BK1081.out 1).trans rfl
         have hcz24_2 : wr.cell? ⟨gb1081, 2, none⟩ = some (.int .i64 a0_2) := (blk_cell BK1081.out 2).trans rfl
         have hcz24_3 : wr.cell? ⟨gb1081, 3, none⟩ = some (.int .i64 a0_3) := (blk_cell BK1081.out 3).trans rfl
         have hcz24_4 : wr.cell? ⟨gb1081, 4, none⟩ = some (.int .i64 a0_4) := (blk_cell BK1081.out 4).trans rfl
         have hcz24_5 : wr.cell? ⟨gb1081, 5, none⟩ = some (.int .i64 a0_5) := (blk_cell BK1081.out 5).trans rfl
         have hcz24_6 : wr.cell? ⟨gb1081, 6, none⟩ = some (.slice A0_6 l0_6.length c0_6) := (blk_cell BK1081.out 6).trans rfl
         have hfz24_0 := blk_frozen BK1081.out 0
         have hfz24_1 := blk_frozen BK1081.out 1
         have hfz24_2 := blk_frozen BK1081.out 2
         have hfz24_3 := blk_frozen BK1081.out 3
         have hfz24_4 := blk_frozen BK1081.out 4
         have hfz24_5 := blk_frozen BK1081.out 5
         have hfz24_6 := blk_frozen BK1081.out 6
         have p1082 : 0 ≤ (x15_1 : Int) := of_decide_eq_true (by (with_reducible assumption))
         have q1082 : x15_1 < (l0_6.length : Int) := of_decide_eq_true (by (with_reducible assumption))
         obtain ⟨ad1082, A1082_6, c1082_6, e1082, hx1082_0, hx1082_1, hx1082_2, hx1082_3, hx1082_4, hx1082_5, hx1082_6, hl1082_6, hi1082_6⟩ := at_T26 HR0_6.out x15_1 p1082 q1082
         cases e1082
         replace hx1082_0 := (HB.out.cell (World.block_lt_of_cell? w _ hx1082_0)).trans hx1082_0
         replace hx1082_1 := (HB.out.cell (World.block_lt_of_cell? w _ hx1082_1)).trans hx1082_1
         replace hx1082_2 := (HB.out.cell (World.block_lt_of_cell? w _ hx1082_2)).trans hx1082_2
         replace hx1082_3 := (HB.out.cell (World.block_lt_of_cell? w _ hx1082_3)).trans hx1082_3
         replace hx1082_4 := (HB.out.cell (World.block_lt_of_cell? w _ hx1082_4)).trans hx1082_4
         replace hx1082_5 := (HB.out.cell (World.block_lt_of_cell? w _ hx1082_5)).trans hx1082_5
         replace hx1082_6 := (HB.out.cell (World.block_lt_of_cell? w _ hx1082_6)).trans hx1082_6
         have HR1082_6 := Aside0.mk hi1082_6
         have HC1082_6 := Aside0.mk hl1082_6
         clear hi1082_6 hl1082_6
         replace p1082 := eq_true p1082
         replace q1082 := eq_true q1082
         go_wp2_with (first | ((with_reducible refine gate_callee (f := 152) rfl ?_); refine goesL_ (some 24) rfl rfl Try.func152 (by kernel_rfl) rfl #[.agg #[.int .u8 ((rd_T26 l0_6 x15_1).f0), .int .i64 ((rd_T26 l0_6 x15_1).f1.f0), .int .i64 ((rd_T26 l0_6 x15_1).f1.f1), .int .i64 ((rd_T26 l0_6 x15_1).f1.f2), .int .i64 ((rd_T26 l0_6 x15_1).f1.f3), .int .i64 ((rd_T26 l0_6 x15_1).f2), .slice A1082_6 ((rd_T26 l0_6 x15_1).f3).length c1082_6], .int .u8 a1] rfl (by (try simp only [List.map_toArray, List.map_cons, List.map_nil]); rfl) ?_; (with_reducible refine (ih k1 (by have := HK1.out; omega) ((rd_T26 l0_6 x15_1).f0) ((rd_T26 l0_6 x15_1).f1.f0) ((rd_T26 l0_6 x15_1).f1.f1) ((rd_T26 l0_6 x15_1).f1.f2) ((rd_T26 l0_6 x15_1).f1.f3) ((rd_T26 l0_6 x15_1).f2) _ _ ((rd_T26 l0_6 x15_1).f3) a1 t1083 _ ?side1 ?side2 A11.out).mono ?_); (case side1 => repeat (exact (Kd.C_below HR1082_6.out HB.out))); (case side2 => exact HC1082_6.out); rintro e w25 ⟨rfl, hb⟩; refine ⟨_, rfl, ?_⟩; replace BK1081 := Aside0.mk (blk_below BK1081.out hb); replace HB := Aside0.mk (below_step (by repeat ((with_reducible exact HB.out))) hb); (try clear hb); have hcz26_0 : w25.cell? ⟨gb1081, 0, none⟩ = some (.int .u8 a0_0) := (blk_cell BK1081.out 0).trans rfl; have hcz26_1 : w25.cell? ⟨gb1081, 1, none⟩ = some (.int .i64 a0_1) := (blk_cell BK1081.out 1).trans rfl; have hcz26_2 : w25.cell? ⟨gb1081, 2, none⟩ = some (.int .i64 a0_2) := (blk_cell BK1081.out 2).trans rfl; have hcz26_3 : w25.cell? ⟨gb1081, 3, none⟩ = some (.int .i64 a0_3) := (blk_cell BK1081.out 3).trans rfl; have hcz26_4 : w25.cell? ⟨gb1081, 4, none⟩ = some (.int .i64 a0_4) := (blk_cell BK1081.out 4).trans rfl; have hcz26_5 : w25.cell? ⟨gb1081, 5, none⟩ = some (.int .i64 a0_5) := (blk_cell BK1081.out 5).trans rfl; have hcz26_6 : w25.cell? ⟨gb1081, 6, none⟩ = some (.slice (some ad1082) l0_6.length c0_6) := (blk_cell BK1081.out 6).trans rfl; have hfz26_0 := blk_frozen BK1081.out 0; have hfz26_1 := blk_frozen BK1081.out 1; have hfz26_2 := blk_frozen BK1081.out 2; have hfz26_3 := blk_frozen BK1081.out 3; have hfz26_4 := blk_frozen BK1081.out 4; have hfz26_5 := blk_frozen BK1081.out 5; have hfz26_6 := blk_frozen BK1081.out 6) | ((with_reducible refine gate_callee (f := 88) rfl ?_); refine goesL_ (some 27) rfl rfl Try.func88 (by kernel_rfl) rfl #[.agg #[.int .u8 a0_0, .int .i64 a0_1, .int .i64 a0_2, .int .i64 a0_3, .int .i64 a0_4, .int .i64 a0_5, .slice (some ad1082) l0_6.length c0_6], .int .u8 a1] rfl (by (try simp only [List.map_toArray, List.map_cons, List.map_nil]); rfl) ?_; (with_reducible refine (sashref08_Along.calls a0_0 a0_1 a0_2 a0_3 a0_4 a0_5 _ _ l0_6 a1 false _ ?side1 ?side2 A12.out).mono ?_); (case side1 => repeat (exact (Kd.C_below HR0_6.out HB.out))); (case side2 => exact HC0_6.out); rintro e w27 ⟨rfl, hb⟩; refine ⟨_, rfl, ?_⟩; replace BK1081 := Aside0.mk (blk_below BK1081.out hb); replace HB := Aside0.mk (below_step (by repeat ((with_reducible exact HB.out))) hb); (try clear hb)))
         go_roundg k1
         case measure => have := HK1.out; omega
         case rel => exact ⟨(t1083), (wrap64 (x15_1 + 1)), (by rfl), (by rfl), H', ⟨by have := HK1.out; omega⟩, ⟨by exact BK1081.out⟩, ⟨by repeat ((with_reducible exact HB.out))⟩⟩
        ·rw [if_neg c23] at H
         have c23b0 : decide (x5_1 < t1083) = false := decide_eq_false c23
         clear c23
         have H' := Aside0.mk H
         clear H
         have hcz28_0 : wr.cell? ⟨gb1081, 0, none⟩ = some (.int .u8 a0_0) := (blk_cell BK1081.out 0).trans rfl
         have hcz28_1 : wr.cell? ⟨gb1081, 1, none⟩ = some (.int .i64 a0_1) := (blk_cell BK1081.out 1).trans rfl
         have hcz28_2 : wr.cell? ⟨gb1081, 2, none⟩ = some (.int .i64 a0_2) := (blk_cell BK1081.out 2).trans rfl
         have hcz28_3 : wr.cell? ⟨gb1081, 3, none⟩ = some (.int .i64 a0_3) := (blk_cell BK1081.out 3).trans rfl
         have hcz28_4 : wr.cell? ⟨gb1081, 4, none⟩ = some (.int .i64 a0_4) := (blk_cell BK1081.out 4).trans rfl
         have hcz28_5 : wr.cell? ⟨gb1081, 5, none⟩ = some (.int .i64 a0_5) := (blk_cell BK1081.out 5).trans rfl
         have hcz28_6 : wr.cell? ⟨gb1081, 6, none⟩ = some (.slice A0_6 l0_6.length c0_6) := (blk_cell BK1081.out 6).trans rfl
         have hfz28_0 := blk_frozen BK1081.out 0
         have hfz28_1 := blk_frozen BK1081.out 1
         have hfz28_2 := blk_frozen BK1081.out 2
         have hfz28_3 := blk_frozen BK1081.out 3
         have hfz28_4 := blk_frozen BK1081.out 4
         have hfz28_5 := blk_frozen BK1081.out 5
         have hfz28_6 := blk_frozen BK1081.out 6
         have p1082 : 0 ≤ (x15_1 : Int) := of_decide_eq_true (by (with_reducible assumption))
         have q1082 : x15_1 < (l0_6.length : Int) := of_decide_eq_true (by (with_reducible assumption))
         obtain ⟨ad1082, A1082_6, c1082_6, e1082, hx1082_0, hx1082_1, hx1082_2, hx1082_3, hx1082_4, hx1082_5, hx1082_6, hl1082_6, hi1082_6⟩ := at_T26 HR0_6.out x15_1 p1082 q1082
         cases e1082
         replace hx1082_0 := (HB.out.cell (World.block_lt_of_cell? w _ hx1082_0)).trans hx1082_0
         replace hx1082_1 := (HB.out.cell (World.block_lt_of_cell? w _ hx1082_1)).trans hx1082_1
         replace hx1082_2 := (HB.out.cell (World.block_lt_of_cell? w _ hx1082_2)).trans hx1082_2
         replace hx1082_3 := (HB.out.cell (World.block_lt_of_cell? w _ hx1082_3)).trans hx1082_3
         replace hx1082_4 := (HB.out.cell (World.block_lt_of_cell? w _ hx1082_4)).trans hx1082_4
         replace hx1082_5 := (HB.out.cell (World.block_lt_of_cell? w _ hx1082_5)).trans hx1082_5
         replace hx1082_6 := (HB.out.cell (World.block_lt_of_cell? w _ hx1082_6)).trans hx1082_6
         have HR1082_6 := Aside0.mk hi1082_6
         have HC1082_6 := Aside0.mk hl1082_6
         clear hi1082_6 hl1082_6
         replace p1082 := eq_true p1082
         replace q1082 := eq_true q1082
         go_wp2_with (first | ((with_reducible refine gate_callee (f := 152) rfl ?_); refine goesL_ (some 24) rfl rfl Try.func152 (by kernel_rfl) rfl #[.agg #[.int .u8 ((rd_T26 l0_6 x15_1).f0), .int .i64 ((rd_T26 l0_6 x15_1).f1.f0), .int .i64 ((rd_T26 l0_6 x15_1).f1.f1), .int .i64 ((rd_T26 l0_6 x15_1).f1.f2), .int .i64 ((rd_T26 l0_6 x15_1).f1.f3), .int .i64 ((rd_T26 l0_6 x15_1).f2), .slice A1082_6 ((rd_T26 l0_6 x15_1).f3).length c1082_6], .int .u8 a1] rfl (by (try simp only [List.map_toArray, List.map_cons, List.map_nil]); rfl) ?_; (with_reducible refine (ih k1 (by have := HK1.out; omega) ((rd_T26 l0_6 x15_1).f0) ((rd_T26 l0_6 x15_1).f1.f0) ((rd_T26 l0_6 x15_1).f1.f1) ((rd_T26 l0_6 x15_1).f1.f2) ((rd_T26 l0_6 x15_1).f1.f3) ((rd_T26 l0_6 x15_1).f2) _ _ ((rd_T26 l0_6 x15_1).f3) a1 t1083 _ ?side1 ?side2 A11.out).mono ?_); (case side1 => repeat (exact (Kd.C_below HR1082_6.out HB.out))); (case side2 => exact HC1082_6.out); rintro e w29 ⟨rfl, hb⟩; refine ⟨_, rfl, ?_⟩; replace BK1081 := Aside0.mk (blk_below BK1081.out hb); replace HB := Aside0.mk (below_step (by repeat ((with_reducible exact HB.out))) hb); (try clear hb); have hcz30_0 : w29.cell? ⟨gb1081, 0, none⟩ = some (.int .u8 a0_0) := (blk_cell BK1081.out 0).trans rfl; have hcz30_1 : w29.cell? ⟨gb1081, 1, none⟩ = some (.int .i64 a0_1) := (blk_cell BK1081.out 1).trans rfl; have hcz30_2 : w29.cell? ⟨gb1081, 2, none⟩ = some (.int .i64 a0_2) := (blk_cell BK1081.out 2).trans rfl; have hcz30_3 : w29.cell? ⟨gb1081, 3, none⟩ = some (.int .i64 a0_3) := (blk_cell BK1081.out 3).trans rfl; have hcz30_4 : w29.cell? ⟨gb1081, 4, none⟩ = some (.int .i64 a0_4) := (blk_cell BK1081.out 4).trans rfl; have hcz30_5 : w29.cell? ⟨gb1081, 5, none⟩ = some (.int .i64 a0_5) := (blk_cell BK1081.out 5).trans rfl; have hcz30_6 : w29.cell? ⟨gb1081, 6, none⟩ = some (.slice (some ad1082) l0_6.length c0_6) := (blk_cell BK1081.out 6).trans rfl; have hfz30_0 := blk_frozen BK1081.out 0; have hfz30_1 := blk_frozen BK1081.out 1; have hfz30_2 := blk_frozen BK1081.out 2; have hfz30_3 := blk_frozen BK1081.out 3; have hfz30_4 := blk_frozen BK1081.out 4; have hfz30_5 := blk_frozen BK1081.out 5; have hfz30_6 := blk_frozen BK1081.out 6) | ((with_reducible refine gate_callee (f := 88) rfl ?_); refine goesL_ (some 27) rfl rfl Try.func88 (by kernel_rfl) rfl #[.agg #[.int .u8 a0_0, .int .i64 a0_1, .int .i64 a0_2, .int .i64 a0_3, .int .i64 a0_4, .int .i64 a0_5, .slice (some ad1082) l0_6.length c0_6], .int .u8 a1] rfl (by (try simp only [List.map_toArray, List.map_cons, List.map_nil]); rfl) ?_; (with_reducible refine (sashref08_Along.calls a0_0 a0_1 a0_2 a0_3 a0_4 a0_5 _ _ l0_6 a1 false _ ?side1 ?side2 A12.out).mono ?_); (case side1 => repeat (exact (Kd.C_below HR0_6.out HB.out))); (case side2 => exact HC0_6.out); rintro e w31 ⟨rfl, hb⟩; refine ⟨_, rfl, ?_⟩; replace BK1081 := Aside0.mk (blk_below BK1081.out hb); replace HB := Aside0.mk (below_step (by repeat ((with_reducible exact HB.out))) hb); (try clear hb)))
         go_roundg k1
         case measure => have := HK1.out; omega
         case rel => exact ⟨(x5_1), (wrap64 (x15_1 + 1)), (by rfl), (by rfl), H', ⟨by have := HK1.out; omega⟩, ⟨by exact BK1081.out⟩, ⟨by repeat ((with_reducible exact HB.out))⟩⟩
      ·rw [if_neg c10] at H
       exact absurd H (by simp)
     ·rw [if_neg c9] at H
      exact absurd H (by simp)
    ·rw [if_neg c8] at H
     have c8b0 : decide (x15_1 < (l0_6.length : Int)) = false := decide_eq_false c8
     clear c8
     obtain rfl := Option.some.inj H
     go_wp2
     go_ret
     exact ⟨by rfl, by repeat ((with_reducible exact HB.out))⟩

end Go.Proofs.Ytfdmfgaiblfbhaa.P
namespace Go.Proofs.Ytfdmfgaiblfbhaa.P
open Go.RowKit Go.Proofs.YtfdmfgaiblfbhaaW.PrintWords Go.Proofs.YtfdmfgaiblfbhaaW.PrintLast Go.Proofs.YtfdmfgaiblfbhaaW.PrintMore
attribute [local go_sem] max2_int min2_int max_two min_two max_three min_three max_four min_four   -- for this text's walks alone
set_option linter.unusedVariables false
set_option linter.unusedSimpArgs false

/-! ### sashref08_Least: function 94 -/
def sashref08_Least.f (k : Nat) (a0_0 : Int) (a0_1 : Int) (a0_2 : Int) (a0_3 : Int) (a0_4 : Int) (a0_5 : Int) (l0_6 : List (S26)) (a1 : Int) : Option (Int) := if a1 < 1 then (some 0) else (if a1 > 2 then (some 0) else ((sashref05_May.f k a0_0 a0_1 a0_2 a0_3 a0_4 a0_5 l0_6).bind fun t1086 => (if t1086 = true then ((sashref08_Of.f k a0_0 a0_1 a0_2 a0_3 a0_4 a0_5 l0_6 a1).bind fun t1087 => (some t1087)) else (some 0))))
set_option maxHeartbeats 8000000 in
set_option maxRecDepth 100000 in
theorem sashref08_Least.calls (k : Nat) (a0_0 : Int) (a0_1 : Int) (a0_2 : Int) (a0_3 : Int) (a0_4 : Int) (a0_5 : Int) (A0_6 : Option Addr) (c0_6 : Nat) (l0_6 : List (S26)) (a1 : Int) (r : Int) (w : World) (hr0_6 : Kd.C k26 w A0_6 l0_6.length l0_6) (hc0_6 : l0_6.length ≤ c0_6) (h : sashref08_Least.f k a0_0 a0_1 a0_2 a0_3 a0_4 a0_5 l0_6 a1 = some r) :
  Calls Try.prog 94 #[.agg #[.int .u8 a0_0, .int .i64 a0_1, .int .i64 a0_2, .int .i64 a0_3, .int .i64 a0_4, .int .i64 a0_5, .slice A0_6 l0_6.length c0_6], .int .u8 a1] w fun e w' => e = .returned (.int .i64 r) ∧ Below w.heap.size w w' := by
 have hu26 := Try.underlying26
 have HR0_6 := Aside0.mk hr0_6
 have HC0_6 := Aside0.mk hc0_6
 clear hr0_6 hc0_6
 have HB := Aside0.mk (Below.refl w.heap.size w)
 have H : (if a1 < 1 then (some 0) else (if a1 > 2 then (some 0) else ((sashref05_May.f k a0_0 a0_1 a0_2 a0_3 a0_4 a0_5 l0_6).bind fun t1086 => (if t1086 = true then ((sashref08_Of.f k a0_0 a0_1 a0_2 a0_3 a0_4 a0_5 l0_6 a1).bind fun t1087 => (some t1087)) else (some 0))))) = some r := h
 clear h
 by_cases c3 : a1 < 1
 ·rw [if_pos c3] at H
  have c3b0 : decide (a1 < 1) = true := decide_eq_true c3
  clear c3
  obtain rfl := Option.some.inj H
  go_enter Try.func94, Try.ntmps94
  go_wp2_with (((with_reducible refine gate_dst (N := 2) rfl ?_); refine box_event ?hg (N := 2) ?hd (cs := #[.int .u8 a0_0, .int .i64 a0_1, .int .i64 a0_2, .int .i64 a0_3, .int .i64 a0_4, .int .i64 a0_5, .slice A0_6 l0_6.length c0_6]) (t := 26) ?hr ?_; (case hd => rfl); (case hg => rfl); (case hr => (go_simp; done)); intro gb1085 hg w4 hbox hb; have BK1085 := Aside0.mk (hbox); replace HB := Aside0.mk (below_step (by repeat ((with_reducible exact HB.out))) hb); clear hb hbox hg))
  go_ret
  exact ⟨by rfl, by repeat ((with_reducible exact HB.out))⟩
 ·rw [if_neg c3] at H
  have c3b0 : decide (a1 < 1) = false := decide_eq_false c3
  clear c3
  by_cases c5 : a1 > 2
  ·rw [if_pos c5] at H
   have c5b0 : decide (2 < a1) = true := decide_eq_true c5
   clear c5
   obtain rfl := Option.some.inj H
   go_enter Try.func94, Try.ntmps94
   go_wp2_with (((with_reducible refine gate_dst (N := 2) rfl ?_); refine box_event ?hg (N := 2) ?hd (cs := #[.int .u8 a0_0, .int .i64 a0_1, .int .i64 a0_2, .int .i64 a0_3, .int .i64 a0_4, .int .i64 a0_5, .slice A0_6 l0_6.length c0_6]) (t := 26) ?hr ?_; (case hd => rfl); (case hg => rfl); (case hr => (go_simp; done)); intro gb1085 hg w6 hbox hb; have BK1085 := Aside0.mk (hbox); replace HB := Aside0.mk (below_step (by repeat ((with_reducible exact HB.out))) hb); clear hb hbox hg))
   go_ret
   exact ⟨by rfl, by repeat ((with_reducible exact HB.out))⟩
  ·rw [if_neg c5] at H
   have c5b0 : decide (2 < a1) = false := decide_eq_false c5
   clear c5
   replace H := Option.bind_eq_some_iff.mp H
   obtain ⟨t1086, A70, H⟩ := H
   replace H : (if t1086 = true then ((sashref08_Of.f k a0_0 a0_1 a0_2 a0_3 a0_4 a0_5 l0_6 a1).bind fun t1087 => (some t1087)) else (some 0)) = some r := H
   have A7 := Aside0.mk A70
   clear A70
   by_cases c8 : t1086 = true
   ·subst c8
    have H1 : ((sashref08_Of.f k a0_0 a0_1 a0_2 a0_3 a0_4 a0_5 l0_6 a1).bind fun t1087 => (some t1087)) = some r := by rw [if_pos rfl] at H; exact H
    clear H
    have H := H1
    clear H1
    replace H := Option.bind_eq_some_iff.mp H
    obtain ⟨t1087, A90, H⟩ := H
    replace H : (some t1087) = some r := H
    have A9 := Aside0.mk A90
    clear A90
    obtain rfl := Option.some.inj H
    go_enter Try.func94, Try.ntmps94
    go_wp2_with (first | ((with_reducible refine gate_dst (N := 2) rfl ?_); refine box_event ?hg (N := 2) ?hd (cs := #[.int .u8 a0_0, .int .i64 a0_1, .int .i64 a0_2, .int .i64 a0_3, .int .i64 a0_4, .int .i64 a0_5, .slice A0_6 l0_6.length c0_6]) (t := 26) ?hr ?_; (case hd => rfl); (case hg => rfl); (case hr => (go_simp; done)); intro gb1085 hg w10 hbox hb; have BK1085 := Aside0.mk (hbox); replace HB := Aside0.mk (below_step (by repeat ((with_reducible exact HB.out))) hb); clear hb hbox hg; have hcz11_0 : w10.cell? ⟨gb1085, 0, none⟩ = some (.int .u8 a0_0) := (blk_cell BK1085.out 0).trans rfl; have hcz11_1 : w10.cell? ⟨gb1085, 1, none⟩ = some (.int .i64 a0_1) := (blk_cell BK1085.out 1).trans rfl; have hcz11_2 : w10.cell? ⟨gb1085, 2, none⟩ = some (.int .i64 a0_2) := (blk_cell BK1085.out 2).trans rfl; have hcz11_3 : w10.cell? ⟨gb1085, 3, none⟩ = some (.int .i64 a0_3) := (blk_cell BK1085.out 3).trans rfl; have hcz11_4 : w10.cell? ⟨gb1085, 4, none⟩ = some (.int .i64 a0_4) := (blk_cell BK1085.out 4).trans rfl; have hcz11_5 : w10.cell? ⟨gb1085, 5, none⟩ = some (.int .i64 a0_5) := (blk_cell BK1085.out 5).trans rfl; have hcz11_6 : w10.cell? ⟨gb1085, 6, none⟩ = some (.slice A0_6 l0_6.length c0_6) := (blk_cell BK1085.out 6).trans rfl; have hfz11_0 := blk_frozen BK1085.out 0; have hfz11_1 := blk_frozen BK1085.out 1; have hfz11_2 := blk_frozen BK1085.out 2; have hfz11_3 := blk_frozen BK1085.out 3; have hfz11_4 := blk_frozen BK1085.out 4; have hfz11_5 := blk_frozen BK1085.out 5; have hfz11_6 := blk_frozen BK1085.out 6) | (go_at_call 38; (with_reducible refine (sashref05_May.calls k a0_0 a0_1 a0_2 a0_3 a0_4 a0_5 _ _ l0_6 true _ ?side1 ?side2 A7.out).mono ?_); (case side1 => repeat (exact (Kd.C_below HR0_6.out HB.out))); (case side2 => exact HC0_6.out); rintro e w12 ⟨rfl, hb⟩; replace BK1085 := Aside0.mk (blk_below BK1085.out hb); replace HB := Aside0.mk (below_step (by repeat ((with_reducible exact HB.out))) hb); (try clear hb); have hcz13_0 : w12.cell? ⟨gb1085, 0, none⟩ = some (.int .u8 a0_0) := (blk_cell BK1085.out 0).trans rfl; have hcz13_1 : w12.cell? ⟨gb1085, 1, none⟩ = some (.int .i64 a0_1) := (blk_cell BK1085.out 1).trans rfl; have hcz13_2 : w12.cell? ⟨gb1085, 2, none⟩ = some (.int .i64 a0_2) := (blk_cell BK1085.out 2).trans rfl; have hcz13_3 : w12.cell? ⟨gb1085, 3, none⟩ = some (.int .i64 a0_3) := (blk_cell BK1085.out 3).trans rfl; have hcz13_4 : w12.cell? ⟨gb1085, 4, none⟩ = some (.int .i64 a0_4) := (blk_cell BK1085.out 4).trans rfl; have hcz13_5 : w12.cell? ⟨gb1085, 5, none⟩ = some (.int .i64 a0_5) := (blk_cell BK1085.out 5).trans rfl; have hcz13_6 : w12.cell? ⟨gb1085, 6, none⟩ = some (.slice A0_6 l0_6.length c0_6) := (blk_cell BK1085.out 6).trans rfl; have hfz13_0 := blk_frozen BK1085.out 0; have hfz13_1 := blk_frozen BK1085.out 1; have hfz13_2 := blk_frozen BK1085.out 2; have hfz13_3 := blk_frozen BK1085.out 3; have hfz13_4 := blk_frozen BK1085.out 4; have hfz13_5 := blk_frozen BK1085.out 5; have hfz13_6 := blk_frozen BK1085.out 6) | ((with_reducible refine gate_callee (f := 152) rfl ?_); refine goesL_ (some 18) rfl rfl Try.func152 (by kernel_rfl) rfl #[.agg #[.int .u8 a0_0, .int .i64 a0_1, .int .i64 a0_2, .int .i64 a0_3, .int .i64 a0_4, .int .i64 a0_5, .slice A0_6 l0_6.length c0_6], .int .u8 a1] rfl (by (try simp only [List.map_toArray, List.map_cons, List.map_nil]); rfl) ?_; (with_reducible refine (sashref08_Of.calls k a0_0 a0_1 a0_2 a0_3 a0_4 a0_5 _ _ l0_6 a1 t1087 _ ?side1 ?side2 A9.out).mono ?_); (case side1 => repeat (exact (Kd.C_below HR0_6.out HB.out))); (case side2 => exact HC0_6.out); rintro e w14 ⟨rfl, hb⟩; refine ⟨_, rfl, ?_⟩; replace BK1085 := Aside0.mk (blk_below BK1085.out hb); replace HB := Aside0.mk (below_step (by repeat ((with_reducible exact HB.out))) hb); (try clear hb)))
    go_ret
    exact ⟨by rfl, by repeat ((with_reducible exact HB.out))⟩
   ·replace c8 := Bool.eq_false_iff.mpr c8
    subst c8
    have H1 : (some 0) = some r := by rw [if_neg (show ¬ (false = true) by decide)] at H; exact H
    clear H
    have H := H1
    clear H1
    obtain rfl := Option.some.inj H
    go_enter Try.func94, Try.ntmps94
    go_wp2_with (first | ((with_reducible refine gate_dst (N := 2) rfl ?_); refine box_event ?hg (N := 2) ?hd (cs := #[.int .u8 a0_0, .int .i64 a0_1, .int .i64 a0_2, .int .i64 a0_3, .int .i64 a0_4, .int .i64 a0_5, .slice A0_6 l0_6.length c0_6]) (t := 26) ?hr ?_; (case hd => rfl); (case hg => rfl); (case hr => (go_simp; done)); intro gb1085 hg w15 hbox hb; have BK1085 := Aside0.mk (hbox); replace HB := Aside0.mk (below_step (by repeat ((with_reducible exact HB.out))) hb); clear hb hbox hg; have hcz16_0 : w15.cell? ⟨gb1085, 0, none⟩ = some (.int .u8 a0_0) := (blk_cell BK1085.out 0).trans rfl; have hcz16_1 : w15.cell? ⟨gb1085, 1, none⟩ = some (.int .i64 a0_1) := (blk_cell BK1085.out 1).trans rfl; have hcz16_2 : w15.cell? ⟨gb1085, 2, none⟩ = some (.int .i64 a0_2) := (blk_cell BK1085.out 2).trans rfl; have hcz16_3 : w15.cell? ⟨gb1085, 3, none⟩ = some (.int .i64 a0_3) := (blk_cell BK1085.out 3).trans rfl; have hcz16_4 : w15.cell? ⟨gb1085, 4, none⟩ = some (.int .i64 a0_4) := (blk_cell BK1085.out 4).trans rfl; have hcz16_5 : w15.cell? ⟨gb1085, 5, none⟩ = some (.int .i64 a0_5) := (blk_cell BK1085.out 5).trans rfl; have hcz16_6 : w15.cell? ⟨gb1085, 6, none⟩ = some (.slice A0_6 l0_6.length c0_6) := (blk_cell BK1085.out 6).trans rfl; have hfz16_0 := blk_frozen BK1085.out 0; have hfz16_1 := blk_frozen BK1085.out 1; have hfz16_2 := blk_frozen BK1085.out 2; have hfz16_3 := blk_frozen BK1085.out 3; have hfz16_4 := blk_frozen BK1085.out 4; have hfz16_5 := blk_frozen BK1085.out 5; have hfz16_6 := blk_frozen BK1085.out 6) | (go_at_call 38; (with_reducible refine (sashref05_May.calls k a0_0 a0_1 a0_2 a0_3 a0_4 a0_5 _ _ l0_6 false _ ?side1 ?side2 A7.out).mono ?_); (case side1 => repeat (exact (Kd.C_below HR0_6.out HB.out))); (case side2 => exact HC0_6.out); rintro e w17 ⟨rfl, hb⟩; replace BK1085 := Aside0.mk (blk_below BK1085.out hb); replace HB := Aside0.mk (below_step (by repeat ((with_reducible exact HB.out))) hb); (try clear hb)))
    go_ret
    exact ⟨by rfl, by repeat ((with_reducible exact HB.out))⟩

end Go.Proofs.Ytfdmfgaiblfbhaa.P
namespace Go.Proofs.Ytfdmfgaiblfbhaa.P
open Go.RowKit Go.Proofs.YtfdmfgaiblfbhaaW.PrintWords Go.Proofs.YtfdmfgaiblfbhaaW.PrintLast Go.Proofs.YtfdmfgaiblfbhaaW.PrintMore
attribute [local go_sem] max2_int min2_int max_two min_two max_three min_three max_four min_four   -- for this text's walks alone
set_option linter.unusedVariables false
set_option linter.unusedSimpArgs false

/-! ### sashref06_Sizes: function 194 -/
def sashref06_Sizes.l0 : Nat → List Int → Int → Int → Int → Int → Int → Int → Int → Int → List (S26) → Option (List Int)
 | 0, _, _, _, _, _, _, _, _, _, _ => none
 | k + 1, x3, x8, x9, x909000, x909001, x909002, x909003, x909004, x909005, x909006 => if x9 < x8 then (if x909000 = 2 then (if 0 ≤ x9 then (if x9 < (x909006.length : Int) then (if x3.length < 17592186044416 then (sashref06_Sizes.l0 k (x3 ++ [(rd_T26 x909006 x9).f1.f2]) x8 (wrap64 (x9 + 1)) x909000 x909001 x909002 x909003 x909004 x909005 x909006) else (none)) else (none)) else (none)) else (if 0 ≤ x9 then (if x9 < (x909006.length : Int) then (if x3.length < 17592186044416 then (sashref06_Sizes.l0 k (x3 ++ [(rd_T26 x909006 x9).f1.f3]) x8 (wrap64 (x9 + 1)) x909000 x909001 x909002 x909003 x909004 x909005 x909006) else (none)) else (none)) else (none))) else (some x3)
def sashref06_Sizes.f (k : Nat) (a0_0 : Int) (a0_1 : Int) (a0_2 : Int) (a0_3 : Int) (a0_4 : Int) (a0_5 : Int) (l0_6 : List (S26)) : Option (List Int) := sashref06_Sizes.l0 k (([] : List Int)) (l0_6.length : Int) 0 a0_0 a0_1 a0_2 a0_3 a0_4 a0_5 l0_6
theorem sashref06_Sizes.mono_l : ∀ k, (∀ y0 y1 y2 y3 y4 y5 y6 y7 y8 y9, LeO (sashref06_Sizes.l0 k y0 y1 y2 y3 y4 y5 y6 y7 y8 y9) (sashref06_Sizes.l0 (k + 1) y0 y1 y2 y3 y4 y5 y6 y7 y8 y9))
 | 0 => fun _ _ _ _ _ _ _ _ _ _ r h => by simp [sashref06_Sizes.l0] at h
 | k + 1 => by
  have ih0 := sashref06_Sizes.mono_l k
  ·intro y0 y1 y2 y3 y4 y5 y6 y7 y8 y9
   unfold sashref06_Sizes.l0
   repeat' first | (with_reducible exact ih0 _ _ _ _ _ _ _ _ _ _) | (with_reducible exact LeO.refl _) | (with_reducible refine LeO.ite ?_ ?_)
theorem sashref06_Sizes.mono : ∀ a0 a1 a2 a3 a4 a5 a6 k, LeO (sashref06_Sizes.f k a0 a1 a2 a3 a4 a5 a6) (sashref06_Sizes.f (k + 1) a0 a1 a2 a3 a4 a5 a6) := by
 intro a0 a1 a2 a3 a4 a5 a6 k
 have ih0 := sashref06_Sizes.mono_l k
 unfold sashref06_Sizes.f
 repeat' (with_reducible exact ih0 _ _ _ _ _ _ _ _ _ _)
set_option maxHeartbeats 8000000 in
set_option maxRecDepth 100000 in
theorem sashref06_Sizes.calls (k : Nat) (a0_0 : Int) (a0_1 : Int) (a0_2 : Int) (a0_3 : Int) (a0_4 : Int) (a0_5 : Int) (A0_6 : Option Addr) (c0_6 : Nat) (l0_6 : List (S26)) (r : List Int) (w : World) (hr0_6 : Kd.C k26 w A0_6 l0_6.length l0_6) (hc0_6 : l0_6.length ≤ c0_6) (h : sashref06_Sizes.f k a0_0 a0_1 a0_2 a0_3 a0_4 a0_5 l0_6 = some r) :
  Calls Try.prog 194 #[.agg #[.int .u8 a0_0, .int .i64 a0_1, .int .i64 a0_2, .int .i64 a0_3, .int .i64 a0_4, .int .i64 a0_5, .slice A0_6 l0_6.length c0_6]] w fun e w' => ∃ v0_ : Value, e = .returned (v0_) ∧ Kd.R (Kd.int .i64) 3 w' w.heap.size (fun _ => True) v0_ r ∧ Below w.heap.size w w' := by
 have hu26 := Try.underlying26
 have HR0_6 := Aside0.mk hr0_6
 clear hr0_6 hc0_6
 have HB := Aside0.mk (Below.refl w.heap.size w)
 have H : (sashref06_Sizes.l0 k (([] : List Int)) (l0_6.length : Int) 0 a0_0 a0_1 a0_2 a0_3 a0_4 a0_5 l0_6) = some r := h
 clear h
 obtain ⟨y909, hy909⟩ : ∃ y_ : List Int, y_ = (([] : List Int)) := ⟨_, rfl⟩
 replace H : (sashref06_Sizes.l0 k y909 (l0_6.length : Int) 0 a0_0 a0_1 a0_2 a0_3 a0_4 a0_5 l0_6) = some r := by (rw [hy909]; with_reducible exact H)
 have Ny909 := Aside0.mk hy909
 clear hy909
 have H' := Aside0.mk H
 clear H
 go_enter Try.func194, Try.ntmps194
 go_wp2_with (first | ((with_reducible refine gate_dst (N := 1) rfl ?_); refine box_event ?hg (N := 1) ?hd (cs := #[.int .u8 a0_0, .int .i64 a0_1, .int .i64 a0_2, .int .i64 a0_3, .int .i64 a0_4, .int .i64 a0_5, .slice A0_6 l0_6.length c0_6]) (t := 26) ?hr ?_; (case hd => rfl); (case hg => rfl); (case hr => (go_simp; done)); intro gb908 hg w2 hbox hb; have BK908 := Aside0.mk (hbox); replace HB := Aside0.mk (below_step (by repeat ((with_reducible exact HB.out))) hb); clear hb hbox hg) | ((with_reducible refine gate_dst (N := 5) rfl ?_); refine Kd.R_lit (Kd.int .i64) _ 3 ?hg (N := 5) ?hd (xs := ([] : List Int)) (inner := []) (ok := fun _ => True) (okp := fun _ => True) ?hr ?hp (fun _ hk => hk) trivial (Below.refl _ _) (Nat.le_refl _) (by simp) ?_; (case hd => rfl); (case hg => rfl); (case hr => (go_simp; done)); (case hp => exact (Reps.none _ _)); intro v910 w3 ho4 hb hg_ hnew_; clear hg_ hnew_; (rw [← Ny909.out] at ho4); have HO911 := Aside0.mk (Kd.R_lower ho4 (below_size (by repeat ((with_reducible exact HB.out))))); replace BK908 := Aside0.mk (blk_below BK908.out hb); replace HB := Aside0.mk (below_step (by repeat ((with_reducible exact HB.out))) hb); clear hb ho4; have hcz5_0 : w3.cell? ⟨gb908, 0, none⟩ = some (.int .u8 a0_0) := (blk_cell BK908.out 0).trans rfl; have hcz5_1 : w3.cell? ⟨gb908, 1, none⟩ = some (.int .i64 a0_1) := (blk_cell BK908.out 1).trans rfl; have hcz5_2 : w3.cell? ⟨gb908, 2, none⟩ = some (.int .i64 a0_2) := (blk_cell BK908.out 2).trans rfl; have hcz5_3 : w3.cell? ⟨gb908, 3, none⟩ = some (.int .i64 a0_3) := (blk_cell BK908.out 3).trans rfl; have hcz5_4 : w3.cell? ⟨gb908, 4, none⟩ = some (.int .i64 a0_4) := (blk_cell BK908.out 4).trans rfl; have hcz5_5 : w3.cell? ⟨gb908, 5, none⟩ = some (.int .i64 a0_5) := (blk_cell BK908.out 5).trans rfl; have hcz5_6 : w3.cell? ⟨gb908, 6, none⟩ = some (.slice A0_6 l0_6.length c0_6) := (blk_cell BK908.out 6).trans rfl; have hfz5_0 := blk_frozen BK908.out 0; have hfz5_1 := blk_frozen BK908.out 1; have hfz5_2 := blk_frozen BK908.out 2; have hfz5_3 := blk_frozen BK908.out 3; have hfz5_4 := blk_frozen BK908.out 4; have hfz5_5 := blk_frozen BK908.out 5; have hfz5_6 := blk_frozen BK908.out 6))
 go_loopg [3, 9] k (fun kq v3 v9 w' => ∃ (x3_1 : List Int) (x9_1 : Int), v9 = .int .i64 x9_1 ∧ Aside0 (sashref06_Sizes.l0 kq x3_1 (l0_6.length : Int) x9_1 a0_0 a0_1 a0_2 a0_3 a0_4 a0_5 l0_6 = some r) ∧ Aside0 (kq ≤ k) ∧ Aside0 (Kd.R (Kd.int .i64) 3 w' w.heap.size (fun _ => True) v3 x3_1) ∧ Aside0 (w'.heap[gb908]? = some (.cells #[.int .u8 a0_0, .int .i64 a0_1, .int .i64 a0_2, .int .i64 a0_3, .int .i64 a0_4, .int .i64 a0_5, (.slice A0_6 l0_6.length c0_6)] 26 (0, 0))) ∧ Aside0 (Below w.heap.size w w'))
 case atStart => exact ⟨(y909), (0), (by rfl), H', ⟨Nat.le_refl _⟩, ⟨by exact HO911.out⟩, ⟨by exact BK908.out⟩, ⟨by repeat ((with_reducible exact HB.out))⟩⟩
 case round =>
  clear H'
  clear hcz5_0 hcz5_1 hcz5_2 hcz5_3 hcz5_4 hcz5_5 hcz5_6 hfz5_0 hfz5_1 hfz5_2 hfz5_3 hfz5_4 hfz5_5 hfz5_6
  obtain ⟨x3_1, x9_1, rfl, HA, HK1, HO_3, BK908, HB⟩ := hrel
  cases gk with
  | zero => exact absurd HA.out (by simp [sashref06_Sizes.l0])
  | succ k1 =>
   have H := HA.out
   clear HA
   simp only [sashref06_Sizes.l0] at H
   by_cases c6 : x9_1 < (l0_6.length : Int)
   ·rw [if_pos c6] at H
    have c6b0 : decide (x9_1 < (l0_6.length : Int)) = true := decide_eq_true c6
    clear c6
    by_cases c7 : a0_0 = 2
    ·rw [if_pos c7] at H
     have c7b0 : (a0_0 == 2) = true := beq_iff_eq.mpr c7
     have c7b1 : (a0_0 != 2) = false := bne_eq_false_iff_eq.mpr c7
     clear c7
     by_cases c8 : 0 ≤ x9_1
     ·rw [if_pos c8] at H
      have c8b0 : decide (0 ≤ x9_1) = true := decide_eq_true c8
      clear c8
      by_cases c9 : x9_1 < (l0_6.length : Int)
      ·rw [if_pos c9] at H
       have c9b0 : decide (x9_1 < (l0_6.length : Int)) = true := decide_eq_true c9
       clear c9
       by_cases c10 : x3_1.length < 17592186044416
       ·rw [if_pos c10] at H
        have LMc10 := Aside0.mk c10
        clear c10
        obtain ⟨y913, hy913⟩ : ∃ y_ : List Int, y_ = (x3_1 ++ [(rd_T26 l0_6 x9_1).f1.f2]) := ⟨_, rfl⟩
        replace H : (sashref06_Sizes.l0 k1 y913 (l0_6.length : Int) (wrap64 (x9_1 + 1)) a0_0 a0_1 a0_2 a0_3 a0_4 a0_5 l0_6) = some r := by (rw [hy913]; with_reducible exact H)
        have Ny913 := Aside0.mk hy913
        clear hy913
        have H' := Aside0.mk H
        clear H
        have hcz11_0 : wr.cell? ⟨gb908, 0, none⟩ = some (.int .u8 a0_0) := (blk_cell BK908.out 0).trans rfl
        have hcz11_1 : wr.cell? ⟨gb908, 1, none⟩ = some (.int .i64 a0_1) := (blk_cell BK908.out 1).trans rfl
        have hcz11_2 : wr.cell? ⟨gb908, 2, none⟩ = some (.int .i64 a0_2) := (blk_cell BK908.out 2).trans rfl
        have hcz11_3 : wr.cell? ⟨gb908, 3, none⟩ = some (.int .i64 a0_3) := (blk_cell BK908.out 3).trans rfl
        have hcz11_4 : wr.cell? ⟨gb908, 4, none⟩ = some (.int .i64 a0_4) := (blk_cell BK908.out 4).trans rfl
        have hcz11_5 : wr.cell? ⟨gb908, 5, none⟩ = some (.int .i64 a0_5) := (blk_cell BK908.out 5).trans rfl
        have hcz11_6 : wr.cell? ⟨gb908, 6, none⟩ = some (.slice A0_6 l0_6.length c0_6) := (blk_cell BK908.out 6).trans rfl
        have hfz11_0 := blk_frozen BK908.out 0
        have hfz11_1 := blk_frozen BK908.out 1
        have hfz11_2 := blk_frozen BK908.out 2
        have hfz11_3 := blk_frozen BK908.out 3
        have hfz11_4 := blk_frozen BK908.out 4
        have hfz11_5 := blk_frozen BK908.out 5
        have hfz11_6 := blk_frozen BK908.out 6
        have p912 : 0 ≤ (x9_1 : Int) := of_decide_eq_true (by (with_reducible assumption))
        have q912 : x9_1 < (l0_6.length : Int) := of_decide_eq_true (by (with_reducible assumption))
        obtain ⟨ad912, A912_6, c912_6, e912, hx912_0, hx912_1, hx912_2, hx912_3, hx912_4, hx912_5, hx912_6, hl912_6, hi912_6⟩ := at_T26 HR0_6.out x9_1 p912 q912
        cases e912
        replace hx912_0 := (HB.out.cell (World.block_lt_of_cell? w _ hx912_0)).trans hx912_0
        replace hx912_1 := (HB.out.cell (World.block_lt_of_cell? w _ hx912_1)).trans hx912_1
        replace hx912_2 := (HB.out.cell (World.block_lt_of_cell? w _ hx912_2)).trans hx912_2
        replace hx912_3 := (HB.out.cell (World.block_lt_of_cell? w _ hx912_3)).trans hx912_3
        replace hx912_4 := (HB.out.cell (World.block_lt_of_cell? w _ hx912_4)).trans hx912_4
        replace hx912_5 := (HB.out.cell (World.block_lt_of_cell? w _ hx912_5)).trans hx912_5
        replace hx912_6 := (HB.out.cell (World.block_lt_of_cell? w _ hx912_6)).trans hx912_6
        clear hi912_6 hl912_6
        replace p912 := eq_true p912
        replace q912 := eq_true q912
        go_wp2_with (((with_reducible refine gate_builtin (b := .append) (xs := #[.tmp 15, .tmp 23]) rfl ?_); at_builtin; refine Kd.R_append (Kd.int .i64) (w0 := w) w.heap.size rfl (.tmp 15) (.tmp 23) 41 3 (.int .i64 0) 8 rfl Try.underlying41 info3 rfl (by decide) (by omega) u3 x3_1 ((rd_T26 l0_6 x9_1).f1.f2) [.int .i64 ((rd_T26 l0_6 x9_1).f1.f2)] (fun _ => True) (fun _ => False) rfl rfl ?aP (fun _ hk => hk.elim) ?aF ?aO ?aB ?aS ?aL ?_; (case aP => exact rfl); (case aB => exact (by repeat ((with_reducible exact HB.out)))); (case aF => exact (fun _ _ => trivial)); (case aO => exact HO_3.out); (case aS => exact (below_size (by repeat ((with_reducible exact HB.out))))); (case aL => have := LMc10.out; omega); intro v914 w12 ho hb hg hat; rw [← Ny913.out] at ho; have HO915 := Aside0.mk (ho); replace BK908 := Aside0.mk (blk_grown BK908.out hg (Kd.R_ne HO_3.out BK908.out (by decide))); replace HB := Aside0.mk (hb); clear HO_3; clear ho hb hg hat))
        go_roundg k1
        case measure => have := HK1.out; omega
        case rel => exact ⟨(y913), (wrap64 (x9_1 + 1)), (by rfl), H', ⟨by have := HK1.out; omega⟩, ⟨by exact HO915.out⟩, ⟨by exact BK908.out⟩, ⟨by repeat ((with_reducible exact HB.out))⟩⟩
       ·rw [if_neg c10] at H
        exact absurd H (by simp)
      ·rw [if_neg c9] at H
       exact absurd H (by simp)
     ·rw [if_neg c8] at H
      exact absurd H (by simp)
    ·rw [if_neg c7] at H
     have c7b0 : (a0_0 == 2) = false := beq_eq_false_iff_ne.mpr c7
     have c7b1 : (a0_0 != 2) = true := bne_iff_ne.mpr c7
     by_cases c13 : 0 ≤ x9_1
     ·rw [if_pos c13] at H
      have c13b0 : decide (0 ≤ x9_1) = true := decide_eq_true c13
      clear c13
      by_cases c14 : x9_1 < (l0_6.length : Int)
      ·rw [if_pos c14] at H
       have c14b0 : decide (x9_1 < (l0_6.length : Int)) = true := decide_eq_true c14
       clear c14
       by_cases c15 : x3_1.length < 17592186044416
       ·rw [if_pos c15] at H
        have LMc15 := Aside0.mk c15
        clear c15
        obtain ⟨y917, hy917⟩ : ∃ y_ : List Int, y_ = (x3_1 ++ [(rd_T26 l0_6 x9_1).f1.f3]) := ⟨_, rfl⟩
        replace H : (sashref06_Sizes.l0 k1 y917 (l0_6.length : Int) (wrap64 (x9_1 + 1)) a0_0 a0_1 a0_2 a0_3 a0_4 a0_5 l0_6) = some r := by (rw [hy917]; with_reducible exact H)
        have Ny917 := Aside0.mk hy917
        clear hy917
        have H' := Aside0.mk H
        clear H
        have hcz16_0 : wr.cell? ⟨gb908, 0, none⟩ = some (.int .u8 a0_0) := (blk_cell BK908.out 0).trans rfl
        have hcz16_1 : wr.cell? ⟨gb908, 1, none⟩ = some (.int .i64 a0_1) := (blk_cell BK908.out 1).trans rfl
        have hcz16_2 : wr.cell? ⟨gb908, 2, none⟩ = some (.int .i64 a0_2) := (blk_cell BK908.out 2).trans rfl
        have hcz16_3 : wr.cell? ⟨gb908, 3, none⟩ = some (.int .i64 a0_3) := (blk_cell BK908.out 3).trans rfl
        have hcz16_4 : wr.cell? ⟨gb908, 4, none⟩ = some (.int .i64 a0_4) := (blk_cell BK908.out 4).trans rfl
        have hcz16_5 : wr.cell? ⟨gb908, 5, none⟩ = some (.int .i64 a0_5) := (blk_cell BK908.out 5).trans rfl
        have hcz16_6 : wr.cell? ⟨gb908, 6, none⟩ = some (.slice A0_6 l0_6.length c0_6) := (blk_cell BK908.out 6).trans rfl
        have hfz16_0 := blk_frozen BK908.out 0
        have hfz16_1 := blk_frozen BK908.out 1
        have hfz16_2 := blk_frozen BK908.out 2
        have hfz16_3 := blk_frozen BK908.out 3
        have hfz16_4 := blk_frozen BK908.out 4
        have hfz16_5 := blk_frozen BK908.out 5
        have hfz16_6 := blk_frozen BK908.out 6
        have p916 : 0 ≤ (x9_1 : Int) := of_decide_eq_true (by (with_reducible assumption))
        have q916 : x9_1 < (l0_6.length : Int) := of_decide_eq_true (by (with_reducible assumption))
        obtain ⟨ad916, A916_6, c916_6, e916, hx916_0, hx916_1, hx916_2, hx916_3, hx916_4, hx916_5, hx916_6, hl916_6, hi916_6⟩ := at_T26 HR0_6.out x9_1 p916 q916
        cases e916
        replace hx916_0 := (HB.out.cell (World.block_lt_of_cell? w _ hx916_0)).trans hx916_0
        replace hx916_1 := (HB.out.cell (World.block_lt_of_cell? w _ hx916_1)).trans hx916_1
        replace hx916_2 := (HB.out.cell (World.block_lt_of_cell? w _ hx916_2)).trans hx916_2
        replace hx916_3 := (HB.out.cell (World.block_lt_of_cell? w _ hx916_3)).trans hx916_3
        replace hx916_4 := (HB.out.cell (World.block_lt_of_cell? w _ hx916_4)).trans hx916_4
        replace hx916_5 := (HB.out.cell (World.block_lt_of_cell? w _ hx916_5)).trans hx916_5
        replace hx916_6 := (HB.out.cell (World.block_lt_of_cell? w _ hx916_6)).trans hx916_6
        clear hi916_6 hl916_6
        replace p916 := eq_true p916
        replace q916 := eq_true q916
        go_wp2_with (((with_reducible refine gate_builtin (b := .append) (xs := #[.tmp 25, .tmp 33]) rfl ?_); at_builtin; refine Kd.R_append (Kd.int .i64) (w0 := w) w.heap.size rfl (.tmp 25) (.tmp 33) 41 3 (.int .i64 0) 8 rfl Try.underlying41 info3 rfl (by decide) (by omega) u3 x3_1 ((rd_T26 l0_6 x9_1).f1.f3) [.int .i64 ((rd_T26 l0_6 x9_1).f1.f3)] (fun _ => True) (fun _ => False) rfl rfl ?aP (fun _ hk => hk.elim) ?aF ?aO ?aB ?aS ?aL ?_; (case aP => exact rfl); (case aB => exact (by repeat ((with_reducible exact HB.out)))); (case aF => exact (fun _ _ => trivial)); (case aO => exact HO_3.out); (case aS => exact (below_size (by repeat ((with_reducible exact HB.out))))); (case aL => have := LMc15.out; omega); intro v918 w17 ho hb hg hat; rw [← Ny917.out] at ho; have HO919 := Aside0.mk (ho); replace BK908 := Aside0.mk (blk_grown BK908.out hg (Kd.R_ne HO_3.out BK908.out (by decide))); replace HB := Aside0.mk (hb); clear HO_3; clear ho hb hg hat))
        go_roundg k1
        case measure => have := HK1.out; omega
        case rel => exact ⟨(y917), (wrap64 (x9_1 + 1)), (by rfl), H', ⟨by have := HK1.out; omega⟩, ⟨by exact HO919.out⟩, ⟨by exact BK908.out⟩, ⟨by repeat ((with_reducible exact HB.out))⟩⟩
       ·rw [if_neg c15] at H
        exact absurd H (by simp)
      ·rw [if_neg c14] at H
       exact absurd H (by simp)
     ·rw [if_neg c13] at H
      exact absurd H (by simp)
   ·rw [if_neg c6] at H
    have c6b0 : decide (x9_1 < (l0_6.length : Int)) = false := decide_eq_false c6
    clear c6
    obtain rfl := Option.some.inj H
    go_wp2
    go_ret
    exact ⟨_, by rfl, by exact HO_3.out, by repeat ((with_reducible exact HB.out))⟩

end Go.Proofs.Ytfdmfgaiblfbhaa.P
namespace Go.Proofs.Ytfdmfgaiblfbhaa.P
open Go.RowKit Go.Proofs.YtfdmfgaiblfbhaaW.PrintWords Go.Proofs.YtfdmfgaiblfbhaaW.PrintLast Go.Proofs.YtfdmfgaiblfbhaaW.PrintMore
attribute [local go_sem] max2_int min2_int max_two min_two max_three min_three max_four min_four   -- for this text's walks alone
set_option linter.unusedVariables false
set_option linter.unusedSimpArgs false

attribute [local go_sem high] eqA23
/-! ### sashref06_one: function 178 -/
def sashref06_one.l0 : Nat → List (S23) → List (S23) → Int → Int → Int → Int → Int → Int → Int → Int → List (S26) → Option ((List (S23)) × Bool)
 | 0, _, _, _, _, _, _, _, _, _, _, _ => none
 | k + 1, x4, x5, x28, x29, x921000, x921001, x921002, x921003, x921004, x921005, x921006 => if x29 < x28 then (if 0 ≤ x29 then (if x29 < (x4.length : Int) then (if x29 < (x921006.length : Int) then (if (!(((rd_T23 x4 x29).f0) == ((rd_T26 x921006 x29).f1.f0)) || (!(((rd_T23 x4 x29).f1) == ((rd_T26 x921006 x29).f1.f1)) || (!(((rd_T23 x4 x29).f2) == ((rd_T26 x921006 x29).f1.f2)) || (!(((rd_T23 x4 x29).f3) == ((rd_T26 x921006 x29).f1.f3)))))) = true then (some ((([] : List (S23))), false)) else (sashref06_one.l0 k x4 x5 x28 (wrap64 (x29 + 1)) x921000 x921001 x921002 x921003 x921004 x921005 x921006)) else (none)) else (none)) else (none)) else (some (x5, true))
def sashref06_one.f (k : Nat) (a0_0 : Int) (a0_1 : Int) (a0_2 : Int) (a0_3 : Int) (a0_4 : Int) (a0_5 : Int) (l0_6 : List (S26)) : Option ((List (S23)) × Bool) := if a0_0 = 1 then (some ((([] : List (S23))), true)) else ((sashref06_Sizes.f k a0_0 a0_1 a0_2 a0_3 a0_4 a0_5 l0_6).bind fun t924 => ((sashref04_Cut.f k a0_1 a0_2 a0_3 a0_4 ((a0_0 - 1) % 256) t924).bind fun bt927 => (if bt927.2.2 = true then (sashref06_one.l0 k bt927.1 bt927.2.1 (bt927.1.length : Int) 0 a0_0 a0_1 a0_2 a0_3 a0_4 a0_5 l0_6) else (some (bt927.2.1, false)))))
theorem sashref06_one.mono_l : ∀ k, (∀ y0 y1 y2 y3 y4 y5 y6 y7 y8 y9 y10, LeO (sashref06_one.l0 k y0 y1 y2 y3 y4 y5 y6 y7 y8 y9 y10) (sashref06_one.l0 (k + 1) y0 y1 y2 y3 y4 y5 y6 y7 y8 y9 y10))
 | 0 => fun _ _ _ _ _ _ _ _ _ _ _ r h => by simp [sashref06_one.l0] at h
 | k + 1 => by
  have ih0 := sashref06_one.mono_l k
  ·intro y0 y1 y2 y3 y4 y5 y6 y7 y8 y9 y10
   unfold sashref06_one.l0
   repeat' first | (with_reducible exact ih0 _ _ _ _ _ _ _ _ _ _ _) | (with_reducible exact LeO.refl _) | (with_reducible refine LeO.ite ?_ ?_)
theorem sashref06_one.mono : ∀ a0 a1 a2 a3 a4 a5 a6 k, LeO (sashref06_one.f k a0 a1 a2 a3 a4 a5 a6) (sashref06_one.f (k + 1) a0 a1 a2 a3 a4 a5 a6) := by
 intro a0 a1 a2 a3 a4 a5 a6 k
 have ih0 := sashref06_one.mono_l k
 unfold sashref06_one.f
 repeat' first | (with_reducible exact ih0 _ _ _ _ _ _ _ _ _ _ _) | (with_reducible exact sashref04_Cut.mono _ _ _ _ _ _ _) | (with_reducible exact sashref06_Sizes.mono _ _ _ _ _ _ _ _) | (with_reducible exact LeO.refl _) | (with_reducible refine LeO.ite ?_ ?_) | (with_reducible refine LeO.bind ?_ (fun _ => ?_))
def sashref06_one.T3 : Bool × List (List Nat × List Nat) := (true, [([], []), ([0], [0]), ([], []), ([2], [2]), ([3], [3]), ([], []), ([5], [5]), ([1, 4, 6, 6], [1, 4, 6]), ([7], [7]), ([8], [8]), ([8], [8]), ([8], [8]), ([9, 7, 0, 1, 2, 3, 4, 5, 6, 7, 8, 9], [9]), ([10, 12, 0, 1, 2, 3, 4, 5, 6, 7, 8, 9, 10, 12], [10]), ([11, 13, 0, 1, 2, 3, 4, 5, 6, 7, 8, 9, 10, 11, 12, 13], [11])])
def sashref06_one.B3 : List Nat := [0, 1, 0, 4, 12, 0, 32, 127, 255, 511, 511, 511, 1023, 6143, 16383]
theorem sashref06_one.tab3 : rtab .any (opsOf Try.f178 3) = sashref06_one.T3 := by kernel_rfl
theorem sashref06_one.bits3 : waitsOk sashref06_one.T3.2 sashref06_one.B3 = true := by kernel_rfl
def sashref06_one.T9 : Bool × List (List Nat × List Nat) := (true, [([], []), ([], []), ([0, 1], [0, 1]), ([2], [2]), ([], []), ([4], [4]), ([], []), ([5, 6], [5, 6]), ([7], [7]), ([8], [8]), ([3, 9], [3, 9])])
def sashref06_one.B9 : List Nat := [0, 0, 3, 7, 0, 16, 0, 112, 240, 496, 1023]
theorem sashref06_one.tab9 : rtab .any (opsOf Try.f178 9) = sashref06_one.T9 := by kernel_rfl
theorem sashref06_one.bits9 : waitsOk sashref06_one.T9.2 sashref06_one.B9 = true := by kernel_rfl
set_option maxHeartbeats 8000000 in
set_option maxRecDepth 100000 in
theorem sashref06_one.calls (k : Nat) (a0_0 : Int) (a0_1 : Int) (a0_2 : Int) (a0_3 : Int) (a0_4 : Int) (a0_5 : Int) (A0_6 : Option Addr) (c0_6 : Nat) (l0_6 : List (S26)) (r1 : List (S23)) (r2 : Bool) (w : World) (hr0_6 : Kd.C k26 w A0_6 l0_6.length l0_6) (hc0_6 : l0_6.length ≤ c0_6) (h : sashref06_one.f k a0_0 a0_1 a0_2 a0_3 a0_4 a0_5 l0_6 = some (r1, r2)) :
  Calls Try.prog 178 #[.agg #[.int .u8 a0_0, .int .i64 a0_1, .int .i64 a0_2, .int .i64 a0_3, .int .i64 a0_4, .int .i64 a0_5, .slice A0_6 l0_6.length c0_6]] w fun e w' => ∃ v0_ : Value, e = .returned (.tuple #[v0_, .bool r2]) ∧ Kd.V k23 23 w' w.heap.size (fun k_ => (w.heap.size ≤ k_)) v0_ r1 ∧ Below w.heap.size w w' := by
 have hu26 := Try.underlying26
 have hu23 := Try.underlying23
 have HR0_6 := Aside0.mk hr0_6
 have HC0_6 := Aside0.mk hc0_6
 clear hr0_6 hc0_6
 have HB := Aside0.mk (Below.refl w.heap.size w)
 have H : (if a0_0 = 1 then (some ((([] : List (S23))), true)) else ((sashref06_Sizes.f k a0_0 a0_1 a0_2 a0_3 a0_4 a0_5 l0_6).bind fun t924 => ((sashref04_Cut.f k a0_1 a0_2 a0_3 a0_4 ((a0_0 - 1) % 256) t924).bind fun bt927 => (if bt927.2.2 = true then (sashref06_one.l0 k bt927.1 bt927.2.1 (bt927.1.length : Int) 0 a0_0 a0_1 a0_2 a0_3 a0_4 a0_5 l0_6) else (some (bt927.2.1, false)))))) = some (r1, r2) := h
 clear h
 by_cases c2 : a0_0 = 1
 ·rw [if_pos c2] at H
  have c2b0 : (a0_0 == 1) = true := beq_iff_eq.mpr c2
  have c2b1 : (a0_0 != 1) = false := bne_eq_false_iff_eq.mpr c2
  clear c2
  obtain ⟨y921, hy921⟩ : ∃ y_ : List (S23), y_ = (([] : List (S23))) := ⟨_, rfl⟩
  replace H : (some (y921, true)) = some (r1, r2) := by (rw [hy921]; with_reducible exact H)
  have Ny921 := Aside0.mk hy921
  clear hy921
  simp only [Option.some.injEq, Prod.mk.injEq] at H
  obtain ⟨rfl, rfl⟩ := H
  go_enter Try.func178, Try.ntmps178
  go_wp2_with (first | ((with_reducible refine gate_dst (N := 1) rfl ?_); refine box_event ?hg (N := 1) ?hd (cs := #[.int .u8 a0_0, .int .i64 a0_1, .int .i64 a0_2, .int .i64 a0_3, .int .i64 a0_4, .int .i64 a0_5, .slice A0_6 l0_6.length c0_6]) (t := 26) ?hr ?_; (case hd => rfl); (case hg => rfl); (case hr => (go_simp; done)); intro gb920 hg w3 hbox hb; have BK920 := Aside0.mk (hbox); replace HB := Aside0.mk (below_step (by repeat ((with_reducible exact HB.out))) hb); clear hb hbox hg; have hcz4_0 : w3.cell? ⟨gb920, 0, none⟩ = some (.int .u8 a0_0) := (blk_cell BK920.out 0).trans rfl; have hcz4_1 : w3.cell? ⟨gb920, 1, none⟩ = some (.int .i64 a0_1) := (blk_cell BK920.out 1).trans rfl; have hcz4_2 : w3.cell? ⟨gb920, 2, none⟩ = some (.int .i64 a0_2) := (blk_cell BK920.out 2).trans rfl; have hcz4_3 : w3.cell? ⟨gb920, 3, none⟩ = some (.int .i64 a0_3) := (blk_cell BK920.out 3).trans rfl; have hcz4_4 : w3.cell? ⟨gb920, 4, none⟩ = some (.int .i64 a0_4) := (blk_cell BK920.out 4).trans rfl; have hcz4_5 : w3.cell? ⟨gb920, 5, none⟩ = some (.int .i64 a0_5) := (blk_cell BK920.out 5).trans rfl; have hcz4_6 : w3.cell? ⟨gb920, 6, none⟩ = some (.slice A0_6 l0_6.length c0_6) := (blk_cell BK920.out 6).trans rfl; have hfz4_0 := blk_frozen BK920.out 0; have hfz4_1 := blk_frozen BK920.out 1; have hfz4_2 := blk_frozen BK920.out 2; have hfz4_3 := blk_frozen BK920.out 3; have hfz4_4 := blk_frozen BK920.out 4; have hfz4_5 := blk_frozen BK920.out 5; have hfz4_6 := blk_frozen BK920.out 6) | ((with_reducible refine gate_dst (N := 11) rfl ?_); refine Kd.R_lit k23 _ 23 ?hg (N := 11) ?hd (xs := ([] : List (S23))) (inner := []) (ok := fun _ => True) (okp := fun _ => True) ?hr ?hp (fun _ hk => hk) trivial (Below.refl _ _) (Nat.le_refl _) (by simp) ?_; (case hd => rfl); (case hg => rfl); (case hr => (go_simp; done)); (case hp => exact (Reps.none _ _)); intro v922 w5 ho6 hb hg_ hnew_; clear hg_ hnew_; (rw [← Ny921.out] at ho6); have HO923 := Aside0.mk (Kd.R_lower (Kd.R_newM (M := fun k_ => (w.heap.size ≤ k_)) ho6 (below_size (by repeat ((with_reducible exact HB.out)))) (fun k_ h_ => h_)) (below_size (by repeat ((with_reducible exact HB.out))))); replace BK920 := Aside0.mk (blk_below BK920.out hb); replace HB := Aside0.mk (below_step (by repeat ((with_reducible exact HB.out))) hb); clear hb ho6))
  go_ret2
  exact ⟨_, by rfl, Kd.R_V (by exact Kd.R_mono HO923.out (fun _ hk => hk.1)), by repeat ((with_reducible exact HB.out))⟩
 ·rw [if_neg c2] at H
  have c2b0 : (a0_0 == 1) = false := beq_eq_false_iff_ne.mpr c2
  have c2b1 : (a0_0 != 1) = true := bne_iff_ne.mpr c2
  replace H := Option.bind_eq_some_iff.mp H
  obtain ⟨t924, A70, H⟩ := H
  replace H : ((sashref04_Cut.f k a0_1 a0_2 a0_3 a0_4 ((a0_0 - 1) % 256) t924).bind fun bt927 => (if bt927.2.2 = true then (sashref06_one.l0 k bt927.1 bt927.2.1 (bt927.1.length : Int) 0 a0_0 a0_1 a0_2 a0_3 a0_4 a0_5 l0_6) else (some (bt927.2.1, false)))) = some (r1, r2) := H
  have A7 := Aside0.mk A70
  clear A70
  replace H := Option.bind_eq_some_iff.mp H
  obtain ⟨⟨t927, t930, t933⟩, A80, H⟩ := H
  replace H : (if t933 = true then (sashref06_one.l0 k t927 t930 (t927.length : Int) 0 a0_0 a0_1 a0_2 a0_3 a0_4 a0_5 l0_6) else (some (t930, false))) = some (r1, r2) := H
  have A8 := Aside0.mk A80
  clear A80
  by_cases c9 : t933 = true
  ·subst c9
   have H1 : (sashref06_one.l0 k t927 t930 (t927.length : Int) 0 a0_0 a0_1 a0_2 a0_3 a0_4 a0_5 l0_6) = some (r1, r2) := by rw [if_pos rfl] at H; exact H
   clear H
   have H := H1
   clear H1
   have H' := Aside0.mk H
   clear H
   go_enter Try.func178, Try.ntmps178
   try go_wp2_with (((with_reducible refine gate_dst (N := 1) rfl ?_); refine box_event ?hg (N := 1) ?hd (cs := #[.int .u8 a0_0, .int .i64 a0_1, .int .i64 a0_2, .int .i64 a0_3, .int .i64 a0_4, .int .i64 a0_5, .slice A0_6 l0_6.length c0_6]) (t := 26) ?hr ?_; (case hd => rfl); (case hg => rfl); (case hr => (go_simp; done)); intro gb920 hg w10 hbox hb; have BK920 := Aside0.mk (hbox); replace HB := Aside0.mk (below_step (by repeat ((with_reducible exact HB.out))) hb); clear hb hbox hg; have hcz11_0 : w10.cell? ⟨gb920, 0, none⟩ = some (.int .u8 a0_0) := (blk_cell BK920.out 0).trans rfl; have hcz11_1 : w10.cell? ⟨gb920, 1, none⟩ = some (.int .i64 a0_1) := (blk_cell BK920.out 1).trans rfl; have hcz11_2 : w10.cell? ⟨gb920, 2, none⟩ = some (.int .i64 a0_2) := (blk_cell BK920.out 2).trans rfl; have hcz11_3 : w10.cell? ⟨gb920, 3, none⟩ = some (.int .i64 a0_3) := (blk_cell BK920.out 3).trans rfl; have hcz11_4 : w10.cell? ⟨gb920, 4, none⟩ = some (.int .i64 a0_4) := (blk_cell BK920.out 4).trans rfl; have hcz11_5 : w10.cell? ⟨gb920, 5, none⟩ = some (.int .i64 a0_5) := (blk_cell BK920.out 5).trans rfl; have hcz11_6 : w10.cell? ⟨gb920, 6, none⟩ = some (.slice A0_6 l0_6.length c0_6) := (blk_cell BK920.out 6).trans rfl; have hfz11_0 := blk_frozen BK920.out 0; have hfz11_1 := blk_frozen BK920.out 1; have hfz11_2 := blk_frozen BK920.out 2; have hfz11_3 := blk_frozen BK920.out 3; have hfz11_4 := blk_frozen BK920.out 4; have hfz11_5 := blk_frozen BK920.out 5; have hfz11_6 := blk_frozen BK920.out 6))
   replace BK920 := Aside0.mk (blk_drew BK920.out); replace HB := Aside0.mk (below_drew1 HB.out)
   refine start_ (n := 15) (S := fun w' => w'.cell? ⟨gb920, 0, none⟩ = some (.int .u8 a0_0) ∧ w'.cell? ⟨gb920, 1, none⟩ = some (.int .i64 a0_1) ∧ w'.cell? ⟨gb920, 2, none⟩ = some (.int .i64 a0_2) ∧ w'.cell? ⟨gb920, 3, none⟩ = some (.int .i64 a0_3) ∧ w'.cell? ⟨gb920, 4, none⟩ = some (.int .i64 a0_4) ∧ w'.cell? ⟨gb920, 5, none⟩ = some (.int .i64 a0_5) ∧ w'.cell? ⟨gb920, 6, none⟩ = some (.slice A0_6 l0_6.length c0_6)) (ds := []) #[false, false, false, false, false, false, false, false, false, false, false, false, false, false, false] (by kernel_rfl) rfl rfl ⟨(blk_cell BK920.out 0).trans rfl, (blk_cell BK920.out 1).trans rfl, (blk_cell BK920.out 2).trans rfl, (blk_cell BK920.out 3).trans rfl, (blk_cell BK920.out 4).trans rfl, (blk_cell BK920.out 5).trans rfl, (blk_cell BK920.out 6).trans rfl⟩ (fun hHeld => ?_); refine with_tabW sashref06_one.tab3 sashref06_one.bits3 (fun HT_ HW_ => ?_)
   generalize w10.drew = w12 at BK920 HB hHeld ⊢
   refine pure_ (i := 0) (N := some 13) (v := ?_) (a' := ?_) #[true, false, false, false, false, false, false, false, false, false, false, false, false, false, false] rfl rfl (any_of HT_.out (by kernel_rfl)) (fun _ _ _ h => h) (Or.inl ⟨by rfl, ?_⟩) ?_ ?_
   rotate_left
   ·intro w'
    go_simp
    with_reducible rfl
   rotate_left
   ·simp only [Act.put, List.setIfInBounds_toArray, List.set_cons_zero, List.set_cons_succ, i64_w, i32_w]
    rfl
   refine pure_ (i := 2) (N := some 15) (v := ?_) (a' := ?_) #[true, false, true, false, false, false, false, false, false, false, false, false, false, false, false] rfl rfl (any_of HT_.out (by kernel_rfl)) (fun _ _ _ h => h) (Or.inl ⟨by rfl, ?_⟩) ?_ ?_
   rotate_left
   ·intro w'
    go_simp
    with_reducible rfl
   rotate_left
   ·simp only [Act.put, List.setIfInBounds_toArray, List.set_cons_zero, List.set_cons_succ, i64_w, i32_w]
    rfl
   refine take_ (i := 1) (N := some 14) (v := ?_) (a' := ?_) #[true, true, true, false, false, false, false, false, false, false, false, false, false, false, false] rfl rfl (take_ofW HT_.out HW_.out (by kernel_rfl)) (fun _ _ _ h => h) (Or.inl ⟨by rfl, ?_⟩) hHeld ?_ ?_
   rotate_left
   ·rintro w' ⟨s0, s1, s2, s3, s4, s5, s6⟩
    go_simp
    with_reducible rfl
   rotate_left
   ·simp only [Act.put, List.setIfInBounds_toArray, List.set_cons_zero, List.set_cons_succ, i64_w, i32_w]
    rfl
   refine take_ (i := 3) (N := some 16) (v := ?_) (a' := ?_) #[true, true, true, true, false, false, false, false, false, false, false, false, false, false, false] rfl rfl (take_ofW HT_.out HW_.out (by kernel_rfl)) (fun _ _ _ h => h) (Or.inl ⟨by rfl, ?_⟩) hHeld ?_ ?_
   rotate_left
   ·rintro w' ⟨s0, s1, s2, s3, s4, s5, s6⟩
    go_simp
    with_reducible rfl
   rotate_left
   ·simp only [Act.put, List.setIfInBounds_toArray, List.set_cons_zero, List.set_cons_succ, i64_w, i32_w]
    rfl
   refine pure_ (i := 4) (N := some 17) (v := ?_) (a' := ?_) #[true, true, true, true, true, false, false, false, false, false, false, false, false, false, false] rfl rfl (any_of HT_.out (by kernel_rfl)) (fun _ _ _ h => h) (Or.inl ⟨by rfl, ?_⟩) ?_ ?_
   rotate_left
   ·intro w'
    go_simp
    with_reducible rfl
   rotate_left
   ·simp only [Act.put, List.setIfInBounds_toArray, List.set_cons_zero, List.set_cons_succ, i64_w, i32_w]
    rfl
   refine take_ (i := 5) (N := some 18) (v := ?_) (a' := ?_) #[true, true, true, true, true, true, false, false, false, false, false, false, false, false, false] rfl rfl (take_ofW HT_.out HW_.out (by kernel_rfl)) (fun _ _ _ h => h) (Or.inl ⟨by rfl, ?_⟩) hHeld ?_ ?_
   rotate_left
   ·rintro w' ⟨s0, s1, s2, s3, s4, s5, s6⟩
    go_simp
    with_reducible rfl
   rotate_left
   ·simp only [Act.put, List.setIfInBounds_toArray, List.set_cons_zero, List.set_cons_succ, i64_w, i32_w]
    rfl
   refine one_ (i := 6) (N := some 19) #[true, true, true, true, true, true, true, false, false, false, false, false, false, false, false] rfl rfl (one_of HT_.out (by kernel_rfl)) (by decide) (fun K hK => ?_)
   refine goes_ Try.func194 (by kernel_rfl) rfl #[.agg #[.int .u8 a0_0, .int .i64 a0_1, .int .i64 a0_2, .int .i64 a0_3, .int .i64 a0_4, .int .i64 a0_5, .slice A0_6 l0_6.length c0_6]] (by rfl) rfl rfl (by (try simp only [List.map_toArray, List.map_cons, List.map_nil]); rfl) ?_
   with_reducible refine (sashref06_Sizes.calls k a0_0 a0_1 a0_2 a0_3 a0_4 a0_5 _ _ l0_6 t924 _ ?side1 ?side2 A7.out).mono ?_
   (case side1 => repeat (exact (Kd.C_below HR0_6.out HB.out)))
   (case side2 => exact HC0_6.out)
   rintro e w13 ⟨v925, rfl, ho0, hb⟩
   refine ⟨_, rfl, ?_⟩
   have HO926 := Aside0.mk (Kd.R_lower (Kd.R_newM (M := fun k_ => (w.heap.size ≤ k_)) ho0 (below_size (by repeat ((with_reducible exact HB.out)))) (fun k_ h_ => h_)) (below_size (by repeat ((with_reducible exact HB.out))))); replace BK920 := Aside0.mk (blk_below BK920.out hb); replace HB := Aside0.mk (below_step (by repeat ((with_reducible exact HB.out))) hb)
   (try clear hb)
   (skip)
   (skip)
   (skip)
   (try clear ho0)
   obtain ⟨Ao14, co14, eo14⟩ := Kd.R_slice HO926.out
   (subst eo14)
   refine hK.out _ _ ⟨(blk_cell BK920.out 0).trans rfl, (blk_cell BK920.out 1).trans rfl, (blk_cell BK920.out 2).trans rfl, (blk_cell BK920.out 3).trans rfl, (blk_cell BK920.out 4).trans rfl, (blk_cell BK920.out 5).trans rfl, (blk_cell BK920.out 6).trans rfl⟩ (fun hHeld => ?_)
   clear hK K
   refine norm_ (a' := ?_) ?_ ?_
   rotate_left
   ·show Act.put _ (some 19) _ = _
    simp only [Act.put, List.setIfInBounds_toArray, List.set_cons_zero, List.set_cons_succ, i64_w, i32_w]
    rfl
   refine one_ (i := 7) (N := some 20) #[true, true, true, true, true, true, true, true, false, false, false, false, false, false, false] rfl rfl (one_of HT_.out (by kernel_rfl)) (by decide) (fun K hK => ?_)
   refine goes_ Try.func46 (by kernel_rfl) rfl #[.agg #[.int .i64 a0_1, .int .i64 a0_2, .int .i64 a0_3, .int .i64 a0_4], .int .u8 ((a0_0 - 1) % 256), .slice Ao14 t924.length co14] (by rfl) rfl rfl (by (try simp only [List.map_toArray, List.map_cons, List.map_nil]); rfl) ?_
   with_reducible refine (sashref04_Cut.calls k a0_1 a0_2 a0_3 a0_4 ((a0_0 - 1) % 256) _ _ t924 t927 t930 true _ ?side1 ?side2 A8.out).mono ?_
   (case side1 => repeat (exact (Kd.R_reads' HO926.out).2.2))
   (case side2 => exact (Kd.R_reads' HO926.out).2.1)
   rintro e w15 ⟨v928, v931, rfl, ho0, ho1, hb⟩
   refine ⟨_, rfl, ?_⟩
   have HO929 := Aside0.mk (Kd.V_lower (Kd.V_mono (ok' := fun k_ => (w.heap.size ≤ k_) ∧ some k_ ≠ (.slice Ao14 t924.length co14 : Value).ownBlock ∧ k_ ≠ gb920) ho0 (fun k_ hk_ => ⟨(Nat.le_trans (below_size (by repeat ((with_reducible exact HB.out)))) hk_), (Kd.fresh' (Kd.R_lt HO926.out) k_ hk_), (Kd.freshB BK920.out k_ hk_)⟩)) (below_size (by repeat ((with_reducible exact HB.out))))); have HO932 := Aside0.mk (Kd.V_lower (Kd.V_mono (ok' := fun k_ => (w.heap.size ≤ k_) ∧ some k_ ≠ (.slice Ao14 t924.length co14 : Value).ownBlock ∧ k_ ≠ gb920) ho1 (fun k_ hk_ => ⟨(Nat.le_trans (below_size (by repeat ((with_reducible exact HB.out)))) hk_), (Kd.fresh' (Kd.R_lt HO926.out) k_ hk_), (Kd.freshB BK920.out k_ hk_)⟩)) (below_size (by repeat ((with_reducible exact HB.out))))); replace HO926 := Aside0.mk (Kd.R_below HO926.out hb); replace BK920 := Aside0.mk (blk_below BK920.out hb); replace HB := Aside0.mk (below_step (by repeat ((with_reducible exact HB.out))) hb)
   (try clear hb)
   (skip)
   (skip)
   (skip)
   (try clear ho0)
   (try clear ho1)
   refine hK.out _ _ ⟨(blk_cell BK920.out 0).trans rfl, (blk_cell BK920.out 1).trans rfl, (blk_cell BK920.out 2).trans rfl, (blk_cell BK920.out 3).trans rfl, (blk_cell BK920.out 4).trans rfl, (blk_cell BK920.out 5).trans rfl, (blk_cell BK920.out 6).trans rfl⟩ (fun hHeld => ?_)
   clear hK K
   refine norm_ (a' := ?_) ?_ ?_
   rotate_left
   ·show Act.put _ (some 20) _ = _
    simp only [Act.put, List.setIfInBounds_toArray, List.set_cons_zero, List.set_cons_succ, i64_w, i32_w]
    rfl
   refine pure_ (i := 8) (N := some 12) (v := ?_) (a' := ?_) #[true, true, true, true, true, true, true, true, true, false, false, false, false, false, false] rfl rfl (any_of HT_.out (by kernel_rfl)) (fun _ _ _ h => h) (Or.inl ⟨by rfl, ?_⟩) ?_ ?_
   rotate_left
   ·intro w'
    go_simp
    with_reducible rfl
   rotate_left
   ·simp only [Act.put, List.setIfInBounds_toArray, List.set_cons_zero, List.set_cons_succ, i64_w, i32_w]
    rfl
   refine pure_ (i := 9) (N := some 21) (v := ?_) (a' := ?_) #[true, true, true, true, true, true, true, true, true, true, false, false, false, false, false] rfl rfl (any_of HT_.out (by kernel_rfl)) (fun _ _ _ h => h) (Or.inl ⟨by rfl, ?_⟩) ?_ ?_
   rotate_left
   ·intro w'
    go_simp
    with_reducible rfl
   rotate_left
   ·simp only [Act.put, List.setIfInBounds_toArray, List.set_cons_zero, List.set_cons_succ, i64_w, i32_w]
    rfl
   refine pure_ (i := 10) (N := some 22) (v := ?_) (a' := ?_) #[true, true, true, true, true, true, true, true, true, true, true, false, false, false, false] rfl rfl (any_of HT_.out (by kernel_rfl)) (fun _ _ _ h => h) (Or.inl ⟨by rfl, ?_⟩) ?_ ?_
   rotate_left
   ·intro w'
    go_simp
    with_reducible rfl
   rotate_left
   ·simp only [Act.put, List.setIfInBounds_toArray, List.set_cons_zero, List.set_cons_succ, i64_w, i32_w]
    rfl
   refine pure_ (i := 11) (N := some 23) (v := ?_) (a' := ?_) #[true, true, true, true, true, true, true, true, true, true, true, true, false, false, false] rfl rfl (any_of HT_.out (by kernel_rfl)) (fun _ _ _ h => h) (Or.inl ⟨by rfl, ?_⟩) ?_ ?_
   rotate_left
   ·intro w'
    go_simp
    with_reducible rfl
   rotate_left
   ·simp only [Act.put, List.setIfInBounds_toArray, List.set_cons_zero, List.set_cons_succ, i64_w, i32_w]
    rfl
   refine pure_ (i := 12) (N := some 4) (v := ?_) (a' := ?_) #[true, true, true, true, true, true, true, true, true, true, true, true, true, false, false] rfl rfl (any_of HT_.out (by kernel_rfl)) (fun _ _ _ h => h) (Or.inl ⟨by rfl, ?_⟩) ?_ ?_
   rotate_left
   ·intro w'
    go_simp
    with_reducible rfl
   rotate_left
   ·simp only [Act.put, List.setIfInBounds_toArray, List.set_cons_zero, List.set_cons_succ, i64_w, i32_w]
    rfl
   refine pure_ (i := 13) (N := some 5) (v := ?_) (a' := ?_) #[true, true, true, true, true, true, true, true, true, true, true, true, true, true, false] rfl rfl (any_of HT_.out (by kernel_rfl)) (fun _ _ _ h => h) (Or.inl ⟨by rfl, ?_⟩) ?_ ?_
   rotate_left
   ·intro w'
    go_simp
    with_reducible rfl
   rotate_left
   ·simp only [Act.put, List.setIfInBounds_toArray, List.set_cons_zero, List.set_cons_succ, i64_w, i32_w]
    rfl
   refine pure_ (i := 14) (N := some 6) (v := ?_) (a' := ?_) #[true, true, true, true, true, true, true, true, true, true, true, true, true, true, true] rfl rfl (any_of HT_.out (by kernel_rfl)) (fun _ _ _ h => h) (Or.inl ⟨by rfl, ?_⟩) ?_ ?_
   rotate_left
   ·intro w'
    go_simp
    with_reducible rfl
   rotate_left
   ·simp only [Act.put, List.setIfInBounds_toArray, List.set_cons_zero, List.set_cons_succ, i64_w, i32_w]
    rfl
   refine done_ (done_of HT_.out (by kernel_rfl)) ?_
   obtain ⟨Ao16, co16, eo16⟩ := Kd.V_slice HO929.out
   subst eo16
   try go_wp2
   go_loopg [29] k (fun kq v29 w' => ∃ (x29_1 : Int), v29 = .int .i64 x29_1 ∧ Aside0 (sashref06_one.l0 kq t927 t930 (t927.length : Int) x29_1 a0_0 a0_1 a0_2 a0_3 a0_4 a0_5 l0_6 = some (r1, r2)) ∧ Aside0 (kq ≤ k) ∧ Aside0 (Kd.V k23 23 w' w.heap.size (fun k_ => (w.heap.size ≤ k_) ∧ k_ ≠ gb920) (.slice Ao16 t927.length co16) t927) ∧ Aside0 (Kd.V k23 23 w' w.heap.size (fun k_ => (w.heap.size ≤ k_) ∧ k_ ≠ gb920) v931 t930) ∧ Aside0 (w'.heap[gb920]? = some (.cells #[.int .u8 a0_0, .int .i64 a0_1, .int .i64 a0_2, .int .i64 a0_3, .int .i64 a0_4, .int .i64 a0_5, (.slice A0_6 l0_6.length c0_6)] 26 (0, 0))) ∧ Aside0 (Below w.heap.size w w'))
   case atStart => exact ⟨(0), (by rfl), H', ⟨Nat.le_refl _⟩, ⟨by exact Kd.V_mono HO929.out (fun _ hk => ⟨hk.1, hk.2.2⟩)⟩, ⟨by exact Kd.V_mono HO932.out (fun _ hk => ⟨hk.1, hk.2.2⟩)⟩, ⟨by exact BK920.out⟩, ⟨by repeat ((with_reducible exact HB.out))⟩⟩
   case round =>
    clear H'
    clear c2 c2b0 c2b1 hcz11_0 hcz11_1 hcz11_2 hcz11_3 hcz11_4 hcz11_5 hcz11_6 hfz11_0 hfz11_1 hfz11_2 hfz11_3 hfz11_4 hfz11_5 hfz11_6
    obtain ⟨x29_1, rfl, HA, HK1, HO_4, HO_5, BK920, HB⟩ := hrel
    cases gk with
    | zero => exact absurd HA.out (by simp [sashref06_one.l0])
    | succ k1 =>
     have H := HA.out
     clear HA
     simp only [sashref06_one.l0] at H
     by_cases c17 : x29_1 < (t927.length : Int)
     ·rw [if_pos c17] at H
      have c17b0 : decide (x29_1 < (t927.length : Int)) = true := decide_eq_true c17
      clear c17
      by_cases c18 : 0 ≤ x29_1
      ·rw [if_pos c18] at H
       have c18b0 : decide (0 ≤ x29_1) = true := decide_eq_true c18
       clear c18
       by_cases c19 : x29_1 < (t927.length : Int)
       ·rw [if_pos c19] at H
        have c19b0 : decide (x29_1 < (t927.length : Int)) = true := decide_eq_true c19
        clear c19
        by_cases c20 : x29_1 < (l0_6.length : Int)
        ·rw [if_pos c20] at H
         have c20b0 : decide (x29_1 < (l0_6.length : Int)) = true := decide_eq_true c20
         clear c20
         by_cases c21 : (!(((rd_T23 t927 x29_1).f0) == ((rd_T26 l0_6 x29_1).f1.f0)) || (!(((rd_T23 t927 x29_1).f1) == ((rd_T26 l0_6 x29_1).f1.f1)) || (!(((rd_T23 t927 x29_1).f2) == ((rd_T26 l0_6 x29_1).f1.f2)) || (!(((rd_T23 t927 x29_1).f3) == ((rd_T26 l0_6 x29_1).f1.f3)))))) = true
         ·rw [if_pos c21] at H
          have c21b0 : (!(((rd_T23 t927 x29_1).f0) == ((rd_T26 l0_6 x29_1).f1.f0)) || (!(((rd_T23 t927 x29_1).f1) == ((rd_T26 l0_6 x29_1).f1.f1)) || (!(((rd_T23 t927 x29_1).f2) == ((rd_T26 l0_6 x29_1).f1.f2)) || (!(((rd_T23 t927 x29_1).f3) == ((rd_T26 l0_6 x29_1).f1.f3)))))) = true := c21
          clear c21
          obtain ⟨y936, hy936⟩ : ∃ y_ : List (S23), y_ = (([] : List (S23))) := ⟨_, rfl⟩
          replace H : (some (y936, false)) = some (r1, r2) := by (rw [hy936]; with_reducible exact H)
          have Ny936 := Aside0.mk hy936
          clear hy936
          simp only [Option.some.injEq, Prod.mk.injEq] at H
          obtain ⟨rfl, rfl⟩ := H
          try go_wp2
          replace HO_4 := Aside0.mk (Kd.V_drew HO_4.out); replace HO_5 := Aside0.mk (Kd.V_drew HO_5.out); replace BK920 := Aside0.mk (blk_drew BK920.out); replace HB := Aside0.mk (below_drew1 HB.out)
          have p934 : 0 ≤ (x29_1 : Int) := of_decide_eq_true (by (with_reducible assumption))
          have q934 : x29_1 < (t927.length : Int) := of_decide_eq_true (by (with_reducible assumption))
          obtain ⟨ad934, e934, hx934_0, hx934_1, hx934_2, hx934_3⟩ := at_T23 (Kd.V_reads' HO_4.out).2.2 x29_1 p934 q934
          cases e934
          replace p934 := eq_true p934
          replace q934 := eq_true q934
          have p935 : 0 ≤ (x29_1 : Int) := of_decide_eq_true (by (with_reducible assumption))
          have q935 : x29_1 < (l0_6.length : Int) := of_decide_eq_true (by (with_reducible assumption))
          obtain ⟨ad935, A935_6, c935_6, e935, hx935_0, hx935_1, hx935_2, hx935_3, hx935_4, hx935_5, hx935_6, hl935_6, hi935_6⟩ := at_T26 HR0_6.out x29_1 p935 q935
          have hw935_6 := hx935_6
          have hw935_5 := hx935_5
          have hw935_4 := hx935_4
          have hw935_3 := hx935_3
          have hw935_2 := hx935_2
          have hw935_1 := hx935_1
          have hw935_0 := hx935_0
          cases e935
          replace hx935_0 := (HB.out.cell (World.block_lt_of_cell? w _ hx935_0)).trans hx935_0
          replace hx935_1 := (HB.out.cell (World.block_lt_of_cell? w _ hx935_1)).trans hx935_1
          replace hx935_2 := (HB.out.cell (World.block_lt_of_cell? w _ hx935_2)).trans hx935_2
          replace hx935_3 := (HB.out.cell (World.block_lt_of_cell? w _ hx935_3)).trans hx935_3
          replace hx935_4 := (HB.out.cell (World.block_lt_of_cell? w _ hx935_4)).trans hx935_4
          replace hx935_5 := (HB.out.cell (World.block_lt_of_cell? w _ hx935_5)).trans hx935_5
          replace hx935_6 := (HB.out.cell (World.block_lt_of_cell? w _ hx935_6)).trans hx935_6
          have HR935_6 := Aside0.mk hi935_6
          clear hi935_6 hl935_6
          replace p935 := eq_true p935
          replace q935 := eq_true q935
          refine start_ (n := 11) (S := fun w' => w'.cell? ⟨gb920, 0, none⟩ = some (.int .u8 a0_0) ∧ w'.cell? ⟨gb920, 1, none⟩ = some (.int .i64 a0_1) ∧ w'.cell? ⟨gb920, 2, none⟩ = some (.int .i64 a0_2) ∧ w'.cell? ⟨gb920, 3, none⟩ = some (.int .i64 a0_3) ∧ w'.cell? ⟨gb920, 4, none⟩ = some (.int .i64 a0_4) ∧ w'.cell? ⟨gb920, 5, none⟩ = some (.int .i64 a0_5) ∧ w'.cell? ⟨gb920, 6, none⟩ = some (.slice (some ad935) l0_6.length c0_6) ∧ w'.cell? (ad934.add ((x29_1).toNat * 4)) = some (.int .i64 ((rd_T23 t927 x29_1).f0)) ∧ w'.cell? ⟨(ad934.add ((x29_1).toNat * 4)).block, (ad934.add ((x29_1).toNat * 4)).off + 1, none⟩ = some (.int .i64 ((rd_T23 t927 x29_1).f1)) ∧ w'.cell? ⟨(ad934.add ((x29_1).toNat * 4)).block, (ad934.add ((x29_1).toNat * 4)).off + 2, none⟩ = some (.int .i64 ((rd_T23 t927 x29_1).f2)) ∧ w'.cell? ⟨(ad934.add ((x29_1).toNat * 4)).block, (ad934.add ((x29_1).toNat * 4)).off + 3, none⟩ = some (.int .i64 ((rd_T23 t927 x29_1).f3)) ∧ w'.cell? (ad935.add ((x29_1).toNat * 7)) = some (.int .u8 ((rd_T26 l0_6 x29_1).f0)) ∧ w'.cell? ⟨(ad935.add ((x29_1).toNat * 7)).block, (ad935.add ((x29_1).toNat * 7)).off + 1, none⟩ = some (.int .i64 ((rd_T26 l0_6 x29_1).f1.f0)) ∧ w'.cell? ⟨(ad935.add ((x29_1).toNat * 7)).block, (ad935.add ((x29_1).toNat * 7)).off + 2, none⟩ = some (.int .i64 ((rd_T26 l0_6 x29_1).f1.f1)) ∧ w'.cell? ⟨(ad935.add ((x29_1).toNat * 7)).block, (ad935.add ((x29_1).toNat * 7)).off + 3, none⟩ = some (.int .i64 ((rd_T26 l0_6 x29_1).f1.f2)) ∧ w'.cell? ⟨(ad935.add ((x29_1).toNat * 7)).block, (ad935.add ((x29_1).toNat * 7)).off + 4, none⟩ = some (.int .i64 ((rd_T26 l0_6 x29_1).f1.f3)) ∧ w'.cell? ⟨(ad935.add ((x29_1).toNat * 7)).block, (ad935.add ((x29_1).toNat * 7)).off + 5, none⟩ = some (.int .i64 ((rd_T26 l0_6 x29_1).f2)) ∧ w'.cell? ⟨(ad935.add ((x29_1).toNat * 7)).block, (ad935.add ((x29_1).toNat * 7)).off + 6, none⟩ = some (.slice A935_6 ((rd_T26 l0_6 x29_1).f3).length c935_6)) (ds := []) #[false, false, false, false, false, false, false, false, false, false, false] (by kernel_rfl) rfl rfl ⟨(blk_cell BK920.out 0).trans rfl, (blk_cell BK920.out 1).trans rfl, (blk_cell BK920.out 2).trans rfl, (blk_cell BK920.out 3).trans rfl, (blk_cell BK920.out 4).trans rfl, (blk_cell BK920.out 5).trans rfl, (blk_cell BK920.out 6).trans rfl, hx934_0, hx934_1, hx934_2, hx934_3, ((HB.out.cell (World.block_lt_of_cell? w _ hw935_0)).trans hw935_0), ((HB.out.cell (World.block_lt_of_cell? w _ hw935_1)).trans hw935_1), ((HB.out.cell (World.block_lt_of_cell? w _ hw935_2)).trans hw935_2), ((HB.out.cell (World.block_lt_of_cell? w _ hw935_3)).trans hw935_3), ((HB.out.cell (World.block_lt_of_cell? w _ hw935_4)).trans hw935_4), ((HB.out.cell (World.block_lt_of_cell? w _ hw935_5)).trans hw935_5), ((HB.out.cell (World.block_lt_of_cell? w _ hw935_6)).trans hw935_6)⟩ (fun hHeld => ?_); refine with_tabW sashref06_one.tab9 sashref06_one.bits9 (fun HT_ HW_ => ?_)
          generalize wr.drew = w22 at HO_4 HO_5 BK920 HB HR935_6 hx934_0 hx934_1 hx934_2 hx934_3 hx935_0 hx935_1 hx935_2 hx935_3 hx935_4 hx935_5 hx935_6 hHeld ⊢
          refine pure_ (i := 0) (N := some 32) (v := ?_) (a' := ?_) #[true, false, false, false, false, false, false, false, false, false, false] rfl rfl (any_of HT_.out (by kernel_rfl)) (fun _ _ _ h => h) (Or.inl ⟨by rfl, ?_⟩) ?_ ?_
          rotate_left
          ·intro w'
           go_simp
           with_reducible rfl
          rotate_left
          ·simp only [Act.put, List.setIfInBounds_toArray, List.set_cons_zero, List.set_cons_succ, i64_w, i32_w]
           rfl
          refine pure_ (i := 1) (N := some 33) (v := ?_) (a' := ?_) #[true, true, false, false, false, false, false, false, false, false, false] rfl rfl (any_of HT_.out (by kernel_rfl)) (fun _ _ _ h => h) (Or.inl ⟨by rfl, ?_⟩) ?_ ?_
          rotate_left
          ·intro w'
           go_simp
           with_reducible rfl
          rotate_left
          ·simp only [Act.put, List.setIfInBounds_toArray, List.set_cons_zero, List.set_cons_succ, i64_w, i32_w]
           rfl
          refine pure_ (i := 2) (N := some 34) (v := ?_) (a' := ?_) #[true, true, true, false, false, false, false, false, false, false, false] rfl rfl (any_of HT_.out (by kernel_rfl)) (fun _ _ _ h => h) (Or.inl ⟨by rfl, ?_⟩) ?_ ?_
          rotate_left
          ·intro w'
           go_simp
           with_reducible rfl
          rotate_left
          ·simp only [Act.put, List.setIfInBounds_toArray, List.set_cons_zero, List.set_cons_succ, i64_w, i32_w]
           rfl
          refine pure_ (i := 4) (N := some 36) (v := ?_) (a' := ?_) #[true, true, true, false, true, false, false, false, false, false, false] rfl rfl (any_of HT_.out (by kernel_rfl)) (fun _ _ _ h => h) (Or.inl ⟨by rfl, ?_⟩) ?_ ?_
          rotate_left
          ·intro w'
           go_simp
           with_reducible rfl
          rotate_left
          ·simp only [Act.put, List.setIfInBounds_toArray, List.set_cons_zero, List.set_cons_succ, i64_w, i32_w]
           rfl
          refine pure_ (i := 6) (N := some 38) (v := ?_) (a' := ?_) #[true, true, true, false, true, false, true, false, false, false, false] rfl rfl (any_of HT_.out (by kernel_rfl)) (fun _ _ _ h => h) (Or.inl ⟨by rfl, ?_⟩) ?_ ?_
          rotate_left
          ·intro w'
           go_simp
           with_reducible rfl
          rotate_left
          ·simp only [Act.put, List.setIfInBounds_toArray, List.set_cons_zero, List.set_cons_succ, i64_w, i32_w]
           rfl
          refine take_ (i := 3) (N := some 35) (v := ?_) (a' := ?_) #[true, true, true, true, true, false, true, false, false, false, false] rfl rfl (take_ofW HT_.out HW_.out (by kernel_rfl)) (fun _ _ _ h => h) (Or.inl ⟨by rfl, ?_⟩) hHeld ?_ ?_
          rotate_left
          ·rintro w' ⟨s0, s1, s2, s3, s4, s5, s6, s7, s8, s9, s10, s11, s12, s13, s14, s15, s16, s17⟩
           go_simp
           with_reducible rfl
          rotate_left
          ·simp only [Act.put, List.setIfInBounds_toArray, List.set_cons_zero, List.set_cons_succ, i64_w, i32_w]
           rfl
          refine take_ (i := 5) (N := some 37) (v := ?_) (a' := ?_) #[true, true, true, true, true, true, true, false, false, false, false] rfl rfl (take_ofW HT_.out HW_.out (by kernel_rfl)) (fun _ _ _ h => h) (Or.inl ⟨by rfl, ?_⟩) hHeld ?_ ?_
          rotate_left
          ·rintro w' ⟨s0, s1, s2, s3, s4, s5, s6, s7, s8, s9, s10, s11, s12, s13, s14, s15, s16, s17⟩
           go_simp
           with_reducible rfl
          rotate_left
          ·simp only [Act.put, List.setIfInBounds_toArray, List.set_cons_zero, List.set_cons_succ, i64_w, i32_w]
           rfl
          refine pure_ (i := 7) (N := some 39) (v := ?_) (a' := ?_) #[true, true, true, true, true, true, true, true, false, false, false] rfl rfl (any_of HT_.out (by kernel_rfl)) (fun _ _ _ h => h) (Or.inl ⟨by rfl, ?_⟩) ?_ ?_
          rotate_left
          ·intro w'
           go_simp
           with_reducible rfl
          rotate_left
          ·simp only [Act.put, List.setIfInBounds_toArray, List.set_cons_zero, List.set_cons_succ, i64_w, i32_w]
           rfl
          refine pure_ (i := 8) (N := some 40) (v := ?_) (a' := ?_) #[true, true, true, true, true, true, true, true, true, false, false] rfl rfl (any_of HT_.out (by kernel_rfl)) (fun _ _ _ h => h) (Or.inl ⟨by rfl, ?_⟩) ?_ ?_
          rotate_left
          ·intro w'
           go_simp
           with_reducible rfl
          rotate_left
          ·simp only [Act.put, List.setIfInBounds_toArray, List.set_cons_zero, List.set_cons_succ, i64_w, i32_w]
           rfl
          refine take_ (i := 9) (N := some 41) (v := ?_) (a' := ?_) #[true, true, true, true, true, true, true, true, true, true, false] rfl rfl (take_ofW HT_.out HW_.out (by kernel_rfl)) (fun _ _ _ h => h) (Or.inl ⟨by rfl, ?_⟩) hHeld ?_ ?_
          rotate_left
          ·rintro w' ⟨s0, s1, s2, s3, s4, s5, s6, s7, s8, s9, s10, s11, s12, s13, s14, s15, s16, s17⟩
           go_simp
           with_reducible rfl
          rotate_left
          ·simp only [Act.put, List.setIfInBounds_toArray, List.set_cons_zero, List.set_cons_succ, i64_w, i32_w]
           rfl
          refine pure_ (i := 10) (N := some 42) (v := ?_) (a' := ?_) #[true, true, true, true, true, true, true, true, true, true, true] rfl rfl (any_of HT_.out (by kernel_rfl)) (fun _ _ _ h => h) (Or.inl ⟨by rfl, ?_⟩) ?_ ?_
          rotate_left
          ·intro w'
           go_simp
           with_reducible rfl
          rotate_left
          ·simp only [Act.put, List.setIfInBounds_toArray, List.set_cons_zero, List.set_cons_succ, i64_w, i32_w]
           rfl
          refine done_ (done_of HT_.out (by kernel_rfl)) ?_
          try go_wp2_with (((with_reducible refine gate_dst (N := 43) rfl ?_); refine Kd.R_lit k23 _ 23 ?hg (N := 43) ?hd (xs := ([] : List (S23))) (inner := []) (ok := fun _ => True) (okp := fun _ => True) ?hr ?hp (fun _ hk => hk) trivial (Below.refl _ _) (Nat.le_refl _) (by simp) ?_; (case hd => rfl); (case hg => rfl); (case hr => (go_simp; done)); (case hp => exact (Reps.none _ _)); intro v937 w23 ho24 hb hg_ hnew_; clear hg_ hnew_; (rw [← Ny936.out] at ho24); have HO938 := Aside0.mk (Kd.R_lower (Kd.R_newM (M := fun k_ => (w.heap.size ≤ k_)) ho24 (below_size (by repeat ((with_reducible exact HB.out)))) (fun k_ h_ => h_)) (below_size (by repeat ((with_reducible exact HB.out))))); replace HO_4 := Aside0.mk (Kd.V_elder' HO_4.out (Kd.R_base ho24) hb); replace HO_5 := Aside0.mk (Kd.V_elder' HO_5.out (Kd.R_base ho24) hb); replace BK920 := Aside0.mk (blk_below BK920.out hb); replace HB := Aside0.mk (below_step (by repeat ((with_reducible exact HB.out))) hb); clear hb ho24))
          go_ret2
          exact ⟨_, by rfl, Kd.R_V (by exact Kd.R_mono HO938.out (fun _ hk => hk.1)), by repeat ((with_reducible exact HB.out))⟩
         ·rw [if_neg c21] at H
          have c21b0 : (!(((rd_T23 t927 x29_1).f0) == ((rd_T26 l0_6 x29_1).f1.f0)) || (!(((rd_T23 t927 x29_1).f1) == ((rd_T26 l0_6 x29_1).f1.f1)) || (!(((rd_T23 t927 x29_1).f2) == ((rd_T26 l0_6 x29_1).f1.f2)) || (!(((rd_T23 t927 x29_1).f3) == ((rd_T26 l0_6 x29_1).f1.f3)))))) = false := by simpa using c21
          clear c21
          have H' := Aside0.mk H
          clear H
          try go_wp2
          replace HO_4 := Aside0.mk (Kd.V_drew HO_4.out); replace HO_5 := Aside0.mk (Kd.V_drew HO_5.out); replace BK920 := Aside0.mk (blk_drew BK920.out); replace HB := Aside0.mk (below_drew1 HB.out)
          have p934 : 0 ≤ (x29_1 : Int) := of_decide_eq_true (by (with_reducible assumption))
          have q934 : x29_1 < (t927.length : Int) := of_decide_eq_true (by (with_reducible assumption))
          obtain ⟨ad934, e934, hx934_0, hx934_1, hx934_2, hx934_3⟩ := at_T23 (Kd.V_reads' HO_4.out).2.2 x29_1 p934 q934
          cases e934
          replace p934 := eq_true p934
          replace q934 := eq_true q934
          have p935 : 0 ≤ (x29_1 : Int) := of_decide_eq_true (by (with_reducible assumption))
          have q935 : x29_1 < (l0_6.length : Int) := of_decide_eq_true (by (with_reducible assumption))
          obtain ⟨ad935, A935_6, c935_6, e935, hx935_0, hx935_1, hx935_2, hx935_3, hx935_4, hx935_5, hx935_6, hl935_6, hi935_6⟩ := at_T26 HR0_6.out x29_1 p935 q935
          have hw935_6 := hx935_6
          have hw935_5 := hx935_5
          have hw935_4 := hx935_4
          have hw935_3 := hx935_3
          have hw935_2 := hx935_2
          have hw935_1 := hx935_1
          have hw935_0 := hx935_0
          cases e935
          replace hx935_0 := (HB.out.cell (World.block_lt_of_cell? w _ hx935_0)).trans hx935_0
          replace hx935_1 := (HB.out.cell (World.block_lt_of_cell? w _ hx935_1)).trans hx935_1
          replace hx935_2 := (HB.out.cell (World.block_lt_of_cell? w _ hx935_2)).trans hx935_2
          replace hx935_3 := (HB.out.cell (World.block_lt_of_cell? w _ hx935_3)).trans hx935_3
          replace hx935_4 := (HB.out.cell (World.block_lt_of_cell? w _ hx935_4)).trans hx935_4
          replace hx935_5 := (HB.out.cell (World.block_lt_of_cell? w _ hx935_5)).trans hx935_5
          replace hx935_6 := (HB.out.cell (World.block_lt_of_cell? w _ hx935_6)).trans hx935_6
          have HR935_6 := Aside0.mk hi935_6
          clear hi935_6 hl935_6
          replace p935 := eq_true p935
          replace q935 := eq_true q935
          refine start_ (n := 11) (S := fun w' => w'.cell? ⟨gb920, 0, none⟩ = some (.int .u8 a0_0) ∧ w'.cell? ⟨gb920, 1, none⟩ = some (.int .i64 a0_1) ∧ w'.cell? ⟨gb920, 2, none⟩ = some (.int .i64 a0_2) ∧ w'.cell? ⟨gb920, 3, none⟩ = some (.int .i64 a0_3) ∧ w'.cell? ⟨gb920, 4, none⟩ = some (.int .i64 a0_4) ∧ w'.cell? ⟨gb920, 5, none⟩ = some (.int .i64 a0_5) ∧ w'.cell? ⟨gb920, 6, none⟩ = some (.slice (some ad935) l0_6.length c0_6) ∧ w'.cell? (ad934.add ((x29_1).toNat * 4)) = some (.int .i64 ((rd_T23 t927 x29_1).f0)) ∧ w'.cell? ⟨(ad934.add ((x29_1).toNat * 4)).block, (ad934.add ((x29_1).toNat * 4)).off + 1, none⟩ = some (.int .i64 ((rd_T23 t927 x29_1).f1)) ∧ w'.cell? ⟨(ad934.add ((x29_1).toNat * 4)).block, (ad934.add ((x29_1).toNat * 4)).off + 2, none⟩ = some (.int .i64 ((rd_T23 t927 x29_1).f2)) ∧ w'.cell? ⟨(ad934.add ((x29_1).toNat * 4)).block, (ad934.add ((x29_1).toNat * 4)).off + 3, none⟩ = some (.int .i64 ((rd_T23 t927 x29_1).f3)) ∧ w'.cell? (ad935.add ((x29_1).toNat * 7)) = some (.int .u8 ((rd_T26 l0_6 x29_1).f0)) ∧ w'.cell? ⟨(ad935.add ((x29_1).toNat * 7)).block, (ad935.add ((x29_1).toNat * 7)).off + 1, none⟩ = some (.int .i64 ((rd_T26 l0_6 x29_1).f1.f0)) ∧ w'.cell? ⟨(ad935.add ((x29_1).toNat * 7)).block, (ad935.add ((x29_1).toNat * 7)).off + 2, none⟩ = some (.int .i64 ((rd_T26 l0_6 x29_1).f1.f1)) ∧ w'.cell? ⟨(ad935.add ((x29_1).toNat * 7)).block, (ad935.add ((x29_1).toNat * 7)).off + 3, none⟩ = some (.int .i64 ((rd_T26 l0_6 x29_1).f1.f2)) ∧ w'.cell? ⟨(ad935.add ((x29_1).toNat * 7)).block, (ad935.add ((x29_1).toNat * 7)).off + 4, none⟩ = some (.int .i64 ((rd_T26 l0_6 x29_1).f1.f3)) ∧ w'.cell? ⟨(ad935.add ((x29_1).toNat * 7)).block, (ad935.add ((x29_1).toNat * 7)).off + 5, none⟩ = some (.int .i64 ((rd_T26 l0_6 x29_1).f2)) ∧ w'.cell? ⟨(ad935.add ((x29_1).toNat * 7)).block, (ad935.add ((x29_1).toNat * 7)).off + 6, none⟩ = some (.slice A935_6 ((rd_T26 l0_6 x29_1).f3).length c935_6)) (ds := []) #[false, false, false, false, false, false, false, false, false, false, false] (by kernel_rfl) rfl rfl ⟨(blk_cell BK920.out 0).trans rfl, (blk_cell BK920.out 1).trans rfl, (blk_cell BK920.out 2).trans rfl, (blk_cell BK920.out 3).trans rfl, (blk_cell BK920.out 4).trans rfl, (blk_cell BK920.out 5).trans rfl, (blk_cell BK920.out 6).trans rfl, hx934_0, hx934_1, hx934_2, hx934_3, ((HB.out.cell (World.block_lt_of_cell? w _ hw935_0)).trans hw935_0), ((HB.out.cell (World.block_lt_of_cell? w _ hw935_1)).trans hw935_1), ((HB.out.cell (World.block_lt_of_cell? w _ hw935_2)).trans hw935_2), ((HB.out.cell (World.block_lt_of_cell? w _ hw935_3)).trans hw935_3), ((HB.out.cell (World.block_lt_of_cell? w _ hw935_4)).trans hw935_4), ((HB.out.cell (World.block_lt_of_cell? w _ hw935_5)).trans hw935_5), ((HB.out.cell (World.block_lt_of_cell? w _ hw935_6)).trans hw935_6)⟩ (fun hHeld => ?_); refine with_tabW sashref06_one.tab9 sashref06_one.bits9 (fun HT_ HW_ => ?_)
          generalize wr.drew = w25 at HO_4 HO_5 BK920 HB HR935_6 hx934_0 hx934_1 hx934_2 hx934_3 hx935_0 hx935_1 hx935_2 hx935_3 hx935_4 hx935_5 hx935_6 hHeld ⊢
          refine pure_ (i := 0) (N := some 32) (v := ?_) (a' := ?_) #[true, false, false, false, false, false, false, false, false, false, false] rfl rfl (any_of HT_.out (by kernel_rfl)) (fun _ _ _ h => h) (Or.inl ⟨by rfl, ?_⟩) ?_ ?_
          rotate_left
          ·intro w'
           go_simp
           with_reducible rfl
          rotate_left
          ·simp only [Act.put, List.setIfInBounds_toArray, List.set_cons_zero, List.set_cons_succ, i64_w, i32_w]
           rfl
          refine pure_ (i := 1) (N := some 33) (v := ?_) (a' := ?_) #[true, true, false, false, false, false, false, false, false, false, false] rfl rfl (any_of HT_.out (by kernel_rfl)) (fun _ _ _ h => h) (Or.inl ⟨by rfl, ?_⟩) ?_ ?_
          rotate_left
          ·intro w'
           go_simp
           with_reducible rfl
          rotate_left
          ·simp only [Act.put, List.setIfInBounds_toArray, List.set_cons_zero, List.set_cons_succ, i64_w, i32_w]
           rfl
          refine pure_ (i := 2) (N := some 34) (v := ?_) (a' := ?_) #[true, true, true, false, false, false, false, false, false, false, false] rfl rfl (any_of HT_.out (by kernel_rfl)) (fun _ _ _ h => h) (Or.inl ⟨by rfl, ?_⟩) ?_ ?_
          rotate_left
          ·intro w'
           go_simp
           with_reducible rfl
          rotate_left
          ·simp only [Act.put, List.setIfInBounds_toArray, List.set_cons_zero, List.set_cons_succ, i64_w, i32_w]
           rfl
          refine pure_ (i := 4) (N := some 36) (v := ?_) (a' := ?_) #[true, true, true, false, true, false, false, false, false, false, false] rfl rfl (any_of HT_.out (by kernel_rfl)) (fun _ _ _ h => h) (Or.inl ⟨by rfl, ?_⟩) ?_ ?_
          rotate_left
          ·intro w'
           go_simp
           with_reducible rfl
          rotate_left
          ·simp only [Act.put, List.setIfInBounds_toArray, List.set_cons_zero, List.set_cons_succ, i64_w, i32_w]
           rfl
          refine pure_ (i := 6) (N := some 38) (v := ?_) (a' := ?_) #[true, true, true, false, true, false, true, false, false, false, false] rfl rfl (any_of HT_.out (by kernel_rfl)) (fun _ _ _ h => h) (Or.inl ⟨by rfl, ?_⟩) ?_ ?_
          rotate_left
          ·intro w'
           go_simp
           with_reducible rfl
          rotate_left
          ·simp only [Act.put, List.setIfInBounds_toArray, List.set_cons_zero, List.set_cons_succ, i64_w, i32_w]
           rfl
          refine take_ (i := 3) (N := some 35) (v := ?_) (a' := ?_) #[true, true, true, true, true, false, true, false, false, false, false] rfl rfl (take_ofW HT_.out HW_.out (by kernel_rfl)) (fun _ _ _ h => h) (Or.inl ⟨by rfl, ?_⟩) hHeld ?_ ?_
          rotate_left
          ·rintro w' ⟨s0, s1, s2, s3, s4, s5, s6, s7, s8, s9, s10, s11, s12, s13, s14, s15, s16, s17⟩
           go_simp
           with_reducible rfl
          rotate_left
          ·simp only [Act.put, List.setIfInBounds_toArray, List.set_cons_zero, List.set_cons_succ, i64_w, i32_w]
           rfl
          refine take_ (i := 5) (N := some 37) (v := ?_) (a' := ?_) #[true, true, true, true, true, true, true, false, false, false, false] rfl rfl (take_ofW HT_.out HW_.out (by kernel_rfl)) (fun _ _ _ h => h) (Or.inl ⟨by rfl, ?_⟩) hHeld ?_ ?_
          rotate_left
          ·rintro w' ⟨s0, s1, s2, s3, s4, s5, s6, s7, s8, s9, s10, s11, s12, s13, s14, s15, s16, s17⟩
           go_simp
           with_reducible rfl
          rotate_left
          ·simp only [Act.put, List.setIfInBounds_toArray, List.set_cons_zero, List.set_cons_succ, i64_w, i32_w]
           rfl
          refine pure_ (i := 7) (N := some 39) (v := ?_) (a' := ?_) #[true, true, true, true, true, true, true, true, false, false, false] rfl rfl (any_of HT_.out (by kernel_rfl)) (fun _ _ _ h => h) (Or.inl ⟨by rfl, ?_⟩) ?_ ?_
          rotate_left
          ·intro w'
           go_simp
           with_reducible rfl
          rotate_left
          ·simp only [Act.put, List.setIfInBounds_toArray, List.set_cons_zero, List.set_cons_succ, i64_w, i32_w]
           rfl
          refine pure_ (i := 8) (N := some 40) (v := ?_) (a' := ?_) #[true, true, true, true, true, true, true, true, true, false, false] rfl rfl (any_of HT_.out (by kernel_rfl)) (fun _ _ _ h => h) (Or.inl ⟨by rfl, ?_⟩) ?_ ?_
          rotate_left
          ·intro w'
           go_simp
           with_reducible rfl
          rotate_left
          ·simp only [Act.put, List.setIfInBounds_toArray, List.set_cons_zero, List.set_cons_succ, i64_w, i32_w]
           rfl
          refine take_ (i := 9) (N := some 41) (v := ?_) (a' := ?_) #[true, true, true, true, true, true, true, true, true, true, false] rfl rfl (take_ofW HT_.out HW_.out (by kernel_rfl)) (fun _ _ _ h => h) (Or.inl ⟨by rfl, ?_⟩) hHeld ?_ ?_
          rotate_left
          ·rintro w' ⟨s0, s1, s2, s3, s4, s5, s6, s7, s8, s9, s10, s11, s12, s13, s14, s15, s16, s17⟩
           go_simp
           with_reducible rfl
          rotate_left
          ·simp only [Act.put, List.setIfInBounds_toArray, List.set_cons_zero, List.set_cons_succ, i64_w, i32_w]
           rfl
          refine pure_ (i := 10) (N := some 42) (v := ?_) (a' := ?_) #[true, true, true, true, true, true, true, true, true, true, true] rfl rfl (any_of HT_.out (by kernel_rfl)) (fun _ _ _ h => h) (Or.inl ⟨by rfl, ?_⟩) ?_ ?_
          rotate_left
          ·intro w'
           go_simp
           with_reducible rfl
          rotate_left
          ·simp only [Act.put, List.setIfInBounds_toArray, List.set_cons_zero, List.set_cons_succ, i64_w, i32_w]
           rfl
          refine done_ (done_of HT_.out (by kernel_rfl)) ?_
          try go_wp2
          go_roundg k1
          case measure => have := HK1.out; omega
          case rel => exact ⟨(wrap64 (x29_1 + 1)), (by rfl), H', ⟨by have := HK1.out; omega⟩, ⟨by exact HO_4.out⟩, ⟨by exact HO_5.out⟩, ⟨by exact BK920.out⟩, ⟨by repeat ((with_reducible exact HB.out))⟩⟩
        ·rw [if_neg c20] at H
         exact absurd H (by simp)
       ·rw [if_neg c19] at H
        exact absurd H (by simp)
      ·rw [if_neg c18] at H
       exact absurd H (by simp)
     ·rw [if_neg c17] at H
      have c17b0 : decide (x29_1 < (t927.length : Int)) = false := decide_eq_false c17
      clear c17
      simp only [Option.some.injEq, Prod.mk.injEq] at H
      obtain ⟨rfl, rfl⟩ := H
      go_wp2
      go_ret2
      exact ⟨_, by rfl, by exact Kd.V_mono HO_5.out (fun _ hk => hk.1), by repeat ((with_reducible exact HB.out))⟩
  ·replace c9 := Bool.eq_false_iff.mpr c9
   subst c9
   have H1 : (some (t930, false)) = some (r1, r2) := by rw [if_neg (show ¬ (false = true) by decide)] at H; exact H
   clear H
   have H := H1
   clear H1
   simp only [Option.some.injEq, Prod.mk.injEq] at H
   obtain ⟨rfl, rfl⟩ := H
   go_enter Try.func178, Try.ntmps178
   try go_wp2_with (((with_reducible refine gate_dst (N := 1) rfl ?_); refine box_event ?hg (N := 1) ?hd (cs := #[.int .u8 a0_0, .int .i64 a0_1, .int .i64 a0_2, .int .i64 a0_3, .int .i64 a0_4, .int .i64 a0_5, .slice A0_6 l0_6.length c0_6]) (t := 26) ?hr ?_; (case hd => rfl); (case hg => rfl); (case hr => (go_simp; done)); intro gb920 hg w26 hbox hb; have BK920 := Aside0.mk (hbox); replace HB := Aside0.mk (below_step (by repeat ((with_reducible exact HB.out))) hb); clear hb hbox hg; have hcz27_0 : w26.cell? ⟨gb920, 0, none⟩ = some (.int .u8 a0_0) := (blk_cell BK920.out 0).trans rfl; have hcz27_1 : w26.cell? ⟨gb920, 1, none⟩ = some (.int .i64 a0_1) := (blk_cell BK920.out 1).trans rfl; have hcz27_2 : w26.cell? ⟨gb920, 2, none⟩ = some (.int .i64 a0_2) := (blk_cell BK920.out 2).trans rfl; have hcz27_3 : w26.cell? ⟨gb920, 3, none⟩ = some (.int .i64 a0_3) := (blk_cell BK920.out 3).trans rfl; have hcz27_4 : w26.cell? ⟨gb920, 4, none⟩ = some (.int .i64 a0_4) := (blk_cell BK920.out 4).trans rfl; have hcz27_5 : w26.cell? ⟨gb920, 5, none⟩ = some (.int .i64 a0_5) := (blk_cell BK920.out 5).trans rfl; have hcz27_6 : w26.cell? ⟨gb920, 6, none⟩ = some (.slice A0_6 l0_6.length c0_6) := (blk_cell BK920.out 6).trans rfl; have hfz27_0 := blk_frozen BK920.out 0; have hfz27_1 := blk_frozen BK920.out 1; have hfz27_2 := blk_frozen BK920.out 2; have hfz27_3 := blk_frozen BK920.out 3; have hfz27_4 := blk_frozen BK920.out 4; have hfz27_5 := blk_frozen BK920.out 5; have hfz27_6 := blk_frozen BK920.out 6))
   replace BK920 := Aside0.mk (blk_drew BK920.out); replace HB := Aside0.mk (below_drew1 HB.out)
   refine start_ (n := 15) (S := fun w' => w'.cell? ⟨gb920, 0, none⟩ = some (.int .u8 a0_0) ∧ w'.cell? ⟨gb920, 1, none⟩ = some (.int .i64 a0_1) ∧ w'.cell? ⟨gb920, 2, none⟩ = some (.int .i64 a0_2) ∧ w'.cell? ⟨gb920, 3, none⟩ = some (.int .i64 a0_3) ∧ w'.cell? ⟨gb920, 4, none⟩ = some (.int .i64 a0_4) ∧ w'.cell? ⟨gb920, 5, none⟩ = some (.int .i64 a0_5) ∧ w'.cell? ⟨gb920, 6, none⟩ = some (.slice A0_6 l0_6.length c0_6)) (ds := []) #[false, false, false, false, false, false, false, false, false, false, false, false, false, false, false] (by kernel_rfl) rfl rfl ⟨(blk_cell BK920.out 0).trans rfl, (blk_cell BK920.out 1).trans rfl, (blk_cell BK920.out 2).trans rfl, (blk_cell BK920.out 3).trans rfl, (blk_cell BK920.out 4).trans rfl, (blk_cell BK920.out 5).trans rfl, (blk_cell BK920.out 6).trans rfl⟩ (fun hHeld => ?_); refine with_tabW sashref06_one.tab3 sashref06_one.bits3 (fun HT_ HW_ => ?_)
   generalize w26.drew = w28 at BK920 HB hHeld ⊢
   refine pure_ (i := 0) (N := some 13) (v := ?_) (a' := ?_) #[true, false, false, false, false, false, false, false, false, false, false, false, false, false, false] rfl rfl (any_of HT_.out (by kernel_rfl)) (fun _ _ _ h => h) (Or.inl ⟨by rfl, ?_⟩) ?_ ?_
   rotate_left
   ·intro w'
    go_simp
    with_reducible rfl
   rotate_left
   ·simp only [Act.put, List.setIfInBounds_toArray, List.set_cons_zero, List.set_cons_succ, i64_w, i32_w]
    rfl
   refine pure_ (i := 2) (N := some 15) (v := ?_) (a' := ?_) #[true, false, true, false, false, false, false, false, false, false, false, false, false, false, false] rfl rfl (any_of HT_.out (by kernel_rfl)) (fun _ _ _ h => h) (Or.inl ⟨by rfl, ?_⟩) ?_ ?_
   rotate_left
   ·intro w'
    go_simp
    with_reducible rfl
   rotate_left
   ·simp only [Act.put, List.setIfInBounds_toArray, List.set_cons_zero, List.set_cons_succ, i64_w, i32_w]
    rfl
   refine take_ (i := 1) (N := some 14) (v := ?_) (a' := ?_) #[true, true, true, false, false, false, false, false, false, false, false, false, false, false, false] rfl rfl (take_ofW HT_.out HW_.out (by kernel_rfl)) (fun _ _ _ h => h) (Or.inl ⟨by rfl, ?_⟩) hHeld ?_ ?_
   rotate_left
   ·rintro w' ⟨s0, s1, s2, s3, s4, s5, s6⟩
    go_simp
    with_reducible rfl
   rotate_left
   ·simp only [Act.put, List.setIfInBounds_toArray, List.set_cons_zero, List.set_cons_succ, i64_w, i32_w]
    rfl
   refine take_ (i := 3) (N := some 16) (v := ?_) (a' := ?_) #[true, true, true, true, false, false, false, false, false, false, false, false, false, false, false] rfl rfl (take_ofW HT_.out HW_.out (by kernel_rfl)) (fun _ _ _ h => h) (Or.inl ⟨by rfl, ?_⟩) hHeld ?_ ?_
   rotate_left
   ·rintro w' ⟨s0, s1, s2, s3, s4, s5, s6⟩
    go_simp
    with_reducible rfl
   rotate_left
   ·simp only [Act.put, List.setIfInBounds_toArray, List.set_cons_zero, List.set_cons_succ, i64_w, i32_w]
    rfl
   refine pure_ (i := 4) (N := some 17) (v := ?_) (a' := ?_) #[true, true, true, true, true, false, false, false, false, false, false, false, false, false, false] rfl rfl (any_of HT_.out (by kernel_rfl)) (fun _ _ _ h => h) (Or.inl ⟨by rfl, ?_⟩) ?_ ?_
   rotate_left
   ·intro w'
    go_simp
    with_reducible rfl
   rotate_left
   ·simp only [Act.put, List.setIfInBounds_toArray, List.set_cons_zero, List.set_cons_succ, i64_w, i32_w]
    rfl
   refine take_ (i := 5) (N := some 18) (v := ?_) (a' := ?_) #[true, true, true, true, true, true, false, false, false, false, false, false, false, false, false] rfl rfl (take_ofW HT_.out HW_.out (by kernel_rfl)) (fun _ _ _ h => h) (Or.inl ⟨by rfl, ?_⟩) hHeld ?_ ?_
   rotate_left
   ·rintro w' ⟨s0, s1, s2, s3, s4, s5, s6⟩
    go_simp
    with_reducible rfl
   rotate_left
   ·simp only [Act.put, List.setIfInBounds_toArray, List.set_cons_zero, List.set_cons_succ, i64_w, i32_w]
    rfl
   refine one_ (i := 6) (N := some 19) #[true, true, true, true, true, true, true, false, false, false, false, false, false, false, false] rfl rfl (one_of HT_.out (by kernel_rfl)) (by decide) (fun K hK => ?_)
   refine goes_ Try.func194 (by kernel_rfl) rfl #[.agg #[.int .u8 a0_0, .int .i64 a0_1, .int .i64 a0_2, .int .i64 a0_3, .int .i64 a0_4, .int .i64 a0_5, .slice A0_6 l0_6.length c0_6]] (by rfl) rfl rfl (by (try simp only [List.map_toArray, List.map_cons, List.map_nil]); rfl) ?_
   with_reducible refine (sashref06_Sizes.calls k a0_0 a0_1 a0_2 a0_3 a0_4 a0_5 _ _ l0_6 t924 _ ?side1 ?side2 A7.out).mono ?_
   (case side1 => repeat (exact (Kd.C_below HR0_6.out HB.out)))
   (case side2 => exact HC0_6.out)
   rintro e w29 ⟨v925, rfl, ho0, hb⟩
   refine ⟨_, rfl, ?_⟩
   have HO926 := Aside0.mk (Kd.R_lower (Kd.R_newM (M := fun k_ => (w.heap.size ≤ k_)) ho0 (below_size (by repeat ((with_reducible exact HB.out)))) (fun k_ h_ => h_)) (below_size (by repeat ((with_reducible exact HB.out))))); replace BK920 := Aside0.mk (blk_below BK920.out hb); replace HB := Aside0.mk (below_step (by repeat ((with_reducible exact HB.out))) hb)
   (try clear hb)
   (skip)
   (skip)
   (skip)
   (try clear ho0)
   obtain ⟨Ao30, co30, eo30⟩ := Kd.R_slice HO926.out
   (subst eo30)
   refine hK.out _ _ ⟨(blk_cell BK920.out 0).trans rfl, (blk_cell BK920.out 1).trans rfl, (blk_cell BK920.out 2).trans rfl, (blk_cell BK920.out 3).trans rfl, (blk_cell BK920.out 4).trans rfl, (blk_cell BK920.out 5).trans rfl, (blk_cell BK920.out 6).trans rfl⟩ (fun hHeld => ?_)
   clear hK K
   refine norm_ (a' := ?_) ?_ ?_
   rotate_left
   ·show Act.put _ (some 19) _ = _
    simp only [Act.put, List.setIfInBounds_toArray, List.set_cons_zero, List.set_cons_succ, i64_w, i32_w]
    rfl
   refine one_ (i := 7) (N := some 20) #[true, true, true, true, true, true, true, true, false, false, false, false, false, false, false] rfl rfl (one_of HT_.out (by kernel_rfl)) (by decide) (fun K hK => ?_)
   refine goes_ Try.func46 (by kernel_rfl) rfl #[.agg #[.int .i64 a0_1, .int .i64 a0_2, .int .i64 a0_3, .int .i64 a0_4], .int .u8 ((a0_0 - 1) % 256), .slice Ao30 t924.length co30] (by rfl) rfl rfl (by (try simp only [List.map_toArray, List.map_cons, List.map_nil]); rfl) ?_
   with_reducible refine (sashref04_Cut.calls k a0_1 a0_2 a0_3 a0_4 ((a0_0 - 1) % 256) _ _ t924 t927 t930 false _ ?side1 ?side2 A8.out).mono ?_
   (case side1 => repeat (exact (Kd.R_reads' HO926.out).2.2))
   (case side2 => exact (Kd.R_reads' HO926.out).2.1)
   rintro e w31 ⟨v928, v931, rfl, ho0, ho1, hb⟩
   refine ⟨_, rfl, ?_⟩
   have HO929 := Aside0.mk (Kd.V_lower (Kd.V_mono (ok' := fun k_ => (w.heap.size ≤ k_) ∧ some k_ ≠ (.slice Ao30 t924.length co30 : Value).ownBlock ∧ k_ ≠ gb920) ho0 (fun k_ hk_ => ⟨(Nat.le_trans (below_size (by repeat ((with_reducible exact HB.out)))) hk_), (Kd.fresh' (Kd.R_lt HO926.out) k_ hk_), (Kd.freshB BK920.out k_ hk_)⟩)) (below_size (by repeat ((with_reducible exact HB.out))))); have HO932 := Aside0.mk (Kd.V_lower (Kd.V_mono (ok' := fun k_ => (w.heap.size ≤ k_) ∧ some k_ ≠ (.slice Ao30 t924.length co30 : Value).ownBlock ∧ k_ ≠ gb920) ho1 (fun k_ hk_ => ⟨(Nat.le_trans (below_size (by repeat ((with_reducible exact HB.out)))) hk_), (Kd.fresh' (Kd.R_lt HO926.out) k_ hk_), (Kd.freshB BK920.out k_ hk_)⟩)) (below_size (by repeat ((with_reducible exact HB.out))))); replace HO926 := Aside0.mk (Kd.R_below HO926.out hb); replace BK920 := Aside0.mk (blk_below BK920.out hb); replace HB := Aside0.mk (below_step (by repeat ((with_reducible exact HB.out))) hb)
   (try clear hb)
   (skip)
   (skip)
   (skip)
   (try clear ho0)
   (try clear ho1)
   refine hK.out _ _ ⟨(blk_cell BK920.out 0).trans rfl, (blk_cell BK920.out 1).trans rfl, (blk_cell BK920.out 2).trans rfl, (blk_cell BK920.out 3).trans rfl, (blk_cell BK920.out 4).trans rfl, (blk_cell BK920.out 5).trans rfl, (blk_cell BK920.out 6).trans rfl⟩ (fun hHeld => ?_)
   clear hK K
   refine norm_ (a' := ?_) ?_ ?_
   rotate_left
   ·show Act.put _ (some 20) _ = _
    simp only [Act.put, List.setIfInBounds_toArray, List.set_cons_zero, List.set_cons_succ, i64_w, i32_w]
    rfl
   refine pure_ (i := 8) (N := some 12) (v := ?_) (a' := ?_) #[true, true, true, true, true, true, true, true, true, false, false, false, false, false, false] rfl rfl (any_of HT_.out (by kernel_rfl)) (fun _ _ _ h => h) (Or.inl ⟨by rfl, ?_⟩) ?_ ?_
   rotate_left
   ·intro w'
    go_simp
    with_reducible rfl
   rotate_left
   ·simp only [Act.put, List.setIfInBounds_toArray, List.set_cons_zero, List.set_cons_succ, i64_w, i32_w]
    rfl
   refine pure_ (i := 9) (N := some 21) (v := ?_) (a' := ?_) #[true, true, true, true, true, true, true, true, true, true, false, false, false, false, false] rfl rfl (any_of HT_.out (by kernel_rfl)) (fun _ _ _ h => h) (Or.inl ⟨by rfl, ?_⟩) ?_ ?_
   rotate_left
   ·intro w'
    go_simp
    with_reducible rfl
   rotate_left
   ·simp only [Act.put, List.setIfInBounds_toArray, List.set_cons_zero, List.set_cons_succ, i64_w, i32_w]
    rfl
   refine pure_ (i := 10) (N := some 22) (v := ?_) (a' := ?_) #[true, true, true, true, true, true, true, true, true, true, true, false, false, false, false] rfl rfl (any_of HT_.out (by kernel_rfl)) (fun _ _ _ h => h) (Or.inl ⟨by rfl, ?_⟩) ?_ ?_
   rotate_left
   ·intro w'
    go_simp
    with_reducible rfl
   rotate_left
   ·simp only [Act.put, List.setIfInBounds_toArray, List.set_cons_zero, List.set_cons_succ, i64_w, i32_w]
    rfl
   refine pure_ (i := 11) (N := some 23) (v := ?_) (a' := ?_) #[true, true, true, true, true, true, true, true, true, true, true, true, false, false, false] rfl rfl (any_of HT_.out (by kernel_rfl)) (fun _ _ _ h => h) (Or.inl ⟨by rfl, ?_⟩) ?_ ?_
   rotate_left
   ·intro w'
    go_simp
    with_reducible rfl
   rotate_left
   ·simp only [Act.put, List.setIfInBounds_toArray, List.set_cons_zero, List.set_cons_succ, i64_w, i32_w]
    rfl
   refine pure_ (i := 12) (N := some 4) (v := ?_) (a' := ?_) #[true, true, true, true, true, true, true, true, true, true, true, true, true, false, false] rfl rfl (any_of HT_.out (by kernel_rfl)) (fun _ _ _ h => h) (Or.inl ⟨by rfl, ?_⟩) ?_ ?_
   rotate_left
   ·intro w'
    go_simp
    with_reducible rfl
   rotate_left
   ·simp only [Act.put, List.setIfInBounds_toArray, List.set_cons_zero, List.set_cons_succ, i64_w, i32_w]
    rfl
   refine pure_ (i := 13) (N := some 5) (v := ?_) (a' := ?_) #[true, true, true, true, true, true, true, true, true, true, true, true, true, true, false] rfl rfl (any_of HT_.out (by kernel_rfl)) (fun _ _ _ h => h) (Or.inl ⟨by rfl, ?_⟩) ?_ ?_
   rotate_left
   ·intro w'
    go_simp
    with_reducible rfl
   rotate_left
   ·simp only [Act.put, List.setIfInBounds_toArray, List.set_cons_zero, List.set_cons_succ, i64_w, i32_w]
    rfl
   refine pure_ (i := 14) (N := some 6) (v := ?_) (a' := ?_) #[true, true, true, true, true, true, true, true, true, true, true, true, true, true, true] rfl rfl (any_of HT_.out (by kernel_rfl)) (fun _ _ _ h => h) (Or.inl ⟨by rfl, ?_⟩) ?_ ?_
   rotate_left
   ·intro w'
    go_simp
    with_reducible rfl
   rotate_left
   ·simp only [Act.put, List.setIfInBounds_toArray, List.set_cons_zero, List.set_cons_succ, i64_w, i32_w]
    rfl
   refine done_ (done_of HT_.out (by kernel_rfl)) ?_
   try go_wp2
   go_ret2
   exact ⟨_, by rfl, by exact Kd.V_mono HO932.out (fun _ hk => hk.1), by repeat ((with_reducible exact HB.out))⟩

end Go.Proofs.Ytfdmfgaiblfbhaa.P
namespace Go.Proofs.Ytfdmfgaiblfbhaa.P
open Go.RowKit Go.Proofs.YtfdmfgaiblfbhaaW.PrintWords Go.Proofs.YtfdmfgaiblfbhaaW.PrintLast Go.Proofs.YtfdmfgaiblfbhaaW.PrintMore
attribute [local go_sem] max2_int min2_int max_two min_two max_three min_three max_four min_four   -- for this text's walks alone
set_option linter.unusedVariables false
set_option linter.unusedSimpArgs false

/-! ### sashref06_Check: function 146 -/
def sashref06_Check.l0 : Nat → List (S23) → List (S26) → List (S23) → Int → Int → Option ((List (S23)) × Int × Int)
 | 0, _, _, _, _, _ => none
 | k + 1, x5, x6, x7, x20, x21 => if x21 < x20 then (if 0 ≤ x21 then (if x21 < (x6.length : Int) then ((sashref06_one.f k ((rd_T26 x6 x21).f0) ((rd_T26 x6 x21).f1.f0) ((rd_T26 x6 x21).f1.f1) ((rd_T26 x6 x21).f1.f2) ((rd_T26 x6 x21).f1.f3) ((rd_T26 x6 x21).f2) ((rd_T26 x6 x21).f3)).bind fun bt951 => (if bt951.2 = true then (if x7.length + bt951.1.length < 4398046511104 then (sashref06_Check.l0 k x5 x6 (x7 ++ bt951.1) x20 (wrap64 (x21 + 1))) else (none)) else (some (x5, 5, x21)))) else (none)) else (none)) else (some (x7, 0, 0))
def sashref06_Check.f (k : Nat) (a0_0 : Int) (a0_1 : Int) (a0_2 : Int) (a0_3 : Int) (a0_4 : Int) (a0_5 : Int) (l0_6 : List (S26)) : Option ((List (S23)) × Int × Int) := (some (([] : List (S23)) : List (S23))).bind fun y940 => ((sashref05_May.f k a0_0 a0_1 a0_2 a0_3 a0_4 a0_5 l0_6).bind fun t943 => (if t943 = true then ((sashref05_All.f k a0_0 a0_1 a0_2 a0_3 a0_4 a0_5 l0_6).bind fun t944 => (sashref06_Check.l0 k y940 t944 (([] : List (S23))) (t944.length : Int) 0)) else (some (y940, 1, 0))))
theorem sashref06_Check.mono_l : ∀ k, (∀ y0 y1 y2 y3 y4, LeO (sashref06_Check.l0 k y0 y1 y2 y3 y4) (sashref06_Check.l0 (k + 1) y0 y1 y2 y3 y4))
 | 0 => fun _ _ _ _ _ r h => by simp [sashref06_Check.l0] at h
 | k + 1 => by
  have ih0 := sashref06_Check.mono_l k
  ·intro y0 y1 y2 y3 y4
   unfold sashref06_Check.l0
   repeat' first | (with_reducible exact ih0 _ _ _ _ _) | (with_reducible exact sashref06_one.mono _ _ _ _ _ _ _ _) | (with_reducible exact LeO.refl _) | (with_reducible refine LeO.ite ?_ ?_) | (with_reducible refine LeO.bind ?_ (fun _ => ?_))
theorem sashref06_Check.mono : ∀ a0 a1 a2 a3 a4 a5 a6 k, LeO (sashref06_Check.f k a0 a1 a2 a3 a4 a5 a6) (sashref06_Check.f (k + 1) a0 a1 a2 a3 a4 a5 a6) := by
 intro a0 a1 a2 a3 a4 a5 a6 k
 have ih0 := sashref06_Check.mono_l k
 unfold sashref06_Check.f
 repeat' first | (with_reducible exact ih0 _ _ _ _ _) | (with_reducible exact sashref05_All.mono _ _ _ _ _ _ _ _) | (with_reducible exact sashref05_May.mono _ _ _ _ _ _ _ _) | (with_reducible exact LeO.refl _) | (with_reducible refine LeO.ite ?_ ?_) | (with_reducible refine LeO.bind ?_ (fun _ => ?_))
set_option maxHeartbeats 8000000 in
set_option maxRecDepth 100000 in
theorem sashref06_Check.calls (k : Nat) (a0_0 : Int) (a0_1 : Int) (a0_2 : Int) (a0_3 : Int) (a0_4 : Int) (a0_5 : Int) (A0_6 : Option Addr) (c0_6 : Nat) (l0_6 : List (S26)) (r1 : List (S23)) (r2 : Int) (r3 : Int) (w : World) (hr0_6 : Kd.C k26 w A0_6 l0_6.length l0_6) (hc0_6 : l0_6.length ≤ c0_6) (h : sashref06_Check.f k a0_0 a0_1 a0_2 a0_3 a0_4 a0_5 l0_6 = some (r1, r2, r3)) :
  Calls Try.prog 146 #[.agg #[.int .u8 a0_0, .int .i64 a0_1, .int .i64 a0_2, .int .i64 a0_3, .int .i64 a0_4, .int .i64 a0_5, .slice A0_6 l0_6.length c0_6]] w fun e w' => ∃ v0_ : Value, e = .returned (.tuple #[v0_, .int .i64 r2, .int .i64 r3]) ∧ Kd.R k23 23 w' w.heap.size (fun _ => True) v0_ r1 ∧ Below w.heap.size w w' := by
 have hu26 := Try.underlying26
 have HR0_6 := Aside0.mk hr0_6
 have HC0_6 := Aside0.mk hc0_6
 clear hr0_6 hc0_6
 have HB := Aside0.mk (Below.refl w.heap.size w)
 have H : ((some (([] : List (S23)) : List (S23))).bind fun y940 => ((sashref05_May.f k a0_0 a0_1 a0_2 a0_3 a0_4 a0_5 l0_6).bind fun t943 => (if t943 = true then ((sashref05_All.f k a0_0 a0_1 a0_2 a0_3 a0_4 a0_5 l0_6).bind fun t944 => (sashref06_Check.l0 k y940 t944 (([] : List (S23))) (t944.length : Int) 0)) else (some (y940, 1, 0))))) = some (r1, r2, r3) := h
 clear h
 obtain ⟨y940, hy940⟩ : ∃ y_ : List (S23), y_ = (([] : List (S23))) := ⟨_, rfl⟩
 replace H : ((sashref05_May.f k a0_0 a0_1 a0_2 a0_3 a0_4 a0_5 l0_6).bind fun t943 => (if t943 = true then ((sashref05_All.f k a0_0 a0_1 a0_2 a0_3 a0_4 a0_5 l0_6).bind fun t944 => (sashref06_Check.l0 k y940 t944 (([] : List (S23))) (t944.length : Int) 0)) else (some (y940, 1, 0)))) = some (r1, r2, r3) := by (have H2_ := (Option.bind_some _ _).symm.trans H; rw [hy940]; with_reducible exact H2_)
 have Ny940 := Aside0.mk hy940
 clear hy940
 replace H := Option.bind_eq_some_iff.mp H
 obtain ⟨t943, A20, H⟩ := H
 replace H : (if t943 = true then ((sashref05_All.f k a0_0 a0_1 a0_2 a0_3 a0_4 a0_5 l0_6).bind fun t944 => (sashref06_Check.l0 k y940 t944 (([] : List (S23))) (t944.length : Int) 0)) else (some (y940, 1, 0))) = some (r1, r2, r3) := H
 have A2 := Aside0.mk A20
 clear A20
 by_cases c3 : t943 = true
 ·subst c3
  have H1 : ((sashref05_All.f k a0_0 a0_1 a0_2 a0_3 a0_4 a0_5 l0_6).bind fun t944 => (sashref06_Check.l0 k y940 t944 (([] : List (S23))) (t944.length : Int) 0)) = some (r1, r2, r3) := by rw [if_pos rfl] at H; exact H
  clear H
  have H := H1
  clear H1
  replace H := Option.bind_eq_some_iff.mp H
  obtain ⟨t944, A40, H⟩ := H
  replace H : (sashref06_Check.l0 k y940 t944 (([] : List (S23))) (t944.length : Int) 0) = some (r1, r2, r3) := H
  have A4 := Aside0.mk A40
  clear A40
  obtain ⟨y947, hy947⟩ : ∃ y_ : List (S23), y_ = (([] : List (S23))) := ⟨_, rfl⟩
  replace H : (sashref06_Check.l0 k y940 t944 y947 (t944.length : Int) 0) = some (r1, r2, r3) := by (rw [hy947]; with_reducible exact H)
  have Ny947 := Aside0.mk hy947
  clear hy947
  have H' := Aside0.mk H
  clear H
  go_enter Try.func146, Try.ntmps146
  go_wp2_with (first | ((with_reducible refine gate_dst (N := 1) rfl ?_); refine box_event ?hg (N := 1) ?hd (cs := #[.int .u8 a0_0, .int .i64 a0_1, .int .i64 a0_2, .int .i64 a0_3, .int .i64 a0_4, .int .i64 a0_5, .slice A0_6 l0_6.length c0_6]) (t := 26) ?hr ?_; (case hd => rfl); (case hg => rfl); (case hr => (go_simp; done)); intro gb939 hg w5 hbox hb; have BK939 := Aside0.mk (hbox); have GW939 := Aside0.mk ((by rw [hg]; exact (below_size (by repeat ((with_reducible exact HB.out)))) : w.heap.size ≤ gb939)); replace HB := Aside0.mk (below_step (by repeat ((with_reducible exact HB.out))) hb); clear hb hbox hg) | ((with_reducible refine gate_dst (N := 11) rfl ?_); refine Kd.R_lit k23 _ 23 ?hg (N := 11) ?hd (xs := ([] : List (S23))) (inner := []) (ok := fun _ => True) (okp := fun _ => True) ?hr ?hp (fun _ hk => hk) trivial (Below.refl _ _) (Nat.le_refl _) (by simp) ?_; (case hd => rfl); (case hg => rfl); (case hr => (go_simp; done)); (case hp => exact (Reps.none _ _)); intro v941 w6 ho7 hb hg_ hnew_; clear hg_ hnew_; (rw [← Ny940.out] at ho7); have HO942 := Aside0.mk (Kd.R_lower ho7 (below_size (by repeat ((with_reducible exact HB.out))))); replace BK939 := Aside0.mk (blk_below BK939.out hb); replace HB := Aside0.mk (below_step (by repeat ((with_reducible exact HB.out))) hb); clear hb ho7; have hcz8_0 : w6.cell? ⟨gb939, 0, none⟩ = some (.int .u8 a0_0) := (blk_cell BK939.out 0).trans rfl; have hcz8_1 : w6.cell? ⟨gb939, 1, none⟩ = some (.int .i64 a0_1) := (blk_cell BK939.out 1).trans rfl; have hcz8_2 : w6.cell? ⟨gb939, 2, none⟩ = some (.int .i64 a0_2) := (blk_cell BK939.out 2).trans rfl; have hcz8_3 : w6.cell? ⟨gb939, 3, none⟩ = some (.int .i64 a0_3) := (blk_cell BK939.out 3).trans rfl; have hcz8_4 : w6.cell? ⟨gb939, 4, none⟩ = some (.int .i64 a0_4) := (blk_cell BK939.out 4).trans rfl; have hcz8_5 : w6.cell? ⟨gb939, 5, none⟩ = some (.int .i64 a0_5) := (blk_cell BK939.out 5).trans rfl; have hcz8_6 : w6.cell? ⟨gb939, 6, none⟩ = some (.slice A0_6 l0_6.length c0_6) := (blk_cell BK939.out 6).trans rfl; have hfz8_0 := blk_frozen BK939.out 0; have hfz8_1 := blk_frozen BK939.out 1; have hfz8_2 := blk_frozen BK939.out 2; have hfz8_3 := blk_frozen BK939.out 3; have hfz8_4 := blk_frozen BK939.out 4; have hfz8_5 := blk_frozen BK939.out 5; have hfz8_6 := blk_frozen BK939.out 6) | ((with_reducible refine gate_callee (f := 38) rfl ?_); refine goesL_ (some 13) rfl rfl Try.func38 (by kernel_rfl) rfl #[.agg #[.int .u8 a0_0, .int .i64 a0_1, .int .i64 a0_2, .int .i64 a0_3, .int .i64 a0_4, .int .i64 a0_5, .slice A0_6 l0_6.length c0_6]] rfl (by (try simp only [List.map_toArray, List.map_cons, List.map_nil]); rfl) ?_; (with_reducible refine (sashref05_May.calls k a0_0 a0_1 a0_2 a0_3 a0_4 a0_5 _ _ l0_6 true _ ?side1 ?side2 A2.out).mono ?_); (case side1 => repeat (exact (Kd.C_below HR0_6.out HB.out))); (case side2 => exact HC0_6.out); rintro e w9 ⟨rfl, hb⟩; refine ⟨_, rfl, ?_⟩; replace HO942 := Aside0.mk (Kd.R_below HO942.out hb); replace BK939 := Aside0.mk (blk_below BK939.out hb); replace HB := Aside0.mk (below_step (by repeat ((with_reducible exact HB.out))) hb); (try clear hb); have hcz10_0 : w9.cell? ⟨gb939, 0, none⟩ = some (.int .u8 a0_0) := (blk_cell BK939.out 0).trans rfl; have hcz10_1 : w9.cell? ⟨gb939, 1, none⟩ = some (.int .i64 a0_1) := (blk_cell BK939.out 1).trans rfl; have hcz10_2 : w9.cell? ⟨gb939, 2, none⟩ = some (.int .i64 a0_2) := (blk_cell BK939.out 2).trans rfl; have hcz10_3 : w9.cell? ⟨gb939, 3, none⟩ = some (.int .i64 a0_3) := (blk_cell BK939.out 3).trans rfl; have hcz10_4 : w9.cell? ⟨gb939, 4, none⟩ = some (.int .i64 a0_4) := (blk_cell BK939.out 4).trans rfl; have hcz10_5 : w9.cell? ⟨gb939, 5, none⟩ = some (.int .i64 a0_5) := (blk_cell BK939.out 5).trans rfl; have hcz10_6 : w9.cell? ⟨gb939, 6, none⟩ = some (.slice A0_6 l0_6.length c0_6) := (blk_cell BK939.out 6).trans rfl; have hfz10_0 := blk_frozen BK939.out 0; have hfz10_1 := blk_frozen BK939.out 1; have hfz10_2 := blk_frozen BK939.out 2; have hfz10_3 := blk_frozen BK939.out 3; have hfz10_4 := blk_frozen BK939.out 4; have hfz10_5 := blk_frozen BK939.out 5; have hfz10_6 := blk_frozen BK939.out 6) | ((with_reducible refine gate_callee (f := 79) rfl ?_); refine goesL_ (some 17) rfl rfl Try.func79 (by kernel_rfl) rfl #[.agg #[.int .u8 a0_0, .int .i64 a0_1, .int .i64 a0_2, .int .i64 a0_3, .int .i64 a0_4, .int .i64 a0_5, .slice A0_6 l0_6.length c0_6]] rfl (by (try simp only [List.map_toArray, List.map_cons, List.map_nil]); rfl) ?_; (with_reducible refine (sashref05_All.calls k a0_0 a0_1 a0_2 a0_3 a0_4 a0_5 (fun k_ => k_ < w.heap.size) _ _ l0_6 t944 _ ?side1 A4.out).mono ?_); (case side1 => exact Kd.V_mk HC0_6.out (Kd.F_below (Kd.C_F k26_heap HR0_6.out) (by repeat ((with_reducible exact HB.out))))); rintro e w11 ⟨v945, rfl, ho0, hb⟩; refine ⟨_, rfl, ?_⟩; have HO946 := Aside0.mk (Kd.N_lower (Kd.N_mono (ok' := fun k_ => some k_ ≠ (v941 : Value).ownBlock ∧ k_ ≠ gb939) ho0 (fun k_ hk_ => ⟨Or.elim hk_ (fun hs_ => fun e_ => Nat.not_le.2 hs_ (Kd.R_base HO942.out k_ e_.symm)) (fun hn_ => (Kd.fresh' (Kd.R_lt HO942.out) k_ hn_)), Or.elim hk_ (fun hs_ => fun e_ => Nat.not_le.2 hs_ (by rw [e_]; exact GW939.out)) (fun hn_ => (Kd.freshB BK939.out k_ hn_))⟩)) (below_size (by repeat ((with_reducible exact HB.out))))); replace HO942 := Aside0.mk (Kd.R_below HO942.out hb); replace BK939 := Aside0.mk (blk_below BK939.out hb); replace HB := Aside0.mk (below_step (by repeat ((with_reducible exact HB.out))) hb); (try clear hb); (try clear ho0)) | ((with_reducible refine gate_dst (N := 18) rfl ?_); refine Kd.R_lit k23 _ 23 ?hg (N := 18) ?hd (xs := ([] : List (S23))) (inner := []) (ok := fun _ => True) (okp := fun _ => True) ?hr ?hp (fun _ hk => hk) trivial (Below.refl _ _) (Nat.le_refl _) (by simp) ?_; (case hd => rfl); (case hg => rfl); (case hr => (go_simp; done)); (case hp => exact (Reps.none _ _)); intro v948 w12 ho13 hb hg_ hnew_; clear hg_ hnew_; (rw [← Ny947.out] at ho13); have HO949 := Aside0.mk (Kd.R_lower (Kd.R_new' ho13 (Kd.R_lt HO942.out)) (below_size (by repeat ((with_reducible exact HB.out))))); replace HO942 := Aside0.mk (Kd.R_elder' HO942.out (Kd.R_base ho13) hb); replace HO946 := Aside0.mk (Kd.N_elder' HO946.out (Kd.R_base ho13) hb); replace BK939 := Aside0.mk (blk_below BK939.out hb); replace HB := Aside0.mk (below_step (by repeat ((with_reducible exact HB.out))) hb); clear hb ho13; obtain ⟨Ao14, co14, eo14⟩ := Kd.N_slice HO946.out; subst eo14))
  go_loopg [7, 21] k (fun kq v7 v21 w' => ∃ (x7_1 : List (S23)) (x21_1 : Int), v21 = .int .i64 x21_1 ∧ Aside0 (sashref06_Check.l0 kq y940 t944 x7_1 (t944.length : Int) x21_1 = some (r1, r2, r3)) ∧ Aside0 (kq ≤ k) ∧ Aside0 (Kd.R k23 23 w' w.heap.size (fun k_ => some k_ ≠ (v7 : Value).ownBlock) v941 y940) ∧ Aside0 (Kd.N k26 26 w' w.heap.size (fun k_ => some k_ ≠ (v941 : Value).ownBlock ∧ some k_ ≠ (v7 : Value).ownBlock ∧ k_ ≠ gb939) (.slice Ao14 t944.length co14) t944) ∧ Aside0 (Kd.R k23 23 w' w.heap.size (fun k_ => some k_ ≠ (v941 : Value).ownBlock) v7 x7_1) ∧ Aside0 (w'.heap[gb939]? = some (.cells #[.int .u8 a0_0, .int .i64 a0_1, .int .i64 a0_2, .int .i64 a0_3, .int .i64 a0_4, .int .i64 a0_5, (.slice A0_6 l0_6.length c0_6)] 26 (0, 0))) ∧ Aside0 (Below w.heap.size w w'))
  case atStart => exact ⟨(y947), (0), (by rfl), H', ⟨Nat.le_refl _⟩, ⟨by exact Kd.R_mono HO942.out (fun _ hk => hk.2)⟩, ⟨by exact Kd.N_mono HO946.out (fun _ hk => ⟨hk.1.1, ⟨hk.2, hk.1.2⟩⟩)⟩, ⟨by exact Kd.R_mono HO949.out (fun _ hk => hk.2)⟩, ⟨by exact BK939.out⟩, ⟨by repeat ((with_reducible exact HB.out))⟩⟩
  case round =>
   clear H'
   clear hcz10_0 hcz10_1 hcz10_2 hcz10_3 hcz10_4 hcz10_5 hcz10_6 hcz8_0 hcz8_1 hcz8_2 hcz8_3 hcz8_4 hcz8_5 hcz8_6 hfz10_0 hfz10_1 hfz10_2 hfz10_3 hfz10_4 hfz10_5 hfz10_6 hfz8_0 hfz8_1 hfz8_2 hfz8_3 hfz8_4 hfz8_5 hfz8_6
   obtain ⟨x7_1, x21_1, rfl, HA, HK1, HO_5, HO_6, HO_7, BK939, HB⟩ := hrel
   cases gk with
   | zero => exact absurd HA.out (by simp [sashref06_Check.l0])
   | succ k1 =>
    have H := HA.out
    clear HA
    simp only [sashref06_Check.l0] at H
    by_cases c15 : x21_1 < (t944.length : Int)
    ·rw [if_pos c15] at H
     have c15b0 : decide (x21_1 < (t944.length : Int)) = true := decide_eq_true c15
     clear c15
     by_cases c16 : 0 ≤ x21_1
     ·rw [if_pos c16] at H
      have c16b0 : decide (0 ≤ x21_1) = true := decide_eq_true c16
      clear c16
      by_cases c17 : x21_1 < (t944.length : Int)
      ·rw [if_pos c17] at H
       have c17b0 : decide (x21_1 < (t944.length : Int)) = true := decide_eq_true c17
       clear c17
       replace H := Option.bind_eq_some_iff.mp H
       obtain ⟨⟨t951, t954⟩, A180, H⟩ := H
       replace H : (if t954 = true then (if x7_1.length + t951.length < 4398046511104 then (sashref06_Check.l0 k1 y940 t944 (x7_1 ++ t951) (t944.length : Int) (wrap64 (x21_1 + 1))) else (none)) else (some (y940, 5, x21_1))) = some (r1, r2, r3) := H
       have A18 := Aside0.mk A180
       clear A180
       by_cases c19 : t954 = true
       ·subst c19
        have H1 : (if x7_1.length + t951.length < 4398046511104 then (sashref06_Check.l0 k1 y940 t944 (x7_1 ++ t951) (t944.length : Int) (wrap64 (x21_1 + 1))) else (none)) = some (r1, r2, r3) := by rw [if_pos rfl] at H; exact H
        clear H
        have H := H1
        clear H1
        by_cases c20 : x7_1.length + t951.length < 4398046511104
        ·rw [if_pos c20] at H
         have LMc20 := Aside0.mk c20
         clear c20
         obtain ⟨y955, hy955⟩ : ∃ y_ : List (S23), y_ = (x7_1 ++ t951) := ⟨_, rfl⟩
         replace H : (sashref06_Check.l0 k1 y940 t944 y955 (t944.length : Int) (wrap64 (x21_1 + 1))) = some (r1, r2, r3) := by (rw [hy955]; with_reducible exact H)
         have Ny955 := Aside0.mk hy955
         clear hy955
         have H' := Aside0.mk H
         clear H
         have p950 : 0 ≤ (x21_1 : Int) := of_decide_eq_true (by (with_reducible assumption))
         have q950 : x21_1 < (t944.length : Int) := of_decide_eq_true (by (with_reducible assumption))
         obtain ⟨ad950, A950_6, c950_6, e950, hx950_0, hx950_1, hx950_2, hx950_3, hx950_4, hx950_5, hx950_6, hl950_6, hi950_6⟩ := at_T26 (Kd.N_reads' HO_6.out).2.2 x21_1 p950 q950
         cases e950
         obtain ⟨ce950, hce950, hMe950, hcc950⟩ := Kd.N_get HO_6.out z26 x21_1 p950 q950
         obtain ⟨ua950_6, uc950_6, rfl, ul950_6, ge950_6⟩ := k26_openF hMe950
         have hv950_6 := hcc950 6 _ rfl
         rw [add_field _ _ 6 (by omega)] at hv950_6
         replace hv950_6 := Option.some.inj (hv950_6.symm.trans hx950_6)
         injection hv950_6 with hva_ hvn_ hvc_
         rw [hva_] at ge950_6
         rw [hvc_] at ul950_6
         clear hva_ hvn_ hvc_ ge950_6 ul950_6
         clear hcc950 hce950
         have HR950_6 := Aside0.mk hi950_6
         have HC950_6 := Aside0.mk hl950_6
         clear hi950_6 hl950_6
         replace p950 := eq_true p950
         replace q950 := eq_true q950
         go_wp2_with (first | ((with_reducible refine gate_callee (f := 178) rfl ?_); refine goesL_ (some 29) rfl rfl Try.func178 (by kernel_rfl) rfl #[.agg #[.int .u8 ((rd_T26 t944 x21_1).f0), .int .i64 ((rd_T26 t944 x21_1).f1.f0), .int .i64 ((rd_T26 t944 x21_1).f1.f1), .int .i64 ((rd_T26 t944 x21_1).f1.f2), .int .i64 ((rd_T26 t944 x21_1).f1.f3), .int .i64 ((rd_T26 t944 x21_1).f2), .slice A950_6 ((rd_T26 t944 x21_1).f3).length c950_6]] rfl (by (try simp only [List.map_toArray, List.map_cons, List.map_nil]); rfl) ?_; (with_reducible refine (sashref06_one.calls k1 ((rd_T26 t944 x21_1).f0) ((rd_T26 t944 x21_1).f1.f0) ((rd_T26 t944 x21_1).f1.f1) ((rd_T26 t944 x21_1).f1.f2) ((rd_T26 t944 x21_1).f1.f3) ((rd_T26 t944 x21_1).f2) _ _ ((rd_T26 t944 x21_1).f3) t951 true _ ?side1 ?side2 A18.out).mono ?_); (case side1 => repeat (exact (by repeat ((with_reducible exact HR950_6.out))))); (case side2 => exact HC950_6.out); rintro e w21 ⟨v952, rfl, ho0, hb⟩; refine ⟨_, rfl, ?_⟩; have HO953 := Aside0.mk (Kd.V_lower (Kd.V_mono (ok' := fun k_ => some k_ ≠ (v941 : Value).ownBlock ∧ some k_ ≠ (.slice (some ad950) t944.length co14 : Value).ownBlock ∧ some k_ ≠ (u7 : Value).ownBlock ∧ k_ ≠ gb939) ho0 (fun k_ hk_ => ⟨(Kd.fresh' (Kd.R_lt HO_5.out) k_ hk_), (Kd.fresh' (Kd.N_lt HO_6.out) k_ hk_), (Kd.fresh' (Kd.R_lt HO_7.out) k_ hk_), (Kd.freshB BK939.out k_ hk_)⟩)) (below_size (by repeat ((with_reducible exact HB.out))))); replace HO_5 := Aside0.mk (Kd.R_below HO_5.out hb); replace HO_6 := Aside0.mk (Kd.N_below HO_6.out hb); replace HO_7 := Aside0.mk (Kd.R_below HO_7.out hb); replace BK939 := Aside0.mk (blk_below BK939.out hb); replace HR950_6 := Aside0.mk (Kd.C_below (by repeat ((with_reducible exact HR950_6.out))) hb); replace HB := Aside0.mk (below_step (by repeat ((with_reducible exact HB.out))) hb); (try clear hb); (try clear ho0); obtain ⟨Ao23, co23, eo23⟩ := Kd.V_slice HO953.out; subst eo23) | ((with_reducible refine gate_builtin (b := .append) (xs := #[.tmp 36, .tmp 37]) rfl ?_); at_builtin; refine Kd.R_append_rows k23 (w0 := w) w.heap.size rfl (.tmp 36) (.tmp 37) 42 23 (.agg #[(.int .i64 0), (.int .i64 0), (.int .i64 0), (.int .i64 0)]) 32 rfl Try.underlying42 info23 rfl (by decide) (by omega) u7 x7_1 t951 _ _ _ (fun k_ => some k_ ≠ (v941 : Value).ownBlock) (fun _ => False) rfl rfl ?aO ?aR (fun _ _ h => h) (fun _ h => h.elim) ?aF ?aB ?aS ?aL ?_; (case aR => repeat (exact (Kd.V_reads' HO953.out).2.2)); (case aB => exact (by repeat ((with_reducible exact HB.out)))); (case aF => exact (fun k_ hk => Kd.fresh' (Kd.R_lt HO_5.out) k_ hk)); (case aO => exact HO_7.out); (case aS => exact (below_size (by repeat ((with_reducible exact HB.out))))); (case aL => have := LMc20.out; omega); intro v956 w22 ho hb hg hat; rw [← Ny955.out] at ho; have HO957 := Aside0.mk (ho); replace HO_5 := Aside0.mk (Kd.R_after (ok := (fun _ => True)) (by exact Kd.R_mono HO_5.out (fun _ hk => ⟨trivial, hk⟩)) hg hat); replace HO_6 := Aside0.mk (Kd.N_afterv (ok := (fun k_ => some k_ ≠ (v941 : Value).ownBlock ∧ k_ ≠ gb939)) (by exact Kd.N_mono HO_6.out (fun _ hk => ⟨⟨hk.1, hk.2.2⟩, hk.2.1⟩)) hg hat); replace BK939 := Aside0.mk (blk_grown BK939.out hg (Kd.R_ne HO_7.out BK939.out (by decide))); replace HO953 := Aside0.mk (Kd.V_afterv (ok := (fun k_ => some k_ ≠ (v941 : Value).ownBlock ∧ some k_ ≠ (.slice (some ad950) t944.length co14 : Value).ownBlock ∧ k_ ≠ gb939)) (by exact Kd.V_mono HO953.out (fun _ hk => ⟨⟨hk.1, ⟨hk.2.1, hk.2.2.2⟩⟩, hk.2.2.1⟩)) hg hat); replace HB := Aside0.mk (hb); clear HO_7; clear ho hb hg hat))
         go_roundg k1
         case measure => have := HK1.out; omega
         case rel => exact ⟨(y955), (wrap64 (x21_1 + 1)), (by rfl), H', ⟨by have := HK1.out; omega⟩, ⟨by exact Kd.R_mono HO_5.out (fun _ hk => hk.2)⟩, ⟨by exact Kd.N_mono HO_6.out (fun _ hk => ⟨hk.1.1, ⟨hk.2, hk.1.2⟩⟩)⟩, ⟨by exact HO957.out⟩, ⟨by exact BK939.out⟩, ⟨by repeat ((with_reducible exact HB.out))⟩⟩
        ·rw [if_neg c20] at H
         exact absurd H (by simp)
       ·replace c19 := Bool.eq_false_iff.mpr c19
        subst c19
        have H1 : (some (y940, 5, x21_1)) = some (r1, r2, r3) := by rw [if_neg (show ¬ (false = true) by decide)] at H; exact H
        clear H
        have H := H1
        clear H1
        simp only [Option.some.injEq, Prod.mk.injEq] at H
        obtain ⟨rfl, rfl, rfl⟩ := H
        have p950 : 0 ≤ (x21_1 : Int) := of_decide_eq_true (by (with_reducible assumption))
        have q950 : x21_1 < (t944.length : Int) := of_decide_eq_true (by (with_reducible assumption))
        obtain ⟨ad950, A950_6, c950_6, e950, hx950_0, hx950_1, hx950_2, hx950_3, hx950_4, hx950_5, hx950_6, hl950_6, hi950_6⟩ := at_T26 (Kd.N_reads' HO_6.out).2.2 x21_1 p950 q950
        cases e950
        obtain ⟨ce950, hce950, hMe950, hcc950⟩ := Kd.N_get HO_6.out z26 x21_1 p950 q950
        obtain ⟨ua950_6, uc950_6, rfl, ul950_6, ge950_6⟩ := k26_openF hMe950
        have hv950_6 := hcc950 6 _ rfl
        rw [add_field _ _ 6 (by omega)] at hv950_6
        replace hv950_6 := Option.some.inj (hv950_6.symm.trans hx950_6)
        injection hv950_6 with hva_ hvn_ hvc_
        rw [hva_] at ge950_6
        rw [hvc_] at ul950_6
        clear hva_ hvn_ hvc_ ge950_6 ul950_6
        clear hcc950 hce950
        have HR950_6 := Aside0.mk hi950_6
        have HC950_6 := Aside0.mk hl950_6
        clear hi950_6 hl950_6
        replace p950 := eq_true p950
        replace q950 := eq_true q950
        go_wp2_with (((with_reducible refine gate_callee (f := 178) rfl ?_); refine goesL_ (some 29) rfl rfl Try.func178 (by kernel_rfl) rfl #[.agg #[.int .u8 ((rd_T26 t944 x21_1).f0), .int .i64 ((rd_T26 t944 x21_1).f1.f0), .int .i64 ((rd_T26 t944 x21_1).f1.f1), .int .i64 ((rd_T26 t944 x21_1).f1.f2), .int .i64 ((rd_T26 t944 x21_1).f1.f3), .int .i64 ((rd_T26 t944 x21_1).f2), .slice A950_6 ((rd_T26 t944 x21_1).f3).length c950_6]] rfl (by (try simp only [List.map_toArray, List.map_cons, List.map_nil]); rfl) ?_; (with_reducible refine (sashref06_one.calls k1 ((rd_T26 t944 x21_1).f0) ((rd_T26 t944 x21_1).f1.f0) ((rd_T26 t944 x21_1).f1.f1) ((rd_T26 t944 x21_1).f1.f2) ((rd_T26 t944 x21_1).f1.f3) ((rd_T26 t944 x21_1).f2) _ _ ((rd_T26 t944 x21_1).f3) t951 false _ ?side1 ?side2 A18.out).mono ?_); (case side1 => repeat (exact (by repeat ((with_reducible exact HR950_6.out))))); (case side2 => exact HC950_6.out); rintro e w24 ⟨v952, rfl, ho0, hb⟩; refine ⟨_, rfl, ?_⟩; have HO953 := Aside0.mk (Kd.V_lower (Kd.V_mono (ok' := fun k_ => some k_ ≠ (v941 : Value).ownBlock ∧ some k_ ≠ (.slice (some ad950) t944.length co14 : Value).ownBlock ∧ some k_ ≠ (u7 : Value).ownBlock ∧ k_ ≠ gb939) ho0 (fun k_ hk_ => ⟨(Kd.fresh' (Kd.R_lt HO_5.out) k_ hk_), (Kd.fresh' (Kd.N_lt HO_6.out) k_ hk_), (Kd.fresh' (Kd.R_lt HO_7.out) k_ hk_), (Kd.freshB BK939.out k_ hk_)⟩)) (below_size (by repeat ((with_reducible exact HB.out))))); replace HO_5 := Aside0.mk (Kd.R_below HO_5.out hb); replace HO_6 := Aside0.mk (Kd.N_below HO_6.out hb); replace HO_7 := Aside0.mk (Kd.R_below HO_7.out hb); replace BK939 := Aside0.mk (blk_below BK939.out hb); replace HR950_6 := Aside0.mk (Kd.C_below (by repeat ((with_reducible exact HR950_6.out))) hb); replace HB := Aside0.mk (below_step (by repeat ((with_reducible exact HB.out))) hb); (try clear hb); (try clear ho0)))
        go_ret3
        exact ⟨_, by rfl, by exact Kd.R_mono HO_5.out (fun _ hk => trivial), by repeat ((with_reducible exact HB.out))⟩
      ·rw [if_neg c17] at H
       exact absurd H (by simp)
     ·rw [if_neg c16] at H
      exact absurd H (by simp)
    ·rw [if_neg c15] at H
     have c15b0 : decide (x21_1 < (t944.length : Int)) = false := decide_eq_false c15
     clear c15
     simp only [Option.some.injEq, Prod.mk.injEq] at H
     obtain ⟨rfl, rfl, rfl⟩ := H
     go_wp2
     go_ret3
     exact ⟨_, by rfl, by exact Kd.R_mono HO_7.out (fun _ hk => trivial), by repeat ((with_reducible exact HB.out))⟩
 ·replace c3 := Bool.eq_false_iff.mpr c3
  subst c3
  have H1 : (some (y940, 1, 0)) = some (r1, r2, r3) := by rw [if_neg (show ¬ (false = true) by decide)] at H; exact H
  clear H
  have H := H1
  clear H1
  simp only [Option.some.injEq, Prod.mk.injEq] at H
  obtain ⟨rfl, rfl, rfl⟩ := H
  go_enter Try.func146, Try.ntmps146
  go_wp2_with (first | ((with_reducible refine gate_dst (N := 1) rfl ?_); refine box_event ?hg (N := 1) ?hd (cs := #[.int .u8 a0_0, .int .i64 a0_1, .int .i64 a0_2, .int .i64 a0_3, .int .i64 a0_4, .int .i64 a0_5, .slice A0_6 l0_6.length c0_6]) (t := 26) ?hr ?_; (case hd => rfl); (case hg => rfl); (case hr => (go_simp; done)); intro gb939 hg w25 hbox hb; have BK939 := Aside0.mk (hbox); have GW939 := Aside0.mk ((by rw [hg]; exact (below_size (by repeat ((with_reducible exact HB.out)))) : w.heap.size ≤ gb939)); replace HB := Aside0.mk (below_step (by repeat ((with_reducible exact HB.out))) hb); clear hb hbox hg) | ((with_reducible refine gate_dst (N := 11) rfl ?_); refine Kd.R_lit k23 _ 23 ?hg (N := 11) ?hd (xs := ([] : List (S23))) (inner := []) (ok := fun _ => True) (okp := fun _ => True) ?hr ?hp (fun _ hk => hk) trivial (Below.refl _ _) (Nat.le_refl _) (by simp) ?_; (case hd => rfl); (case hg => rfl); (case hr => (go_simp; done)); (case hp => exact (Reps.none _ _)); intro v941 w26 ho27 hb hg_ hnew_; clear hg_ hnew_; (rw [← Ny940.out] at ho27); have HO942 := Aside0.mk (Kd.R_lower ho27 (below_size (by repeat ((with_reducible exact HB.out))))); replace BK939 := Aside0.mk (blk_below BK939.out hb); replace HB := Aside0.mk (below_step (by repeat ((with_reducible exact HB.out))) hb); clear hb ho27; have hcz28_0 : w26.cell? ⟨gb939, 0, none⟩ = some (.int .u8 a0_0) := (blk_cell BK939.out 0).trans rfl; have hcz28_1 : w26.cell? ⟨gb939, 1, none⟩ = some (.int .i64 a0_1) := (blk_cell BK939.out 1).trans rfl; have hcz28_2 : w26.cell? ⟨gb939, 2, none⟩ = some (.int .i64 a0_2) := (blk_cell BK939.out 2).trans rfl; have hcz28_3 : w26.cell? ⟨gb939, 3, none⟩ = some (.int .i64 a0_3) := (blk_cell BK939.out 3).trans rfl; have hcz28_4 : w26.cell? ⟨gb939, 4, none⟩ = some (.int .i64 a0_4) := (blk_cell BK939.out 4).trans rfl; have hcz28_5 : w26.cell? ⟨gb939, 5, none⟩ = some (.int .i64 a0_5) := (blk_cell BK939.out 5).trans rfl; have hcz28_6 : w26.cell? ⟨gb939, 6, none⟩ = some (.slice A0_6 l0_6.length c0_6) := (blk_cell BK939.out 6).trans rfl; have hfz28_0 := blk_frozen BK939.out 0; have hfz28_1 := blk_frozen BK939.out 1; have hfz28_2 := blk_frozen BK939.out 2; have hfz28_3 := blk_frozen BK939.out 3; have hfz28_4 := blk_frozen BK939.out 4; have hfz28_5 := blk_frozen BK939.out 5; have hfz28_6 := blk_frozen BK939.out 6) | ((with_reducible refine gate_callee (f := 38) rfl ?_); refine goesL_ (some 13) rfl rfl Try.func38 (by kernel_rfl) rfl #[.agg #[.int .u8 a0_0, .int .i64 a0_1, .int .i64 a0_2, .int .i64 a0_3, .int .i64 a0_4, .int .i64 a0_5, .slice A0_6 l0_6.length c0_6]] rfl (by (try simp only [List.map_toArray, List.map_cons, List.map_nil]); rfl) ?_; (with_reducible refine (sashref05_May.calls k a0_0 a0_1 a0_2 a0_3 a0_4 a0_5 _ _ l0_6 false _ ?side1 ?side2 A2.out).mono ?_); (case side1 => repeat (exact (Kd.C_below HR0_6.out HB.out))); (case side2 => exact HC0_6.out); rintro e w29 ⟨rfl, hb⟩; refine ⟨_, rfl, ?_⟩; replace HO942 := Aside0.mk (Kd.R_below HO942.out hb); replace BK939 := Aside0.mk (blk_below BK939.out hb); replace HB := Aside0.mk (below_step (by repeat ((with_reducible exact HB.out))) hb); (try clear hb)))
  go_ret3
  exact ⟨_, by rfl, by exact HO942.out, by repeat ((with_reducible exact HB.out))⟩

end Go.Proofs.Ytfdmfgaiblfbhaa.P
namespace Go.Proofs.Ytfdmfgaiblfbhaa.P
open Go.RowKit Go.Proofs.YtfdmfgaiblfbhaaW.PrintWords Go.Proofs.YtfdmfgaiblfbhaaW.PrintLast Go.Proofs.YtfdmfgaiblfbhaaW.PrintMore
attribute [local go_sem] max2_int min2_int max_two min_two max_three min_three max_four min_four   -- for this text's walks alone
set_option linter.unusedVariables false
set_option linter.unusedSimpArgs false

/-! ### sashref06_Tiles: function 84 -/
def sashref06_Tiles.f (k : Nat) (a0_0 : Int) (a0_1 : Int) (a0_2 : Int) (a0_3 : Int) (a0_4 : Int) (a0_5 : Int) (l0_6 : List (S26)) : Option (Bool) := (sashref06_Check.f k a0_0 a0_1 a0_2 a0_3 a0_4 a0_5 l0_6).bind fun bt959 => (some (bt959.2.1 == 0))
theorem sashref06_Tiles.mono : ∀ a0 a1 a2 a3 a4 a5 a6 k, LeO (sashref06_Tiles.f k a0 a1 a2 a3 a4 a5 a6) (sashref06_Tiles.f (k + 1) a0 a1 a2 a3 a4 a5 a6) := by
 intro a0 a1 a2 a3 a4 a5 a6 k
 unfold sashref06_Tiles.f
 repeat' first | (with_reducible exact sashref06_Check.mono _ _ _ _ _ _ _ _) | (with_reducible exact LeO.refl _) | (with_reducible refine LeO.bind ?_ (fun _ => ?_))
set_option maxHeartbeats 8000000 in
set_option maxRecDepth 100000 in
theorem sashref06_Tiles.calls (k : Nat) (a0_0 : Int) (a0_1 : Int) (a0_2 : Int) (a0_3 : Int) (a0_4 : Int) (a0_5 : Int) (A0_6 : Option Addr) (c0_6 : Nat) (l0_6 : List (S26)) (r : Bool) (w : World) (hr0_6 : Kd.C k26 w A0_6 l0_6.length l0_6) (hc0_6 : l0_6.length ≤ c0_6) (h : sashref06_Tiles.f k a0_0 a0_1 a0_2 a0_3 a0_4 a0_5 l0_6 = some r) :
  Calls Try.prog 84 #[.agg #[.int .u8 a0_0, .int .i64 a0_1, .int .i64 a0_2, .int .i64 a0_3, .int .i64 a0_4, .int .i64 a0_5, .slice A0_6 l0_6.length c0_6]] w fun e w' => e = .returned (.bool r) ∧ Below w.heap.size w w' := by
 have hu26 := Try.underlying26
 have HR0_6 := Aside0.mk hr0_6
 have HC0_6 := Aside0.mk hc0_6
 clear hr0_6 hc0_6
 have HB := Aside0.mk (Below.refl w.heap.size w)
 have H : ((sashref06_Check.f k a0_0 a0_1 a0_2 a0_3 a0_4 a0_5 l0_6).bind fun bt959 => (some (bt959.2.1 == 0))) = some r := h
 clear h
 replace H := Option.bind_eq_some_iff.mp H
 obtain ⟨⟨t959, t962, t963⟩, A20, H⟩ := H
 replace H : (some (t962 == 0)) = some r := H
 have A2 := Aside0.mk A20
 clear A20
 obtain rfl := Option.some.inj H
 go_enter Try.func84, Try.ntmps84
 go_wp2_with (first | ((with_reducible refine gate_dst (N := 1) rfl ?_); refine box_event ?hg (N := 1) ?hd (cs := #[.int .u8 a0_0, .int .i64 a0_1, .int .i64 a0_2, .int .i64 a0_3, .int .i64 a0_4, .int .i64 a0_5, .slice A0_6 l0_6.length c0_6]) (t := 26) ?hr ?_; (case hd => rfl); (case hg => rfl); (case hr => (go_simp; done)); intro gb958 hg w3 hbox hb; have BK958 := Aside0.mk (hbox); replace HB := Aside0.mk (below_step (by repeat ((with_reducible exact HB.out))) hb); clear hb hbox hg; have hcz4_0 : w3.cell? ⟨gb958, 0, none⟩ = some (.int .u8 a0_0) := (blk_cell BK958.out 0).trans rfl; have hcz4_1 : w3.cell? ⟨gb958, 1, none⟩ = some (.int .i64 a0_1) := (blk_cell BK958.out 1).trans rfl; have hcz4_2 : w3.cell? ⟨gb958, 2, none⟩ = some (.int .i64 a0_2) := (blk_cell BK958.out 2).trans rfl; have hcz4_3 : w3.cell? ⟨gb958, 3, none⟩ = some (.int .i64 a0_3) := (blk_cell BK958.out 3).trans rfl; have hcz4_4 : w3.cell? ⟨gb958, 4, none⟩ = some (.int .i64 a0_4) := (blk_cell BK958.out 4).trans rfl; have hcz4_5 : w3.cell? ⟨gb958, 5, none⟩ = some (.int .i64 a0_5) := (blk_cell BK958.out 5).trans rfl; have hcz4_6 : w3.cell? ⟨gb958, 6, none⟩ = some (.slice A0_6 l0_6.length c0_6) := (blk_cell BK958.out 6).trans rfl; have hfz4_0 := blk_frozen BK958.out 0; have hfz4_1 := blk_frozen BK958.out 1; have hfz4_2 := blk_frozen BK958.out 2; have hfz4_3 := blk_frozen BK958.out 3; have hfz4_4 := blk_frozen BK958.out 4; have hfz4_5 := blk_frozen BK958.out 5; have hfz4_6 := blk_frozen BK958.out 6) | ((with_reducible refine gate_callee (f := 146) rfl ?_); refine goesL_ (some 8) rfl rfl Try.func146 (by kernel_rfl) rfl #[.agg #[.int .u8 a0_0, .int .i64 a0_1, .int .i64 a0_2, .int .i64 a0_3, .int .i64 a0_4, .int .i64 a0_5, .slice A0_6 l0_6.length c0_6]] rfl (by (try simp only [List.map_toArray, List.map_cons, List.map_nil]); rfl) ?_; (with_reducible refine (sashref06_Check.calls k a0_0 a0_1 a0_2 a0_3 a0_4 a0_5 _ _ l0_6 t959 t962 t963 _ ?side1 ?side2 A2.out).mono ?_); (case side1 => repeat (exact (Kd.C_below HR0_6.out HB.out))); (case side2 => exact HC0_6.out); rintro e w5 ⟨v960, rfl, ho0, hb⟩; refine ⟨_, rfl, ?_⟩; replace BK958 := Aside0.mk (blk_below BK958.out hb); replace HB := Aside0.mk (below_step (by repeat ((with_reducible exact HB.out))) hb); (try clear hb); (try clear ho0)))
 go_ret
 exact ⟨by rfl, by repeat ((with_reducible exact HB.out))⟩

end Go.Proofs.Ytfdmfgaiblfbhaa.P
namespace Go.Proofs.Ytfdmfgaiblfbhaa.P
open Go.RowKit Go.Proofs.YtfdmfgaiblfbhaaW.PrintWords Go.Proofs.YtfdmfgaiblfbhaaW.PrintLast Go.Proofs.YtfdmfgaiblfbhaaW.PrintMore
attribute [local go_sem] max2_int min2_int max_two min_two max_three min_three max_four min_four   -- for this text's walks alone
set_option linter.unusedVariables false
set_option linter.unusedSimpArgs false

/-! ### sashref08_Size: function 87 -/
def sashref08_Size.f (a0_0 : Int) (a0_1 : Int) (a0_2 : Int) (a0_3 : Int) (a1 : Int) : Option (Int) := if a1 = 1 then (some a0_2) else (if a1 = 2 then (some a0_3) else (some 0))
set_option maxHeartbeats 8000000 in
set_option maxRecDepth 100000 in
theorem sashref08_Size.calls (a0_0 : Int) (a0_1 : Int) (a0_2 : Int) (a0_3 : Int) (a1 : Int) (r : Int) (w : World) (h : sashref08_Size.f a0_0 a0_1 a0_2 a0_3 a1 = some r) :
  Calls Try.prog 87 #[.agg #[.int .i64 a0_0, .int .i64 a0_1, .int .i64 a0_2, .int .i64 a0_3], .int .u8 a1] w fun e w' => e = .returned (.int .i64 r) ∧ Below w.heap.size w w' := by
 have hu23 := Try.underlying23
 have HB := Aside0.mk (Below.refl w.heap.size w)
 have H : (if a1 = 1 then (some a0_2) else (if a1 = 2 then (some a0_3) else (some 0))) = some r := h
 clear h
 by_cases c3 : a1 = 1
 ·rw [if_pos c3] at H
  have c3b0 : (a1 == 1) = true := beq_iff_eq.mpr c3
  have c3b1 : (a1 != 1) = false := bne_eq_false_iff_eq.mpr c3
  clear c3
  obtain rfl := Option.some.inj H
  go_enter Try.func87, Try.ntmps87
  go_wp2_with (((with_reducible refine gate_dst (N := 2) rfl ?_); refine box_event ?hg (N := 2) ?hd (cs := #[.int .i64 a0_0, .int .i64 a0_1, .int .i64 a0_2, .int .i64 a0_3]) (t := 23) ?hr ?_; (case hd => rfl); (case hg => rfl); (case hr => (go_simp; done)); intro gb986 hg w4 hbox hb; have BK986 := Aside0.mk (hbox); replace HB := Aside0.mk (below_step (by repeat ((with_reducible exact HB.out))) hb); clear hb hbox hg; have hcz5_0 : w4.cell? ⟨gb986, 0, none⟩ = some (.int .i64 a0_0) := (blk_cell BK986.out 0).trans rfl; have hcz5_1 : w4.cell? ⟨gb986, 1, none⟩ = some (.int .i64 a0_1) := (blk_cell BK986.out 1).trans rfl; have hcz5_2 : w4.cell? ⟨gb986, 2, none⟩ = some (.int .i64 a0_2) := (blk_cell BK986.out 2).trans rfl; have hcz5_3 : w4.cell? ⟨gb986, 3, none⟩ = some (.int .i64 a0_3) := (blk_cell BK986.out 3).trans rfl; have hfz5_0 := blk_frozen BK986.out 0; have hfz5_1 := blk_frozen BK986.out 1; have hfz5_2 := blk_frozen BK986.out 2; have hfz5_3 := blk_frozen BK986.out 3))
  go_ret
  exact ⟨by rfl, by repeat ((with_reducible exact HB.out))⟩
 ·rw [if_neg c3] at H
  have c3b0 : (a1 == 1) = false := beq_eq_false_iff_ne.mpr c3
  have c3b1 : (a1 != 1) = true := bne_iff_ne.mpr c3
  by_cases c6 : a1 = 2
  ·rw [if_pos c6] at H
   have c6b0 : (a1 == 2) = true := beq_iff_eq.mpr c6
   have c6b1 : (a1 != 2) = false := bne_eq_false_iff_eq.mpr c6
   clear c6
   obtain rfl := Option.some.inj H
   go_enter Try.func87, Try.ntmps87
   go_wp2_with (((with_reducible refine gate_dst (N := 2) rfl ?_); refine box_event ?hg (N := 2) ?hd (cs := #[.int .i64 a0_0, .int .i64 a0_1, .int .i64 a0_2, .int .i64 a0_3]) (t := 23) ?hr ?_; (case hd => rfl); (case hg => rfl); (case hr => (go_simp; done)); intro gb986 hg w7 hbox hb; have BK986 := Aside0.mk (hbox); replace HB := Aside0.mk (below_step (by repeat ((with_reducible exact HB.out))) hb); clear hb hbox hg; have hcz8_0 : w7.cell? ⟨gb986, 0, none⟩ = some (.int .i64 a0_0) := (blk_cell BK986.out 0).trans rfl; have hcz8_1 : w7.cell? ⟨gb986, 1, none⟩ = some (.int .i64 a0_1) := (blk_cell BK986.out 1).trans rfl; have hcz8_2 : w7.cell? ⟨gb986, 2, none⟩ = some (.int .i64 a0_2) := (blk_cell BK986.out 2).trans rfl; have hcz8_3 : w7.cell? ⟨gb986, 3, none⟩ = some (.int .i64 a0_3) := (blk_cell BK986.out 3).trans rfl; have hfz8_0 := blk_frozen BK986.out 0; have hfz8_1 := blk_frozen BK986.out 1; have hfz8_2 := blk_frozen BK986.out 2; have hfz8_3 := blk_frozen BK986.out 3))
   go_ret
   exact ⟨by rfl, by repeat ((with_reducible exact HB.out))⟩
  ·rw [if_neg c6] at H
   have c6b0 : (a1 == 2) = false := beq_eq_false_iff_ne.mpr c6
   have c6b1 : (a1 != 2) = true := bne_iff_ne.mpr c6
   obtain rfl := Option.some.inj H
   go_enter Try.func87, Try.ntmps87
   go_wp2_with (((with_reducible refine gate_dst (N := 2) rfl ?_); refine box_event ?hg (N := 2) ?hd (cs := #[.int .i64 a0_0, .int .i64 a0_1, .int .i64 a0_2, .int .i64 a0_3]) (t := 23) ?hr ?_; (case hd => rfl); (case hg => rfl); (case hr => (go_simp; done)); intro gb986 hg w9 hbox hb; have BK986 := Aside0.mk (hbox); replace HB := Aside0.mk (below_step (by repeat ((with_reducible exact HB.out))) hb); clear hb hbox hg))
   go_ret
   exact ⟨by rfl, by repeat ((with_reducible exact HB.out))⟩

end Go.Proofs.Ytfdmfgaiblfbhaa.P
namespace Go.Proofs.Ytfdmfgaiblfbhaa.P
open Go.RowKit Go.Proofs.YtfdmfgaiblfbhaaW.PrintWords Go.Proofs.YtfdmfgaiblfbhaaW.PrintLast Go.Proofs.YtfdmfgaiblfbhaaW.PrintMore
attribute [local go_sem] max2_int min2_int max_two min_two max_three min_three max_four min_four   -- for this text's walks alone
set_option linter.unusedVariables false
set_option linter.unusedSimpArgs false

/-! ### sashref08_Gives: function 95 -/
def sashref08_Gives.j0 : Nat → Int → Bool → Int → Int → Int → Int → Int → Int → List (S26) → Option (Int)
 | 0, _, _, _, _, _, _, _, _, _ => none
 | k + 1, x1, x15, x1089000, x1089001, x1089002, x1089003, x1089004, x1089005, x1089006 => if x15 = true then (some 0) else ((sashref08_Size.f x1089001 x1089002 x1089003 x1089004 x1).bind fun t1090 => ((sashref08_Of.f k x1089000 x1089001 x1089002 x1089003 x1089004 x1089005 x1089006 x1).bind fun t1091 => (some (wrap64 (t1090 - t1091)))))
def sashref08_Gives.f (k : Nat) (a0_0 : Int) (a0_1 : Int) (a0_2 : Int) (a0_3 : Int) (a0_4 : Int) (a0_5 : Int) (l0_6 : List (S26)) (a1 : Int) : Option (Int) := if a1 < 1 then (sashref08_Gives.j0 k a1 true a0_0 a0_1 a0_2 a0_3 a0_4 a0_5 l0_6) else (if a1 > 2 then (sashref08_Gives.j0 k a1 true a0_0 a0_1 a0_2 a0_3 a0_4 a0_5 l0_6) else ((sashref06_Tiles.f k a0_0 a0_1 a0_2 a0_3 a0_4 a0_5 l0_6).bind fun t1089 => (sashref08_Gives.j0 k a1 (!t1089) a0_0 a0_1 a0_2 a0_3 a0_4 a0_5 l0_6)))
def sashref08_Gives.T3 : Bool × List (List Nat × List Nat) := (true, [([], []), ([0], [0]), ([], []), ([1, 2], [1, 2]), ([], []), ([], []), ([4, 5, 3], [4, 5]), ([3, 6], [3, 6]), ([7, 6, 0, 1, 2, 3, 4, 5, 6, 7], [7])])
def sashref08_Gives.B3 : List Nat := [0, 1, 0, 7, 0, 0, 63, 127, 255]
theorem sashref08_Gives.tab3 : rtab .any (opsOf Try.f95 3) = sashref08_Gives.T3 := by kernel_rfl
theorem sashref08_Gives.bits3 : waitsOk sashref08_Gives.T3.2 sashref08_Gives.B3 = true := by kernel_rfl
set_option maxHeartbeats 8000000 in
set_option maxRecDepth 100000 in
theorem sashref08_Gives.calls (k : Nat) (a0_0 : Int) (a0_1 : Int) (a0_2 : Int) (a0_3 : Int) (a0_4 : Int) (a0_5 : Int) (A0_6 : Option Addr) (c0_6 : Nat) (l0_6 : List (S26)) (a1 : Int) (r : Int) (w : World) (hr0_6 : Kd.C k26 w A0_6 l0_6.length l0_6) (hc0_6 : l0_6.length ≤ c0_6) (h : sashref08_Gives.f k a0_0 a0_1 a0_2 a0_3 a0_4 a0_5 l0_6 a1 = some r) :
  Calls Try.prog 95 #[.agg #[.int .u8 a0_0, .int .i64 a0_1, .int .i64 a0_2, .int .i64 a0_3, .int .i64 a0_4, .int .i64 a0_5, .slice A0_6 l0_6.length c0_6], .int .u8 a1] w fun e w' => e = .returned (.int .i64 r) ∧ Below w.heap.size w w' := by
 have hu26 := Try.underlying26
 have hu23 := Try.underlying23
 have HR0_6 := Aside0.mk hr0_6
 have HC0_6 := Aside0.mk hc0_6
 clear hr0_6 hc0_6
 have HB := Aside0.mk (Below.refl w.heap.size w)
 have H : (if a1 < 1 then (sashref08_Gives.j0 k a1 true a0_0 a0_1 a0_2 a0_3 a0_4 a0_5 l0_6) else (if a1 > 2 then (sashref08_Gives.j0 k a1 true a0_0 a0_1 a0_2 a0_3 a0_4 a0_5 l0_6) else ((sashref06_Tiles.f k a0_0 a0_1 a0_2 a0_3 a0_4 a0_5 l0_6).bind fun t1089 => (sashref08_Gives.j0 k a1 (!t1089) a0_0 a0_1 a0_2 a0_3 a0_4 a0_5 l0_6)))) = some r := h
 clear h
 have HC3 := Aside0.mk H
 clear H
 go_enter Try.func95, Try.ntmps95
 go_upto_region 1 with (((with_reducible refine gate_dst (N := 2) rfl ?_); refine box_event ?hg (N := 2) ?hd (cs := #[.int .u8 a0_0, .int .i64 a0_1, .int .i64 a0_2, .int .i64 a0_3, .int .i64 a0_4, .int .i64 a0_5, .slice A0_6 l0_6.length c0_6]) (t := 26) ?hr ?_; (case hd => rfl); (case hg => rfl); (case hr => (go_simp; done)); intro gb1088 hg w4 hbox hb; have BK1088 := Aside0.mk (hbox); replace HB := Aside0.mk (below_step (by repeat ((with_reducible exact HB.out))) hb); clear hb hbox hg))
 (skip)
 go_cut [15] (fun v15 wc => ∃ (kq : Nat) (x15_2 : Bool), v15 = .bool x15_2 ∧ Aside0 (sashref08_Gives.j0 kq a1 x15_2 a0_0 a0_1 a0_2 a0_3 a0_4 a0_5 l0_6 = some r) ∧ Aside0 (kq ≤ k) ∧ Aside0 (wc.heap[gb1088]? = some (.cells #[.int .u8 a0_0, .int .i64 a0_1, .int .i64 a0_2, .int .i64 a0_3, .int .i64 a0_4, .int .i64 a0_5, (.slice A0_6 l0_6.length c0_6)] 26 (0, 0))) ∧ Aside0 (Below w.heap.size w wc))
 case first =>
  have H := HC3.out
  clear HC3
  by_cases c5 : a1 < 1
  ·rw [if_pos c5] at H
   have c5b0 : decide (a1 < 1) = true := decide_eq_true c5
   clear c5
   (skip)
   have H' := Aside0.mk H
   clear H
   go_wp2
   go_meet
   case rel => exact ⟨_, (true), (by rfl), H', ⟨by omega⟩, ⟨by exact BK1088.out⟩, ⟨by repeat ((with_reducible exact HB.out))⟩⟩
  ·rw [if_neg c5] at H
   have c5b0 : decide (a1 < 1) = false := decide_eq_false c5
   clear c5
   (skip)
   by_cases c6 : a1 > 2
   ·rw [if_pos c6] at H
    have c6b0 : decide (2 < a1) = true := decide_eq_true c6
    clear c6
    have H' := Aside0.mk H
    clear H
    go_wp2
    go_meet
    case rel => exact ⟨_, (true), (by rfl), H', ⟨by omega⟩, ⟨by exact BK1088.out⟩, ⟨by repeat ((with_reducible exact HB.out))⟩⟩
   ·rw [if_neg c6] at H
    have c6b0 : decide (2 < a1) = false := decide_eq_false c6
    clear c6
    replace H := Option.bind_eq_some_iff.mp H
    obtain ⟨t1089, A70, H⟩ := H
    replace H : (sashref08_Gives.j0 k a1 (!t1089) a0_0 a0_1 a0_2 a0_3 a0_4 a0_5 l0_6) = some r := H
    have A7 := Aside0.mk A70
    clear A70
    have H' := Aside0.mk H
    clear H
    have hcz8_0 : w4.cell? ⟨gb1088, 0, none⟩ = some (.int .u8 a0_0) := (blk_cell BK1088.out 0).trans rfl
    have hcz8_1 : w4.cell? ⟨gb1088, 1, none⟩ = some (.int .i64 a0_1) := (blk_cell BK1088.out 1).trans rfl
    have hcz8_2 : w4.cell? ⟨gb1088, 2, none⟩ = some (.int .i64 a0_2) := (blk_cell BK1088.out 2).trans rfl
    have hcz8_3 : w4.cell? ⟨gb1088, 3, none⟩ = some (.int .i64 a0_3) := (blk_cell BK1088.out 3).trans rfl
    have hcz8_4 : w4.cell? ⟨gb1088, 4, none⟩ = some (.int .i64 a0_4) := (blk_cell BK1088.out 4).trans rfl
    have hcz8_5 : w4.cell? ⟨gb1088, 5, none⟩ = some (.int .i64 a0_5) := (blk_cell BK1088.out 5).trans rfl
    have hcz8_6 : w4.cell? ⟨gb1088, 6, none⟩ = some (.slice A0_6 l0_6.length c0_6) := (blk_cell BK1088.out 6).trans rfl
    have hfz8_0 := blk_frozen BK1088.out 0
    have hfz8_1 := blk_frozen BK1088.out 1
    have hfz8_2 := blk_frozen BK1088.out 2
    have hfz8_3 := blk_frozen BK1088.out 3
    have hfz8_4 := blk_frozen BK1088.out 4
    have hfz8_5 := blk_frozen BK1088.out 5
    have hfz8_6 := blk_frozen BK1088.out 6
    go_wp2_with ((go_at_call 84; (with_reducible refine (sashref06_Tiles.calls k a0_0 a0_1 a0_2 a0_3 a0_4 a0_5 _ _ l0_6 t1089 _ ?side1 ?side2 A7.out).mono ?_); (case side1 => repeat (exact (Kd.C_below HR0_6.out HB.out))); (case side2 => exact HC0_6.out); rintro e w9 ⟨rfl, hb⟩; replace BK1088 := Aside0.mk (blk_below BK1088.out hb); replace HB := Aside0.mk (below_step (by repeat ((with_reducible exact HB.out))) hb); (try clear hb)))
    go_meet
    case rel => exact ⟨_, (!t1089), (by rfl), H', ⟨by omega⟩, ⟨by exact BK1088.out⟩, ⟨by repeat ((with_reducible exact HB.out))⟩⟩
 case rest =>
  clear HC3
  obtain ⟨kq, x15_2, rfl, HA, HJ2, BK1088, HB⟩ := hcut
  cases kq with
  | zero => exact absurd HA.out (by simp [sashref08_Gives.j0])
  | succ kj2 =>
   have H := HA.out
   clear HA
   simp only [sashref08_Gives.j0] at H
   by_cases c10 : x15_2 = true
   ·subst c10
    have H1 : (some 0) = some r := by rw [if_pos rfl] at H; exact H
    clear H
    have H := H1
    clear H1
    obtain rfl := Option.some.inj H
    go_wp2
    go_ret
    exact ⟨by rfl, by repeat ((with_reducible exact HB.out))⟩
   ·replace c10 := Bool.eq_false_iff.mpr c10
    subst c10
    have H1 : ((sashref08_Size.f a0_1 a0_2 a0_3 a0_4 a1).bind fun t1090 => ((sashref08_Of.f kj2 a0_0 a0_1 a0_2 a0_3 a0_4 a0_5 l0_6 a1).bind fun t1091 => (some (wrap64 (t1090 - t1091))))) = some r := by rw [if_neg (show ¬ (false = true) by decide)] at H; exact H
    clear H
    have H := H1
    clear H1
    replace H := Option.bind_eq_some_iff.mp H
    obtain ⟨t1090, A110, H⟩ := H
    replace H : ((sashref08_Of.f kj2 a0_0 a0_1 a0_2 a0_3 a0_4 a0_5 l0_6 a1).bind fun t1091 => (some (wrap64 (t1090 - t1091)))) = some r := H
    have A11 := Aside0.mk A110
    clear A110
    replace H := Option.bind_eq_some_iff.mp H
    obtain ⟨t1091, A120, H⟩ := H
    replace H : (some (wrap64 (t1090 - t1091))) = some r := H
    have A12 := Aside0.mk A120
    clear A120
    obtain rfl := Option.some.inj H
    try go_wp2
    replace BK1088 := Aside0.mk (blk_drew BK1088.out); replace HB := Aside0.mk (below_drew1 HB.out)
    refine start_ (n := 9) (S := fun w' => w'.cell? ⟨gb1088, 0, none⟩ = some (.int .u8 a0_0) ∧ w'.cell? ⟨gb1088, 1, none⟩ = some (.int .i64 a0_1) ∧ w'.cell? ⟨gb1088, 2, none⟩ = some (.int .i64 a0_2) ∧ w'.cell? ⟨gb1088, 3, none⟩ = some (.int .i64 a0_3) ∧ w'.cell? ⟨gb1088, 4, none⟩ = some (.int .i64 a0_4) ∧ w'.cell? ⟨gb1088, 5, none⟩ = some (.int .i64 a0_5) ∧ w'.cell? ⟨gb1088, 6, none⟩ = some (.slice A0_6 l0_6.length c0_6)) (ds := []) #[false, false, false, false, false, false, false, false, false] (by kernel_rfl) rfl rfl ⟨(blk_cell BK1088.out 0).trans rfl, (blk_cell BK1088.out 1).trans rfl, (blk_cell BK1088.out 2).trans rfl, (blk_cell BK1088.out 3).trans rfl, (blk_cell BK1088.out 4).trans rfl, (blk_cell BK1088.out 5).trans rfl, (blk_cell BK1088.out 6).trans rfl⟩ (fun hHeld => ?_); refine with_tabW sashref08_Gives.tab3 sashref08_Gives.bits3 (fun HT_ HW_ => ?_)
    generalize wc.drew = w13 at BK1088 HB hHeld ⊢
    refine pure_ (i := 0) (N := some 16) (v := ?_) (a' := ?_) #[true, false, false, false, false, false, false, false, false] rfl rfl (any_of HT_.out (by kernel_rfl)) (fun _ _ _ h => h) (Or.inl ⟨by rfl, ?_⟩) ?_ ?_
    rotate_left
    ·intro w'
     go_simp
     with_reducible rfl
    rotate_left
    ·simp only [Act.put, List.setIfInBounds_toArray, List.set_cons_zero, List.set_cons_succ, i64_w, i32_w]
     rfl
    refine pure_ (i := 2) (N := some 18) (v := ?_) (a' := ?_) #[true, false, true, false, false, false, false, false, false] rfl rfl (any_of HT_.out (by kernel_rfl)) (fun _ _ _ h => h) (Or.inl ⟨by rfl, ?_⟩) ?_ ?_
    rotate_left
    ·intro w'
     go_simp
     with_reducible rfl
    rotate_left
    ·simp only [Act.put, List.setIfInBounds_toArray, List.set_cons_zero, List.set_cons_succ, i64_w, i32_w]
     rfl
    refine pure_ (i := 5) (N := some 21) (v := ?_) (a' := ?_) #[true, false, true, false, false, true, false, false, false] rfl rfl (any_of HT_.out (by kernel_rfl)) (fun _ _ _ h => h) (Or.inl ⟨by rfl, ?_⟩) ?_ ?_
    rotate_left
    ·intro w'
     go_simp
     with_reducible rfl
    rotate_left
    ·simp only [Act.put, List.setIfInBounds_toArray, List.set_cons_zero, List.set_cons_succ, i64_w, i32_w]
     rfl
    refine take_ (i := 1) (N := some 17) (v := ?_) (a' := ?_) #[true, true, true, false, false, true, false, false, false] rfl rfl (take_ofW HT_.out HW_.out (by kernel_rfl)) (fun _ _ _ h => h) (Or.inl ⟨by rfl, ?_⟩) hHeld ?_ ?_
    rotate_left
    ·rintro w' ⟨s0, s1, s2, s3, s4, s5, s6⟩
     go_simp
     with_reducible rfl
    rotate_left
    ·simp only [Act.put, List.setIfInBounds_toArray, List.set_cons_zero, List.set_cons_succ, i64_w, i32_w]
     rfl
    refine take_ (i := 4) (N := some 20) (v := ?_) (a' := ?_) #[true, true, true, false, true, true, false, false, false] rfl rfl (take_ofW HT_.out HW_.out (by kernel_rfl)) (fun _ _ _ h => h) (Or.inl ⟨by rfl, ?_⟩) hHeld ?_ ?_
    rotate_left
    ·rintro w' ⟨s0, s1, s2, s3, s4, s5, s6⟩
     go_simp
     with_reducible rfl
    rotate_left
    ·simp only [Act.put, List.setIfInBounds_toArray, List.set_cons_zero, List.set_cons_succ, i64_w, i32_w]
     rfl
    refine one_ (i := 3) (N := some 19) #[true, true, true, true, true, true, false, false, false] rfl rfl (one_of HT_.out (by kernel_rfl)) (by decide) (fun K hK => ?_)
    refine goes_ Try.func87 (by kernel_rfl) rfl #[.agg #[.int .i64 a0_1, .int .i64 a0_2, .int .i64 a0_3, .int .i64 a0_4], .int .u8 a1] (by rfl) rfl rfl (by (try simp only [List.map_toArray, List.map_cons, List.map_nil]); rfl) ?_
    with_reducible refine (sashref08_Size.calls a0_1 a0_2 a0_3 a0_4 a1 t1090 _ A11.out).mono ?_
    rintro e w14 ⟨rfl, hb⟩
    refine ⟨_, rfl, ?_⟩
    replace BK1088 := Aside0.mk (blk_below BK1088.out hb); replace HB := Aside0.mk (below_step (by repeat ((with_reducible exact HB.out))) hb)
    (try clear hb)
    (skip)
    (skip)
    (skip)
    refine hK.out _ _ ⟨(blk_cell BK1088.out 0).trans rfl, (blk_cell BK1088.out 1).trans rfl, (blk_cell BK1088.out 2).trans rfl, (blk_cell BK1088.out 3).trans rfl, (blk_cell BK1088.out 4).trans rfl, (blk_cell BK1088.out 5).trans rfl, (blk_cell BK1088.out 6).trans rfl⟩ (fun hHeld => ?_)
    clear hK K
    refine norm_ (a' := ?_) ?_ ?_
    rotate_left
    ·show Act.put _ (some 19) _ = _
     simp only [Act.put, List.setIfInBounds_toArray, List.set_cons_zero, List.set_cons_succ, i64_w, i32_w]
     rfl
    refine one_ (i := 6) (N := some 22) #[true, true, true, true, true, true, true, false, false] rfl rfl (one_of HT_.out (by kernel_rfl)) (by decide) (fun K hK => ?_)
    refine goes_ Try.func152 (by kernel_rfl) rfl #[.agg #[.int .u8 a0_0, .int .i64 a0_1, .int .i64 a0_2, .int .i64 a0_3, .int .i64 a0_4, .int .i64 a0_5, .slice A0_6 l0_6.length c0_6], .int .u8 a1] (by rfl) rfl rfl (by (try simp only [List.map_toArray, List.map_cons, List.map_nil]); rfl) ?_
    with_reducible refine (sashref08_Of.calls kj2 a0_0 a0_1 a0_2 a0_3 a0_4 a0_5 _ _ l0_6 a1 t1091 _ ?side1 ?side2 A12.out).mono ?_
    (case side1 => repeat (exact (Kd.C_below HR0_6.out HB.out)))
    (case side2 => exact HC0_6.out)
    rintro e w15 ⟨rfl, hb⟩
    refine ⟨_, rfl, ?_⟩
    replace BK1088 := Aside0.mk (blk_below BK1088.out hb); replace HB := Aside0.mk (below_step (by repeat ((with_reducible exact HB.out))) hb)
    (try clear hb)
    (skip)
    (skip)
    (skip)
    refine hK.out _ _ ⟨(blk_cell BK1088.out 0).trans rfl, (blk_cell BK1088.out 1).trans rfl, (blk_cell BK1088.out 2).trans rfl, (blk_cell BK1088.out 3).trans rfl, (blk_cell BK1088.out 4).trans rfl, (blk_cell BK1088.out 5).trans rfl, (blk_cell BK1088.out 6).trans rfl⟩ (fun hHeld => ?_)
    clear hK K
    refine norm_ (a' := ?_) ?_ ?_
    rotate_left
    ·show Act.put _ (some 22) _ = _
     simp only [Act.put, List.setIfInBounds_toArray, List.set_cons_zero, List.set_cons_succ, i64_w, i32_w]
     rfl
    refine pure_ (i := 7) (N := some 23) (v := ?_) (a' := ?_) #[true, true, true, true, true, true, true, true, false] rfl rfl (any_of HT_.out (by kernel_rfl)) (fun _ _ _ h => h) (Or.inl ⟨by rfl, ?_⟩) ?_ ?_
    rotate_left
    ·intro w'
     go_simp
     with_reducible rfl
    rotate_left
    ·simp only [Act.put, List.setIfInBounds_toArray, List.set_cons_zero, List.set_cons_succ, i64_w, i32_w]
     rfl
    refine pure_ (i := 8) (N := some 4) (v := ?_) (a' := ?_) #[true, true, true, true, true, true, true, true, true] rfl rfl (any_of HT_.out (by kernel_rfl)) (fun _ _ _ h => h) (Or.inl ⟨by rfl, ?_⟩) ?_ ?_
    rotate_left
    ·intro w'
     go_simp
     with_reducible rfl
    rotate_left
    ·simp only [Act.put, List.setIfInBounds_toArray, List.set_cons_zero, List.set_cons_succ, i64_w, i32_w]
     rfl
    refine done_ (done_of HT_.out (by kernel_rfl)) ?_
    try go_wp2
    go_ret
    exact ⟨by rfl, by repeat ((with_reducible exact HB.out))⟩

end Go.Proofs.Ytfdmfgaiblfbhaa.P
namespace Go.Proofs.Ytfdmfgaiblfbhaa.P
open Go.RowKit Go.Proofs.YtfdmfgaiblfbhaaW.PrintWords Go.Proofs.YtfdmfgaiblfbhaaW.PrintLast Go.Proofs.YtfdmfgaiblfbhaaW.PrintMore
attribute [local go_sem] max2_int min2_int max_two min_two max_three min_three max_four min_four   -- for this text's walks alone
set_option linter.unusedVariables false
set_option linter.unusedSimpArgs false

/-! ### least_Fits: function 96 -/
def least_Fits.f (k : Nat) (a0_0 : Int) (a0_1 : Int) (a0_2 : Int) (a0_3 : Int) (a0_4 : Int) (a0_5 : Int) (l0_6 : List (S26)) (a1 : Int) (a2 : Int) : Option (Bool) := (cell_May.f (([(⟨a0_0, (⟨a0_1, a0_2, a0_3, a0_4⟩ : S23), a0_5, l0_6⟩ : S26)] : List (S26)))).bind fun t1105 => (if t1105 = true then ((least_least.f k a0_0 a0_1 a0_2 a0_3 a0_4 a0_5 l0_6 1).bind fun t1106 => (if a1 ≥ t1106 then ((least_least.f k a0_0 a0_1 a0_2 a0_3 a0_4 a0_5 l0_6 2).bind fun t1107 => (if a2 ≥ t1107 then (if a1 ≤ (wrap64 (10000 - a0_1)) then (some (decide (a2 ≤ (wrap64 (10000 - a0_2))))) else (some false)) else (some false))) else (some false))) else (some false))
set_option maxHeartbeats 8000000 in
set_option maxRecDepth 100000 in
theorem least_Fits.calls (k : Nat) (a0_0 : Int) (a0_1 : Int) (a0_2 : Int) (a0_3 : Int) (a0_4 : Int) (a0_5 : Int) (P0_6_ : Nat → Prop) (A0_6 : Option Addr) (c0_6 : Nat) (l0_6 : List (S26)) (a1 : Int) (a2 : Int) (r : Bool) (w : World) (hs0_6 : Kd.V k26 26 w w.heap.size (fun k_ => P0_6_ k_) (.slice A0_6 l0_6.length c0_6) l0_6) (h : least_Fits.f k a0_0 a0_1 a0_2 a0_3 a0_4 a0_5 l0_6 a1 a2 = some r) :
  Calls Try.prog 96 #[.agg #[.int .u8 a0_0, .int .i64 a0_1, .int .i64 a0_2, .int .i64 a0_3, .int .i64 a0_4, .int .i64 a0_5, .slice A0_6 l0_6.length c0_6], .int .i64 a1, .int .i64 a2] w fun e w' => e = .returned (.bool r) ∧ Below w.heap.size w w' := by
 have hu26 := Try.underlying26
 have HO0_6 := Aside0.mk (show Kd.V k26 26 w w.heap.size (fun k_ => (P0_6_ k_ ∨ w.heap.size ≤ k_)) (.slice A0_6 l0_6.length c0_6) l0_6 from Kd.V_mono hs0_6 (fun k_ hk => .inl hk))
 have HB := Aside0.mk (Below.refl w.heap.size w)
 have H : ((cell_May.f (([(⟨a0_0, (⟨a0_1, a0_2, a0_3, a0_4⟩ : S23), a0_5, l0_6⟩ : S26)] : List (S26)))).bind fun t1105 => (if t1105 = true then ((least_least.f k a0_0 a0_1 a0_2 a0_3 a0_4 a0_5 l0_6 1).bind fun t1106 => (if a1 ≥ t1106 then ((least_least.f k a0_0 a0_1 a0_2 a0_3 a0_4 a0_5 l0_6 2).bind fun t1107 => (if a2 ≥ t1107 then (if a1 ≤ (wrap64 (10000 - a0_1)) then (some (decide (a2 ≤ (wrap64 (10000 - a0_2))))) else (some false)) else (some false))) else (some false))) else (some false))) = some r := h
 clear h
 obtain ⟨y1102, hy1102⟩ : ∃ y_ : List (S26), y_ = (([(⟨a0_0, (⟨a0_1, a0_2, a0_3, a0_4⟩ : S23), a0_5, l0_6⟩ : S26)] : List (S26))) := ⟨_, rfl⟩
 replace H : ((cell_May.f y1102).bind fun t1105 => (if t1105 = true then ((least_least.f k a0_0 a0_1 a0_2 a0_3 a0_4 a0_5 l0_6 1).bind fun t1106 => (if a1 ≥ t1106 then ((least_least.f k a0_0 a0_1 a0_2 a0_3 a0_4 a0_5 l0_6 2).bind fun t1107 => (if a2 ≥ t1107 then (if a1 ≤ (wrap64 (10000 - a0_1)) then (some (decide (a2 ≤ (wrap64 (10000 - a0_2))))) else (some false)) else (some false))) else (some false))) else (some false))) = some r := by (rw [hy1102]; with_reducible exact H)
 have Ny1102 := Aside0.mk hy1102
 clear hy1102
 replace H := Option.bind_eq_some_iff.mp H
 obtain ⟨t1105, A40, H⟩ := H
 replace H : (if t1105 = true then ((least_least.f k a0_0 a0_1 a0_2 a0_3 a0_4 a0_5 l0_6 1).bind fun t1106 => (if a1 ≥ t1106 then ((least_least.f k a0_0 a0_1 a0_2 a0_3 a0_4 a0_5 l0_6 2).bind fun t1107 => (if a2 ≥ t1107 then (if a1 ≤ (wrap64 (10000 - a0_1)) then (some (decide (a2 ≤ (wrap64 (10000 - a0_2))))) else (some false)) else (some false))) else (some false))) else (some false)) = some r := H
 have A4 := Aside0.mk A40
 clear A40
 by_cases c5 : t1105 = true
 ·subst c5
  have H1 : ((least_least.f k a0_0 a0_1 a0_2 a0_3 a0_4 a0_5 l0_6 1).bind fun t1106 => (if a1 ≥ t1106 then ((least_least.f k a0_0 a0_1 a0_2 a0_3 a0_4 a0_5 l0_6 2).bind fun t1107 => (if a2 ≥ t1107 then (if a1 ≤ (wrap64 (10000 - a0_1)) then (some (decide (a2 ≤ (wrap64 (10000 - a0_2))))) else (some false)) else (some false))) else (some false))) = some r := by rw [if_pos rfl] at H; exact H
  clear H
  have H := H1
  clear H1
  replace H := Option.bind_eq_some_iff.mp H
  obtain ⟨t1106, A60, H⟩ := H
  replace H : (if a1 ≥ t1106 then ((least_least.f k a0_0 a0_1 a0_2 a0_3 a0_4 a0_5 l0_6 2).bind fun t1107 => (if a2 ≥ t1107 then (if a1 ≤ (wrap64 (10000 - a0_1)) then (some (decide (a2 ≤ (wrap64 (10000 - a0_2))))) else (some false)) else (some false))) else (some false)) = some r := H
  have A6 := Aside0.mk A60
  clear A60
  by_cases c7 : a1 ≥ t1106
  ·rw [if_pos c7] at H
   have c7b0 : decide (t1106 ≤ a1) = true := decide_eq_true c7
   clear c7
   replace H := Option.bind_eq_some_iff.mp H
   obtain ⟨t1107, A80, H⟩ := H
   replace H : (if a2 ≥ t1107 then (if a1 ≤ (wrap64 (10000 - a0_1)) then (some (decide (a2 ≤ (wrap64 (10000 - a0_2))))) else (some false)) else (some false)) = some r := H
   have A8 := Aside0.mk A80
   clear A80
   by_cases c9 : a2 ≥ t1107
   ·rw [if_pos c9] at H
    have c9b0 : decide (t1107 ≤ a2) = true := decide_eq_true c9
    clear c9
    by_cases c10 : a1 ≤ (wrap64 (10000 - a0_1))
    ·rw [if_pos c10] at H
     have c10b0 : decide (a1 ≤ (wrap64 (10000 - a0_1))) = true := decide_eq_true c10
     clear c10
     obtain rfl := Option.some.inj H
     go_enter Try.func96, Try.ntmps96
     go_wp2_with (first | ((with_reducible refine gate_dst (N := 3) rfl ?_); refine box_event ?hg (N := 3) ?hd (cs := #[.int .u8 a0_0, .int .i64 a0_1, .int .i64 a0_2, .int .i64 a0_3, .int .i64 a0_4, .int .i64 a0_5, .slice A0_6 l0_6.length c0_6]) (t := 26) ?hr ?_; (case hd => rfl); (case hg => rfl); (case hr => (go_simp; done)); intro gb1101 hg w11 hbox hb; have BK1101 := Aside0.mk (hbox); replace HO0_6 := Aside0.mk (Kd.V_below (Kd.V_elderB HO0_6.out gb1101 (Nat.le_of_eq hg.symm)) hb); replace HB := Aside0.mk (below_step (by repeat ((with_reducible exact HB.out))) hb); clear hb hbox hg; have hcz12_0 : w11.cell? ⟨gb1101, 0, none⟩ = some (.int .u8 a0_0) := (blk_cell BK1101.out 0).trans rfl; have hcz12_1 : w11.cell? ⟨gb1101, 1, none⟩ = some (.int .i64 a0_1) := (blk_cell BK1101.out 1).trans rfl; have hcz12_2 : w11.cell? ⟨gb1101, 2, none⟩ = some (.int .i64 a0_2) := (blk_cell BK1101.out 2).trans rfl; have hcz12_3 : w11.cell? ⟨gb1101, 3, none⟩ = some (.int .i64 a0_3) := (blk_cell BK1101.out 3).trans rfl; have hcz12_4 : w11.cell? ⟨gb1101, 4, none⟩ = some (.int .i64 a0_4) := (blk_cell BK1101.out 4).trans rfl; have hcz12_5 : w11.cell? ⟨gb1101, 5, none⟩ = some (.int .i64 a0_5) := (blk_cell BK1101.out 5).trans rfl; have hcz12_6 : w11.cell? ⟨gb1101, 6, none⟩ = some (.slice A0_6 l0_6.length c0_6) := (blk_cell BK1101.out 6).trans rfl; have hfz12_0 := blk_frozen BK1101.out 0; have hfz12_1 := blk_frozen BK1101.out 1; have hfz12_2 := blk_frozen BK1101.out 2; have hfz12_3 := blk_frozen BK1101.out 3; have hfz12_4 := blk_frozen BK1101.out 4; have hfz12_5 := blk_frozen BK1101.out 5; have hfz12_6 := blk_frozen BK1101.out 6) | ((with_reducible refine gate_dst (N := 8) rfl ?_); refine Kd.N_lit k26 _ 26 ?hg (N' := 8) ?hd (xs := ([(⟨a0_0, (⟨a0_1, a0_2, a0_3, a0_4⟩ : S23), a0_5, l0_6⟩ : S26)] : List (S26))) (inner := [.int .u8 a0_0, .int .i64 a0_1, .int .i64 a0_2, .int .i64 a0_3, .int .i64 a0_4, .int .i64 a0_5, .slice A0_6 l0_6.length c0_6]) (ok := (fun k_ => (P0_6_ k_ ∨ w.heap.size ≤ k_) ∧ k_ ≠ gb1101)) (okp := (fun k_ => (P0_6_ k_ ∨ w.heap.size ≤ k_) ∧ k_ ≠ gb1101)) ?hr ?hp (fun _ hk => hk) ((show ∀ k_, w11.heap.size ≤ k_ → (fun k_ => (P0_6_ k_ ∨ w.heap.size ≤ k_) ∧ k_ ≠ gb1101) k_ from fun k_ hk => ⟨(.inr (Nat.le_trans (below_size (by repeat ((with_reducible exact HB.out)))) hk)), Kd.freshB BK1101.out k_ hk⟩) _ (Nat.le_refl _)) (Below.refl _ _) (Nat.le_refl _) (by simp) ?_; (case hd => rfl); (case hg => rfl); (case hr => (go_simp; done)); (case hp => exact (Reps.c7 (show Kd.FK k26 _ _ (⟨a0_0, (⟨a0_1, a0_2, a0_3, a0_4⟩ : S23), a0_5, l0_6⟩ : S26) [.int .u8 a0_0, .int .i64 a0_1, .int .i64 a0_2, .int .i64 a0_3, .int .i64 a0_4, .int .i64 a0_5, .slice A0_6 l0_6.length c0_6] from (k26_mkF _ _ (⟨a0_0, (⟨a0_1, a0_2, a0_3, a0_4⟩ : S23), a0_5, l0_6⟩ : S26) (Kd.V_reads' (Kd.V_mono (ok' := (fun k_ => (P0_6_ k_ ∨ w.heap.size ≤ k_) ∧ k_ ≠ gb1101)) (HO0_6.out) (fun k_ hk => ⟨hk.1, hk.2⟩))).2.1 (Kd.V_F (Kd.V_mono (ok' := (fun k_ => (P0_6_ k_ ∨ w.heap.size ≤ k_) ∧ k_ ≠ gb1101)) (HO0_6.out) (fun k_ hk => ⟨hk.1, hk.2⟩))))) (Reps.none _ _))); intro v1103 w13 ho14 hb hg_ hnew_; clear hg_ hnew_; (rw [← Ny1102.out] at ho14); have HO1104 := Aside0.mk (Kd.N_lower ho14 (below_size (by repeat ((with_reducible exact HB.out))))); replace HO0_6 := Aside0.mk (Kd.V_elder' HO0_6.out (Kd.N_base ho14) hb); replace BK1101 := Aside0.mk (blk_below BK1101.out hb); replace HB := Aside0.mk (below_step (by repeat ((with_reducible exact HB.out))) hb); clear hb ho14; obtain ⟨Ao15, co15, eo15⟩ := Kd.N_slice HO1104.out; subst eo15) | ((with_reducible refine gate_callee (f := 76) rfl ?_); refine goesL_ (some 9) rfl rfl Try.func76 (by kernel_rfl) rfl #[.slice Ao15 y1102.length co15] rfl (by (try simp only [List.map_toArray, List.map_cons, List.map_nil]); rfl) ?_; (with_reducible refine (cell_May.calls _ _ y1102 true _ ?side1 ?side2 A4.out).mono ?_); (case side1 => repeat (exact (Kd.N_reads' HO1104.out).2.2)); (case side2 => exact (Kd.N_reads' HO1104.out).2.1); rintro e w16 ⟨rfl, hb⟩; refine ⟨_, rfl, ?_⟩; replace HO0_6 := Aside0.mk (Kd.V_below HO0_6.out hb); replace HO1104 := Aside0.mk (Kd.N_below HO1104.out hb); replace BK1101 := Aside0.mk (blk_below BK1101.out hb); replace HB := Aside0.mk (below_step (by repeat ((with_reducible exact HB.out))) hb); (try clear hb); have hcz17_0 : w16.cell? ⟨gb1101, 0, none⟩ = some (.int .u8 a0_0) := (blk_cell BK1101.out 0).trans rfl; have hcz17_1 : w16.cell? ⟨gb1101, 1, none⟩ = some (.int .i64 a0_1) := (blk_cell BK1101.out 1).trans rfl; have hcz17_2 : w16.cell? ⟨gb1101, 2, none⟩ = some (.int .i64 a0_2) := (blk_cell BK1101.out 2).trans rfl; have hcz17_3 : w16.cell? ⟨gb1101, 3, none⟩ = some (.int .i64 a0_3) := (blk_cell BK1101.out 3).trans rfl; have hcz17_4 : w16.cell? ⟨gb1101, 4, none⟩ = some (.int .i64 a0_4) := (blk_cell BK1101.out 4).trans rfl; have hcz17_5 : w16.cell? ⟨gb1101, 5, none⟩ = some (.int .i64 a0_5) := (blk_cell BK1101.out 5).trans rfl; have hcz17_6 : w16.cell? ⟨gb1101, 6, none⟩ = some (.slice A0_6 l0_6.length c0_6) := (blk_cell BK1101.out 6).trans rfl; have hfz17_0 := blk_frozen BK1101.out 0; have hfz17_1 := blk_frozen BK1101.out 1; have hfz17_2 := blk_frozen BK1101.out 2; have hfz17_3 := blk_frozen BK1101.out 3; have hfz17_4 := blk_frozen BK1101.out 4; have hfz17_5 := blk_frozen BK1101.out 5; have hfz17_6 := blk_frozen BK1101.out 6) | (go_at_call 149; (with_reducible refine (least_least.calls k a0_0 a0_1 a0_2 a0_3 a0_4 a0_5 _ _ l0_6 1 t1106 _ ?side1 ?side2 A6.out).mono ?_); (case side1 => repeat (exact (Kd.V_reads' HO0_6.out).2.2)); (case side2 => exact (Kd.V_reads' HO0_6.out).2.1); rintro e w18 ⟨rfl, hb⟩; replace HO0_6 := Aside0.mk (Kd.V_below HO0_6.out hb); replace HO1104 := Aside0.mk (Kd.N_below HO1104.out hb); replace BK1101 := Aside0.mk (blk_below BK1101.out hb); replace HB := Aside0.mk (below_step (by repeat ((with_reducible exact HB.out))) hb); (try clear hb); have hcz19_0 : w18.cell? ⟨gb1101, 0, none⟩ = some (.int .u8 a0_0) := (blk_cell BK1101.out 0).trans rfl; have hcz19_1 : w18.cell? ⟨gb1101, 1, none⟩ = some (.int .i64 a0_1) := (blk_cell BK1101.out 1).trans rfl; have hcz19_2 : w18.cell? ⟨gb1101, 2, none⟩ = some (.int .i64 a0_2) := (blk_cell BK1101.out 2).trans rfl; have hcz19_3 : w18.cell? ⟨gb1101, 3, none⟩ = some (.int .i64 a0_3) := (blk_cell BK1101.out 3).trans rfl; have hcz19_4 : w18.cell? ⟨gb1101, 4, none⟩ = some (.int .i64 a0_4) := (blk_cell BK1101.out 4).trans rfl; have hcz19_5 : w18.cell? ⟨gb1101, 5, none⟩ = some (.int .i64 a0_5) := (blk_cell BK1101.out 5).trans rfl; have hcz19_6 : w18.cell? ⟨gb1101, 6, none⟩ = some (.slice A0_6 l0_6.length c0_6) := (blk_cell BK1101.out 6).trans rfl; have hfz19_0 := blk_frozen BK1101.out 0; have hfz19_1 := blk_frozen BK1101.out 1; have hfz19_2 := blk_frozen BK1101.out 2; have hfz19_3 := blk_frozen BK1101.out 3; have hfz19_4 := blk_frozen BK1101.out 4; have hfz19_5 := blk_frozen BK1101.out 5; have hfz19_6 := blk_frozen BK1101.out 6) | (go_at_call 149; (with_reducible refine (least_least.calls k a0_0 a0_1 a0_2 a0_3 a0_4 a0_5 _ _ l0_6 2 t1107 _ ?side1 ?side2 A8.out).mono ?_); (case side1 => repeat (exact (Kd.V_reads' HO0_6.out).2.2)); (case side2 => exact (Kd.V_reads' HO0_6.out).2.1); rintro e w20 ⟨rfl, hb⟩; replace HO0_6 := Aside0.mk (Kd.V_below HO0_6.out hb); replace HO1104 := Aside0.mk (Kd.N_below HO1104.out hb); replace BK1101 := Aside0.mk (blk_below BK1101.out hb); replace HB := Aside0.mk (below_step (by repeat ((with_reducible exact HB.out))) hb); (try clear hb); have hcz21_0 : w20.cell? ⟨gb1101, 0, none⟩ = some (.int .u8 a0_0) := (blk_cell BK1101.out 0).trans rfl; have hcz21_1 : w20.cell? ⟨gb1101, 1, none⟩ = some (.int .i64 a0_1) := (blk_cell BK1101.out 1).trans rfl; have hcz21_2 : w20.cell? ⟨gb1101, 2, none⟩ = some (.int .i64 a0_2) := (blk_cell BK1101.out 2).trans rfl; have hcz21_3 : w20.cell? ⟨gb1101, 3, none⟩ = some (.int .i64 a0_3) := (blk_cell BK1101.out 3).trans rfl; have hcz21_4 : w20.cell? ⟨gb1101, 4, none⟩ = some (.int .i64 a0_4) := (blk_cell BK1101.out 4).trans rfl; have hcz21_5 : w20.cell? ⟨gb1101, 5, none⟩ = some (.int .i64 a0_5) := (blk_cell BK1101.out 5).trans rfl; have hcz21_6 : w20.cell? ⟨gb1101, 6, none⟩ = some (.slice A0_6 l0_6.length c0_6) := (blk_cell BK1101.out 6).trans rfl; have hfz21_0 := blk_frozen BK1101.out 0; have hfz21_1 := blk_frozen BK1101.out 1; have hfz21_2 := blk_frozen BK1101.out 2; have hfz21_3 := blk_frozen BK1101.out 3; have hfz21_4 := blk_frozen BK1101.out 4; have hfz21_5 := blk_frozen BK1101.out 5; have hfz21_6 := blk_frozen BK1101.out 6))
     go_ret
     exact ⟨by rfl, by repeat ((with_reducible exact HB.out))⟩
    ·rw [if_neg c10] at H
     have c10b0 : decide (a1 ≤ (wrap64 (10000 - a0_1))) = false := decide_eq_false c10
     clear c10
     obtain rfl := Option.some.inj H
     go_enter Try.func96, Try.ntmps96
     go_wp2_with (first | ((with_reducible refine gate_dst (N := 3) rfl ?_); refine box_event ?hg (N := 3) ?hd (cs := #[.int .u8 a0_0, .int .i64 a0_1, .int .i64 a0_2, .int .i64 a0_3, .int .i64 a0_4, .int .i64 a0_5, .slice A0_6 l0_6.length c0_6]) (t := 26) ?hr ?_; (case hd => rfl); (case hg => rfl); (case hr => (go_simp; done)); intro gb1101 hg w22 hbox hb; have BK1101 := Aside0.mk (hbox); replace HO0_6 := Aside0.mk (Kd.V_below (Kd.V_elderB HO0_6.out gb1101 (Nat.le_of_eq hg.symm)) hb); replace HB := Aside0.mk (below_step (by repeat ((with_reducible exact HB.out))) hb); clear hb hbox hg; have hcz23_0 : w22.cell? ⟨gb1101, 0, none⟩ = some (.int .u8 a0_0) := (blk_cell BK1101.out 0).trans rfl; have hcz23_1 : w22.cell? ⟨gb1101, 1, none⟩ = some (.int .i64 a0_1) := (blk_cell BK1101.out 1).trans rfl; have hcz23_2 : w22.cell? ⟨gb1101, 2, none⟩ = some (.int .i64 a0_2) := (blk_cell BK1101.out 2).trans rfl; have hcz23_3 : w22.cell? ⟨gb1101, 3, none⟩ = some (.int .i64 a0_3) := (blk_cell BK1101.out 3).trans rfl; have hcz23_4 : w22.cell? ⟨gb1101, 4, none⟩ = some (.int .i64 a0_4) := (blk_cell BK1101.out 4).trans rfl; have hcz23_5 : w22.cell? ⟨gb1101, 5, none⟩ = some (.int .i64 a0_5) := (blk_cell BK1101.out 5).trans rfl; have hcz23_6 : w22.cell? ⟨gb1101, 6, none⟩ = some (.slice A0_6 l0_6.length c0_6) := (blk_cell BK1101.out 6).trans rfl; have hfz23_0 := blk_frozen BK1101.out 0; have hfz23_1 := blk_frozen BK1101.out 1; have hfz23_2 := blk_frozen BK1101.out 2; have hfz23_3 := blk_frozen BK1101.out 3; have hfz23_4 := blk_frozen BK1101.out 4; have hfz23_5 := blk_frozen BK1101.out 5; have hfz23_6 := blk_frozen BK1101.out 6) | ((with_reducible refine gate_dst (N := 8) rfl ?_); refine Kd.N_lit k26 _ 26 ?hg (N' := 8) ?hd (xs := ([(⟨a0_0, (⟨a0_1, a0_2, a0_3, a0_4⟩ : S23), a0_5, l0_6⟩ : S26)] : List (S26))) (inner := [.int .u8 a0_0, .int .i64 a0_1, .int .i64 a0_2, .int .i64 a0_3, .int .i64 a0_4, .int .i64 a0_5, .slice A0_6 l0_6.length c0_6]) (ok := (fun k_ => (P0_6_ k_ ∨ w.heap.size ≤ k_) ∧ k_ ≠ gb1101)) (okp := (fun k_ => (P0_6_ k_ ∨ w.heap.size ≤ k_) ∧ k_ ≠ gb1101)) ?hr ?hp (fun _ hk => hk) ((show ∀ k_, w22.heap.size ≤ k_ → (fun k_ => (P0_6_ k_ ∨ w.heap.size ≤ k_) ∧ k_ ≠ gb1101) k_ from fun k_ hk => ⟨(.inr (Nat.le_trans (below_size (by repeat ((with_reducible exact HB.out)))) hk)), Kd.freshB BK1101.out k_ hk⟩) _ (Nat.le_refl _)) (Below.refl _ _) (Nat.le_refl _) (by simp) ?_; (case hd => rfl); (case hg => rfl); (case hr => (go_simp; done)); (case hp => exact (Reps.c7 (show Kd.FK k26 _ _ (⟨a0_0, (⟨a0_1, a0_2, a0_3, a0_4⟩ : S23), a0_5, l0_6⟩ : S26) [.int .u8 a0_0, .int .i64 a0_1, .int .i64 a0_2, .int .i64 a0_3, .int .i64 a0_4, .int .i64 a0_5, .slice A0_6 l0_6.length c0_6] from (k26_mkF _ _ (⟨a0_0, (⟨a0_1, a0_2, a0_3, a0_4⟩ : S23), a0_5, l0_6⟩ : S26) (Kd.V_reads' (Kd.V_mono (ok' := (fun k_ => (P0_6_ k_ ∨ w.heap.size ≤ k_) ∧ k_ ≠ gb1101)) (HO0_6.out) (fun k_ hk => ⟨hk.1, hk.2⟩))).2.1 (Kd.V_F (Kd.V_mono (ok' := (fun k_ => (P0_6_ k_ ∨ w.heap.size ≤ k_) ∧ k_ ≠ gb1101)) (HO0_6.out) (fun k_ hk => ⟨hk.1, hk.2⟩))))) (Reps.none _ _))); intro v1103 w24 ho25 hb hg_ hnew_; clear hg_ hnew_; (rw [← Ny1102.out] at ho25); have HO1104 := Aside0.mk (Kd.N_lower ho25 (below_size (by repeat ((with_reducible exact HB.out))))); replace HO0_6 := Aside0.mk (Kd.V_elder' HO0_6.out (Kd.N_base ho25) hb); replace BK1101 := Aside0.mk (blk_below BK1101.out hb); replace HB := Aside0.mk (below_step (by repeat ((with_reducible exact HB.out))) hb); clear hb ho25; obtain ⟨Ao26, co26, eo26⟩ := Kd.N_slice HO1104.out; subst eo26) | ((with_reducible refine gate_callee (f := 76) rfl ?_); refine goesL_ (some 9) rfl rfl Try.func76 (by kernel_rfl) rfl #[.slice Ao26 y1102.length co26] rfl (by (try simp only [List.map_toArray, List.map_cons, List.map_nil]); rfl) ?_; (with_reducible refine (cell_May.calls _ _ y1102 true _ ?side1 ?side2 A4.out).mono ?_); (case side1 => repeat (exact (Kd.N_reads' HO1104.out).2.2)); (case side2 => exact (Kd.N_reads' HO1104.out).2.1); rintro e w27 ⟨rfl, hb⟩; refine ⟨_, rfl, ?_⟩; replace HO0_6 := Aside0.mk (Kd.V_below HO0_6.out hb); replace HO1104 := Aside0.mk (Kd.N_below HO1104.out hb); replace BK1101 := Aside0.mk (blk_below BK1101.out hb); replace HB := Aside0.mk (below_step (by repeat ((with_reducible exact HB.out))) hb); (try clear hb); have hcz28_0 : w27.cell? ⟨gb1101, 0, none⟩ = some (.int .u8 a0_0) := (blk_cell BK1101.out 0).trans rfl; have hcz28_1 : w27.cell? ⟨gb1101, 1, none⟩ = some (.int .i64 a0_1) := (blk_cell BK1101.out 1).trans rfl; have hcz28_2 : w27.cell? ⟨gb1101, 2, none⟩ = some (.int .i64 a0_2) := (blk_cell BK1101.out 2).trans rfl; have hcz28_3 : w27.cell? ⟨gb1101, 3, none⟩ = some (.int .i64 a0_3) := (blk_cell BK1101.out 3).trans rfl; have hcz28_4 : w27.cell? ⟨gb1101, 4, none⟩ = some (.int .i64 a0_4) := (blk_cell BK1101.out 4).trans rfl; have hcz28_5 : w27.cell? ⟨gb1101, 5, none⟩ = some (.int .i64 a0_5) := (blk_cell BK1101.out 5).trans rfl; have hcz28_6 : w27.cell? ⟨gb1101, 6, none⟩ = some (.slice A0_6 l0_6.length c0_6) := (blk_cell BK1101.out 6).trans rfl; have hfz28_0 := blk_frozen BK1101.out 0; have hfz28_1 := blk_frozen BK1101.out 1; have hfz28_2 := blk_frozen BK1101.out 2; have hfz28_3 := blk_frozen BK1101.out 3; have hfz28_4 := blk_frozen BK1101.out 4; have hfz28_5 := blk_frozen BK1101.out 5; have hfz28_6 := blk_frozen BK1101.out 6) | (go_at_call 149; (with_reducible refine (least_least.calls k a0_0 a0_1 a0_2 a0_3 a0_4 a0_5 _ _ l0_6 1 t1106 _ ?side1 ?side2 A6.out).mono ?_); (case side1 => repeat (exact (Kd.V_reads' HO0_6.out).2.2)); (case side2 => exact (Kd.V_reads' HO0_6.out).2.1); rintro e w29 ⟨rfl, hb⟩; replace HO0_6 := Aside0.mk (Kd.V_below HO0_6.out hb); replace HO1104 := Aside0.mk (Kd.N_below HO1104.out hb); replace BK1101 := Aside0.mk (blk_below BK1101.out hb); replace HB := Aside0.mk (below_step (by repeat ((with_reducible exact HB.out))) hb); (try clear hb); have hcz30_0 : w29.cell? ⟨gb1101, 0, none⟩ = some (.int .u8 a0_0) := (blk_cell BK1101.out 0).trans rfl; have hcz30_1 : w29.cell? ⟨gb1101, 1, none⟩ = some (.int .i64 a0_1) := (blk_cell BK1101.out 1).trans rfl; have hcz30_2 : w29.cell? ⟨gb1101, 2, none⟩ = some (.int .i64 a0_2) := (blk_cell BK1101.out 2).trans rfl; have hcz30_3 : w29.cell? ⟨gb1101, 3, none⟩ = some (.int .i64 a0_3) := (blk_cell BK1101.out 3).trans rfl; have hcz30_4 : w29.cell? ⟨gb1101, 4, none⟩ = some (.int .i64 a0_4) := (blk_cell BK1101.out 4).trans rfl; have hcz30_5 : w29.cell? ⟨gb1101, 5, none⟩ = some (.int .i64 a0_5) := (blk_cell BK1101.out 5).trans rfl; have hcz30_6 : w29.cell? ⟨gb1101, 6, none⟩ = some (.slice A0_6 l0_6.length c0_6) := (blk_cell BK1101.out 6).trans rfl; have hfz30_0 := blk_frozen BK1101.out 0; have hfz30_1 := blk_frozen BK1101.out 1; have hfz30_2 := blk_frozen BK1101.out 2; have hfz30_3 := blk_frozen BK1101.out 3; have hfz30_4 := blk_frozen BK1101.out 4; have hfz30_5 := blk_frozen BK1101.out 5; have hfz30_6 := blk_frozen BK1101.out 6) | (go_at_call 149; (with_reducible refine (least_least.calls k a0_0 a0_1 a0_2 a0_3 a0_4 a0_5 _ _ l0_6 2 t1107 _ ?side1 ?side2 A8.out).mono ?_); (case side1 => repeat (exact (Kd.V_reads' HO0_6.out).2.2)); (case side2 => exact (Kd.V_reads' HO0_6.out).2.1); rintro e w31 ⟨rfl, hb⟩; replace HO0_6 := Aside0.mk (Kd.V_below HO0_6.out hb); replace HO1104 := Aside0.mk (Kd.N_below HO1104.out hb); replace BK1101 := Aside0.mk (blk_below BK1101.out hb); replace HB := Aside0.mk (below_step (by repeat ((with_reducible exact HB.out))) hb); (try clear hb); have hcz32_0 : w31.cell? ⟨gb1101, 0, none⟩ = some (.int .u8 a0_0) := (blk_cell BK1101.out 0).trans rfl; have hcz32_1 : w31.cell? ⟨gb1101, 1, none⟩ = some (.int .i64 a0_1) := (blk_cell BK1101.out 1).trans rfl; have hcz32_2 : w31.cell? ⟨gb1101, 2, none⟩ = some (.int .i64 a0_2) := (blk_cell BK1101.out 2).trans rfl; have hcz32_3 : w31.cell? ⟨gb1101, 3, none⟩ = some (.int .i64 a0_3) := (blk_cell BK1101.out 3).trans rfl; have hcz32_4 : w31.cell? ⟨gb1101, 4, none⟩ = some (.int .i64 a0_4) := (blk_cell BK1101.out 4).trans rfl; have hcz32_5 : w31.cell? ⟨gb1101, 5, none⟩ = some (.int .i64 a0_5) := (blk_cell BK1101.out 5).trans rfl; have hcz32_6 : w31.cell? ⟨gb1101, 6, none⟩ = some (.slice A0_6 l0_6.length c0_6) := (blk_cell BK1101.out 6).trans rfl; have hfz32_0 := blk_frozen BK1101.out 0; have hfz32_1 := blk_frozen BK1101.out 1; have hfz32_2 := blk_frozen BK1101.out 2; have hfz32_3 := blk_frozen BK1101.out 3; have hfz32_4 := blk_frozen BK1101.out 4; have hfz32_5 := blk_frozen BK1101.out 5; have hfz32_6 := blk_frozen BK1101.out 6))
     go_ret
     exact ⟨by rfl, by repeat ((with_reducible exact HB.out))⟩
   ·rw [if_neg c9] at H
    have c9b0 : decide (t1107 ≤ a2) = false := decide_eq_false c9
    clear c9
    obtain rfl := Option.some.inj H
    go_enter Try.func96, Try.ntmps96
    go_wp2_with (first | ((with_reducible refine gate_dst (N := 3) rfl ?_); refine box_event ?hg (N := 3) ?hd (cs := #[.int .u8 a0_0, .int .i64 a0_1, .int .i64 a0_2, .int .i64 a0_3, .int .i64 a0_4, .int .i64 a0_5, .slice A0_6 l0_6.length c0_6]) (t := 26) ?hr ?_; (case hd => rfl); (case hg => rfl); (case hr => (go_simp; done)); intro gb1101 hg w33 hbox hb; have BK1101 := Aside0.mk (hbox); replace HO0_6 := Aside0.mk (Kd.V_below (Kd.V_elderB HO0_6.out gb1101 (Nat.le_of_eq hg.symm)) hb); replace HB := Aside0.mk (below_step (by repeat ((with_reducible exact HB.out))) hb); clear hb hbox hg; have hcz34_0 : w33.cell? ⟨gb1101, 0, none⟩ = some (.int .u8 a0_0) := (blk_cell BK1101.out 0).trans rfl; have hcz34_1 : w33.cell? ⟨gb1101, 1, none⟩ = some (.int .i64 a0_1) := (blk_cell BK1101.out 1).trans rfl; have hcz34_2 : w33.cell? ⟨gb1101, 2, none⟩ = some (.int .i64 a0_2) := (blk_cell BK1101.out 2).trans rfl; have hcz34_3 : w33.cell? ⟨gb1101, 3, none⟩ = some (.int .i64 a0_3) := (blk_cell BK1101.out 3).trans rfl; have hcz34_4 : w33.cell? ⟨gb1101, 4, none⟩ = some (.int .i64 a0_4) := (blk_cell BK1101.out 4).trans rfl; have hcz34_5 : w33.cell? ⟨gb1101, 5, none⟩ = some (.int .i64 a0_5) := (blk_cell BK1101.out 5).trans rfl; have hcz34_6 : w33.cell? ⟨gb1101, 6, none⟩ = some (.slice A0_6 l0_6.length c0_6) := (blk_cell BK1101.out 6).trans rfl; have hfz34_0 := blk_frozen BK1101.out 0; have hfz34_1 := blk_frozen BK1101.out 1; have hfz34_2 := blk_frozen BK1101.out 2; have hfz34_3 := blk_frozen BK1101.out 3; have hfz34_4 := blk_frozen BK1101.out 4; have hfz34_5 := blk_frozen BK1101.out 5; have hfz34_6 := blk_frozen BK1101.out 6) | ((with_reducible refine gate_dst (N := 8) rfl ?_); refine Kd.N_lit k26 _ 26 ?hg (N' := 8) ?hd (xs := ([(⟨a0_0, (⟨a0_1, a0_2, a0_3, a0_4⟩ : S23), a0_5, l0_6⟩ : S26)] : List (S26))) (inner := [.int .u8 a0_0, .int .i64 a0_1, .int .i64 a0_2, .int .i64 a0_3, .int .i64 a0_4, .int .i64 a0_5, .slice A0_6 l0_6.length c0_6]) (ok := (fun k_ => (P0_6_ k_ ∨ w.heap.size ≤ k_) ∧ k_ ≠ gb1101)) (okp := (fun k_ => (P0_6_ k_ ∨ w.heap.size ≤ k_) ∧ k_ ≠ gb1101)) ?hr ?hp (fun _ hk => hk) ((show ∀ k_, w33.heap.size ≤ k_ → (fun k_ => (P0_6_ k_ ∨ w.heap.size ≤ k_) ∧ k_ ≠ gb1101) k_ from fun k_ hk => ⟨(.inr (Nat.le_trans (below_size (by repeat ((with_reducible exact HB.out)))) hk)), Kd.freshB BK1101.out k_ hk⟩) _ (Nat.le_refl _)) (Below.refl _ _) (Nat.le_refl _) (by simp) ?_; (case hd => rfl); (case hg => rfl); (case hr => (go_simp; done)); (case hp => exact (Reps.c7 (show Kd.FK k26 _ _ (⟨a0_0, (⟨a0_1, a0_2, a0_3, a0_4⟩ : S23), a0_5, l0_6⟩ : S26) [.int .u8 a0_0, .int .i64 a0_1, .int .i64 a0_2, .int .i64 a0_3, .int .i64 a0_4, .int .i64 a0_5, .slice A0_6 l0_6.length c0_6] from (k26_mkF _ _ (⟨a0_0, (⟨a0_1, a0_2, a0_3, a0_4⟩ : S23), a0_5, l0_6⟩ : S26) (Kd.V_reads' (Kd.V_mono (ok' := (fun k_ => (P0_6_ k_ ∨ w.heap.size ≤ k_) ∧ k_ ≠ gb1101)) (HO0_6.out) (fun k_ hk => ⟨hk.1, hk.2⟩))).2.1 (Kd.V_F (Kd.V_mono (ok' := (fun k_ => (P0_6_ k_ ∨ w.heap.size ≤ k_) ∧ k_ ≠ gb1101)) (HO0_6.out) (fun k_ hk => ⟨hk.1, hk.2⟩))))) (Reps.none _ _))); intro v1103 w35 ho36 hb hg_ hnew_; clear hg_ hnew_; (rw [← Ny1102.out] at ho36); have HO1104 := Aside0.mk (Kd.N_lower ho36 (below_size (by repeat ((with_reducible exact HB.out))))); replace HO0_6 := Aside0.mk (Kd.V_elder' HO0_6.out (Kd.N_base ho36) hb); replace BK1101 := Aside0.mk (blk_below BK1101.out hb); replace HB := Aside0.mk (below_step (by repeat ((with_reducible exact HB.out))) hb); clear hb ho36; obtain ⟨Ao37, co37, eo37⟩ := Kd.N_slice HO1104.out; subst eo37) | ((with_reducible refine gate_callee (f := 76) rfl ?_); refine goesL_ (some 9) rfl rfl Try.func76 (by kernel_rfl) rfl #[.slice Ao37 y1102.length co37] rfl (by (try simp only [List.map_toArray, List.map_cons, List.map_nil]); rfl) ?_; (with_reducible refine (cell_May.calls _ _ y1102 true _ ?side1 ?side2 A4.out).mono ?_); (case side1 => repeat (exact (Kd.N_reads' HO1104.out).2.2)); (case side2 => exact (Kd.N_reads' HO1104.out).2.1); rintro e w38 ⟨rfl, hb⟩; refine ⟨_, rfl, ?_⟩; replace HO0_6 := Aside0.mk (Kd.V_below HO0_6.out hb); replace HO1104 := Aside0.mk (Kd.N_below HO1104.out hb); replace BK1101 := Aside0.mk (blk_below BK1101.out hb); replace HB := Aside0.mk (below_step (by repeat ((with_reducible exact HB.out))) hb); (try clear hb); have hcz39_0 : w38.cell? ⟨gb1101, 0, none⟩ = some (.int .u8 a0_0) := (blk_cell BK1101.out 0).trans rfl; have hcz39_1 : w38.cell? ⟨gb1101, 1, none⟩ = some (.int .i64 a0_1) := (blk_cell BK1101.out 1).trans rfl; have hcz39_2 : w38.cell? ⟨gb1101, 2, none⟩ = some (.int .i64 a0_2) := (blk_cell BK1101.out 2).trans rfl; have hcz39_3 : w38.cell? ⟨gb1101, 3, none⟩ = some (.int .i64 a0_3) := (blk_cell BK1101.out 3).trans rfl; have hcz39_4 : w38.cell? ⟨gb1101, 4, none⟩ = some (.int .i64 a0_4) := (blk_cell BK1101.out 4).trans rfl; have hcz39_5 : w38.cell? ⟨gb1101, 5, none⟩ = some (.int .i64 a0_5) := (blk_cell BK1101.out 5).trans rfl; have hcz39_6 : w38.cell? ⟨gb1101, 6, none⟩ = some (.slice A0_6 l0_6.length c0_6) := (blk_cell BK1101.out 6).trans rfl; have hfz39_0 := blk_frozen BK1101.out 0; have hfz39_1 := blk_frozen BK1101.out 1; have hfz39_2 := blk_frozen BK1101.out 2; have hfz39_3 := blk_frozen BK1101.out 3; have hfz39_4 := blk_frozen BK1101.out 4; have hfz39_5 := blk_frozen BK1101.out 5; have hfz39_6 := blk_frozen BK1101.out 6) | (go_at_call 149; (with_reducible refine (least_least.calls k a0_0 a0_1 a0_2 a0_3 a0_4 a0_5 _ _ l0_6 1 t1106 _ ?side1 ?side2 A6.out).mono ?_); (case side1 => repeat (exact (Kd.V_reads' HO0_6.out).2.2)); (case side2 => exact (Kd.V_reads' HO0_6.out).2.1); rintro e w40 ⟨rfl, hb⟩; replace HO0_6 := Aside0.mk (Kd.V_below HO0_6.out hb); replace HO1104 := Aside0.mk (Kd.N_below HO1104.out hb); replace BK1101 := Aside0.mk (blk_below BK1101.out hb); replace HB := Aside0.mk (below_step (by repeat ((with_reducible exact HB.out))) hb); (try clear hb); have hcz41_0 : w40.cell? ⟨gb1101, 0, none⟩ = some (.int .u8 a0_0) := (blk_cell BK1101.out 0).trans rfl; have hcz41_1 : w40.cell? ⟨gb1101, 1, none⟩ = some (.int .i64 a0_1) := (blk_cell BK1101.out 1).trans rfl; have hcz41_2 : w40.cell? ⟨gb1101, 2, none⟩ = some (.int .i64 a0_2) := (blk_cell BK1101.out 2).trans rfl; have hcz41_3 : w40.cell? ⟨gb1101, 3, none⟩ = some (.int .i64 a0_3) := (blk_cell BK1101.out 3).trans rfl; have hcz41_4 : w40.cell? ⟨gb1101, 4, none⟩ = some (.int .i64 a0_4) := (blk_cell BK1101.out 4).trans rfl; have hcz41_5 : w40.cell? ⟨gb1101, 5, none⟩ = some (.int .i64 a0_5) := (blk_cell BK1101.out 5).trans rfl; have hcz41_6 : w40.cell? ⟨gb1101, 6, none⟩ = some (.slice A0_6 l0_6.length c0_6) := (blk_cell BK1101.out 6).trans rfl; have hfz41_0 := blk_frozen BK1101.out 0; have hfz41_1 := blk_frozen BK1101.out 1; have hfz41_2 := blk_frozen BK1101.out 2; have hfz41_3 := blk_frozen BK1101.out 3; have hfz41_4 := blk_frozen BK1101.out 4; have hfz41_5 := blk_frozen BK1101.out 5; have hfz41_6 := blk_frozen BK1101.out 6) | (go_at_call 149; (with_reducible refine (least_least.calls k a0_0 a0_1 a0_2 a0_3 a0_4 a0_5 _ _ l0_6 2 t1107 _ ?side1 ?side2 A8.out).mono ?_); (case side1 => repeat (exact (Kd.V_reads' HO0_6.out).2.2)); (case side2 => exact (Kd.V_reads' HO0_6.out).2.1); rintro e w42 ⟨rfl, hb⟩; replace HO0_6 := Aside0.mk (Kd.V_below HO0_6.out hb); replace HO1104 := Aside0.mk (Kd.N_below HO1104.out hb); replace BK1101 := Aside0.mk (blk_below BK1101.out hb); replace HB := Aside0.mk (below_step (by repeat ((with_reducible exact HB.out))) hb); (try clear hb)))
    go_ret
    exact ⟨by rfl, by repeat ((with_reducible exact HB.out))⟩
  ·rw [if_neg c7] at H
   have c7b0 : decide (t1106 ≤ a1) = false := decide_eq_false c7
   clear c7
   obtain rfl := Option.some.inj H
   go_enter Try.func96, Try.ntmps96
   go_wp2_with (first | ((with_reducible refine gate_dst (N := 3) rfl ?_); refine box_event ?hg (N := 3) ?hd (cs := #[.int .u8 a0_0, .int .i64 a0_1, .int .i64 a0_2, .int .i64 a0_3, .int .i64 a0_4, .int .i64 a0_5, .slice A0_6 l0_6.length c0_6]) (t := 26) ?hr ?_; (case hd => rfl); (case hg => rfl); (case hr => (go_simp; done)); intro gb1101 hg w43 hbox hb; have BK1101 := Aside0.mk (hbox); replace HO0_6 := Aside0.mk (Kd.V_below (Kd.V_elderB HO0_6.out gb1101 (Nat.le_of_eq hg.symm)) hb); replace HB := Aside0.mk (below_step (by repeat ((with_reducible exact HB.out))) hb); clear hb hbox hg; have hcz44_0 : w43.cell? ⟨gb1101, 0, none⟩ = some (.int .u8 a0_0) := (blk_cell BK1101.out 0).trans rfl; have hcz44_1 : w43.cell? ⟨gb1101, 1, none⟩ = some (.int .i64 a0_1) := (blk_cell BK1101.out 1).trans rfl; have hcz44_2 : w43.cell? ⟨gb1101, 2, none⟩ = some (.int .i64 a0_2) := (blk_cell BK1101.out 2).trans rfl; have hcz44_3 : w43.cell? ⟨gb1101, 3, none⟩ = some (.int .i64 a0_3) := (blk_cell BK1101.out 3).trans rfl; have hcz44_4 : w43.cell? ⟨gb1101, 4, none⟩ = some (.int .i64 a0_4) := (blk_cell BK1101.out 4).trans rfl; have hcz44_5 : w43.cell? ⟨gb1101, 5, none⟩ = some (.int .i64 a0_5) := (blk_cell BK1101.out 5).trans rfl; have hcz44_6 : w43.cell? ⟨gb1101, 6, none⟩ = some (.slice A0_6 l0_6.length c0_6) := (blk_cell BK1101.out 6).trans rfl; have hfz44_0 := blk_frozen BK1101.out 0; have hfz44_1 := blk_frozen BK1101.out 1; have hfz44_2 := blk_frozen BK1101.out 2; have hfz44_3 := blk_frozen BK1101.out 3; have hfz44_4 := blk_frozen BK1101.out 4; have hfz44_5 := blk_frozen BK1101.out 5; have hfz44_6 := blk_frozen BK1101.out 6) | ((with_reducible refine gate_dst (N := 8) rfl ?_); refine Kd.N_lit k26 _ 26 ?hg (N' := 8) ?hd (xs := ([(⟨a0_0, (⟨a0_1, a0_2, a0_3, a0_4⟩ : S23), a0_5, l0_6⟩ : S26)] : List (S26))) (inner := [.int .u8 a0_0, .int .i64 a0_1, .int .i64 a0_2, .int .i64 a0_3, .int .i64 a0_4, .int .i64 a0_5, .slice A0_6 l0_6.length c0_6]) (ok := (fun k_ => (P0_6_ k_ ∨ w.heap.size ≤ k_) ∧ k_ ≠ gb1101)) (okp := (fun k_ => (P0_6_ k_ ∨ w.heap.size ≤ k_) ∧ k_ ≠ gb1101)) ?hr ?hp (fun _ hk => hk) ((show ∀ k_, w43.heap.size ≤ k_ → (fun k_ => (P0_6_ k_ ∨ w.heap.size ≤ k_) ∧ k_ ≠ gb1101) k_ from fun k_ hk => ⟨(.inr (Nat.le_trans (below_size (by repeat ((with_reducible exact HB.out)))) hk)), Kd.freshB BK1101.out k_ hk⟩) _ (Nat.le_refl _)) (Below.refl _ _) (Nat.le_refl _) (by simp) ?_; (case hd => rfl); (case hg => rfl); (case hr => (go_simp; done)); (case hp => exact (Reps.c7 (show Kd.FK k26 _ _ (⟨a0_0, (⟨a0_1, a0_2, a0_3, a0_4⟩ : S23), a0_5, l0_6⟩ : S26) [.int .u8 a0_0, .int .i64 a0_1, .int .i64 a0_2, .int .i64 a0_3, .int .i64 a0_4, .int .i64 a0_5, .slice A0_6 l0_6.length c0_6] from (k26_mkF _ _ (⟨a0_0, (⟨a0_1, a0_2, a0_3, a0_4⟩ : S23), a0_5, l0_6⟩ : S26) (Kd.V_reads' (Kd.V_mono (ok' := (fun k_ => (P0_6_ k_ ∨ w.heap.size ≤ k_) ∧ k_ ≠ gb1101)) (HO0_6.out) (fun k_ hk => ⟨hk.1, hk.2⟩))).2.1 (Kd.V_F (Kd.V_mono (ok' := (fun k_ => (P0_6_ k_ ∨ w.heap.size ≤ k_) ∧ k_ ≠ gb1101)) (HO0_6.out) (fun k_ hk => ⟨hk.1, hk.2⟩))))) (Reps.none _ _))); intro v1103 w45 ho46 hb hg_ hnew_; clear hg_ hnew_; (rw [← Ny1102.out] at ho46); have HO1104 := Aside0.mk (Kd.N_lower ho46 (below_size (by repeat ((with_reducible exact HB.out))))); replace HO0_6 := Aside0.mk (Kd.V_elder' HO0_6.out (Kd.N_base ho46) hb); replace BK1101 := Aside0.mk (blk_below BK1101.out hb); replace HB := Aside0.mk (below_step (by repeat ((with_reducible exact HB.out))) hb); clear hb ho46; obtain ⟨Ao47, co47, eo47⟩ := Kd.N_slice HO1104.out; subst eo47) | ((with_reducible refine gate_callee (f := 76) rfl ?_); refine goesL_ (some 9) rfl rfl Try.func76 (by kernel_rfl) rfl #[.slice Ao47 y1102.length co47] rfl (by (try simp only [List.map_toArray, List.map_cons, List.map_nil]); rfl) ?_; (with_reducible refine (cell_May.calls _ _ y1102 true _ ?side1 ?side2 A4.out).mono ?_); (case side1 => repeat (exact (Kd.N_reads' HO1104.out).2.2)); (case side2 => exact (Kd.N_reads' HO1104.out).2.1); rintro e w48 ⟨rfl, hb⟩; refine ⟨_, rfl, ?_⟩; replace HO0_6 := Aside0.mk (Kd.V_below HO0_6.out hb); replace HO1104 := Aside0.mk (Kd.N_below HO1104.out hb); replace BK1101 := Aside0.mk (blk_below BK1101.out hb); replace HB := Aside0.mk (below_step (by repeat ((with_reducible exact HB.out))) hb); (try clear hb); have hcz49_0 : w48.cell? ⟨gb1101, 0, none⟩ = some (.int .u8 a0_0) := (blk_cell BK1101.out 0).trans rfl; have hcz49_1 : w48.cell? ⟨gb1101, 1, none⟩ = some (.int .i64 a0_1) := (blk_cell BK1101.out 1).trans rfl; have hcz49_2 : w48.cell? ⟨gb1101, 2, none⟩ = some (.int .i64 a0_2) := (blk_cell BK1101.out 2).trans rfl; have hcz49_3 : w48.cell? ⟨gb1101, 3, none⟩ = some (.int .i64 a0_3) := (blk_cell BK1101.out 3).trans rfl; have hcz49_4 : w48.cell? ⟨gb1101, 4, none⟩ = some (.int .i64 a0_4) := (blk_cell BK1101.out 4).trans rfl; have hcz49_5 : w48.cell? ⟨gb1101, 5, none⟩ = some (.int .i64 a0_5) := (blk_cell BK1101.out 5).trans rfl; have hcz49_6 : w48.cell? ⟨gb1101, 6, none⟩ = some (.slice A0_6 l0_6.length c0_6) := (blk_cell BK1101.out 6).trans rfl; have hfz49_0 := blk_frozen BK1101.out 0; have hfz49_1 := blk_frozen BK1101.out 1; have hfz49_2 := blk_frozen BK1101.out 2; have hfz49_3 := blk_frozen BK1101.out 3; have hfz49_4 := blk_frozen BK1101.out 4; have hfz49_5 := blk_frozen BK1101.out 5; have hfz49_6 := blk_frozen BK1101.out 6) | (go_at_call 149; (with_reducible refine (least_least.calls k a0_0 a0_1 a0_2 a0_3 a0_4 a0_5 _ _ l0_6 1 t1106 _ ?side1 ?side2 A6.out).mono ?_); (case side1 => repeat (exact (Kd.V_reads' HO0_6.out).2.2)); (case side2 => exact (Kd.V_reads' HO0_6.out).2.1); rintro e w50 ⟨rfl, hb⟩; replace HO0_6 := Aside0.mk (Kd.V_below HO0_6.out hb); replace HO1104 := Aside0.mk (Kd.N_below HO1104.out hb); replace BK1101 := Aside0.mk (blk_below BK1101.out hb); replace HB := Aside0.mk (below_step (by repeat ((with_reducible exact HB.out))) hb); (try clear hb)))
   go_ret
   exact ⟨by rfl, by repeat ((with_reducible exact HB.out))⟩
 ·replace c5 := Bool.eq_false_iff.mpr c5
  subst c5
  have H1 : (some false) = some r := by rw [if_neg (show ¬ (false = true) by decide)] at H; exact H
  clear H
  have H := H1
  clear H1
  obtain rfl := Option.some.inj H
  go_enter Try.func96, Try.ntmps96
  go_wp2_with (first | ((with_reducible refine gate_dst (N := 3) rfl ?_); refine box_event ?hg (N := 3) ?hd (cs := #[.int .u8 a0_0, .int .i64 a0_1, .int .i64 a0_2, .int .i64 a0_3, .int .i64 a0_4, .int .i64 a0_5, .slice A0_6 l0_6.length c0_6]) (t := 26) ?hr ?_; (case hd => rfl); (case hg => rfl); (case hr => (go_simp; done)); intro gb1101 hg w51 hbox hb; have BK1101 := Aside0.mk (hbox); replace HO0_6 := Aside0.mk (Kd.V_below (Kd.V_elderB HO0_6.out gb1101 (Nat.le_of_eq hg.symm)) hb); replace HB := Aside0.mk (below_step (by repeat ((with_reducible exact HB.out))) hb); clear hb hbox hg; have hcz52_0 : w51.cell? ⟨gb1101, 0, none⟩ = some (.int .u8 a0_0) := (blk_cell BK1101.out 0).trans rfl; have hcz52_1 : w51.cell? ⟨gb1101, 1, none⟩ = some (.int .i64 a0_1) := (blk_cell BK1101.out 1).trans rfl; have hcz52_2 : w51.cell? ⟨gb1101, 2, none⟩ = some (.int .i64 a0_2) := (blk_cell BK1101.out 2).trans rfl; have hcz52_3 : w51.cell? ⟨gb1101, 3, none⟩ = some (.int .i64 a0_3) := (blk_cell BK1101.out 3).trans rfl; have hcz52_4 : w51.cell? ⟨gb1101, 4, none⟩ = some (.int .i64 a0_4) := (blk_cell BK1101.out 4).trans rfl; have hcz52_5 : w51.cell? ⟨gb1101, 5, none⟩ = some (.int .i64 a0_5) := (blk_cell BK1101.out 5).trans rfl; have hcz52_6 : w51.cell? ⟨gb1101, 6, none⟩ = some (.slice A0_6 l0_6.length c0_6) := (blk_cell BK1101.out 6).trans rfl; have hfz52_0 := blk_frozen BK1101.out 0; have hfz52_1 := blk_frozen BK1101.out 1; have hfz52_2 := blk_frozen BK1101.out 2; have hfz52_3 := blk_frozen BK1101.out 3; have hfz52_4 := blk_frozen BK1101.out 4; have hfz52_5 := blk_frozen BK1101.out 5; have hfz52_6 := blk_frozen BK1101.out 6) | ((with_reducible refine gate_dst (N := 8) rfl ?_); refine Kd.N_lit k26 _ 26 ?hg (N' := 8) ?hd (xs := ([(⟨a0_0, (⟨a0_1, a0_2, a0_3, a0_4⟩ : S23), a0_5, l0_6⟩ : S26)] : List (S26))) (inner := [.int .u8 a0_0, .int .i64 a0_1, .int .i64 a0_2, .int .i64 a0_3, .int .i64 a0_4, .int .i64 a0_5, .slice A0_6 l0_6.length c0_6]) (ok := (fun k_ => (P0_6_ k_ ∨ w.heap.size ≤ k_) ∧ k_ ≠ gb1101)) (okp := (fun k_ => (P0_6_ k_ ∨ w.heap.size ≤ k_) ∧ k_ ≠ gb1101)) ?hr ?hp (fun _ hk => hk) ((show ∀ k_, w51.heap.size ≤ k_ → (fun k_ => (P0_6_ k_ ∨ w.heap.size ≤ k_) ∧ k_ ≠ gb1101) k_ from fun k_ hk => ⟨(.inr (Nat.le_trans (below_size (by repeat ((with_reducible exact HB.out)))) hk)), Kd.freshB BK1101.out k_ hk⟩) _ (Nat.le_refl _)) (Below.refl _ _) (Nat.le_refl _) (by simp) ?_; (case hd => rfl); (case hg => rfl); (case hr => (go_simp; done)); (case hp => exact (Reps.c7 (show Kd.FK k26 _ _ (⟨a0_0, (⟨a0_1, a0_2, a0_3, a0_4⟩ : S23), a0_5, l0_6⟩ : S26) [.int .u8 a0_0, .int .i64 a0_1, .int .i64 a0_2, .int .i64 a0_3, .int .i64 a0_4, .int .i64 a0_5, .slice A0_6 l0_6.length c0_6] from (k26_mkF _ _ (⟨a0_0, (⟨a0_1, a0_2, a0_3, a0_4⟩ : S23), a0_5, l0_6⟩ : S26) (Kd.V_reads' (Kd.V_mono (ok' := (fun k_ => (P0_6_ k_ ∨ w.heap.size ≤ k_) ∧ k_ ≠ gb1101)) (HO0_6.out) (fun k_ hk => ⟨hk.1, hk.2⟩))).2.1 (Kd.V_F (Kd.V_mono (ok' := (fun k_ => (P0_6_ k_ ∨ w.heap.size ≤ k_) ∧ k_ ≠ gb1101)) (HO0_6.out) (fun k_ hk => ⟨hk.1, hk.2⟩))))) (Reps.none _ _))); intro v1103 w53 ho54 hb hg_ hnew_; clear hg_ hnew_; (rw [← Ny1102.out] at ho54); have HO1104 := Aside0.mk (Kd.N_lower ho54 (below_size (by repeat ((with_reducible exact HB.out))))); replace HO0_6 := Aside0.mk (Kd.V_elder' HO0_6.out (Kd.N_base ho54) hb); replace BK1101 := Aside0.mk (blk_below BK1101.out hb); replace HB := Aside0.mk (below_step (by repeat ((with_reducible exact HB.out))) hb); clear hb ho54; obtain ⟨Ao55, co55, eo55⟩ := Kd.N_slice HO1104.out; subst eo55) | ((with_reducible refine gate_callee (f := 76) rfl ?_); refine goesL_ (some 9) rfl rfl Try.func76 (by kernel_rfl) rfl #[.slice Ao55 y1102.length co55] rfl (by (try simp only [List.map_toArray, List.map_cons, List.map_nil]); rfl) ?_; (with_reducible refine (cell_May.calls _ _ y1102 false _ ?side1 ?side2 A4.out).mono ?_); (case side1 => repeat (exact (Kd.N_reads' HO1104.out).2.2)); (case side2 => exact (Kd.N_reads' HO1104.out).2.1); rintro e w56 ⟨rfl, hb⟩; refine ⟨_, rfl, ?_⟩; replace HO0_6 := Aside0.mk (Kd.V_below HO0_6.out hb); replace HO1104 := Aside0.mk (Kd.N_below HO1104.out hb); replace BK1101 := Aside0.mk (blk_below BK1101.out hb); replace HB := Aside0.mk (below_step (by repeat ((with_reducible exact HB.out))) hb); (try clear hb)))
  go_ret
  exact ⟨by rfl, by repeat ((with_reducible exact HB.out))⟩

end Go.Proofs.Ytfdmfgaiblfbhaa.P
namespace Go.Proofs.Ytfdmfgaiblfbhaa.P
open Go.RowKit Go.Proofs.YtfdmfgaiblfbhaaW.PrintWords Go.Proofs.YtfdmfgaiblfbhaaW.PrintLast Go.Proofs.YtfdmfgaiblfbhaaW.PrintMore
attribute [local go_sem] max2_int min2_int max_two min_two max_three min_three max_four min_four   -- for this text's walks alone
set_option linter.unusedVariables false
set_option linter.unusedSimpArgs false

/-! ### sashref08_Fits: function 97 -/
def sashref08_Fits.f (k : Nat) (a0_0 : Int) (a0_1 : Int) (a0_2 : Int) (a0_3 : Int) (a0_4 : Int) (a0_5 : Int) (l0_6 : List (S26)) (a1 : Int) (a2 : Int) : Option (Bool) := (sashref05_May.f k a0_0 a0_1 a0_2 a0_3 a0_4 a0_5 l0_6).bind fun t1100 => (if t1100 = true then ((sashref08_Of.f k a0_0 a0_1 a0_2 a0_3 a0_4 a0_5 l0_6 1).bind fun t1101 => (if a1 ≥ t1101 then (if a1 ≤ (wrap64 (10000 - a0_1)) then ((sashref08_Of.f k a0_0 a0_1 a0_2 a0_3 a0_4 a0_5 l0_6 2).bind fun t1102 => (if a2 ≥ t1102 then (some (decide (a2 ≤ (wrap64 (10000 - a0_2))))) else (some false))) else (some false)) else (some false))) else (some false))
set_option maxHeartbeats 8000000 in
set_option maxRecDepth 100000 in
theorem sashref08_Fits.calls (k : Nat) (a0_0 : Int) (a0_1 : Int) (a0_2 : Int) (a0_3 : Int) (a0_4 : Int) (a0_5 : Int) (A0_6 : Option Addr) (c0_6 : Nat) (l0_6 : List (S26)) (a1 : Int) (a2 : Int) (r : Bool) (w : World) (hr0_6 : Kd.C k26 w A0_6 l0_6.length l0_6) (hc0_6 : l0_6.length ≤ c0_6) (h : sashref08_Fits.f k a0_0 a0_1 a0_2 a0_3 a0_4 a0_5 l0_6 a1 a2 = some r) :
  Calls Try.prog 97 #[.agg #[.int .u8 a0_0, .int .i64 a0_1, .int .i64 a0_2, .int .i64 a0_3, .int .i64 a0_4, .int .i64 a0_5, .slice A0_6 l0_6.length c0_6], .int .i64 a1, .int .i64 a2] w fun e w' => e = .returned (.bool r) ∧ Below w.heap.size w w' := by
 have hu26 := Try.underlying26
 have HR0_6 := Aside0.mk hr0_6
 have HC0_6 := Aside0.mk hc0_6
 clear hr0_6 hc0_6
 have HB := Aside0.mk (Below.refl w.heap.size w)
 have H : ((sashref05_May.f k a0_0 a0_1 a0_2 a0_3 a0_4 a0_5 l0_6).bind fun t1100 => (if t1100 = true then ((sashref08_Of.f k a0_0 a0_1 a0_2 a0_3 a0_4 a0_5 l0_6 1).bind fun t1101 => (if a1 ≥ t1101 then (if a1 ≤ (wrap64 (10000 - a0_1)) then ((sashref08_Of.f k a0_0 a0_1 a0_2 a0_3 a0_4 a0_5 l0_6 2).bind fun t1102 => (if a2 ≥ t1102 then (some (decide (a2 ≤ (wrap64 (10000 - a0_2))))) else (some false))) else (some false)) else (some false))) else (some false))) = some r := h
 clear h
 replace H := Option.bind_eq_some_iff.mp H
 obtain ⟨t1100, A40, H⟩ := H
 replace H : (if t1100 = true then ((sashref08_Of.f k a0_0 a0_1 a0_2 a0_3 a0_4 a0_5 l0_6 1).bind fun t1101 => (if a1 ≥ t1101 then (if a1 ≤ (wrap64 (10000 - a0_1)) then ((sashref08_Of.f k a0_0 a0_1 a0_2 a0_3 a0_4 a0_5 l0_6 2).bind fun t1102 => (if a2 ≥ t1102 then (some (decide (a2 ≤ (wrap64 (10000 - a0_2))))) else (some false))) else (some false)) else (some false))) else (some false)) = some r := H
 have A4 := Aside0.mk A40
 clear A40
 by_cases c5 : t1100 = true
 ·subst c5
  have H1 : ((sashref08_Of.f k a0_0 a0_1 a0_2 a0_3 a0_4 a0_5 l0_6 1).bind fun t1101 => (if a1 ≥ t1101 then (if a1 ≤ (wrap64 (10000 - a0_1)) then ((sashref08_Of.f k a0_0 a0_1 a0_2 a0_3 a0_4 a0_5 l0_6 2).bind fun t1102 => (if a2 ≥ t1102 then (some (decide (a2 ≤ (wrap64 (10000 - a0_2))))) else (some false))) else (some false)) else (some false))) = some r := by rw [if_pos rfl] at H; exact H
  clear H
  have H := H1
  clear H1
  replace H := Option.bind_eq_some_iff.mp H
  obtain ⟨t1101, A60, H⟩ := H
  replace H : (if a1 ≥ t1101 then (if a1 ≤ (wrap64 (10000 - a0_1)) then ((sashref08_Of.f k a0_0 a0_1 a0_2 a0_3 a0_4 a0_5 l0_6 2).bind fun t1102 => (if a2 ≥ t1102 then (some (decide (a2 ≤ (wrap64 (10000 - a0_2))))) else (some false))) else (some false)) else (some false)) = some r := H
  have A6 := Aside0.mk A60
  clear A60
  by_cases c7 : a1 ≥ t1101
  ·rw [if_pos c7] at H
   have c7b0 : decide (t1101 ≤ a1) = true := decide_eq_true c7
   clear c7
   by_cases c8 : a1 ≤ (wrap64 (10000 - a0_1))
   ·rw [if_pos c8] at H
    have c8b0 : decide (a1 ≤ (wrap64 (10000 - a0_1))) = true := decide_eq_true c8
    clear c8
    replace H := Option.bind_eq_some_iff.mp H
    obtain ⟨t1102, A90, H⟩ := H
    replace H : (if a2 ≥ t1102 then (some (decide (a2 ≤ (wrap64 (10000 - a0_2))))) else (some false)) = some r := H
    have A9 := Aside0.mk A90
    clear A90
    by_cases c10 : a2 ≥ t1102
    ·rw [if_pos c10] at H
     have c10b0 : decide (t1102 ≤ a2) = true := decide_eq_true c10
     clear c10
     obtain rfl := Option.some.inj H
     go_enter Try.func97, Try.ntmps97
     go_wp2_with (first | ((with_reducible refine gate_dst (N := 3) rfl ?_); refine box_event ?hg (N := 3) ?hd (cs := #[.int .u8 a0_0, .int .i64 a0_1, .int .i64 a0_2, .int .i64 a0_3, .int .i64 a0_4, .int .i64 a0_5, .slice A0_6 l0_6.length c0_6]) (t := 26) ?hr ?_; (case hd => rfl); (case hg => rfl); (case hr => (go_simp; done)); intro gb1099 hg w11 hbox hb; have BK1099 := Aside0.mk (hbox); replace HB := Aside0.mk (below_step (by repeat ((with_reducible exact HB.out))) hb); clear hb hbox hg; have hcz12_0 : w11.cell? ⟨gb1099, 0, none⟩ = some (.int .u8 a0_0) := (blk_cell BK1099.out 0).trans rfl; have hcz12_1 : w11.cell? ⟨gb1099, 1, none⟩ = some (.int .i64 a0_1) := (blk_cell BK1099.out 1).trans rfl; have hcz12_2 : w11.cell? ⟨gb1099, 2, none⟩ = some (.int .i64 a0_2) := (blk_cell BK1099.out 2).trans rfl; have hcz12_3 : w11.cell? ⟨gb1099, 3, none⟩ = some (.int .i64 a0_3) := (blk_cell BK1099.out 3).trans rfl; have hcz12_4 : w11.cell? ⟨gb1099, 4, none⟩ = some (.int .i64 a0_4) := (blk_cell BK1099.out 4).trans rfl; have hcz12_5 : w11.cell? ⟨gb1099, 5, none⟩ = some (.int .i64 a0_5) := (blk_cell BK1099.out 5).trans rfl; have hcz12_6 : w11.cell? ⟨gb1099, 6, none⟩ = some (.slice A0_6 l0_6.length c0_6) := (blk_cell BK1099.out 6).trans rfl; have hfz12_0 := blk_frozen BK1099.out 0; have hfz12_1 := blk_frozen BK1099.out 1; have hfz12_2 := blk_frozen BK1099.out 2; have hfz12_3 := blk_frozen BK1099.out 3; have hfz12_4 := blk_frozen BK1099.out 4; have hfz12_5 := blk_frozen BK1099.out 5; have hfz12_6 := blk_frozen BK1099.out 6) | ((with_reducible refine gate_callee (f := 38) rfl ?_); refine goesL_ (some 8) rfl rfl Try.func38 (by kernel_rfl) rfl #[.agg #[.int .u8 a0_0, .int .i64 a0_1, .int .i64 a0_2, .int .i64 a0_3, .int .i64 a0_4, .int .i64 a0_5, .slice A0_6 l0_6.length c0_6]] rfl (by (try simp only [List.map_toArray, List.map_cons, List.map_nil]); rfl) ?_; (with_reducible refine (sashref05_May.calls k a0_0 a0_1 a0_2 a0_3 a0_4 a0_5 _ _ l0_6 true _ ?side1 ?side2 A4.out).mono ?_); (case side1 => repeat (exact (Kd.C_below HR0_6.out HB.out))); (case side2 => exact HC0_6.out); rintro e w13 ⟨rfl, hb⟩; refine ⟨_, rfl, ?_⟩; replace BK1099 := Aside0.mk (blk_below BK1099.out hb); replace HB := Aside0.mk (below_step (by repeat ((with_reducible exact HB.out))) hb); (try clear hb); have hcz14_0 : w13.cell? ⟨gb1099, 0, none⟩ = some (.int .u8 a0_0) := (blk_cell BK1099.out 0).trans rfl; have hcz14_1 : w13.cell? ⟨gb1099, 1, none⟩ = some (.int .i64 a0_1) := (blk_cell BK1099.out 1).trans rfl; have hcz14_2 : w13.cell? ⟨gb1099, 2, none⟩ = some (.int .i64 a0_2) := (blk_cell BK1099.out 2).trans rfl; have hcz14_3 : w13.cell? ⟨gb1099, 3, none⟩ = some (.int .i64 a0_3) := (blk_cell BK1099.out 3).trans rfl; have hcz14_4 : w13.cell? ⟨gb1099, 4, none⟩ = some (.int .i64 a0_4) := (blk_cell BK1099.out 4).trans rfl; have hcz14_5 : w13.cell? ⟨gb1099, 5, none⟩ = some (.int .i64 a0_5) := (blk_cell BK1099.out 5).trans rfl; have hcz14_6 : w13.cell? ⟨gb1099, 6, none⟩ = some (.slice A0_6 l0_6.length c0_6) := (blk_cell BK1099.out 6).trans rfl; have hfz14_0 := blk_frozen BK1099.out 0; have hfz14_1 := blk_frozen BK1099.out 1; have hfz14_2 := blk_frozen BK1099.out 2; have hfz14_3 := blk_frozen BK1099.out 3; have hfz14_4 := blk_frozen BK1099.out 4; have hfz14_5 := blk_frozen BK1099.out 5; have hfz14_6 := blk_frozen BK1099.out 6) | (go_at_call 152; (with_reducible refine (sashref08_Of.calls k a0_0 a0_1 a0_2 a0_3 a0_4 a0_5 _ _ l0_6 1 t1101 _ ?side1 ?side2 A6.out).mono ?_); (case side1 => repeat (exact (Kd.C_below HR0_6.out HB.out))); (case side2 => exact HC0_6.out); rintro e w15 ⟨rfl, hb⟩; replace BK1099 := Aside0.mk (blk_below BK1099.out hb); replace HB := Aside0.mk (below_step (by repeat ((with_reducible exact HB.out))) hb); (try clear hb); have hcz16_0 : w15.cell? ⟨gb1099, 0, none⟩ = some (.int .u8 a0_0) := (blk_cell BK1099.out 0).trans rfl; have hcz16_1 : w15.cell? ⟨gb1099, 1, none⟩ = some (.int .i64 a0_1) := (blk_cell BK1099.out 1).trans rfl; have hcz16_2 : w15.cell? ⟨gb1099, 2, none⟩ = some (.int .i64 a0_2) := (blk_cell BK1099.out 2).trans rfl; have hcz16_3 : w15.cell? ⟨gb1099, 3, none⟩ = some (.int .i64 a0_3) := (blk_cell BK1099.out 3).trans rfl; have hcz16_4 : w15.cell? ⟨gb1099, 4, none⟩ = some (.int .i64 a0_4) := (blk_cell BK1099.out 4).trans rfl; have hcz16_5 : w15.cell? ⟨gb1099, 5, none⟩ = some (.int .i64 a0_5) := (blk_cell BK1099.out 5).trans rfl; have hcz16_6 : w15.cell? ⟨gb1099, 6, none⟩ = some (.slice A0_6 l0_6.length c0_6) := (blk_cell BK1099.out 6).trans rfl; have hfz16_0 := blk_frozen BK1099.out 0; have hfz16_1 := blk_frozen BK1099.out 1; have hfz16_2 := blk_frozen BK1099.out 2; have hfz16_3 := blk_frozen BK1099.out 3; have hfz16_4 := blk_frozen BK1099.out 4; have hfz16_5 := blk_frozen BK1099.out 5; have hfz16_6 := blk_frozen BK1099.out 6) | (go_at_call 152; (with_reducible refine (sashref08_Of.calls k a0_0 a0_1 a0_2 a0_3 a0_4 a0_5 _ _ l0_6 2 t1102 _ ?side1 ?side2 A9.out).mono ?_); (case side1 => repeat (exact (Kd.C_below HR0_6.out HB.out))); (case side2 => exact HC0_6.out); rintro e w17 ⟨rfl, hb⟩; replace BK1099 := Aside0.mk (blk_below BK1099.out hb); replace HB := Aside0.mk (below_step (by repeat ((with_reducible exact HB.out))) hb); (try clear hb); have hcz18_0 : w17.cell? ⟨gb1099, 0, none⟩ = some (.int .u8 a0_0) := (blk_cell BK1099.out 0).trans rfl; have hcz18_1 : w17.cell? ⟨gb1099, 1, none⟩ = some (.int .i64 a0_1) := (blk_cell BK1099.out 1).trans rfl; have hcz18_2 : w17.cell? ⟨gb1099, 2, none⟩ = some (.int .i64 a0_2) := (blk_cell BK1099.out 2).trans rfl; have hcz18_3 : w17.cell? ⟨gb1099, 3, none⟩ = some (.int .i64 a0_3) := (blk_cell BK1099.out 3).trans rfl; have hcz18_4 : w17.cell? ⟨gb1099, 4, none⟩ = some (.int .i64 a0_4) := (blk_cell BK1099.out 4).trans rfl; have hcz18_5 : w17.cell? ⟨gb1099, 5, none⟩ = some (.int .i64 a0_5) := (blk_cell BK1099.out 5).trans rfl; have hcz18_6 : w17.cell? ⟨gb1099, 6, none⟩ = some (.slice A0_6 l0_6.length c0_6) := (blk_cell BK1099.out 6).trans rfl; have hfz18_0 := blk_frozen BK1099.out 0; have hfz18_1 := blk_frozen BK1099.out 1; have hfz18_2 := blk_frozen BK1099.out 2; have hfz18_3 := blk_frozen BK1099.out 3; have hfz18_4 := blk_frozen BK1099.out 4; have hfz18_5 := blk_frozen BK1099.out 5; have hfz18_6 := blk_frozen BK1099.out 6))
     go_ret
     exact ⟨by rfl, by repeat ((with_reducible exact HB.out))⟩
    ·rw [if_neg c10] at H
     have c10b0 : decide (t1102 ≤ a2) = false := decide_eq_false c10
     clear c10
     obtain rfl := Option.some.inj H
     go_enter Try.func97, Try.ntmps97
     go_wp2_with (first | ((with_reducible refine gate_dst (N := 3) rfl ?_); refine box_event ?hg (N := 3) ?hd (cs := #[.int .u8 a0_0, .int .i64 a0_1, .int .i64 a0_2, .int .i64 a0_3, .int .i64 a0_4, .int .i64 a0_5, .slice A0_6 l0_6.length c0_6]) (t := 26) ?hr ?_; (case hd => rfl); (case hg => rfl); (case hr => (go_simp; done)); intro gb1099 hg w19 hbox hb; have BK1099 := Aside0.mk (hbox); replace HB := Aside0.mk (below_step (by repeat ((with_reducible exact HB.out))) hb); clear hb hbox hg; have hcz20_0 : w19.cell? ⟨gb1099, 0, none⟩ = some (.int .u8 a0_0) := (blk_cell BK1099.out 0).trans rfl; have hcz20_1 : w19.cell? ⟨gb1099, 1, none⟩ = some (.int .i64 a0_1) := (blk_cell BK1099.out 1).trans rfl; have hcz20_2 : w19.cell? ⟨gb1099, 2, none⟩ = some (.int .i64 a0_2) := (blk_cell BK1099.out 2).trans rfl; have hcz20_3 : w19.cell? ⟨gb1099, 3, none⟩ = some (.int .i64 a0_3) := (blk_cell BK1099.out 3).trans rfl; have hcz20_4 : w19.cell? ⟨gb1099, 4, none⟩ = some (.int .i64 a0_4) := (blk_cell BK1099.out 4).trans rfl; have hcz20_5 : w19.cell? ⟨gb1099, 5, none⟩ = some (.int .i64 a0_5) := (blk_cell BK1099.out 5).trans rfl; have hcz20_6 : w19.cell? ⟨gb1099, 6, none⟩ = some (.slice A0_6 l0_6.length c0_6) := (blk_cell BK1099.out 6).trans rfl; have hfz20_0 := blk_frozen BK1099.out 0; have hfz20_1 := blk_frozen BK1099.out 1; have hfz20_2 := blk_frozen BK1099.out 2; have hfz20_3 := blk_frozen BK1099.out 3; have hfz20_4 := blk_frozen BK1099.out 4; have hfz20_5 := blk_frozen BK1099.out 5; have hfz20_6 := blk_frozen BK1099.out 6) | ((with_reducible refine gate_callee (f := 38) rfl ?_); refine goesL_ (some 8) rfl rfl Try.func38 (by kernel_rfl) rfl #[.agg #[.int .u8 a0_0, .int .i64 a0_1, .int .i64 a0_2, .int .i64 a0_3, .int .i64 a0_4, .int .i64 a0_5, .slice A0_6 l0_6.length c0_6]] rfl (by (try simp only [List.map_toArray, List.map_cons, List.map_nil]); rfl) ?_; (with_reducible refine (sashref05_May.calls k a0_0 a0_1 a0_2 a0_3 a0_4 a0_5 _ _ l0_6 true _ ?side1 ?side2 A4.out).mono ?_); (case side1 => repeat (exact (Kd.C_below HR0_6.out HB.out))); (case side2 => exact HC0_6.out); rintro e w21 ⟨rfl, hb⟩; refine ⟨_, rfl, ?_⟩; replace BK1099 := Aside0.mk (blk_below BK1099.out hb); replace HB := Aside0.mk (below_step (by repeat ((with_reducible exact HB.out))) hb); (try clear hb); have hcz22_0 : w21.cell? ⟨gb1099, 0, none⟩ = some (.int .u8 a0_0) := (blk_cell BK1099.out 0).trans rfl; have hcz22_1 : w21.cell? ⟨gb1099, 1, none⟩ = some (.int .i64 a0_1) := (blk_cell BK1099.out 1).trans rfl; have hcz22_2 : w21.cell? ⟨gb1099, 2, none⟩ = some (.int .i64 a0_2) := (blk_cell BK1099.out 2).trans rfl; have hcz22_3 : w21.cell? ⟨gb1099, 3, none⟩ = some (.int .i64 a0_3) := (blk_cell BK1099.out 3).trans rfl; have hcz22_4 : w21.cell? ⟨gb1099, 4, none⟩ = some (.int .i64 a0_4) := (blk_cell BK1099.out 4).trans rfl; have hcz22_5 : w21.cell? ⟨gb1099, 5, none⟩ = some (.int .i64 a0_5) := (blk_cell BK1099.out 5).trans rfl; have hcz22_6 : w21.cell? ⟨gb1099, 6, none⟩ = some (.slice A0_6 l0_6.length c0_6) := (blk_cell BK1099.out 6).trans rfl; have hfz22_0 := blk_frozen BK1099.out 0; have hfz22_1 := blk_frozen BK1099.out 1; have hfz22_2 := blk_frozen BK1099.out 2; have hfz22_3 := blk_frozen BK1099.out 3; have hfz22_4 := blk_frozen BK1099.out 4; have hfz22_5 := blk_frozen BK1099.out 5; have hfz22_6 := blk_frozen BK1099.out 6) | (go_at_call 152; (with_reducible refine (sashref08_Of.calls k a0_0 a0_1 a0_2 a0_3 a0_4 a0_5 _ _ l0_6 1 t1101 _ ?side1 ?side2 A6.out).mono ?_); (case side1 => repeat (exact (Kd.C_below HR0_6.out HB.out))); (case side2 => exact HC0_6.out); rintro e w23 ⟨rfl, hb⟩; replace BK1099 := Aside0.mk (blk_below BK1099.out hb); replace HB := Aside0.mk (below_step (by repeat ((with_reducible exact HB.out))) hb); (try clear hb); have hcz24_0 : w23.cell? ⟨gb1099, 0, none⟩ = some (.int .u8 a0_0) := (blk_cell BK1099.out 0).trans rfl; have hcz24_1 : w23.cell? ⟨gb1099, 1, none⟩ = some (.int .i64 a0_1) := (blk_cell BK1099.out 1).trans rfl; have hcz24_2 : w23.cell? ⟨gb1099, 2, none⟩ = some (.int .i64 a0_2) := (blk_cell BK1099.out 2).trans rfl; have hcz24_3 : w23.cell? ⟨gb1099, 3, none⟩ = some (.int .i64 a0_3) := (blk_cell BK1099.out 3).trans rfl; have hcz24_4 : w23.cell? ⟨gb1099, 4, none⟩ = some (.int .i64 a0_4) := (blk_cell BK1099.out 4).trans rfl; have hcz24_5 : w23.cell? ⟨gb1099, 5, none⟩ = some (.int .i64 a0_5) := (blk_cell BK1099.out 5).trans rfl; have hcz24_6 : w23.cell? ⟨gb1099, 6, none⟩ = some (.slice A0_6 l0_6.length c0_6) := (blk_cell BK1099.out 6).trans rfl; have hfz24_0 := blk_frozen BK1099.out 0; have hfz24_1 := blk_frozen BK1099.out 1; have hfz24_2 := blk_frozen BK1099.out 2; have hfz24_3 := blk_frozen BK1099.out 3; have hfz24_4 := blk_frozen BK1099.out 4; have hfz24_5 := blk_frozen BK1099.out 5; have hfz24_6 := blk_frozen BK1099.out 6) | (go_at_call 152; (with_reducible refine (sashref08_Of.calls k a0_0 a0_1 a0_2 a0_3 a0_4 a0_5 _ _ l0_6 2 t1102 _ ?side1 ?side2 A9.out).mono ?_); (case side1 => repeat (exact (Kd.C_below HR0_6.out HB.out))); (case side2 => exact HC0_6.out); rintro e w25 ⟨rfl, hb⟩; replace BK1099 := Aside0.mk (blk_below BK1099.out hb); replace HB := Aside0.mk (below_step (by repeat ((with_reducible exact HB.out))) hb); (try clear hb)))
     go_ret
     exact ⟨by rfl, by repeat ((with_reducible exact HB.out))⟩
   ·rw [if_neg c8] at H
    have c8b0 : decide (a1 ≤ (wrap64 (10000 - a0_1))) = false := decide_eq_false c8
    clear c8
    obtain rfl := Option.some.inj H
    go_enter Try.func97, Try.ntmps97
    go_wp2_with (first | ((with_reducible refine gate_dst (N := 3) rfl ?_); refine box_event ?hg (N := 3) ?hd (cs := #[.int .u8 a0_0, .int .i64 a0_1, .int .i64 a0_2, .int .i64 a0_3, .int .i64 a0_4, .int .i64 a0_5, .slice A0_6 l0_6.length c0_6]) (t := 26) ?hr ?_; (case hd => rfl); (case hg => rfl); (case hr => (go_simp; done)); intro gb1099 hg w26 hbox hb; have BK1099 := Aside0.mk (hbox); replace HB := Aside0.mk (below_step (by repeat ((with_reducible exact HB.out))) hb); clear hb hbox hg; have hcz27_0 : w26.cell? ⟨gb1099, 0, none⟩ = some (.int .u8 a0_0) := (blk_cell BK1099.out 0).trans rfl; have hcz27_1 : w26.cell? ⟨gb1099, 1, none⟩ = some (.int .i64 a0_1) := (blk_cell BK1099.out 1).trans rfl; have hcz27_2 : w26.cell? ⟨gb1099, 2, none⟩ = some (.int .i64 a0_2) := (blk_cell BK1099.out 2).trans rfl; have hcz27_3 : w26.cell? ⟨gb1099, 3, none⟩ = some (.int .i64 a0_3) := (blk_cell BK1099.out 3).trans rfl; have hcz27_4 : w26.cell? ⟨gb1099, 4, none⟩ = some (.int .i64 a0_4) := (blk_cell BK1099.out 4).trans rfl; have hcz27_5 : w26.cell? ⟨gb1099, 5, none⟩ = some (.int .i64 a0_5) := (blk_cell BK1099.out 5).trans rfl; have hcz27_6 : w26.cell? ⟨gb1099, 6, none⟩ = some (.slice A0_6 l0_6.length c0_6) := (blk_cell BK1099.out 6).trans rfl; have hfz27_0 := blk_frozen BK1099.out 0; have hfz27_1 := blk_frozen BK1099.out 1; have hfz27_2 := blk_frozen BK1099.out 2; have hfz27_3 := blk_frozen BK1099.out 3; have hfz27_4 := blk_frozen BK1099.out 4; have hfz27_5 := blk_frozen BK1099.out 5; have hfz27_6 := blk_frozen BK1099.out 6) | ((with_reducible refine gate_callee (f := 38) rfl ?_); refine goesL_ (some 8) rfl rfl Try.func38 (by kernel_rfl) rfl #[.agg #[.int .u8 a0_0, .int .i64 a0_1, .int .i64 a0_2, .int .i64 a0_3, .int .i64 a0_4, .int .i64 a0_5, .slice A0_6 l0_6.length c0_6]] rfl (by (try simp only [List.map_toArray, List.map_cons, List.map_nil]); rfl) ?_; (with_reducible refine (sashref05_May.calls k a0_0 a0_1 a0_2 a0_3 a0_4 a0_5 _ _ l0_6 true _ ?side1 ?side2 A4.out).mono ?_); (case side1 => repeat (exact (Kd.C_below HR0_6.out HB.out))); (case side2 => exact HC0_6.out); rintro e w28 ⟨rfl, hb⟩; refine ⟨_, rfl, ?_⟩; replace BK1099 := Aside0.mk (blk_below BK1099.out hb); replace HB := Aside0.mk (below_step (by repeat ((with_reducible exact HB.out))) hb); (try clear hb); have hcz29_0 : w28.cell? ⟨gb1099, 0, none⟩ = some (.int .u8 a0_0) := (blk_cell BK1099.out 0).trans rfl; have hcz29_1 : w28.cell? ⟨gb1099, 1, none⟩ = some (.int .i64 a0_1) := (blk_cell BK1099.out 1).trans rfl; have hcz29_2 : w28.cell? ⟨gb1099, 2, none⟩ = some (.int .i64 a0_2) := (blk_cell BK1099.out 2).trans rfl; have hcz29_3 : w28.cell? ⟨gb1099, 3, none⟩ = some (.int .i64 a0_3) := (blk_cell BK1099.out 3).trans rfl; have hcz29_4 : w28.cell? ⟨gb1099, 4, none⟩ = some (.int .i64 a0_4) := (blk_cell BK1099.out 4).trans rfl; have hcz29_5 : w28.cell? ⟨gb1099, 5, none⟩ = some (.int .i64 a0_5) := (blk_cell BK1099.out 5).trans rfl; have hcz29_6 : w28.cell? ⟨gb1099, 6, none⟩ = some (.slice A0_6 l0_6.length c0_6) := (blk_cell BK1099.out 6).trans rfl; have hfz29_0 := blk_frozen BK1099.out 0; have hfz29_1 := blk_frozen BK1099.out 1; have hfz29_2 := blk_frozen BK1099.out 2; have hfz29_3 := blk_frozen BK1099.out 3; have hfz29_4 := blk_frozen BK1099.out 4; have hfz29_5 := blk_frozen BK1099.out 5; have hfz29_6 := blk_frozen BK1099.out 6) | (go_at_call 152; (with_reducible refine (sashref08_Of.calls k a0_0 a0_1 a0_2 a0_3 a0_4 a0_5 _ _ l0_6 1 t1101 _ ?side1 ?side2 A6.out).mono ?_); (case side1 => repeat (exact (Kd.C_below HR0_6.out HB.out))); (case side2 => exact HC0_6.out); rintro e w30 ⟨rfl, hb⟩; replace BK1099 := Aside0.mk (blk_below BK1099.out hb); replace HB := Aside0.mk (below_step (by repeat ((with_reducible exact HB.out))) hb); (try clear hb); have hcz31_0 : w30.cell? ⟨gb1099, 0, none⟩ = some (.int .u8 a0_0) := (blk_cell BK1099.out 0).trans rfl; have hcz31_1 : w30.cell? ⟨gb1099, 1, none⟩ = some (.int .i64 a0_1) := (blk_cell BK1099.out 1).trans rfl; have hcz31_2 : w30.cell? ⟨gb1099, 2, none⟩ = some (.int .i64 a0_2) := (blk_cell BK1099.out 2).trans rfl; have hcz31_3 : w30.cell? ⟨gb1099, 3, none⟩ = some (.int .i64 a0_3) := (blk_cell BK1099.out 3).trans rfl; have hcz31_4 : w30.cell? ⟨gb1099, 4, none⟩ = some (.int .i64 a0_4) := (blk_cell BK1099.out 4).trans rfl; have hcz31_5 : w30.cell? ⟨gb1099, 5, none⟩ = some (.int .i64 a0_5) := (blk_cell BK1099.out 5).trans rfl; have hcz31_6 : w30.cell? ⟨gb1099, 6, none⟩ = some (.slice A0_6 l0_6.length c0_6) := (blk_cell BK1099.out 6).trans rfl; have hfz31_0 := blk_frozen BK1099.out 0; have hfz31_1 := blk_frozen BK1099.out 1; have hfz31_2 := blk_frozen BK1099.out 2; have hfz31_3 := blk_frozen BK1099.out 3; have hfz31_4 := blk_frozen BK1099.out 4; have hfz31_5 := blk_frozen BK1099.out 5; have hfz31_6 := blk_frozen BK1099.out 6))
    go_ret
    exact ⟨by rfl, by repeat ((with_reducible exact HB.out))⟩
  ·rw [if_neg c7] at H
   have c7b0 : decide (t1101 ≤ a1) = false := decide_eq_false c7
   clear c7
   obtain rfl := Option.some.inj H
   go_enter Try.func97, Try.ntmps97
   go_wp2_with (first | ((with_reducible refine gate_dst (N := 3) rfl ?_); refine box_event ?hg (N := 3) ?hd (cs := #[.int .u8 a0_0, .int .i64 a0_1, .int .i64 a0_2, .int .i64 a0_3, .int .i64 a0_4, .int .i64 a0_5, .slice A0_6 l0_6.length c0_6]) (t := 26) ?hr ?_; (case hd => rfl); (case hg => rfl); (case hr => (go_simp; done)); intro gb1099 hg w32 hbox hb; have BK1099 := Aside0.mk (hbox); replace HB := Aside0.mk (below_step (by repeat ((with_reducible exact HB.out))) hb); clear hb hbox hg; have hcz33_0 : w32.cell? ⟨gb1099, 0, none⟩ = some (.int .u8 a0_0) := (blk_cell BK1099.out 0).trans rfl; have hcz33_1 : w32.cell? ⟨gb1099, 1, none⟩ = some (.int .i64 a0_1) := (blk_cell BK1099.out 1).trans rfl; have hcz33_2 : w32.cell? ⟨gb1099, 2, none⟩ = some (.int .i64 a0_2) := (blk_cell BK1099.out 2).trans rfl; have hcz33_3 : w32.cell? ⟨gb1099, 3, none⟩ = some (.int .i64 a0_3) := (blk_cell BK1099.out 3).trans rfl; have hcz33_4 : w32.cell? ⟨gb1099, 4, none⟩ = some (.int .i64 a0_4) := (blk_cell BK1099.out 4).trans rfl; have hcz33_5 : w32.cell? ⟨gb1099, 5, none⟩ = some (.int .i64 a0_5) := (blk_cell BK1099.out 5).trans rfl; have hcz33_6 : w32.cell? ⟨gb1099, 6, none⟩ = some (.slice A0_6 l0_6.length c0_6) := (blk_cell BK1099.out 6).trans rfl; have hfz33_0 := blk_frozen BK1099.out 0; have hfz33_1 := blk_frozen BK1099.out 1; have hfz33_2 := blk_frozen BK1099.out 2; have hfz33_3 := blk_frozen BK1099.out 3; have hfz33_4 := blk_frozen BK1099.out 4; have hfz33_5 := blk_frozen BK1099.out 5; have hfz33_6 := blk_frozen BK1099.out 6) | ((with_reducible refine gate_callee (f := 38) rfl ?_); refine goesL_ (some 8) rfl rfl Try.func38 (by kernel_rfl) rfl #[.agg #[.int .u8 a0_0, .int .i64 a0_1, .int .i64 a0_2, .int .i64 a0_3, .int .i64 a0_4, .int .i64 a0_5, .slice A0_6 l0_6.length c0_6]] rfl (by (try simp only [List.map_toArray, List.map_cons, List.map_nil]); rfl) ?_; (with_reducible refine (sashref05_May.calls k a0_0 a0_1 a0_2 a0_3 a0_4 a0_5 _ _ l0_6 true _ ?side1 ?side2 A4.out).mono ?_); (case side1 => repeat (exact (Kd.C_below HR0_6.out HB.out))); (case side2 => exact HC0_6.out); rintro e w34 ⟨rfl, hb⟩; refine ⟨_, rfl, ?_⟩; replace BK1099 := Aside0.mk (blk_below BK1099.out hb); replace HB := Aside0.mk (below_step (by repeat ((with_reducible exact HB.out))) hb); (try clear hb); have hcz35_0 : w34.cell? ⟨gb1099, 0, none⟩ = some (.int .u8 a0_0) := (blk_cell BK1099.out 0).trans rfl; have hcz35_1 : w34.cell? ⟨gb1099, 1, none⟩ = some (.int .i64 a0_1) := (blk_cell BK1099.out 1).trans rfl; have hcz35_2 : w34.cell? ⟨gb1099, 2, none⟩ = some (.int .i64 a0_2) := (blk_cell BK1099.out 2).trans rfl; have hcz35_3 : w34.cell? ⟨gb1099, 3, none⟩ = some (.int .i64 a0_3) := (blk_cell BK1099.out 3).trans rfl; have hcz35_4 : w34.cell? ⟨gb1099, 4, none⟩ = some (.int .i64 a0_4) := (blk_cell BK1099.out 4).trans rfl; have hcz35_5 : w34.cell? ⟨gb1099, 5, none⟩ = some (.int .i64 a0_5) := (blk_cell BK1099.out 5).trans rfl; have hcz35_6 : w34.cell? ⟨gb1099, 6, none⟩ = some (.slice A0_6 l0_6.length c0_6) := (blk_cell BK1099.out 6).trans rfl; have hfz35_0 := blk_frozen BK1099.out 0; have hfz35_1 := blk_frozen BK1099.out 1; have hfz35_2 := blk_frozen BK1099.out 2; have hfz35_3 := blk_frozen BK1099.out 3; have hfz35_4 := blk_frozen BK1099.out 4; have hfz35_5 := blk_frozen BK1099.out 5; have hfz35_6 := blk_frozen BK1099.out 6) | (go_at_call 152; (with_reducible refine (sashref08_Of.calls k a0_0 a0_1 a0_2 a0_3 a0_4 a0_5 _ _ l0_6 1 t1101 _ ?side1 ?side2 A6.out).mono ?_); (case side1 => repeat (exact (Kd.C_below HR0_6.out HB.out))); (case side2 => exact HC0_6.out); rintro e w36 ⟨rfl, hb⟩; replace BK1099 := Aside0.mk (blk_below BK1099.out hb); replace HB := Aside0.mk (below_step (by repeat ((with_reducible exact HB.out))) hb); (try clear hb)))
   go_ret
   exact ⟨by rfl, by repeat ((with_reducible exact HB.out))⟩
 ·replace c5 := Bool.eq_false_iff.mpr c5
  subst c5
  have H1 : (some false) = some r := by rw [if_neg (show ¬ (false = true) by decide)] at H; exact H
  clear H
  have H := H1
  clear H1
  obtain rfl := Option.some.inj H
  go_enter Try.func97, Try.ntmps97
  go_wp2_with (first | ((with_reducible refine gate_dst (N := 3) rfl ?_); refine box_event ?hg (N := 3) ?hd (cs := #[.int .u8 a0_0, .int .i64 a0_1, .int .i64 a0_2, .int .i64 a0_3, .int .i64 a0_4, .int .i64 a0_5, .slice A0_6 l0_6.length c0_6]) (t := 26) ?hr ?_; (case hd => rfl); (case hg => rfl); (case hr => (go_simp; done)); intro gb1099 hg w37 hbox hb; have BK1099 := Aside0.mk (hbox); replace HB := Aside0.mk (below_step (by repeat ((with_reducible exact HB.out))) hb); clear hb hbox hg; have hcz38_0 : w37.cell? ⟨gb1099, 0, none⟩ = some (.int .u8 a0_0) := (blk_cell BK1099.out 0).trans rfl; have hcz38_1 : w37.cell? ⟨gb1099, 1, none⟩ = some (.int .i64 a0_1) := (blk_cell BK1099.out 1).trans rfl; have hcz38_2 : w37.cell? ⟨gb1099, 2, none⟩ = some (.int .i64 a0_2) := (blk_cell BK1099.out 2).trans rfl; have hcz38_3 : w37.cell? ⟨gb1099, 3, none⟩ = some (.int .i64 a0_3) := (blk_cell BK1099.out 3).trans rfl; have hcz38_4 : w37.cell? ⟨gb1099, 4, none⟩ = some (.int .i64 a0_4) := (blk_cell BK1099.out 4).trans rfl; have hcz38_5 : w37.cell? ⟨gb1099, 5, none⟩ = some (.int .i64 a0_5) := (blk_cell BK1099.out 5).trans rfl; have hcz38_6 : w37.cell? ⟨gb1099, 6, none⟩ = some (.slice A0_6 l0_6.length c0_6) := (blk_cell BK1099.out 6).trans rfl; have hfz38_0 := blk_frozen BK1099.out 0; have hfz38_1 := blk_frozen BK1099.out 1; have hfz38_2 := blk_frozen BK1099.out 2; have hfz38_3 := blk_frozen BK1099.out 3; have hfz38_4 := blk_frozen BK1099.out 4; have hfz38_5 := blk_frozen BK1099.out 5; have hfz38_6 := blk_frozen BK1099.out 6) | ((with_reducible refine gate_callee (f := 38) rfl ?_); refine goesL_ (some 8) rfl rfl Try.func38 (by kernel_rfl) rfl #[.agg #[.int .u8 a0_0, .int .i64 a0_1, .int .i64 a0_2, .int .i64 a0_3, .int .i64 a0_4, .int .i64 a0_5, .slice A0_6 l0_6.length c0_6]] rfl (by (try simp only [List.map_toArray, List.map_cons, List.map_nil]); rfl) ?_; (with_reducible refine (sashref05_May.calls k a0_0 a0_1 a0_2 a0_3 a0_4 a0_5 _ _ l0_6 false _ ?side1 ?side2 A4.out).mono ?_); (case side1 => repeat (exact (Kd.C_below HR0_6.out HB.out))); (case side2 => exact HC0_6.out); rintro e w39 ⟨rfl, hb⟩; refine ⟨_, rfl, ?_⟩; replace BK1099 := Aside0.mk (blk_below BK1099.out hb); replace HB := Aside0.mk (below_step (by repeat ((with_reducible exact HB.out))) hb); (try clear hb)))
  go_ret
  exact ⟨by rfl, by repeat ((with_reducible exact HB.out))⟩

end Go.Proofs.Ytfdmfgaiblfbhaa.P
/- May a tree be, by the reference: plain data. -/
namespace Go.Proofs.Ytfdmfgaiblfbhaa.P
open Go.RowKit Go.Proofs.YtfdmfgaiblfbhaaW.PrintWords Go.Proofs.YtfdmfgaiblfbhaaW.PrintLast Go.Proofs.YtfdmfgaiblfbhaaW.PrintMore

theorem may_ev (c : S26) (h : sz c ≤ 1048576) : Ev (fun k => sashref05_May.f k c.f0 c.f1.f0 c.f1.f1 c.f1.f2 c.f1.f3 c.f2 c.f3) (mayC c) := by
  unfold sashref05_May.f
  refine Ev.bind (all_cells _ c h (Nat.le_refl _)) ?_
  by_cases h2 : ((allC c).length : Int) > 20000
  · refine ev_pos h2 ?_
    have : mayC c = false := by
      unfold mayC sz
      rw [decide_eq_false (by omega), Bool.false_and]
    rw [this]
    exact Ev.now _
  refine ev_neg h2 ?_
  have hm : mayC c = ((allC c).all okC && distinctC (leavesC c)) := by
    unfold mayC sz
    rw [decide_eq_true (by omega), Bool.true_and]
  have hlv : (leavesC c).length ≤ 1048576 := by have := leaves_len c; omega
  -- the leaves' numbers
  have inner : ∀ (pre : List S26) (x : S26) (rest : List S26), pre ++ x :: rest = leavesC c → ∀ b : Bool, (apartTo pre x = true → Ev (fun k => sashref05_May.l1 k (leavesC c) ((leavesC c).length : Int) ((pre ++ [x]).length : Int)) b) → (apartTo pre x = false → b = false) →
      ∀ (q p : List S26), p ++ q = pre → apartTo p x = true → Ev (fun k => sashref05_May.l2 k (leavesC c) (pre.length : Int) (p.length : Int) ((leavesC c).length : Int) (pre.length : Int)) b := by
    intro pre x rest hp b hb hf q
    have hl : (pre.length : Int) < ((leavesC c).length : Int) := by rw [← hp, List.length_append, List.length_cons]; omega
    have hr : rd_T26 (leavesC c) (pre.length : Int) = x := by rw [← hp]; exact rd26_in pre x rest
    have hu : wrap64 ((pre.length : Int) + 1) = ((pre ++ [x]).length : Int) := up_in pre x rest (by rw [hp]; omega)
    induction q with
    | nil =>
      intro p hq ha
      rw [List.append_nil] at hq
      subst hq
      refine Ev.step (fun k => ?_) (hb ha)
      simp only [sashref05_May.l2]
      rw [if_neg (by omega), hu]
    | cons y ys ihq =>
      intro p hq ha
      have hpl : (p.length : Int) < (pre.length : Int) := by rw [← hq, List.length_append, List.length_cons]; omega
      have hpr : rd_T26 (leavesC c) (p.length : Int) = y := by rw [← hp, ← hq, List.append_assoc, List.cons_append]; exact rd26_in p y _
      have hpu : wrap64 ((p.length : Int) + 1) = ((p ++ [y]).length : Int) := up_in p y ys (by rw [hq]; omega)
      by_cases he : x.f2 = y.f2
      · have hbf : b = false := hf (by
          unfold apartTo
          rw [← hq, List.all_append, List.all_cons, decide_eq_false (by simpa using he), Bool.false_and, Bool.and_false])
        rw [hbf]
        refine Ev.step (f := fun _ => some false) (fun k => ?_) (Ev.now _)
        simp only [sashref05_May.l2]
        rw [if_pos hpl, if_pos (by omega), if_pos hl, if_pos (by omega), if_pos (by omega), hr, hpr, if_pos he]
      · have e2 := ihq (p ++ [y]) (by rw [List.append_assoc]; exact hq) (by
          unfold apartTo at ha ⊢
          rw [List.all_append, ha, Bool.true_and, List.all_cons, decide_eq_true (by simpa using he)]
          rfl)
        refine Ev.step (fun k => ?_) e2
        simp only [sashref05_May.l2]
        rw [if_pos hpl, if_pos (by omega), if_pos hl, if_pos (by omega), if_pos (by omega), hr, hpr, if_neg he, hpu]
  have outer : ∀ (rest pre : List S26), pre ++ rest = leavesC c → distinctC pre = true → Ev (fun k => sashref05_May.l1 k (leavesC c) ((leavesC c).length : Int) (pre.length : Int)) (distinctC (leavesC c)) := by
    intro rest
    induction rest with
    | nil =>
      intro pre hp hd
      rw [List.append_nil] at hp
      have hd2 : distinctC (leavesC c) = true := by rw [← hp]; exact hd
      rw [hd2]
      refine Ev.step (f := fun _ => some true) (fun k => ?_) (Ev.now _)
      simp only [sashref05_May.l1]
      rw [if_neg (by rw [← hp]; omega)]
    | cons x xs ihr =>
      intro pre hp hd
      have hl : (pre.length : Int) < ((leavesC c).length : Int) := by rw [← hp, List.length_append, List.length_cons]; omega
      have e := inner pre x xs hp (distinctC (leavesC c)) (fun ha => ihr (pre ++ [x]) (by rw [List.append_assoc]; exact hp) (by rw [distinctC_app, hd, ha]; rfl)) (fun ha => by
        have := distinctC_pre (pre ++ [x]) xs (by rw [distinctC_app, ha, Bool.and_false])
        rwa [List.append_assoc, List.singleton_append, hp] at this) pre [] rfl rfl
      refine Ev.step (fun k => ?_) e
      simp only [sashref05_May.l1]
      rw [if_pos hl]
      rfl
  -- the cells
  have cells : ∀ (rest pre : List S26), pre ++ rest = allC c → pre.all okC = true → Ev (fun k => sashref05_May.l0 k (allC c) ((allC c).length : Int) (pre.length : Int) c.f0 c.f1.f0 c.f1.f1 c.f1.f2 c.f1.f3 c.f2 c.f3) (mayC c) := by
    intro rest
    induction rest with
    | nil =>
      intro pre hp ha
      rw [List.append_nil] at hp
      rw [hm, ← hp, ha, Bool.true_and, hp]
      refine Ev.step (f := fun k => (sashref05_Leaves.f k c.f0 c.f1.f0 c.f1.f1 c.f1.f2 c.f1.f3 c.f2 c.f3).bind fun t => sashref05_May.l1 k t (t.length : Int) 0) (fun k => ?_) (Ev.bind (leaves_ev c h) (outer (leavesC c) [] rfl rfl))
      simp only [sashref05_May.l0]
      rw [if_neg (by omega)]
    | cons x xs ihr =>
      intro pre hp ha
      have hsz : (allC c).length ≤ 1048576 := h
      have hl : (pre.length : Int) < ((allC c).length : Int) := by rw [← hp, List.length_append, List.length_cons]; omega
      have hr : rd_T26 (allC c) (pre.length : Int) = x := by rw [← hp]; exact rd26_in pre x xs
      have hu : wrap64 ((pre.length : Int) + 1) = ((pre ++ [x]).length : Int) := up_in pre x xs (by rw [hp]; omega)
      have hno : okC x = false → mayC c = false := fun hx => by
        rw [hm, ← hp, List.all_append, List.all_cons, hx, Bool.false_and, Bool.and_false, Bool.false_and]
      have hyes : okC x = true → Ev (fun k => sashref05_May.l0 k (allC c) ((allC c).length : Int) ((pre ++ [x]).length : Int) c.f0 c.f1.f0 c.f1.f1 c.f1.f2 c.f1.f3 c.f2 c.f3) (mayC c) := fun hx =>
        ihr (pre ++ [x]) (by rw [List.append_assoc]; exact hp) (by rw [List.all_append, ha, Bool.true_and, List.all_cons, hx]; rfl)
      have j1t : okC x = false → Ev (fun k => sashref05_May.j1 k (allC c) (pre.length : Int) ((allC c).length : Int) (pre.length : Int) true c.f0 c.f1.f0 c.f1.f1 c.f1.f2 c.f1.f3 c.f2 c.f3) (mayC c) := fun hx => by
        rw [hno hx]
        refine Ev.step (f := fun _ => some false) (fun k => ?_) (Ev.now _)
        simp only [sashref05_May.j1]
        rw [if_pos trivial]
      refine Ev.step (f := fun k => (sashref04_May.f x.f1.f0 x.f1.f1 x.f1.f2 x.f1.f3).bind fun t179 => (if t179 = true then (if x.f0 < 1 then (sashref05_May.j1 k (allC c) (pre.length : Int) ((allC c).length : Int) (pre.length : Int) true c.f0 c.f1.f0 c.f1.f1 c.f1.f2 c.f1.f3 c.f2 c.f3) else (sashref05_May.j1 k (allC c) (pre.length : Int) ((allC c).length : Int) (pre.length : Int) (decide (x.f0 > 3)) c.f0 c.f1.f0 c.f1.f1 c.f1.f2 c.f1.f3 c.f2 c.f3)) else (sashref05_May.j1 k (allC c) (pre.length : Int) ((allC c).length : Int) (pre.length : Int) true c.f0 c.f1.f0 c.f1.f1 c.f1.f2 c.f1.f3 c.f2 c.f3))) (fun k => ?_) ?_
      · simp only [sashref05_May.l0]
        rw [if_pos hl, if_pos (by omega), if_pos hl, hr]
      · refine Ev.bind (a := mayR x.f1) (ev_some fun k => refmay_some _ _ _ _) ?_
        by_cases hmr : mayR x.f1 = true
        · refine ev_pos hmr ?_
          by_cases h1 : x.f0 < 1
          · refine ev_pos h1 (j1t ?_)
            unfold okC
            rw [decide_eq_false (p := 1 ≤ x.f0 ∧ x.f0 ≤ 3) (by omega)]
            simp
          · refine ev_neg h1 ?_
            by_cases h3 : x.f0 > 3
            · rw [decide_eq_true h3]
              refine j1t ?_
              unfold okC
              rw [decide_eq_false (p := 1 ≤ x.f0 ∧ x.f0 ≤ 3) (by omega)]
              simp
            · rw [decide_eq_false h3]
              have hk : okC x = (decide (x.f0 = 1 → x.f3.length = 0 ∧ 0 ≤ x.f2 ∧ x.f2 ≤ 2147483647) && decide (x.f0 > 1 → 2 ≤ x.f3.length ∧ x.f2 = 0)) := by
                unfold okC
                rw [hmr, decide_eq_true (p := 1 ≤ x.f0 ∧ x.f0 ≤ 3) (by omega), Bool.true_and, Bool.true_and]
              have go : ∀ {f : Nat → Option Bool}, Ev f (mayC c) → (∀ k, sashref05_May.j1 (k + 1) (allC c) (pre.length : Int) ((allC c).length : Int) (pre.length : Int) false c.f0 c.f1.f0 c.f1.f1 c.f1.f2 c.f1.f3 c.f2 c.f3 = f k) → Ev (fun k => sashref05_May.j1 k (allC c) (pre.length : Int) ((allC c).length : Int) (pre.length : Int) false c.f0 c.f1.f0 c.f1.f1 c.f1.f2 c.f1.f3 c.f2 c.f3) (mayC c) := fun he hs => Ev.step hs he
              have base : ∀ k, sashref05_May.j1 (k + 1) (allC c) (pre.length : Int) ((allC c).length : Int) (pre.length : Int) false c.f0 c.f1.f0 c.f1.f1 c.f1.f2 c.f1.f3 c.f2 c.f3 =
                  (if x.f0 = 1 then (if (x.f3.length : Int) > 0 then (some false) else (if x.f2 < 0 then (some false) else (if x.f2 > 2147483647 then (some false) else (if x.f0 > 1 then (if (x.f3.length : Int) < 2 then (some false) else (if x.f2 = 0 then (sashref05_May.l0 k (allC c) ((allC c).length : Int) ((pre ++ [x]).length : Int) c.f0 c.f1.f0 c.f1.f1 c.f1.f2 c.f1.f3 c.f2 c.f3) else (some false))) else (sashref05_May.l0 k (allC c) ((allC c).length : Int) ((pre ++ [x]).length : Int) c.f0 c.f1.f0 c.f1.f1 c.f1.f2 c.f1.f3 c.f2 c.f3))))) else (if x.f0 > 1 then (if (x.f3.length : Int) < 2 then (some false) else (if x.f2 = 0 then (sashref05_May.l0 k (allC c) ((allC c).length : Int) ((pre ++ [x]).length : Int) c.f0 c.f1.f0 c.f1.f1 c.f1.f2 c.f1.f3 c.f2 c.f3) else (some false))) else (sashref05_May.l0 k (allC c) ((allC c).length : Int) ((pre ++ [x]).length : Int) c.f0 c.f1.f0 c.f1.f1 c.f1.f2 c.f1.f3 c.f2 c.f3))) := by
                intro k
                simp only [sashref05_May.j1]
                rw [if_neg (by simp), if_pos (by omega), if_pos hl, hr, hu]
              have bad : okC x = false → Ev (fun _ : Nat => some false) (mayC c) := fun hx => by rw [hno hx]; exact Ev.now _
              by_cases g1 : x.f0 = 1
              · by_cases g2 : (x.f3.length : Int) > 0
                · exact go (bad (by rw [hk, decide_eq_false (by omega), Bool.false_and])) (fun k => by rw [base, if_pos g1, if_pos g2])
                · by_cases g3 : x.f2 < 0
                  · exact go (bad (by rw [hk, decide_eq_false (by omega), Bool.false_and])) (fun k => by rw [base, if_pos g1, if_neg g2, if_pos g3])
                  · by_cases g4 : x.f2 > 2147483647
                    · exact go (bad (by rw [hk, decide_eq_false (by omega), Bool.false_and])) (fun k => by rw [base, if_pos g1, if_neg g2, if_neg g3, if_pos g4])
                    · exact go (hyes (by rw [hk, decide_eq_true (by omega), decide_eq_true (by omega)]; rfl)) (fun k => by rw [base, if_pos g1, if_neg g2, if_neg g3, if_neg g4, if_neg (by omega)])
              · by_cases g2 : (x.f3.length : Int) < 2
                · exact go (bad (by rw [hk, decide_eq_false (p := x.f0 > 1 → 2 ≤ x.f3.length ∧ x.f2 = 0) (by omega), Bool.and_false])) (fun k => by rw [base, if_neg g1, if_pos (by omega), if_pos g2])
                · by_cases g3 : x.f2 = 0
                  · exact go (hyes (by rw [hk, decide_eq_true (by omega), decide_eq_true (by omega)]; rfl)) (fun k => by rw [base, if_neg g1, if_pos (by omega), if_neg g2, if_pos g3])
                  · exact go (bad (by rw [hk, decide_eq_false (p := x.f0 > 1 → 2 ≤ x.f3.length ∧ x.f2 = 0) (by omega), Bool.and_false])) (fun k => by rw [base, if_neg g1, if_pos (by omega), if_neg g2, if_neg g3])
        · refine ev_neg hmr (j1t ?_)
          unfold okC
          rw [Bool.eq_false_iff.2 hmr, Bool.false_and, Bool.false_and, Bool.false_and]
  exact cells (allC c) [] rfl rfl
end Go.Proofs.Ytfdmfgaiblfbhaa.P
/- Whether a tree tiles, by the reference: plain data. -/
namespace Go.Proofs.Ytfdmfgaiblfbhaa.P
open Go.RowKit Go.Proofs.YtfdmfgaiblfbhaaW.PrintWords Go.Proofs.YtfdmfgaiblfbhaaW.PrintLast Go.Proofs.YtfdmfgaiblfbhaaW.PrintMore
theorem all_sz : ∀ (N : Nat), (∀ c : S26, sz c ≤ N → ∀ d, d ∈ allC c → sz d ≤ sz c) ∧ (∀ l : List S26, szL l ≤ N → ∀ d, d ∈ allL l → sz d ≤ szL l) := by
  intro N
  induction N with
  | zero =>
    refine ⟨fun c h => ?_, fun l h => ?_⟩
    · rw [sz_eq] at h; omega
    · cases l with
      | nil => intro d hd; rw [allL_nil] at hd; cases hd
      | cons z zs => rw [szL_cons, sz_eq] at h; omega
  | succ N ih =>
    have hC : ∀ c : S26, sz c ≤ N + 1 → ∀ d, d ∈ allC c → sz d ≤ sz c := by
      intro c h d hd
      have hs := sz_eq c
      rw [allC_eq] at hd
      rcases List.mem_cons.1 hd with rfl | hd
      · exact Nat.le_refl _
      · have := ih.2 c.f3 (by omega) d hd
        omega
    refine ⟨hC, fun l => ?_⟩
    induction l with
    | nil => intro _ d hd; rw [allL_nil] at hd; cases hd
    | cons x xs ihl =>
      intro h d hd
      rw [szL_cons] at h ⊢
      rw [allL_cons] at hd
      rcases List.mem_append.1 hd with hd | hd
      · have := hC x (by omega) d hd
        omega
      · have := ihl (by omega) d hd
        omega
theorem cutP_len (ax X Y W H : Int) : ∀ (ns : List Int) (off : Int), (cutP ax X Y W H off ns).length = ns.length := by
  intro ns
  induction ns with
  | nil => intro off; rfl
  | cons n ns ih => intro off; simp [cutP, ih]
theorem sizes_ev (c : S26) (h : c.f3.length ≤ 1048576) : Ev (fun k => sashref06_Sizes.f k c.f0 c.f1.f0 c.f1.f1 c.f1.f2 c.f1.f3 c.f2 c.f3) (sizesC c) := by
  have key : ∀ (rest pre : List S26), pre ++ rest = c.f3 → Ev (fun k => sashref06_Sizes.l0 k (pre.map (szK c)) (c.f3.length : Int) (pre.length : Int) c.f0 c.f1.f0 c.f1.f1 c.f1.f2 c.f1.f3 c.f2 c.f3) (sizesC c) := by
    intro rest
    induction rest with
    | nil =>
      intro pre hp
      rw [List.append_nil] at hp
      subst hp
      refine Ev.step (f := fun _ => some (sizesC c)) (fun k => ?_) (Ev.now _)
      simp only [sashref06_Sizes.l0]
      rw [if_neg (by omega)]
      rfl
    | cons x xs ih =>
      intro pre hp
      have hl : (pre.length : Int) < (c.f3.length : Int) := by rw [← hp, List.length_append, List.length_cons]; omega
      have hr : rd_T26 c.f3 (pre.length : Int) = x := by rw [← hp]; exact rd26_in pre x xs
      have hu : wrap64 ((pre.length : Int) + 1) = ((pre ++ [x]).length : Int) := up_in pre x xs (by rw [hp]; omega)
      have e2 := ih (pre ++ [x]) (by rw [List.append_assoc]; exact hp)
      have hm : (pre ++ [x]).map (szK c) = pre.map (szK c) ++ [szK c x] := by simp
      rw [hm] at e2
      refine Ev.step (fun k => ?_) e2
      simp only [sashref06_Sizes.l0]
      rw [if_pos hl, hr, hu, List.length_map]
      by_cases h2 : c.f0 = 2
      · rw [if_pos h2, if_pos (by omega), if_pos hl, if_pos (by omega), show szK c x = x.f1.f2 from if_pos h2]
      · rw [if_neg h2, if_pos (by omega), if_pos hl, if_pos (by omega), show szK c x = x.f1.f3 from if_neg h2]
  unfold sashref06_Sizes.f
  exact key c.f3 [] rfl
theorem one_ev (c : S26) (h : c.f3.length ≤ 20000) : ∃ ls : List S23, ls.length ≤ c.f3.length ∧ Ev (fun k => sashref06_one.f k c.f0 c.f1.f0 c.f1.f1 c.f1.f2 c.f1.f3 c.f2 c.f3) (ls, oneB c) := by
  unfold oneB oneT
  by_cases h1 : c.f0 = 1
  · refine ⟨[], by simp, Ev.congr (f := fun _ => some ([], true)) (fun k => ?_) ?_⟩
    · unfold sashref06_one.f
      rw [if_pos h1]
    · rw [show (c.f0 == 1) = true from by simp [h1], Bool.true_or]
      exact Ev.now _
  · rw [show (c.f0 == 1) = false from by simp [h1], Bool.false_or]
    obtain ⟨⟨l1, l2⟩, hg, _, t2⟩ := cutT_spec c h
    have hax : (c.f0 - 1) % 256 = axC c.f0 := by unfold axC; omega
    generalize cutT c = t at l1 l2 hg t2
    have main : ∀ ls : List S23, ∀ b : Bool, Ev (fun k => if t.2.2 = true then (sashref06_one.l0 k t.1 t.2.1 (t.1.length : Int) 0 c.f0 c.f1.f0 c.f1.f1 c.f1.f2 c.f1.f3 c.f2 c.f3) else (some (t.2.1, false))) (ls, b) → Ev (fun k => sashref06_one.f k c.f0 c.f1.f0 c.f1.f1 c.f1.f2 c.f1.f3 c.f2 c.f3) (ls, b) := by
      intro ls b he
      refine Ev.congr (f := fun k => (sashref06_Sizes.f k c.f0 c.f1.f0 c.f1.f1 c.f1.f2 c.f1.f3 c.f2 c.f3).bind fun s => (sashref04_Cut.f k c.f1.f0 c.f1.f1 c.f1.f2 c.f1.f3 (axC c.f0) s).bind fun bt => (if bt.2.2 = true then (sashref06_one.l0 k bt.1 bt.2.1 (bt.1.length : Int) 0 c.f0 c.f1.f0 c.f1.f1 c.f1.f2 c.f1.f3 c.f2 c.f3) else (some (bt.2.1, false)))) (fun k => ?_) (Ev.bind (sizes_ev c (by omega)) (Ev.bind t2 he))
      unfold sashref06_one.f
      rw [if_neg h1, hax]
    cases ht : t.2.2 with
    | false =>
      rw [Bool.false_and]
      exact ⟨t.2.1, l2, main _ _ (ev_neg (by rw [ht]; simp) (Ev.now _))⟩
    | true =>
      obtain ⟨_, gp, _, _⟩ := hg ht
      have hlen : t.1.length = c.f3.length := by rw [gp, cutP_len]; simp [sizesC]
      rw [show (c.f3.length == t.1.length) = true from by simp [hlen], Bool.true_and, Bool.true_and]
      have key : ∀ (rest pre : List S23) (rb pb : List S26), pre ++ rest = t.1 → pb ++ rb = c.f3 → pre.length = pb.length → ∃ ls : List S23, ls.length ≤ c.f3.length ∧ Ev (fun k => sashref06_one.l0 k t.1 t.2.1 (t.1.length : Int) (pre.length : Int) c.f0 c.f1.f0 c.f1.f1 c.f1.f2 c.f1.f3 c.f2 c.f3) (ls, eqL (fun k r => rectB k.f1 r) rb rest) := by
        intro rest
        induction rest with
        | nil =>
          intro pre rb pb hp hb he
          rw [List.append_nil] at hp
          have hr : rb = [] := by
            apply List.eq_nil_of_length_eq_zero
            have h2 := congrArg List.length hb
            rw [List.length_append] at h2
            rw [← hp] at hlen
            omega
          subst hr
          refine ⟨t.2.1, l2, Ev.step (f := fun _ => some (t.2.1, true)) (fun k => ?_) (Ev.now _)⟩
          simp only [sashref06_one.l0]
          rw [if_neg (by rw [hp]; omega)]
        | cons r rs ih =>
          intro pre rb pb hp hb he
          have h4 : t.1.length = pre.length + (rs.length + 1) := by rw [← hp, List.length_append, List.length_cons]
          cases rb with
          | nil => rw [List.append_nil] at hb; rw [← hb] at hlen; omega
          | cons x xs =>
            have hl : (pre.length : Int) < (t.1.length : Int) := by omega
            have hr : rd_T26 c.f3 (pre.length : Int) = x := by rw [he, ← hb]; exact rd26_in pb x xs
            have hr2 : rd_T23 t.1 (pre.length : Int) = r := by rw [← hp]; simp [rd_T23, List.getD_eq_getElem?_getD]
            have hu : wrap64 ((pre.length : Int) + 1) = ((pre ++ [r]).length : Int) := up_in pre r rs (by rw [hp]; omega)
            have hq : (!(r.f0 == x.f1.f0) || (!(r.f1 == x.f1.f1) || (!(r.f2 == x.f1.f2) || (!(r.f3 == x.f1.f3))))) = !(rectB x.f1 r) := by
              unfold rectB
              rw [Bool.not_and, Bool.not_and, Bool.not_and, Bool.beq_comm (a := r.f0), Bool.beq_comm (a := r.f1), Bool.beq_comm (a := r.f2), Bool.beq_comm (a := r.f3)]
            simp only [eqL]
            cases hx : rectB x.f1 r with
            | false =>
              refine ⟨[], by simp, Ev.step (f := fun _ => some ([], false)) (fun k => ?_) (Ev.now _)⟩
              simp only [sashref06_one.l0]
              rw [if_pos hl, if_pos (by omega), if_pos hl, if_pos (by omega), hr, hr2, hq, hx, if_pos (by rfl)]
            | true =>
              obtain ⟨ls, a1, a2⟩ := ih (pre ++ [r]) xs (pb ++ [x]) (by rw [List.append_assoc]; exact hp) (by rw [List.append_assoc]; exact hb) (by rw [List.length_append, List.length_append, he]; rfl)
              refine ⟨ls, a1, Ev.step (fun k => ?_) a2⟩
              simp only [sashref06_one.l0]
              rw [if_pos hl, if_pos (by omega), if_pos hl, if_pos (by omega), hr, hr2, hq, hx, if_neg (by simp), hu]
      obtain ⟨ls, a1, a2⟩ := key t.1 [] c.f3 [] rfl rfl rfl
      exact ⟨ls, a1, main _ _ (ev_pos ht a2)⟩
theorem ref_tiles_ev (c : S26) (hz : sz c ≤ 1048576) : Ev (fun k => sashref06_Tiles.f k c.f0 c.f1.f0 c.f1.f1 c.f1.f2 c.f1.f3 c.f2 c.f3) (tilesC c) := by
  unfold tilesC
  cases hm : mayC c with
  | false =>
    rw [Bool.false_and]
    refine Ev.congr (fun k => ?_) (Ev.bind (a := (([], 1, 0) : List S23 × Int × Int)) (g := fun k => sashref06_Check.f k c.f0 c.f1.f0 c.f1.f1 c.f1.f2 c.f1.f3 c.f2 c.f3) (f := fun _ bt => some (bt.2.1 == 0)) ?_ (Ev.now _))
    · rfl
    · unfold sashref06_Check.f
      have e := may_ev c hz
      rw [hm] at e
      exact Ev.bind (Ev.now ([] : List S23)) (Ev.bind e (ev_neg (by simp) (Ev.now _)))
  | true =>
    rw [Bool.true_and]
    have hs := may_small hm
    have hlen : ∀ d, d ∈ allC c → d.f3.length ≤ 20000 := fun d hd => by
      have h1 := (all_sz (sz c)).1 c (Nat.le_refl _) d hd
      have h2 := sz_eq d
      have h3 := szL_len d.f3
      omega
    have key : ∀ (rest pre : List S26), pre ++ rest = allC c → ∀ out : List S23, out.length ≤ 20001 * pre.length → ∃ r : List S23 × Int × Int, Ev (fun k => sashref06_Check.l0 k ([] : List S23) (allC c) out ((allC c).length : Int) (pre.length : Int)) r ∧ (r.2.1 == 0) = rest.all oneB := by
      intro rest
      induction rest with
      | nil =>
        intro pre hp out ho
        rw [List.append_nil] at hp
        refine ⟨(out, 0, 0), Ev.step (f := fun _ => some (out, 0, 0)) (fun k => ?_) (Ev.now _), rfl⟩
        simp only [sashref06_Check.l0]
        rw [if_neg (by rw [hp]; omega)]
      | cons x xs ih =>
        intro pre hp out ho
        have hl : (pre.length : Int) < ((allC c).length : Int) := by rw [← hp, List.length_append, List.length_cons]; omega
        have hl2 : (allC c).length = sz c := rfl
        have hr : rd_T26 (allC c) (pre.length : Int) = x := by rw [← hp]; exact rd26_in pre x xs
        have hu : wrap64 ((pre.length : Int) + 1) = ((pre ++ [x]).length : Int) := up_in pre x xs (by rw [hp]; omega)
        have hx := hlen x (by rw [← hp]; simp)
        obtain ⟨ls, b1, b2⟩ := one_ev x hx
        rw [List.all_cons]
        cases ho1 : oneB x with
        | false =>
          rw [ho1] at b2
          refine ⟨([], 5, (pre.length : Int)), Ev.step (f := fun k => (sashref06_one.f k x.f0 x.f1.f0 x.f1.f1 x.f1.f2 x.f1.f3 x.f2 x.f3).bind fun bt => (if bt.2 = true then (if out.length + bt.1.length < 4398046511104 then (sashref06_Check.l0 k ([] : List S23) (allC c) (out ++ bt.1) ((allC c).length : Int) (wrap64 ((pre.length : Int) + 1))) else (none)) else (some (([] : List S23), 5, (pre.length : Int))))) (fun k => ?_) (Ev.bind b2 (ev_neg (by simp) (Ev.now _))), by rfl⟩
          simp only [sashref06_Check.l0]
          rw [if_pos hl, if_pos (by omega), if_pos hl, hr]
        | true =>
          rw [ho1] at b2
          obtain ⟨r, c1, c2⟩ := ih (pre ++ [x]) (by rw [List.append_assoc]; exact hp) (out ++ ls) (by rw [List.length_append, List.length_append, List.length_singleton]; omega)
          refine ⟨r, Ev.step (f := fun k => (sashref06_one.f k x.f0 x.f1.f0 x.f1.f1 x.f1.f2 x.f1.f3 x.f2 x.f3).bind fun bt => (if bt.2 = true then (if out.length + bt.1.length < 4398046511104 then (sashref06_Check.l0 k ([] : List S23) (allC c) (out ++ bt.1) ((allC c).length : Int) (wrap64 ((pre.length : Int) + 1))) else (none)) else (some (([] : List S23), 5, (pre.length : Int))))) (fun k => ?_) (Ev.bind b2 (ev_pos rfl (ev_pos ?_ ?_))), by rw [c2, Bool.true_and]⟩
          · simp only [sashref06_Check.l0]
            rw [if_pos hl, if_pos (by omega), if_pos hl, hr]
          · have : pre.length ≤ 20000 := by omega
            show out.length + ls.length < 4398046511104
            omega
          · rw [hu]
            exact c1
    obtain ⟨r, e1, e2⟩ := key (allC c) [] rfl [] (by simp)
    have e3 : Ev (fun k => sashref06_Check.f k c.f0 c.f1.f0 c.f1.f1 c.f1.f2 c.f1.f3 c.f2 c.f3) r := by
      unfold sashref06_Check.f
      have e := may_ev c hz
      rw [hm] at e
      exact Ev.bind (Ev.now ([] : List S23)) (Ev.bind e (ev_pos rfl (Ev.bind (all_cells _ c hz (Nat.le_refl _)) e1)))
    have e4 := Ev.bind (f := fun _ bt => some (bt.2.1 == 0)) e3 (Ev.now (r.2.1 == 0))
    rw [e2] at e4
    exact e4
end Go.Proofs.Ytfdmfgaiblfbhaa.P
