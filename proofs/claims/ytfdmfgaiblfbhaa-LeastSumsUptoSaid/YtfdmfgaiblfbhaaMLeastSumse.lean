/- LeastSums: part 5 of 7 of this claim's texts, one behind the other. The words of the kit's printer stand in it cut down, by a program, to those that are used. -/
import Derived.Test.YtfdmfgaiblfbhaaMLeastSumsc
import Derived.Test.YtfdmfgaiblfbhaaMLeastSumsd
import Derived.ProofKit
import Derived.Deep.Slices
import Derived.Lib.SmallJoins
import Derived.OpenShut
import Derived.WalkSpells
import Derived.Maps.OwnOps
import Derived.Maps.Views
namespace Go.Proofs.Ytfdmfgaiblfbhaa.P
open Go.RowKit Go.Proofs.YtfdmfgaiblfbhaaW.PrintWords Go.Proofs.YtfdmfgaiblfbhaaW.PrintLast Go.Proofs.YtfdmfgaiblfbhaaW.PrintMore
attribute [local go_sem] max2_int min2_int max_two min_two max_three min_three max_four min_four   -- for this text's walks alone
set_option linter.unusedVariables false
set_option linter.unusedSimpArgs false

/-! ### rect_may: function 128 -/
def rect_may.f (a0_0 : Int) (a0_1 : Int) (a0_2 : Int) (a0_3 : Int) : Option (Bool) := if a0_0 ≥ 0 then (if a0_2 ≥ 1 then (if a0_2 ≤ 10000 then (if a0_0 ≤ (wrap64 (10000 - a0_2)) then (if a0_1 ≥ 0 then (if a0_3 ≥ 1 then (if a0_3 ≤ 10000 then (some (decide (a0_1 ≤ (wrap64 (10000 - a0_3))))) else (some false)) else (some false)) else (some false)) else (some false)) else (some false)) else (some false)) else (some false)
set_option maxHeartbeats 8000000 in
set_option maxRecDepth 100000 in
theorem rect_may.calls (a0_0 : Int) (a0_1 : Int) (a0_2 : Int) (a0_3 : Int) (r : Bool) (w : World) (h : rect_may.f a0_0 a0_1 a0_2 a0_3 = some r) :
  Calls Try.prog 128 #[.agg #[.int .i64 a0_0, .int .i64 a0_1, .int .i64 a0_2, .int .i64 a0_3]] w fun e w' => e = .returned (.bool r) ∧ Below w.heap.size w w' := by
 have hu23 := Try.underlying23
 have HB := Aside0.mk (Below.refl w.heap.size w)
 have H : (if a0_0 ≥ 0 then (if a0_2 ≥ 1 then (if a0_2 ≤ 10000 then (if a0_0 ≤ (wrap64 (10000 - a0_2)) then (if a0_1 ≥ 0 then (if a0_3 ≥ 1 then (if a0_3 ≤ 10000 then (some (decide (a0_1 ≤ (wrap64 (10000 - a0_3))))) else (some false)) else (some false)) else (some false)) else (some false)) else (some false)) else (some false)) else (some false)) = some r := h
 clear h
 by_cases c2 : a0_0 ≥ 0
 ·rw [if_pos c2] at H
  have c2b0 : decide (0 ≤ a0_0) = true := decide_eq_true c2
  clear c2
  by_cases c3 : a0_2 ≥ 1
  ·rw [if_pos c3] at H
   have c3b0 : decide (1 ≤ a0_2) = true := decide_eq_true c3
   clear c3
   by_cases c4 : a0_2 ≤ 10000
   ·rw [if_pos c4] at H
    have c4b0 : decide (a0_2 ≤ 10000) = true := decide_eq_true c4
    clear c4
    by_cases c5 : a0_0 ≤ (wrap64 (10000 - a0_2))
    ·rw [if_pos c5] at H
     have c5b0 : decide (a0_0 ≤ (wrap64 (10000 - a0_2))) = true := decide_eq_true c5
     clear c5
     by_cases c6 : a0_1 ≥ 0
     ·rw [if_pos c6] at H
      have c6b0 : decide (0 ≤ a0_1) = true := decide_eq_true c6
      clear c6
      by_cases c7 : a0_3 ≥ 1
      ·rw [if_pos c7] at H
       have c7b0 : decide (1 ≤ a0_3) = true := decide_eq_true c7
       clear c7
       by_cases c8 : a0_3 ≤ 10000
       ·rw [if_pos c8] at H
        have c8b0 : decide (a0_3 ≤ 10000) = true := decide_eq_true c8
        clear c8
        obtain rfl := Option.some.inj H
        go_enter Try.func128, Try.ntmps128
        go_wp2_with (((with_reducible refine gate_dst (N := 1) rfl ?_); refine box_event ?hg (N := 1) ?hd (cs := #[.int .i64 a0_0, .int .i64 a0_1, .int .i64 a0_2, .int .i64 a0_3]) (t := 23) ?hr ?_; (case hd => rfl); (case hg => rfl); (case hr => (go_simp; done)); intro gb245 hg w9 hbox hb; have BK245 := Aside0.mk (hbox); replace HB := Aside0.mk (below_step (by repeat ((with_reducible exact HB.out))) hb); clear hb hbox hg; have hcz10_0 : w9.cell? ⟨gb245, 0, none⟩ = some (.int .i64 a0_0) := (blk_cell BK245.out 0).trans rfl; have hcz10_1 : w9.cell? ⟨gb245, 1, none⟩ = some (.int .i64 a0_1) := (blk_cell BK245.out 1).trans rfl; have hcz10_2 : w9.cell? ⟨gb245, 2, none⟩ = some (.int .i64 a0_2) := (blk_cell BK245.out 2).trans rfl; have hcz10_3 : w9.cell? ⟨gb245, 3, none⟩ = some (.int .i64 a0_3) := (blk_cell BK245.out 3).trans rfl; have hfz10_0 := blk_frozen BK245.out 0; have hfz10_1 := blk_frozen BK245.out 1; have hfz10_2 := blk_frozen BK245.out 2; have hfz10_3 := blk_frozen BK245.out 3))
        go_ret
        exact ⟨by rfl, by repeat ((with_reducible exact HB.out))⟩
       ·rw [if_neg c8] at H
        have c8b0 : decide (a0_3 ≤ 10000) = false := decide_eq_false c8
        clear c8
        obtain rfl := Option.some.inj H
        go_enter Try.func128, Try.ntmps128
        go_wp2_with (((with_reducible refine gate_dst (N := 1) rfl ?_); refine box_event ?hg (N := 1) ?hd (cs := #[.int .i64 a0_0, .int .i64 a0_1, .int .i64 a0_2, .int .i64 a0_3]) (t := 23) ?hr ?_; (case hd => rfl); (case hg => rfl); (case hr => (go_simp; done)); intro gb245 hg w11 hbox hb; have BK245 := Aside0.mk (hbox); replace HB := Aside0.mk (below_step (by repeat ((with_reducible exact HB.out))) hb); clear hb hbox hg; have hcz12_0 : w11.cell? ⟨gb245, 0, none⟩ = some (.int .i64 a0_0) := (blk_cell BK245.out 0).trans rfl; have hcz12_1 : w11.cell? ⟨gb245, 1, none⟩ = some (.int .i64 a0_1) := (blk_cell BK245.out 1).trans rfl; have hcz12_2 : w11.cell? ⟨gb245, 2, none⟩ = some (.int .i64 a0_2) := (blk_cell BK245.out 2).trans rfl; have hcz12_3 : w11.cell? ⟨gb245, 3, none⟩ = some (.int .i64 a0_3) := (blk_cell BK245.out 3).trans rfl; have hfz12_0 := blk_frozen BK245.out 0; have hfz12_1 := blk_frozen BK245.out 1; have hfz12_2 := blk_frozen BK245.out 2; have hfz12_3 := blk_frozen BK245.out 3))
        go_ret
        exact ⟨by rfl, by repeat ((with_reducible exact HB.out))⟩
      ·rw [if_neg c7] at H
       have c7b0 : decide (1 ≤ a0_3) = false := decide_eq_false c7
       clear c7
       obtain rfl := Option.some.inj H
       go_enter Try.func128, Try.ntmps128
       go_wp2_with (((with_reducible refine gate_dst (N := 1) rfl ?_); refine box_event ?hg (N := 1) ?hd (cs := #[.int .i64 a0_0, .int .i64 a0_1, .int .i64 a0_2, .int .i64 a0_3]) (t := 23) ?hr ?_; (case hd => rfl); (case hg => rfl); (case hr => (go_simp; done)); intro gb245 hg w13 hbox hb; have BK245 := Aside0.mk (hbox); replace HB := Aside0.mk (below_step (by repeat ((with_reducible exact HB.out))) hb); clear hb hbox hg; have hcz14_0 : w13.cell? ⟨gb245, 0, none⟩ = some (.int .i64 a0_0) := (blk_cell BK245.out 0).trans rfl; have hcz14_1 : w13.cell? ⟨gb245, 1, none⟩ = some (.int .i64 a0_1) := (blk_cell BK245.out 1).trans rfl; have hcz14_2 : w13.cell? ⟨gb245, 2, none⟩ = some (.int .i64 a0_2) := (blk_cell BK245.out 2).trans rfl; have hcz14_3 : w13.cell? ⟨gb245, 3, none⟩ = some (.int .i64 a0_3) := (blk_cell BK245.out 3).trans rfl; have hfz14_0 := blk_frozen BK245.out 0; have hfz14_1 := blk_frozen BK245.out 1; have hfz14_2 := blk_frozen BK245.out 2; have hfz14_3 := blk_frozen BK245.out 3))
       go_ret
       exact ⟨by rfl, by repeat ((with_reducible exact HB.out))⟩
     ·rw [if_neg c6] at H
      have c6b0 : decide (0 ≤ a0_1) = false := decide_eq_false c6
      clear c6
      obtain rfl := Option.some.inj H
      go_enter Try.func128, Try.ntmps128
      go_wp2_with (((with_reducible refine gate_dst (N := 1) rfl ?_); refine box_event ?hg (N := 1) ?hd (cs := #[.int .i64 a0_0, .int .i64 a0_1, .int .i64 a0_2, .int .i64 a0_3]) (t := 23) ?hr ?_; (case hd => rfl); (case hg => rfl); (case hr => (go_simp; done)); intro gb245 hg w15 hbox hb; have BK245 := Aside0.mk (hbox); replace HB := Aside0.mk (below_step (by repeat ((with_reducible exact HB.out))) hb); clear hb hbox hg; have hcz16_0 : w15.cell? ⟨gb245, 0, none⟩ = some (.int .i64 a0_0) := (blk_cell BK245.out 0).trans rfl; have hcz16_1 : w15.cell? ⟨gb245, 1, none⟩ = some (.int .i64 a0_1) := (blk_cell BK245.out 1).trans rfl; have hcz16_2 : w15.cell? ⟨gb245, 2, none⟩ = some (.int .i64 a0_2) := (blk_cell BK245.out 2).trans rfl; have hcz16_3 : w15.cell? ⟨gb245, 3, none⟩ = some (.int .i64 a0_3) := (blk_cell BK245.out 3).trans rfl; have hfz16_0 := blk_frozen BK245.out 0; have hfz16_1 := blk_frozen BK245.out 1; have hfz16_2 := blk_frozen BK245.out 2; have hfz16_3 := blk_frozen BK245.out 3))
      go_ret
      exact ⟨by rfl, by repeat ((with_reducible exact HB.out))⟩
    ·rw [if_neg c5] at H
     have c5b0 : decide (a0_0 ≤ (wrap64 (10000 - a0_2))) = false := decide_eq_false c5
     clear c5
     obtain rfl := Option.some.inj H
     go_enter Try.func128, Try.ntmps128
     go_wp2_with (((with_reducible refine gate_dst (N := 1) rfl ?_); refine box_event ?hg (N := 1) ?hd (cs := #[.int .i64 a0_0, .int .i64 a0_1, .int .i64 a0_2, .int .i64 a0_3]) (t := 23) ?hr ?_; (case hd => rfl); (case hg => rfl); (case hr => (go_simp; done)); intro gb245 hg w17 hbox hb; have BK245 := Aside0.mk (hbox); replace HB := Aside0.mk (below_step (by repeat ((with_reducible exact HB.out))) hb); clear hb hbox hg; have hcz18_0 : w17.cell? ⟨gb245, 0, none⟩ = some (.int .i64 a0_0) := (blk_cell BK245.out 0).trans rfl; have hcz18_1 : w17.cell? ⟨gb245, 1, none⟩ = some (.int .i64 a0_1) := (blk_cell BK245.out 1).trans rfl; have hcz18_2 : w17.cell? ⟨gb245, 2, none⟩ = some (.int .i64 a0_2) := (blk_cell BK245.out 2).trans rfl; have hcz18_3 : w17.cell? ⟨gb245, 3, none⟩ = some (.int .i64 a0_3) := (blk_cell BK245.out 3).trans rfl; have hfz18_0 := blk_frozen BK245.out 0; have hfz18_1 := blk_frozen BK245.out 1; have hfz18_2 := blk_frozen BK245.out 2; have hfz18_3 := blk_frozen BK245.out 3))
     go_ret
     exact ⟨by rfl, by repeat ((with_reducible exact HB.out))⟩
   ·rw [if_neg c4] at H
    have c4b0 : decide (a0_2 ≤ 10000) = false := decide_eq_false c4
    clear c4
    obtain rfl := Option.some.inj H
    go_enter Try.func128, Try.ntmps128
    go_wp2_with (((with_reducible refine gate_dst (N := 1) rfl ?_); refine box_event ?hg (N := 1) ?hd (cs := #[.int .i64 a0_0, .int .i64 a0_1, .int .i64 a0_2, .int .i64 a0_3]) (t := 23) ?hr ?_; (case hd => rfl); (case hg => rfl); (case hr => (go_simp; done)); intro gb245 hg w19 hbox hb; have BK245 := Aside0.mk (hbox); replace HB := Aside0.mk (below_step (by repeat ((with_reducible exact HB.out))) hb); clear hb hbox hg; have hcz20_0 : w19.cell? ⟨gb245, 0, none⟩ = some (.int .i64 a0_0) := (blk_cell BK245.out 0).trans rfl; have hcz20_1 : w19.cell? ⟨gb245, 1, none⟩ = some (.int .i64 a0_1) := (blk_cell BK245.out 1).trans rfl; have hcz20_2 : w19.cell? ⟨gb245, 2, none⟩ = some (.int .i64 a0_2) := (blk_cell BK245.out 2).trans rfl; have hcz20_3 : w19.cell? ⟨gb245, 3, none⟩ = some (.int .i64 a0_3) := (blk_cell BK245.out 3).trans rfl; have hfz20_0 := blk_frozen BK245.out 0; have hfz20_1 := blk_frozen BK245.out 1; have hfz20_2 := blk_frozen BK245.out 2; have hfz20_3 := blk_frozen BK245.out 3))
    go_ret
    exact ⟨by rfl, by repeat ((with_reducible exact HB.out))⟩
  ·rw [if_neg c3] at H
   have c3b0 : decide (1 ≤ a0_2) = false := decide_eq_false c3
   clear c3
   obtain rfl := Option.some.inj H
   go_enter Try.func128, Try.ntmps128
   go_wp2_with (((with_reducible refine gate_dst (N := 1) rfl ?_); refine box_event ?hg (N := 1) ?hd (cs := #[.int .i64 a0_0, .int .i64 a0_1, .int .i64 a0_2, .int .i64 a0_3]) (t := 23) ?hr ?_; (case hd => rfl); (case hg => rfl); (case hr => (go_simp; done)); intro gb245 hg w21 hbox hb; have BK245 := Aside0.mk (hbox); replace HB := Aside0.mk (below_step (by repeat ((with_reducible exact HB.out))) hb); clear hb hbox hg; have hcz22_0 : w21.cell? ⟨gb245, 0, none⟩ = some (.int .i64 a0_0) := (blk_cell BK245.out 0).trans rfl; have hcz22_1 : w21.cell? ⟨gb245, 1, none⟩ = some (.int .i64 a0_1) := (blk_cell BK245.out 1).trans rfl; have hcz22_2 : w21.cell? ⟨gb245, 2, none⟩ = some (.int .i64 a0_2) := (blk_cell BK245.out 2).trans rfl; have hcz22_3 : w21.cell? ⟨gb245, 3, none⟩ = some (.int .i64 a0_3) := (blk_cell BK245.out 3).trans rfl; have hfz22_0 := blk_frozen BK245.out 0; have hfz22_1 := blk_frozen BK245.out 1; have hfz22_2 := blk_frozen BK245.out 2; have hfz22_3 := blk_frozen BK245.out 3))
   go_ret
   exact ⟨by rfl, by repeat ((with_reducible exact HB.out))⟩
 ·rw [if_neg c2] at H
  have c2b0 : decide (0 ≤ a0_0) = false := decide_eq_false c2
  clear c2
  obtain rfl := Option.some.inj H
  go_enter Try.func128, Try.ntmps128
  go_wp2_with (((with_reducible refine gate_dst (N := 1) rfl ?_); refine box_event ?hg (N := 1) ?hd (cs := #[.int .i64 a0_0, .int .i64 a0_1, .int .i64 a0_2, .int .i64 a0_3]) (t := 23) ?hr ?_; (case hd => rfl); (case hg => rfl); (case hr => (go_simp; done)); intro gb245 hg w23 hbox hb; have BK245 := Aside0.mk (hbox); replace HB := Aside0.mk (below_step (by repeat ((with_reducible exact HB.out))) hb); clear hb hbox hg; have hcz24_0 : w23.cell? ⟨gb245, 0, none⟩ = some (.int .i64 a0_0) := (blk_cell BK245.out 0).trans rfl; have hcz24_1 : w23.cell? ⟨gb245, 1, none⟩ = some (.int .i64 a0_1) := (blk_cell BK245.out 1).trans rfl; have hcz24_2 : w23.cell? ⟨gb245, 2, none⟩ = some (.int .i64 a0_2) := (blk_cell BK245.out 2).trans rfl; have hcz24_3 : w23.cell? ⟨gb245, 3, none⟩ = some (.int .i64 a0_3) := (blk_cell BK245.out 3).trans rfl; have hfz24_0 := blk_frozen BK245.out 0; have hfz24_1 := blk_frozen BK245.out 1; have hfz24_2 := blk_frozen BK245.out 2; have hfz24_3 := blk_frozen BK245.out 3))
  go_ret
  exact ⟨by rfl, by repeat ((with_reducible exact HB.out))⟩

end Go.Proofs.Ytfdmfgaiblfbhaa.P
namespace Go.Proofs.Ytfdmfgaiblfbhaa.P
open Go.RowKit Go.Proofs.YtfdmfgaiblfbhaaW.PrintWords Go.Proofs.YtfdmfgaiblfbhaaW.PrintLast Go.Proofs.YtfdmfgaiblfbhaaW.PrintMore
attribute [local go_sem] max2_int min2_int max_two min_two max_three min_three max_four min_four   -- for this text's walks alone
set_option linter.unusedVariables false
set_option linter.unusedSimpArgs false

/-! ### rect_Cut: function 45 -/
mutual
def rect_Cut.j0 : Nat → Int → List Int → Bool → Int → Int → Int → Int → Option ((List (S23)) × (List (S23)) × Bool)
 | 0, _, _, _, _, _, _, _ => none
 | k + 1, x1, x2, x37, x253000, x253001, x253002, x253003 => if x37 = true then (some (([] : List (S23)), ([] : List (S23)), false)) else (rect_Cut.l0 k x1 ([] : List (S23)) ([] : List (S23)) x253000 x2 (x2.length : Int) 0 x253000 x253001 x253002 x253003)
def rect_Cut.l0 : Nat → Int → List (S23) → List (S23) → Int → List Int → Int → Int → Int → Int → Int → Int → Option ((List (S23)) × (List (S23)) × Bool)
 | 0, _, _, _, _, _, _, _, _, _, _, _ => none
 | k + 1, x1, x11, x12, x13, x40, x41, x42, x253000, x253001, x253002, x253003 => if x42 < x41 then (if 0 ≤ x42 then (if x42 < (x40.length : Int) then (if x42 > 0 then ((rect_turned.f x13 x253001 1 x253003 x1).bind fun bt255 => (if x12.length < 4398046511104 then (if (rd x40 x42) < 1 then (some (([] : List (S23)), ([] : List (S23)), false)) else (if (rd x40 x42) > (wrap64 ((wrap64 (x253000 + x253002)) - (wrap64 (x13 + 1)))) then (some (([] : List (S23)), ([] : List (S23)), false)) else ((rect_turned.f (wrap64 (x13 + 1)) x253001 (rd x40 x42) x253003 x1).bind fun bt264 => (if x11.length < 4398046511104 then (rect_Cut.l0 k x1 (x11 ++ [(⟨bt264.1, bt264.2.1, bt264.2.2.1, bt264.2.2.2.1⟩ : S23)]) (x12 ++ [(⟨bt255.1, bt255.2.1, bt255.2.2.1, bt255.2.2.2.1⟩ : S23)]) (wrap64 ((wrap64 (x13 + 1)) + (rd x40 x42))) x40 x41 (wrap64 (x42 + 1)) x253000 x253001 x253002 x253003) else (none))))) else (none))) else (if (rd x40 x42) < 1 then (some (([] : List (S23)), ([] : List (S23)), false)) else (if (rd x40 x42) > (wrap64 ((wrap64 (x253000 + x253002)) - x13)) then (some (([] : List (S23)), ([] : List (S23)), false)) else ((rect_turned.f x13 x253001 (rd x40 x42) x253003 x1).bind fun bt273 => (if x11.length < 4398046511104 then (rect_Cut.l0 k x1 (x11 ++ [(⟨bt273.1, bt273.2.1, bt273.2.2.1, bt273.2.2.2.1⟩ : S23)]) x12 (wrap64 (x13 + (rd x40 x42))) x40 x41 (wrap64 (x42 + 1)) x253000 x253001 x253002 x253003) else (none)))))) else (none)) else (none)) else (if x13 = (wrap64 (x253000 + x253002)) then (some (x11, x12, true)) else (some (([] : List (S23)), ([] : List (S23)), false)))
end
def rect_Cut.f (k : Nat) (a0_0 : Int) (a0_1 : Int) (a0_2 : Int) (a0_3 : Int) (a1 : Int) (l2 : List Int) : Option ((List (S23)) × (List (S23)) × Bool) := (rect_turned.f a0_0 a0_1 a0_2 a0_3 a1).bind fun bt247 => (if bt247.2.2.2.2 = true then ((rect_may.f a0_0 a0_1 a0_2 a0_3).bind fun t253 => (if t253 = true then (rect_Cut.j0 k a1 l2 ((l2.length : Int) == 0) bt247.1 bt247.2.1 bt247.2.2.1 bt247.2.2.2.1) else (rect_Cut.j0 k a1 l2 true bt247.1 bt247.2.1 bt247.2.2.1 bt247.2.2.2.1))) else (rect_Cut.j0 k a1 l2 true bt247.1 bt247.2.1 bt247.2.2.1 bt247.2.2.2.1))
theorem rect_Cut.mono_l : ∀ k, (∀ y0 y1 y2 y3 y4 y5 y6, LeO (rect_Cut.j0 k y0 y1 y2 y3 y4 y5 y6) (rect_Cut.j0 (k + 1) y0 y1 y2 y3 y4 y5 y6)) ∧ (∀ y0 y1 y2 y3 y4 y5 y6 y7 y8 y9 y10, LeO (rect_Cut.l0 k y0 y1 y2 y3 y4 y5 y6 y7 y8 y9 y10) (rect_Cut.l0 (k + 1) y0 y1 y2 y3 y4 y5 y6 y7 y8 y9 y10))
 | 0 => ⟨fun _ _ _ _ _ _ _ r h => by simp [rect_Cut.j0] at h, fun _ _ _ _ _ _ _ _ _ _ _ r h => by simp [rect_Cut.l0] at h⟩
 | k + 1 => by
  obtain ⟨ih0, ih1⟩ := rect_Cut.mono_l k
  refine ⟨?_, ?_⟩
  ·intro y0 y1 y2 y3 y4 y5 y6
   unfold rect_Cut.j0
   repeat' first | (with_reducible exact ih1 _ _ _ _ _ _ _ _ _ _ _) | (with_reducible exact LeO.refl _) | (with_reducible refine LeO.ite ?_ ?_)
  ·intro y0 y1 y2 y3 y4 y5 y6 y7 y8 y9 y10
   unfold rect_Cut.l0
   repeat' first | (with_reducible exact ih1 _ _ _ _ _ _ _ _ _ _ _) | (with_reducible exact LeO.refl _) | (with_reducible refine LeO.ite ?_ ?_) | (with_reducible refine LeO.bind ?_ (fun _ => ?_))
theorem rect_Cut.mono : ∀ a0 a1 a2 a3 a4 a5 k, LeO (rect_Cut.f k a0 a1 a2 a3 a4 a5) (rect_Cut.f (k + 1) a0 a1 a2 a3 a4 a5) := by
 intro a0 a1 a2 a3 a4 a5 k
 obtain ⟨ih0, ih1⟩ := rect_Cut.mono_l k
 unfold rect_Cut.f
 repeat' first | (with_reducible exact ih0 _ _ _ _ _ _ _) | (with_reducible exact LeO.refl _) | (with_reducible refine LeO.ite ?_ ?_) | (with_reducible refine LeO.bind ?_ (fun _ => ?_))
set_option maxHeartbeats 8000000 in
set_option maxRecDepth 100000 in
theorem rect_Cut.calls (k : Nat) (a0_0 : Int) (a0_1 : Int) (a0_2 : Int) (a0_3 : Int) (a1 : Int) (A2 : Option Addr) (c2 : Nat) (l2 : List Int) (r1 : List (S23)) (r2 : List (S23)) (r3 : Bool) (w : World) (hr2 : Kd.C (Kd.int .i64) w A2 l2.length l2) (hc2 : l2.length ≤ c2) (h : rect_Cut.f k a0_0 a0_1 a0_2 a0_3 a1 l2 = some (r1, r2, r3)) :
  Calls Try.prog 45 #[.agg #[.int .i64 a0_0, .int .i64 a0_1, .int .i64 a0_2, .int .i64 a0_3], .int .u8 a1, .slice A2 l2.length c2] w fun e w' => ∃ v0_ v1_ : Value, e = .returned (.tuple #[v0_, v1_, .bool r3]) ∧ Kd.R k23 23 w' w.heap.size (fun k_ => some k_ ≠ (v1_ : Value).ownBlock) v0_ r1 ∧ Kd.R k23 23 w' w.heap.size (fun k_ => some k_ ≠ (v0_ : Value).ownBlock) v1_ r2 ∧ Below w.heap.size w w' := by
 have hu23 := Try.underlying23
 have HR2 := Aside0.mk hr2
 clear hr2 hc2
 have HB := Aside0.mk (Below.refl w.heap.size w)
 have H : ((rect_turned.f a0_0 a0_1 a0_2 a0_3 a1).bind fun bt247 => (if bt247.2.2.2.2 = true then ((rect_may.f a0_0 a0_1 a0_2 a0_3).bind fun t253 => (if t253 = true then (rect_Cut.j0 k a1 l2 ((l2.length : Int) == 0) bt247.1 bt247.2.1 bt247.2.2.1 bt247.2.2.2.1) else (rect_Cut.j0 k a1 l2 true bt247.1 bt247.2.1 bt247.2.2.1 bt247.2.2.2.1))) else (rect_Cut.j0 k a1 l2 true bt247.1 bt247.2.1 bt247.2.2.1 bt247.2.2.2.1))) = some (r1, r2, r3) := h
 clear h
 replace H := Option.bind_eq_some_iff.mp H
 obtain ⟨⟨t247, t248, t249, t250, t251⟩, A40, H⟩ := H
 replace H : (if t251 = true then ((rect_may.f a0_0 a0_1 a0_2 a0_3).bind fun t253 => (if t253 = true then (rect_Cut.j0 k a1 l2 ((l2.length : Int) == 0) t247 t248 t249 t250) else (rect_Cut.j0 k a1 l2 true t247 t248 t249 t250))) else (rect_Cut.j0 k a1 l2 true t247 t248 t249 t250)) = some (r1, r2, r3) := H
 have A4 := Aside0.mk A40
 clear A40
 have HC5 := Aside0.mk H
 clear H
 go_enter Try.func45, Try.ntmps45
 go_upto_region 2 with (first | ((with_reducible refine gate_dst (N := 3) rfl ?_); (try (refine gate_guard (by rfl) ?_; dsimp only)); refine box_event ?hg (N := 3) ?hd (cs := #[.int .i64 a0_0, .int .i64 a0_1, .int .i64 a0_2, .int .i64 a0_3]) (t := 23) ?hr ?_; (case hd => rfl); (case hg => rfl); (case hr => (go_simp; done)); intro gb246 hg w6 hbox hb; have BK246 := Aside0.mk (hbox); replace HB := Aside0.mk (below_step (by repeat ((with_reducible exact HB.out))) hb); clear hb hbox hg; have hcz7_0 : w6.cell? ⟨gb246, 0, none⟩ = some (.int .i64 a0_0) := (blk_cell BK246.out 0).trans rfl; have hcz7_1 : w6.cell? ⟨gb246, 1, none⟩ = some (.int .i64 a0_1) := (blk_cell BK246.out 1).trans rfl; have hcz7_2 : w6.cell? ⟨gb246, 2, none⟩ = some (.int .i64 a0_2) := (blk_cell BK246.out 2).trans rfl; have hcz7_3 : w6.cell? ⟨gb246, 3, none⟩ = some (.int .i64 a0_3) := (blk_cell BK246.out 3).trans rfl; have hfz7_0 := blk_frozen BK246.out 0; have hfz7_1 := blk_frozen BK246.out 1; have hfz7_2 := blk_frozen BK246.out 2; have hfz7_3 := blk_frozen BK246.out 3) | ((with_reducible refine gate_callee (f := 127) rfl ?_); refine goesL_ (some 23) rfl rfl Try.func127 (by kernel_rfl) rfl #[.agg #[.int .i64 a0_0, .int .i64 a0_1, .int .i64 a0_2, .int .i64 a0_3], .int .u8 a1] rfl (by (try simp only [List.map_toArray, List.map_cons, List.map_nil]); rfl) ?_; (with_reducible refine (rect_turned.calls a0_0 a0_1 a0_2 a0_3 a1 t247 t248 t249 t250 t251 _ A4.out).mono ?_); rintro e w8 ⟨rfl, hb⟩; refine ⟨_, rfl, ?_⟩; replace BK246 := Aside0.mk (blk_below BK246.out hb); replace HB := Aside0.mk (below_step (by repeat ((with_reducible exact HB.out))) hb); (try clear hb)) | ((with_reducible refine gate_dst (N := 9) rfl ?_); (try (refine gate_guard (by rfl) ?_; dsimp only)); refine box_event ?hg (N := 9) ?hd (cs := #[.int .i64 0, .int .i64 0, .int .i64 0, .int .i64 0]) (t := 23) ?hr ?_; (case hd => rfl); (case hg => rfl); (case hr => (go_simp; done)); intro gb252 hg w9 hbox hb; have BK252 := Aside0.mk (hbox); have GE252 := Aside0.mk ((by rw [hg]; exact (below_size (by repeat ((with_reducible exact HB.out)))) : w.heap.size ≤ gb252)); have NB246_252 := Aside0.mk ((by rw [hg]; exact Nat.ne_of_lt (blk_lt BK246.out) : gb246 ≠ gb252)); have NB252_246 := Aside0.mk ((by rw [hg]; exact Nat.ne_of_gt (blk_lt BK246.out) : gb252 ≠ gb246)); replace BK246 := Aside0.mk (blk_below BK246.out hb); replace HB := Aside0.mk (below_step (by repeat ((with_reducible exact HB.out))) hb); clear hb hbox hg; have hnb10 := NB252_246.out; have hnc10 := NB246_252.out; have hcz11_0 : w9.cell? ⟨gb252, 0, none⟩ = some (.int .i64 0) := (blk_cell BK252.out 0).trans rfl; have hcz11_1 : w9.cell? ⟨gb252, 1, none⟩ = some (.int .i64 0) := (blk_cell BK252.out 1).trans rfl; have hcz11_2 : w9.cell? ⟨gb252, 2, none⟩ = some (.int .i64 0) := (blk_cell BK252.out 2).trans rfl; have hcz11_3 : w9.cell? ⟨gb252, 3, none⟩ = some (.int .i64 0) := (blk_cell BK252.out 3).trans rfl; have hfz11_0 := blk_frozen BK252.out 0; have hfz11_1 := blk_frozen BK252.out 1; have hfz11_2 := blk_frozen BK252.out 2; have hfz11_3 := blk_frozen BK252.out 3))
 (skip)
 go_cut [37] (fun v37 wc => ∃ (kq : Nat) (x37_4 : Bool), v37 = .bool x37_4 ∧ Aside0 (rect_Cut.j0 kq a1 l2 x37_4 t247 t248 t249 t250 = some (r1, r2, r3)) ∧ Aside0 (kq ≤ k) ∧ Aside0 (wc.heap[gb246]? = some (.cells #[.int .i64 a0_0, .int .i64 a0_1, .int .i64 a0_2, .int .i64 a0_3] 23 (0, 0))) ∧ Aside0 (wc.heap[gb252]? = some (.cells #[.int .i64 t247, .int .i64 t248, .int .i64 t249, .int .i64 t250] 23 (0, 0))) ∧ Aside0 (Below w.heap.size w wc))
 case first =>
  have H := HC5.out
  clear HC5
  by_cases c12 : t251 = true
  ·subst c12
   have H1 : ((rect_may.f a0_0 a0_1 a0_2 a0_3).bind fun t253 => (if t253 = true then (rect_Cut.j0 k a1 l2 ((l2.length : Int) == 0) t247 t248 t249 t250) else (rect_Cut.j0 k a1 l2 true t247 t248 t249 t250))) = some (r1, r2, r3) := by rw [if_pos rfl] at H; exact H
   clear H
   have H := H1
   clear H1
   replace H := Option.bind_eq_some_iff.mp H
   obtain ⟨t253, A130, H⟩ := H
   replace H : (if t253 = true then (rect_Cut.j0 k a1 l2 ((l2.length : Int) == 0) t247 t248 t249 t250) else (rect_Cut.j0 k a1 l2 true t247 t248 t249 t250)) = some (r1, r2, r3) := H
   have A13 := Aside0.mk A130
   clear A130
   by_cases c14 : t253 = true
   ·subst c14
    have H1 : (rect_Cut.j0 k a1 l2 ((l2.length : Int) == 0) t247 t248 t249 t250) = some (r1, r2, r3) := by rw [if_pos rfl] at H; exact H
    clear H
    have H := H1
    clear H1
    have H' := Aside0.mk H
    clear H
    have hnb15 := NB246_252.out
    have hnc15 := NB252_246.out
    have hcz16_0 : w9.cell? ⟨gb246, 0, none⟩ = some (.int .i64 a0_0) := (blk_cell BK246.out 0).trans rfl
    have hcz16_1 : w9.cell? ⟨gb246, 1, none⟩ = some (.int .i64 a0_1) := (blk_cell BK246.out 1).trans rfl
    have hcz16_2 : w9.cell? ⟨gb246, 2, none⟩ = some (.int .i64 a0_2) := (blk_cell BK246.out 2).trans rfl
    have hcz16_3 : w9.cell? ⟨gb246, 3, none⟩ = some (.int .i64 a0_3) := (blk_cell BK246.out 3).trans rfl
    have hfz16_0 := blk_frozen BK246.out 0
    have hfz16_1 := blk_frozen BK246.out 1
    have hfz16_2 := blk_frozen BK246.out 2
    have hfz16_3 := blk_frozen BK246.out 3
    go_wp2_with ((go_at_call 128; (with_reducible refine (rect_may.calls a0_0 a0_1 a0_2 a0_3 true _ A13.out).mono ?_); rintro e w17 ⟨rfl, hb⟩; replace BK246 := Aside0.mk (blk_below (g := gb246) (o := .cells #[.int .i64 a0_0, .int .i64 a0_1, .int .i64 a0_2, .int .i64 a0_3] 23 (0, 0)) (by refine blk_far ?_ NB246_252.out _; refine blk_far ?_ NB246_252.out _; refine blk_far ?_ NB246_252.out _; refine blk_far ?_ NB246_252.out _; exact BK246.out) hb); replace BK252 := Aside0.mk (blk_below (g := gb252) (o := .cells #[.int .i64 t247, .int .i64 t248, .int .i64 t249, .int .i64 t250] 23 (0, 0)) (by refine blk_put (cs := #[.int .i64 t247, .int .i64 t248, .int .i64 t249, .int .i64 0]) ?_ 3 _ rfl; refine blk_put (cs := #[.int .i64 t247, .int .i64 t248, .int .i64 0, .int .i64 0]) ?_ 2 _ rfl; refine blk_put (cs := #[.int .i64 t247, .int .i64 0, .int .i64 0, .int .i64 0]) ?_ 1 _ rfl; refine blk_put (cs := #[.int .i64 0, .int .i64 0, .int .i64 0, .int .i64 0]) ?_ 0 _ rfl; exact BK252.out) hb); replace HB := Aside0.mk (below_step (by repeat ((with_reducible first | exact HB.out | refine below_set ?_ GE252.out))) hb); (try clear hb)))
    go_meet
    case rel => exact ⟨_, (((l2.length : Int) == 0)), (by rfl), H', ⟨by omega⟩, ⟨by exact BK246.out⟩, ⟨by exact BK252.out⟩, ⟨by repeat ((with_reducible exact HB.out))⟩⟩
   ·replace c14 := Bool.eq_false_iff.mpr c14
    subst c14
    have H1 : (rect_Cut.j0 k a1 l2 true t247 t248 t249 t250) = some (r1, r2, r3) := by rw [if_neg (show ¬ (false = true) by decide)] at H; exact H
    clear H
    have H := H1
    clear H1
    have H' := Aside0.mk H
    clear H
    have hnb18 := NB246_252.out
    have hnc18 := NB252_246.out
    have hcz19_0 : w9.cell? ⟨gb246, 0, none⟩ = some (.int .i64 a0_0) := (blk_cell BK246.out 0).trans rfl
    have hcz19_1 : w9.cell? ⟨gb246, 1, none⟩ = some (.int .i64 a0_1) := (blk_cell BK246.out 1).trans rfl
    have hcz19_2 : w9.cell? ⟨gb246, 2, none⟩ = some (.int .i64 a0_2) := (blk_cell BK246.out 2).trans rfl
    have hcz19_3 : w9.cell? ⟨gb246, 3, none⟩ = some (.int .i64 a0_3) := (blk_cell BK246.out 3).trans rfl
    have hfz19_0 := blk_frozen BK246.out 0
    have hfz19_1 := blk_frozen BK246.out 1
    have hfz19_2 := blk_frozen BK246.out 2
    have hfz19_3 := blk_frozen BK246.out 3
    go_wp2_with ((go_at_call 128; (with_reducible refine (rect_may.calls a0_0 a0_1 a0_2 a0_3 false _ A13.out).mono ?_); rintro e w20 ⟨rfl, hb⟩; replace BK246 := Aside0.mk (blk_below (g := gb246) (o := .cells #[.int .i64 a0_0, .int .i64 a0_1, .int .i64 a0_2, .int .i64 a0_3] 23 (0, 0)) (by refine blk_far ?_ NB246_252.out _; refine blk_far ?_ NB246_252.out _; refine blk_far ?_ NB246_252.out _; refine blk_far ?_ NB246_252.out _; exact BK246.out) hb); replace BK252 := Aside0.mk (blk_below (g := gb252) (o := .cells #[.int .i64 t247, .int .i64 t248, .int .i64 t249, .int .i64 t250] 23 (0, 0)) (by refine blk_put (cs := #[.int .i64 t247, .int .i64 t248, .int .i64 t249, .int .i64 0]) ?_ 3 _ rfl; refine blk_put (cs := #[.int .i64 t247, .int .i64 t248, .int .i64 0, .int .i64 0]) ?_ 2 _ rfl; refine blk_put (cs := #[.int .i64 t247, .int .i64 0, .int .i64 0, .int .i64 0]) ?_ 1 _ rfl; refine blk_put (cs := #[.int .i64 0, .int .i64 0, .int .i64 0, .int .i64 0]) ?_ 0 _ rfl; exact BK252.out) hb); replace HB := Aside0.mk (below_step (by repeat ((with_reducible first | exact HB.out | refine below_set ?_ GE252.out))) hb); (try clear hb)))
    go_meet
    case rel => exact ⟨_, (true), (by rfl), H', ⟨by omega⟩, ⟨by exact BK246.out⟩, ⟨by exact BK252.out⟩, ⟨by repeat ((with_reducible exact HB.out))⟩⟩
  ·replace c12 := Bool.eq_false_iff.mpr c12
   subst c12
   have H1 : (rect_Cut.j0 k a1 l2 true t247 t248 t249 t250) = some (r1, r2, r3) := by rw [if_neg (show ¬ (false = true) by decide)] at H; exact H
   clear H
   have H := H1
   clear H1
   have H' := Aside0.mk H
   clear H
   go_wp2
   go_meet
   case rel => exact ⟨_, (true), (by rfl), H', ⟨by omega⟩, ⟨by refine blk_far ?_ NB246_252.out _; refine blk_far ?_ NB246_252.out _; refine blk_far ?_ NB246_252.out _; refine blk_far ?_ NB246_252.out _; exact BK246.out⟩, ⟨by refine blk_put (cs := #[.int .i64 t247, .int .i64 t248, .int .i64 t249, .int .i64 0]) ?_ 3 _ rfl; refine blk_put (cs := #[.int .i64 t247, .int .i64 t248, .int .i64 0, .int .i64 0]) ?_ 2 _ rfl; refine blk_put (cs := #[.int .i64 t247, .int .i64 0, .int .i64 0, .int .i64 0]) ?_ 1 _ rfl; refine blk_put (cs := #[.int .i64 0, .int .i64 0, .int .i64 0, .int .i64 0]) ?_ 0 _ rfl; exact BK252.out⟩, ⟨by repeat ((with_reducible first | exact HB.out | refine below_set ?_ GE252.out))⟩⟩
 case rest =>
  clear HC5
  clear hcz11_0 hcz11_1 hcz11_2 hcz11_3 hcz7_0 hcz7_1 hcz7_2 hcz7_3 hfz11_0 hfz11_1 hfz11_2 hfz11_3 hfz7_0 hfz7_1 hfz7_2 hfz7_3
  obtain ⟨kq, x37_4, rfl, HA, HJ4, BK246, BK252, HB⟩ := hcut
  cases kq with
  | zero => exact absurd HA.out (by simp [rect_Cut.j0])
  | succ kj4 =>
   have H := HA.out
   clear HA
   simp only [rect_Cut.j0] at H
   by_cases c21 : x37_4 = true
   ·subst c21
    have H1 : (some (([] : List (S23)), ([] : List (S23)), false)) = some (r1, r2, r3) := by rw [if_pos rfl] at H; exact H
    clear H
    have H := H1
    clear H1
    simp only [Option.some.injEq, Prod.mk.injEq] at H
    obtain ⟨rfl, rfl, rfl⟩ := H
    go_wp2
    go_ret3
    exact ⟨_, _, by rfl, by exact Kd.R_nil _ _ _ _ _, by exact Kd.R_nil _ _ _ _ _, by repeat ((with_reducible exact HB.out))⟩
   ·replace c21 := Bool.eq_false_iff.mpr c21
    subst c21
    have H1 : (rect_Cut.l0 kj4 a1 ([] : List (S23)) ([] : List (S23)) t247 l2 (l2.length : Int) 0 t247 t248 t249 t250) = some (r1, r2, r3) := by rw [if_neg (show ¬ (false = true) by decide)] at H; exact H
    clear H
    have H := H1
    clear H1
    have H' := Aside0.mk H
    clear H
    have hnb22 := NB252_246.out
    have hnc22 := NB246_252.out
    have hcz23_0 : wc.cell? ⟨gb252, 0, none⟩ = some (.int .i64 t247) := (blk_cell BK252.out 0).trans rfl
    have hcz23_1 : wc.cell? ⟨gb252, 1, none⟩ = some (.int .i64 t248) := (blk_cell BK252.out 1).trans rfl
    have hcz23_2 : wc.cell? ⟨gb252, 2, none⟩ = some (.int .i64 t249) := (blk_cell BK252.out 2).trans rfl
    have hcz23_3 : wc.cell? ⟨gb252, 3, none⟩ = some (.int .i64 t250) := (blk_cell BK252.out 3).trans rfl
    have hfz23_0 := blk_frozen BK252.out 0
    have hfz23_1 := blk_frozen BK252.out 1
    have hfz23_2 := blk_frozen BK252.out 2
    have hfz23_3 := blk_frozen BK252.out 3
    go_wp2
    go_loopg [11, 12, 13, 42] kj4 (fun kq v11 v12 v13 v42 w' => ∃ (x11_2 : List (S23)) (x12_2 : List (S23)) (x13_2 : Int) (x42_2 : Int), v13 = .int .i64 x13_2 ∧ v42 = .int .i64 x42_2 ∧ Aside0 (rect_Cut.l0 kq a1 x11_2 x12_2 x13_2 l2 (l2.length : Int) x42_2 t247 t248 t249 t250 = some (r1, r2, r3)) ∧ Aside0 (kq ≤ kj4) ∧ Aside0 (Kd.R k23 23 w' w.heap.size (fun k_ => some k_ ≠ (v12 : Value).ownBlock ∧ k_ ≠ gb246 ∧ k_ ≠ gb252) v11 x11_2) ∧ Aside0 (Kd.R k23 23 w' w.heap.size (fun k_ => some k_ ≠ (v11 : Value).ownBlock ∧ k_ ≠ gb246 ∧ k_ ≠ gb252) v12 x12_2) ∧ Aside0 (w'.heap[gb246]? = some (.cells #[.int .i64 a0_0, .int .i64 a0_1, .int .i64 a0_2, .int .i64 a0_3] 23 (0, 0))) ∧ Aside0 (w'.heap[gb252]? = some (.cells #[.int .i64 t247, .int .i64 t248, .int .i64 t249, .int .i64 t250] 23 (0, 0))) ∧ Aside0 (Below w.heap.size w w'))
    case atStart => exact ⟨(([] : List (S23))), (([] : List (S23))), (t247), (0), (by rfl), (by rfl), H', ⟨Nat.le_refl _⟩, ⟨by exact Kd.R_nil _ _ _ _ _⟩, ⟨by exact Kd.R_nil _ _ _ _ _⟩, ⟨by exact BK246.out⟩, ⟨by exact BK252.out⟩, ⟨by repeat ((with_reducible exact HB.out))⟩⟩
    case round =>
     clear H'
     clear hcz23_0 hcz23_1 hcz23_2 hcz23_3 hfz23_0 hfz23_1 hfz23_2 hfz23_3
     obtain ⟨x11_2, x12_2, x13_2, x42_2, rfl, rfl, HA, HK2, HO_11, HO_12, BK246, BK252, HB⟩ := hrel
     cases gk with
     | zero => exact absurd HA.out (by simp [rect_Cut.l0])
     | succ k2 =>
      have H := HA.out
      clear HA
      simp only [rect_Cut.l0] at H
      by_cases c24 : x42_2 < (l2.length : Int)
      ·rw [if_pos c24] at H
       have c24b0 : decide (x42_2 < (l2.length : Int)) = true := decide_eq_true c24
       clear c24
       by_cases c25 : 0 ≤ x42_2
       ·rw [if_pos c25] at H
        have c25b0 : decide (0 ≤ x42_2) = true := decide_eq_true c25
        clear c25
        by_cases c26 : x42_2 < (l2.length : Int)
        ·rw [if_pos c26] at H
         have c26b0 : decide (x42_2 < (l2.length : Int)) = true := decide_eq_true c26
         clear c26
         by_cases c27 : x42_2 > 0
         ·rw [if_pos c27] at H
          have c27b0 : decide (0 < x42_2) = true := decide_eq_true c27
          clear c27
          replace H := Option.bind_eq_some_iff.mp H
          obtain ⟨⟨t255, t256, t257, t258, t259⟩, A280, H⟩ := H
          replace H : (if x12_2.length < 4398046511104 then (if (rd l2 x42_2) < 1 then (some (([] : List (S23)), ([] : List (S23)), false)) else (if (rd l2 x42_2) > (wrap64 ((wrap64 (t247 + t249)) - (wrap64 (x13_2 + 1)))) then (some (([] : List (S23)), ([] : List (S23)), false)) else ((rect_turned.f (wrap64 (x13_2 + 1)) t248 (rd l2 x42_2) t250 a1).bind fun bt264 => (if x11_2.length < 4398046511104 then (rect_Cut.l0 k2 a1 (x11_2 ++ [(⟨bt264.1, bt264.2.1, bt264.2.2.1, bt264.2.2.2.1⟩ : S23)]) (x12_2 ++ [(⟨t255, t256, t257, t258⟩ : S23)]) (wrap64 ((wrap64 (x13_2 + 1)) + (rd l2 x42_2))) l2 (l2.length : Int) (wrap64 (x42_2 + 1)) t247 t248 t249 t250) else (none))))) else (none)) = some (r1, r2, r3) := H
          have A28 := Aside0.mk A280
          clear A280
          by_cases c29 : x12_2.length < 4398046511104
          ·rw [if_pos c29] at H
           have LMc29 := Aside0.mk c29
           clear c29
           obtain ⟨y261, hy261⟩ : ∃ y_ : List (S23), y_ = (x12_2 ++ [(⟨t255, t256, t257, t258⟩ : S23)]) := ⟨_, rfl⟩
           replace H : (if (rd l2 x42_2) < 1 then (some (([] : List (S23)), ([] : List (S23)), false)) else (if (rd l2 x42_2) > (wrap64 ((wrap64 (t247 + t249)) - (wrap64 (x13_2 + 1)))) then (some (([] : List (S23)), ([] : List (S23)), false)) else ((rect_turned.f (wrap64 (x13_2 + 1)) t248 (rd l2 x42_2) t250 a1).bind fun bt264 => (if x11_2.length < 4398046511104 then (rect_Cut.l0 k2 a1 (x11_2 ++ [(⟨bt264.1, bt264.2.1, bt264.2.2.1, bt264.2.2.2.1⟩ : S23)]) y261 (wrap64 ((wrap64 (x13_2 + 1)) + (rd l2 x42_2))) l2 (l2.length : Int) (wrap64 (x42_2 + 1)) t247 t248 t249 t250) else (none))))) = some (r1, r2, r3) := by (rw [hy261]; with_reducible exact H)
           have Ny261 := Aside0.mk hy261
           clear hy261
           by_cases c30 : (rd l2 x42_2) < 1
           ·rw [if_pos c30] at H
            have c30b0 : decide ((rd l2 x42_2) < 1) = true := decide_eq_true c30
            clear c30
            simp only [Option.some.injEq, Prod.mk.injEq] at H
            obtain ⟨rfl, rfl, rfl⟩ := H
            have p254 : 0 ≤ (x42_2 : Int) := of_decide_eq_true (by (with_reducible assumption))
            have q254 : x42_2 < (l2.length : Int) := of_decide_eq_true (by (with_reducible assumption))
            obtain ⟨ad254, e254, hx254_0⟩ := Kd.at_int HR2.out x42_2 p254 q254
            cases e254
            replace hx254_0 := (HB.out.cell (World.block_lt_of_cell? w _ hx254_0)).trans hx254_0
            replace p254 := eq_true p254
            replace q254 := eq_true q254
            have hnb31 := NB252_246.out
            have hnc31 := NB246_252.out
            have hcz32_0 : wr.cell? ⟨gb252, 0, none⟩ = some (.int .i64 t247) := (blk_cell BK252.out 0).trans rfl
            have hcz32_1 : wr.cell? ⟨gb252, 1, none⟩ = some (.int .i64 t248) := (blk_cell BK252.out 1).trans rfl
            have hcz32_2 : wr.cell? ⟨gb252, 2, none⟩ = some (.int .i64 t249) := (blk_cell BK252.out 2).trans rfl
            have hcz32_3 : wr.cell? ⟨gb252, 3, none⟩ = some (.int .i64 t250) := (blk_cell BK252.out 3).trans rfl
            have hfz32_0 := blk_frozen BK252.out 0
            have hfz32_1 := blk_frozen BK252.out 1
            have hfz32_2 := blk_frozen BK252.out 2
            have hfz32_3 := blk_frozen BK252.out 3
            go_wp2_with (first | ((with_reducible refine gate_callee (f := 127) rfl ?_); refine goesL_ (some 57) rfl rfl Try.func127 (by kernel_rfl) rfl #[.agg #[.int .i64 x13_2, .int .i64 t248, .int .i64 1, .int .i64 t250], .int .u8 a1] rfl (by (try simp only [List.map_toArray, List.map_cons, List.map_nil]); rfl) ?_; (with_reducible refine (rect_turned.calls x13_2 t248 1 t250 a1 t255 t256 t257 t258 t259 _ A28.out).mono ?_); rintro e w33 ⟨rfl, hb⟩; refine ⟨_, rfl, ?_⟩; replace HO_11 := Aside0.mk (Kd.R_below HO_11.out hb); replace HO_12 := Aside0.mk (Kd.R_below HO_12.out hb); replace BK246 := Aside0.mk (blk_below BK246.out hb); replace BK252 := Aside0.mk (blk_below BK252.out hb); replace HB := Aside0.mk (below_step (by repeat ((with_reducible exact HB.out))) hb); (try clear hb)) | ((with_reducible refine gate_dst (N := 16) rfl ?_); (try (refine gate_guard (by rfl) ?_; dsimp only)); refine box_event ?hg (N := 16) ?hd (cs := #[.int .i64 0, .int .i64 0, .int .i64 0, .int .i64 0]) (t := 23) ?hr ?_; (case hd => rfl); (case hg => rfl); (case hr => (go_simp; done)); intro gb260 hg w34 hbox hb; have BK260 := Aside0.mk (hbox); have GE260 := Aside0.mk ((by rw [hg]; exact (below_size (by repeat ((with_reducible exact HB.out)))) : w.heap.size ≤ gb260)); have NB246_260 := Aside0.mk ((by rw [hg]; exact Nat.ne_of_lt (blk_lt BK246.out) : gb246 ≠ gb260)); have NB260_246 := Aside0.mk ((by rw [hg]; exact Nat.ne_of_gt (blk_lt BK246.out) : gb260 ≠ gb246)); have NB252_260 := Aside0.mk ((by rw [hg]; exact Nat.ne_of_lt (blk_lt BK252.out) : gb252 ≠ gb260)); have NB260_252 := Aside0.mk ((by rw [hg]; exact Nat.ne_of_gt (blk_lt BK252.out) : gb260 ≠ gb252)); replace HO_11 := Aside0.mk (Kd.R_below (Kd.R_elderB HO_11.out gb260 (Nat.le_of_eq hg.symm)) hb); replace HO_12 := Aside0.mk (Kd.R_below (Kd.R_elderB HO_12.out gb260 (Nat.le_of_eq hg.symm)) hb); replace BK246 := Aside0.mk (blk_below BK246.out hb); replace BK252 := Aside0.mk (blk_below BK252.out hb); replace HB := Aside0.mk (below_step (by repeat ((with_reducible exact HB.out))) hb); clear hb hbox hg; have hnb35 := NB260_246.out; have hnc35 := NB246_260.out; have hnb36 := NB260_252.out; have hnc36 := NB252_260.out; have hcz37_0 : w34.cell? ⟨gb260, 0, none⟩ = some (.int .i64 0) := (blk_cell BK260.out 0).trans rfl; have hcz37_1 : w34.cell? ⟨gb260, 1, none⟩ = some (.int .i64 0) := (blk_cell BK260.out 1).trans rfl; have hcz37_2 : w34.cell? ⟨gb260, 2, none⟩ = some (.int .i64 0) := (blk_cell BK260.out 2).trans rfl; have hcz37_3 : w34.cell? ⟨gb260, 3, none⟩ = some (.int .i64 0) := (blk_cell BK260.out 3).trans rfl; have hfz37_0 := blk_frozen BK260.out 0; have hfz37_1 := blk_frozen BK260.out 1; have hfz37_2 := blk_frozen BK260.out 2; have hfz37_3 := blk_frozen BK260.out 3) | ((with_reducible refine gate_builtin (b := .append) (xs := #[.tmp 60, .tmp 62]) rfl ?_); (try (refine gate_guard (by rfl) ?_; dsimp only)); at_builtin; refine Kd.R_append k23 (w0 := w) w.heap.size rfl (.tmp 60) (.tmp 62) 42 23 (.agg #[(.int .i64 0), (.int .i64 0), (.int .i64 0), (.int .i64 0)]) 32 rfl Try.underlying42 info23 rfl (by decide) (by omega) u12 x12_2 (⟨t255, t256, t257, t258⟩ : S23) [.int .i64 t255, .int .i64 t256, .int .i64 t257, .int .i64 t258] (fun k_ => some k_ ≠ (u11 : Value).ownBlock ∧ k_ ≠ gb246 ∧ k_ ≠ gb252 ∧ k_ ≠ gb260) (fun _ => False) rfl (by (go_simp; done)) ?aP (fun _ hk => hk.elim) ?aF ?aO ?aB ?aS ?aL ?_; (case aP => exact k23_mkM _ _ _ (⟨t255, t256, t257, t258⟩ : S23)); (case aB => exact (by repeat ((with_reducible first | exact HB.out | refine below_set ?_ GE260.out)))); (case aF => exact (fun k_ hk => ⟨Kd.fresh' (Kd.R_lt (by exact (Kd.R_mono (Kd.R_far (p := ⟨gb260, 3, none⟩) (Kd.R_far (p := ⟨gb260, 2, none⟩) (Kd.R_far (p := ⟨gb260, 1, none⟩) (Kd.R_far (p := ⟨gb260, 0, none⟩) (Kd.R_mono HO_11.out (fun k_ hk => (⟨hk, hk.2⟩ : _ ∧ k_ ≠ gb260))) (fun _ hk => hk.2) (.int .i64 t255)) (fun _ hk => hk.2) (.int .i64 t256)) (fun _ hk => hk.2) (.int .i64 t257)) (fun _ hk => hk.2) (.int .i64 t258)) (fun _ h_ => h_.1)))) k_ hk, Kd.freshB (g := gb246) (o := .cells #[.int .i64 a0_0, .int .i64 a0_1, .int .i64 a0_2, .int .i64 a0_3] 23 (0, 0)) (by refine blk_far ?_ NB246_260.out _; refine blk_far ?_ NB246_260.out _; refine blk_far ?_ NB246_260.out _; refine blk_far ?_ NB246_260.out _; exact BK246.out) k_ hk, Kd.freshB (g := gb252) (o := .cells #[.int .i64 t247, .int .i64 t248, .int .i64 t249, .int .i64 t250] 23 (0, 0)) (by refine blk_far ?_ NB252_260.out _; refine blk_far ?_ NB252_260.out _; refine blk_far ?_ NB252_260.out _; refine blk_far ?_ NB252_260.out _; exact BK252.out) k_ hk, Kd.freshB (g := gb260) (o := .cells #[.int .i64 t255, .int .i64 t256, .int .i64 t257, .int .i64 t258] 23 (0, 0)) (by refine blk_put (cs := #[.int .i64 t255, .int .i64 t256, .int .i64 t257, .int .i64 0]) ?_ 3 _ rfl; refine blk_put (cs := #[.int .i64 t255, .int .i64 t256, .int .i64 0, .int .i64 0]) ?_ 2 _ rfl; refine blk_put (cs := #[.int .i64 t255, .int .i64 0, .int .i64 0, .int .i64 0]) ?_ 1 _ rfl; refine blk_put (cs := #[.int .i64 0, .int .i64 0, .int .i64 0, .int .i64 0]) ?_ 0 _ rfl; exact BK260.out) k_ hk⟩)); (case aO => exact (by exact Kd.R_mono (Kd.R_far (p := ⟨gb260, 3, none⟩) (Kd.R_far (p := ⟨gb260, 2, none⟩) (Kd.R_far (p := ⟨gb260, 1, none⟩) (Kd.R_far (p := ⟨gb260, 0, none⟩) (Kd.R_mono HO_12.out (fun k_ hk => (⟨hk, hk.2⟩ : _ ∧ k_ ≠ gb260))) (fun _ hk => hk.2) (.int .i64 t255)) (fun _ hk => hk.2) (.int .i64 t256)) (fun _ hk => hk.2) (.int .i64 t257)) (fun _ hk => hk.2) (.int .i64 t258)) (fun _ hk => ⟨hk.1.1.1, ⟨hk.1.1.2.1, ⟨hk.1.1.2.2, hk.1.2⟩⟩⟩))); (case aS => exact (below_size (by repeat ((with_reducible first | exact HB.out | refine below_set ?_ GE260.out))))); (case aL => have := LMc29.out; omega); intro v262 w38 ho hb hg hat; rw [← Ny261.out] at ho; have HO263 := Aside0.mk (ho); replace HO_11 := Aside0.mk (Kd.R_after (ok := (fun k_ => k_ ≠ gb246 ∧ k_ ≠ gb252 ∧ k_ ≠ gb260)) (by exact Kd.R_mono (Kd.R_far (p := ⟨gb260, 3, none⟩) (Kd.R_far (p := ⟨gb260, 2, none⟩) (Kd.R_far (p := ⟨gb260, 1, none⟩) (Kd.R_far (p := ⟨gb260, 0, none⟩) (Kd.R_mono HO_11.out (fun k_ hk => (⟨hk, hk.2⟩ : _ ∧ k_ ≠ gb260))) (fun _ hk => hk.2) (.int .i64 t255)) (fun _ hk => hk.2) (.int .i64 t256)) (fun _ hk => hk.2) (.int .i64 t257)) (fun _ hk => hk.2) (.int .i64 t258)) (fun _ hk => ⟨⟨hk.1.1.2.1, ⟨hk.1.1.2.2, hk.1.2⟩⟩, hk.1.1.1⟩)) hg hat); replace BK246 := Aside0.mk (blk_grown (g := gb246) (o := .cells #[.int .i64 a0_0, .int .i64 a0_1, .int .i64 a0_2, .int .i64 a0_3] 23 (0, 0)) (by refine blk_far ?_ NB246_260.out _; refine blk_far ?_ NB246_260.out _; refine blk_far ?_ NB246_260.out _; refine blk_far ?_ NB246_260.out _; exact BK246.out) hg (Kd.R_away HO_12.out (fun _ hk => hk.1.2.1))); replace BK252 := Aside0.mk (blk_grown (g := gb252) (o := .cells #[.int .i64 t247, .int .i64 t248, .int .i64 t249, .int .i64 t250] 23 (0, 0)) (by refine blk_far ?_ NB252_260.out _; refine blk_far ?_ NB252_260.out _; refine blk_far ?_ NB252_260.out _; refine blk_far ?_ NB252_260.out _; exact BK252.out) hg (Kd.R_away HO_12.out (fun _ hk => hk.1.2.2))); replace BK260 := Aside0.mk (blk_grown (g := gb260) (o := .cells #[.int .i64 t255, .int .i64 t256, .int .i64 t257, .int .i64 t258] 23 (0, 0)) (by refine blk_put (cs := #[.int .i64 t255, .int .i64 t256, .int .i64 t257, .int .i64 0]) ?_ 3 _ rfl; refine blk_put (cs := #[.int .i64 t255, .int .i64 t256, .int .i64 0, .int .i64 0]) ?_ 2 _ rfl; refine blk_put (cs := #[.int .i64 t255, .int .i64 0, .int .i64 0, .int .i64 0]) ?_ 1 _ rfl; refine blk_put (cs := #[.int .i64 0, .int .i64 0, .int .i64 0, .int .i64 0]) ?_ 0 _ rfl; exact BK260.out) hg (Kd.R_away HO_12.out (fun _ hk => hk.2))); replace HB := Aside0.mk (hb); clear HO_12; clear ho hb hg hat))
            go_ret3
            exact ⟨_, _, by rfl, by exact Kd.R_nil _ _ _ _ _, by exact Kd.R_nil _ _ _ _ _, by repeat ((with_reducible exact HB.out))⟩
           ·rw [if_neg c30] at H
            have c30b0 : decide ((rd l2 x42_2) < 1) = false := decide_eq_false c30
            clear c30
            by_cases c39 : (rd l2 x42_2) > (wrap64 ((wrap64 (t247 + t249)) - (wrap64 (x13_2 + 1))))
            ·rw [if_pos c39] at H
             have c39b0 : decide ((wrap64 ((wrap64 (t247 + t249)) - (wrap64 (x13_2 + 1)))) < (rd l2 x42_2)) = true := decide_eq_true c39
             clear c39
             simp only [Option.some.injEq, Prod.mk.injEq] at H
             obtain ⟨rfl, rfl, rfl⟩ := H
             have p254 : 0 ≤ (x42_2 : Int) := of_decide_eq_true (by (with_reducible assumption))
             have q254 : x42_2 < (l2.length : Int) := of_decide_eq_true (by (with_reducible assumption))
             obtain ⟨ad254, e254, hx254_0⟩ := Kd.at_int HR2.out x42_2 p254 q254
             cases e254
             replace hx254_0 := (HB.out.cell (World.block_lt_of_cell? w _ hx254_0)).trans hx254_0
             replace p254 := eq_true p254
             replace q254 := eq_true q254
             have hnb40 := NB252_246.out
             have hnc40 := NB246_252.out
             have hcz41_0 : wr.cell? ⟨gb252, 0, none⟩ = some (.int .i64 t247) := (blk_cell BK252.out 0).trans rfl
             have hcz41_1 : wr.cell? ⟨gb252, 1, none⟩ = some (.int .i64 t248) := (blk_cell BK252.out 1).trans rfl
             have hcz41_2 : wr.cell? ⟨gb252, 2, none⟩ = some (.int .i64 t249) := (blk_cell BK252.out 2).trans rfl
             have hcz41_3 : wr.cell? ⟨gb252, 3, none⟩ = some (.int .i64 t250) := (blk_cell BK252.out 3).trans rfl
             have hfz41_0 := blk_frozen BK252.out 0
             have hfz41_1 := blk_frozen BK252.out 1
             have hfz41_2 := blk_frozen BK252.out 2
             have hfz41_3 := blk_frozen BK252.out 3
             go_wp2_with (first | ((with_reducible refine gate_callee (f := 127) rfl ?_); refine goesL_ (some 57) rfl rfl Try.func127 (by kernel_rfl) rfl #[.agg #[.int .i64 x13_2, .int .i64 t248, .int .i64 1, .int .i64 t250], .int .u8 a1] rfl (by (try simp only [List.map_toArray, List.map_cons, List.map_nil]); rfl) ?_; (with_reducible refine (rect_turned.calls x13_2 t248 1 t250 a1 t255 t256 t257 t258 t259 _ A28.out).mono ?_); rintro e w42 ⟨rfl, hb⟩; refine ⟨_, rfl, ?_⟩; replace HO_11 := Aside0.mk (Kd.R_below HO_11.out hb); replace HO_12 := Aside0.mk (Kd.R_below HO_12.out hb); replace BK246 := Aside0.mk (blk_below BK246.out hb); replace BK252 := Aside0.mk (blk_below BK252.out hb); replace HB := Aside0.mk (below_step (by repeat ((with_reducible exact HB.out))) hb); (try clear hb)) | ((with_reducible refine gate_dst (N := 16) rfl ?_); (try (refine gate_guard (by rfl) ?_; dsimp only)); refine box_event ?hg (N := 16) ?hd (cs := #[.int .i64 0, .int .i64 0, .int .i64 0, .int .i64 0]) (t := 23) ?hr ?_; (case hd => rfl); (case hg => rfl); (case hr => (go_simp; done)); intro gb260 hg w43 hbox hb; have BK260 := Aside0.mk (hbox); have GE260 := Aside0.mk ((by rw [hg]; exact (below_size (by repeat ((with_reducible exact HB.out)))) : w.heap.size ≤ gb260)); have NB246_260 := Aside0.mk ((by rw [hg]; exact Nat.ne_of_lt (blk_lt BK246.out) : gb246 ≠ gb260)); have NB260_246 := Aside0.mk ((by rw [hg]; exact Nat.ne_of_gt (blk_lt BK246.out) : gb260 ≠ gb246)); have NB252_260 := Aside0.mk ((by rw [hg]; exact Nat.ne_of_lt (blk_lt BK252.out) : gb252 ≠ gb260)); have NB260_252 := Aside0.mk ((by rw [hg]; exact Nat.ne_of_gt (blk_lt BK252.out) : gb260 ≠ gb252)); replace HO_11 := Aside0.mk (Kd.R_below (Kd.R_elderB HO_11.out gb260 (Nat.le_of_eq hg.symm)) hb); replace HO_12 := Aside0.mk (Kd.R_below (Kd.R_elderB HO_12.out gb260 (Nat.le_of_eq hg.symm)) hb); replace BK246 := Aside0.mk (blk_below BK246.out hb); replace BK252 := Aside0.mk (blk_below BK252.out hb); replace HB := Aside0.mk (below_step (by repeat ((with_reducible exact HB.out))) hb); clear hb hbox hg; have hnb44 := NB260_246.out; have hnc44 := NB246_260.out; have hnb45 := NB260_252.out; have hnc45 := NB252_260.out; have hcz46_0 : w43.cell? ⟨gb260, 0, none⟩ = some (.int .i64 0) := (blk_cell BK260.out 0).trans rfl; have hcz46_1 : w43.cell? ⟨gb260, 1, none⟩ = some (.int .i64 0) := (blk_cell BK260.out 1).trans rfl; have hcz46_2 : w43.cell? ⟨gb260, 2, none⟩ = some (.int .i64 0) := (blk_cell BK260.out 2).trans rfl; have hcz46_3 : w43.cell? ⟨gb260, 3, none⟩ = some (.int .i64 0) := (blk_cell BK260.out 3).trans rfl; have hfz46_0 := blk_frozen BK260.out 0; have hfz46_1 := blk_frozen BK260.out 1; have hfz46_2 := blk_frozen BK260.out 2; have hfz46_3 := blk_frozen BK260.out 3) | ((with_reducible refine gate_builtin (b := .append) (xs := #[.tmp 60, .tmp 62]) rfl ?_); (try (refine gate_guard (by rfl) ?_; dsimp only)); at_builtin; refine Kd.R_append k23 (w0 := w) w.heap.size rfl (.tmp 60) (.tmp 62) 42 23 (.agg #[(.int .i64 0), (.int .i64 0), (.int .i64 0), (.int .i64 0)]) 32 rfl Try.underlying42 info23 rfl (by decide) (by omega) u12 x12_2 (⟨t255, t256, t257, t258⟩ : S23) [.int .i64 t255, .int .i64 t256, .int .i64 t257, .int .i64 t258] (fun k_ => some k_ ≠ (u11 : Value).ownBlock ∧ k_ ≠ gb246 ∧ k_ ≠ gb252 ∧ k_ ≠ gb260) (fun _ => False) rfl (by (go_simp; done)) ?aP (fun _ hk => hk.elim) ?aF ?aO ?aB ?aS ?aL ?_; (case aP => exact k23_mkM _ _ _ (⟨t255, t256, t257, t258⟩ : S23)); (case aB => exact (by repeat ((with_reducible first | exact HB.out | refine below_set ?_ GE260.out)))); (case aF => exact (fun k_ hk => ⟨Kd.fresh' (Kd.R_lt (by exact (Kd.R_mono (Kd.R_far (p := ⟨gb260, 3, none⟩) (Kd.R_far (p := ⟨gb260, 2, none⟩) (Kd.R_far (p := ⟨gb260, 1, none⟩) (Kd.R_far (p := ⟨gb260, 0, none⟩) (Kd.R_mono HO_11.out (fun k_ hk => (⟨hk, hk.2⟩ : _ ∧ k_ ≠ gb260))) (fun _ hk => hk.2) (.int .i64 t255)) (fun _ hk => hk.2) (.int .i64 t256)) (fun _ hk => hk.2) (.int .i64 t257)) (fun _ hk => hk.2) (.int .i64 t258)) (fun _ h_ => h_.1)))) k_ hk, Kd.freshB (g := gb246) (o := .cells #[.int .i64 a0_0, .int .i64 a0_1, .int .i64 a0_2, .int .i64 a0_3] 23 (0, 0)) (by refine blk_far ?_ NB246_260.out _; refine blk_far ?_ NB246_260.out _; refine blk_far ?_ NB246_260.out _; refine blk_far ?_ NB246_260.out _; exact BK246.out) k_ hk, Kd.freshB (g := gb252) (o := .cells #[.int .i64 t247, .int .i64 t248, .int .i64 t249, .int .i64 t250] 23 (0, 0)) (by refine blk_far ?_ NB252_260.out _; refine blk_far ?_ NB252_260.out _; refine blk_far ?_ NB252_260.out _; refine blk_far ?_ NB252_260.out _; exact BK252.out) k_ hk, Kd.freshB (g := gb260) (o := .cells #[.int .i64 t255, .int .i64 t256, .int .i64 t257, .int .i64 t258] 23 (0, 0)) (by refine blk_put (cs := #[.int .i64 t255, .int .i64 t256, .int .i64 t257, .int .i64 0]) ?_ 3 _ rfl; refine blk_put (cs := #[.int .i64 t255, .int .i64 t256, .int .i64 0, .int .i64 0]) ?_ 2 _ rfl; refine blk_put (cs := #[.int .i64 t255, .int .i64 0, .int .i64 0, .int .i64 0]) ?_ 1 _ rfl; refine blk_put (cs := #[.int .i64 0, .int .i64 0, .int .i64 0, .int .i64 0]) ?_ 0 _ rfl; exact BK260.out) k_ hk⟩)); (case aO => exact (by exact Kd.R_mono (Kd.R_far (p := ⟨gb260, 3, none⟩) (Kd.R_far (p := ⟨gb260, 2, none⟩) (Kd.R_far (p := ⟨gb260, 1, none⟩) (Kd.R_far (p := ⟨gb260, 0, none⟩) (Kd.R_mono HO_12.out (fun k_ hk => (⟨hk, hk.2⟩ : _ ∧ k_ ≠ gb260))) (fun _ hk => hk.2) (.int .i64 t255)) (fun _ hk => hk.2) (.int .i64 t256)) (fun _ hk => hk.2) (.int .i64 t257)) (fun _ hk => hk.2) (.int .i64 t258)) (fun _ hk => ⟨hk.1.1.1, ⟨hk.1.1.2.1, ⟨hk.1.1.2.2, hk.1.2⟩⟩⟩))); (case aS => exact (below_size (by repeat ((with_reducible first | exact HB.out | refine below_set ?_ GE260.out))))); (case aL => have := LMc29.out; omega); intro v262 w47 ho hb hg hat; rw [← Ny261.out] at ho; have HO263 := Aside0.mk (ho); replace HO_11 := Aside0.mk (Kd.R_after (ok := (fun k_ => k_ ≠ gb246 ∧ k_ ≠ gb252 ∧ k_ ≠ gb260)) (by exact Kd.R_mono (Kd.R_far (p := ⟨gb260, 3, none⟩) (Kd.R_far (p := ⟨gb260, 2, none⟩) (Kd.R_far (p := ⟨gb260, 1, none⟩) (Kd.R_far (p := ⟨gb260, 0, none⟩) (Kd.R_mono HO_11.out (fun k_ hk => (⟨hk, hk.2⟩ : _ ∧ k_ ≠ gb260))) (fun _ hk => hk.2) (.int .i64 t255)) (fun _ hk => hk.2) (.int .i64 t256)) (fun _ hk => hk.2) (.int .i64 t257)) (fun _ hk => hk.2) (.int .i64 t258)) (fun _ hk => ⟨⟨hk.1.1.2.1, ⟨hk.1.1.2.2, hk.1.2⟩⟩, hk.1.1.1⟩)) hg hat); replace BK246 := Aside0.mk (blk_grown (g := gb246) (o := .cells #[.int .i64 a0_0, .int .i64 a0_1, .int .i64 a0_2, .int .i64 a0_3] 23 (0, 0)) (by refine blk_far ?_ NB246_260.out _; refine blk_far ?_ NB246_260.out _; refine blk_far ?_ NB246_260.out _; refine blk_far ?_ NB246_260.out _; exact BK246.out) hg (Kd.R_away HO_12.out (fun _ hk => hk.1.2.1))); replace BK252 := Aside0.mk (blk_grown (g := gb252) (o := .cells #[.int .i64 t247, .int .i64 t248, .int .i64 t249, .int .i64 t250] 23 (0, 0)) (by refine blk_far ?_ NB252_260.out _; refine blk_far ?_ NB252_260.out _; refine blk_far ?_ NB252_260.out _; refine blk_far ?_ NB252_260.out _; exact BK252.out) hg (Kd.R_away HO_12.out (fun _ hk => hk.1.2.2))); replace BK260 := Aside0.mk (blk_grown (g := gb260) (o := .cells #[.int .i64 t255, .int .i64 t256, .int .i64 t257, .int .i64 t258] 23 (0, 0)) (by refine blk_put (cs := #[.int .i64 t255, .int .i64 t256, .int .i64 t257, .int .i64 0]) ?_ 3 _ rfl; refine blk_put (cs := #[.int .i64 t255, .int .i64 t256, .int .i64 0, .int .i64 0]) ?_ 2 _ rfl; refine blk_put (cs := #[.int .i64 t255, .int .i64 0, .int .i64 0, .int .i64 0]) ?_ 1 _ rfl; refine blk_put (cs := #[.int .i64 0, .int .i64 0, .int .i64 0, .int .i64 0]) ?_ 0 _ rfl; exact BK260.out) hg (Kd.R_away HO_12.out (fun _ hk => hk.2))); replace HB := Aside0.mk (hb); clear HO_12; clear ho hb hg hat; have hcz48_0 : w47.cell? ⟨gb252, 0, none⟩ = some (.int .i64 t247) := (blk_cell BK252.out 0).trans rfl; have hcz48_1 : w47.cell? ⟨gb252, 1, none⟩ = some (.int .i64 t248) := (blk_cell BK252.out 1).trans rfl; have hcz48_2 : w47.cell? ⟨gb252, 2, none⟩ = some (.int .i64 t249) := (blk_cell BK252.out 2).trans rfl; have hcz48_3 : w47.cell? ⟨gb252, 3, none⟩ = some (.int .i64 t250) := (blk_cell BK252.out 3).trans rfl; have hfz48_0 := blk_frozen BK252.out 0; have hfz48_1 := blk_frozen BK252.out 1; have hfz48_2 := blk_frozen BK252.out 2; have hfz48_3 := blk_frozen BK252.out 3))
             go_ret3
             exact ⟨_, _, by rfl, by exact Kd.R_nil _ _ _ _ _, by exact Kd.R_nil _ _ _ _ _, by repeat ((with_reducible exact HB.out))⟩
            ·rw [if_neg c39] at H
             have c39b0 : decide ((wrap64 ((wrap64 (t247 + t249)) - (wrap64 (x13_2 + 1)))) < (rd l2 x42_2)) = false := decide_eq_false c39
             clear c39
             replace H := Option.bind_eq_some_iff.mp H
             obtain ⟨⟨t264, t265, t266, t267, t268⟩, A490, H⟩ := H
             replace H : (if x11_2.length < 4398046511104 then (rect_Cut.l0 k2 a1 (x11_2 ++ [(⟨t264, t265, t266, t267⟩ : S23)]) y261 (wrap64 ((wrap64 (x13_2 + 1)) + (rd l2 x42_2))) l2 (l2.length : Int) (wrap64 (x42_2 + 1)) t247 t248 t249 t250) else (none)) = some (r1, r2, r3) := H
             have A49 := Aside0.mk A490
             clear A490
             by_cases c50 : x11_2.length < 4398046511104
             ·rw [if_pos c50] at H
              have LMc50 := Aside0.mk c50
              clear c50
              obtain ⟨y270, hy270⟩ : ∃ y_ : List (S23), y_ = (x11_2 ++ [(⟨t264, t265, t266, t267⟩ : S23)]) := ⟨_, rfl⟩
              replace H : (rect_Cut.l0 k2 a1 y270 y261 (wrap64 ((wrap64 (x13_2 + 1)) + (rd l2 x42_2))) l2 (l2.length : Int) (wrap64 (x42_2 + 1)) t247 t248 t249 t250) = some (r1, r2, r3) := by (rw [hy270]; with_reducible exact H)
              have Ny270 := Aside0.mk hy270
              clear hy270
              have H' := Aside0.mk H
              clear H
              have p254 : 0 ≤ (x42_2 : Int) := of_decide_eq_true (by (with_reducible assumption))
              have q254 : x42_2 < (l2.length : Int) := of_decide_eq_true (by (with_reducible assumption))
              obtain ⟨ad254, e254, hx254_0⟩ := Kd.at_int HR2.out x42_2 p254 q254
              cases e254
              replace hx254_0 := (HB.out.cell (World.block_lt_of_cell? w _ hx254_0)).trans hx254_0
              replace p254 := eq_true p254
              replace q254 := eq_true q254
              have hnb51 := NB252_246.out
              have hnc51 := NB246_252.out
              have hcz52_0 : wr.cell? ⟨gb252, 0, none⟩ = some (.int .i64 t247) := (blk_cell BK252.out 0).trans rfl
              have hcz52_1 : wr.cell? ⟨gb252, 1, none⟩ = some (.int .i64 t248) := (blk_cell BK252.out 1).trans rfl
              have hcz52_2 : wr.cell? ⟨gb252, 2, none⟩ = some (.int .i64 t249) := (blk_cell BK252.out 2).trans rfl
              have hcz52_3 : wr.cell? ⟨gb252, 3, none⟩ = some (.int .i64 t250) := (blk_cell BK252.out 3).trans rfl
              have hfz52_0 := blk_frozen BK252.out 0
              have hfz52_1 := blk_frozen BK252.out 1
              have hfz52_2 := blk_frozen BK252.out 2
              have hfz52_3 := blk_frozen BK252.out 3
              go_wp2_with (first | ((with_reducible refine gate_callee (f := 127) rfl ?_); refine goesL_ (some 57) rfl rfl Try.func127 (by kernel_rfl) rfl #[.agg #[.int .i64 x13_2, .int .i64 t248, .int .i64 1, .int .i64 t250], .int .u8 a1] rfl (by (try simp only [List.map_toArray, List.map_cons, List.map_nil]); rfl) ?_; (with_reducible refine (rect_turned.calls x13_2 t248 1 t250 a1 t255 t256 t257 t258 t259 _ A28.out).mono ?_); rintro e w53 ⟨rfl, hb⟩; refine ⟨_, rfl, ?_⟩; replace HO_11 := Aside0.mk (Kd.R_below HO_11.out hb); replace HO_12 := Aside0.mk (Kd.R_below HO_12.out hb); replace BK246 := Aside0.mk (blk_below BK246.out hb); replace BK252 := Aside0.mk (blk_below BK252.out hb); replace HB := Aside0.mk (below_step (by repeat ((with_reducible exact HB.out))) hb); (try clear hb)) | ((with_reducible refine gate_dst (N := 16) rfl ?_); (try (refine gate_guard (by rfl) ?_; dsimp only)); refine box_event ?hg (N := 16) ?hd (cs := #[.int .i64 0, .int .i64 0, .int .i64 0, .int .i64 0]) (t := 23) ?hr ?_; (case hd => rfl); (case hg => rfl); (case hr => (go_simp; done)); intro gb260 hg w54 hbox hb; have BK260 := Aside0.mk (hbox); have GE260 := Aside0.mk ((by rw [hg]; exact (below_size (by repeat ((with_reducible exact HB.out)))) : w.heap.size ≤ gb260)); have NB246_260 := Aside0.mk ((by rw [hg]; exact Nat.ne_of_lt (blk_lt BK246.out) : gb246 ≠ gb260)); have NB260_246 := Aside0.mk ((by rw [hg]; exact Nat.ne_of_gt (blk_lt BK246.out) : gb260 ≠ gb246)); have NB252_260 := Aside0.mk ((by rw [hg]; exact Nat.ne_of_lt (blk_lt BK252.out) : gb252 ≠ gb260)); have NB260_252 := Aside0.mk ((by rw [hg]; exact Nat.ne_of_gt (blk_lt BK252.out) : gb260 ≠ gb252)); replace HO_11 := Aside0.mk (Kd.R_below (Kd.R_elderB HO_11.out gb260 (Nat.le_of_eq hg.symm)) hb); replace HO_12 := Aside0.mk (Kd.R_below (Kd.R_elderB HO_12.out gb260 (Nat.le_of_eq hg.symm)) hb); replace BK246 := Aside0.mk (blk_below BK246.out hb); replace BK252 := Aside0.mk (blk_below BK252.out hb); replace HB := Aside0.mk (below_step (by repeat ((with_reducible exact HB.out))) hb); clear hb hbox hg; have hnb55 := NB260_246.out; have hnc55 := NB246_260.out; have hnb56 := NB260_252.out; have hnc56 := NB252_260.out; have hcz57_0 : w54.cell? ⟨gb260, 0, none⟩ = some (.int .i64 0) := (blk_cell BK260.out 0).trans rfl; have hcz57_1 : w54.cell? ⟨gb260, 1, none⟩ = some (.int .i64 0) := (blk_cell BK260.out 1).trans rfl; have hcz57_2 : w54.cell? ⟨gb260, 2, none⟩ = some (.int .i64 0) := (blk_cell BK260.out 2).trans rfl; have hcz57_3 : w54.cell? ⟨gb260, 3, none⟩ = some (.int .i64 0) := (blk_cell BK260.out 3).trans rfl; have hfz57_0 := blk_frozen BK260.out 0; have hfz57_1 := blk_frozen BK260.out 1; have hfz57_2 := blk_frozen BK260.out 2; have hfz57_3 := blk_frozen BK260.out 3) | ((with_reducible refine gate_builtin (b := .append) (xs := #[.tmp 60, .tmp 62]) rfl ?_); (try (refine gate_guard (by rfl) ?_; dsimp only)); at_builtin; refine Kd.R_append k23 (w0 := w) w.heap.size rfl (.tmp 60) (.tmp 62) 42 23 (.agg #[(.int .i64 0), (.int .i64 0), (.int .i64 0), (.int .i64 0)]) 32 rfl Try.underlying42 info23 rfl (by decide) (by omega) u12 x12_2 (⟨t255, t256, t257, t258⟩ : S23) [.int .i64 t255, .int .i64 t256, .int .i64 t257, .int .i64 t258] (fun k_ => some k_ ≠ (u11 : Value).ownBlock ∧ k_ ≠ gb246 ∧ k_ ≠ gb252 ∧ k_ ≠ gb260) (fun _ => False) rfl (by (go_simp; done)) ?aP (fun _ hk => hk.elim) ?aF ?aO ?aB ?aS ?aL ?_; (case aP => exact k23_mkM _ _ _ (⟨t255, t256, t257, t258⟩ : S23)); (case aB => exact (by repeat ((with_reducible first | exact HB.out | refine below_set ?_ GE260.out)))); (case aF => exact (fun k_ hk => ⟨Kd.fresh' (Kd.R_lt (by exact (Kd.R_mono (Kd.R_far (p := ⟨gb260, 3, none⟩) (Kd.R_far (p := ⟨gb260, 2, none⟩) (Kd.R_far (p := ⟨gb260, 1, none⟩) (Kd.R_far (p := ⟨gb260, 0, none⟩) (Kd.R_mono HO_11.out (fun k_ hk => (⟨hk, hk.2⟩ : _ ∧ k_ ≠ gb260))) (fun _ hk => hk.2) (.int .i64 t255)) (fun _ hk => hk.2) (.int .i64 t256)) (fun _ hk => hk.2) (.int .i64 t257)) (fun _ hk => hk.2) (.int .i64 t258)) (fun _ h_ => h_.1)))) k_ hk, Kd.freshB (g := gb246) (o := .cells #[.int .i64 a0_0, .int .i64 a0_1, .int .i64 a0_2, .int .i64 a0_3] 23 (0, 0)) (by refine blk_far ?_ NB246_260.out _; refine blk_far ?_ NB246_260.out _; refine blk_far ?_ NB246_260.out _; refine blk_far ?_ NB246_260.out _; exact BK246.out) k_ hk, Kd.freshB (g := gb252) (o := .cells #[.int .i64 t247, .int .i64 t248, .int .i64 t249, .int .i64 t250] 23 (0, 0)) (by refine blk_far ?_ NB252_260.out _; refine blk_far ?_ NB252_260.out _; refine blk_far ?_ NB252_260.out _; refine blk_far ?_ NB252_260.out _; exact BK252.out) k_ hk, Kd.freshB (g := gb260) (o := .cells #[.int .i64 t255, .int .i64 t256, .int .i64 t257, .int .i64 t258] 23 (0, 0)) (by refine blk_put (cs := #[.int .i64 t255, .int .i64 t256, .int .i64 t257, .int .i64 0]) ?_ 3 _ rfl; refine blk_put (cs := #[.int .i64 t255, .int .i64 t256, .int .i64 0, .int .i64 0]) ?_ 2 _ rfl; refine blk_put (cs := #[.int .i64 t255, .int .i64 0, .int .i64 0, .int .i64 0]) ?_ 1 _ rfl; refine blk_put (cs := #[.int .i64 0, .int .i64 0, .int .i64 0, .int .i64 0]) ?_ 0 _ rfl; exact BK260.out) k_ hk⟩)); (case aO => exact (by exact Kd.R_mono (Kd.R_far (p := ⟨gb260, 3, none⟩) (Kd.R_far (p := ⟨gb260, 2, none⟩) (Kd.R_far (p := ⟨gb260, 1, none⟩) (Kd.R_far (p := ⟨gb260, 0, none⟩) (Kd.R_mono HO_12.out (fun k_ hk => (⟨hk, hk.2⟩ : _ ∧ k_ ≠ gb260))) (fun _ hk => hk.2) (.int .i64 t255)) (fun _ hk => hk.2) (.int .i64 t256)) (fun _ hk => hk.2) (.int .i64 t257)) (fun _ hk => hk.2) (.int .i64 t258)) (fun _ hk => ⟨hk.1.1.1, ⟨hk.1.1.2.1, ⟨hk.1.1.2.2, hk.1.2⟩⟩⟩))); (case aS => exact (below_size (by repeat ((with_reducible first | exact HB.out | refine below_set ?_ GE260.out))))); (case aL => have := LMc29.out; omega); intro v262 w58 ho hb hg hat; rw [← Ny261.out] at ho; have HO263 := Aside0.mk (ho); replace HO_11 := Aside0.mk (Kd.R_after (ok := (fun k_ => k_ ≠ gb246 ∧ k_ ≠ gb252 ∧ k_ ≠ gb260)) (by exact Kd.R_mono (Kd.R_far (p := ⟨gb260, 3, none⟩) (Kd.R_far (p := ⟨gb260, 2, none⟩) (Kd.R_far (p := ⟨gb260, 1, none⟩) (Kd.R_far (p := ⟨gb260, 0, none⟩) (Kd.R_mono HO_11.out (fun k_ hk => (⟨hk, hk.2⟩ : _ ∧ k_ ≠ gb260))) (fun _ hk => hk.2) (.int .i64 t255)) (fun _ hk => hk.2) (.int .i64 t256)) (fun _ hk => hk.2) (.int .i64 t257)) (fun _ hk => hk.2) (.int .i64 t258)) (fun _ hk => ⟨⟨hk.1.1.2.1, ⟨hk.1.1.2.2, hk.1.2⟩⟩, hk.1.1.1⟩)) hg hat); replace BK246 := Aside0.mk (blk_grown (g := gb246) (o := .cells #[.int .i64 a0_0, .int .i64 a0_1, .int .i64 a0_2, .int .i64 a0_3] 23 (0, 0)) (by refine blk_far ?_ NB246_260.out _; refine blk_far ?_ NB246_260.out _; refine blk_far ?_ NB246_260.out _; refine blk_far ?_ NB246_260.out _; exact BK246.out) hg (Kd.R_away HO_12.out (fun _ hk => hk.1.2.1))); replace BK252 := Aside0.mk (blk_grown (g := gb252) (o := .cells #[.int .i64 t247, .int .i64 t248, .int .i64 t249, .int .i64 t250] 23 (0, 0)) (by refine blk_far ?_ NB252_260.out _; refine blk_far ?_ NB252_260.out _; refine blk_far ?_ NB252_260.out _; refine blk_far ?_ NB252_260.out _; exact BK252.out) hg (Kd.R_away HO_12.out (fun _ hk => hk.1.2.2))); replace BK260 := Aside0.mk (blk_grown (g := gb260) (o := .cells #[.int .i64 t255, .int .i64 t256, .int .i64 t257, .int .i64 t258] 23 (0, 0)) (by refine blk_put (cs := #[.int .i64 t255, .int .i64 t256, .int .i64 t257, .int .i64 0]) ?_ 3 _ rfl; refine blk_put (cs := #[.int .i64 t255, .int .i64 t256, .int .i64 0, .int .i64 0]) ?_ 2 _ rfl; refine blk_put (cs := #[.int .i64 t255, .int .i64 0, .int .i64 0, .int .i64 0]) ?_ 1 _ rfl; refine blk_put (cs := #[.int .i64 0, .int .i64 0, .int .i64 0, .int .i64 0]) ?_ 0 _ rfl; exact BK260.out) hg (Kd.R_away HO_12.out (fun _ hk => hk.2))); replace HB := Aside0.mk (hb); clear HO_12; clear ho hb hg hat; have hcz59_0 : w58.cell? ⟨gb252, 0, none⟩ = some (.int .i64 t247) := (blk_cell BK252.out 0).trans rfl; have hcz59_1 : w58.cell? ⟨gb252, 1, none⟩ = some (.int .i64 t248) := (blk_cell BK252.out 1).trans rfl; have hcz59_2 : w58.cell? ⟨gb252, 2, none⟩ = some (.int .i64 t249) := (blk_cell BK252.out 2).trans rfl; have hcz59_3 : w58.cell? ⟨gb252, 3, none⟩ = some (.int .i64 t250) := (blk_cell BK252.out 3).trans rfl; have hfz59_0 := blk_frozen BK252.out 0; have hfz59_1 := blk_frozen BK252.out 1; have hfz59_2 := blk_frozen BK252.out 2; have hfz59_3 := blk_frozen BK252.out 3) | ((with_reducible refine gate_callee (f := 127) rfl ?_); refine goesL_ (some 88) rfl rfl Try.func127 (by kernel_rfl) rfl #[.agg #[.int .i64 (wrap64 (x13_2 + 1)), .int .i64 t248, .int .i64 (rd l2 x42_2), .int .i64 t250], .int .u8 a1] rfl (by (try simp only [List.map_toArray, List.map_cons, List.map_nil]); rfl) ?_; (with_reducible refine (rect_turned.calls (wrap64 (x13_2 + 1)) t248 (rd l2 x42_2) t250 a1 t264 t265 t266 t267 t268 _ A49.out).mono ?_); rintro e w60 ⟨rfl, hb⟩; refine ⟨_, rfl, ?_⟩; replace HO_11 := Aside0.mk (Kd.R_below HO_11.out hb); replace HO263 := Aside0.mk (Kd.R_below HO263.out hb); replace BK246 := Aside0.mk (blk_below BK246.out hb); replace BK252 := Aside0.mk (blk_below BK252.out hb); replace BK260 := Aside0.mk (blk_below BK260.out hb); replace HB := Aside0.mk (below_step (by repeat ((with_reducible exact HB.out))) hb); (try clear hb)) | ((with_reducible refine gate_dst (N := 18) rfl ?_); (try (refine gate_guard (by rfl) ?_; dsimp only)); refine box_event ?hg (N := 18) ?hd (cs := #[.int .i64 0, .int .i64 0, .int .i64 0, .int .i64 0]) (t := 23) ?hr ?_; (case hd => rfl); (case hg => rfl); (case hr => (go_simp; done)); intro gb269 hg w61 hbox hb; have BK269 := Aside0.mk (hbox); have GE269 := Aside0.mk ((by rw [hg]; exact (below_size (by repeat ((with_reducible exact HB.out)))) : w.heap.size ≤ gb269)); have NB246_269 := Aside0.mk ((by rw [hg]; exact Nat.ne_of_lt (blk_lt BK246.out) : gb246 ≠ gb269)); have NB269_246 := Aside0.mk ((by rw [hg]; exact Nat.ne_of_gt (blk_lt BK246.out) : gb269 ≠ gb246)); have NB252_269 := Aside0.mk ((by rw [hg]; exact Nat.ne_of_lt (blk_lt BK252.out) : gb252 ≠ gb269)); have NB269_252 := Aside0.mk ((by rw [hg]; exact Nat.ne_of_gt (blk_lt BK252.out) : gb269 ≠ gb252)); have NB260_269 := Aside0.mk ((by rw [hg]; exact Nat.ne_of_lt (blk_lt BK260.out) : gb260 ≠ gb269)); have NB269_260 := Aside0.mk ((by rw [hg]; exact Nat.ne_of_gt (blk_lt BK260.out) : gb269 ≠ gb260)); replace HO_11 := Aside0.mk (Kd.R_below (Kd.R_elderB HO_11.out gb269 (Nat.le_of_eq hg.symm)) hb); replace HO263 := Aside0.mk (Kd.R_below (Kd.R_elderB HO263.out gb269 (Nat.le_of_eq hg.symm)) hb); replace BK246 := Aside0.mk (blk_below BK246.out hb); replace BK252 := Aside0.mk (blk_below BK252.out hb); replace BK260 := Aside0.mk (blk_below BK260.out hb); replace HB := Aside0.mk (below_step (by repeat ((with_reducible exact HB.out))) hb); clear hb hbox hg; have hnb62 := NB269_246.out; have hnc62 := NB246_269.out; have hnb63 := NB269_252.out; have hnc63 := NB252_269.out; have hnb64 := NB269_260.out; have hnc64 := NB260_269.out; have hcz65_0 : w61.cell? ⟨gb269, 0, none⟩ = some (.int .i64 0) := (blk_cell BK269.out 0).trans rfl; have hcz65_1 : w61.cell? ⟨gb269, 1, none⟩ = some (.int .i64 0) := (blk_cell BK269.out 1).trans rfl; have hcz65_2 : w61.cell? ⟨gb269, 2, none⟩ = some (.int .i64 0) := (blk_cell BK269.out 2).trans rfl; have hcz65_3 : w61.cell? ⟨gb269, 3, none⟩ = some (.int .i64 0) := (blk_cell BK269.out 3).trans rfl; have hfz65_0 := blk_frozen BK269.out 0; have hfz65_1 := blk_frozen BK269.out 1; have hfz65_2 := blk_frozen BK269.out 2; have hfz65_3 := blk_frozen BK269.out 3) | ((with_reducible refine gate_builtin (b := .append) (xs := #[.tmp 91, .tmp 93]) rfl ?_); (try (refine gate_guard (by rfl) ?_; dsimp only)); at_builtin; refine Kd.R_append k23 (w0 := w) w.heap.size rfl (.tmp 91) (.tmp 93) 42 23 (.agg #[(.int .i64 0), (.int .i64 0), (.int .i64 0), (.int .i64 0)]) 32 rfl Try.underlying42 info23 rfl (by decide) (by omega) u11 x11_2 (⟨t264, t265, t266, t267⟩ : S23) [.int .i64 t264, .int .i64 t265, .int .i64 t266, .int .i64 t267] (fun k_ => some k_ ≠ (v262 : Value).ownBlock ∧ k_ ≠ gb246 ∧ k_ ≠ gb252 ∧ k_ ≠ gb260 ∧ k_ ≠ gb269) (fun _ => False) rfl (by (go_simp; done)) ?aP (fun _ hk => hk.elim) ?aF ?aO ?aB ?aS ?aL ?_; (case aP => exact k23_mkM _ _ _ (⟨t264, t265, t266, t267⟩ : S23)); (case aB => exact (by repeat ((with_reducible first | exact HB.out | refine below_set ?_ GE269.out)))); (case aF => exact (fun k_ hk => ⟨Kd.fresh' (Kd.R_lt (by exact (Kd.R_mono (Kd.R_far (p := ⟨gb269, 3, none⟩) (Kd.R_far (p := ⟨gb269, 2, none⟩) (Kd.R_far (p := ⟨gb269, 1, none⟩) (Kd.R_far (p := ⟨gb269, 0, none⟩) (Kd.R_mono HO263.out (fun k_ hk => (⟨hk, hk.2⟩ : _ ∧ k_ ≠ gb269))) (fun _ hk => hk.2) (.int .i64 t264)) (fun _ hk => hk.2) (.int .i64 t265)) (fun _ hk => hk.2) (.int .i64 t266)) (fun _ hk => hk.2) (.int .i64 t267)) (fun _ h_ => h_.1)))) k_ hk, Kd.freshB (g := gb246) (o := .cells #[.int .i64 a0_0, .int .i64 a0_1, .int .i64 a0_2, .int .i64 a0_3] 23 (0, 0)) (by refine blk_far ?_ NB246_269.out _; refine blk_far ?_ NB246_269.out _; refine blk_far ?_ NB246_269.out _; refine blk_far ?_ NB246_269.out _; exact BK246.out) k_ hk, Kd.freshB (g := gb252) (o := .cells #[.int .i64 t247, .int .i64 t248, .int .i64 t249, .int .i64 t250] 23 (0, 0)) (by refine blk_far ?_ NB252_269.out _; refine blk_far ?_ NB252_269.out _; refine blk_far ?_ NB252_269.out _; refine blk_far ?_ NB252_269.out _; exact BK252.out) k_ hk, Kd.freshB (g := gb260) (o := .cells #[.int .i64 t255, .int .i64 t256, .int .i64 t257, .int .i64 t258] 23 (0, 0)) (by refine blk_far ?_ NB260_269.out _; refine blk_far ?_ NB260_269.out _; refine blk_far ?_ NB260_269.out _; refine blk_far ?_ NB260_269.out _; exact BK260.out) k_ hk, Kd.freshB (g := gb269) (o := .cells #[.int .i64 t264, .int .i64 t265, .int .i64 t266, .int .i64 t267] 23 (0, 0)) (by refine blk_put (cs := #[.int .i64 t264, .int .i64 t265, .int .i64 t266, .int .i64 0]) ?_ 3 _ rfl; refine blk_put (cs := #[.int .i64 t264, .int .i64 t265, .int .i64 0, .int .i64 0]) ?_ 2 _ rfl; refine blk_put (cs := #[.int .i64 t264, .int .i64 0, .int .i64 0, .int .i64 0]) ?_ 1 _ rfl; refine blk_put (cs := #[.int .i64 0, .int .i64 0, .int .i64 0, .int .i64 0]) ?_ 0 _ rfl; exact BK269.out) k_ hk⟩)); (case aO => exact (by exact Kd.R_mono (Kd.R_far (p := ⟨gb269, 3, none⟩) (Kd.R_far (p := ⟨gb269, 2, none⟩) (Kd.R_far (p := ⟨gb269, 1, none⟩) (Kd.R_far (p := ⟨gb269, 0, none⟩) (Kd.R_mono HO_11.out (fun k_ hk => (⟨hk, hk.2⟩ : _ ∧ k_ ≠ gb269))) (fun _ hk => hk.2) (.int .i64 t264)) (fun _ hk => hk.2) (.int .i64 t265)) (fun _ hk => hk.2) (.int .i64 t266)) (fun _ hk => hk.2) (.int .i64 t267)) (fun _ hk => ⟨hk.1.1.2, ⟨hk.1.1.1.1, ⟨hk.1.1.1.2.1, ⟨hk.1.1.1.2.2, hk.1.2⟩⟩⟩⟩))); (case aS => exact (below_size (by repeat ((with_reducible first | exact HB.out | refine below_set ?_ GE269.out))))); (case aL => have := LMc50.out; omega); intro v271 w66 ho hb hg hat; rw [← Ny270.out] at ho; have HO272 := Aside0.mk (ho); replace BK246 := Aside0.mk (blk_grown (g := gb246) (o := .cells #[.int .i64 a0_0, .int .i64 a0_1, .int .i64 a0_2, .int .i64 a0_3] 23 (0, 0)) (by refine blk_far ?_ NB246_269.out _; refine blk_far ?_ NB246_269.out _; refine blk_far ?_ NB246_269.out _; refine blk_far ?_ NB246_269.out _; exact BK246.out) hg (Kd.R_away HO_11.out (fun _ hk => hk.1.1.1))); replace BK252 := Aside0.mk (blk_grown (g := gb252) (o := .cells #[.int .i64 t247, .int .i64 t248, .int .i64 t249, .int .i64 t250] 23 (0, 0)) (by refine blk_far ?_ NB252_269.out _; refine blk_far ?_ NB252_269.out _; refine blk_far ?_ NB252_269.out _; refine blk_far ?_ NB252_269.out _; exact BK252.out) hg (Kd.R_away HO_11.out (fun _ hk => hk.1.1.2.1))); replace BK260 := Aside0.mk (blk_grown (g := gb260) (o := .cells #[.int .i64 t255, .int .i64 t256, .int .i64 t257, .int .i64 t258] 23 (0, 0)) (by refine blk_far ?_ NB260_269.out _; refine blk_far ?_ NB260_269.out _; refine blk_far ?_ NB260_269.out _; refine blk_far ?_ NB260_269.out _; exact BK260.out) hg (Kd.R_away HO_11.out (fun _ hk => hk.1.1.2.2))); replace HO263 := Aside0.mk (Kd.R_after (ok := (fun k_ => k_ ≠ gb246 ∧ k_ ≠ gb252 ∧ k_ ≠ gb260 ∧ k_ ≠ gb269)) (by exact Kd.R_mono (Kd.R_far (p := ⟨gb269, 3, none⟩) (Kd.R_far (p := ⟨gb269, 2, none⟩) (Kd.R_far (p := ⟨gb269, 1, none⟩) (Kd.R_far (p := ⟨gb269, 0, none⟩) (Kd.R_mono HO263.out (fun k_ hk => (⟨hk, hk.2⟩ : _ ∧ k_ ≠ gb269))) (fun _ hk => hk.2) (.int .i64 t264)) (fun _ hk => hk.2) (.int .i64 t265)) (fun _ hk => hk.2) (.int .i64 t266)) (fun _ hk => hk.2) (.int .i64 t267)) (fun _ hk => ⟨⟨hk.1.1.2.1, ⟨hk.1.1.2.2.1, ⟨hk.1.1.2.2.2, hk.1.2⟩⟩⟩, hk.1.1.1⟩)) hg hat); replace BK269 := Aside0.mk (blk_grown (g := gb269) (o := .cells #[.int .i64 t264, .int .i64 t265, .int .i64 t266, .int .i64 t267] 23 (0, 0)) (by refine blk_put (cs := #[.int .i64 t264, .int .i64 t265, .int .i64 t266, .int .i64 0]) ?_ 3 _ rfl; refine blk_put (cs := #[.int .i64 t264, .int .i64 t265, .int .i64 0, .int .i64 0]) ?_ 2 _ rfl; refine blk_put (cs := #[.int .i64 t264, .int .i64 0, .int .i64 0, .int .i64 0]) ?_ 1 _ rfl; refine blk_put (cs := #[.int .i64 0, .int .i64 0, .int .i64 0, .int .i64 0]) ?_ 0 _ rfl; exact BK269.out) hg (Kd.R_away HO_11.out (fun _ hk => hk.2))); replace HB := Aside0.mk (hb); clear HO_11; clear ho hb hg hat))
              go_roundg k2
              case measure => have := HJ4.out; have := HK2.out; omega
              case rel => exact ⟨(y270), (y261), (wrap64 ((wrap64 (x13_2 + 1)) + (rd l2 x42_2))), (wrap64 (x42_2 + 1)), (by rfl), (by rfl), H', ⟨by have := HJ4.out; have := HK2.out; omega⟩, ⟨by exact Kd.R_mono HO272.out (fun _ hk => ⟨hk.1, ⟨hk.2.1, hk.2.2.1⟩⟩)⟩, ⟨by exact Kd.R_mono HO263.out (fun _ hk => ⟨hk.2, ⟨hk.1.1, hk.1.2.1⟩⟩)⟩, ⟨by exact BK246.out⟩, ⟨by exact BK252.out⟩, ⟨by repeat ((with_reducible exact HB.out))⟩⟩
             ·rw [if_neg c50] at H
              exact absurd H (by simp)
          ·rw [if_neg c29] at H
           exact absurd H (by simp)
         ·rw [if_neg c27] at H
          have c27b0 : decide (0 < x42_2) = false := decide_eq_false c27
          clear c27
          by_cases c67 : (rd l2 x42_2) < 1
          ·rw [if_pos c67] at H
           have c67b0 : decide ((rd l2 x42_2) < 1) = true := decide_eq_true c67
           clear c67
           simp only [Option.some.injEq, Prod.mk.injEq] at H
           obtain ⟨rfl, rfl, rfl⟩ := H
           have p254 : 0 ≤ (x42_2 : Int) := of_decide_eq_true (by (with_reducible assumption))
           have q254 : x42_2 < (l2.length : Int) := of_decide_eq_true (by (with_reducible assumption))
           obtain ⟨ad254, e254, hx254_0⟩ := Kd.at_int HR2.out x42_2 p254 q254
           cases e254
           replace hx254_0 := (HB.out.cell (World.block_lt_of_cell? w _ hx254_0)).trans hx254_0
           replace p254 := eq_true p254
           replace q254 := eq_true q254
           go_wp2
           go_ret3
           exact ⟨_, _, by rfl, by exact Kd.R_nil _ _ _ _ _, by exact Kd.R_nil _ _ _ _ _, by repeat ((with_reducible exact HB.out))⟩
          ·rw [if_neg c67] at H
           have c67b0 : decide ((rd l2 x42_2) < 1) = false := decide_eq_false c67
           clear c67
           by_cases c68 : (rd l2 x42_2) > (wrap64 ((wrap64 (t247 + t249)) - x13_2))
           ·rw [if_pos c68] at H
            have c68b0 : decide ((wrap64 ((wrap64 (t247 + t249)) - x13_2)) < (rd l2 x42_2)) = true := decide_eq_true c68
            clear c68
            simp only [Option.some.injEq, Prod.mk.injEq] at H
            obtain ⟨rfl, rfl, rfl⟩ := H
            have p254 : 0 ≤ (x42_2 : Int) := of_decide_eq_true (by (with_reducible assumption))
            have q254 : x42_2 < (l2.length : Int) := of_decide_eq_true (by (with_reducible assumption))
            obtain ⟨ad254, e254, hx254_0⟩ := Kd.at_int HR2.out x42_2 p254 q254
            cases e254
            replace hx254_0 := (HB.out.cell (World.block_lt_of_cell? w _ hx254_0)).trans hx254_0
            replace p254 := eq_true p254
            replace q254 := eq_true q254
            have hnb69 := NB252_246.out
            have hnc69 := NB246_252.out
            have hcz70_0 : wr.cell? ⟨gb252, 0, none⟩ = some (.int .i64 t247) := (blk_cell BK252.out 0).trans rfl
            have hcz70_1 : wr.cell? ⟨gb252, 1, none⟩ = some (.int .i64 t248) := (blk_cell BK252.out 1).trans rfl
            have hcz70_2 : wr.cell? ⟨gb252, 2, none⟩ = some (.int .i64 t249) := (blk_cell BK252.out 2).trans rfl
            have hcz70_3 : wr.cell? ⟨gb252, 3, none⟩ = some (.int .i64 t250) := (blk_cell BK252.out 3).trans rfl
            have hfz70_0 := blk_frozen BK252.out 0
            have hfz70_1 := blk_frozen BK252.out 1
            have hfz70_2 := blk_frozen BK252.out 2
            have hfz70_3 := blk_frozen BK252.out 3
            go_wp2
            go_ret3
            exact ⟨_, _, by rfl, by exact Kd.R_nil _ _ _ _ _, by exact Kd.R_nil _ _ _ _ _, by repeat ((with_reducible exact HB.out))⟩
           ·rw [if_neg c68] at H
            have c68b0 : decide ((wrap64 ((wrap64 (t247 + t249)) - x13_2)) < (rd l2 x42_2)) = false := decide_eq_false c68
            clear c68
            replace H := Option.bind_eq_some_iff.mp H
            obtain ⟨⟨t273, t274, t275, t276, t277⟩, A710, H⟩ := H
            replace H : (if x11_2.length < 4398046511104 then (rect_Cut.l0 k2 a1 (x11_2 ++ [(⟨t273, t274, t275, t276⟩ : S23)]) x12_2 (wrap64 (x13_2 + (rd l2 x42_2))) l2 (l2.length : Int) (wrap64 (x42_2 + 1)) t247 t248 t249 t250) else (none)) = some (r1, r2, r3) := H
            have A71 := Aside0.mk A710
            clear A710
            by_cases c72 : x11_2.length < 4398046511104
            ·rw [if_pos c72] at H
             have LMc72 := Aside0.mk c72
             clear c72
             obtain ⟨y279, hy279⟩ : ∃ y_ : List (S23), y_ = (x11_2 ++ [(⟨t273, t274, t275, t276⟩ : S23)]) := ⟨_, rfl⟩
             replace H : (rect_Cut.l0 k2 a1 y279 x12_2 (wrap64 (x13_2 + (rd l2 x42_2))) l2 (l2.length : Int) (wrap64 (x42_2 + 1)) t247 t248 t249 t250) = some (r1, r2, r3) := by (rw [hy279]; with_reducible exact H)
             have Ny279 := Aside0.mk hy279
             clear hy279
             have H' := Aside0.mk H
             clear H
             have p254 : 0 ≤ (x42_2 : Int) := of_decide_eq_true (by (with_reducible assumption))
             have q254 : x42_2 < (l2.length : Int) := of_decide_eq_true (by (with_reducible assumption))
             obtain ⟨ad254, e254, hx254_0⟩ := Kd.at_int HR2.out x42_2 p254 q254
             cases e254
             replace hx254_0 := (HB.out.cell (World.block_lt_of_cell? w _ hx254_0)).trans hx254_0
             replace p254 := eq_true p254
             replace q254 := eq_true q254
             have hnb73 := NB252_246.out
             have hnc73 := NB246_252.out
             have hcz74_0 : wr.cell? ⟨gb252, 0, none⟩ = some (.int .i64 t247) := (blk_cell BK252.out 0).trans rfl
             have hcz74_1 : wr.cell? ⟨gb252, 1, none⟩ = some (.int .i64 t248) := (blk_cell BK252.out 1).trans rfl
             have hcz74_2 : wr.cell? ⟨gb252, 2, none⟩ = some (.int .i64 t249) := (blk_cell BK252.out 2).trans rfl
             have hcz74_3 : wr.cell? ⟨gb252, 3, none⟩ = some (.int .i64 t250) := (blk_cell BK252.out 3).trans rfl
             have hfz74_0 := blk_frozen BK252.out 0
             have hfz74_1 := blk_frozen BK252.out 1
             have hfz74_2 := blk_frozen BK252.out 2
             have hfz74_3 := blk_frozen BK252.out 3
             go_wp2_with (first | ((with_reducible refine gate_callee (f := 127) rfl ?_); refine goesL_ (some 88) rfl rfl Try.func127 (by kernel_rfl) rfl #[.agg #[.int .i64 x13_2, .int .i64 t248, .int .i64 (rd l2 x42_2), .int .i64 t250], .int .u8 a1] rfl (by (try simp only [List.map_toArray, List.map_cons, List.map_nil]); rfl) ?_; (with_reducible refine (rect_turned.calls x13_2 t248 (rd l2 x42_2) t250 a1 t273 t274 t275 t276 t277 _ A71.out).mono ?_); rintro e w75 ⟨rfl, hb⟩; refine ⟨_, rfl, ?_⟩; replace HO_11 := Aside0.mk (Kd.R_below HO_11.out hb); replace HO_12 := Aside0.mk (Kd.R_below HO_12.out hb); replace BK246 := Aside0.mk (blk_below BK246.out hb); replace BK252 := Aside0.mk (blk_below BK252.out hb); replace HB := Aside0.mk (below_step (by repeat ((with_reducible exact HB.out))) hb); (try clear hb)) | ((with_reducible refine gate_dst (N := 18) rfl ?_); (try (refine gate_guard (by rfl) ?_; dsimp only)); refine box_event ?hg (N := 18) ?hd (cs := #[.int .i64 0, .int .i64 0, .int .i64 0, .int .i64 0]) (t := 23) ?hr ?_; (case hd => rfl); (case hg => rfl); (case hr => (go_simp; done)); intro gb278 hg w76 hbox hb; have BK278 := Aside0.mk (hbox); have GE278 := Aside0.mk ((by rw [hg]; exact (below_size (by repeat ((with_reducible exact HB.out)))) : w.heap.size ≤ gb278)); have NB246_278 := Aside0.mk ((by rw [hg]; exact Nat.ne_of_lt (blk_lt BK246.out) : gb246 ≠ gb278)); have NB278_246 := Aside0.mk ((by rw [hg]; exact Nat.ne_of_gt (blk_lt BK246.out) : gb278 ≠ gb246)); have NB252_278 := Aside0.mk ((by rw [hg]; exact Nat.ne_of_lt (blk_lt BK252.out) : gb252 ≠ gb278)); have NB278_252 := Aside0.mk ((by rw [hg]; exact Nat.ne_of_gt (blk_lt BK252.out) : gb278 ≠ gb252)); replace HO_11 := Aside0.mk (Kd.R_below (Kd.R_elderB HO_11.out gb278 (Nat.le_of_eq hg.symm)) hb); replace HO_12 := Aside0.mk (Kd.R_below (Kd.R_elderB HO_12.out gb278 (Nat.le_of_eq hg.symm)) hb); replace BK246 := Aside0.mk (blk_below BK246.out hb); replace BK252 := Aside0.mk (blk_below BK252.out hb); replace HB := Aside0.mk (below_step (by repeat ((with_reducible exact HB.out))) hb); clear hb hbox hg; have hnb77 := NB278_246.out; have hnc77 := NB246_278.out; have hnb78 := NB278_252.out; have hnc78 := NB252_278.out; have hcz79_0 : w76.cell? ⟨gb278, 0, none⟩ = some (.int .i64 0) := (blk_cell BK278.out 0).trans rfl; have hcz79_1 : w76.cell? ⟨gb278, 1, none⟩ = some (.int .i64 0) := (blk_cell BK278.out 1).trans rfl; have hcz79_2 : w76.cell? ⟨gb278, 2, none⟩ = some (.int .i64 0) := (blk_cell BK278.out 2).trans rfl; have hcz79_3 : w76.cell? ⟨gb278, 3, none⟩ = some (.int .i64 0) := (blk_cell BK278.out 3).trans rfl; have hfz79_0 := blk_frozen BK278.out 0; have hfz79_1 := blk_frozen BK278.out 1; have hfz79_2 := blk_frozen BK278.out 2; have hfz79_3 := blk_frozen BK278.out 3) | ((with_reducible refine gate_builtin (b := .append) (xs := #[.tmp 91, .tmp 93]) rfl ?_); (try (refine gate_guard (by rfl) ?_; dsimp only)); at_builtin; refine Kd.R_append k23 (w0 := w) w.heap.size rfl (.tmp 91) (.tmp 93) 42 23 (.agg #[(.int .i64 0), (.int .i64 0), (.int .i64 0), (.int .i64 0)]) 32 rfl Try.underlying42 info23 rfl (by decide) (by omega) u11 x11_2 (⟨t273, t274, t275, t276⟩ : S23) [.int .i64 t273, .int .i64 t274, .int .i64 t275, .int .i64 t276] (fun k_ => some k_ ≠ (u12 : Value).ownBlock ∧ k_ ≠ gb246 ∧ k_ ≠ gb252 ∧ k_ ≠ gb278) (fun _ => False) rfl (by (go_simp; done)) ?aP (fun _ hk => hk.elim) ?aF ?aO ?aB ?aS ?aL ?_; (case aP => exact k23_mkM _ _ _ (⟨t273, t274, t275, t276⟩ : S23)); (case aB => exact (by repeat ((with_reducible first | exact HB.out | refine below_set ?_ GE278.out)))); (case aF => exact (fun k_ hk => ⟨Kd.fresh' (Kd.R_lt (by exact (Kd.R_mono (Kd.R_far (p := ⟨gb278, 3, none⟩) (Kd.R_far (p := ⟨gb278, 2, none⟩) (Kd.R_far (p := ⟨gb278, 1, none⟩) (Kd.R_far (p := ⟨gb278, 0, none⟩) (Kd.R_mono HO_12.out (fun k_ hk => (⟨hk, hk.2⟩ : _ ∧ k_ ≠ gb278))) (fun _ hk => hk.2) (.int .i64 t273)) (fun _ hk => hk.2) (.int .i64 t274)) (fun _ hk => hk.2) (.int .i64 t275)) (fun _ hk => hk.2) (.int .i64 t276)) (fun _ h_ => h_.1)))) k_ hk, Kd.freshB (g := gb246) (o := .cells #[.int .i64 a0_0, .int .i64 a0_1, .int .i64 a0_2, .int .i64 a0_3] 23 (0, 0)) (by refine blk_far ?_ NB246_278.out _; refine blk_far ?_ NB246_278.out _; refine blk_far ?_ NB246_278.out _; refine blk_far ?_ NB246_278.out _; exact BK246.out) k_ hk, Kd.freshB (g := gb252) (o := .cells #[.int .i64 t247, .int .i64 t248, .int .i64 t249, .int .i64 t250] 23 (0, 0)) (by refine blk_far ?_ NB252_278.out _; refine blk_far ?_ NB252_278.out _; refine blk_far ?_ NB252_278.out _; refine blk_far ?_ NB252_278.out _; exact BK252.out) k_ hk, Kd.freshB (g := gb278) (o := .cells #[.int .i64 t273, .int .i64 t274, .int .i64 t275, .int .i64 t276] 23 (0, 0)) (by refine blk_put (cs := #[.int .i64 t273, .int .i64 t274, .int .i64 t275, .int .i64 0]) ?_ 3 _ rfl; refine blk_put (cs := #[.int .i64 t273, .int .i64 t274, .int .i64 0, .int .i64 0]) ?_ 2 _ rfl; refine blk_put (cs := #[.int .i64 t273, .int .i64 0, .int .i64 0, .int .i64 0]) ?_ 1 _ rfl; refine blk_put (cs := #[.int .i64 0, .int .i64 0, .int .i64 0, .int .i64 0]) ?_ 0 _ rfl; exact BK278.out) k_ hk⟩)); (case aO => exact (by exact Kd.R_mono (Kd.R_far (p := ⟨gb278, 3, none⟩) (Kd.R_far (p := ⟨gb278, 2, none⟩) (Kd.R_far (p := ⟨gb278, 1, none⟩) (Kd.R_far (p := ⟨gb278, 0, none⟩) (Kd.R_mono HO_11.out (fun k_ hk => (⟨hk, hk.2⟩ : _ ∧ k_ ≠ gb278))) (fun _ hk => hk.2) (.int .i64 t273)) (fun _ hk => hk.2) (.int .i64 t274)) (fun _ hk => hk.2) (.int .i64 t275)) (fun _ hk => hk.2) (.int .i64 t276)) (fun _ hk => ⟨hk.1.1.1, ⟨hk.1.1.2.1, ⟨hk.1.1.2.2, hk.1.2⟩⟩⟩))); (case aS => exact (below_size (by repeat ((with_reducible first | exact HB.out | refine below_set ?_ GE278.out))))); (case aL => have := LMc72.out; omega); intro v280 w80 ho hb hg hat; rw [← Ny279.out] at ho; have HO281 := Aside0.mk (ho); replace HO_12 := Aside0.mk (Kd.R_after (ok := (fun k_ => k_ ≠ gb246 ∧ k_ ≠ gb252 ∧ k_ ≠ gb278)) (by exact Kd.R_mono (Kd.R_far (p := ⟨gb278, 3, none⟩) (Kd.R_far (p := ⟨gb278, 2, none⟩) (Kd.R_far (p := ⟨gb278, 1, none⟩) (Kd.R_far (p := ⟨gb278, 0, none⟩) (Kd.R_mono HO_12.out (fun k_ hk => (⟨hk, hk.2⟩ : _ ∧ k_ ≠ gb278))) (fun _ hk => hk.2) (.int .i64 t273)) (fun _ hk => hk.2) (.int .i64 t274)) (fun _ hk => hk.2) (.int .i64 t275)) (fun _ hk => hk.2) (.int .i64 t276)) (fun _ hk => ⟨⟨hk.1.1.2.1, ⟨hk.1.1.2.2, hk.1.2⟩⟩, hk.1.1.1⟩)) hg hat); replace BK246 := Aside0.mk (blk_grown (g := gb246) (o := .cells #[.int .i64 a0_0, .int .i64 a0_1, .int .i64 a0_2, .int .i64 a0_3] 23 (0, 0)) (by refine blk_far ?_ NB246_278.out _; refine blk_far ?_ NB246_278.out _; refine blk_far ?_ NB246_278.out _; refine blk_far ?_ NB246_278.out _; exact BK246.out) hg (Kd.R_away HO_11.out (fun _ hk => hk.1.2.1))); replace BK252 := Aside0.mk (blk_grown (g := gb252) (o := .cells #[.int .i64 t247, .int .i64 t248, .int .i64 t249, .int .i64 t250] 23 (0, 0)) (by refine blk_far ?_ NB252_278.out _; refine blk_far ?_ NB252_278.out _; refine blk_far ?_ NB252_278.out _; refine blk_far ?_ NB252_278.out _; exact BK252.out) hg (Kd.R_away HO_11.out (fun _ hk => hk.1.2.2))); replace BK278 := Aside0.mk (blk_grown (g := gb278) (o := .cells #[.int .i64 t273, .int .i64 t274, .int .i64 t275, .int .i64 t276] 23 (0, 0)) (by refine blk_put (cs := #[.int .i64 t273, .int .i64 t274, .int .i64 t275, .int .i64 0]) ?_ 3 _ rfl; refine blk_put (cs := #[.int .i64 t273, .int .i64 t274, .int .i64 0, .int .i64 0]) ?_ 2 _ rfl; refine blk_put (cs := #[.int .i64 t273, .int .i64 0, .int .i64 0, .int .i64 0]) ?_ 1 _ rfl; refine blk_put (cs := #[.int .i64 0, .int .i64 0, .int .i64 0, .int .i64 0]) ?_ 0 _ rfl; exact BK278.out) hg (Kd.R_away HO_11.out (fun _ hk => hk.2))); replace HB := Aside0.mk (hb); clear HO_11; clear ho hb hg hat))
             go_roundg k2
             case measure => have := HJ4.out; have := HK2.out; omega
             case rel => exact ⟨(y279), (x12_2), (wrap64 (x13_2 + (rd l2 x42_2))), (wrap64 (x42_2 + 1)), (by rfl), (by rfl), H', ⟨by have := HJ4.out; have := HK2.out; omega⟩, ⟨by exact Kd.R_mono HO281.out (fun _ hk => ⟨hk.1, ⟨hk.2.1, hk.2.2.1⟩⟩)⟩, ⟨by exact Kd.R_mono HO_12.out (fun _ hk => ⟨hk.2, ⟨hk.1.1, hk.1.2.1⟩⟩)⟩, ⟨by exact BK246.out⟩, ⟨by exact BK252.out⟩, ⟨by repeat ((with_reducible exact HB.out))⟩⟩
            ·rw [if_neg c72] at H
             exact absurd H (by simp)
        ·rw [if_neg c26] at H
         exact absurd H (by simp)
       ·rw [if_neg c25] at H
        exact absurd H (by simp)
      ·rw [if_neg c24] at H
       have c24b0 : decide (x42_2 < (l2.length : Int)) = false := decide_eq_false c24
       clear c24
       by_cases c81 : x13_2 = (wrap64 (t247 + t249))
       ·rw [if_pos c81] at H
        have c81b0 : (x13_2 == (wrap64 (t247 + t249))) = true := beq_iff_eq.mpr c81
        have c81b1 : (x13_2 != (wrap64 (t247 + t249))) = false := bne_eq_false_iff_eq.mpr c81
        clear c81
        simp only [Option.some.injEq, Prod.mk.injEq] at H
        obtain ⟨rfl, rfl, rfl⟩ := H
        have hnb82 := NB252_246.out
        have hnc82 := NB246_252.out
        have hcz83_0 : wr.cell? ⟨gb252, 0, none⟩ = some (.int .i64 t247) := (blk_cell BK252.out 0).trans rfl
        have hcz83_1 : wr.cell? ⟨gb252, 1, none⟩ = some (.int .i64 t248) := (blk_cell BK252.out 1).trans rfl
        have hcz83_2 : wr.cell? ⟨gb252, 2, none⟩ = some (.int .i64 t249) := (blk_cell BK252.out 2).trans rfl
        have hcz83_3 : wr.cell? ⟨gb252, 3, none⟩ = some (.int .i64 t250) := (blk_cell BK252.out 3).trans rfl
        have hfz83_0 := blk_frozen BK252.out 0
        have hfz83_1 := blk_frozen BK252.out 1
        have hfz83_2 := blk_frozen BK252.out 2
        have hfz83_3 := blk_frozen BK252.out 3
        go_wp2
        go_ret3
        exact ⟨_, _, by rfl, by exact Kd.R_mono HO_11.out (fun _ hk => hk.1), by exact Kd.R_mono HO_12.out (fun _ hk => hk.1), by repeat ((with_reducible exact HB.out))⟩
       ·rw [if_neg c81] at H
        have c81b0 : (x13_2 == (wrap64 (t247 + t249))) = false := beq_eq_false_iff_ne.mpr c81
        have c81b1 : (x13_2 != (wrap64 (t247 + t249))) = true := bne_iff_ne.mpr c81
        simp only [Option.some.injEq, Prod.mk.injEq] at H
        obtain ⟨rfl, rfl, rfl⟩ := H
        have hnb84 := NB252_246.out
        have hnc84 := NB246_252.out
        have hcz85_0 : wr.cell? ⟨gb252, 0, none⟩ = some (.int .i64 t247) := (blk_cell BK252.out 0).trans rfl
        have hcz85_1 : wr.cell? ⟨gb252, 1, none⟩ = some (.int .i64 t248) := (blk_cell BK252.out 1).trans rfl
        have hcz85_2 : wr.cell? ⟨gb252, 2, none⟩ = some (.int .i64 t249) := (blk_cell BK252.out 2).trans rfl
        have hcz85_3 : wr.cell? ⟨gb252, 3, none⟩ = some (.int .i64 t250) := (blk_cell BK252.out 3).trans rfl
        have hfz85_0 := blk_frozen BK252.out 0
        have hfz85_1 := blk_frozen BK252.out 1
        have hfz85_2 := blk_frozen BK252.out 2
        have hfz85_3 := blk_frozen BK252.out 3
        go_wp2
        go_ret3
        exact ⟨_, _, by rfl, by exact Kd.R_nil _ _ _ _ _, by exact Kd.R_nil _ _ _ _ _, by repeat ((with_reducible exact HB.out))⟩

end Go.Proofs.Ytfdmfgaiblfbhaa.P
namespace Go.Proofs.Ytfdmfgaiblfbhaa.P
open Go.RowKit Go.Proofs.YtfdmfgaiblfbhaaW.PrintWords Go.Proofs.YtfdmfgaiblfbhaaW.PrintLast Go.Proofs.YtfdmfgaiblfbhaaW.PrintMore
attribute [local go_sem] max2_int min2_int max_two min_two max_three min_three max_four min_four   -- for this text's walks alone
set_option linter.unusedVariables false
set_option linter.unusedSimpArgs false

attribute [local go_sem high] eqA23
/-! ### sashlaw04_awake: function 44 -/
def sashlaw04_awake.f (k : Nat)  : Option (Bool) := (rect_Cut.f k 0 0 80 24 1 (([40, 39] : List Int))).bind fun bt285 => (if bt285.2.2 = true then (if (bt285.1.length : Int) = 2 then (if 1 < (bt285.1.length : Int) then (if (((rd_T23 bt285.1 1).f0) == 41 && (((rd_T23 bt285.1 1).f1) == 0 && (((rd_T23 bt285.1 1).f2) == 39 && (((rd_T23 bt285.1 1).f3) == 24)))) = true then (if (bt285.2.1.length : Int) = 1 then (if 0 < (bt285.2.1.length : Int) then (some (((rd_T23 bt285.2.1 0).f0) == 40 && (((rd_T23 bt285.2.1 0).f1) == 0 && (((rd_T23 bt285.2.1 0).f2) == 1 && (((rd_T23 bt285.2.1 0).f3) == 24))))) else (none)) else (some false)) else (some false)) else (none)) else (some false)) else (some false))
theorem sashlaw04_awake.mono : ∀ k, LeO (sashlaw04_awake.f k ) (sashlaw04_awake.f (k + 1) ) := by
 intro  k
 unfold sashlaw04_awake.f
 repeat' first | (with_reducible exact rect_Cut.mono _ _ _ _ _ _ _) | (with_reducible exact LeO.refl _) | (with_reducible refine LeO.bind ?_ (fun _ => ?_))
end Go.Proofs.Ytfdmfgaiblfbhaa.P
/- May a rectangle be: plain words. -/
namespace Go.Proofs.Ytfdmfgaiblfbhaa.P
open Go.RowKit Go.Proofs.YtfdmfgaiblfbhaaW.PrintWords Go.Proofs.YtfdmfgaiblfbhaaW.PrintLast Go.Proofs.YtfdmfgaiblfbhaaW.PrintMore

theorem wq {x : Int} (h0 : -9223372036854775808 ≤ x) (h1 : x ≤ 9223372036854775807) : wrap64 x = x := by unfold wrap64; omega
theorem ev_pos {α : Type} {c : Prop} [Decidable c] {g f : Nat → Option α} {r : α} (hc : c) (h : Ev g r) : Ev (fun k => if c then g k else f k) r := by simp only [if_pos hc]; exact h
theorem ev_neg {α : Type} {c : Prop} [Decidable c] {g f : Nat → Option α} {r : α} (hc : ¬c) (h : Ev f r) : Ev (fun k => if c then g k else f k) r := by simp only [if_neg hc]; exact h
theorem ev_some {α : Type} {g : Nat → Option α} {r : α} (h : ∀ k, g k = some r) : Ev g r := ⟨0, fun k _ => h k⟩
theorem rd_in (pre : List Int) (p : Int) (rest : List Int) : rd (pre ++ p :: rest) (pre.length : Int) = p := by
  simp [rd, List.getD_eq_getElem?_getD]

/-- May a rectangle be? -/
def mayB (X Y W H : Int) : Bool := decide (0 ≤ X ∧ 1 ≤ W ∧ W ≤ 10000 ∧ X + W ≤ 10000 ∧ 0 ≤ Y ∧ 1 ≤ H ∧ H ≤ 10000 ∧ Y + H ≤ 10000)
theorem may_iff {X Y W H : Int} : mayB X Y W H = true ↔ (0 ≤ X ∧ 1 ≤ W ∧ W ≤ 10000 ∧ X + W ≤ 10000 ∧ 0 ≤ Y ∧ 1 ≤ H ∧ H ≤ 10000 ∧ Y + H ≤ 10000) := by unfold mayB; rw [decide_eq_true_iff]
theorem may_some (X Y W H : Int) : rect_may.f X Y W H = some (mayB X Y W H) := by
  unfold rect_may.f mayB
  by_cases h1 : X ≥ 0
  · by_cases h2 : W ≥ 1
    · by_cases h3 : W ≤ 10000
      · rw [if_pos h1, if_pos h2, if_pos h3, wq (x := 10000 - W) (by omega) (by omega)]
        by_cases h4 : X ≤ 10000 - W
        · rw [if_pos h4]
          by_cases h5 : Y ≥ 0
          · by_cases h6 : H ≥ 1
            · by_cases h7 : H ≤ 10000
              · rw [if_pos h5, if_pos h6, if_pos h7, wq (x := 10000 - H) (by omega) (by omega)]
                congr 1
                rw [decide_eq_decide]
                omega
              · rw [if_pos h5, if_pos h6, if_neg h7, decide_eq_false (by omega)]
            · rw [if_pos h5, if_neg h6, decide_eq_false (by omega)]
          · rw [if_neg h5, decide_eq_false (by omega)]
        · rw [if_neg h4, decide_eq_false (by omega)]
      · rw [if_pos h1, if_pos h2, if_neg h3, decide_eq_false (by omega)]
    · rw [if_pos h1, if_neg h2, decide_eq_false (by omega)]
  · rw [if_neg h1, decide_eq_false (by omega)]
theorem refmay_some (X Y W H : Int) : sashref04_May.f X Y W H = some (mayB X Y W H) := by
  unfold sashref04_May.f mayB
  by_cases h1 : X < 0
  · rw [if_pos h1, decide_eq_false (by omega)]
  · rw [if_neg h1]
    by_cases h2 : X > 10000
    · rw [if_pos h2, decide_eq_false (by omega)]
    · rw [if_neg h2]
      by_cases h3 : Y < 0
      · rw [if_pos h3, decide_eq_false (by omega)]
      · rw [if_neg h3]
        by_cases h4 : Y > 10000
        · rw [if_pos h4, decide_eq_false (by omega)]
        · rw [if_neg h4]
          by_cases h5 : W > 0
          · by_cases h6 : W ≤ 10000
            · by_cases h7 : H > 0
              · by_cases h8 : H ≤ 10000
                · rw [if_pos h5, if_pos h6, if_pos h7, if_pos h8, wq (x := X + W) (by omega) (by omega), wq (x := Y + H) (by omega) (by omega)]
                  by_cases h9 : X + W ≤ 10000
                  · rw [if_pos h9]
                    congr 1
                    rw [decide_eq_decide]
                    omega
                  · rw [if_neg h9, decide_eq_false (by omega)]
                · rw [if_pos h5, if_pos h6, if_pos h7, if_neg h8, decide_eq_false (by omega)]
              · rw [if_pos h5, if_pos h6, if_neg h7, decide_eq_false (by omega)]
            · rw [if_pos h5, if_neg h6, decide_eq_false (by omega)]
          · rw [if_neg h5, decide_eq_false (by omega)]

def mayR (r : S23) : Bool := mayB r.f0 r.f1 r.f2 r.f3
end Go.Proofs.Ytfdmfgaiblfbhaa.P
namespace Go.Proofs.Ytfdmfgaiblfbhaa.P
open Go.RowKit Go.Proofs.YtfdmfgaiblfbhaaW.PrintWords Go.Proofs.YtfdmfgaiblfbhaaW.PrintLast Go.Proofs.YtfdmfgaiblfbhaaW.PrintMore
attribute [local go_sem] max2_int min2_int max_two min_two max_three min_three max_four min_four   -- for this text's walks alone
set_option linter.unusedVariables false
set_option linter.unusedSimpArgs false

attribute [local go_sem high] eqA23
/-! ### sashref04_Same: function 47 -/
def sashref04_Same.l0 : Nat → List (S23) → List (S23) → Int → Int → Option (Bool)
 | 0, _, _, _, _ => none
 | k + 1, x0, x1, x12, x13 => if x13 < x12 then (if 0 ≤ x13 then (if x13 < (x0.length : Int) then (if x13 < (x1.length : Int) then (if (!(((rd_T23 x0 x13).f0) == ((rd_T23 x1 x13).f0)) || (!(((rd_T23 x0 x13).f1) == ((rd_T23 x1 x13).f1)) || (!(((rd_T23 x0 x13).f2) == ((rd_T23 x1 x13).f2)) || (!(((rd_T23 x0 x13).f3) == ((rd_T23 x1 x13).f3)))))) = true then (some false) else (sashref04_Same.l0 k x0 x1 x12 (wrap64 (x13 + 1)))) else (none)) else (none)) else (none)) else (some true)
def sashref04_Same.f (k : Nat) (l0 : List (S23)) (l1 : List (S23)) : Option (Bool) := if (l0.length : Int) = (l1.length : Int) then (sashref04_Same.l0 k l0 l1 (l0.length : Int) 0) else (some false)
end Go.Proofs.Ytfdmfgaiblfbhaa.P
/- How a law's arguments read: cells, rectangles, panes, and rows of these, as plain data. -/
namespace Go.Proofs.Ytfdmfgaiblfbhaa.P
open Go.RowKit Go.Proofs.YtfdmfgaiblfbhaaW.PrintWords Go.Proofs.YtfdmfgaiblfbhaaW.PrintLast Go.Proofs.YtfdmfgaiblfbhaaW.PrintMore
open Go.ChangeShapes Go.WideShapes Go.ChangeAt Go.Joins Go.Deep

/-! ### What is known of the numbers -/
def I64 (n : Int) : Prop := -9223372036854775808 ≤ n ∧ n ≤ 9223372036854775807
def U8 (n : Int) : Prop := 0 ≤ n ∧ n ≤ 255
def U16 (n : Int) : Prop := 0 ≤ n ∧ n ≤ 65535
def wf23 (r : S23) : Prop := I64 r.f0 ∧ I64 r.f1 ∧ I64 r.f2 ∧ I64 r.f3
def wf35 (p : S35) : Prop := I64 p.f0 ∧ wf23 p.f1
def wfn26 : Nat → S26 → Prop
  | 0, _ => False
  | n + 1, c => U8 c.f0 ∧ wf23 c.f1 ∧ I64 c.f2 ∧ c.f3.length ≤ 9223372036854775807 ∧ ∀ k, k ∈ c.f3 → wfn26 n k
def wf26 (c : S26) : Prop := ∃ n, wfn26 n c
theorem wfn26_le : ∀ {n m : Nat} (_ : n ≤ m) {c : S26}, wfn26 n c → wfn26 m c
  | 0, _, _, _, h => h.elim
  | n + 1, 0, hm, _, _ => absurd hm (by omega)
  | n + 1, m + 1, hm, _, h => ⟨h.1, h.2.1, h.2.2.1, h.2.2.2.1, fun k hk => wfn26_le (by omega) (h.2.2.2.2 k hk)⟩

section
variable {H : Type} {enc : TypeId × Value → H} {P : Program} {w : World} {base : Nat} {spare : Nat → Bool} {held : Bool}
theorem row_of {α : Type} {Q : Nat → α → Prop} : ∀ (n : Nat), (∀ i, i < n → ∃ p, Q i p) → ∃ l : List α, l.length = n ∧ ∀ i p, l[i]? = some p → Q i p
  | 0, _ => ⟨[], rfl, fun i p h => by simp at h⟩
  | n + 1, h => by
    obtain ⟨l, hl, hq⟩ := row_of n fun i hi => h i (by omega)
    obtain ⟨p, hp⟩ := h n (by omega)
    refine ⟨l ++ [p], by simp [hl], fun i q hi => ?_⟩
    rcases Nat.lt_trichotomy i n with h1 | h1 | h1
    · rw [List.getElem?_append_left (by omega)] at hi
      exact hq i q hi
    · subst h1
      rw [List.getElem?_append_right (by omega), hl, Nat.sub_self] at hi
      obtain rfl : p = q := by simpa using hi
      exact hp
    · rw [List.getElem?_eq_none (by simp; omega)] at hi
      cases hi
theorem cells_at {a : Addr} {n : Nat} {cs : List Value} (h : w.cells? base a n = some cs) : cs.length = n ∧ ∀ i u, cs[i]? = some u → w.cell? (a.add i) = some u := by
  obtain ⟨_, h1, h2⟩ := World.cells?_some h
  exact ⟨h1, fun i u hi => by
    have hlt : i < n := by rw [← h1]; exact (List.getElem?_eq_some_iff.1 hi).1
    rw [h2 i hlt, hi]⟩

end
section
variable {H : Type} {enc : TypeId × Value → H} {w : World} {base : Nat} {spare : Nat → Bool} {held : Bool}
theorem i64_of {n : Int} (h : (Lit.int .i64 n).wf = true) : I64 n := by
  have := bounds_i64 h
  unfold I64
  omega
theorem u8_of {n : Int} (h : (Lit.int .u8 n).wf = true) : U8 n := bounds_u8 h
theorem agg_of {a : Array Value} {l : List Value} (h : (Value.agg a).cells.toList = l) : a = l.toArray := by
  subst h
  simp [Value.cells]
theorem cells23 : Try.prog.cellsOf 23 = 4 := by kernel_rfl
theorem cells26 : Try.prog.cellsOf 26 = 7 := by kernel_rfl
theorem cells3 : Try.prog.cellsOf 3 = 1 := by kernel_rfl
theorem cells5 : Try.prog.cellsOf 5 = 1 := by kernel_rfl
theorem cells24 : Try.prog.cellsOf 24 = 1 := by kernel_rfl
set_option maxRecDepth 100000 in
theorem read23 {fuel : Nat} {cs : List Value} {x : DataW H × List MemPlace} (h : DataW.trod enc Try.prog w base spare held fuel 23 cs = some x) : ∃ r : S23, k23.K w r cs ∧ wf23 r := by
  obtain ⟨y0, y1, y2, y3, n, _, hl, h0, h1, h2, h3⟩ := trod_struct4 Try.underlying23 h
  rw [cells23] at hl
  match cs, hl with
  | [c0, c1, c2, c3], _ =>
    simp only [cells3, List.drop_zero, List.take_succ_cons, List.take_zero, List.drop_succ_cons] at h0 h1 h2 h3
    obtain ⟨n0, e0, _, w0⟩ := DataW.trod_int Try.underlying3 h0
    obtain ⟨n1, e1, _, w1⟩ := DataW.trod_int Try.underlying3 h1
    obtain ⟨n2, e2, _, w2⟩ := DataW.trod_int Try.underlying3 h2
    obtain ⟨n3, e3, _, w3⟩ := DataW.trod_int Try.underlying3 h3
    simp only [List.cons.injEq, and_true] at e0 e1 e2 e3
    subst e0 e1 e2 e3
    exact ⟨⟨n0, n1, n2, n3⟩, k23_mk w ⟨n0, n1, n2, n3⟩, i64_of w0, i64_of w1, i64_of w2, i64_of w3⟩
end
end Go.Proofs.Ytfdmfgaiblfbhaa.P
/- Plain words on rectangles: whether one may be, what it is cut into: the code's and the reference's alike. -/
namespace Go.Proofs.Ytfdmfgaiblfbhaa.P
open Go.RowKit Go.Proofs.YtfdmfgaiblfbhaaW.PrintWords Go.Proofs.YtfdmfgaiblfbhaaW.PrintLast Go.Proofs.YtfdmfgaiblfbhaaW.PrintMore

/-- A rectangle's axes, turned where it is cut down. -/
def tX (ax X Y : Int) : Int := if ax = 2 then Y else X
theorem turned_some {ax : Int} (h : ax = 1 ∨ ax = 2) (X Y W H : Int) : rect_turned.f X Y W H ax = some (tX ax X Y, tX ax Y X, tX ax W H, tX ax H W, true) := by
  unfold rect_turned.f tX
  rcases h with rfl | rfl
  · rfl
  · rfl

/-- The parts of a rectangle that is cut: the next one stands at off. -/
def cutP (ax X Y W H : Int) : Int → List Int → List S23
  | _, [] => []
  | off, n :: ns => (⟨tX ax (tX ax X Y + off) (tX ax Y X), tX ax (tX ax Y X) (tX ax X Y + off), tX ax n (tX ax H W), tX ax (tX ax H W) n⟩ : S23) :: cutP ax X Y W H (off + n + 1) ns
theorem cut_both (ax X Y W H : Int) (hax : ax = 1 ∨ ax = 2) (hm : mayB X Y W H = true) (sizes : List Int) (hl : sizes.length ≤ 20000) (hne : 0 < sizes.length) :
    ∀ (rest pre : List Int) (off : Int) (parts lines : List S23), pre ++ rest = sizes → 0 ≤ off → off ≤ 10000 → parts.length ≤ 20000 → lines.length ≤ 20000 → parts.length ≤ pre.length → lines.length ≤ pre.length →
    ∃ t : List S23 × List S23 × Bool, (t.1.length ≤ sizes.length ∧ t.2.1.length ≤ sizes.length) ∧ (t.2.2 = true → t.1 = parts ++ cutP ax X Y W H (if pre.length = 0 then off else off + 1) rest ∧ off + rest.sum + (rest.length : Int) - (if pre.length = 0 then 1 else 0) = tX ax W H ∧ ∀ m, m ∈ rest → 1 ≤ m) ∧ Ev (fun k => rect_Cut.l0 k ax parts lines (tX ax X Y + off) sizes (sizes.length : Int) (pre.length : Int) (tX ax X Y) (tX ax Y X) (tX ax W H) (tX ax H W)) t ∧
      Ev (fun k => sashref04_Cut.l0 k ax sizes [] (tX ax W H) parts lines off (sizes.length : Int) (pre.length : Int) X Y W H) t := by
  replace hm := may_iff.1 hm
  have hb : 0 ≤ tX ax X Y ∧ 1 ≤ tX ax W H ∧ tX ax W H ≤ 10000 ∧ tX ax X Y + tX ax W H ≤ 10000 ∧ tX ax X Y ≤ 10000 := by
    unfold tX
    rcases hax with rfl | rfl
    · rw [if_neg (by omega), if_neg (by omega)]; omega
    · rw [if_pos rfl, if_pos rfl]; omega
  obtain ⟨b1, b2, b3, b4, b5⟩ := hb
  intro rest
  induction rest with
  | nil =>
    intro pre off parts lines he h0 h1 hp hq hp2 hq2
    have e : pre = sizes := by simpa using he
    rw [e] at hp2 hq2
    by_cases ho : off = tX ax W H
    · refine ⟨(parts, lines, true), ⟨hp2, hq2⟩, fun _ => ⟨by simp [cutP], by rw [if_neg (by rw [e]; omega)]; simp; omega, fun m hm => by cases hm⟩, Ev.step (fun k => ?_) (Ev.now _), Ev.step (fun k => ?_) (Ev.now _)⟩
      · simp only [rect_Cut.l0]
        rw [if_neg (by rw [e]; omega), wq (by omega) (by omega), if_pos (by omega)]
      · simp only [sashref04_Cut.l0]
        rw [if_neg (by rw [e]; omega), if_pos ho]
    · refine ⟨([], [], false), ⟨by simp, by simp⟩, fun h => absurd h (by simp), Ev.step (fun k => ?_) (Ev.now _), Ev.step (fun k => ?_) (Ev.now _)⟩
      · simp only [rect_Cut.l0]
        rw [if_neg (by rw [e]; omega), wq (by omega) (by omega), if_neg (by omega)]
      · simp only [sashref04_Cut.l0]
        rw [if_neg (by rw [e]; omega), if_neg ho]
  | cons n rest ih =>
    intro pre off parts lines he h0 h1 hp hq hp2 hq2
    have hlen : sizes.length = pre.length + (rest.length + 1) := by rw [← he]; simp
    have hrd : rd sizes (pre.length : Int) = n := by rw [← he]; exact rd_in pre n rest
    have hi : (pre.length : Int) < (sizes.length : Int) := by omega
    have hi0 : (0 : Int) ≤ (pre.length : Int) := by omega
    have hpl : parts.length < 4398046511104 := Nat.lt_of_le_of_lt hp (by decide)
    have hql : lines.length < 4398046511104 := Nat.lt_of_le_of_lt hq (by decide)
    -- behind the line ahead of this part: off', lines'
    have body : ∀ (off' : Int) (lines' : List S23), 0 ≤ off' → off' ≤ 10001 → lines'.length ≤ pre.length + 1 →
        ∃ t : List S23 × List S23 × Bool, (t.1.length ≤ sizes.length ∧ t.2.1.length ≤ sizes.length) ∧ (t.2.2 = true → t.1 = parts ++ cutP ax X Y W H off' (n :: rest) ∧ off' + (n :: rest).sum + (rest.length : Int) = tX ax W H ∧ ∀ m, m ∈ n :: rest → 1 ≤ m) ∧ Ev (fun k => if n < 1 then (some (([] : List S23), ([] : List S23), false)) else (if n > tX ax W H - off' then (some (([] : List S23), ([] : List S23), false)) else
              (rect_Cut.l0 k ax (parts ++ [(⟨tX ax (tX ax X Y + off') (tX ax Y X), tX ax (tX ax Y X) (tX ax X Y + off'), tX ax n (tX ax H W), tX ax (tX ax H W) n⟩ : S23)]) lines' (tX ax X Y + (off' + n)) sizes (sizes.length : Int) ((pre ++ [n]).length : Int) (tX ax X Y) (tX ax Y X) (tX ax W H) (tX ax H W)))) t ∧
          Ev (fun k => sashref04_Cut.j3 k ax sizes [] (tX ax W H) parts lines' off' (pre.length : Int) (sizes.length : Int) (pre.length : Int) X Y W H) t := by
      intro off' lines' g0 g1 g2
      by_cases hn : n < 1
      · refine ⟨([], [], false), ⟨by simp, by simp⟩, fun h => absurd h (by simp), ev_pos hn (Ev.now _), Ev.step (f := fun k => sashref04_Cut.j4 k ax sizes [] (tX ax W H) parts lines' off' (pre.length : Int) (sizes.length : Int) (pre.length : Int) true X Y W H) (fun k => ?_) (Ev.step (fun k => ?_) (Ev.now _))⟩
        · simp only [sashref04_Cut.j3]
          rw [if_pos hi0, if_pos hi, hrd, if_pos hn]
        · simp only [sashref04_Cut.j4]
          rw [if_pos trivial]
      · by_cases hn2 : n > tX ax W H - off'
        · refine ⟨([], [], false), ⟨by simp, by simp⟩, fun h => absurd h (by simp), ev_neg hn (ev_pos hn2 (Ev.now _)), Ev.step (f := fun k => sashref04_Cut.j4 k ax sizes [] (tX ax W H) parts lines' off' (pre.length : Int) (sizes.length : Int) (pre.length : Int) true X Y W H) (fun k => ?_) (Ev.step (fun k => ?_) (Ev.now _))⟩
          · simp only [sashref04_Cut.j3]
            rw [if_pos hi0, if_pos hi, hrd, if_neg hn]
            by_cases hn3 : n > tX ax W H
            · rw [if_pos hn3]
            · rw [if_neg hn3, wq (by omega) (by omega), decide_eq_true (by omega)]
          · simp only [sashref04_Cut.j4]
            rw [if_pos trivial]
        · obtain ⟨t, t0, tg, t1, t2⟩ := ih (pre ++ [n]) (off' + n) (parts ++ [(⟨tX ax (tX ax X Y + off') (tX ax Y X), tX ax (tX ax Y X) (tX ax X Y + off'), tX ax n (tX ax H W), tX ax (tX ax H W) n⟩ : S23)]) lines' (by simp [← he]) (by omega) (by omega) (by simp; omega) (by omega) (by simp; omega) (by simp; omega)
          refine ⟨t, t0, fun h => ?_, ev_neg hn (ev_neg hn2 t1), Ev.step (f := fun k => sashref04_Cut.j4 k ax sizes [] (tX ax W H) parts lines' off' (pre.length : Int) (sizes.length : Int) (pre.length : Int) false X Y W H) (fun k => ?_) (Ev.step (fun k => ?_) t2)⟩
          · obtain ⟨q1, q2, q3⟩ := tg h
            rw [if_neg (by simp)] at q1 q2
            refine ⟨by rw [q1, List.append_assoc]; rfl, by rw [List.sum_cons]; omega, fun m hm => ?_⟩
            rcases List.mem_cons.1 hm with rfl | hm
            · omega
            · exact q3 m hm
          · simp only [sashref04_Cut.j3]
            rw [if_pos hi0, if_pos hi, hrd, if_neg hn, if_neg (by omega), wq (by omega) (by omega), decide_eq_false (by omega)]
          · have hi1 : wrap64 ((pre.length : Int) + 1) = ((pre ++ [n]).length : Int) := by rw [wq (by omega) (by omega)]; simp
            have ho1 : wrap64 (off' + n) = off' + n := wq (by omega) (by omega)
            simp only [sashref04_Cut.j4]
            rw [if_neg (by simp)]
            simp only [if_pos hi0, if_pos hi, if_pos hpl, hrd, hi1, ho1]
            rcases hax with rfl | rfl
            · rw [if_pos rfl, wq (by omega) (by omega)]
              simp [tX]
            · rw [if_neg (by omega), wq (by omega) (by omega)]
              simp [tX]
    by_cases hz : (pre.length : Int) > 0
    · obtain ⟨t, t0, tg, t1, t2⟩ := body (off + 1) (lines ++ [(⟨tX ax (tX ax X Y + off) (tX ax Y X), tX ax (tX ax Y X) (tX ax X Y + off), tX ax 1 (tX ax H W), tX ax (tX ax H W) 1⟩ : S23)]) (by omega) (by omega) (by simp; omega)
      have ho1 : wrap64 (tX ax X Y + off + 1) = tX ax X Y + (off + 1) := by rw [wq (by omega) (by omega)]; omega
      have ho2 : wrap64 (tX ax X Y + tX ax W H) = tX ax X Y + tX ax W H := wq (by omega) (by omega)
      have ho3 : wrap64 (tX ax X Y + tX ax W H - (tX ax X Y + (off + 1))) = tX ax W H - (off + 1) := by rw [wq (by omega) (by omega)]; omega
      have ho4 : wrap64 (off + 1) = off + 1 := wq (by omega) (by omega)
      refine ⟨t, t0, fun h => by obtain ⟨q1, q2, q3⟩ := tg h; rw [if_neg (by omega), if_neg (by omega)]; exact ⟨q1, by rw [List.length_cons]; omega, q3⟩, Ev.step (fun k => ?_) t1, Ev.step (fun k => ?_) t2⟩
      · simp only [rect_Cut.l0]
        rw [if_pos hi, if_pos hi0, if_pos hi, if_pos hz, turned_some hax]
        simp only [Option.bind_some]
        rw [if_pos hql, hrd, ho1, ho2, ho3]
        by_cases hn : n < 1
        · rw [if_pos hn, if_pos hn]
        · rw [if_neg hn, if_neg hn]
          by_cases hn2 : n > tX ax W H - (off + 1)
          · rw [if_pos hn2, if_pos hn2]
          · have hi1 : wrap64 ((pre.length : Int) + 1) = ((pre ++ [n]).length : Int) := by rw [wq (by omega) (by omega)]; simp
            have ho5 : wrap64 (tX ax X Y + (off + 1) + n) = tX ax X Y + (off + 1 + n) := by rw [wq (by omega) (by omega)]; omega
            rw [if_neg hn2, if_neg hn2, turned_some hax]
            simp only [Option.bind_some]
            rw [if_pos hpl, hi1, ho5]
      · simp only [sashref04_Cut.l0]
        rw [if_pos hi, if_pos hz, ho4]
        rcases hax with rfl | rfl
        · rw [if_pos rfl, if_pos hql, wq (by omega) (by omega)]
          simp [tX]
        · rw [if_neg (by omega), if_pos hql, wq (by omega) (by omega)]
          simp [tX]
    · obtain ⟨t, t0, tg, t1, t2⟩ := body off lines h0 (by omega) (by omega)
      have ho2 : wrap64 (tX ax X Y + tX ax W H) = tX ax X Y + tX ax W H := wq (by omega) (by omega)
      have ho3 : wrap64 (tX ax X Y + tX ax W H - (tX ax X Y + off)) = tX ax W H - off := by rw [wq (by omega) (by omega)]; omega
      refine ⟨t, t0, fun h => by obtain ⟨q1, q2, q3⟩ := tg h; rw [if_pos (by omega), if_pos (by omega)]; exact ⟨q1, by rw [List.length_cons]; omega, q3⟩, Ev.step (fun k => ?_) t1, Ev.step (fun k => ?_) t2⟩
      · simp only [rect_Cut.l0]
        rw [if_pos hi, if_pos hi0, if_pos hi, if_neg hz, hrd, ho2, ho3]
        by_cases hn : n < 1
        · rw [if_pos hn, if_pos hn]
        · rw [if_neg hn, if_neg hn]
          by_cases hn2 : n > tX ax W H - off
          · rw [if_pos hn2, if_pos hn2]
          · have hi1 : wrap64 ((pre.length : Int) + 1) = ((pre ++ [n]).length : Int) := by rw [wq (by omega) (by omega)]; simp
            have ho5 : wrap64 (tX ax X Y + off + n) = tX ax X Y + (off + n) := by rw [wq (by omega) (by omega)]; omega
            rw [if_neg hn2, if_neg hn2, turned_some hax]
            simp only [Option.bind_some]
            rw [if_pos hpl, hi1, ho5]
      · simp only [sashref04_Cut.l0]
        rw [if_pos hi, if_neg hz]

/-- Two rows of rectangles, held against each other. -/
theorem rsame_ev (xs : List S23) (hl : xs.length ≤ 9223372036854775807) : Ev (fun k => sashref04_Same.f k xs xs) true := by
  have key : ∀ (d i : Nat), i + d = xs.length → Ev (fun k => sashref04_Same.l0 k xs xs (xs.length : Int) (i : Int)) true := by
    intro d
    induction d with
    | zero =>
      intro i hi
      refine Ev.step (fun k => ?_) (Ev.now _)
      simp only [sashref04_Same.l0]
      rw [if_neg (by omega)]
    | succ d ih =>
      intro i hi
      have c1 : (i : Int) < (xs.length : Int) := by omega
      have c2 : (0 : Int) ≤ (i : Int) := by omega
      have c3 : wrap64 ((i : Int) + 1) = ((i + 1 : Nat) : Int) := by rw [wq (by omega) (by omega)]; omega
      refine Ev.step (fun k => ?_) (ih (i + 1) (by omega))
      simp only [sashref04_Same.l0]
      simp only [if_pos c1, if_pos c2, c3]
      rw [if_neg (by simp)]
  refine Ev.congr (fun k => ?_) (key xs.length 0 (by omega))
  unfold sashref04_Same.f
  rw [if_pos rfl]
  rfl
theorem awake04 : Ev (fun k => sashlaw04_awake.f k) true := Ev.of (k := 30) (fun k => sashlaw04_awake.mono k) (by decide +kernel)
end Go.Proofs.Ytfdmfgaiblfbhaa.P
namespace Go.Proofs.Ytfdmfgaiblfbhaa.P
open Go.RowKit Go.Proofs.YtfdmfgaiblfbhaaW.PrintWords Go.Proofs.YtfdmfgaiblfbhaaW.PrintLast Go.Proofs.YtfdmfgaiblfbhaaW.PrintMore
attribute [local go_sem] max2_int min2_int max_two min_two max_three min_three max_four min_four   -- for this text's walks alone
set_option linter.unusedVariables false
set_option linter.unusedSimpArgs false

/-! ### sashlaw04_RectCuts: function 5 -/
def sashlaw04_RectCuts.f (k : Nat) (a0_0 : Int) (a0_1 : Int) (a0_2 : Int) (a0_3 : Int) (a1 : Int) (l2 : List Int) : Option (Bool) := if (l2.length : Int) > 100 then ((sashlaw04_awake.f k).bind fun t327 => (some t327)) else ((rect_Cut.f k a0_0 a0_1 a0_2 a0_3 a1 l2).bind fun bt328 => ((sashref04_Cut.f k a0_0 a0_1 a0_2 a0_3 a1 l2).bind fun bt335 => (if (bt328.2.2 == bt335.2.2) = true then ((sashref04_Same.f k bt328.1 bt335.1).bind fun t342 => (if t342 = true then ((sashref04_Same.f k bt328.2.1 bt335.2.1).bind fun t343 => (if t343 = true then ((sashlaw04_awake.f k).bind fun t344 => (some t344)) else (some false))) else (some false))) else (some false))))
end Go.Proofs.Ytfdmfgaiblfbhaa.P
/- RectCuts, the plain law: what any rectangle is cut into, or that it can't be, is the reference's. No condition. -/
namespace Go.Proofs.Ytfdmfgaiblfbhaa.Pure
open Go.RowKit Go.Proofs.Ytfdmfgaiblfbhaa.P Go.Proofs.YtfdmfgaiblfbhaaW.PrintWords Go.Proofs.YtfdmfgaiblfbhaaW.PrintLast Go.Proofs.YtfdmfgaiblfbhaaW.PrintMore

/-- Both answer alike; the rows are no longer than the sizes are many. -/
theorem cut_alike (X Y W H ax : Int) (hax : U8 ax) (sizes : List Int) (hl : sizes.length ≤ 20000) : ∃ t : List S23 × List S23 × Bool, (t.1.length ≤ sizes.length ∧ t.2.1.length ≤ sizes.length) ∧ (t.2.2 = true → (ax = 1 ∨ ax = 2) ∧ t.1 = cutP ax X Y W H 0 sizes ∧ sizes.sum + (sizes.length : Int) - 1 = tX ax W H ∧ ∀ m, m ∈ sizes → 1 ≤ m) ∧ Ev (fun k => rect_Cut.f k X Y W H ax sizes) t ∧ Ev (fun k => sashref04_Cut.f k X Y W H ax sizes) t := by
  have no1 : ∀ x y z u : Int, Ev (fun k => rect_Cut.j0 k ax sizes true x y z u) ([], [], false) := fun x y z u => by
    refine Ev.step (fun k => ?_) (Ev.now _)
    simp only [rect_Cut.j0]
    rw [if_pos trivial]
  have no2 : Ev (fun k => sashref04_Cut.j0 k ax sizes [] true X Y W H) ([], [], false) := by
    refine Ev.step (fun k => ?_) (Ev.now _)
    simp only [sashref04_Cut.j0]
    rw [if_pos trivial]
  have e2 : ∀ r, Ev (fun k => if mayB X Y W H = true then (if ax < 1 then (sashref04_Cut.j0 k ax sizes [] true X Y W H) else (if ax > 2 then (sashref04_Cut.j0 k ax sizes [] true X Y W H) else (sashref04_Cut.j0 k ax sizes [] ((sizes.length : Int) == 0) X Y W H))) else (sashref04_Cut.j0 k ax sizes [] true X Y W H)) r → Ev (fun k => sashref04_Cut.f k X Y W H ax sizes) r := fun r h => by
    refine Ev.congr (fun k => ?_) h
    unfold sashref04_Cut.f
    rw [refmay_some]
    rfl
  unfold U8 at hax
  by_cases ha : ax = 1 ∨ ax = 2
  · have e1 : ∀ r, Ev (fun k => if mayB X Y W H = true then (rect_Cut.j0 k ax sizes ((sizes.length : Int) == 0) (tX ax X Y) (tX ax Y X) (tX ax W H) (tX ax H W)) else (rect_Cut.j0 k ax sizes true (tX ax X Y) (tX ax Y X) (tX ax W H) (tX ax H W))) r → Ev (fun k => rect_Cut.f k X Y W H ax sizes) r := fun r h => by
      refine Ev.congr (fun k => ?_) h
      unfold rect_Cut.f
      rw [turned_some ha]
      simp only [Option.bind_some]
      rw [if_pos trivial, may_some]
      rfl
    by_cases hm : mayB X Y W H = true
    · by_cases hs : sizes = []
      · subst hs
        exact ⟨([], [], false), ⟨by simp, by simp⟩, fun h => absurd h (by simp), e1 _ (ev_pos hm (no1 _ _ _ _)), e2 _ (ev_pos hm (ev_neg (by omega) (ev_neg (by omega) no2)))⟩
      · have hpos : 0 < sizes.length := List.length_pos_iff.2 hs
        have hz : ((sizes.length : Int) == 0) = false := by simp; exact hs
        obtain ⟨t, t0, tg, t1, t2⟩ := cut_both ax X Y W H ha hm sizes hl hpos sizes [] 0 [] [] rfl (by omega) (by omega) (by simp) (by simp) (by simp) (by simp)
        refine ⟨t, t0, fun h => by obtain ⟨q1, q2, q3⟩ := tg h; rw [if_pos List.length_nil] at q1 q2; exact ⟨ha, by simpa using q1, by omega, q3⟩, e1 _ (ev_pos hm ?_), e2 _ (ev_pos hm (ev_neg (by omega) (ev_neg (by omega) ?_)))⟩
        · rw [hz]
          refine Ev.step (fun k => ?_) t1
          simp only [rect_Cut.j0]
          rw [if_neg (by simp), Int.add_zero]
          rfl
        · rw [hz]
          refine Ev.step (f := fun k => sashref04_Cut.j1 k ax sizes [] (tX ax W H) X Y W H) (fun k => ?_) (Ev.step (fun k => ?_) t2)
          · simp only [sashref04_Cut.j0]
            rw [if_neg (by simp)]
            rcases ha with rfl | rfl
            · rw [if_neg (by omega)]; rfl
            · rw [if_pos rfl]; rfl
          · simp only [sashref04_Cut.j1]
            rfl
    · exact ⟨([], [], false), ⟨by simp, by simp⟩, fun h => absurd h (by simp), e1 _ (ev_neg hm (no1 _ _ _ _)), e2 _ (ev_neg hm no2)⟩
  · refine ⟨([], [], false), ⟨by simp, by simp⟩, fun h => absurd h (by simp), Ev.congr (f := fun k => rect_Cut.j0 k ax sizes true 0 0 0 0) (fun k => ?_) (no1 _ _ _ _), e2 _ ?_⟩
    · unfold rect_Cut.f rect_turned.f
      rw [if_neg (by omega), if_neg (by omega)]
      rfl
    · by_cases hm : mayB X Y W H = true
      · refine ev_pos hm ?_
        by_cases h1 : ax < 1
        · exact ev_pos h1 no2
        · exact ev_neg h1 (ev_pos (by omega) no2)
      · exact ev_neg hm no2
theorem RectCuts : ∀ (a0 : S23) (a1 : Int) (a2 : List Int), wf23 a0 → U8 a1 → a2.length ≤ 9223372036854775807 → (∀ x, x ∈ a2 → I64 x) → ∃ k, sashlaw04_RectCuts.f k a0.f0 a0.f1 a0.f2 a0.f3 a1 a2 = some true := by
  intro r ax sizes _ hax _ _
  refine Ev.rounds (g := fun k => sashlaw04_RectCuts.f k r.f0 r.f1 r.f2 r.f3 ax sizes) ?_
  have aw : Ev (fun k => (sashlaw04_awake.f k).bind fun t => some t) true := Ev.bind awake04 (Ev.now _)
  unfold sashlaw04_RectCuts.f
  by_cases h : (sizes.length : Int) > 100
  · exact ev_pos h aw
  · refine ev_neg h ?_
    obtain ⟨t, ⟨l1, l2⟩, _, t1, t2⟩ := cut_alike r.f0 r.f1 r.f2 r.f3 ax hax sizes (by omega)
    refine Ev.bind t1 (Ev.bind t2 (ev_pos (by simp) ?_))
    exact Ev.bind (rsame_ev _ (by omega)) (ev_pos rfl (Ev.bind (rsame_ev _ (by omega)) (ev_pos rfl aw)))
end Go.Proofs.Ytfdmfgaiblfbhaa.Pure
/- Two rows, place by place: plain data. -/
namespace Go.Proofs.Ytfdmfgaiblfbhaa.P
open Go.RowKit Go.Proofs.YtfdmfgaiblfbhaaW.PrintWords Go.Proofs.YtfdmfgaiblfbhaaW.PrintLast Go.Proofs.YtfdmfgaiblfbhaaW.PrintMore
def eqL {α β : Type} (r : α → β → Bool) : List α → List β → Bool
  | a :: ta, b :: tb => r a b && eqL r ta tb
  | [], _ => true
  | _ :: _, [] => true
theorem eqL_at {α β : Type} (r : α → β → Bool) (za : α) (zb : β) (la : List α) (lb : List β) (k : Nat) (ha : k < la.length) (hb : k < lb.length) :
    eqL r (la.drop k) (lb.drop k) = (r (la.getD (k : Int).toNat za) (lb.getD (k : Int).toNat zb) && eqL r (la.drop (k + 1)) (lb.drop (k + 1))) := by
  rw [List.drop_eq_getElem_cons ha, List.drop_eq_getElem_cons hb]
  simp only [eqL, Int.toNat_natCast, List.getD_eq_getElem?_getD, List.getElem?_eq_getElem ha, List.getElem?_eq_getElem hb, Option.getD_some]
theorem eqL_nil {α β : Type} (r : α → β → Bool) (lb : List β) : eqL r ([] : List α) lb = true := by cases lb <;> rfl
end Go.Proofs.Ytfdmfgaiblfbhaa.P
/- A store into a block of one's own, as an event: the world behind it is a letter. -/
namespace Go.Proofs.Ytfdmfgaiblfbhaa.P
open Go.RowKit Go.Proofs.YtfdmfgaiblfbhaaW.PrintWords Go.Proofs.YtfdmfgaiblfbhaaW.PrintLast Go.Proofs.YtfdmfgaiblfbhaaW.PrintMore
section
variable {P : Program} {ops : Array Oper} {rest : List Oper} {o : Oper} {a : Act} {Q : Exit → Act → World → Prop}
theorem grown_below {w0 W w1 : World} {g base : Nat} (HB : Below base w0 W) (hg : W.grownBy w1 (some g)) (hbg : base ≤ g) (hs : base ≤ W.heap.size) : Below base w0 w1 := HB.trans ⟨hg.os, hg.tape, hg.output, hg.size, fun k hk => hg.block k (by omega) (fun he => by injection he with he; omega)⟩
/-- What a store into block g leaves. -/
theorem box_cells {W : World} {g j : Nat} {cs cs' : Array Value} {t0 : TypeId} {seg : List Value} (hb : W.heap[g]? = some (.cells cs t0 (0, 0))) (hj : j + seg.length ≤ cs.size) (he : cs.toList.take j ++ seg ++ cs.toList.drop (j + seg.length) = cs'.toList) :
    (W.setCells g j seg).heap[g]? = some (.cells cs' t0 (0, 0)) ∧ W.grownBy (W.setCells g j seg) (some g) := by
  obtain ⟨cur', h3, h4, h5⟩ := setCells_row seg j W cs hb hj
  obtain ⟨s1, s2, s3, s4⟩ := setCells_same g seg j W
  have hc : cur' = cs' := Array.toList_inj.1 (h5.trans he)
  subst hc
  exact ⟨h3, ⟨s1, s2, s3, by rw [s4]; exact Nat.le_refl _, fun k _ hk => setCells_far seg _ k (fun e => hk (by rw [e]))⟩⟩
theorem box_store {W w0 : World} (hN : o.dst = none) (hgd : o.guard = none) (t : TypeId) (p x : Operand) (ho : o.op = .store t p x) {g j base : Nat} {cs : Array Value} (cs' : Array Value) {t0 : TypeId} {u : Value} {seg : List Value}
    (haddr : a.eval p = .pointer (some ⟨g, j, none⟩)) (hx : a.eval x = u) (hu : u.cells.toList = seg) (ht : (P.info? t).map (·.size) = some seg.length) (h1 : ∀ q ∈ seg, q.oneCell' = true)
    (hb : W.heap[g]? = some (.cells cs t0 (0, 0))) (hj : j + seg.length ≤ cs.size) (he : cs.toList.take j ++ seg ++ cs.toList.drop (j + seg.length) = cs'.toList) (HB : Below base w0 W) (hbs : base ≤ W.heap.size) (hbg : base ≤ g)
    (h : ∀ w1, w1.heap[g]? = some (.cells cs' t0 (0, 0)) → Below base w0 w1 → W.grownBy w1 (some g) → wpList P ops Q rest a w1) : wpList P ops Q (o :: rest) a W := by
  obtain ⟨h2, h3⟩ := box_cells hb hj he
  refine wpList_plain hgd fun K hK => ?_
  have hrun := run_store_run (P := P) t u seg hb hu ht hj h1
  unfold Oper.wp execOp
  simp only [ho, haddr, hx, Sem.run_bind, Sem.run_pure, Result.andThen_ok, hrun]
  show K (a.put o.dst undef) _
  rw [hN]
  exact hK a _ (h _ h2 (grown_below HB h3 hbg hbs) h3)
theorem store_exec {W : World} (t : TypeId) (p x : Operand) (ho : o.op = .store t p x) {g j : Nat} {cs : Array Value} {t0 : TypeId} {u : Value} {seg : List Value}
    (haddr : a.eval p = .pointer (some ⟨g, j, none⟩)) (hx : a.eval x = u) (hu : u.cells.toList = seg) (ht : (P.info? t).map (·.size) = some seg.length) (h1 : ∀ q ∈ seg, q.oneCell' = true)
    (hb : W.heap[g]? = some (.cells cs t0 (0, 0))) (hj : j + seg.length ≤ cs.size) : (execOp a.eval o).run P W = .ok .skip (W.setCells g j seg) := by
  have hrun := run_store_run (P := P) t u seg hb hu ht hj h1
  unfold execOp
  simp only [ho, haddr, hx, Sem.run_bind, Sem.run_pure, Result.andThen_ok, hrun]
end
end Go.Proofs.Ytfdmfgaiblfbhaa.P
/- slices.EqualFunc at cells (function 211): what it answers, with any test that only reads. -/
namespace Go.Proofs.Ytfdmfgaiblfbhaa.P
open Go.RowKit Go.Proofs.YtfdmfgaiblfbhaaW.PrintWords Go.Proofs.YtfdmfgaiblfbhaaW.PrintLast Go.Proofs.YtfdmfgaiblfbhaaW.PrintMore
set_option linter.unusedVariables false
set_option linter.unusedSimpArgs false
set_option maxHeartbeats 4000000 in
set_option maxRecDepth 100000 in
theorem eqf211 (r : S26 → S23 → Bool) (g : Nat) (eg : ∀ args w, (callFunc g args).run Try.prog w = .ok (.enter g args) w) (la : List S26) (lb : List S23) (A B : Option Addr) (ca cb : Nat) (w : World) (hA : Kd.C k26 w A la.length la) (hB : Kd.C k23 w B lb.length lb)
    (hcall : ∀ W (x : S26) (X : Option Addr) (cx : Nat) (y : S23), x ∈ la → Below w.heap.size w W → Kd.C k26 w X x.f3.length x.f3 → x.f3.length ≤ cx → Calls Try.prog g #[.agg #[.int .u8 x.f0, .int .i64 x.f1.f0, .int .i64 x.f1.f1, .int .i64 x.f1.f2, .int .i64 x.f1.f3, .int .i64 x.f2, .slice X x.f3.length cx], .agg #[.int .i64 y.f0, .int .i64 y.f1, .int .i64 y.f2, .int .i64 y.f3]] W fun e w' => e = .returned (.bool (r x y)) ∧ Below W.heap.size W w') :
    Calls Try.prog 211 #[.slice A la.length ca, .slice B lb.length cb, .func (.func g) #[] #[]] w fun e w' => e = .returned (.bool (la.length == lb.length && eqL r la lb)) ∧ Below w.heap.size w w' := by
  have HA := Aside0.mk hA
  have HLB := Aside0.mk hB
  have HC := Aside0.mk hcall
  have HB := Aside0.mk (Below.refl w.heap.size w)
  have HL := Aside0.mk (show la.length ≤ 9223372036854775807 from hA.2.1)
  clear hA hB hcall
  by_cases hl : la.length = lb.length
  · have hl1 : ((la.length : Int) != (lb.length : Int)) = false := by simp [hl]
    have hl2 : (la.length == lb.length) = true := by simp [hl]
    rw [hl2, Bool.true_and]
    have HE := Aside0.mk hl
    clear hl hl2
    go_enter Try.func211, Try.ntmps211
    go_wp2
    go_loopg [17] la.length (fun gg v17 wr => ∃ (kk : Nat), kk ≤ la.length ∧ la.length - kk ≤ gg ∧ v17 = .int .i64 kk ∧ Aside0 (eqL r la lb = eqL r (la.drop kk) (lb.drop kk)) ∧ Aside0 (Below w.heap.size w wr))
    case atStart => exact ⟨0, Nat.zero_le _, by omega, rfl, ⟨by simp⟩, HB⟩
    case round =>
      clear HB
      obtain ⟨kk, hkk, hgg, rfl, HS, HB⟩ := hrel
      by_cases hlt : kk < la.length
      · have hltz : (kk : Int) < (la.length : Int) := by omega
        have hltb : (kk : Int) < (lb.length : Int) := by have := HE.out; omega
        have hw : wrap64 ((kk : Int) + 1) = ((kk + 1 : Nat) : Int) := by unfold wrap64; have := HL.out; omega
        have HX := Aside0.mk (eqL_at r z26 z23 la lb kk hlt (by omega))
        have hmem : rd_T26 la (kk : Int) ∈ la := scan_mem z26 la kk hlt
        obtain ⟨cd, X, cx, rfl, c0, c1, c2, c3, c4, c5, c6, cl, cg⟩ := at_T26 HA.out (kk : Int) (by omega) hltz
        obtain ⟨dd, rfl, d0, d1, d2, d3⟩ := at_T23 HLB.out (kk : Int) (by omega) hltb
        simp only [Int.toNat_natCast] at c0 c1 c2 c3 c4 c5 c6 d0 d1 d2 d3
        replace c0 := (HB.out.cell (World.block_lt_of_cell? w _ c0)).trans c0
        replace c1 := (HB.out.cell (World.block_lt_of_cell? w _ c1)).trans c1
        replace c2 := (HB.out.cell (World.block_lt_of_cell? w _ c2)).trans c2
        replace c3 := (HB.out.cell (World.block_lt_of_cell? w _ c3)).trans c3
        replace c4 := (HB.out.cell (World.block_lt_of_cell? w _ c4)).trans c4
        replace c5 := (HB.out.cell (World.block_lt_of_cell? w _ c5)).trans c5
        replace c6 := (HB.out.cell (World.block_lt_of_cell? w _ c6)).trans c6
        have D0 := Aside0.mk d0
        have D1 := Aside0.mk d1
        have D2 := Aside0.mk d2
        have D3 := Aside0.mk d3
        clear d0 d1 d2 d3
        have HX := Aside0.mk (show eqL r (la.drop kk) (lb.drop kk) = (r (rd_T26 la (kk : Int)) (rd_T23 lb (kk : Int)) && eqL r (la.drop (kk + 1)) (lb.drop (kk + 1))) from HX.out)
        have cG := Aside0.mk cg
        have cL := Aside0.mk cl
        clear cg cl
        have HM := Aside0.mk hmem
        clear hmem
        generalize rd_T26 la (kk : Int) = x at *
        generalize rd_T23 lb (kk : Int) = y at *
        have HCx := Aside0.mk (fun W hW => HC.out W x X cx y HM.out hW cG.out cL.out )
        have HW := Aside0.mk hw
        have HKK := Aside0.mk (show kk + 1 ≤ la.length from hlt)
        have HGG := Aside0.mk hgg
        clear hw hlt hgg hkk HM
        go_wp2_with (first | ((with_reducible refine gate_dst (N := 8) rfl ?_); refine box_event ?hg (N := 8) ?hd (cs := #[.int .u8 0, .int .i64 0, .int .i64 0, .int .i64 0, .int .i64 0, .int .i64 0, .slice none 0 0]) (t := 26) ?hr ?_; (case hd => rfl); (case hg => rfl); (case hr => (go_simp; done)); intro b8 hg wb8 hbox hb; have K8 := Aside0.mk hbox; have G8 := Aside0.mk (show w.heap.size ≤ b8 by rw [hg]; exact HB.out.size); have q_ := Aside0.mk (below_step HB.out hb); clear HB; have HB := q_; clear q_; clear hb hbox hg) | ((with_reducible refine gate_ (.store 26 (.tmp 8) (.tmp 21)) rfl ?_); go_loud (refine box_store (w0 := w) rfl rfl 26 (.tmp 8) (.tmp 21) rfl (g := b8) (j := 0) (base := w.heap.size) #[.int .u8 x.f0, .int .i64 x.f1.f0, .int .i64 x.f1.f1, .int .i64 x.f1.f2, .int .i64 x.f1.f3, .int .i64 x.f2, .slice X x.f3.length cx] (u := .agg #[.int .u8 x.f0, .int .i64 x.f1.f0, .int .i64 x.f1.f1, .int .i64 x.f1.f2, .int .i64 x.f1.f3, .int .i64 x.f2, .slice X x.f3.length cx]) (seg := [.int .u8 x.f0, .int .i64 x.f1.f0, .int .i64 x.f1.f1, .int .i64 x.f1.f2, .int .i64 x.f1.f3, .int .i64 x.f2, .slice X x.f3.length cx]) ?sA ?sX rfl ?sT ?s1 K8.out ?sJ rfl HB.out HB.out.size G8.out ?_; (case sA => rfl); (case sX => rfl); (case sT => rfl); (case s1 => (simp [Value.oneCell'])); (case sJ => (simp)); intro ws8 hbk hbb hgg; clear K8 HB; have K8 := Aside0.mk hbk; have HB := Aside0.mk hbb; clear hbk hbb hgg; clear c0 c1 c2 c3 c4 c5 c6; have d0 := (HB.out.cell (World.block_lt_of_cell? w _ D0.out)).trans D0.out; have d1 := (HB.out.cell (World.block_lt_of_cell? w _ D1.out)).trans D1.out; have d2 := (HB.out.cell (World.block_lt_of_cell? w _ D2.out)).trans D2.out; have d3 := (HB.out.cell (World.block_lt_of_cell? w _ D3.out)).trans D3.out)) | ((with_reducible refine gate_dst (N := 9) rfl ?_); refine box_event ?hg (N := 9) ?hd (cs := #[.int .i64 0, .int .i64 0, .int .i64 0, .int .i64 0]) (t := 23) ?hr ?_; (case hd => rfl); (case hg => rfl); (case hr => (go_simp; done)); intro b9 hg wb9 hbox hb; have K9 := Aside0.mk hbox; have G9 := Aside0.mk (show w.heap.size ≤ b9 by rw [hg]; exact HB.out.size); have NE := Aside0.mk (show b8 ≠ b9 by rw [hg]; exact Nat.ne_of_lt (blk_lt K8.out)); have q8_ := Aside0.mk (blk_below K8.out hb); clear K8; have K8 := q8_; clear q8_; have q_ := Aside0.mk (below_step HB.out hb); clear HB; have HB := q_; clear q_; clear hb hbox hg d0 d1 d2 d3) | ((with_reducible refine gate_ (.store 23 (.tmp 9) (.tmp 25)) rfl ?_); go_loud (refine box_store (w0 := w) rfl rfl 23 (.tmp 9) (.tmp 25) rfl (g := b9) (j := 0) (base := w.heap.size) #[.int .i64 y.f0, .int .i64 y.f1, .int .i64 y.f2, .int .i64 y.f3] (u := .agg #[.int .i64 y.f0, .int .i64 y.f1, .int .i64 y.f2, .int .i64 y.f3]) (seg := [.int .i64 y.f0, .int .i64 y.f1, .int .i64 y.f2, .int .i64 y.f3]) ?sA ?sX rfl ?sT ?s1 K9.out ?sJ rfl HB.out HB.out.size G9.out ?_; (case sA => rfl); (case sX => rfl); (case sT => rfl); (case s1 => (simp [Value.oneCell'])); (case sJ => (simp)); intro ws9 hbk hbb hgg; have q8_ := Aside0.mk (blk_grown K8.out hgg (fun e_ => absurd (Option.some.inj e_) NE.out)); clear K8; have K8 := q8_; clear q8_; clear K9 HB; have K9 := Aside0.mk hbk; have HB := Aside0.mk hbb; clear hbk hbb hgg; have e0 := (blk_cell K8.out 0).trans rfl; have e1 := (blk_cell K8.out 1).trans rfl; have e2 := (blk_cell K8.out 2).trans rfl; have e3 := (blk_cell K8.out 3).trans rfl; have e4 := (blk_cell K8.out 4).trans rfl; have e5 := (blk_cell K8.out 5).trans rfl; have e6 := (blk_cell K8.out 6).trans rfl; have f0 := (blk_cell K9.out 0).trans rfl; have f1 := (blk_cell K9.out 1).trans rfl; have f2 := (blk_cell K9.out 2).trans rfl; have f3 := (blk_cell K9.out 3).trans rfl)))
        clear e0 e1 e2 e3 e4 e5 e6 f0 f1 f2 f3 K8 K9 NE G8 G9
        refine (HCx.out _ HB.out).mono ?_
        rintro e w' ⟨rfl, hb⟩
        have q_ := Aside0.mk (below_step HB.out hb); clear HB; have HB := q_; clear q_
        clear hb
        cases hq : r x y with
        | true =>
          have HQ := Aside0.mk hq
          clear hq
          go_wp2
          go_roundg (la.length - (kk + 1))
          case measure => have h1 := HGG.out; have h2 := HKK.out; omega
          case rel => exact ⟨kk + 1, HKK.out, Nat.le_refl _, (by rw [HW.out]), ⟨by rw [HS.out, HX.out, HQ.out, Bool.true_and]⟩, HB⟩
        | false =>
          have HQ := Aside0.mk hq
          clear hq
          go_wp2
          go_ret
          rw [HS.out, HX.out, HQ.out, Bool.false_and]
          exact ⟨rfl, HB.out⟩
      · have hltz : ¬ (kk : Int) < (la.length : Int) := by omega
        go_wp2
        go_ret
        rw [HS.out, List.drop_eq_nil_of_le (by omega), eqL_nil]
        exact ⟨rfl, HB.out⟩
  · have hl1 : ((la.length : Int) != (lb.length : Int)) = true := by simp; omega
    have hl2 : (la.length == lb.length) = false := by simp [hl]
    rw [hl2, Bool.false_and]
    clear hl hl2
    go_enter Try.func211, Try.ntmps211
    go_wp2
    go_ret
    exact ⟨rfl, HB.out⟩
end Go.Proofs.Ytfdmfgaiblfbhaa.P
/- A tree's cells and their number: plain data. -/
namespace Go.Proofs.Ytfdmfgaiblfbhaa.P
open Go.RowKit Go.Proofs.YtfdmfgaiblfbhaaW.PrintWords Go.Proofs.YtfdmfgaiblfbhaaW.PrintLast Go.Proofs.YtfdmfgaiblfbhaaW.PrintMore

mutual
def allC : S26 → List S26
  | ⟨a, b, d, l⟩ => ⟨a, b, d, l⟩ :: allL l
def allL : List S26 → List S26
  | [] => []
  | c :: cs => allC c ++ allL cs
end
theorem allC_eq (c : S26) : allC c = c :: allL c.f3 := by cases c; simp [allC]
theorem allL_nil : allL [] = [] := by simp [allL]
theorem allL_cons (c : S26) (cs : List S26) : allL (c :: cs) = allC c ++ allL cs := by simp [allL]
theorem allL_app (a b : List S26) : allL (a ++ b) = allL a ++ allL b := by
  induction a with
  | nil => simp [allL_nil]
  | cons x xs ih => rw [List.cons_append, allL_cons, allL_cons, ih, List.append_assoc]
def sz (c : S26) : Nat := (allC c).length
def szL (l : List S26) : Nat := (allL l).length
theorem sz_eq (c : S26) : sz c = 1 + szL c.f3 := by unfold sz szL; rw [allC_eq, List.length_cons]; omega
theorem szL_nil : szL [] = 0 := by unfold szL; rw [allL_nil]; rfl
theorem szL_cons (c : S26) (cs : List S26) : szL (c :: cs) = sz c + szL cs := by unfold szL sz; rw [allL_cons, List.length_append]
theorem szL_app (a b : List S26) : szL (a ++ b) = szL a + szL b := by unfold szL; rw [allL_app, List.length_append]
theorem szL_len (l : List S26) : l.length ≤ szL l := by
  induction l with
  | nil => simp
  | cons x xs ih => rw [szL_cons, List.length_cons, sz_eq]; omega
theorem eta26 (c : S26) : (⟨c.f0, ⟨c.f1.f0, c.f1.f1, c.f1.f2, c.f1.f3⟩, c.f2, c.f3⟩ : S26) = c := by cases c; rfl
theorem szL_sum (l : List S26) : szL l = (l.map sz).sum := by
  induction l with
  | nil => rw [szL_nil]; rfl
  | cons x xs ih => rw [szL_cons, List.map_cons, List.sum_cons, ih]
end Go.Proofs.Ytfdmfgaiblfbhaa.P
/- Trees of cells: their size, their cells, their leaves, their panes: the reference's functions, as plain data. -/
namespace Go.Proofs.Ytfdmfgaiblfbhaa.P
open Go.RowKit Go.Proofs.YtfdmfgaiblfbhaaW.PrintWords Go.Proofs.YtfdmfgaiblfbhaaW.PrintLast Go.Proofs.YtfdmfgaiblfbhaaW.PrintMore

theorem rd26_in (pre : List S26) (p : S26) (rest : List S26) : rd_T26 (pre ++ p :: rest) (pre.length : Int) = p := by
  simp [rd_T26, List.getD_eq_getElem?_getD]
theorem up_in {α : Type} (pre : List α) (p : α) (rest : List α) (h : (pre ++ p :: rest).length ≤ 9223372036854775807) : wrap64 ((pre.length : Int) + 1) = ((pre ++ [p]).length : Int) := by
  simp only [List.length_append, List.length_cons, List.length_nil] at h ⊢
  rw [wq (by omega) (by omega)]
  omega

/-- THE COUNT, that ends once it is above a bound. -/
theorem count_ev (L : Int) : ∀ (N : Nat) (c : S26), sz c ≤ N → N ≤ 1048576 → ∃ n : Int, Ev (fun k => sashref05_count.f k c.f0 c.f1.f0 c.f1.f1 c.f1.f2 c.f1.f3 c.f2 c.f3 L) n ∧ 1 ≤ n ∧ n ≤ (sz c : Int) ∧ (n > L ∨ n = (sz c : Int)) := by
  intro N
  induction N with
  | zero => intro c h _; rw [sz_eq] at h; omega
  | succ N ih =>
    intro c hc hN
    have hs := sz_eq c
    have key : ∀ (rest pre : List S26), pre ++ rest = c.f3 → ∀ acc : Int, 1 ≤ acc → acc + (szL rest : Int) ≤ 1048576 → (acc > L ∨ acc = 1 + (szL pre : Int)) →
        ∃ n : Int, Ev (fun k => sashref05_count.l0 k L acc (c.f3.length : Int) (pre.length : Int) c.f0 c.f1.f0 c.f1.f1 c.f1.f2 c.f1.f3 c.f2 c.f3) n ∧ acc ≤ n ∧ n ≤ acc + (szL rest : Int) ∧ (n > L ∨ n = 1 + (szL c.f3 : Int)) := by
      intro rest
      induction rest with
      | nil =>
        intro pre hp acc h1 h2 h3
        rw [List.append_nil] at hp
        refine ⟨acc, Ev.step (f := fun _ => some acc) (fun k => ?_) (Ev.now _), by omega, by omega, by rw [← hp]; exact h3⟩
        simp only [sashref05_count.l0]
        rw [if_neg (by rw [hp]; omega)]
      | cons x xs ihr =>
        intro pre hp acc h1 h2 h3
        have hl : (pre.length : Int) < (c.f3.length : Int) := by rw [← hp, List.length_append, List.length_cons]; omega
        have hlen := szL_len c.f3
        by_cases hL : acc > L
        · refine ⟨acc, Ev.step (f := fun _ => some acc) (fun k => ?_) (Ev.now _), by omega, by omega, .inl hL⟩
          simp only [sashref05_count.l0]
          rw [if_pos hl, if_pos hL]
        · have h3' : acc = 1 + (szL pre : Int) := by omega
          have hsum : szL c.f3 = szL pre + (sz x + szL xs) := by rw [← hp, szL_app, szL_cons]
          obtain ⟨n1, e1, a1, b1, c1⟩ := ih x (by omega) (by omega)
          rw [szL_cons] at h2
          obtain ⟨n, e2, a2, b2, c2⟩ := ihr (pre ++ [x]) (by rw [List.append_assoc]; exact hp) (acc + n1) (by omega) (by omega) (by
            rw [szL_app, szL_cons, szL_nil]
            omega)
          refine ⟨n, ?_, by omega, by rw [szL_cons]; omega, c2⟩
          have hw : wrap64 (acc + n1) = acc + n1 := wq (by omega) (by omega)
          have hr : rd_T26 c.f3 (pre.length : Int) = x := by rw [← hp]; exact rd26_in pre x xs
          have hu : wrap64 ((pre.length : Int) + 1) = ((pre ++ [x]).length : Int) := up_in pre x xs (by rw [hp]; omega)
          refine Ev.step (f := fun k => (sashref05_count.f k x.f0 x.f1.f0 x.f1.f1 x.f1.f2 x.f1.f3 x.f2 x.f3 L).bind fun t => sashref05_count.l0 k L (wrap64 (acc + t)) (c.f3.length : Int) (wrap64 ((pre.length : Int) + 1)) c.f0 c.f1.f0 c.f1.f1 c.f1.f2 c.f1.f3 c.f2 c.f3) (fun k => ?_) (Ev.bind e1 ?_)
          · simp only [sashref05_count.l0]
            rw [if_pos hl, if_neg hL, if_pos (by omega), if_pos hl, hr]
          · rw [hw, hu]
            exact e2
    obtain ⟨n, e, a, b, d⟩ := key c.f3 [] rfl 1 (by omega) (by omega) (.inr (by rw [szL_nil]; rfl))
    refine ⟨n, Ev.step (fun k => ?_) e, a, by omega, by omega⟩
    simp only [sashref05_count.f]
    rfl
theorem great_ev (c : S26) (h : sz c ≤ 1048576) : ∃ b : Bool, Ev (fun k => sashref05_Great.f k c.f0 c.f1.f0 c.f1.f1 c.f1.f2 c.f1.f3 c.f2 c.f3) b ∧ (b = false → sz c ≤ 200) := by
  obtain ⟨n, e, h1, h2, h3⟩ := count_ev 200 1048576 c h (Nat.le_refl _)
  refine ⟨decide (n > 200), ?_, fun hb => ?_⟩
  · unfold sashref05_Great.f
    exact Ev.bind e (Ev.now _)
  · have := of_decide_eq_false hb
    omega

/-- ALL CELLS. -/
theorem all_cells : ∀ (N : Nat) (c : S26), sz c ≤ N → N ≤ 1048576 → Ev (fun k => sashref05_All.f k c.f0 c.f1.f0 c.f1.f1 c.f1.f2 c.f1.f3 c.f2 c.f3) (allC c) := by
  intro N
  induction N with
  | zero => intro c h _; rw [sz_eq] at h; omega
  | succ N ih =>
    intro c hc hN
    have hs := sz_eq c
    have key : ∀ (rest pre : List S26), pre ++ rest = c.f3 → Ev (fun k => sashref05_All.l0 k (c :: allL pre) (c.f3.length : Int) (pre.length : Int) c.f0 c.f1.f0 c.f1.f1 c.f1.f2 c.f1.f3 c.f2 c.f3) (allC c) := by
      intro rest
      induction rest with
      | nil =>
        intro pre hp
        rw [List.append_nil] at hp
        refine Ev.step (f := fun _ => some (allC c)) (fun k => ?_) (Ev.now _)
        simp only [sashref05_All.l0]
        rw [if_neg (by rw [hp]; omega), hp, allC_eq]
      | cons x xs ihr =>
        intro pre hp
        have hl : (pre.length : Int) < (c.f3.length : Int) := by rw [← hp, List.length_append, List.length_cons]; omega
        have hlen := szL_len c.f3
        have hsum : szL c.f3 = szL pre + (sz x + szL xs) := by rw [← hp, szL_app, szL_cons]
        have e2 := ihr (pre ++ [x]) (by rw [List.append_assoc]; exact hp)
        have hr : rd_T26 c.f3 (pre.length : Int) = x := by rw [← hp]; exact rd26_in pre x xs
        have hu : wrap64 ((pre.length : Int) + 1) = ((pre ++ [x]).length : Int) := up_in pre x xs (by rw [hp]; omega)
        have ha : c :: allL (pre ++ [x]) = (c :: allL pre) ++ allC x := by rw [allL_app, allL_cons, allL_nil, List.append_nil, List.cons_append]
        have hb : (c :: allL pre).length + (allC x).length < 1954687338268 := by
          have h1 : (allL pre).length = szL pre := rfl
          have h2 : (allC x).length = sz x := rfl
          rw [List.length_cons, h1, h2]
          omega
        rw [ha] at e2
        refine Ev.step (f := fun k => (sashref05_All.f k x.f0 x.f1.f0 x.f1.f1 x.f1.f2 x.f1.f3 x.f2 x.f3).bind fun t => (if (c :: allL pre).length + t.length < 1954687338268 then (sashref05_All.l0 k ((c :: allL pre) ++ t) (c.f3.length : Int) (wrap64 ((pre.length : Int) + 1)) c.f0 c.f1.f0 c.f1.f1 c.f1.f2 c.f1.f3 c.f2 c.f3) else none)) (fun k => ?_) (Ev.bind (ih x (by omega) (by omega)) (ev_pos hb ?_))
        · simp only [sashref05_All.l0]
          rw [if_pos hl, if_pos (by omega), if_pos hl, hr]
        · rw [hu]
          exact e2
    refine Ev.step (fun k => ?_) (key c.f3 [] rfl)
    simp only [sashref05_All.f, allL_nil, eta26]
    rfl

/-- The leaves. -/
def leavesC (c : S26) : List S26 := (allC c).filter fun x => decide (x.f0 = 1)
theorem leaves_len (c : S26) : (leavesC c).length ≤ sz c := List.length_filter_le _ _
theorem leaves_ev (c : S26) (h : sz c ≤ 1048576) : Ev (fun k => sashref05_Leaves.f k c.f0 c.f1.f0 c.f1.f1 c.f1.f2 c.f1.f3 c.f2 c.f3) (leavesC c) := by
  unfold sashref05_Leaves.f
  refine Ev.bind (all_cells _ c h (Nat.le_refl _)) ?_
  have key : ∀ (rest pre : List S26), pre ++ rest = allC c → Ev (fun k => sashref05_Leaves.l0 k (pre.filter fun x => decide (x.f0 = 1)) (allC c) ((allC c).length : Int) (pre.length : Int)) (leavesC c) := by
    intro rest
    induction rest with
    | nil =>
      intro pre hp
      rw [List.append_nil] at hp
      refine Ev.step (f := fun _ => some (leavesC c)) (fun k => ?_) (Ev.now _)
      simp only [sashref05_Leaves.l0]
      rw [if_neg (by rw [hp]; omega), hp]
      rfl
    | cons x xs ihr =>
      intro pre hp
      have hsz : (allC c).length ≤ 1048576 := h
      have hl : (pre.length : Int) < ((allC c).length : Int) := by rw [← hp, List.length_append, List.length_cons]; omega
      have e2 := ihr (pre ++ [x]) (by rw [List.append_assoc]; exact hp)
      have hr : rd_T26 (allC c) (pre.length : Int) = x := by rw [← hp]; exact rd26_in pre x xs
      have hu : wrap64 ((pre.length : Int) + 1) = ((pre ++ [x]).length : Int) := up_in pre x xs (by rw [hp]; omega)
      have hb : (pre.filter fun x => decide (x.f0 = 1)).length < 1954687338268 := by
        have := List.length_filter_le (fun x : S26 => decide (x.f0 = 1)) pre
        omega
      rw [List.filter_append] at e2
      refine Ev.step (fun k => ?_) e2
      simp only [sashref05_Leaves.l0]
      rw [if_pos hl, if_pos (by omega), if_pos hl, hr, hu]
      by_cases h1 : x.f0 = 1
      · rw [if_pos h1, if_pos hb, List.filter_cons_of_pos (by simpa using h1), eta26]
        rfl
      · rw [if_neg h1, List.filter_cons_of_neg (by simpa using h1), List.filter_nil, List.append_nil]
  exact key (allC c) [] rfl
end Go.Proofs.Ytfdmfgaiblfbhaa.P
namespace Go.Proofs.Ytfdmfgaiblfbhaa.P
open Go.RowKit Go.Proofs.YtfdmfgaiblfbhaaW.PrintWords Go.Proofs.YtfdmfgaiblfbhaaW.PrintLast Go.Proofs.YtfdmfgaiblfbhaaW.PrintMore
attribute [local go_sem] max2_int min2_int max_two min_two max_three min_three max_four min_four   -- for this text's walks alone
set_option linter.unusedVariables false
set_option linter.unusedSimpArgs false

attribute [local go_sem high] eqA23
/-! ### sashref05_Same: function 64 -/
mutual
def sashref05_Same.j0 : Nat → Bool → Int → Int → Int → Int → Int → Int → List (S26) → Int → Int → Int → Int → Int → Int → List (S26) → Option (Bool)
 | 0, _, _, _, _, _, _, _, _, _, _, _, _, _, _, _ => none
 | k + 1, x33, x601000, x601001, x601002, x601003, x601004, x601005, x601006, x602000, x602001, x602002, x602003, x602004, x602005, x602006 => if x33 = true then (some false) else (sashref05_Same.l0 k (x601006.length : Int) 0 x601000 x601001 x601002 x601003 x601004 x601005 x601006 x602000 x602001 x602002 x602003 x602004 x602005 x602006)
def sashref05_Same.l0 : Nat → Int → Int → Int → Int → Int → Int → Int → Int → List (S26) → Int → Int → Int → Int → Int → Int → List (S26) → Option (Bool)
 | 0, _, _, _, _, _, _, _, _, _, _, _, _, _, _, _, _ => none
 | k + 1, x36, x37, x601000, x601001, x601002, x601003, x601004, x601005, x601006, x602000, x602001, x602002, x602003, x602004, x602005, x602006 => if x37 < x36 then (if 0 ≤ x37 then (if x37 < (x601006.length : Int) then (if x37 < (x602006.length : Int) then ((sashref05_Same.f k ((rd_T26 x601006 x37).f0) ((rd_T26 x601006 x37).f1.f0) ((rd_T26 x601006 x37).f1.f1) ((rd_T26 x601006 x37).f1.f2) ((rd_T26 x601006 x37).f1.f3) ((rd_T26 x601006 x37).f2) ((rd_T26 x601006 x37).f3) ((rd_T26 x602006 x37).f0) ((rd_T26 x602006 x37).f1.f0) ((rd_T26 x602006 x37).f1.f1) ((rd_T26 x602006 x37).f1.f2) ((rd_T26 x602006 x37).f1.f3) ((rd_T26 x602006 x37).f2) ((rd_T26 x602006 x37).f3)).bind fun t604 => (if t604 = true then (sashref05_Same.l0 k x36 (wrap64 (x37 + 1)) x601000 x601001 x601002 x601003 x601004 x601005 x601006 x602000 x602001 x602002 x602003 x602004 x602005 x602006) else (some false))) else (none)) else (none)) else (none)) else (some true)
def sashref05_Same.f : Nat → Int → Int → Int → Int → Int → Int → List (S26) → Int → Int → Int → Int → Int → Int → List (S26) → Option (Bool)
 | 0, _, _, _, _, _, _, _, _, _, _, _, _, _, _ => none
 | k + 1, a0_0, a0_1, a0_2, a0_3, a0_4, a0_5, l0_6, a1_0, a1_1, a1_2, a1_3, a1_4, a1_5, l1_6 => if a0_0 = a1_0 then (if (!(a0_1 == a1_1) || (!(a0_2 == a1_2) || (!(a0_3 == a1_3) || (!(a0_4 == a1_4))))) = true then (sashref05_Same.j0 k true a0_0 a0_1 a0_2 a0_3 a0_4 a0_5 l0_6 a1_0 a1_1 a1_2 a1_3 a1_4 a1_5 l1_6) else (if a0_5 = a1_5 then (sashref05_Same.j0 k ((l0_6.length : Int) != (l1_6.length : Int)) a0_0 a0_1 a0_2 a0_3 a0_4 a0_5 l0_6 a1_0 a1_1 a1_2 a1_3 a1_4 a1_5 l1_6) else (sashref05_Same.j0 k true a0_0 a0_1 a0_2 a0_3 a0_4 a0_5 l0_6 a1_0 a1_1 a1_2 a1_3 a1_4 a1_5 l1_6))) else (sashref05_Same.j0 k true a0_0 a0_1 a0_2 a0_3 a0_4 a0_5 l0_6 a1_0 a1_1 a1_2 a1_3 a1_4 a1_5 l1_6)
end
def sashref05_Same.T6 : Bool × List (List Nat × List Nat) := (true, [([], []), ([0], [0]), ([], []), ([1, 2], [1, 2]), ([3], [3]), ([], []), ([5], [5]), ([], []), ([6, 7], [6, 7]), ([8], [8]), ([4, 9], [4, 9]), ([10], [10])])
def sashref05_Same.B6 : List Nat := [0, 1, 0, 7, 15, 0, 32, 0, 224, 480, 1023, 2047]
end Go.Proofs.Ytfdmfgaiblfbhaa.P
/- The reference's sameness of trees: plain data. -/
namespace Go.Proofs.Ytfdmfgaiblfbhaa.P
open Go.RowKit Go.Proofs.YtfdmfgaiblfbhaaW.PrintWords Go.Proofs.YtfdmfgaiblfbhaaW.PrintLast Go.Proofs.YtfdmfgaiblfbhaaW.PrintMore

def rectB (a b : S23) : Bool := a.f0 == b.f0 && (a.f1 == b.f1 && (a.f2 == b.f2 && a.f3 == b.f3))
mutual
def sameC : S26 → S26 → Bool
  | ⟨a, r, d, l⟩, ⟨a', r', d', l'⟩ => a == a' && (rectB r r' && (d == d' && (l.length == l'.length && sameL l l')))
def sameL : List S26 → List S26 → Bool
  | [], _ => true
  | _ :: _, [] => true
  | c :: cs, e :: es => sameC c e && sameL cs es
end
end Go.Proofs.Ytfdmfgaiblfbhaa.P
namespace Go.Proofs.Ytfdmfgaiblfbhaa.P
open Go.RowKit Go.Proofs.YtfdmfgaiblfbhaaW.PrintWords Go.Proofs.YtfdmfgaiblfbhaaW.PrintLast Go.Proofs.YtfdmfgaiblfbhaaW.PrintMore
attribute [local go_sem] max2_int min2_int max_two min_two max_three min_three max_four min_four   -- for this text's walks alone
set_option linter.unusedVariables false
set_option linter.unusedSimpArgs false

/-! ### tile_cut: function 210 -/
def tile_cut.l0 : Nat → List Int → List (S26) → Int → Int → Int → Int → Int → Int → Int → Int → List (S26) → Option ((List (S23)) × (List (S23)) × Bool)
 | 0, _, _, _, _, _, _, _, _, _, _, _ => none
 | k + 1, x5, x9, x10, x11, x1875000, x1875001, x1875002, x1875003, x1875004, x1875005, x1875006 => if x11 < x10 then (if 0 ≤ x11 then (if x11 < (x9.length : Int) then (if x1875000 = 2 then (if x5.length < 17592186044416 then (tile_cut.l0 k (x5 ++ [(rd_T26 x9 x11).f1.f2]) x9 x10 (wrap64 (x11 + 1)) x1875000 x1875001 x1875002 x1875003 x1875004 x1875005 x1875006) else (none)) else (if x5.length < 17592186044416 then (tile_cut.l0 k (x5 ++ [(rd_T26 x9 x11).f1.f3]) x9 x10 (wrap64 (x11 + 1)) x1875000 x1875001 x1875002 x1875003 x1875004 x1875005 x1875006) else (none))) else (none)) else (none)) else ((rect_Cut.f k x1875001 x1875002 x1875003 x1875004 ((((x1875000 - 2) % 256) + 1) % 256) x5).bind fun bt1883 => (some (bt1883.1, bt1883.2.1, bt1883.2.2)))
def tile_cut.f (k : Nat) (a0_0 : Int) (a0_1 : Int) (a0_2 : Int) (a0_3 : Int) (a0_4 : Int) (a0_5 : Int) (l0_6 : List (S26)) : Option ((List (S23)) × (List (S23)) × Bool) := tile_cut.l0 k ([] : List Int) l0_6 (l0_6.length : Int) 0 a0_0 a0_1 a0_2 a0_3 a0_4 a0_5 l0_6
set_option maxHeartbeats 8000000 in
set_option maxRecDepth 100000 in
theorem tile_cut.calls (k : Nat) (a0_0 : Int) (a0_1 : Int) (a0_2 : Int) (a0_3 : Int) (a0_4 : Int) (a0_5 : Int) (A0_6 : Option Addr) (c0_6 : Nat) (l0_6 : List (S26)) (r1 : List (S23)) (r2 : List (S23)) (r3 : Bool) (w : World) (hr0_6 : Kd.C k26 w A0_6 l0_6.length l0_6) (hc0_6 : l0_6.length ≤ c0_6) (h : tile_cut.f k a0_0 a0_1 a0_2 a0_3 a0_4 a0_5 l0_6 = some (r1, r2, r3)) :
  Calls Try.prog 210 #[.agg #[.int .u8 a0_0, .int .i64 a0_1, .int .i64 a0_2, .int .i64 a0_3, .int .i64 a0_4, .int .i64 a0_5, .slice A0_6 l0_6.length c0_6]] w fun e w' => ∃ v0_ v1_ : Value, e = .returned (.tuple #[v0_, v1_, .bool r3]) ∧ Kd.R k23 23 w' w.heap.size (fun k_ => some k_ ≠ (v1_ : Value).ownBlock) v0_ r1 ∧ Kd.R k23 23 w' w.heap.size (fun k_ => some k_ ≠ (v0_ : Value).ownBlock) v1_ r2 ∧ Below w.heap.size w w' := by
 have hu26 := Try.underlying26
 have hu23 := Try.underlying23
 have HR0_6 := Aside0.mk hr0_6
 clear hr0_6 hc0_6
 have HB := Aside0.mk (Below.refl w.heap.size w)
 have H : (tile_cut.l0 k ([] : List Int) l0_6 (l0_6.length : Int) 0 a0_0 a0_1 a0_2 a0_3 a0_4 a0_5 l0_6) = some (r1, r2, r3) := h
 clear h
 have H' := Aside0.mk H
 clear H
 go_enter Try.func210, Try.ntmps210
 go_wp2_with (((with_reducible refine gate_dst (N := 1) rfl ?_); refine box_event ?hg (N := 1) ?hd (cs := #[.int .u8 a0_0, .int .i64 a0_1, .int .i64 a0_2, .int .i64 a0_3, .int .i64 a0_4, .int .i64 a0_5, .slice A0_6 l0_6.length c0_6]) (t := 26) ?hr ?_; (case hd => rfl); (case hg => rfl); (case hr => (go_simp; done)); intro gb1874 hg w2 hbox hb; have BK1874 := Aside0.mk (hbox); replace HB := Aside0.mk (below_step (by repeat ((with_reducible exact HB.out))) hb); clear hb hbox hg; have hcz3_0 : w2.cell? ⟨gb1874, 0, none⟩ = some (.int .u8 a0_0) := (blk_cell BK1874.out 0).trans rfl; have hcz3_1 : w2.cell? ⟨gb1874, 1, none⟩ = some (.int .i64 a0_1) := (blk_cell BK1874.out 1).trans rfl; have hcz3_2 : w2.cell? ⟨gb1874, 2, none⟩ = some (.int .i64 a0_2) := (blk_cell BK1874.out 2).trans rfl; have hcz3_3 : w2.cell? ⟨gb1874, 3, none⟩ = some (.int .i64 a0_3) := (blk_cell BK1874.out 3).trans rfl; have hcz3_4 : w2.cell? ⟨gb1874, 4, none⟩ = some (.int .i64 a0_4) := (blk_cell BK1874.out 4).trans rfl; have hcz3_5 : w2.cell? ⟨gb1874, 5, none⟩ = some (.int .i64 a0_5) := (blk_cell BK1874.out 5).trans rfl; have hcz3_6 : w2.cell? ⟨gb1874, 6, none⟩ = some (.slice A0_6 l0_6.length c0_6) := (blk_cell BK1874.out 6).trans rfl; have hfz3_0 := blk_frozen BK1874.out 0; have hfz3_1 := blk_frozen BK1874.out 1; have hfz3_2 := blk_frozen BK1874.out 2; have hfz3_3 := blk_frozen BK1874.out 3; have hfz3_4 := blk_frozen BK1874.out 4; have hfz3_5 := blk_frozen BK1874.out 5; have hfz3_6 := blk_frozen BK1874.out 6))
 go_loopg [5, 11] k (fun kq v5 v11 w' => ∃ (x5_1 : List Int) (x11_1 : Int), v11 = .int .i64 x11_1 ∧ Aside0 (tile_cut.l0 kq x5_1 l0_6 (l0_6.length : Int) x11_1 a0_0 a0_1 a0_2 a0_3 a0_4 a0_5 l0_6 = some (r1, r2, r3)) ∧ Aside0 (kq ≤ k) ∧ Aside0 (Kd.R (Kd.int .i64) 3 w' w.heap.size (fun _ => True) v5 x5_1) ∧ Aside0 (w'.heap[gb1874]? = some (.cells #[.int .u8 a0_0, .int .i64 a0_1, .int .i64 a0_2, .int .i64 a0_3, .int .i64 a0_4, .int .i64 a0_5, (.slice A0_6 l0_6.length c0_6)] 26 (0, 0))) ∧ Aside0 (Below w.heap.size w w'))
 case atStart => exact ⟨(([] : List Int)), (0), (by rfl), H', ⟨Nat.le_refl _⟩, ⟨by exact Kd.R_nil _ _ _ _ _⟩, ⟨by exact BK1874.out⟩, ⟨by repeat ((with_reducible exact HB.out))⟩⟩
 case round =>
  clear H'
  clear hcz3_0 hcz3_1 hcz3_2 hcz3_3 hcz3_4 hcz3_5 hcz3_6 hfz3_0 hfz3_1 hfz3_2 hfz3_3 hfz3_4 hfz3_5 hfz3_6
  obtain ⟨x5_1, x11_1, rfl, HA, HK1, HO_5, BK1874, HB⟩ := hrel
  cases gk with
  | zero => exact absurd HA.out (by simp [tile_cut.l0])
  | succ k1 =>
   have H := HA.out
   clear HA
   simp only [tile_cut.l0] at H
   by_cases c4 : x11_1 < (l0_6.length : Int)
   ·rw [if_pos c4] at H
    have c4b0 : decide (x11_1 < (l0_6.length : Int)) = true := decide_eq_true c4
    clear c4
    by_cases c5 : 0 ≤ x11_1
    ·rw [if_pos c5] at H
     have c5b0 : decide (0 ≤ x11_1) = true := decide_eq_true c5
     clear c5
     by_cases c6 : x11_1 < (l0_6.length : Int)
     ·rw [if_pos c6] at H
      have c6b0 : decide (x11_1 < (l0_6.length : Int)) = true := decide_eq_true c6
      clear c6
      by_cases c7 : a0_0 = 2
      ·rw [if_pos c7] at H
       have c7b0 : (a0_0 == 2) = true := beq_iff_eq.mpr c7
       have c7b1 : (a0_0 != 2) = false := bne_eq_false_iff_eq.mpr c7
       clear c7
       by_cases c8 : x5_1.length < 17592186044416
       ·rw [if_pos c8] at H
        have LMc8 := Aside0.mk c8
        clear c8
        obtain ⟨y1877, hy1877⟩ : ∃ y_ : List Int, y_ = (x5_1 ++ [(rd_T26 l0_6 x11_1).f1.f2]) := ⟨_, rfl⟩
        replace H : (tile_cut.l0 k1 y1877 l0_6 (l0_6.length : Int) (wrap64 (x11_1 + 1)) a0_0 a0_1 a0_2 a0_3 a0_4 a0_5 l0_6) = some (r1, r2, r3) := by (rw [hy1877]; with_reducible exact H)
        have Ny1877 := Aside0.mk hy1877
        clear hy1877
        have H' := Aside0.mk H
        clear H
        have p1875 : 0 ≤ (x11_1 : Int) := of_decide_eq_true (by (with_reducible assumption))
        have q1875 : x11_1 < (l0_6.length : Int) := of_decide_eq_true (by (with_reducible assumption))
        obtain ⟨ad1875, A1875_6, c1875_6, e1875, hx1875_0, hx1875_1, hx1875_2, hx1875_3, hx1875_4, hx1875_5, hx1875_6, hl1875_6, hi1875_6⟩ := at_T26 HR0_6.out x11_1 p1875 q1875
        cases e1875
        replace hx1875_0 := (HB.out.cell (World.block_lt_of_cell? w _ hx1875_0)).trans hx1875_0
        replace hx1875_1 := (HB.out.cell (World.block_lt_of_cell? w _ hx1875_1)).trans hx1875_1
        replace hx1875_2 := (HB.out.cell (World.block_lt_of_cell? w _ hx1875_2)).trans hx1875_2
        replace hx1875_3 := (HB.out.cell (World.block_lt_of_cell? w _ hx1875_3)).trans hx1875_3
        replace hx1875_4 := (HB.out.cell (World.block_lt_of_cell? w _ hx1875_4)).trans hx1875_4
        replace hx1875_5 := (HB.out.cell (World.block_lt_of_cell? w _ hx1875_5)).trans hx1875_5
        replace hx1875_6 := (HB.out.cell (World.block_lt_of_cell? w _ hx1875_6)).trans hx1875_6
        clear hi1875_6 hl1875_6
        replace p1875 := eq_true p1875
        replace q1875 := eq_true q1875
        go_wp2_with (first | ((with_reducible refine gate_dst (N := 7) rfl ?_); refine box_event ?hg (N := 7) ?hd (cs := #[.int .u8 0, .int .i64 0, .int .i64 0, .int .i64 0, .int .i64 0, .int .i64 0, .slice none 0 0]) (t := 26) ?hr ?_; (case hd => rfl); (case hg => rfl); (case hr => (go_simp; done)); intro gb1876 hg w9 hbox hb; have BK1876 := Aside0.mk (hbox); have GE1876 := Aside0.mk ((by rw [hg]; exact (below_size (by repeat ((with_reducible exact HB.out)))) : w.heap.size ≤ gb1876)); have NB1874_1876 := Aside0.mk ((by rw [hg]; exact Nat.ne_of_lt (blk_lt BK1874.out) : gb1874 ≠ gb1876)); have NB1876_1874 := Aside0.mk ((by rw [hg]; exact Nat.ne_of_gt (blk_lt BK1874.out) : gb1876 ≠ gb1874)); replace HO_5 := Aside0.mk (Kd.R_below HO_5.out hb); replace BK1874 := Aside0.mk (blk_below BK1874.out hb); replace HB := Aside0.mk (below_step (by repeat ((with_reducible exact HB.out))) hb); clear hb hbox hg; have hnb10 := NB1876_1874.out; have hnc10 := NB1874_1876.out; have hcz11_0 : w9.cell? ⟨gb1876, 0, none⟩ = some (.int .u8 0) := (blk_cell BK1876.out 0).trans rfl; have hcz11_1 : w9.cell? ⟨gb1876, 1, none⟩ = some (.int .i64 0) := (blk_cell BK1876.out 1).trans rfl; have hcz11_2 : w9.cell? ⟨gb1876, 2, none⟩ = some (.int .i64 0) := (blk_cell BK1876.out 2).trans rfl; have hcz11_3 : w9.cell? ⟨gb1876, 3, none⟩ = some (.int .i64 0) := (blk_cell BK1876.out 3).trans rfl; have hcz11_4 : w9.cell? ⟨gb1876, 4, none⟩ = some (.int .i64 0) := (blk_cell BK1876.out 4).trans rfl; have hcz11_5 : w9.cell? ⟨gb1876, 5, none⟩ = some (.int .i64 0) := (blk_cell BK1876.out 5).trans rfl; have hcz11_6 : w9.cell? ⟨gb1876, 6, none⟩ = some (.slice none 0 0) := (blk_cell BK1876.out 6).trans rfl; have hfz11_0 := blk_frozen BK1876.out 0; have hfz11_1 := blk_frozen BK1876.out 1; have hfz11_2 := blk_frozen BK1876.out 2; have hfz11_3 := blk_frozen BK1876.out 3; have hfz11_4 := blk_frozen BK1876.out 4; have hfz11_5 := blk_frozen BK1876.out 5; have hfz11_6 := blk_frozen BK1876.out 6; have hcz12_0 : w9.cell? ⟨gb1874, 0, none⟩ = some (.int .u8 a0_0) := (blk_cell BK1874.out 0).trans rfl; have hcz12_1 : w9.cell? ⟨gb1874, 1, none⟩ = some (.int .i64 a0_1) := (blk_cell BK1874.out 1).trans rfl; have hcz12_2 : w9.cell? ⟨gb1874, 2, none⟩ = some (.int .i64 a0_2) := (blk_cell BK1874.out 2).trans rfl; have hcz12_3 : w9.cell? ⟨gb1874, 3, none⟩ = some (.int .i64 a0_3) := (blk_cell BK1874.out 3).trans rfl; have hcz12_4 : w9.cell? ⟨gb1874, 4, none⟩ = some (.int .i64 a0_4) := (blk_cell BK1874.out 4).trans rfl; have hcz12_5 : w9.cell? ⟨gb1874, 5, none⟩ = some (.int .i64 a0_5) := (blk_cell BK1874.out 5).trans rfl; have hcz12_6 : w9.cell? ⟨gb1874, 6, none⟩ = some (.slice (some ad1875) l0_6.length c0_6) := (blk_cell BK1874.out 6).trans rfl; have hfz12_0 := blk_frozen BK1874.out 0; have hfz12_1 := blk_frozen BK1874.out 1; have hfz12_2 := blk_frozen BK1874.out 2; have hfz12_3 := blk_frozen BK1874.out 3; have hfz12_4 := blk_frozen BK1874.out 4; have hfz12_5 := blk_frozen BK1874.out 5; have hfz12_6 := blk_frozen BK1874.out 6) | ((with_reducible refine gate_builtin (b := .append) (xs := #[.tmp 18, .tmp 22]) rfl ?_); at_builtin; refine Kd.R_append (Kd.int .i64) (w0 := w) w.heap.size rfl (.tmp 18) (.tmp 22) 41 3 (.int .i64 0) 8 rfl Try.underlying41 info3 rfl (by decide) (by omega) u5 x5_1 ((rd_T26 l0_6 x11_1).f1.f2) [.int .i64 ((rd_T26 l0_6 x11_1).f1.f2)] (fun _ => True) (fun _ => False) rfl (by (go_simp; done)) ?aP (fun _ hk => hk.elim) ?aF ?aO ?aB ?aS ?aL ?_; (case aP => exact rfl); (case aB => exact (by repeat ((with_reducible first | exact HB.out | refine below_set ?_ GE1876.out)))); (case aF => exact (fun _ _ => trivial)); (case aO => exact (by exact Kd.R_mono (Kd.R_far (p := ⟨gb1876, 6, none⟩) (Kd.R_far (p := ⟨gb1876, 5, none⟩) (Kd.R_far (p := ⟨gb1876, 4, none⟩) (Kd.R_far (p := ⟨gb1876, 3, none⟩) (Kd.R_far (p := ⟨gb1876, 2, none⟩) (Kd.R_far (p := ⟨gb1876, 1, none⟩) (Kd.R_far (p := ⟨gb1876, 0, none⟩) (Kd.R_types HO_5.out BK1876.out (by decide)) (fun _ hk => hk.2) (.int .u8 ((rd_T26 l0_6 x11_1).f0))) (fun _ hk => hk.2) (.int .i64 ((rd_T26 l0_6 x11_1).f1.f0))) (fun _ hk => hk.2) (.int .i64 ((rd_T26 l0_6 x11_1).f1.f1))) (fun _ hk => hk.2) (.int .i64 ((rd_T26 l0_6 x11_1).f1.f2))) (fun _ hk => hk.2) (.int .i64 ((rd_T26 l0_6 x11_1).f1.f3))) (fun _ hk => hk.2) (.int .i64 ((rd_T26 l0_6 x11_1).f2))) (fun _ hk => hk.2) (.slice A1875_6 ((rd_T26 l0_6 x11_1).f3).length c1875_6)) (fun _ hk => trivial))); (case aS => exact (below_size (by repeat ((with_reducible first | exact HB.out | refine below_set ?_ GE1876.out))))); (case aL => have := LMc8.out; omega); intro v1878 w13 ho hb hg hat; rw [← Ny1877.out] at ho; have HO1879 := Aside0.mk (ho); replace BK1874 := Aside0.mk (blk_grown (g := gb1874) (o := .cells #[.int .u8 a0_0, .int .i64 a0_1, .int .i64 a0_2, .int .i64 a0_3, .int .i64 a0_4, .int .i64 a0_5, .slice (some ad1875) l0_6.length c0_6] 26 (0, 0)) (by refine blk_far ?_ NB1874_1876.out _; refine blk_far ?_ NB1874_1876.out _; refine blk_far ?_ NB1874_1876.out _; refine blk_far ?_ NB1874_1876.out _; refine blk_far ?_ NB1874_1876.out _; refine blk_far ?_ NB1874_1876.out _; refine blk_far ?_ NB1874_1876.out _; exact BK1874.out) hg (Kd.R_ne HO_5.out BK1874.out (by decide))); replace BK1876 := Aside0.mk (blk_grown (g := gb1876) (o := .cells #[.int .u8 ((rd_T26 l0_6 x11_1).f0), .int .i64 ((rd_T26 l0_6 x11_1).f1.f0), .int .i64 ((rd_T26 l0_6 x11_1).f1.f1), .int .i64 ((rd_T26 l0_6 x11_1).f1.f2), .int .i64 ((rd_T26 l0_6 x11_1).f1.f3), .int .i64 ((rd_T26 l0_6 x11_1).f2), .slice A1875_6 ((rd_T26 l0_6 x11_1).f3).length c1875_6] 26 (0, 0)) (by refine blk_put (cs := #[.int .u8 ((rd_T26 l0_6 x11_1).f0), .int .i64 ((rd_T26 l0_6 x11_1).f1.f0), .int .i64 ((rd_T26 l0_6 x11_1).f1.f1), .int .i64 ((rd_T26 l0_6 x11_1).f1.f2), .int .i64 ((rd_T26 l0_6 x11_1).f1.f3), .int .i64 ((rd_T26 l0_6 x11_1).f2), .slice none 0 0]) ?_ 6 _ rfl; refine blk_put (cs := #[.int .u8 ((rd_T26 l0_6 x11_1).f0), .int .i64 ((rd_T26 l0_6 x11_1).f1.f0), .int .i64 ((rd_T26 l0_6 x11_1).f1.f1), .int .i64 ((rd_T26 l0_6 x11_1).f1.f2), .int .i64 ((rd_T26 l0_6 x11_1).f1.f3), .int .i64 0, .slice none 0 0]) ?_ 5 _ rfl; refine blk_put (cs := #[.int .u8 ((rd_T26 l0_6 x11_1).f0), .int .i64 ((rd_T26 l0_6 x11_1).f1.f0), .int .i64 ((rd_T26 l0_6 x11_1).f1.f1), .int .i64 ((rd_T26 l0_6 x11_1).f1.f2), .int .i64 0, .int .i64 0, .slice none 0 0]) ?_ 4 _ rfl; refine blk_put (cs := #[.int .u8 ((rd_T26 l0_6 x11_1).f0), .int .i64 ((rd_T26 l0_6 x11_1).f1.f0), .int .i64 ((rd_T26 l0_6 x11_1).f1.f1), .int .i64 0, .int .i64 0, .int .i64 0, .slice none 0 0]) ?_ 3 _ rfl; refine blk_put (cs := #[.int .u8 ((rd_T26 l0_6 x11_1).f0), .int .i64 ((rd_T26 l0_6 x11_1).f1.f0), .int .i64 0, .int .i64 0, .int .i64 0, .int .i64 0, .slice none 0 0]) ?_ 2 _ rfl; refine blk_put (cs := #[.int .u8 ((rd_T26 l0_6 x11_1).f0), .int .i64 0, .int .i64 0, .int .i64 0, .int .i64 0, .int .i64 0, .slice none 0 0]) ?_ 1 _ rfl; refine blk_put (cs := #[.int .u8 0, .int .i64 0, .int .i64 0, .int .i64 0, .int .i64 0, .int .i64 0, .slice none 0 0]) ?_ 0 _ rfl; exact BK1876.out) hg (Kd.R_ne HO_5.out BK1876.out (by decide))); replace HB := Aside0.mk (hb); clear HO_5; clear ho hb hg hat))
        go_roundg k1
        case measure => have := HK1.out; omega
        case rel => exact ⟨(y1877), (wrap64 (x11_1 + 1)), (by rfl), H', ⟨by have := HK1.out; omega⟩, ⟨by exact HO1879.out⟩, ⟨by exact BK1874.out⟩, ⟨by repeat ((with_reducible exact HB.out))⟩⟩
       ·rw [if_neg c8] at H
        exact absurd H (by simp)
      ·rw [if_neg c7] at H
       have c7b0 : (a0_0 == 2) = false := beq_eq_false_iff_ne.mpr c7
       have c7b1 : (a0_0 != 2) = true := bne_iff_ne.mpr c7
       by_cases c14 : x5_1.length < 17592186044416
       ·rw [if_pos c14] at H
        have LMc14 := Aside0.mk c14
        clear c14
        obtain ⟨y1880, hy1880⟩ : ∃ y_ : List Int, y_ = (x5_1 ++ [(rd_T26 l0_6 x11_1).f1.f3]) := ⟨_, rfl⟩
        replace H : (tile_cut.l0 k1 y1880 l0_6 (l0_6.length : Int) (wrap64 (x11_1 + 1)) a0_0 a0_1 a0_2 a0_3 a0_4 a0_5 l0_6) = some (r1, r2, r3) := by (rw [hy1880]; with_reducible exact H)
        have Ny1880 := Aside0.mk hy1880
        clear hy1880
        have H' := Aside0.mk H
        clear H
        have p1875 : 0 ≤ (x11_1 : Int) := of_decide_eq_true (by (with_reducible assumption))
        have q1875 : x11_1 < (l0_6.length : Int) := of_decide_eq_true (by (with_reducible assumption))
        obtain ⟨ad1875, A1875_6, c1875_6, e1875, hx1875_0, hx1875_1, hx1875_2, hx1875_3, hx1875_4, hx1875_5, hx1875_6, hl1875_6, hi1875_6⟩ := at_T26 HR0_6.out x11_1 p1875 q1875
        cases e1875
        replace hx1875_0 := (HB.out.cell (World.block_lt_of_cell? w _ hx1875_0)).trans hx1875_0
        replace hx1875_1 := (HB.out.cell (World.block_lt_of_cell? w _ hx1875_1)).trans hx1875_1
        replace hx1875_2 := (HB.out.cell (World.block_lt_of_cell? w _ hx1875_2)).trans hx1875_2
        replace hx1875_3 := (HB.out.cell (World.block_lt_of_cell? w _ hx1875_3)).trans hx1875_3
        replace hx1875_4 := (HB.out.cell (World.block_lt_of_cell? w _ hx1875_4)).trans hx1875_4
        replace hx1875_5 := (HB.out.cell (World.block_lt_of_cell? w _ hx1875_5)).trans hx1875_5
        replace hx1875_6 := (HB.out.cell (World.block_lt_of_cell? w _ hx1875_6)).trans hx1875_6
        clear hi1875_6 hl1875_6
        replace p1875 := eq_true p1875
        replace q1875 := eq_true q1875
        go_wp2_with (first | ((with_reducible refine gate_dst (N := 7) rfl ?_); refine box_event ?hg (N := 7) ?hd (cs := #[.int .u8 0, .int .i64 0, .int .i64 0, .int .i64 0, .int .i64 0, .int .i64 0, .slice none 0 0]) (t := 26) ?hr ?_; (case hd => rfl); (case hg => rfl); (case hr => (go_simp; done)); intro gb1876 hg w15 hbox hb; have BK1876 := Aside0.mk (hbox); have GE1876 := Aside0.mk ((by rw [hg]; exact (below_size (by repeat ((with_reducible exact HB.out)))) : w.heap.size ≤ gb1876)); have NB1874_1876 := Aside0.mk ((by rw [hg]; exact Nat.ne_of_lt (blk_lt BK1874.out) : gb1874 ≠ gb1876)); have NB1876_1874 := Aside0.mk ((by rw [hg]; exact Nat.ne_of_gt (blk_lt BK1874.out) : gb1876 ≠ gb1874)); replace HO_5 := Aside0.mk (Kd.R_below HO_5.out hb); replace BK1874 := Aside0.mk (blk_below BK1874.out hb); replace HB := Aside0.mk (below_step (by repeat ((with_reducible exact HB.out))) hb); clear hb hbox hg; have hnb16 := NB1876_1874.out; have hnc16 := NB1874_1876.out; have hcz17_0 : w15.cell? ⟨gb1876, 0, none⟩ = some (.int .u8 0) := (blk_cell BK1876.out 0).trans rfl; have hcz17_1 : w15.cell? ⟨gb1876, 1, none⟩ = some (.int .i64 0) := (blk_cell BK1876.out 1).trans rfl; have hcz17_2 : w15.cell? ⟨gb1876, 2, none⟩ = some (.int .i64 0) := (blk_cell BK1876.out 2).trans rfl; have hcz17_3 : w15.cell? ⟨gb1876, 3, none⟩ = some (.int .i64 0) := (blk_cell BK1876.out 3).trans rfl; have hcz17_4 : w15.cell? ⟨gb1876, 4, none⟩ = some (.int .i64 0) := (blk_cell BK1876.out 4).trans rfl; have hcz17_5 : w15.cell? ⟨gb1876, 5, none⟩ = some (.int .i64 0) := (blk_cell BK1876.out 5).trans rfl; have hcz17_6 : w15.cell? ⟨gb1876, 6, none⟩ = some (.slice none 0 0) := (blk_cell BK1876.out 6).trans rfl; have hfz17_0 := blk_frozen BK1876.out 0; have hfz17_1 := blk_frozen BK1876.out 1; have hfz17_2 := blk_frozen BK1876.out 2; have hfz17_3 := blk_frozen BK1876.out 3; have hfz17_4 := blk_frozen BK1876.out 4; have hfz17_5 := blk_frozen BK1876.out 5; have hfz17_6 := blk_frozen BK1876.out 6; have hcz18_0 : w15.cell? ⟨gb1874, 0, none⟩ = some (.int .u8 a0_0) := (blk_cell BK1874.out 0).trans rfl; have hcz18_1 : w15.cell? ⟨gb1874, 1, none⟩ = some (.int .i64 a0_1) := (blk_cell BK1874.out 1).trans rfl; have hcz18_2 : w15.cell? ⟨gb1874, 2, none⟩ = some (.int .i64 a0_2) := (blk_cell BK1874.out 2).trans rfl; have hcz18_3 : w15.cell? ⟨gb1874, 3, none⟩ = some (.int .i64 a0_3) := (blk_cell BK1874.out 3).trans rfl; have hcz18_4 : w15.cell? ⟨gb1874, 4, none⟩ = some (.int .i64 a0_4) := (blk_cell BK1874.out 4).trans rfl; have hcz18_5 : w15.cell? ⟨gb1874, 5, none⟩ = some (.int .i64 a0_5) := (blk_cell BK1874.out 5).trans rfl; have hcz18_6 : w15.cell? ⟨gb1874, 6, none⟩ = some (.slice (some ad1875) l0_6.length c0_6) := (blk_cell BK1874.out 6).trans rfl; have hfz18_0 := blk_frozen BK1874.out 0; have hfz18_1 := blk_frozen BK1874.out 1; have hfz18_2 := blk_frozen BK1874.out 2; have hfz18_3 := blk_frozen BK1874.out 3; have hfz18_4 := blk_frozen BK1874.out 4; have hfz18_5 := blk_frozen BK1874.out 5; have hfz18_6 := blk_frozen BK1874.out 6) | ((with_reducible refine gate_builtin (b := .append) (xs := #[.tmp 24, .tmp 28]) rfl ?_); at_builtin; refine Kd.R_append (Kd.int .i64) (w0 := w) w.heap.size rfl (.tmp 24) (.tmp 28) 41 3 (.int .i64 0) 8 rfl Try.underlying41 info3 rfl (by decide) (by omega) u5 x5_1 ((rd_T26 l0_6 x11_1).f1.f3) [.int .i64 ((rd_T26 l0_6 x11_1).f1.f3)] (fun _ => True) (fun _ => False) rfl (by (go_simp; done)) ?aP (fun _ hk => hk.elim) ?aF ?aO ?aB ?aS ?aL ?_; (case aP => exact rfl); (case aB => exact (by repeat ((with_reducible first | exact HB.out | refine below_set ?_ GE1876.out)))); (case aF => exact (fun _ _ => trivial)); (case aO => exact (by exact Kd.R_mono (Kd.R_far (p := ⟨gb1876, 6, none⟩) (Kd.R_far (p := ⟨gb1876, 5, none⟩) (Kd.R_far (p := ⟨gb1876, 4, none⟩) (Kd.R_far (p := ⟨gb1876, 3, none⟩) (Kd.R_far (p := ⟨gb1876, 2, none⟩) (Kd.R_far (p := ⟨gb1876, 1, none⟩) (Kd.R_far (p := ⟨gb1876, 0, none⟩) (Kd.R_types HO_5.out BK1876.out (by decide)) (fun _ hk => hk.2) (.int .u8 ((rd_T26 l0_6 x11_1).f0))) (fun _ hk => hk.2) (.int .i64 ((rd_T26 l0_6 x11_1).f1.f0))) (fun _ hk => hk.2) (.int .i64 ((rd_T26 l0_6 x11_1).f1.f1))) (fun _ hk => hk.2) (.int .i64 ((rd_T26 l0_6 x11_1).f1.f2))) (fun _ hk => hk.2) (.int .i64 ((rd_T26 l0_6 x11_1).f1.f3))) (fun _ hk => hk.2) (.int .i64 ((rd_T26 l0_6 x11_1).f2))) (fun _ hk => hk.2) (.slice A1875_6 ((rd_T26 l0_6 x11_1).f3).length c1875_6)) (fun _ hk => trivial))); (case aS => exact (below_size (by repeat ((with_reducible first | exact HB.out | refine below_set ?_ GE1876.out))))); (case aL => have := LMc14.out; omega); intro v1881 w19 ho hb hg hat; rw [← Ny1880.out] at ho; have HO1882 := Aside0.mk (ho); replace BK1874 := Aside0.mk (blk_grown (g := gb1874) (o := .cells #[.int .u8 a0_0, .int .i64 a0_1, .int .i64 a0_2, .int .i64 a0_3, .int .i64 a0_4, .int .i64 a0_5, .slice (some ad1875) l0_6.length c0_6] 26 (0, 0)) (by refine blk_far ?_ NB1874_1876.out _; refine blk_far ?_ NB1874_1876.out _; refine blk_far ?_ NB1874_1876.out _; refine blk_far ?_ NB1874_1876.out _; refine blk_far ?_ NB1874_1876.out _; refine blk_far ?_ NB1874_1876.out _; refine blk_far ?_ NB1874_1876.out _; exact BK1874.out) hg (Kd.R_ne HO_5.out BK1874.out (by decide))); replace BK1876 := Aside0.mk (blk_grown (g := gb1876) (o := .cells #[.int .u8 ((rd_T26 l0_6 x11_1).f0), .int .i64 ((rd_T26 l0_6 x11_1).f1.f0), .int .i64 ((rd_T26 l0_6 x11_1).f1.f1), .int .i64 ((rd_T26 l0_6 x11_1).f1.f2), .int .i64 ((rd_T26 l0_6 x11_1).f1.f3), .int .i64 ((rd_T26 l0_6 x11_1).f2), .slice A1875_6 ((rd_T26 l0_6 x11_1).f3).length c1875_6] 26 (0, 0)) (by refine blk_put (cs := #[.int .u8 ((rd_T26 l0_6 x11_1).f0), .int .i64 ((rd_T26 l0_6 x11_1).f1.f0), .int .i64 ((rd_T26 l0_6 x11_1).f1.f1), .int .i64 ((rd_T26 l0_6 x11_1).f1.f2), .int .i64 ((rd_T26 l0_6 x11_1).f1.f3), .int .i64 ((rd_T26 l0_6 x11_1).f2), .slice none 0 0]) ?_ 6 _ rfl; refine blk_put (cs := #[.int .u8 ((rd_T26 l0_6 x11_1).f0), .int .i64 ((rd_T26 l0_6 x11_1).f1.f0), .int .i64 ((rd_T26 l0_6 x11_1).f1.f1), .int .i64 ((rd_T26 l0_6 x11_1).f1.f2), .int .i64 ((rd_T26 l0_6 x11_1).f1.f3), .int .i64 0, .slice none 0 0]) ?_ 5 _ rfl; refine blk_put (cs := #[.int .u8 ((rd_T26 l0_6 x11_1).f0), .int .i64 ((rd_T26 l0_6 x11_1).f1.f0), .int .i64 ((rd_T26 l0_6 x11_1).f1.f1), .int .i64 ((rd_T26 l0_6 x11_1).f1.f2), .int .i64 0, .int .i64 0, .slice none 0 0]) ?_ 4 _ rfl; refine blk_put (cs := #[.int .u8 ((rd_T26 l0_6 x11_1).f0), .int .i64 ((rd_T26 l0_6 x11_1).f1.f0), .int .i64 ((rd_T26 l0_6 x11_1).f1.f1), .int .i64 0, .int .i64 0, .int .i64 0, .slice none 0 0]) ?_ 3 _ rfl; refine blk_put (cs := #[.int .u8 ((rd_T26 l0_6 x11_1).f0), .int .i64 ((rd_T26 l0_6 x11_1).f1.f0), .int .i64 0, .int .i64 0, .int .i64 0, .int .i64 0, .slice none 0 0]) ?_ 2 _ rfl; refine blk_put (cs := #[.int .u8 ((rd_T26 l0_6 x11_1).f0), .int .i64 0, .int .i64 0, .int .i64 0, .int .i64 0, .int .i64 0, .slice none 0 0]) ?_ 1 _ rfl; refine blk_put (cs := #[.int .u8 0, .int .i64 0, .int .i64 0, .int .i64 0, .int .i64 0, .int .i64 0, .slice none 0 0]) ?_ 0 _ rfl; exact BK1876.out) hg (Kd.R_ne HO_5.out BK1876.out (by decide))); replace HB := Aside0.mk (hb); clear HO_5; clear ho hb hg hat))
        go_roundg k1
        case measure => have := HK1.out; omega
        case rel => exact ⟨(y1880), (wrap64 (x11_1 + 1)), (by rfl), H', ⟨by have := HK1.out; omega⟩, ⟨by exact HO1882.out⟩, ⟨by exact BK1874.out⟩, ⟨by repeat ((with_reducible exact HB.out))⟩⟩
       ·rw [if_neg c14] at H
        exact absurd H (by simp)
     ·rw [if_neg c6] at H
      exact absurd H (by simp)
    ·rw [if_neg c5] at H
     exact absurd H (by simp)
   ·rw [if_neg c4] at H
    have c4b0 : decide (x11_1 < (l0_6.length : Int)) = false := decide_eq_false c4
    clear c4
    replace H := Option.bind_eq_some_iff.mp H
    obtain ⟨⟨t1883, t1886, t1889⟩, A200, H⟩ := H
    replace H : (some (t1883, t1886, t1889)) = some (r1, r2, r3) := H
    have A20 := Aside0.mk A200
    clear A200
    simp only [Option.some.injEq, Prod.mk.injEq] at H
    obtain ⟨rfl, rfl, rfl⟩ := H
    have hcz21_0 : wr.cell? ⟨gb1874, 0, none⟩ = some (.int .u8 a0_0) := (blk_cell BK1874.out 0).trans rfl
    have hcz21_1 : wr.cell? ⟨gb1874, 1, none⟩ = some (.int .i64 a0_1) := (blk_cell BK1874.out 1).trans rfl
    have hcz21_2 : wr.cell? ⟨gb1874, 2, none⟩ = some (.int .i64 a0_2) := (blk_cell BK1874.out 2).trans rfl
    have hcz21_3 : wr.cell? ⟨gb1874, 3, none⟩ = some (.int .i64 a0_3) := (blk_cell BK1874.out 3).trans rfl
    have hcz21_4 : wr.cell? ⟨gb1874, 4, none⟩ = some (.int .i64 a0_4) := (blk_cell BK1874.out 4).trans rfl
    have hcz21_5 : wr.cell? ⟨gb1874, 5, none⟩ = some (.int .i64 a0_5) := (blk_cell BK1874.out 5).trans rfl
    have hcz21_6 : wr.cell? ⟨gb1874, 6, none⟩ = some (.slice A0_6 l0_6.length c0_6) := (blk_cell BK1874.out 6).trans rfl
    have hfz21_0 := blk_frozen BK1874.out 0
    have hfz21_1 := blk_frozen BK1874.out 1
    have hfz21_2 := blk_frozen BK1874.out 2
    have hfz21_3 := blk_frozen BK1874.out 3
    have hfz21_4 := blk_frozen BK1874.out 4
    have hfz21_5 := blk_frozen BK1874.out 5
    have hfz21_6 := blk_frozen BK1874.out 6
    obtain ⟨Ao22, co22, eo22⟩ := Kd.R_slice HO_5.out
    subst eo22
    go_wp2_with (((with_reducible refine gate_callee (f := 45) rfl ?_); refine goesL_ (some 38) rfl rfl Try.func45 (by kernel_rfl) rfl #[.agg #[.int .i64 a0_1, .int .i64 a0_2, .int .i64 a0_3, .int .i64 a0_4], .int .u8 ((((a0_0 - 2) % 256) + 1) % 256), .slice Ao22 x5_1.length co22] rfl (by (try simp only [List.map_toArray, List.map_cons, List.map_nil]); rfl) ?_; (with_reducible refine (rect_Cut.calls k1 a0_1 a0_2 a0_3 a0_4 ((((a0_0 - 2) % 256) + 1) % 256) _ _ x5_1 t1883 t1886 t1889 _ ?side1 ?side2 A20.out).mono ?_); (case side1 => repeat (exact (Kd.R_reads' HO_5.out).2.2)); (case side2 => exact (Kd.R_reads' HO_5.out).2.1); rintro e w23 ⟨v1884, v1887, rfl, ho0, ho1, hb⟩; refine ⟨_, rfl, ?_⟩; have HO1885 := Aside0.mk (Kd.R_lower ho0 (below_size (by repeat ((with_reducible exact HB.out))))); have HO1888 := Aside0.mk (Kd.R_lower ho1 (below_size (by repeat ((with_reducible exact HB.out))))); replace HO_5 := Aside0.mk (Kd.R_below HO_5.out hb); replace BK1874 := Aside0.mk (blk_below BK1874.out hb); replace HB := Aside0.mk (below_step (by repeat ((with_reducible exact HB.out))) hb); (try clear hb); (try clear ho0); (try clear ho1)))
    go_ret3
    exact ⟨_, _, by rfl, by exact HO1885.out, by exact HO1888.out, by repeat ((with_reducible exact HB.out))⟩

end Go.Proofs.Ytfdmfgaiblfbhaa.P
/- The contract of tile.lines (and of its closure): the lines of a cell alone, and whether it tiles. -/
namespace Go.Proofs.Ytfdmfgaiblfbhaa.P
open Go.RowKit Go.Proofs.YtfdmfgaiblfbhaaW.PrintWords Go.Proofs.YtfdmfgaiblfbhaaW.PrintLast Go.Proofs.YtfdmfgaiblfbhaaW.PrintMore
set_option linter.unusedVariables false
set_option linter.unusedSimpArgs false
set_option maxHeartbeats 2000000 in
set_option maxRecDepth 100000 in
theorem clo212 (ak ax ay aw ah aid bx by_ bw bh : Int) (A : Option Addr) (la : List S26) (ca : Nat) (w : World) :
    Calls Try.prog 212 #[.agg #[.int .u8 ak, .int .i64 ax, .int .i64 ay, .int .i64 aw, .int .i64 ah, .int .i64 aid, .slice A la.length ca], .agg #[.int .i64 bx, .int .i64 by_, .int .i64 bw, .int .i64 bh]] w fun e w' => e = .returned (.bool (rectB ⟨ax, ay, aw, ah⟩ ⟨bx, by_, bw, bh⟩)) ∧ Below w.heap.size w w' := by
  have HB := Aside0.mk (Below.refl w.heap.size w)
  have hu23 := Try.underlying23
  simp only [rectB]
  by_cases e_ : ax = bx
  rotate_left
  · have k_ : (ax == bx) = false := beq_eq_false_iff_ne.mpr e_
    clear e_
    simp only [k_, beq_self_eq_true, Bool.true_and, Bool.false_and, Bool.and_false]
    go_enter Try.func212, Try.ntmps212
    go_wp2_with (first | ((with_reducible refine gate_dst (N := 2) rfl ?_); refine box_event ?hg (N := 2) ?hd (cs := #[.int .u8 ak, .int .i64 ax, .int .i64 ay, .int .i64 aw, .int .i64 ah, .int .i64 aid, .slice A la.length ca]) (t := 26) ?hr ?_; (case hd => rfl); (case hg => rfl); (case hr => (go_simp; done)); intro b2 hg wbb2 hbox hb; have Kb2 := Aside0.mk hbox; have q_ := Aside0.mk (below_step HB.out hb); clear HB; have HB := q_; clear q_; clear hb hbox hg) | ((with_reducible refine gate_dst (N := 3) rfl ?_); refine box_event ?hg (N := 3) ?hd (cs := #[.int .i64 bx, .int .i64 by_, .int .i64 bw, .int .i64 bh]) (t := 23) ?hr ?_; (case hd => rfl); (case hg => rfl); (case hr => (go_simp; done)); intro b3 hg wbb3 hbox hb; have Kb3 := Aside0.mk hbox; have q_ := Aside0.mk (below_step HB.out hb); clear HB; have HB := q_; clear q_; have q2_ := Aside0.mk (blk_below Kb2.out hb); clear Kb2; have Kb2 := q2_; clear q2_; have c0 := (blk_cell Kb2.out 0).trans rfl; have c1 := (blk_cell Kb2.out 1).trans rfl; have c2 := (blk_cell Kb2.out 2).trans rfl; have c3 := (blk_cell Kb2.out 3).trans rfl; have c4 := (blk_cell Kb2.out 4).trans rfl; have c5 := (blk_cell Kb2.out 5).trans rfl; have c6 := (blk_cell Kb2.out 6).trans rfl; have d0 := (blk_cell Kb3.out 0).trans rfl; have d1 := (blk_cell Kb3.out 1).trans rfl; have d2 := (blk_cell Kb3.out 2).trans rfl; have d3 := (blk_cell Kb3.out 3).trans rfl; clear hb hbox hg))
    go_ret
    exact ⟨rfl, HB.out⟩
  subst e_
  by_cases e_ : ay = by_
  rotate_left
  · have k_ : (ay == by_) = false := beq_eq_false_iff_ne.mpr e_
    clear e_
    simp only [k_, beq_self_eq_true, Bool.true_and, Bool.false_and, Bool.and_false]
    go_enter Try.func212, Try.ntmps212
    go_wp2_with (first | ((with_reducible refine gate_dst (N := 2) rfl ?_); refine box_event ?hg (N := 2) ?hd (cs := #[.int .u8 ak, .int .i64 ax, .int .i64 ay, .int .i64 aw, .int .i64 ah, .int .i64 aid, .slice A la.length ca]) (t := 26) ?hr ?_; (case hd => rfl); (case hg => rfl); (case hr => (go_simp; done)); intro b2 hg wbb2 hbox hb; have Kb2 := Aside0.mk hbox; have q_ := Aside0.mk (below_step HB.out hb); clear HB; have HB := q_; clear q_; clear hb hbox hg) | ((with_reducible refine gate_dst (N := 3) rfl ?_); refine box_event ?hg (N := 3) ?hd (cs := #[.int .i64 ax, .int .i64 by_, .int .i64 bw, .int .i64 bh]) (t := 23) ?hr ?_; (case hd => rfl); (case hg => rfl); (case hr => (go_simp; done)); intro b3 hg wbb3 hbox hb; have Kb3 := Aside0.mk hbox; have q_ := Aside0.mk (below_step HB.out hb); clear HB; have HB := q_; clear q_; have q2_ := Aside0.mk (blk_below Kb2.out hb); clear Kb2; have Kb2 := q2_; clear q2_; have c0 := (blk_cell Kb2.out 0).trans rfl; have c1 := (blk_cell Kb2.out 1).trans rfl; have c2 := (blk_cell Kb2.out 2).trans rfl; have c3 := (blk_cell Kb2.out 3).trans rfl; have c4 := (blk_cell Kb2.out 4).trans rfl; have c5 := (blk_cell Kb2.out 5).trans rfl; have c6 := (blk_cell Kb2.out 6).trans rfl; have d0 := (blk_cell Kb3.out 0).trans rfl; have d1 := (blk_cell Kb3.out 1).trans rfl; have d2 := (blk_cell Kb3.out 2).trans rfl; have d3 := (blk_cell Kb3.out 3).trans rfl; clear hb hbox hg))
    go_ret
    exact ⟨rfl, HB.out⟩
  subst e_
  by_cases e_ : aw = bw
  rotate_left
  · have k_ : (aw == bw) = false := beq_eq_false_iff_ne.mpr e_
    clear e_
    simp only [k_, beq_self_eq_true, Bool.true_and, Bool.false_and, Bool.and_false]
    go_enter Try.func212, Try.ntmps212
    go_wp2_with (first | ((with_reducible refine gate_dst (N := 2) rfl ?_); refine box_event ?hg (N := 2) ?hd (cs := #[.int .u8 ak, .int .i64 ax, .int .i64 ay, .int .i64 aw, .int .i64 ah, .int .i64 aid, .slice A la.length ca]) (t := 26) ?hr ?_; (case hd => rfl); (case hg => rfl); (case hr => (go_simp; done)); intro b2 hg wbb2 hbox hb; have Kb2 := Aside0.mk hbox; have q_ := Aside0.mk (below_step HB.out hb); clear HB; have HB := q_; clear q_; clear hb hbox hg) | ((with_reducible refine gate_dst (N := 3) rfl ?_); refine box_event ?hg (N := 3) ?hd (cs := #[.int .i64 ax, .int .i64 ay, .int .i64 bw, .int .i64 bh]) (t := 23) ?hr ?_; (case hd => rfl); (case hg => rfl); (case hr => (go_simp; done)); intro b3 hg wbb3 hbox hb; have Kb3 := Aside0.mk hbox; have q_ := Aside0.mk (below_step HB.out hb); clear HB; have HB := q_; clear q_; have q2_ := Aside0.mk (blk_below Kb2.out hb); clear Kb2; have Kb2 := q2_; clear q2_; have c0 := (blk_cell Kb2.out 0).trans rfl; have c1 := (blk_cell Kb2.out 1).trans rfl; have c2 := (blk_cell Kb2.out 2).trans rfl; have c3 := (blk_cell Kb2.out 3).trans rfl; have c4 := (blk_cell Kb2.out 4).trans rfl; have c5 := (blk_cell Kb2.out 5).trans rfl; have c6 := (blk_cell Kb2.out 6).trans rfl; have d0 := (blk_cell Kb3.out 0).trans rfl; have d1 := (blk_cell Kb3.out 1).trans rfl; have d2 := (blk_cell Kb3.out 2).trans rfl; have d3 := (blk_cell Kb3.out 3).trans rfl; clear hb hbox hg))
    go_ret
    exact ⟨rfl, HB.out⟩
  subst e_
  by_cases e_ : ah = bh
  rotate_left
  · have k_ : (ah == bh) = false := beq_eq_false_iff_ne.mpr e_
    clear e_
    simp only [k_, beq_self_eq_true, Bool.true_and, Bool.false_and, Bool.and_false]
    go_enter Try.func212, Try.ntmps212
    go_wp2_with (first | ((with_reducible refine gate_dst (N := 2) rfl ?_); refine box_event ?hg (N := 2) ?hd (cs := #[.int .u8 ak, .int .i64 ax, .int .i64 ay, .int .i64 aw, .int .i64 ah, .int .i64 aid, .slice A la.length ca]) (t := 26) ?hr ?_; (case hd => rfl); (case hg => rfl); (case hr => (go_simp; done)); intro b2 hg wbb2 hbox hb; have Kb2 := Aside0.mk hbox; have q_ := Aside0.mk (below_step HB.out hb); clear HB; have HB := q_; clear q_; clear hb hbox hg) | ((with_reducible refine gate_dst (N := 3) rfl ?_); refine box_event ?hg (N := 3) ?hd (cs := #[.int .i64 ax, .int .i64 ay, .int .i64 aw, .int .i64 bh]) (t := 23) ?hr ?_; (case hd => rfl); (case hg => rfl); (case hr => (go_simp; done)); intro b3 hg wbb3 hbox hb; have Kb3 := Aside0.mk hbox; have q_ := Aside0.mk (below_step HB.out hb); clear HB; have HB := q_; clear q_; have q2_ := Aside0.mk (blk_below Kb2.out hb); clear Kb2; have Kb2 := q2_; clear q2_; have c0 := (blk_cell Kb2.out 0).trans rfl; have c1 := (blk_cell Kb2.out 1).trans rfl; have c2 := (blk_cell Kb2.out 2).trans rfl; have c3 := (blk_cell Kb2.out 3).trans rfl; have c4 := (blk_cell Kb2.out 4).trans rfl; have c5 := (blk_cell Kb2.out 5).trans rfl; have c6 := (blk_cell Kb2.out 6).trans rfl; have d0 := (blk_cell Kb3.out 0).trans rfl; have d1 := (blk_cell Kb3.out 1).trans rfl; have d2 := (blk_cell Kb3.out 2).trans rfl; have d3 := (blk_cell Kb3.out 3).trans rfl; clear hb hbox hg))
    go_ret
    exact ⟨rfl, HB.out⟩
  subst e_
  simp only [beq_self_eq_true, Bool.true_and]
  go_enter Try.func212, Try.ntmps212
  go_wp2_with (first | ((with_reducible refine gate_dst (N := 2) rfl ?_); refine box_event ?hg (N := 2) ?hd (cs := #[.int .u8 ak, .int .i64 ax, .int .i64 ay, .int .i64 aw, .int .i64 ah, .int .i64 aid, .slice A la.length ca]) (t := 26) ?hr ?_; (case hd => rfl); (case hg => rfl); (case hr => (go_simp; done)); intro b2 hg wbb2 hbox hb; have Kb2 := Aside0.mk hbox; have q_ := Aside0.mk (below_step HB.out hb); clear HB; have HB := q_; clear q_; clear hb hbox hg) | ((with_reducible refine gate_dst (N := 3) rfl ?_); refine box_event ?hg (N := 3) ?hd (cs := #[.int .i64 ax, .int .i64 ay, .int .i64 aw, .int .i64 ah]) (t := 23) ?hr ?_; (case hd => rfl); (case hg => rfl); (case hr => (go_simp; done)); intro b3 hg wbb3 hbox hb; have Kb3 := Aside0.mk hbox; have q_ := Aside0.mk (below_step HB.out hb); clear HB; have HB := q_; clear q_; have q2_ := Aside0.mk (blk_below Kb2.out hb); clear Kb2; have Kb2 := q2_; clear q2_; have c0 := (blk_cell Kb2.out 0).trans rfl; have c1 := (blk_cell Kb2.out 1).trans rfl; have c2 := (blk_cell Kb2.out 2).trans rfl; have c3 := (blk_cell Kb2.out 3).trans rfl; have c4 := (blk_cell Kb2.out 4).trans rfl; have c5 := (blk_cell Kb2.out 5).trans rfl; have c6 := (blk_cell Kb2.out 6).trans rfl; have d0 := (blk_cell Kb3.out 0).trans rfl; have d1 := (blk_cell Kb3.out 1).trans rfl; have d2 := (blk_cell Kb3.out 2).trans rfl; have d3 := (blk_cell Kb3.out 3).trans rfl; clear hb hbox hg))
  go_ret
  exact ⟨rfl, HB.out⟩
def oneT (c : S26) (t : List S23 × List S23 × Bool) : Bool := c.f0 == 1 || (t.2.2 && (c.f3.length == t.1.length && eqL (fun k r => rectB k.f1 r) c.f3 t.1))
def linesT (c : S26) (t : List S23 × List S23 × Bool) : List S23 := if c.f0 = 1 then [] else t.2.1
set_option maxHeartbeats 2000000 in
set_option maxRecDepth 100000 in
theorem lines206 (k : Nat) (c : S26) (A : Option Addr) (cc : Nat) (t : List S23 × List S23 × Bool) (w : World) (hr : Kd.C k26 w A c.f3.length c.f3) (hc : c.f3.length ≤ cc) (h : c.f0 ≠ 1 → tile_cut.f k c.f0 c.f1.f0 c.f1.f1 c.f1.f2 c.f1.f3 c.f2 c.f3 = some t) :
    Calls Try.prog 206 #[.agg #[.int .u8 c.f0, .int .i64 c.f1.f0, .int .i64 c.f1.f1, .int .i64 c.f1.f2, .int .i64 c.f1.f3, .int .i64 c.f2, .slice A c.f3.length cc]] w fun e w' => ∃ v : Value, e = .returned (.tuple #[v, .bool (oneT c t)]) ∧ Kd.R k23 23 w' w.heap.size (fun _ => True) v (linesT c t) ∧ Below w.heap.size w w' := by
  have HR := Aside0.mk hr
  have HC := Aside0.mk hc
  have HT := Aside0.mk h
  have HB := Aside0.mk (Below.refl w.heap.size w)
  clear hr hc h
  obtain ⟨ck, ⟨cx, cy, cw, ch⟩, cid, l⟩ := c
  obtain ⟨t1, t2, t3⟩ := t
  simp only [oneT, linesT] at HR HC HT ⊢
  by_cases k1 : ck = 1
  · have k1b : (ck == 1) = true := beq_iff_eq.mpr k1
    simp only [k1b, Bool.true_or, if_pos k1]
    clear k1 HT
    go_enter Try.func206, Try.ntmps206
    go_wp2_with (((with_reducible refine gate_dst (N := 1) rfl ?_); refine box_event ?hg (N := 1) ?hd (cs := #[.int .u8 ck, .int .i64 cx, .int .i64 cy, .int .i64 cw, .int .i64 ch, .int .i64 cid, .slice A l.length cc]) (t := 26) ?hr ?_; (case hd => rfl); (case hg => rfl); (case hr => (go_simp; done)); intro b1 hg wbb1 hbox hb; have Kb1 := Aside0.mk hbox; have q_ := Aside0.mk (below_step HB.out hb); clear HB; have HB := q_; clear q_; have c0 := (blk_cell Kb1.out 0).trans rfl; have c1 := (blk_cell Kb1.out 1).trans rfl; have c2 := (blk_cell Kb1.out 2).trans rfl; have c3 := (blk_cell Kb1.out 3).trans rfl; have c4 := (blk_cell Kb1.out 4).trans rfl; have c5 := (blk_cell Kb1.out 5).trans rfl; have c6 := (blk_cell Kb1.out 6).trans rfl; clear hb hbox hg))
    go_ret2
    exact ⟨_, rfl, Kd.R_nil _ _ _ _ _, HB.out⟩
  · have k1b : (ck == 1) = false := beq_eq_false_iff_ne.mpr k1
    have HT := Aside0.mk (HT.out k1)
    simp only [k1b, Bool.false_or, if_neg k1]
    clear k1
    cases t3 with
    | false =>
      rw [Bool.false_and]
      go_enter Try.func206, Try.ntmps206
      go_wp2_with (((with_reducible refine gate_dst (N := 1) rfl ?_); refine box_event ?hg (N := 1) ?hd (cs := #[.int .u8 ck, .int .i64 cx, .int .i64 cy, .int .i64 cw, .int .i64 ch, .int .i64 cid, .slice A l.length cc]) (t := 26) ?hr ?_; (case hd => rfl); (case hg => rfl); (case hr => (go_simp; done)); intro b1 hg wbb1 hbox hb; have Kb1 := Aside0.mk hbox; have q_ := Aside0.mk (below_step HB.out hb); clear HB; have HB := q_; clear q_; have c0 := (blk_cell Kb1.out 0).trans rfl; have c1 := (blk_cell Kb1.out 1).trans rfl; have c2 := (blk_cell Kb1.out 2).trans rfl; have c3 := (blk_cell Kb1.out 3).trans rfl; have c4 := (blk_cell Kb1.out 4).trans rfl; have c5 := (blk_cell Kb1.out 5).trans rfl; have c6 := (blk_cell Kb1.out 6).trans rfl; clear hb hbox hg))
      clear c0 c1 c2 c3 c4 c5 c6
      refine (tile_cut.calls k ck cx cy cw ch cid A cc l _ _ _ _ (Kd.C_below HR.out HB.out) HC.out HT.out).mono ?_
      rintro e w' ⟨v0, v1, rfl, h0, h1, hb⟩
      have H0 := Aside0.mk h0
      have H1 := Aside0.mk (Kd.R_lower h1 HB.out.size)
      have q1_ := Aside0.mk (blk_below Kb1.out hb)
      clear Kb1
      have Kb1 := q1_
      clear q1_
      have q_ := Aside0.mk (below_step HB.out hb); clear HB; have HB := q_; clear q_
      clear hb h0 h1
      obtain ⟨Ap, cp, ep⟩ := Kd.R_slice H0.out
      subst ep
      have c0 := (blk_cell Kb1.out 0).trans rfl
      have c1 := (blk_cell Kb1.out 1).trans rfl
      have c2 := (blk_cell Kb1.out 2).trans rfl
      have c3 := (blk_cell Kb1.out 3).trans rfl
      have c4 := (blk_cell Kb1.out 4).trans rfl
      have c5 := (blk_cell Kb1.out 5).trans rfl
      have c6 := (blk_cell Kb1.out 6).trans rfl
      go_wp2
      go_ret2
      exact ⟨_, rfl, Kd.R_mono H1.out (fun _ _ => trivial), HB.out⟩
    | true =>
      rw [Bool.true_and]
      go_enter Try.func206, Try.ntmps206
      go_wp2_with (((with_reducible refine gate_dst (N := 1) rfl ?_); refine box_event ?hg (N := 1) ?hd (cs := #[.int .u8 ck, .int .i64 cx, .int .i64 cy, .int .i64 cw, .int .i64 ch, .int .i64 cid, .slice A l.length cc]) (t := 26) ?hr ?_; (case hd => rfl); (case hg => rfl); (case hr => (go_simp; done)); intro b1 hg wbb1 hbox hb; have Kb1 := Aside0.mk hbox; have q_ := Aside0.mk (below_step HB.out hb); clear HB; have HB := q_; clear q_; have c0 := (blk_cell Kb1.out 0).trans rfl; have c1 := (blk_cell Kb1.out 1).trans rfl; have c2 := (blk_cell Kb1.out 2).trans rfl; have c3 := (blk_cell Kb1.out 3).trans rfl; have c4 := (blk_cell Kb1.out 4).trans rfl; have c5 := (blk_cell Kb1.out 5).trans rfl; have c6 := (blk_cell Kb1.out 6).trans rfl; clear hb hbox hg))
      clear c0 c1 c2 c3 c4 c5 c6
      refine (tile_cut.calls k ck cx cy cw ch cid A cc l _ _ _ _ (Kd.C_below HR.out HB.out) HC.out HT.out).mono ?_
      rintro e w' ⟨v0, v1, rfl, h0, h1, hb⟩
      have H0 := Aside0.mk h0
      have H1 := Aside0.mk (Kd.R_lower h1 HB.out.size)
      have q1_ := Aside0.mk (blk_below Kb1.out hb)
      clear Kb1
      have Kb1 := q1_
      clear q1_
      have q_ := Aside0.mk (below_step HB.out hb); clear HB; have HB := q_; clear q_
      clear hb h0 h1
      obtain ⟨Ap, cp, ep⟩ := Kd.R_slice H0.out
      subst ep
      have c0 := (blk_cell Kb1.out 0).trans rfl
      have c1 := (blk_cell Kb1.out 1).trans rfl
      have c2 := (blk_cell Kb1.out 2).trans rfl
      have c3 := (blk_cell Kb1.out 3).trans rfl
      have c4 := (blk_cell Kb1.out 4).trans rfl
      have c5 := (blk_cell Kb1.out 5).trans rfl
      have c6 := (blk_cell Kb1.out 6).trans rfl
      go_wp2_with fail
      refine ((eqf211 (fun k r => rectB k.f1 r) 212 (enters_fn Try.func212 (by decide +kernel) (by kernel_rfl)) l t1 A Ap cc cp _ (Kd.C_below HR.out HB.out) (Kd.R_reads' H0.out).2.2 (fun W x X cx y _ _ _ _ => clo212 _ _ _ _ _ _ _ _ _ _ X x.f3 cx W))).mono ?_
      rintro e ws ⟨rfl, hb⟩
      have q1_ := Aside0.mk (Kd.R_below H1.out hb)
      clear H1
      have H1 := q1_
      have q_ := Aside0.mk (below_step HB.out hb); clear HB; have HB := q_; clear q_
      clear hb q1_
      go_wp2
      go_ret2
      exact ⟨_, rfl, Kd.R_mono H1.out (fun _ _ => trivial), HB.out⟩
end Go.Proofs.Ytfdmfgaiblfbhaa.P
/- What a cell is cut into, and whether a tree tiles: plain data, out of the answer that the code's cut and the reference's share. -/
namespace Go.Proofs.Ytfdmfgaiblfbhaa.P
open Go.RowKit Go.Proofs.YtfdmfgaiblfbhaaW.PrintWords Go.Proofs.YtfdmfgaiblfbhaaW.PrintLast Go.Proofs.YtfdmfgaiblfbhaaW.PrintMore
def axC (k : Int) : Int := (((k - 2) % 256) + 1) % 256
def szK (c k : S26) : Int := if c.f0 = 2 then k.f1.f2 else k.f1.f3
def sizesC (c : S26) : List Int := c.f3.map (szK c)
theorem cut_any (c : S26) : ∃ t : List S23 × List S23 × Bool, c.f3.length ≤ 20000 → (t.1.length ≤ c.f3.length ∧ t.2.1.length ≤ c.f3.length) ∧ ((t.2.2 = true → (axC c.f0 = 1 ∨ axC c.f0 = 2) ∧ t.1 = cutP (axC c.f0) c.f1.f0 c.f1.f1 c.f1.f2 c.f1.f3 0 (sizesC c) ∧ (sizesC c).sum + ((sizesC c).length : Int) - 1 = tX (axC c.f0) c.f1.f2 c.f1.f3 ∧ ∀ m, m ∈ sizesC c → 1 ≤ m)) ∧ Ev (fun k => rect_Cut.f k c.f1.f0 c.f1.f1 c.f1.f2 c.f1.f3 (axC c.f0) (sizesC c)) t ∧ Ev (fun k => sashref04_Cut.f k c.f1.f0 c.f1.f1 c.f1.f2 c.f1.f3 (axC c.f0) (sizesC c)) t := by
  by_cases h : c.f3.length ≤ 20000
  · obtain ⟨t, h1, hg, h2, h3⟩ := Pure.cut_alike c.f1.f0 c.f1.f1 c.f1.f2 c.f1.f3 (axC c.f0) (by unfold axC U8; omega) (sizesC c) (by simpa [sizesC] using h)
    rw [show (sizesC c).length = c.f3.length from by simp [sizesC]] at h1
    exact ⟨t, fun _ => ⟨h1, hg, h2, h3⟩⟩
  · exact ⟨([], [], false), fun h' => absurd h' h⟩
noncomputable def cutT (c : S26) : List S23 × List S23 × Bool := Classical.choose (cut_any c)
theorem cutT_spec (c : S26) (h : c.f3.length ≤ 20000) : ((cutT c).1.length ≤ c.f3.length ∧ (cutT c).2.1.length ≤ c.f3.length) ∧ (((cutT c).2.2 = true → (axC c.f0 = 1 ∨ axC c.f0 = 2) ∧ (cutT c).1 = cutP (axC c.f0) c.f1.f0 c.f1.f1 c.f1.f2 c.f1.f3 0 (sizesC c) ∧ (sizesC c).sum + ((sizesC c).length : Int) - 1 = tX (axC c.f0) c.f1.f2 c.f1.f3 ∧ ∀ m, m ∈ sizesC c → 1 ≤ m)) ∧ Ev (fun k => rect_Cut.f k c.f1.f0 c.f1.f1 c.f1.f2 c.f1.f3 (axC c.f0) (sizesC c)) (cutT c) ∧ Ev (fun k => sashref04_Cut.f k c.f1.f0 c.f1.f1 c.f1.f2 c.f1.f3 (axC c.f0) (sizesC c)) (cutT c) := Classical.choose_spec (cut_any c) h
noncomputable def oneB (c : S26) : Bool := oneT c (cutT c)
noncomputable def linesB (c : S26) : List S23 := linesT c (cutT c)
noncomputable def tilesB (c : S26) : Bool := (allC c).all oneB
theorem linesB_len (c : S26) (h : c.f3.length ≤ 20000) : (linesB c).length ≤ c.f3.length := by
  unfold linesB linesT
  split
  · exact Nat.zero_le _
  · exact (cutT_spec c h).1.2
theorem tilesB_eq (c : S26) : tilesB c = (oneB c && c.f3.all tilesB) := by
  unfold tilesB
  rw [allC_eq, List.all_cons]
  congr 1
  generalize c.f3 = l
  induction l with
  | nil => rw [allL_nil]; rfl
  | cons x xs ih => rw [allL_cons, List.all_append, List.all_cons, ih]
theorem tile_cut_ev (c : S26) (h : c.f3.length ≤ 20000) : Ev (fun k => tile_cut.f k c.f0 c.f1.f0 c.f1.f1 c.f1.f2 c.f1.f3 c.f2 c.f3) (cutT c) := by
  have key : ∀ (rest pre : List S26), pre ++ rest = c.f3 → Ev (fun k => tile_cut.l0 k (pre.map (szK c)) c.f3 (c.f3.length : Int) (pre.length : Int) c.f0 c.f1.f0 c.f1.f1 c.f1.f2 c.f1.f3 c.f2 c.f3) (cutT c) := by
    intro rest
    induction rest with
    | nil =>
      intro pre hp
      rw [List.append_nil] at hp
      subst hp
      refine Ev.step (f := fun k => (rect_Cut.f k c.f1.f0 c.f1.f1 c.f1.f2 c.f1.f3 (axC c.f0) (sizesC c)).bind fun bt => some (bt.1, bt.2.1, bt.2.2)) (fun k => ?_) (Ev.bind (cutT_spec c h).2.2.1 (Ev.now _))
      simp only [tile_cut.l0]
      rw [if_neg (by omega)]
      rfl
    | cons x xs ih =>
      intro pre hp
      have hl : (pre.length : Int) < (c.f3.length : Int) := by rw [← hp, List.length_append, List.length_cons]; omega
      have hr : rd_T26 c.f3 (pre.length : Int) = x := by rw [← hp]; exact rd26_in pre x xs
      have hu : wrap64 ((pre.length : Int) + 1) = ((pre ++ [x]).length : Int) := up_in pre x xs (by rw [hp]; omega)
      have e2 := ih (pre ++ [x]) (by rw [List.append_assoc]; exact hp)
      have hm : (pre ++ [x]).map (szK c) = pre.map (szK c) ++ [szK c x] := by simp
      rw [hm] at e2
      refine Ev.step (fun k => ?_) e2
      simp only [tile_cut.l0]
      rw [if_pos hl, if_pos (by omega), if_pos hl, hr, hu, List.length_map]
      by_cases h2 : c.f0 = 2
      · rw [if_pos h2, if_pos (by omega), show szK c x = x.f1.f2 from if_pos h2]
      · rw [if_neg h2, if_pos (by omega), show szK c x = x.f1.f3 from if_neg h2]
  unfold tile_cut.f
  exact key c.f3 [] rfl
theorem lines_rounds (c : S26) (h : c.f3.length ≤ 20000) : ∃ k, c.f0 ≠ 1 → tile_cut.f k c.f0 c.f1.f0 c.f1.f1 c.f1.f2 c.f1.f3 c.f2 c.f3 = some (cutT c) := by
  obtain ⟨k, hk⟩ := tile_cut_ev c h
  exact ⟨k, fun _ => hk k (Nat.le_refl _)⟩
end Go.Proofs.Ytfdmfgaiblfbhaa.P
/- The walker of package tile: it goes through a tree that may be, and tells whether all its cells tile. -/
namespace Go.Proofs.Ytfdmfgaiblfbhaa.P
open Go.RowKit Go.Proofs.YtfdmfgaiblfbhaaW.PrintWords Go.Proofs.YtfdmfgaiblfbhaaW.PrintLast Go.Proofs.YtfdmfgaiblfbhaaW.PrintMore
set_option linter.unusedVariables false
set_option linter.unusedSimpArgs false
/-- The walker's block, and its row of lines. -/
def WalkI (w0 : World) (gw j : Nat) (W : World) : Prop := Below w0.heap.size w0 W ∧ ∃ (n : Int) (v : Value) (ls : List S23), W.heap[gw]? = some (.cells #[.int .i64 n, v] 182 (0, 0)) ∧ Kd.R k23 23 W w0.heap.size (fun _ => True) v ls ∧ ls.length ≤ j
/-- All blocks but the walker's, and but rows of lines, stay. -/
def Fr (gw : Nat) (W W' : World) : Prop := ∀ k cs t, k ≠ gw → t ≠ 23 → W.heap[k]? = some (.cells cs t (0, 0)) → W'.heap[k]? = some (.cells cs t (0, 0))
theorem Fr.refl (gw : Nat) (W : World) : Fr gw W W := fun _ _ _ _ _ h => h
theorem Fr.trans {gw : Nat} {W W1 W2 : World} (h : Fr gw W W1) (k : Fr gw W1 W2) : Fr gw W W2 := fun i cs t hi ht hb => k i cs t hi ht (h i cs t hi ht hb)
theorem Fr.below {gw : Nat} {W W1 : World} (h : Below W.heap.size W W1) : Fr gw W W1 := fun _ _ _ _ _ hb => blk_below hb h
theorem Fr.store {gw : Nat} {W W1 : World} (h : W.grownBy W1 (some gw)) : Fr gw W W1 := fun _ _ _ hi _ hb => blk_grown hb h (fun e => absurd (Option.some.inj e) hi)
theorem Fr.append {gw base : Nat} {W W1 : World} {v : Value} {xs : List S23} {ok : Nat → Prop} (hv : Kd.R k23 23 W base ok v xs) (h : W.grownBy W1 v.ownBlock) : Fr gw W W1 := fun _ _ _ _ ht hb => blk_grown hb h (Kd.R_ne hv hb (fun e => ht e.symm))
theorem WalkI.below {w0 W W1 : World} {gw j : Nat} (h : WalkI w0 gw j W) (hb : Below W.heap.size W W1) : WalkI w0 gw j W1 := by
  obtain ⟨h1, n, v, ls, h2, h3, h4⟩ := h
  exact ⟨below_step h1 hb, n, v, ls, blk_below h2 hb, Kd.R_below h3 hb, h4⟩
theorem WalkI.mono {w0 W : World} {gw j j' : Nat} (h : WalkI w0 gw j W) (hj : j ≤ j') : WalkI w0 gw j' W := by
  obtain ⟨h1, n, v, ls, h2, h3, h4⟩ := h
  exact ⟨h1, n, v, ls, h2, h3, Nat.le_trans h4 hj⟩
set_option maxHeartbeats 1000000 in
theorem clo207 (x : S26) (B : Option Addr) (cb b3 gw : Nat) (r : Bool) (R : World → Prop) (W : World) (hk : W.heap[b3]? = some (.cells #[.pointer (some ⟨gw, 0, none⟩)] 180 (0, 0)))
    (h : ∀ W1, Below W.heap.size W W1 → Calls Try.prog 197 #[.pointer (some ⟨gw, 0, none⟩), .agg #[.int .u8 x.f0, .int .i64 x.f1.f0, .int .i64 x.f1.f1, .int .i64 x.f1.f2, .int .i64 x.f1.f3, .int .i64 x.f2, .slice B x.f3.length cb]] W1 fun e w' => e = .returned (.bool r) ∧ R w') :
    Calls Try.prog 207 (#[.agg #[.int .u8 x.f0, .int .i64 x.f1.f0, .int .i64 x.f1.f1, .int .i64 x.f1.f2, .int .i64 x.f1.f3, .int .i64 x.f2, .slice B x.f3.length cb]] ++ #[.pointer (some ⟨b3, 0, none⟩)]) W fun e w' => e = .returned (.bool (!r)) ∧ R w' := by
  have HK := Aside0.mk hk
  have H := Aside0.mk h
  clear hk h
  simp only [List.append_toArray, List.cons_append, List.nil_append]
  cases r
  all_goals
    go_enter Try.func207, Try.ntmps207
    go_wp2_with (((with_reducible refine gate_dst (N := 2) rfl ?_); refine box_event ?hg (N := 2) ?hd (cs := #[.int .u8 x.f0, .int .i64 x.f1.f0, .int .i64 x.f1.f1, .int .i64 x.f1.f2, .int .i64 x.f1.f3, .int .i64 x.f2, .slice B x.f3.length cb]) (t := 26) ?hr ?_; (case hd => rfl); (case hg => rfl); (case hr => (go_simp; done)); intro b2 hg wb2 hbox hb; have Kb2 := Aside0.mk hbox; have HB := Aside0.mk hb; have K3 := Aside0.mk (blk_below HK.out hb); have d0 := (blk_cell K3.out 0).trans rfl; have c0 := (blk_cell Kb2.out 0).trans rfl; have c1 := (blk_cell Kb2.out 1).trans rfl; have c2 := (blk_cell Kb2.out 2).trans rfl; have c3 := (blk_cell Kb2.out 3).trans rfl; have c4 := (blk_cell Kb2.out 4).trans rfl; have c5 := (blk_cell Kb2.out 5).trans rfl; have c6 := (blk_cell Kb2.out 6).trans rfl; clear hb hbox hg))
    clear c0 c1 c2 c3 c4 c5 c6 d0
    refine (H.out _ HB.out).mono ?_
    rintro e w' ⟨rfl, hR⟩
    have HR := Aside0.mk hR
    clear hR
    go_wp2
    go_ret
    exact ⟨rfl, HR.out⟩

def tile_walk.T5 : Bool × List (List Nat × List Nat) := (true, [([], []), ([], []), ([1], [1]), ([2], [2]), ([3], [3]), ([], []), ([4, 5], [4, 5]), ([0, 0, 1, 2, 3, 4, 5, 6], [0]), ([7, 0, 1, 2, 3, 4, 5, 6], [7]), ([8, 6, 6, 0, 1, 2, 3, 4, 5, 6], [6, 8])])
def tile_walk.B5 : List Nat := [0, 0, 2, 6, 14, 0, 62, 127, 255, 511]
theorem tile_walk.tab5 : rtab .any (opsOf Try.f197 5) = tile_walk.T5 := by kernel_rfl
theorem tile_walk.bits5 : waitsOk tile_walk.T5.2 tile_walk.B5 = true := by kernel_rfl
set_option maxHeartbeats 4000000 in
set_option maxRecDepth 100000 in
theorem walk197 (w0 : World) (gw : Nat) (hgw : w0.heap.size ≤ gw) : ∀ (N : Nat) (c : S26), sz c ≤ N → N ≤ 20000 → ∀ (A : Option Addr) (cc : Nat), Kd.C k26 w0 A c.f3.length c.f3 → c.f3.length ≤ cc → ∀ (j : Nat) (W : World), j + szL c.f3 ≤ 1000000 → WalkI w0 gw j W →
    Calls Try.prog 197 #[.pointer (some ⟨gw, 0, none⟩), .agg #[.int .u8 c.f0, .int .i64 c.f1.f0, .int .i64 c.f1.f1, .int .i64 c.f1.f2, .int .i64 c.f1.f3, .int .i64 c.f2, .slice A c.f3.length cc]] W fun e w' => e = .returned (.bool (tilesB c)) ∧ WalkI w0 gw (j + szL c.f3) w' ∧ Fr gw W w' := by
  intro N
  induction N with
  | zero => intro c h; rw [sz_eq] at h; omega
  | succ N ih =>
    intro c hc hN A cc hr hlc j W hj hI
    have hsz := sz_eq c
    have hlen := szL_len c.f3
    have hKids : ∀ (b2 j1 : Nat) (W1 : World), b2 ≠ gw → W1.heap[b2]? = some (.cells #[.pointer (some ⟨gw, 0, none⟩)] 180 (0, 0)) → WalkI w0 gw j1 W1 → j1 ≤ j + c.f3.length →
        Calls Try.prog 174 #[.slice A c.f3.length cc, .func (.func 207) #[] #[.pointer (some ⟨b2, 0, none⟩)]] W1 fun e w' => e = .returned (.bool (!(c.f3.all tilesB))) ∧ WalkI w0 gw (j + szL c.f3) w' ∧ Fr gw W1 w' := by
      intro b2 j1 W1 hne hk hi hj1
      have hcon := cons174 (fun rest w' => (∃ i, WalkI w0 gw i w' ∧ i + szL rest ≤ (j + szL c.f3) + rest.length) ∧ Fr gw W1 w') (fun x => !tilesB x) 207 #[.pointer (some ⟨b2, 0, none⟩)] (enters_fn Try.func207 (by decide +kernel) (by kernel_rfl)) c.f3 A cc w0 hr
        (fun s w' h => by obtain ⟨⟨i, h1, _⟩, _⟩ := h; exact h1.1)
        (fun s w' n h => by obtain ⟨⟨i, h1, h2⟩, h3⟩ := h; exact ⟨⟨i, h1.below (pw_below_drewN (Below.refl _ _) n), h2⟩, h3.trans (Fr.below (pw_below_drewN (Below.refl _ _) n))⟩)
        (fun x rest w' B cb hx hp h hCx hlx => by
          obtain ⟨⟨i, h1, h2⟩, h3⟩ := h
          obtain ⟨pre, hp⟩ := hp
          have e1 : szL c.f3 = szL pre + (sz x + szL rest) := by rw [← hp, szL_app, szL_cons]
          have e2 := sz_eq x
          have e3 := szL_len rest
          have e4 := szL_len pre
          rw [szL_cons, List.length_cons] at h2
          refine (clo207 x B cb b2 gw (tilesB x) (fun w'' => WalkI w0 gw (i + szL x.f3) w'' ∧ Fr gw W1 w'') w' (h3 b2 _ 180 hne (by decide) hk) (fun W2 hb2 => ?_)).mono ?_
          · refine (ih x (by omega) (by omega) B cb hCx hlx i W2 (by omega) (h1.below hb2)).mono ?_
            rintro e w'' ⟨he, hi2, hf⟩
            exact ⟨he, hi2, h3.trans ((Fr.below hb2).trans hf)⟩
          · rintro e w'' ⟨he, hi2, hf⟩
            refine ⟨he, ⟨⟨i + szL x.f3, hi2, ?_⟩, hf⟩⟩
            split
            · rw [szL_nil]; show _ ≤ _ + 0; omega
            · omega)
        W1 ⟨⟨j1, hi, by omega⟩, Fr.refl gw W1⟩ hr.2.1
      refine hcon.mono ?_
      rintro e w' ⟨he, ⟨i, h1, h2⟩, h3⟩
      rw [szL_nil] at h2
      refine ⟨?_, h1.mono (by simpa using h2), h3⟩
      rw [he, List.not_all_eq_any_not]
    have hone : c.f3.length ≤ 20000 := by omega
    obtain ⟨k0, hk0⟩ := lines_rounds c hone
    have hll := linesB_len c hone
    have hL : ∀ W1, Below w0.heap.size w0 W1 → Calls Try.prog 206 #[.agg #[.int .u8 c.f0, .int .i64 c.f1.f0, .int .i64 c.f1.f1, .int .i64 c.f1.f2, .int .i64 c.f1.f3, .int .i64 c.f2, .slice A c.f3.length cc]] W1 fun e w' => ∃ v : Value, e = .returned (.tuple #[v, .bool (oneB c)]) ∧ Kd.R k23 23 w' W1.heap.size (fun _ => True) v (linesB c) ∧ Below W1.heap.size W1 w' := fun W1 hb => lines206 k0 c A cc (cutT c) W1 (Kd.C_below hr hb) hlc hk0
    rw [tilesB_eq]
    obtain ⟨hB, n, v, ls, hK, hV, hls⟩ := hI
    obtain ⟨Av, cv, ev⟩ := Kd.R_slice hV
    subst ev
    have HB := Aside0.mk hB
    have KW := Aside0.mk hK
    have RV := Aside0.mk hV
    have FR := Aside0.mk (Fr.refl gw W)
    have HGW := Aside0.mk hgw
    have HKids := Aside0.mk hKids
    have HL := Aside0.mk hL
    have HLS := Aside0.mk hls
    have HLL := Aside0.mk hll
    have HJ := Aside0.mk hj
    have HN := Aside0.mk hlen
    clear hB hK hV hKids hL hls hll hj hlen hone hk0 hsz ih hr hlc hc hN
    obtain ⟨ck, ⟨cx, cy, cw, ch⟩, cid, l⟩ := c
    simp only [] at HKids HL HLL HJ HN ⊢
    generalize oneB ⟨ck, ⟨cx, cy, cw, ch⟩, cid, l⟩ = q at HL ⊢
    generalize linesB ⟨ck, ⟨cx, cy, cw, ch⟩, cid, l⟩ = us at HL HLL
    generalize l.all tilesB = p at HKids ⊢
    cases q with
    | false =>
      rw [Bool.false_and]
      go_enter Try.func197, Try.ntmps197
      go_wp2_with (first | ((with_reducible refine gate_dst (N := 2) rfl ?_); refine box_event ?hg (N := 2) ?hd (cs := #[.pointer (some ⟨gw, 0, none⟩)]) (t := 180) ?hr ?_; (case hd => rfl); (case hg => rfl); (case hr => (go_simp; done)); intro b2 hg wb2 hbox hb; have Kb2 := Aside0.mk hbox; have NE2 := Aside0.mk (show b2 ≠ gw by rw [hg]; exact Nat.ne_of_gt (blk_lt KW.out)); have q_HB := Aside0.mk (below_step HB.out hb); have q_KW := Aside0.mk (blk_below KW.out hb); have q_RV := Aside0.mk (Kd.R_below RV.out hb); have q_FR := Aside0.mk (FR.out.trans (Fr.below hb)); clear HB KW RV FR; have HB := q_HB; have KW := q_KW; have RV := q_RV; have FR := q_FR; clear q_HB q_KW q_RV q_FR; clear hb hbox hg) | ((with_reducible refine gate_dst (N := 3) rfl ?_); refine box_event ?hg (N := 3) ?hd (cs := #[.int .u8 ck, .int .i64 cx, .int .i64 cy, .int .i64 cw, .int .i64 ch, .int .i64 cid, .slice A l.length cc]) (t := 26) ?hr ?_; (case hd => rfl); (case hg => rfl); (case hr => (go_simp; done)); intro b3 hg wb3 hbox hb; have Kb3 := Aside0.mk hbox; have NE3 := Aside0.mk (show b3 ≠ gw by rw [hg]; exact Nat.ne_of_gt (blk_lt KW.out)); have q_HB := Aside0.mk (below_step HB.out hb); have q_KW := Aside0.mk (blk_below KW.out hb); have q_RV := Aside0.mk (Kd.R_below RV.out hb); have q_FR := Aside0.mk (FR.out.trans (Fr.below hb)); have q_Kb2 := Aside0.mk (blk_below Kb2.out hb); clear HB KW RV FR Kb2; have HB := q_HB; have KW := q_KW; have RV := q_RV; have FR := q_FR; have Kb2 := q_Kb2; clear q_HB q_KW q_RV q_FR q_Kb2; have c0 := (blk_cell Kb3.out 0).trans rfl; have c1 := (blk_cell Kb3.out 1).trans rfl; have c2 := (blk_cell Kb3.out 2).trans rfl; have c3 := (blk_cell Kb3.out 3).trans rfl; have c4 := (blk_cell Kb3.out 4).trans rfl; have c5 := (blk_cell Kb3.out 5).trans rfl; have c6 := (blk_cell Kb3.out 6).trans rfl; clear hb hbox hg))
      clear c0 c1 c2 c3 c4 c5 c6
      refine (HL.out _ HB.out).mono ?_
      rintro e w1 ⟨u, rfl, hu, hb⟩
      have HU := Aside0.mk (Kd.R_lower hu HB.out.size)
      clear hu
      have q_HB := Aside0.mk (below_step HB.out hb); have q_KW := Aside0.mk (blk_below KW.out hb); have q_RV := Aside0.mk (Kd.R_below RV.out hb); have q_FR := Aside0.mk (FR.out.trans (Fr.below hb)); have q_Kb2 := Aside0.mk (blk_below Kb2.out hb); have q_Kb3 := Aside0.mk (blk_below Kb3.out hb); clear HB KW RV FR Kb2 Kb3; have HB := q_HB; have KW := q_KW; have RV := q_RV; have FR := q_FR; have Kb2 := q_Kb2; have Kb3 := q_Kb3; clear q_HB q_KW q_RV q_FR q_Kb2 q_Kb3
      clear hb
      obtain ⟨Au, cu, eu⟩ := Kd.R_slice HU.out
      subst eu
      go_wp2
      go_ret
      exact ⟨rfl, ⟨HB.out, n, _, ls, KW.out, RV.out, by have := HLS.out; omega⟩, FR.out⟩
    | true =>
      rw [Bool.true_and]
      go_enter Try.func197, Try.ntmps197
      go_wp2_with (first | ((with_reducible refine gate_dst (N := 2) rfl ?_); refine box_event ?hg (N := 2) ?hd (cs := #[.pointer (some ⟨gw, 0, none⟩)]) (t := 180) ?hr ?_; (case hd => rfl); (case hg => rfl); (case hr => (go_simp; done)); intro b2 hg wb2 hbox hb; have Kb2 := Aside0.mk hbox; have NE2 := Aside0.mk (show b2 ≠ gw by rw [hg]; exact Nat.ne_of_gt (blk_lt KW.out)); have q_HB := Aside0.mk (below_step HB.out hb); have q_KW := Aside0.mk (blk_below KW.out hb); have q_RV := Aside0.mk (Kd.R_below RV.out hb); have q_FR := Aside0.mk (FR.out.trans (Fr.below hb)); clear HB KW RV FR; have HB := q_HB; have KW := q_KW; have RV := q_RV; have FR := q_FR; clear q_HB q_KW q_RV q_FR; clear hb hbox hg) | ((with_reducible refine gate_dst (N := 3) rfl ?_); refine box_event ?hg (N := 3) ?hd (cs := #[.int .u8 ck, .int .i64 cx, .int .i64 cy, .int .i64 cw, .int .i64 ch, .int .i64 cid, .slice A l.length cc]) (t := 26) ?hr ?_; (case hd => rfl); (case hg => rfl); (case hr => (go_simp; done)); intro b3 hg wb3 hbox hb; have Kb3 := Aside0.mk hbox; have NE3 := Aside0.mk (show b3 ≠ gw by rw [hg]; exact Nat.ne_of_gt (blk_lt KW.out)); have q_HB := Aside0.mk (below_step HB.out hb); have q_KW := Aside0.mk (blk_below KW.out hb); have q_RV := Aside0.mk (Kd.R_below RV.out hb); have q_FR := Aside0.mk (FR.out.trans (Fr.below hb)); have q_Kb2 := Aside0.mk (blk_below Kb2.out hb); clear HB KW RV FR Kb2; have HB := q_HB; have KW := q_KW; have RV := q_RV; have FR := q_FR; have Kb2 := q_Kb2; clear q_HB q_KW q_RV q_FR q_Kb2; have c0 := (blk_cell Kb3.out 0).trans rfl; have c1 := (blk_cell Kb3.out 1).trans rfl; have c2 := (blk_cell Kb3.out 2).trans rfl; have c3 := (blk_cell Kb3.out 3).trans rfl; have c4 := (blk_cell Kb3.out 4).trans rfl; have c5 := (blk_cell Kb3.out 5).trans rfl; have c6 := (blk_cell Kb3.out 6).trans rfl; clear hb hbox hg))
      clear c0 c1 c2 c3 c4 c5 c6
      refine (HL.out _ HB.out).mono ?_
      rintro e w1 ⟨u, rfl, hu, hb⟩
      have HU := Aside0.mk (Kd.R_lower hu HB.out.size)
      clear hu
      have q_HB := Aside0.mk (below_step HB.out hb); have q_KW := Aside0.mk (blk_below KW.out hb); have q_RV := Aside0.mk (Kd.R_below RV.out hb); have q_FR := Aside0.mk (FR.out.trans (Fr.below hb)); have q_Kb2 := Aside0.mk (blk_below Kb2.out hb); have q_Kb3 := Aside0.mk (blk_below Kb3.out hb); clear HB KW RV FR Kb2 Kb3; have HB := q_HB; have KW := q_KW; have RV := q_RV; have FR := q_FR; have Kb2 := q_Kb2; have Kb3 := q_Kb3; clear q_HB q_KW q_RV q_FR q_Kb2 q_Kb3
      clear hb
      obtain ⟨Au, cu, eu⟩ := Kd.R_slice HU.out
      subst eu
      have d0 := (blk_cell Kb2.out 0).trans rfl
      have e0 := (blk_cell KW.out 0).trans rfl
      have e1 := (blk_cell KW.out 1).trans rfl
      go_wp2_with (((with_reducible refine gate_ (.store 3 (.tmp 20) (.tmp 18)) rfl ?_); go_loud (refine box_store (w0 := w0) rfl rfl 3 (.tmp 20) (.tmp 18) rfl (g := gw) (j := 0) (base := w0.heap.size) #[.int .i64 (wrap64 (n + 1)), .slice Av ls.length cv] (u := .int .i64 (wrap64 (n + 1))) (seg := [.int .i64 (wrap64 (n + 1))]) ?sA ?sX rfl ?sT ?s1 KW.out ?sJ rfl HB.out HB.out.size HGW.out ?_; (case sA => rfl); (case sX => rfl); (case sT => rfl); (case s1 => (simp [Value.oneCell'])); (case sJ => (simp)); intro ws hbk hbb hgg; have q_RV := Aside0.mk (Kd.R_grown2 RV.out rfl hgg (fun k_ hk => hk ▸ Kd.R_ne RV.out KW.out (by decide))); have q_HU := Aside0.mk (Kd.R_grown2 HU.out rfl hgg (fun k_ hk => hk ▸ Kd.R_ne HU.out KW.out (by decide))); have q_FR := Aside0.mk (FR.out.trans (Fr.store hgg)); have q_Kb2 := Aside0.mk (blk_grown Kb2.out hgg (fun e_ => absurd (Option.some.inj e_) NE2.out)); have q_Kb3 := Aside0.mk (blk_grown Kb3.out hgg (fun e_ => absurd (Option.some.inj e_) NE3.out)); clear RV HU FR Kb2 Kb3; have RV := q_RV; have HU := q_HU; have FR := q_FR; have Kb2 := q_Kb2; have Kb3 := q_Kb3; clear q_RV q_HU q_FR q_Kb2 q_Kb3; clear KW HB d0 e0 e1; have KW := Aside0.mk hbk; have HB := Aside0.mk hbb; clear hbk hbb hgg)))
      have hb : Below ws.heap.size ws ws.drew := below_drew (Below.refl _ _)
      have q_HB := Aside0.mk (below_step HB.out hb); have q_KW := Aside0.mk (blk_below KW.out hb); have q_RV := Aside0.mk (Kd.R_below RV.out hb); have q_FR := Aside0.mk (FR.out.trans (Fr.below hb)); have q_Kb2 := Aside0.mk (blk_below Kb2.out hb); have q_Kb3 := Aside0.mk (blk_below Kb3.out hb); have q_HU := Aside0.mk (Kd.R_below HU.out hb); clear HB KW RV FR Kb2 Kb3 HU; have HB := q_HB; have KW := q_KW; have RV := q_RV; have FR := q_FR; have Kb2 := q_Kb2; have Kb3 := q_Kb3; have HU := q_HU; clear q_HB q_KW q_RV q_FR q_Kb2 q_Kb3 q_HU
      clear hb
      refine start_ (n := 10) (S := fun w' => Below w0.heap.size w0 w' ∧ w'.heap[b2]? = some (.cells #[.pointer (some ⟨gw, 0, none⟩)] 180 (0, 0)) ∧ w'.heap[gw]? = some (.cells #[.int .i64 (wrap64 (n + 1)), .slice Av ls.length cv] 182 (0, 0))) (ds := [9]) #[false, false, false, false, false, false, false, false, false, false] (by kernel_rfl) rfl rfl ⟨HB.out, Kb2.out, KW.out⟩ (fun hHeld => ?_); refine with_tabW tile_walk.tab5 tile_walk.bits5 (fun HT_ HW_ => ?_)
      generalize ws.drew = wd at HB KW RV FR Kb2 Kb3 HU hHeld ⊢
      refine take_ (i := 0) (N := some 21) (v := ?_) (a' := ?_) #[true, false, false, false, false, false, false, false, false, false] rfl rfl (take_ofW HT_.out HW_.out (by kernel_rfl)) (fun _ _ _ h => h) (Or.inl ⟨by rfl, ?_⟩) hHeld ?_ ?_
      rotate_left
      · intro w' hs_
        have c := (blk_cell hs_.2.1 0).trans rfl
        go_simp; with_reducible rfl
      rotate_left
      · simp only [Act.put, List.setIfInBounds_toArray, List.set_cons_zero, List.set_cons_succ, i64_w, i32_w]
        rfl
      refine take_ (i := 1) (N := some 22) (v := ?_) (a' := ?_) #[true, true, false, false, false, false, false, false, false, false] rfl rfl (take_ofW HT_.out HW_.out (by kernel_rfl)) (fun _ _ _ h => h) (Or.inl ⟨by rfl, ?_⟩) hHeld ?_ ?_
      rotate_left
      · intro w' hs_
        have c := (blk_cell hs_.2.1 0).trans rfl
        go_simp; with_reducible rfl
      rotate_left
      · simp only [Act.put, List.setIfInBounds_toArray, List.set_cons_zero, List.set_cons_succ, i64_w, i32_w]
        rfl
      refine pure_ (i := 2) (N := some 23) (v := ?_) (a' := ?_) #[true, true, true, false, false, false, false, false, false, false] rfl rfl (any_of HT_.out (by kernel_rfl)) (fun _ _ _ h => h) (Or.inl ⟨by rfl, ?_⟩) ?_ ?_
      rotate_left
      · intro w'; go_simp; with_reducible rfl
      rotate_left
      · simp only [Act.put, List.setIfInBounds_toArray, List.set_cons_zero, List.set_cons_succ, i64_w, i32_w]
        rfl
      refine pure_ (i := 3) (N := some 24) (v := ?_) (a' := ?_) #[true, true, true, true, false, false, false, false, false, false] rfl rfl (any_of HT_.out (by kernel_rfl)) (fun _ _ _ h => h) (Or.inl ⟨by rfl, ?_⟩) ?_ ?_
      rotate_left
      · intro w'; go_simp; with_reducible rfl
      rotate_left
      · simp only [Act.put, List.setIfInBounds_toArray, List.set_cons_zero, List.set_cons_succ, i64_w, i32_w]
        rfl
      refine take_ (i := 4) (N := some 25) (v := ?_) (a' := ?_) #[true, true, true, true, true, false, false, false, false, false] rfl rfl (take_ofW HT_.out HW_.out (by kernel_rfl)) (fun _ _ _ h => h) (Or.inl ⟨by rfl, ?_⟩) hHeld ?_ ?_
      rotate_left
      · intro w' hs_
        have c := (blk_cell hs_.2.2 1).trans rfl
        go_simp; with_reducible rfl
      rotate_left
      · simp only [Act.put, List.setIfInBounds_toArray, List.set_cons_zero, List.set_cons_succ, i64_w, i32_w]
        rfl
      refine pure_ (i := 5) (N := some 26) (v := ?_) (a' := ?_) #[true, true, true, true, true, true, false, false, false, false] rfl rfl (any_of HT_.out (by kernel_rfl)) (fun _ _ _ h => h) (Or.inl ⟨by rfl, ?_⟩) ?_ ?_
      rotate_left
      · intro w'; go_simp; with_reducible rfl
      rotate_left
      · simp only [Act.put, List.setIfInBounds_toArray, List.set_cons_zero, List.set_cons_succ, i64_w, i32_w]
        rfl
      refine one_ (i := 6) (N := some 27) #[true, true, true, true, true, true, true, false, false, false] rfl rfl (one_of HT_.out (by kernel_rfl)) (by decide) (fun K hK => ?_)
      refine Kd.R_append_rows_step k23 (w0 := w0) w0.heap.size (by rfl) (.tmp 25) (.tmp 26) 42 23 (.agg #[(.int .i64 0), (.int .i64 0), (.int .i64 0), (.int .i64 0)]) 32 rfl Try.underlying42 info23 rfl (by decide) (by omega) (.slice Av ls.length cv) ls us Au us.length cu (fun _ => True) (fun _ => False) rfl rfl RV.out (Kd.R_reads' HU.out).2.2 (fun _ _ h => h) (fun _ h => h.elim) (fun _ _ => trivial) HB.out HB.out.size (by have h1 := HLS.out; have h2 := HLL.out; have h3 := HJ.out; have h4 := HN.out; omega) ?_
      intro v1 wk ho hb hg hat
      have q1 := Aside0.mk (FR.out.trans (Fr.append RV.out hg))
      have q2 := Aside0.mk (blk_grown Kb2.out hg (Kd.R_ne RV.out Kb2.out (by decide)))
      have q3 := Aside0.mk (blk_grown Kb3.out hg (Kd.R_ne RV.out Kb3.out (by decide)))
      have q4 := Aside0.mk (blk_grown KW.out hg (Kd.R_ne RV.out KW.out (by decide)))
      clear FR Kb2 Kb3 KW HB RV HU
      have FR := q1
      have Kb2 := q2
      have Kb3 := q3
      have KW := q4
      have HB := Aside0.mk hb
      have RV := Aside0.mk ho
      clear q1 q2 q3 q4 hb ho hg hat
      obtain ⟨A1, c1, e1⟩ := Kd.R_slice RV.out
      subst e1
      refine hK.out _ _ ⟨HB.out, Kb2.out, KW.out⟩ (fun hHeld => ?_)
      clear hK K
      refine norm_ (a' := ?_) ?_ ?_
      rotate_left
      · show Act.put _ (some 27) _ = _
        simp only [Act.put, List.setIfInBounds_toArray, List.set_cons_zero, List.set_cons_succ, i64_w, i32_w]
        rfl
      refine pure_ (i := 7) (N := some 28) (v := ?_) (a' := ?_) #[true, true, true, true, true, true, true, true, false, false] rfl rfl (any_of HT_.out (by kernel_rfl)) (fun _ _ _ h => h) (Or.inl ⟨by rfl, ?_⟩) ?_ ?_
      rotate_left
      · intro w'; go_simp; with_reducible rfl
      rotate_left
      · simp only [Act.put, List.setIfInBounds_toArray, List.set_cons_zero, List.set_cons_succ, i64_w, i32_w]
        rfl
      refine pure_ (i := 8) (N := some 29) (v := ?_) (a' := ?_) #[true, true, true, true, true, true, true, true, true, false] rfl rfl (any_of HT_.out (by kernel_rfl)) (fun _ _ _ h => h) (Or.inl ⟨by rfl, ?_⟩) ?_ ?_
      rotate_left
      · intro w'; go_simp; with_reducible rfl
      rotate_left
      · simp only [Act.put, List.setIfInBounds_toArray, List.set_cons_zero, List.set_cons_succ, i64_w, i32_w]
        rfl
      refine last_ (i := 9) (N := none) #[true, true, true, true, true, true, true, true, true, true] rfl rfl (one_of HT_.out (by kernel_rfl)) (by decide) (fun K hK => ?_)
      obtain ⟨w9, hw9⟩ : ∃ w9, w9 = wk.setCells gw 1 [.slice A1 (ls ++ us).length c1] := ⟨_, rfl⟩
      have hst := box_cells (j := 1) (cs' := #[.int .i64 (wrap64 (n + 1)), .slice A1 (ls ++ us).length c1]) (seg := [.slice A1 (ls ++ us).length c1]) KW.out (by simp) rfl
      rw [← hw9] at hst
      refine skip_ (w1 := w9) (by rfl) rfl ?_ ?_
      · rw [hw9]; exact store_exec 42 (.tmp 29) (.tmp 27) rfl (cs := #[.int .i64 (wrap64 (n + 1)), .slice Av ls.length cv]) (t0 := 182) (seg := [.slice A1 (ls ++ us).length c1]) rfl rfl rfl (by kernel_rfl) (by simp [Value.oneCell']) KW.out (by simp)
      have HB9 := Aside0.mk (grown_below HB.out hst.2 HGW.out HB.out.size)
      have RV9 := Aside0.mk (Kd.R_grown2 RV.out rfl hst.2 (fun k_ hk => hk ▸ Kd.R_ne RV.out KW.out (by decide)))
      have FR9 := Aside0.mk (FR.out.trans (Fr.store hst.2))
      have K29 := Aside0.mk (blk_grown Kb2.out hst.2 (fun e_ => absurd (Option.some.inj e_) NE2.out))
      have K39 := Aside0.mk (blk_grown Kb3.out hst.2 (fun e_ => absurd (Option.some.inj e_) NE3.out))
      have KW9 := Aside0.mk hst.1
      clear hst
      refine hK.out _ _ ?_
      clear hK K hw9
      refine done_ (done_of HT_.out (by kernel_rfl)) ?_
      have c6 := (blk_cell K39.out 6).trans rfl
      cases p
      all_goals
        go_wp2_with fail
        refine (HKids.out b2 (j + us.length) _ NE2.out K29.out ⟨HB9.out, _, _, _, KW9.out, RV9.out, by have := HLS.out; rw [List.length_append]; omega⟩ (by have := HLL.out; omega)).mono ?_
        rintro e w2 ⟨rfl, hi, hf⟩
        have HI := Aside0.mk hi
        have HF := Aside0.mk (FR9.out.trans hf)
        clear hi hf
        go_wp2
        go_ret
        exact ⟨rfl, HI.out, HF.out⟩
end Go.Proofs.Ytfdmfgaiblfbhaa.P
/- fault.New, fault.In, and slices.Clone at strings, as package tile calls them: an error comes back. -/
namespace Go.Proofs.Ytfdmfgaiblfbhaa.P
open Go.RowKit Go.Proofs.YtfdmfgaiblfbhaaW.PrintWords Go.Proofs.YtfdmfgaiblfbhaaW.PrintLast Go.Proofs.YtfdmfgaiblfbhaaW.PrintMore
set_option linter.unusedVariables false
set_option linter.unusedSimpArgs false
theorem info9s : (Try.prog.info? 9).map (fun i => (i.zero, i.size, i.bytes)) = some (some (.string ⟨#[]⟩), 1, 16) := by kernel_rfl
set_option maxHeartbeats 1000000 in
theorem new196 (e at_ : Int) (he : e ≠ 0) (w : World) : Calls Try.prog 196 #[.int .i64 e, .int .i64 at_] w fun x w' => (∃ t v, x = .returned (.iface t v)) ∧ Below w.heap.size w w' := by
  have hb : (e == 0) = false := beq_eq_false_iff_ne.mpr he
  clear he
  go_enter Try.func196, Try.ntmps196
  go_wp2
  go_ret
  exact ⟨⟨_, _, rfl⟩, below_alloc (Below.refl _ _) _⟩
set_option maxHeartbeats 2000000 in
set_option maxRecDepth 100000 in
theorem clone205 (ad : Addr) (c0 : Nat) (l0 : List ByteArray) (hl : l0.length ≤ 1000) (w : World) (hr0 : Kd.C Kd.string w (some ad) l0.length l0) (hc0 : l0.length ≤ c0) :
    Calls Try.prog 205 #[.slice (some ad) l0.length c0] w fun e w' => ∃ A n c, e = .returned (.slice A n c) ∧ Below w.heap.size w w' := by
  have heq : ∀ W : World, (binOp .eql 190 (.slice (some ad) l0.length c0) (.slice none 0 0)).run Try.prog W = .ok (.bool false) W := fun W => Lib.run_eql_slice_nil W 190 9 (some ad) l0.length c0 0 0 Try.underlying190
  have HR := Aside0.mk hr0
  have HL := Aside0.mk hl
  clear hl hr0
  go_enter Try.func205, Try.ntmps205
  go_wp2_with (first | ((with_reducible refine gate_dst (N := 5) rfl ?_); refine Kd.R_lit Kd.string w.heap.size 9 ?hg (N := 5) ?hd (xs := ([] : List ByteArray)) (inner := []) (ok := fun _ => True) (okp := fun _ => True) ?hr ?hp (fun _ hk => hk) trivial (Below.refl _ _) (Nat.le_refl _) (by simp) ?_; (case hd => rfl); (case hg => rfl); (case hr => (go_simp; done)); (case hp => exact Reps.none _ _); intro v5 w5 ho hb hg_ hnew_; clear hg_ hnew_; have HO := Aside0.mk ho; have HB := Aside0.mk hb; clear ho hb; obtain ⟨Ao, co, eo⟩ := Kd.R_slice HO.out; subst eo) | ((with_reducible refine gate_builtin (b := .append) (xs := #[.tmp 5, .tmp 6]) rfl ?_); at_builtin; refine Kd.R_append_rows (Rr := Kd.string.K w) Kd.string (w0 := w) w.heap.size rfl (.tmp 5) (.tmp 6) 190 9 (.string ⟨#[]⟩) 16 rfl Try.underlying190 info9s rfl (by decide) (by omega) (.slice Ao ([] : List ByteArray).length co) ([] : List ByteArray) l0 _ _ _ (fun _ => True) (fun _ => False) rfl rfl HO.out ?aR (fun _ _ h => h) (fun _ h => h.elim) (fun _ _ => trivial) HB.out HB.out.size ?aL ?_; (case aR => exact Kd.C_below HR.out HB.out); (case aL => have := HL.out; simp; omega); intro v7 w7 ho hb hg_ hat_; have HO7 := Aside0.mk ho; have HB7 := Aside0.mk hb; clear ho hb hg_ hat_))
  obtain ⟨A7, c7, e7⟩ := Kd.R_slice HO7.out
  subst e7
  go_ret
  exact ⟨_, _, _, rfl, HB7.out⟩
set_option maxHeartbeats 2000000 in
set_option maxRecDepth 100000 in
theorem in195 (tv : TypeId) (v : Value) (ad : Addr) (c0 : Nat) (x : ByteArray) (w : World) (hr0 : Kd.C Kd.string w (some ad) 1 [x]) (hc0 : 1 ≤ c0) :
    Calls Try.prog 195 #[.iface tv v, .slice (some ad) 1 c0] w fun e w' => (∃ t u, e = .returned (.iface t u)) ∧ Below w.heap.size w w' := by
  have HCl := Aside0.mk (clone205 ad c0 [x] (by simp) w hr0 hc0)
  clear hr0
  go_enter Try.func195, Try.ntmps195
  go_wp2_with fail
  refine HCl.out.mono ?_
  rintro e w' ⟨A, n, c, rfl, hb⟩
  have HB := Aside0.mk hb
  clear hb
  go_wp2
  go_ret
  exact ⟨⟨_, _, rfl⟩, below_alloc HB.out _⟩
end Go.Proofs.Ytfdmfgaiblfbhaa.P
/- A tree's cells gone through, as long as a test says yes: plain words. -/
namespace Go.Proofs.Ytfdmfgaiblfbhaa.P
open Go.RowKit Go.Proofs.YtfdmfgaiblfbhaaW.PrintWords Go.Proofs.YtfdmfgaiblfbhaaW.PrintLast Go.Proofs.YtfdmfgaiblfbhaaW.PrintMore
section
variable {σ : Type} (step : σ → S26 → Bool × σ)
mutual
def allS : S26 → σ → Bool × σ
  | ⟨a, b, d, l⟩, s => if (step s ⟨a, b, d, l⟩).1 = true then noneS l (step s ⟨a, b, d, l⟩).2 else (false, (step s ⟨a, b, d, l⟩).2)
def noneS : List S26 → σ → Bool × σ
  | [], s => (true, s)
  | k :: ks, s => if (allS k s).1 = true then noneS ks (allS k s).2 else (false, (allS k s).2)
end
theorem allS_eq (c : S26) (s : σ) : allS step c s = if (step s c).1 = true then noneS step c.f3 (step s c).2 else (false, (step s c).2) := by cases c; simp [allS]
theorem noneS_nil (s : σ) : noneS step [] s = (true, s) := by simp [noneS]
theorem noneS_cons (k : S26) (ks : List S26) (s : σ) : noneS step (k :: ks) s = if (allS step k s).1 = true then noneS step ks (allS step k s).2 else (false, (allS step k s).2) := by simp [noneS]
theorem scan_none : ∀ (l : List S26) (s : σ), scanB (fun s k => (!(allS step k s).1, (allS step k s).2)) s l = (!(noneS step l s).1, (noneS step l s).2) := by
  intro l
  induction l with
  | nil => intro s; rw [noneS_nil]; rfl
  | cons k ks ih =>
    intro s
    rw [noneS_cons]
    simp only [scanB]
    cases h : (allS step k s).1 with
    | true => simp [ih]
    | false => simp
/-- One cell after the other. -/
def seqS : List S26 → σ → Bool × σ
  | [], s => (true, s)
  | k :: ks, s => if (step s k).1 = true then seqS ks (step s k).2 else (false, (step s k).2)
theorem seqS_app : ∀ (a b : List S26) (s : σ), seqS step (a ++ b) s = if (seqS step a s).1 = true then seqS step b (seqS step a s).2 else (false, (seqS step a s).2) := by
  intro a
  induction a with
  | nil => intro b s; simp [seqS]
  | cons k ks ih =>
    intro b s
    simp only [List.cons_append, seqS]
    by_cases h : (step s k).1 = true
    · simp [h, ih]
    · simp [h]
theorem allS_seq : ∀ (N : Nat), (∀ c : S26, sz c ≤ N → ∀ s, allS step c s = seqS step (allC c) s) ∧ (∀ l : List S26, szL l ≤ N → ∀ s, noneS step l s = seqS step (allL l) s) := by
  intro N
  induction N with
  | zero =>
    refine ⟨fun c h => ?_, fun l h => ?_⟩
    · rw [sz_eq] at h; omega
    · cases l with
      | nil => intro s; rw [noneS_nil, allL_nil]; rfl
      | cons x xs => rw [szL_cons, sz_eq] at h; omega
  | succ N ih =>
    have hC : ∀ c : S26, sz c ≤ N + 1 → ∀ s, allS step c s = seqS step (allC c) s := by
      intro c h s
      rw [sz_eq] at h
      rw [allS_eq, allC_eq]
      simp only [seqS]
      rw [ih.2 c.f3 (by omega)]
    refine ⟨hC, fun l => ?_⟩
    induction l with
    | nil => intro _ s; rw [noneS_nil, allL_nil]; rfl
    | cons x xs ihl =>
      intro h s
      rw [szL_cons] at h
      rw [noneS_cons, allL_cons, seqS_app, hC x (by omega), ihl (by omega)]
end
end Go.Proofs.Ytfdmfgaiblfbhaa.P
/- May a tree be: plain words. -/
namespace Go.Proofs.Ytfdmfgaiblfbhaa.P
open Go.RowKit Go.Proofs.YtfdmfgaiblfbhaaW.PrintWords Go.Proofs.YtfdmfgaiblfbhaaW.PrintLast Go.Proofs.YtfdmfgaiblfbhaaW.PrintMore

/-- May one cell be, by itself? -/
def okC (c : S26) : Bool := mayR c.f1 && decide (1 ≤ c.f0 ∧ c.f0 ≤ 3) && decide (c.f0 = 1 → c.f3.length = 0 ∧ 0 ≤ c.f2 ∧ c.f2 ≤ 2147483647) && decide (c.f0 > 1 → 2 ≤ c.f3.length ∧ c.f2 = 0)
/-- No number twice? -/
def distinctC : List S26 → Bool
  | [] => true
  | x :: xs => (xs.all fun y => decide (y.f2 ≠ x.f2)) && distinctC xs
def apartTo (pre : List S26) (x : S26) : Bool := pre.all fun y => decide (x.f2 ≠ y.f2)
theorem distinctC_app (pre : List S26) (x : S26) : distinctC (pre ++ [x]) = (distinctC pre && apartTo pre x) := by
  induction pre with
  | nil => simp [distinctC, apartTo]
  | cons y ys ih =>
    have : (decide (x.f2 ≠ y.f2)) = decide (¬ x.f2 = y.f2) := rfl
    simp only [List.cons_append, distinctC, ih, apartTo, List.all_append, List.all_cons, List.all_nil, Bool.and_true]
    cases (ys.all fun z => decide (z.f2 ≠ y.f2)) <;> cases (decide (x.f2 ≠ y.f2)) <;> cases distinctC ys <;> cases (ys.all fun z => decide (x.f2 ≠ z.f2)) <;> rfl
theorem distinctC_pre : ∀ (pre rest : List S26), distinctC pre = false → distinctC (pre ++ rest) = false := by
  intro pre rest h
  induction rest generalizing pre with
  | nil => rw [List.append_nil]; exact h
  | cons x xs ih =>
    have := ih (pre ++ [x]) (by rw [distinctC_app, h, Bool.false_and])
    rwa [List.append_assoc] at this
def mayC (c : S26) : Bool := decide (sz c ≤ 20000) && ((allC c).all okC && distinctC (leavesC c))
end Go.Proofs.Ytfdmfgaiblfbhaa.P
/- slices.IndexFunc, slices.ContainsFunc at S26: what they answer, with any function value that keeps an invariant of the world. -/
namespace Go.Proofs.Ytfdmfgaiblfbhaa.P
open Go.RowKit Go.Proofs.YtfdmfgaiblfbhaaW.PrintWords Go.Proofs.YtfdmfgaiblfbhaaW.PrintLast Go.Proofs.YtfdmfgaiblfbhaaW.PrintMore

set_option maxHeartbeats 2000000 in
set_option maxRecDepth 100000 in
theorem idx192 {σ : Type} (Inv : σ → World → Prop) (step : σ → S26 → Bool × σ) (g : Nat) (lb : Array Value) (eg : ∀ args w, (callFunc g args).run Try.prog w = .ok (.enter g args) w) (l : List S26) (A : Option Addr) (c : Nat)
    (w0 : World) (hR : Kd.C k26 w0 A l.length l) (hW : ∀ s W, Inv s W → Below w0.heap.size w0 W) (hD : ∀ s W n, Inv s W → Inv s (W.drewN n))
    (hcall : ∀ s W (x : S26) (B : Option Addr) (cb : Nat), x ∈ l → Inv s W → Kd.C k26 w0 B x.f3.length x.f3 → x.f3.length ≤ cb → Calls Try.prog g (#[.agg #[.int .u8 x.f0, .int .i64 x.f1.f0, .int .i64 x.f1.f1, .int .i64 x.f1.f2, .int .i64 x.f1.f3, .int .i64 x.f2, .slice B x.f3.length cb]] ++ lb) W fun e w' => e = .returned (.bool (step s x).1) ∧ Inv (step s x).2 w')
    (s : σ) (w : World) (hI : Inv s w) (hl : l.length ≤ 9223372036854775807) :
    Calls Try.prog 192 #[.slice A l.length c, .func (.func g) #[] lb] w fun e w' => e = .returned (.int .i64 (scanI step 0 s l).1) ∧ Inv (scanI step 0 s l).2 w' := by
  have HR := Aside0.mk hR
  have HW := Aside0.mk hW
  have HI := Aside0.mk hI
  have HCall := Aside0.mk hcall
  clear hR hW hcall hD hI
  go_enter Try.func192, Try.ntmps192
  go_wp2
  go_loopg [5, 8] l.length (fun gg _ v8 wr => ∃ (kk : Nat) (t : σ), kk ≤ l.length ∧ l.length - kk ≤ gg ∧ v8 = .int .i64 kk ∧ Aside0 (Inv t wr) ∧ Aside0 (scanI step 0 s l = scanI step kk t (l.drop kk)))
  case atStart => exact ⟨0, s, Nat.zero_le _, by omega, rfl, HI, ⟨by simp⟩⟩
  case round =>
    clear HI
    obtain ⟨kk, t, hkk, hg, rfl, HI, HS⟩ := hrel
    by_cases hlt : kk < l.length
    · have hltz : (kk : Int) < (l.length : Int) := by omega
      obtain ⟨ad, B, cb, rfl, hc0, hc1, hc2, hc3, hc4, hc5, hc6, hlb, hgb⟩ := at_T26 HR.out (kk : Int) (by omega) (by omega)
      have hbw := HW.out t wr HI.out
      replace hc0 := (hbw.cell (World.block_lt_of_cell? w0 _ hc0)).trans hc0
      replace hc1 := (hbw.cell (World.block_lt_of_cell? w0 _ hc1)).trans hc1
      replace hc2 := (hbw.cell (World.block_lt_of_cell? w0 _ hc2)).trans hc2
      replace hc3 := (hbw.cell (World.block_lt_of_cell? w0 _ hc3)).trans hc3
      replace hc4 := (hbw.cell (World.block_lt_of_cell? w0 _ hc4)).trans hc4
      replace hc5 := (hbw.cell (World.block_lt_of_cell? w0 _ hc5)).trans hc5
      replace hc6 := (hbw.cell (World.block_lt_of_cell? w0 _ hc6)).trans hc6
      clear hbw
      have HX : Aside0 (scanI step kk t (l.drop kk) = if (step t (rd_T26 l (kk : Int))).1 = true then ((kk : Int), (step t (rd_T26 l (kk : Int))).2) else scanI step ((kk + 1 : Nat) : Int) (step t (rd_T26 l (kk : Int))).2 (l.drop (kk + 1))) := ⟨scan_at step z26 l kk hlt t⟩
      have hmem : (rd_T26 l (kk : Int)) ∈ l := scan_mem z26 l kk hlt
      have hcall := HCall.out t wr _ B cb hmem HI.out hgb hlb
      clear hmem hgb hlb
      simp only [Int.toNat_natCast] at hc0 hc1 hc2 hc3 hc4 hc5 hc6
      generalize rd_T26 l (kk : Int) = x at hc0 hc1 hc2 hc3 hc4 hc5 hc6 HX hcall
      have HC := Aside0.mk hcall
      clear hcall
      cases hq : (step t x).1 with
      | true =>
        have h := HC.out
        rw [hq] at h
        have HH := Aside0.mk h
        have HQ := Aside0.mk hq
        clear hq HC h
        go_wp2_with fail
        refine HH.out.mono ?_
        rintro e w' ⟨rfl, hb'⟩
        have HB := Aside0.mk hb'
        clear hb'
        go_wp2
        go_ret
        rw [HS.out, HX.out, if_pos HQ.out]
        exact ⟨rfl, HB.out⟩
      | false =>
        have h := HC.out
        rw [hq] at h
        have HH := Aside0.mk h
        have HQ := Aside0.mk hq
        clear hq HC h
        go_wp2_with fail
        refine HH.out.mono ?_
        rintro e w' ⟨rfl, hb'⟩
        have HB := Aside0.mk hb'
        clear hb'
        go_wp2
        go_roundg (l.length - (kk + 1))
        case measure => omega
        case rel =>
          refine ⟨kk + 1, (step t x).2, by omega, by omega, by go_num, HB, ⟨?_⟩⟩
          rw [HS.out, HX.out, if_neg (by rw [HQ.out]; simp)]
    · have hltz : ¬ (kk : Int) < (l.length : Int) := by omega
      go_wp2
      go_ret
      rw [HS.out, List.drop_eq_nil_of_le (by omega)]
      exact ⟨rfl, HI.out⟩

set_option maxHeartbeats 1000000 in
theorem con174 {σ : Type} (Inv : σ → World → Prop) (step : σ → S26 → Bool × σ) (g : Nat) (lb : Array Value) (eg : ∀ args w, (callFunc g args).run Try.prog w = .ok (.enter g args) w) (l : List S26) (A : Option Addr) (c : Nat)
    (w0 : World) (hR : Kd.C k26 w0 A l.length l) (hW : ∀ s W, Inv s W → Below w0.heap.size w0 W) (hD : ∀ s W n, Inv s W → Inv s (W.drewN n))
    (hcall : ∀ s W (x : S26) (B : Option Addr) (cb : Nat), x ∈ l → Inv s W → Kd.C k26 w0 B x.f3.length x.f3 → x.f3.length ≤ cb → Calls Try.prog g (#[.agg #[.int .u8 x.f0, .int .i64 x.f1.f0, .int .i64 x.f1.f1, .int .i64 x.f1.f2, .int .i64 x.f1.f3, .int .i64 x.f2, .slice B x.f3.length cb]] ++ lb) W fun e w' => e = .returned (.bool (step s x).1) ∧ Inv (step s x).2 w')
    (s : σ) (w : World) (hI : Inv s w) (hl : l.length ≤ 9223372036854775807) :
    Calls Try.prog 174 #[.slice A l.length c, .func (.func g) #[] lb] w fun e w' => e = .returned (.bool (scanB step s l).1) ∧ Inv (scanB step s l).2 w' := by
  have hi := idx192 Inv step g lb eg l A c w0 hR hW hD hcall s w hI hl
  rw [scanB_eq]
  clear hR hW hD hcall hI
  generalize scanI step 0 s l = r at hi
  have HI := Aside0.mk hi
  clear hi
  go_enter Try.func174, Try.ntmps174
  go_wp2_with fail
  refine HI.out.mono ?_
  rintro e w' ⟨rfl, hb'⟩
  have HB := Aside0.mk hb'
  clear hb'
  go_wp2
  go_ret
  exact ⟨rfl, HB.out⟩
end Go.Proofs.Ytfdmfgaiblfbhaa.P
/- cell.all, cell.none: what they answer, with any function value that keeps an invariant of the world. -/
namespace Go.Proofs.Ytfdmfgaiblfbhaa.P
open Go.RowKit Go.Proofs.YtfdmfgaiblfbhaaW.PrintWords Go.Proofs.YtfdmfgaiblfbhaaW.PrintLast Go.Proofs.YtfdmfgaiblfbhaaW.PrintMore

set_option maxHeartbeats 1000000 in
/-- cell.none: whether the test says yes of none. -/
theorem none142 (l : List S26) (A : Option Addr) (c : Nat) (g : Nat) (lb : Array Value) (Q : World → Prop) (b : Bool) (w : World)
    (h : Calls Try.prog 174 #[.slice A l.length c, .func (.func g) #[] lb] w fun e w' => e = .returned (.bool b) ∧ Q w') (hD : ∀ W n, Q W → Q (W.drewN n)) :
    Calls Try.prog 142 #[.slice A l.length c, .func (.func g) #[] lb] w fun e w' => e = .returned (.bool (!b)) ∧ Q w' := by
  have H := Aside0.mk h
  clear h hD
  cases b
  all_goals
    go_enter Try.func142, Try.ntmps142
    go_wp2_with fail
    refine H.out.mono ?_
    rintro e w' ⟨rfl, hb⟩
    have HB := Aside0.mk hb
    clear hb
    go_wp2
    go_ret
    exact ⟨rfl, HB.out⟩
/-- Only new blocks, and those of S, may differ. -/
structure Kp (S : Nat → Prop) (W W' : World) : Prop where
  size : W.heap.size ≤ W'.heap.size
  blk : ∀ k, k < W.heap.size → ¬ S k → W'.heap[k]? = W.heap[k]?
theorem Kp.refl (S : Nat → Prop) (W : World) : Kp S W W := ⟨Nat.le_refl _, fun _ _ _ => rfl⟩
theorem Kp.trans {S : Nat → Prop} {W W1 W2 : World} (h : Kp S W W1) (k : Kp S W1 W2) : Kp S W W2 := ⟨Nat.le_trans h.size k.size, fun i hi hs => (k.blk i (Nat.lt_of_lt_of_le hi h.size) hs).trans (h.blk i hi hs)⟩
theorem Kp.below {S : Nat → Prop} {W W1 : World} (h : Below W.heap.size W W1) : Kp S W W1 := ⟨h.size, fun i hi _ => h.block i hi⟩
theorem Kp.at {S : Nat → Prop} {W W1 : World} {g : Nat} {o : Obj} (h : Kp S W W1) (hb : W.heap[g]? = some o) (hs : ¬ S g) : W1.heap[g]? = some o := (h.blk g (blk_lt hb) hs).trans hb
set_option maxHeartbeats 1000000 in
theorem clo193 (x : S26) (B : Option Addr) (cb g : Nat) (lb : Array Value) (b3 : Nat) (r : Bool) (R : World → Prop) (W : World) (hk : W.heap[b3]? = some (.cells #[.func (.func g) #[] lb] 27 (0, 0)))
    (h : ∀ W1, Below W.heap.size W W1 → Calls Try.prog 175 #[.agg #[.int .u8 x.f0, .int .i64 x.f1.f0, .int .i64 x.f1.f1, .int .i64 x.f1.f2, .int .i64 x.f1.f3, .int .i64 x.f2, .slice B x.f3.length cb], .func (.func g) #[] lb] W1 fun e w' => e = .returned (.bool r) ∧ R w') :
    Calls Try.prog 193 (#[.agg #[.int .u8 x.f0, .int .i64 x.f1.f0, .int .i64 x.f1.f1, .int .i64 x.f1.f2, .int .i64 x.f1.f3, .int .i64 x.f2, .slice B x.f3.length cb]] ++ #[.pointer (some ⟨b3, 0, none⟩)]) W fun e w' => e = .returned (.bool (!r)) ∧ R w' := by
  have HK := Aside0.mk hk
  have H := Aside0.mk h
  clear hk h
  simp only [List.append_toArray, List.cons_append, List.nil_append]
  cases r
  all_goals
    go_enter Try.func193, Try.ntmps193
    go_wp2_with (((with_reducible refine gate_dst (N := 2) rfl ?_); refine box_event ?hg (N := 2) ?hd (cs := #[.int .u8 x.f0, .int .i64 x.f1.f0, .int .i64 x.f1.f1, .int .i64 x.f1.f2, .int .i64 x.f1.f3, .int .i64 x.f2, .slice B x.f3.length cb]) (t := 26) ?hr ?_; (case hd => rfl); (case hg => rfl); (case hr => (go_simp; done)); intro b2 hg w2 hbox hb; have HB := Aside0.mk hb; have K2 := Aside0.mk hbox; have K3 := Aside0.mk (blk_below HK.out hb); clear hb hbox hg; have c0 := (blk_cell K2.out 0).trans rfl; have c1 := (blk_cell K2.out 1).trans rfl; have c2 := (blk_cell K2.out 2).trans rfl; have c3 := (blk_cell K2.out 3).trans rfl; have c4 := (blk_cell K2.out 4).trans rfl; have c5 := (blk_cell K2.out 5).trans rfl; have c6 := (blk_cell K2.out 6).trans rfl; have d0 := (blk_cell K3.out 0).trans rfl))
    clear c0 c1 c2 c3 c4 c5 c6 d0
    refine (H.out _ HB.out).mono ?_
    rintro e w' ⟨rfl, hR⟩
    have HR := Aside0.mk hR
    clear hR
    go_wp2
    go_ret
    exact ⟨rfl, HR.out⟩
set_option maxHeartbeats 4000000 in
set_option maxRecDepth 100000 in
theorem all175 {σ : Type} (S : Nat → Prop) (Inv : σ → World → Prop) (step : σ → S26 → Bool × σ) (g : Nat) (lb : Array Value) (eg : ∀ args w, (callFunc g args).run Try.prog w = .ok (.enter g args) w) (w0 : World)
    (hW : ∀ s W, Inv s W → Below w0.heap.size w0 W) (hB : ∀ s W W', Inv s W → Below W.heap.size W W' → Inv s W') (hS : ∀ s W, Inv s W → ∀ k, S k → k < W.heap.size)
    (hcall : ∀ s W (x : S26) (B : Option Addr) (cb : Nat), Inv s W → Kd.C k26 w0 B x.f3.length x.f3 → x.f3.length ≤ cb → Calls Try.prog g (#[.agg #[.int .u8 x.f0, .int .i64 x.f1.f0, .int .i64 x.f1.f1, .int .i64 x.f1.f2, .int .i64 x.f1.f3, .int .i64 x.f2, .slice B x.f3.length cb]] ++ lb) W fun e w' => e = .returned (.bool (step s x).1) ∧ Inv (step s x).2 w' ∧ Kp S W w') :
    ∀ (N : Nat) (c : S26), sz c ≤ N → ∀ (A : Option Addr) (cc : Nat), Kd.C k26 w0 A c.f3.length c.f3 → c.f3.length ≤ cc → ∀ s W, Inv s W →
      Calls Try.prog 175 #[.agg #[.int .u8 c.f0, .int .i64 c.f1.f0, .int .i64 c.f1.f1, .int .i64 c.f1.f2, .int .i64 c.f1.f3, .int .i64 c.f2, .slice A c.f3.length cc], .func (.func g) #[] lb] W fun e w' => e = .returned (.bool (allS step c s).1) ∧ Inv (allS step c s).2 w' ∧ Kp S W w' := by
  intro N
  induction N with
  | zero => intro c h; rw [sz_eq] at h; omega
  | succ N ih =>
    intro c hc A cc hr hlc s W hI
    have hsz := sz_eq c
    -- what the kids' test does
    have hNone : ∀ (b3 : Nat) (s1 : σ) (W1 : World), Inv s1 W1 → W1.heap[b3]? = some (.cells #[.func (.func g) #[] lb] 27 (0, 0)) → ¬ S b3 →
        Calls Try.prog 142 #[.slice A c.f3.length cc, .func (.func 193) #[] #[.pointer (some ⟨b3, 0, none⟩)]] W1 fun e w' => e = .returned (.bool (noneS step c.f3 s1).1) ∧ Inv (noneS step c.f3 s1).2 w' ∧ Kp S W1 w' := by
      intro b3 s1 W1 hI1 hk3 hs3
      have hcon := con174 (fun t w' => Inv t w' ∧ Kp S W1 w') (fun t k => (!(allS step k t).1, (allS step k t).2)) 193 #[.pointer (some ⟨b3, 0, none⟩)] (enters_fn Try.func193 (by decide +kernel) (by kernel_rfl)) c.f3 A cc w0 hr (fun t w' h => hW t w' h.1)
        (fun t w' n h => ⟨hB t w' _ h.1 (pw_below_drewN (Below.refl _ _) n), h.2.trans (Kp.below (pw_below_drewN (Below.refl _ _) n))⟩)
        (fun t w' x B cb hx h hCx hlx => by
          refine clo193 x B cb g lb b3 _ _ w' (h.2.at hk3 hs3) (fun W2 hb2 => ?_)
          refine (ih x ?_ B cb hCx hlx t W2 (hB t w' W2 h.1 hb2)).mono fun e w'' ⟨he, hi, hk⟩ => ⟨he, hi, (h.2.trans (Kp.below hb2)).trans hk⟩
          have : sz x ≤ szL c.f3 := by
            obtain ⟨p, q, e⟩ := List.append_of_mem hx
            rw [e, szL_app, szL_cons]; omega
          omega) s1 W1 ⟨hI1, Kp.refl S W1⟩ hr.2.1
      rw [scan_none] at hcon
      have := none142 c.f3 A cc 193 _ _ _ W1 hcon (fun w' n h => ⟨hB _ w' _ h.1 (pw_below_drewN (Below.refl _ _) n), h.2.trans (Kp.below (pw_below_drewN (Below.refl _ _) n))⟩)
      rw [Bool.not_not] at this
      exact this
    have hHS0 : ∀ k, S k → k < W.heap.size := hS s W hI
    have hE := allS_eq step c s
    have hcl := fun W1 (h : Inv s W1) => hcall s W1 c A cc h hr hlc
    rcases hst : step s c with ⟨q, s1⟩
    rw [hst] at hE hcl
    simp only [] at hE hcl
    rw [hE]
    have HN := Aside0.mk fun b3 W1 => hNone b3 s1 W1
    have HI := Aside0.mk hI
    have HCall := Aside0.mk hcl
    have HBb := Aside0.mk hB
    have HS := Aside0.mk hS
    have HS0 := Aside0.mk hHS0
    have HK := Aside0.mk (Kp.refl S W)
    clear hNone hI hcall hB hS ih hr hlc hsz hc hW hE hcl hst hHS0
    obtain ⟨ck, ⟨cx, cy, cw, ch⟩, cid, l⟩ := c
    simp only [] at HN HCall ⊢
    generalize noneS step l s1 = ns at HN ⊢
    obtain ⟨n1, n2⟩ := ns
    cases q with
    | false =>
      simp only [Bool.false_eq_true, if_false]
      clear HN
      go_enter Try.func175, Try.ntmps175
      go_wp2_with (first | ((with_reducible refine gate_dst (N := 2) rfl ?_); refine box_event ?hg (N := 2) ?hd (cs := #[.int .u8 ck, .int .i64 cx, .int .i64 cy, .int .i64 cw, .int .i64 ch, .int .i64 cid, .slice A l.length cc]) (t := 26) ?hr ?_; (case hd => rfl); (case hg => rfl); (case hr => (go_simp; done)); intro b2 hg wb2 hbox hb; have K2 := Aside0.mk hbox; have HS2 := Aside0.mk (show ¬ b2 < W.heap.size by rw [hg]; exact Nat.lt_irrefl _); have q1_ := Aside0.mk (HBb.out _ _ _ HI.out hb); have q2_ := Aside0.mk (HK.out.trans (Kp.below hb)); clear HI HK; have HI := q1_; have HK := q2_; clear q1_ q2_; clear hb hbox hg) | ((with_reducible refine gate_dst (N := 3) rfl ?_); refine box_event ?hg (N := 3) ?hd (cs := #[.func (.func g) #[] lb]) (t := 27) ?hr ?_; (case hd => rfl); (case hg => rfl); (case hr => (go_simp; done)); intro b3 hg wb3 hbox hb; have K3 := Aside0.mk hbox; have q3_ := Aside0.mk (blk_below K2.out hb); have NS := Aside0.mk (fun h => Nat.lt_irrefl _ (Nat.lt_of_lt_of_le (hg ▸ HS.out _ _ HI.out b3 h) (Nat.le_refl _)) : ¬ S b3); have NS2 := Aside0.mk (fun h => HS2.out (HS0.out b2 h) : ¬ S b2); clear K2; have K2 := q3_; clear q3_; have q1_ := Aside0.mk (HBb.out _ _ _ HI.out hb); have q2_ := Aside0.mk (HK.out.trans (Kp.below hb)); clear HI HK; have HI := q1_; have HK := q2_; clear q1_ q2_; clear hb hbox hg; have c0 := (blk_cell K2.out 0).trans rfl; have c1 := (blk_cell K2.out 1).trans rfl; have c2 := (blk_cell K2.out 2).trans rfl; have c3 := (blk_cell K2.out 3).trans rfl; have c4 := (blk_cell K2.out 4).trans rfl; have c5 := (blk_cell K2.out 5).trans rfl; have c6 := (blk_cell K2.out 6).trans rfl; have d0 := (blk_cell K3.out 0).trans rfl))
      clear c0 c1 c2 c3 c4 c5 c6 d0
      refine (HCall.out _ HI.out).mono ?_
      rintro e w' ⟨rfl, hi, hk⟩
      have HI' := Aside0.mk hi
      have HK' := Aside0.mk (HK.out.trans hk)
      clear hi hk
      go_wp2
      go_ret
      exact ⟨rfl, HI'.out, HK'.out⟩
    | true =>
      simp only [if_true]
      cases n1
      all_goals
        go_enter Try.func175, Try.ntmps175
        go_wp2_with (first | ((with_reducible refine gate_dst (N := 2) rfl ?_); refine box_event ?hg (N := 2) ?hd (cs := #[.int .u8 ck, .int .i64 cx, .int .i64 cy, .int .i64 cw, .int .i64 ch, .int .i64 cid, .slice A l.length cc]) (t := 26) ?hr ?_; (case hd => rfl); (case hg => rfl); (case hr => (go_simp; done)); intro b2 hg wb2 hbox hb; have K2 := Aside0.mk hbox; have HS2 := Aside0.mk (show ¬ b2 < W.heap.size by rw [hg]; exact Nat.lt_irrefl _); have q1_ := Aside0.mk (HBb.out _ _ _ HI.out hb); have q2_ := Aside0.mk (HK.out.trans (Kp.below hb)); clear HI HK; have HI := q1_; have HK := q2_; clear q1_ q2_; clear hb hbox hg) | ((with_reducible refine gate_dst (N := 3) rfl ?_); refine box_event ?hg (N := 3) ?hd (cs := #[.func (.func g) #[] lb]) (t := 27) ?hr ?_; (case hd => rfl); (case hg => rfl); (case hr => (go_simp; done)); intro b3 hg wb3 hbox hb; have K3 := Aside0.mk hbox; have q3_ := Aside0.mk (blk_below K2.out hb); have NS := Aside0.mk (fun h => Nat.lt_irrefl _ (Nat.lt_of_lt_of_le (hg ▸ HS.out _ _ HI.out b3 h) (Nat.le_refl _)) : ¬ S b3); have NS2 := Aside0.mk (fun h => HS2.out (HS0.out b2 h) : ¬ S b2); clear K2; have K2 := q3_; clear q3_; have q1_ := Aside0.mk (HBb.out _ _ _ HI.out hb); have q2_ := Aside0.mk (HK.out.trans (Kp.below hb)); clear HI HK; have HI := q1_; have HK := q2_; clear q1_ q2_; clear hb hbox hg; have c0 := (blk_cell K2.out 0).trans rfl; have c1 := (blk_cell K2.out 1).trans rfl; have c2 := (blk_cell K2.out 2).trans rfl; have c3 := (blk_cell K2.out 3).trans rfl; have c4 := (blk_cell K2.out 4).trans rfl; have c5 := (blk_cell K2.out 5).trans rfl; have c6 := (blk_cell K2.out 6).trans rfl; have d0 := (blk_cell K3.out 0).trans rfl))
        clear c0 c1 c2 c3 c4 c5 c6 d0
        refine (HCall.out _ HI.out).mono ?_
        rintro e w' ⟨rfl, hi, hk⟩
        have HI' := Aside0.mk hi
        have HK' := Aside0.mk (HK.out.trans hk)
        have K3' := Aside0.mk (hk.at K3.out NS.out)
        have K2' := Aside0.mk (hk.at K2.out NS2.out)
        clear hi hk
        have c6 : w'.cell? ⟨b2, 6, none⟩ = some (.slice A l.length cc) := (blk_cell K2'.out 6).trans rfl
        go_wp2_with fail
        clear c6
        refine (HN.out b3 w' HI'.out K3'.out NS.out).mono ?_
        rintro e w'' ⟨rfl, hi, hk⟩
        have HI2 := Aside0.mk hi
        have HK2 := Aside0.mk (HK'.out.trans hk)
        clear hi hk
        go_wp2
        go_ret
        exact ⟨rfl, HI2.out, HK2.out⟩
end Go.Proofs.Ytfdmfgaiblfbhaa.P
/- Whether a tree may be, cell by cell with the numbers met: plain words; and the numbers met as a map of the call's own. -/
namespace Go.Proofs.Ytfdmfgaiblfbhaa.P
open Go.RowKit Go.Proofs.YtfdmfgaiblfbhaaW.PrintWords Go.Proofs.YtfdmfgaiblfbhaaW.PrintLast Go.Proofs.YtfdmfgaiblfbhaaW.PrintMore

def nodeB (x : S26) : Bool := if x.f0 = 1 then decide (x.f3.length = 0) && (decide (0 ≤ x.f2) && decide (x.f2 ≤ 2147483647)) else if x.f0 = 2 ∨ x.f0 = 3 then decide (2 ≤ x.f3.length) && decide (x.f2 = 0) else false
theorem okC_node (x : S26) : okC x = (nodeB x && mayR x.f1) := by
  unfold okC nodeB
  by_cases h1 : x.f0 = 1
  · simp [h1, Bool.and_comm, Bool.and_assoc]
  · by_cases h2 : x.f0 = 2
    · simp [h2, Bool.and_comm]
    · by_cases h3 : x.f0 = 3
      · simp [h3, Bool.and_comm]
      · have : ¬ (1 ≤ x.f0 ∧ x.f0 ≤ 3) := by omega
        simp [h1, h2, h3, this]
/-- One cell: the count, and the numbers met. -/
def mStep (s : Int × List Int) (x : S26) : Bool × (Int × List Int) :=
  if 20000 < wrap64 (s.1 + 1) then (false, (wrap64 (s.1 + 1), s.2))
  else if okC x = false then (false, (wrap64 (s.1 + 1), s.2))
  else if x.f0 = 1 then (if x.f2 ∈ s.2 then (false, (wrap64 (s.1 + 1), s.2)) else (true, (wrap64 (s.1 + 1), x.f2 :: s.2)))
  else (true, (wrap64 (s.1 + 1), s.2))
def lv (l : List S26) : List S26 := l.filter fun x => decide (x.f0 = 1)
theorem mStep_seq : ∀ (rest pre : List S26), (pre ++ rest).length ≤ 1048576 → pre.length ≤ 20000 → distinctC (lv pre) = true →
    (seqS mStep rest ((pre.length : Int), ((lv pre).map (·.f2)).reverse)).1 = (decide (pre.length + rest.length ≤ 20000) && (rest.all okC && distinctC (lv (pre ++ rest)))) := by
  intro rest
  induction rest with
  | nil =>
    intro pre _ h2 h3
    simp [seqS, h3]
    exact h2
  | cons x xs ih =>
    intro pre h1 h2 h3
    have hlen : (pre ++ x :: xs).length = pre.length + xs.length + 1 := by simp; omega
    have hw : wrap64 ((pre.length : Int) + 1) = ((pre.length + 1 : Nat) : Int) := (wq (by omega) (by omega)).trans (by omega)
    have hsp : pre ++ x :: xs = (pre ++ [x]) ++ xs := by simp
    simp only [seqS]
    unfold mStep
    simp only [hw]
    by_cases c1 : (20000 : Int) < ((pre.length + 1 : Nat) : Int)
    · rw [if_pos c1]
      simp
      intro h
      omega
    · rw [if_neg c1]
      cases c2 : okC x with
      | false => simp [c2]
      | true =>
        simp only [Bool.true_eq_false, if_false, List.all_cons, c2, Bool.true_and]
        have hl1 : (pre ++ [x]).length = pre.length + 1 := by simp
        have hcnt : decide (pre.length + (x :: xs).length ≤ 20000) = decide ((pre ++ [x]).length + xs.length ≤ 20000) := by
          rw [hl1, List.length_cons, decide_eq_decide]; omega
        rw [hcnt]
        by_cases c3 : x.f0 = 1
        · rw [if_pos c3]
          have hlv : lv (pre ++ [x]) = lv pre ++ [x] := by simp [lv, c3]
          have hmem : x.f2 ∈ ((lv pre).map (·.f2)).reverse ↔ apartTo (lv pre) x = false := by
            simp [apartTo]
            constructor
            · rintro ⟨y, hy, e⟩; exact ⟨y, hy, e.symm⟩
            · rintro ⟨y, hy, e⟩; exact ⟨y, hy, e.symm⟩
          by_cases c4 : x.f2 ∈ ((lv pre).map (·.f2)).reverse
          · rw [if_pos c4]
            have hd : distinctC (lv (pre ++ x :: xs)) = false := by
              rw [hsp]
              unfold lv
              rw [List.filter_append]
              apply distinctC_pre
              have : List.filter (fun x => decide (x.f0 = 1)) (pre ++ [x]) = lv pre ++ [x] := hlv
              rw [this, distinctC_app, hmem.1 c4, Bool.and_false]
            simp [hd]
          · rw [if_neg c4]
            have ha : apartTo (lv pre) x = true := by
              cases h : apartTo (lv pre) x with
              | true => rfl
              | false => exact absurd (hmem.2 h) c4
            have e := ih (pre ++ [x]) (by rw [← hsp]; exact h1) (by rw [hl1]; omega) (by rw [hlv, distinctC_app, h3, ha]; rfl)
            rw [hlv, List.map_append, List.reverse_append, hl1, ← hsp] at e
            simp only [if_true]
            rw [hl1]
            exact e
        · rw [if_neg c3]
          have hlv : lv (pre ++ [x]) = lv pre := by simp [lv, c3]
          have e := ih (pre ++ [x]) (by rw [← hsp]; exact h1) (by rw [hl1]; omega) (by rw [hlv]; exact h3)
          rw [hlv, hl1, ← hsp] at e
          simp only [if_true]
          rw [hl1]
          exact e
theorem allS_may (c : S26) (h : sz c ≤ 1048576) : (allS mStep c (0, [])).1 = mayC c := by
  rw [(allS_seq mStep (sz c)).1 c (Nat.le_refl _)]
  have e := mStep_seq (allC c) [] (by rw [List.nil_append]; exact h) (by simp) rfl
  have e2 : (seqS mStep (allC c) (0, [])).1 = (decide (0 + (allC c).length ≤ 20000) && ((allC c).all okC && distinctC (lv ([] ++ allC c)))) := e
  rw [e2, Nat.zero_add, List.nil_append]
  rfl
/-- No more numbers than there are. -/
theorem nodup_le : ∀ (N : Nat) (l : List Int), l.Nodup → (∀ i ∈ l, 0 ≤ i ∧ i < (N : Int)) → l.length ≤ N := by
  intro N
  induction N with
  | zero =>
    intro l _ h
    cases l with
    | nil => simp
    | cons x xs => have := h x (by simp); omega
  | succ N ih =>
    intro l hn h
    have h1 := ih (l.filter fun i => decide (i ≠ (N : Int))) (hn.filter _) (fun i hi => by
      have h2 := List.mem_filter.1 hi
      have h3 := h i h2.1
      have h4 := of_decide_eq_true h2.2
      omega)
    have h5 : ∀ (m : List Int), m.Nodup → m.length ≤ (m.filter fun i => decide (i ≠ (N : Int))).length + 1 := by
      intro m
      induction m with
      | nil => intro _; simp
      | cons y ys ihm =>
        intro hm
        rw [List.nodup_cons] at hm
        by_cases hy : y = (N : Int)
        · have : ys.filter (fun i => decide (i ≠ (N : Int))) = ys := by
            rw [List.filter_eq_self]
            intro i hi
            exact decide_eq_true (fun e => hm.1 (by rw [hy, ← e]; exact hi))
          rw [List.filter_cons_of_neg (by simp [hy]), this, List.length_cons]
          exact Nat.le_refl _
        · rw [List.filter_cons_of_pos (by simpa using hy), List.length_cons, List.length_cons]
          have := ihm hm.2
          omega
    have := h5 l hn
    omega
/-- The numbers met, as a map's datum. -/
def setD (ids : List Int) : DataW Unit := ids.foldr (fun i D => D.put (.int .i64 i) (.lit (.bool true))) (.map [])
theorem setD_map : ∀ ids : List Int, Maps.IsMap (setD ids) := by
  intro ids
  induction ids with
  | nil => exact Maps.isMap_empty
  | cons x xs ih => exact Maps.IsMap.put ih _ _
theorem setD_at (i : Int) : ∀ ids : List Int, (setD ids).atKey (.int .i64 i) (.lit (.bool false)) = .lit (.bool (decide (i ∈ ids))) := by
  intro ids
  induction ids with
  | nil => rfl
  | cons x xs ih =>
    show (DataW.put (setD xs) (.int .i64 x) (.lit (.bool true))).atKey (.int .i64 i) (.lit (.bool false)) = _
    by_cases h : i = x
    · subst h
      rw [Maps.atKey_put_same (setD_map xs) (by simp [WideAt.IsKeyLit])]
      simp
    · rw [Maps.atKey_put_other (by intro e; injection e with _ e; exact h e), ih]
      simp [h]
/-- What cell.may holds: the count, the numbers met. -/
structure MayI (w0 : World) (bn bm B : Nat) (s : Int × List Int) (W : World) : Prop where
  hn : W.heap[bn]? = some (.cells #[.int .i64 s.1] 3 (0, 0))
  hm : W.heap[bm]? = some (.cells #[.map (some B)] 161 (0, 0))
  map : W.ownsMap (H := Unit) Try.prog 3 (plainElem Try.prog 4) B s.2.length (setD s.2)
  below : Below w0.heap.size w0 W
  gn : w0.heap.size ≤ bn
  gB : w0.heap.size ≤ B
  nd : s.2.Nodup
  rg : ∀ i ∈ s.2, 0 ≤ i ∧ i ≤ 2147483647
theorem below_grown {W W' : World} (h : Below W.heap.size W W') : W.grownBy W' none := ⟨h.os, h.tape, h.output, h.size, fun k hk _ => h.block k hk⟩
theorem MayI.step {w0 W W' : World} {bn bm B : Nat} {s : Int × List Int} (h : MayI w0 bn bm B s W) (hb : Below W.heap.size W W') : MayI w0 bn bm B s W' :=
  ⟨blk_below h.hn hb, blk_below h.hm hb, h.map.kept (below_grown hb) (by simp), below_step h.below hb, h.gn, h.gB, h.nd, h.rg⟩
theorem MayI.neB {w0 W : World} {bn bm B : Nat} {s : Int × List Int} (h : MayI w0 bn bm B s W) : bn ≠ B ∧ bm ≠ B ∧ bm ≠ bn := by
  obtain ⟨es, cl, hB, _⟩ := h.map
  refine ⟨fun e => ?_, fun e => ?_, blk_ne h.hm h.hn (by decide)⟩
  · have := h.hn; rw [e, hB] at this; cases this
  · have := h.hm; rw [e, hB] at this; cases this
def MayS (bn B : Nat) (k : Nat) : Prop := k = bn ∨ k = B
section
variable {P : Program} {ops : Array Oper} {rest : List Oper} {o : Oper} {a : Act} {Q : Exit → Act → World → Prop}
/-- A look-up in a map of bools of the call's own. -/
theorem lookup_bool (w : World) (hg : o.guard = none) (m x : Operand) (t : TypeId) (hop : o.op = Op.lookup t m x false)
    (k e : TypeId) (K : Maps.Keyed P k) (ht : P.underlying t = some (.map k e)) (he : P.underlying e = some .bool) (hz : (zeroValue e).run P w = .ok (.bool false) w) (b n : Nat) (D : DataW Unit)
    (hm : a.eval m = .map (some b)) (hown : w.ownsMap P k (plainElem P e) b n D) (key : Value) (kl : Lit) (hx : a.eval x = key) (hkey : keyOf P k key = some kl) (r : Bool) (hr : D.atKey kl (.lit (.bool false)) = .lit (.bool r))
    (hK : wpList P ops Q rest (a.put o.dst (.bool r)) w) : wpList P ops Q (o :: rest) a w := by
  refine wpList_plain hg fun K' hK' => ?_
  obtain ⟨v, ps, hrun, hv⟩ := hown.lookup K ht hz (plainElem_bool he false) hkey
  have hv2 : v = .bool r := by
    rw [hr] at hv
    unfold plainElem at hv
    rw [he] at hv
    cases v with
    | bool q =>
      simp only [Option.some.injEq, Prod.mk.injEq, DataW.lit.injEq, Lit.bool.injEq] at hv
      rw [hv.1]
    | _ => cases hv
  subst hv2
  unfold Oper.wp
  simp [execOp, hop, hm, hx, hrun, Result.andThen]
  exact hK' _ _ hK
end
end Go.Proofs.Ytfdmfgaiblfbhaa.P
/- The contract of cell.node: whether a cell alone is right. -/
namespace Go.Proofs.Ytfdmfgaiblfbhaa.P
open Go.RowKit Go.Proofs.YtfdmfgaiblfbhaaW.PrintWords Go.Proofs.YtfdmfgaiblfbhaaW.PrintLast Go.Proofs.YtfdmfgaiblfbhaaW.PrintMore
set_option linter.unusedVariables false
set_option linter.unusedSimpArgs false
set_option maxHeartbeats 2000000 in
set_option maxRecDepth 100000 in
theorem node177 (x : S26) (B : Option Addr) (cb : Nat) (w : World) : Calls Try.prog 177 #[.agg #[.int .u8 x.f0, .int .i64 x.f1.f0, .int .i64 x.f1.f1, .int .i64 x.f1.f2, .int .i64 x.f1.f3, .int .i64 x.f2, .slice B x.f3.length cb]] w fun e w' => e = .returned (.bool (nodeB x)) ∧ Below w.heap.size w w' := by
  unfold nodeB
  by_cases k1 : x.f0 = 1
  · rw [if_pos k1]
    have k1b : (x.f0 == 1) = true := beq_iff_eq.mpr k1
    clear k1
    by_cases l0 : x.f3.length = 0
    · rw [decide_eq_true l0, Bool.true_and]
      have l1 : ((x.f3.length : Int) == 0) = true := by simp [l0]
      have l2 : (x.f3.length == 0) = true := by simp [l0]
      clear l0
      by_cases i0 : 0 ≤ x.f2
      · rw [decide_eq_true i0, Bool.true_and]
        have i0b : decide (0 ≤ x.f2) = true := decide_eq_true i0
        by_cases i1 : x.f2 ≤ 2147483647
        · rw [decide_eq_true i1]
          have i1b : decide (x.f2 ≤ 2147483647) = true := decide_eq_true i1
          go_enter Try.func177, Try.ntmps177
          go_wp2_with (((with_reducible refine gate_dst (N := 1) rfl ?_); refine box_event ?hg (N := 1) ?hd (cs := #[.int .u8 x.f0, .int .i64 x.f1.f0, .int .i64 x.f1.f1, .int .i64 x.f1.f2, .int .i64 x.f1.f3, .int .i64 x.f2, .slice B x.f3.length cb]) (t := 26) ?hr ?_; (case hd => rfl); (case hg => rfl); (case hr => (go_simp; done)); intro b1 hg w1 hbox hb; have HB := Aside0.mk hb; have K1 := Aside0.mk hbox; clear hb hbox hg; have c0 := (blk_cell K1.out 0).trans rfl; have c1 := (blk_cell K1.out 1).trans rfl; have c2 := (blk_cell K1.out 2).trans rfl; have c3 := (blk_cell K1.out 3).trans rfl; have c4 := (blk_cell K1.out 4).trans rfl; have c5 := (blk_cell K1.out 5).trans rfl; have c6 := (blk_cell K1.out 6).trans rfl))
          go_ret
          exact ⟨rfl, HB.out⟩
        · rw [decide_eq_false i1]
          have i1b : decide (x.f2 ≤ 2147483647) = false := decide_eq_false i1
          go_enter Try.func177, Try.ntmps177
          go_wp2_with (((with_reducible refine gate_dst (N := 1) rfl ?_); refine box_event ?hg (N := 1) ?hd (cs := #[.int .u8 x.f0, .int .i64 x.f1.f0, .int .i64 x.f1.f1, .int .i64 x.f1.f2, .int .i64 x.f1.f3, .int .i64 x.f2, .slice B x.f3.length cb]) (t := 26) ?hr ?_; (case hd => rfl); (case hg => rfl); (case hr => (go_simp; done)); intro b1 hg w1 hbox hb; have HB := Aside0.mk hb; have K1 := Aside0.mk hbox; clear hb hbox hg; have c0 := (blk_cell K1.out 0).trans rfl; have c1 := (blk_cell K1.out 1).trans rfl; have c2 := (blk_cell K1.out 2).trans rfl; have c3 := (blk_cell K1.out 3).trans rfl; have c4 := (blk_cell K1.out 4).trans rfl; have c5 := (blk_cell K1.out 5).trans rfl; have c6 := (blk_cell K1.out 6).trans rfl))
          go_ret
          exact ⟨rfl, HB.out⟩
      · rw [decide_eq_false i0, Bool.false_and]
        have i0b : decide (0 ≤ x.f2) = false := decide_eq_false i0
        go_enter Try.func177, Try.ntmps177
        go_wp2_with (((with_reducible refine gate_dst (N := 1) rfl ?_); refine box_event ?hg (N := 1) ?hd (cs := #[.int .u8 x.f0, .int .i64 x.f1.f0, .int .i64 x.f1.f1, .int .i64 x.f1.f2, .int .i64 x.f1.f3, .int .i64 x.f2, .slice B x.f3.length cb]) (t := 26) ?hr ?_; (case hd => rfl); (case hg => rfl); (case hr => (go_simp; done)); intro b1 hg w1 hbox hb; have HB := Aside0.mk hb; have K1 := Aside0.mk hbox; clear hb hbox hg; have c0 := (blk_cell K1.out 0).trans rfl; have c1 := (blk_cell K1.out 1).trans rfl; have c2 := (blk_cell K1.out 2).trans rfl; have c3 := (blk_cell K1.out 3).trans rfl; have c4 := (blk_cell K1.out 4).trans rfl; have c5 := (blk_cell K1.out 5).trans rfl; have c6 := (blk_cell K1.out 6).trans rfl))
        go_ret
        exact ⟨rfl, HB.out⟩
    · rw [decide_eq_false l0, Bool.false_and]
      have l1 : ((x.f3.length : Int) == 0) = false := by simp; intro h; exact l0 (by simp [h])
      have l2 : (x.f3.length == 0) = false := by simpa using l0
      clear l0
      go_enter Try.func177, Try.ntmps177
      go_wp2_with (((with_reducible refine gate_dst (N := 1) rfl ?_); refine box_event ?hg (N := 1) ?hd (cs := #[.int .u8 x.f0, .int .i64 x.f1.f0, .int .i64 x.f1.f1, .int .i64 x.f1.f2, .int .i64 x.f1.f3, .int .i64 x.f2, .slice B x.f3.length cb]) (t := 26) ?hr ?_; (case hd => rfl); (case hg => rfl); (case hr => (go_simp; done)); intro b1 hg w1 hbox hb; have HB := Aside0.mk hb; have K1 := Aside0.mk hbox; clear hb hbox hg; have c0 := (blk_cell K1.out 0).trans rfl; have c1 := (blk_cell K1.out 1).trans rfl; have c2 := (blk_cell K1.out 2).trans rfl; have c3 := (blk_cell K1.out 3).trans rfl; have c4 := (blk_cell K1.out 4).trans rfl; have c5 := (blk_cell K1.out 5).trans rfl; have c6 := (blk_cell K1.out 6).trans rfl))
      go_ret
      exact ⟨rfl, HB.out⟩
  · rw [if_neg k1]
    have k1b : (x.f0 == 1) = false := beq_eq_false_iff_ne.mpr k1
    by_cases k2 : x.f0 = 2
    · rw [if_pos (.inl k2)]
      have k2b : (x.f0 == 2) = true := beq_iff_eq.mpr k2
      clear k2 k1
      by_cases l0 : 2 ≤ x.f3.length
      · rw [decide_eq_true l0, Bool.true_and]
        have l1 : (2 : Int) ≤ (x.f3.length : Int) := by omega
        by_cases i0 : x.f2 = 0
        · rw [decide_eq_true i0]
          have i0b : (x.f2 == 0) = true := beq_iff_eq.mpr i0
          clear i0
          go_enter Try.func177, Try.ntmps177
          go_wp2_with (((with_reducible refine gate_dst (N := 1) rfl ?_); refine box_event ?hg (N := 1) ?hd (cs := #[.int .u8 x.f0, .int .i64 x.f1.f0, .int .i64 x.f1.f1, .int .i64 x.f1.f2, .int .i64 x.f1.f3, .int .i64 x.f2, .slice B x.f3.length cb]) (t := 26) ?hr ?_; (case hd => rfl); (case hg => rfl); (case hr => (go_simp; done)); intro b1 hg w1 hbox hb; have HB := Aside0.mk hb; have K1 := Aside0.mk hbox; clear hb hbox hg; have c0 := (blk_cell K1.out 0).trans rfl; have c1 := (blk_cell K1.out 1).trans rfl; have c2 := (blk_cell K1.out 2).trans rfl; have c3 := (blk_cell K1.out 3).trans rfl; have c4 := (blk_cell K1.out 4).trans rfl; have c5 := (blk_cell K1.out 5).trans rfl; have c6 := (blk_cell K1.out 6).trans rfl))
          go_ret
          exact ⟨rfl, HB.out⟩
        · rw [decide_eq_false i0]
          have i0b : (x.f2 == 0) = false := beq_eq_false_iff_ne.mpr i0
          clear i0
          go_enter Try.func177, Try.ntmps177
          go_wp2_with (((with_reducible refine gate_dst (N := 1) rfl ?_); refine box_event ?hg (N := 1) ?hd (cs := #[.int .u8 x.f0, .int .i64 x.f1.f0, .int .i64 x.f1.f1, .int .i64 x.f1.f2, .int .i64 x.f1.f3, .int .i64 x.f2, .slice B x.f3.length cb]) (t := 26) ?hr ?_; (case hd => rfl); (case hg => rfl); (case hr => (go_simp; done)); intro b1 hg w1 hbox hb; have HB := Aside0.mk hb; have K1 := Aside0.mk hbox; clear hb hbox hg; have c0 := (blk_cell K1.out 0).trans rfl; have c1 := (blk_cell K1.out 1).trans rfl; have c2 := (blk_cell K1.out 2).trans rfl; have c3 := (blk_cell K1.out 3).trans rfl; have c4 := (blk_cell K1.out 4).trans rfl; have c5 := (blk_cell K1.out 5).trans rfl; have c6 := (blk_cell K1.out 6).trans rfl))
          go_ret
          exact ⟨rfl, HB.out⟩
      · rw [decide_eq_false l0, Bool.false_and]
        have l1 : ¬ (2 : Int) ≤ (x.f3.length : Int) := by omega
        go_enter Try.func177, Try.ntmps177
        go_wp2_with (((with_reducible refine gate_dst (N := 1) rfl ?_); refine box_event ?hg (N := 1) ?hd (cs := #[.int .u8 x.f0, .int .i64 x.f1.f0, .int .i64 x.f1.f1, .int .i64 x.f1.f2, .int .i64 x.f1.f3, .int .i64 x.f2, .slice B x.f3.length cb]) (t := 26) ?hr ?_; (case hd => rfl); (case hg => rfl); (case hr => (go_simp; done)); intro b1 hg w1 hbox hb; have HB := Aside0.mk hb; have K1 := Aside0.mk hbox; clear hb hbox hg; have c0 := (blk_cell K1.out 0).trans rfl; have c1 := (blk_cell K1.out 1).trans rfl; have c2 := (blk_cell K1.out 2).trans rfl; have c3 := (blk_cell K1.out 3).trans rfl; have c4 := (blk_cell K1.out 4).trans rfl; have c5 := (blk_cell K1.out 5).trans rfl; have c6 := (blk_cell K1.out 6).trans rfl))
        go_ret
        exact ⟨rfl, HB.out⟩
    · by_cases k3 : x.f0 = 3
      · rw [if_pos (.inr k3)]
        have k2b : (x.f0 == 2) = false := beq_eq_false_iff_ne.mpr k2
        have k3b : (x.f0 == 3) = true := beq_iff_eq.mpr k3
        clear k3 k2 k1
        by_cases l0 : 2 ≤ x.f3.length
        · rw [decide_eq_true l0, Bool.true_and]
          have l1 : (2 : Int) ≤ (x.f3.length : Int) := by omega
          by_cases i0 : x.f2 = 0
          · rw [decide_eq_true i0]
            have i0b : (x.f2 == 0) = true := beq_iff_eq.mpr i0
            clear i0
            go_enter Try.func177, Try.ntmps177
            go_wp2_with (((with_reducible refine gate_dst (N := 1) rfl ?_); refine box_event ?hg (N := 1) ?hd (cs := #[.int .u8 x.f0, .int .i64 x.f1.f0, .int .i64 x.f1.f1, .int .i64 x.f1.f2, .int .i64 x.f1.f3, .int .i64 x.f2, .slice B x.f3.length cb]) (t := 26) ?hr ?_; (case hd => rfl); (case hg => rfl); (case hr => (go_simp; done)); intro b1 hg w1 hbox hb; have HB := Aside0.mk hb; have K1 := Aside0.mk hbox; clear hb hbox hg; have c0 := (blk_cell K1.out 0).trans rfl; have c1 := (blk_cell K1.out 1).trans rfl; have c2 := (blk_cell K1.out 2).trans rfl; have c3 := (blk_cell K1.out 3).trans rfl; have c4 := (blk_cell K1.out 4).trans rfl; have c5 := (blk_cell K1.out 5).trans rfl; have c6 := (blk_cell K1.out 6).trans rfl))
            go_ret
            exact ⟨rfl, HB.out⟩
          · rw [decide_eq_false i0]
            have i0b : (x.f2 == 0) = false := beq_eq_false_iff_ne.mpr i0
            clear i0
            go_enter Try.func177, Try.ntmps177
            go_wp2_with (((with_reducible refine gate_dst (N := 1) rfl ?_); refine box_event ?hg (N := 1) ?hd (cs := #[.int .u8 x.f0, .int .i64 x.f1.f0, .int .i64 x.f1.f1, .int .i64 x.f1.f2, .int .i64 x.f1.f3, .int .i64 x.f2, .slice B x.f3.length cb]) (t := 26) ?hr ?_; (case hd => rfl); (case hg => rfl); (case hr => (go_simp; done)); intro b1 hg w1 hbox hb; have HB := Aside0.mk hb; have K1 := Aside0.mk hbox; clear hb hbox hg; have c0 := (blk_cell K1.out 0).trans rfl; have c1 := (blk_cell K1.out 1).trans rfl; have c2 := (blk_cell K1.out 2).trans rfl; have c3 := (blk_cell K1.out 3).trans rfl; have c4 := (blk_cell K1.out 4).trans rfl; have c5 := (blk_cell K1.out 5).trans rfl; have c6 := (blk_cell K1.out 6).trans rfl))
            go_ret
            exact ⟨rfl, HB.out⟩
        · rw [decide_eq_false l0, Bool.false_and]
          have l1 : ¬ (2 : Int) ≤ (x.f3.length : Int) := by omega
          go_enter Try.func177, Try.ntmps177
          go_wp2_with (((with_reducible refine gate_dst (N := 1) rfl ?_); refine box_event ?hg (N := 1) ?hd (cs := #[.int .u8 x.f0, .int .i64 x.f1.f0, .int .i64 x.f1.f1, .int .i64 x.f1.f2, .int .i64 x.f1.f3, .int .i64 x.f2, .slice B x.f3.length cb]) (t := 26) ?hr ?_; (case hd => rfl); (case hg => rfl); (case hr => (go_simp; done)); intro b1 hg w1 hbox hb; have HB := Aside0.mk hb; have K1 := Aside0.mk hbox; clear hb hbox hg; have c0 := (blk_cell K1.out 0).trans rfl; have c1 := (blk_cell K1.out 1).trans rfl; have c2 := (blk_cell K1.out 2).trans rfl; have c3 := (blk_cell K1.out 3).trans rfl; have c4 := (blk_cell K1.out 4).trans rfl; have c5 := (blk_cell K1.out 5).trans rfl; have c6 := (blk_cell K1.out 6).trans rfl))
          go_ret
          exact ⟨rfl, HB.out⟩
      · rw [if_neg (fun h => h.elim k2 k3)]
        have k2b : (x.f0 == 2) = false := beq_eq_false_iff_ne.mpr k2
        have k3b : (x.f0 == 3) = false := beq_eq_false_iff_ne.mpr k3
        go_enter Try.func177, Try.ntmps177
        go_wp2_with (((with_reducible refine gate_dst (N := 1) rfl ?_); refine box_event ?hg (N := 1) ?hd (cs := #[.int .u8 x.f0, .int .i64 x.f1.f0, .int .i64 x.f1.f1, .int .i64 x.f1.f2, .int .i64 x.f1.f3, .int .i64 x.f2, .slice B x.f3.length cb]) (t := 26) ?hr ?_; (case hd => rfl); (case hg => rfl); (case hr => (go_simp; done)); intro b1 hg w1 hbox hb; have HB := Aside0.mk hb; have K1 := Aside0.mk hbox; clear hb hbox hg; have c0 := (blk_cell K1.out 0).trans rfl; have c1 := (blk_cell K1.out 1).trans rfl; have c2 := (blk_cell K1.out 2).trans rfl; have c3 := (blk_cell K1.out 3).trans rfl; have c4 := (blk_cell K1.out 4).trans rfl; have c5 := (blk_cell K1.out 5).trans rfl; have c6 := (blk_cell K1.out 6).trans rfl))
        go_ret
        exact ⟨rfl, HB.out⟩
end Go.Proofs.Ytfdmfgaiblfbhaa.P
