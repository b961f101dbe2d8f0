/- The row of the law LeastFits, second form (what it reads is of bulk at most 1048576), out of its plain law and its walk. -/
import Derived.Test.YtfdmfgaiblfbhaaMLeastFitsc
import Derived.Test.YtfdmfgaiblfbhaaMLeastFitsd
import Derived.Test.YtfdmfgaiblfbhaaMLeastFitse
import Derived.Test.YtfdmfgaiblfbhaaMLeastFitsf
import Derived.Test.YtfdmfgaiblfbhaaRows
import Derived.ProofKit
import Derived.WalkKit
import Derived.OpenShut
import Derived.ShutString
import Derived.ChangeOld
import Derived.Below
import Derived.SizedLaws
import Derived.JoinedCond
namespace Go.Proofs.Ytfdmfgaiblfbhaa.P
open Go.RowKit Go.Proofs.YtfdmfgaiblfbhaaW.PrintWords Go.Proofs.YtfdmfgaiblfbhaaW.PrintLast Go.Proofs.YtfdmfgaiblfbhaaW.PrintMore
attribute [local go_sem] max2_int min2_int max_two min_two max_three min_three max_four min_four   -- for this text's walks alone
set_option linter.unusedVariables false
set_option linter.unusedSimpArgs false

/-! ### sashlaw08_LeastFits: function 22 -/
noncomputable def sashlaw08_LeastFits.j0 : Nat → Bool → Int → Int → Int → Int → Int → Int → List (S26) → Option (Bool)
 | 0, _, _, _, _, _, _, _, _ => none
 | k + 1, x11, x1114000, x1114001, x1114002, x1114003, x1114004, x1114005, x1114006 => if x11 = true then ((sashlaw08_awake.f).bind fun t1116 => (some t1116)) else ((least_Least.f k x1114000 x1114001 x1114002 x1114003 x1114004 x1114005 x1114006 1).bind fun t1117 => ((least_Least.f k x1114000 x1114001 x1114002 x1114003 x1114004 x1114005 x1114006 2).bind fun t1118 => ((least_Fits.f k x1114000 x1114001 x1114002 x1114003 x1114004 x1114005 x1114006 x1114003 x1114004).bind fun t1119 => (if t1119 = true then ((least_Fits.f k x1114000 x1114001 x1114002 x1114003 x1114004 x1114005 x1114006 t1117 t1118).bind fun t1120 => (if t1120 = true then ((least_Fits.f k x1114000 x1114001 x1114002 x1114003 x1114004 x1114005 x1114006 (wrap64 (t1117 - 1)) t1118).bind fun t1121 => (if t1121 = true then (some false) else ((least_Fits.f k x1114000 x1114001 x1114002 x1114003 x1114004 x1114005 x1114006 t1117 (wrap64 (t1118 - 1))).bind fun t1122 => (if t1122 = true then (some false) else (if t1117 ≥ 1 then (if t1118 ≥ 1 then (if t1117 ≤ x1114003 then (if t1118 ≤ x1114004 then ((sashlaw08_awake.f).bind fun t1123 => (some t1123)) else (some false)) else (some false)) else (some false)) else (some false)))))) else (some false))) else (some false)))))
noncomputable def sashlaw08_LeastFits.f (k : Nat) (a0_0 : Int) (a0_1 : Int) (a0_2 : Int) (a0_3 : Int) (a0_4 : Int) (a0_5 : Int) (l0_6 : List (S26)) : Option (Bool) := (sashref05_Great.f k a0_0 a0_1 a0_2 a0_3 a0_4 a0_5 l0_6).bind fun t1114 => (if t1114 = true then (sashlaw08_LeastFits.j0 k true a0_0 a0_1 a0_2 a0_3 a0_4 a0_5 l0_6) else ((sashref06_Tiles.f k a0_0 a0_1 a0_2 a0_3 a0_4 a0_5 l0_6).bind fun t1115 => (sashlaw08_LeastFits.j0 k (!t1115) a0_0 a0_1 a0_2 a0_3 a0_4 a0_5 l0_6)))
set_option maxHeartbeats 8000000 in
set_option maxRecDepth 100000 in
theorem sashlaw08_LeastFits.calls (k : Nat) (a0_0 : Int) (a0_1 : Int) (a0_2 : Int) (a0_3 : Int) (a0_4 : Int) (a0_5 : Int) (A0_6 : Option Addr) (c0_6 : Nat) (l0_6 : List (S26)) (r : Bool) (w : World) (hr0_6 : Kd.C k26 w A0_6 l0_6.length l0_6) (hc0_6 : l0_6.length ≤ c0_6) (h : sashlaw08_LeastFits.f k a0_0 a0_1 a0_2 a0_3 a0_4 a0_5 l0_6 = some r) :
  Calls Try.prog 22 #[.agg #[.int .u8 a0_0, .int .i64 a0_1, .int .i64 a0_2, .int .i64 a0_3, .int .i64 a0_4, .int .i64 a0_5, .slice A0_6 l0_6.length c0_6]] w fun e w' => e = .returned (.bool r) ∧ Below w.heap.size w w' := by
 have hu26 := Try.underlying26
 have HR0_6 := Aside0.mk hr0_6
 have HC0_6 := Aside0.mk hc0_6
 clear hr0_6 hc0_6
 have HB := Aside0.mk (Below.refl w.heap.size w)
 have H : ((sashref05_Great.f k a0_0 a0_1 a0_2 a0_3 a0_4 a0_5 l0_6).bind fun t1114 => (if t1114 = true then (sashlaw08_LeastFits.j0 k true a0_0 a0_1 a0_2 a0_3 a0_4 a0_5 l0_6) else ((sashref06_Tiles.f k a0_0 a0_1 a0_2 a0_3 a0_4 a0_5 l0_6).bind fun t1115 => (sashlaw08_LeastFits.j0 k (!t1115) a0_0 a0_1 a0_2 a0_3 a0_4 a0_5 l0_6)))) = some r := h
 clear h
 have HC2 := Aside0.mk H
 clear H
 go_enter Try.func22, Try.ntmps22
 go_upto_region 1 with (((with_reducible refine gate_dst (N := 1) rfl ?_); refine box_event ?hg (N := 1) ?hd (cs := #[.int .u8 a0_0, .int .i64 a0_1, .int .i64 a0_2, .int .i64 a0_3, .int .i64 a0_4, .int .i64 a0_5, .slice A0_6 l0_6.length c0_6]) (t := 26) ?hr ?_; (case hd => rfl); (case hg => rfl); (case hr => (go_simp; done)); intro gb1113 hg w3 hbox hb; have BK1113 := Aside0.mk (hbox); replace HB := Aside0.mk (below_step (by repeat ((with_reducible exact HB.out))) hb); clear hb hbox hg))
 (skip)
 go_cut [11] (fun v11 wc => ∃ (kq : Nat) (x11_1 : Bool), v11 = .bool x11_1 ∧ Aside0 (sashlaw08_LeastFits.j0 kq x11_1 a0_0 a0_1 a0_2 a0_3 a0_4 a0_5 l0_6 = some r) ∧ Aside0 (kq ≤ k) ∧ Aside0 (wc.heap[gb1113]? = some (.cells #[.int .u8 a0_0, .int .i64 a0_1, .int .i64 a0_2, .int .i64 a0_3, .int .i64 a0_4, .int .i64 a0_5, (.slice A0_6 l0_6.length c0_6)] 26 (0, 0))) ∧ Aside0 (Below w.heap.size w wc))
 case first =>
  have H := HC2.out
  clear HC2
  replace H := Option.bind_eq_some_iff.mp H
  obtain ⟨t1114, A40, H⟩ := H
  replace H : (if t1114 = true then (sashlaw08_LeastFits.j0 k true a0_0 a0_1 a0_2 a0_3 a0_4 a0_5 l0_6) else ((sashref06_Tiles.f k a0_0 a0_1 a0_2 a0_3 a0_4 a0_5 l0_6).bind fun t1115 => (sashlaw08_LeastFits.j0 k (!t1115) a0_0 a0_1 a0_2 a0_3 a0_4 a0_5 l0_6))) = some r := H
  have A4 := Aside0.mk A40
  clear A40
  by_cases c5 : t1114 = true
  ·subst c5
   have H1 : (sashlaw08_LeastFits.j0 k true a0_0 a0_1 a0_2 a0_3 a0_4 a0_5 l0_6) = some r := by rw [if_pos rfl] at H; exact H
   clear H
   have H := H1
   clear H1
   have H' := Aside0.mk H
   clear H
   have hcz6_0 : w3.cell? ⟨gb1113, 0, none⟩ = some (.int .u8 a0_0) := (blk_cell BK1113.out 0).trans rfl
   have hcz6_1 : w3.cell? ⟨gb1113, 1, none⟩ = some (.int .i64 a0_1) := (blk_cell BK1113.out 1).trans rfl
   have hcz6_2 : w3.cell? ⟨gb1113, 2, none⟩ = some (.int .i64 a0_2) := (blk_cell BK1113.out 2).trans rfl
   have hcz6_3 : w3.cell? ⟨gb1113, 3, none⟩ = some (.int .i64 a0_3) := (blk_cell BK1113.out 3).trans rfl
   have hcz6_4 : w3.cell? ⟨gb1113, 4, none⟩ = some (.int .i64 a0_4) := (blk_cell BK1113.out 4).trans rfl
   have hcz6_5 : w3.cell? ⟨gb1113, 5, none⟩ = some (.int .i64 a0_5) := (blk_cell BK1113.out 5).trans rfl
   have hcz6_6 : w3.cell? ⟨gb1113, 6, none⟩ = some (.slice A0_6 l0_6.length c0_6) := (blk_cell BK1113.out 6).trans rfl
   have hfz6_0 := blk_frozen BK1113.out 0
   have hfz6_1 := blk_frozen BK1113.out 1
   have hfz6_2 := blk_frozen BK1113.out 2
   have hfz6_3 := blk_frozen BK1113.out 3
   have hfz6_4 := blk_frozen BK1113.out 4
   have hfz6_5 := blk_frozen BK1113.out 5
   have hfz6_6 := blk_frozen BK1113.out 6
   go_wp2_with (((with_reducible refine gate_callee (f := 34) rfl ?_); refine goesL_ (some 6) rfl rfl Try.func34 (by kernel_rfl) rfl #[.agg #[.int .u8 a0_0, .int .i64 a0_1, .int .i64 a0_2, .int .i64 a0_3, .int .i64 a0_4, .int .i64 a0_5, .slice A0_6 l0_6.length c0_6]] rfl (by (try simp only [List.map_toArray, List.map_cons, List.map_nil]); rfl) ?_; (with_reducible refine (sashref05_Great.calls k a0_0 a0_1 a0_2 a0_3 a0_4 a0_5 _ _ l0_6 true _ ?side1 ?side2 A4.out).mono ?_); (case side1 => repeat (exact (Kd.C_below HR0_6.out HB.out))); (case side2 => exact HC0_6.out); rintro e w7 ⟨rfl, hb⟩; refine ⟨_, rfl, ?_⟩; replace BK1113 := Aside0.mk (blk_below BK1113.out hb); replace HB := Aside0.mk (below_step (by repeat ((with_reducible exact HB.out))) hb); (try clear hb)))
   go_meet
   case rel => exact ⟨_, (true), (by rfl), H', ⟨by omega⟩, ⟨by exact BK1113.out⟩, ⟨by repeat ((with_reducible exact HB.out))⟩⟩
  ·replace c5 := Bool.eq_false_iff.mpr c5
   subst c5
   have H1 : ((sashref06_Tiles.f k a0_0 a0_1 a0_2 a0_3 a0_4 a0_5 l0_6).bind fun t1115 => (sashlaw08_LeastFits.j0 k (!t1115) a0_0 a0_1 a0_2 a0_3 a0_4 a0_5 l0_6)) = some r := by rw [if_neg (show ¬ (false = true) by decide)] at H; exact H
   clear H
   have H := H1
   clear H1
   replace H := Option.bind_eq_some_iff.mp H
   obtain ⟨t1115, A80, H⟩ := H
   replace H : (sashlaw08_LeastFits.j0 k (!t1115) a0_0 a0_1 a0_2 a0_3 a0_4 a0_5 l0_6) = some r := H
   have A8 := Aside0.mk A80
   clear A80
   have H' := Aside0.mk H
   clear H
   have hcz9_0 : w3.cell? ⟨gb1113, 0, none⟩ = some (.int .u8 a0_0) := (blk_cell BK1113.out 0).trans rfl
   have hcz9_1 : w3.cell? ⟨gb1113, 1, none⟩ = some (.int .i64 a0_1) := (blk_cell BK1113.out 1).trans rfl
   have hcz9_2 : w3.cell? ⟨gb1113, 2, none⟩ = some (.int .i64 a0_2) := (blk_cell BK1113.out 2).trans rfl
   have hcz9_3 : w3.cell? ⟨gb1113, 3, none⟩ = some (.int .i64 a0_3) := (blk_cell BK1113.out 3).trans rfl
   have hcz9_4 : w3.cell? ⟨gb1113, 4, none⟩ = some (.int .i64 a0_4) := (blk_cell BK1113.out 4).trans rfl
   have hcz9_5 : w3.cell? ⟨gb1113, 5, none⟩ = some (.int .i64 a0_5) := (blk_cell BK1113.out 5).trans rfl
   have hcz9_6 : w3.cell? ⟨gb1113, 6, none⟩ = some (.slice A0_6 l0_6.length c0_6) := (blk_cell BK1113.out 6).trans rfl
   have hfz9_0 := blk_frozen BK1113.out 0
   have hfz9_1 := blk_frozen BK1113.out 1
   have hfz9_2 := blk_frozen BK1113.out 2
   have hfz9_3 := blk_frozen BK1113.out 3
   have hfz9_4 := blk_frozen BK1113.out 4
   have hfz9_5 := blk_frozen BK1113.out 5
   have hfz9_6 := blk_frozen BK1113.out 6
   go_wp2_with (first | ((with_reducible refine gate_callee (f := 34) rfl ?_); refine goesL_ (some 6) rfl rfl Try.func34 (by kernel_rfl) rfl #[.agg #[.int .u8 a0_0, .int .i64 a0_1, .int .i64 a0_2, .int .i64 a0_3, .int .i64 a0_4, .int .i64 a0_5, .slice A0_6 l0_6.length c0_6]] rfl (by (try simp only [List.map_toArray, List.map_cons, List.map_nil]); rfl) ?_; (with_reducible refine (sashref05_Great.calls k a0_0 a0_1 a0_2 a0_3 a0_4 a0_5 _ _ l0_6 false _ ?side1 ?side2 A4.out).mono ?_); (case side1 => repeat (exact (Kd.C_below HR0_6.out HB.out))); (case side2 => exact HC0_6.out); rintro e w10 ⟨rfl, hb⟩; refine ⟨_, rfl, ?_⟩; replace BK1113 := Aside0.mk (blk_below BK1113.out hb); replace HB := Aside0.mk (below_step (by repeat ((with_reducible exact HB.out))) hb); (try clear hb); have hcz11_0 : w10.cell? ⟨gb1113, 0, none⟩ = some (.int .u8 a0_0) := (blk_cell BK1113.out 0).trans rfl; have hcz11_1 : w10.cell? ⟨gb1113, 1, none⟩ = some (.int .i64 a0_1) := (blk_cell BK1113.out 1).trans rfl; have hcz11_2 : w10.cell? ⟨gb1113, 2, none⟩ = some (.int .i64 a0_2) := (blk_cell BK1113.out 2).trans rfl; have hcz11_3 : w10.cell? ⟨gb1113, 3, none⟩ = some (.int .i64 a0_3) := (blk_cell BK1113.out 3).trans rfl; have hcz11_4 : w10.cell? ⟨gb1113, 4, none⟩ = some (.int .i64 a0_4) := (blk_cell BK1113.out 4).trans rfl; have hcz11_5 : w10.cell? ⟨gb1113, 5, none⟩ = some (.int .i64 a0_5) := (blk_cell BK1113.out 5).trans rfl; have hcz11_6 : w10.cell? ⟨gb1113, 6, none⟩ = some (.slice A0_6 l0_6.length c0_6) := (blk_cell BK1113.out 6).trans rfl; have hfz11_0 := blk_frozen BK1113.out 0; have hfz11_1 := blk_frozen BK1113.out 1; have hfz11_2 := blk_frozen BK1113.out 2; have hfz11_3 := blk_frozen BK1113.out 3; have hfz11_4 := blk_frozen BK1113.out 4; have hfz11_5 := blk_frozen BK1113.out 5; have hfz11_6 := blk_frozen BK1113.out 6) | (go_at_call 84; (with_reducible refine (sashref06_Tiles.calls k a0_0 a0_1 a0_2 a0_3 a0_4 a0_5 _ _ l0_6 t1115 _ ?side1 ?side2 A8.out).mono ?_); (case side1 => repeat (exact (Kd.C_below HR0_6.out HB.out))); (case side2 => exact HC0_6.out); rintro e w12 ⟨rfl, hb⟩; replace BK1113 := Aside0.mk (blk_below BK1113.out hb); replace HB := Aside0.mk (below_step (by repeat ((with_reducible exact HB.out))) hb); (try clear hb)))
   go_meet
   case rel => exact ⟨_, (!t1115), (by rfl), H', ⟨by omega⟩, ⟨by exact BK1113.out⟩, ⟨by repeat ((with_reducible exact HB.out))⟩⟩
 case rest =>
  clear HC2
  obtain ⟨kq, x11_1, rfl, HA, HJ1, BK1113, HB⟩ := hcut
  cases kq with
  | zero => exact absurd HA.out (by simp [sashlaw08_LeastFits.j0])
  | succ kj1 =>
   have H := HA.out
   clear HA
   simp only [sashlaw08_LeastFits.j0] at H
   by_cases c13 : x11_1 = true
   ·subst c13
    have H1 : ((sashlaw08_awake.f).bind fun t1116 => (some t1116)) = some r := by rw [if_pos rfl] at H; exact H
    clear H
    have H := H1
    clear H1
    replace H := Option.bind_eq_some_iff.mp H
    obtain ⟨t1116, A140, H⟩ := H
    replace H : (some t1116) = some r := H
    have A14 := Aside0.mk A140
    clear A140
    obtain rfl := Option.some.inj H
    go_wp2_with (((with_reducible refine gate_callee (f := 85) rfl ?_); refine goesL_ (some 12) rfl rfl Try.func85 (by kernel_rfl) rfl #[] rfl (by (try simp only [List.map_toArray, List.map_cons, List.map_nil]); done) ?_; (with_reducible refine (sashlaw08_awake.calls  t1116 _ A14.out).mono ?_); rintro e w15 ⟨rfl, hb⟩; refine ⟨_, rfl, ?_⟩; replace BK1113 := Aside0.mk (blk_below BK1113.out hb); replace HB := Aside0.mk (below_step (by repeat ((with_reducible exact HB.out))) hb); (try clear hb)))
    go_ret
    exact ⟨by rfl, by repeat ((with_reducible exact HB.out))⟩
   ·replace c13 := Bool.eq_false_iff.mpr c13
    subst c13
    have H1 : ((least_Least.f kj1 a0_0 a0_1 a0_2 a0_3 a0_4 a0_5 l0_6 1).bind fun t1117 => ((least_Least.f kj1 a0_0 a0_1 a0_2 a0_3 a0_4 a0_5 l0_6 2).bind fun t1118 => ((least_Fits.f kj1 a0_0 a0_1 a0_2 a0_3 a0_4 a0_5 l0_6 a0_3 a0_4).bind fun t1119 => (if t1119 = true then ((least_Fits.f kj1 a0_0 a0_1 a0_2 a0_3 a0_4 a0_5 l0_6 t1117 t1118).bind fun t1120 => (if t1120 = true then ((least_Fits.f kj1 a0_0 a0_1 a0_2 a0_3 a0_4 a0_5 l0_6 (wrap64 (t1117 - 1)) t1118).bind fun t1121 => (if t1121 = true then (some false) else ((least_Fits.f kj1 a0_0 a0_1 a0_2 a0_3 a0_4 a0_5 l0_6 t1117 (wrap64 (t1118 - 1))).bind fun t1122 => (if t1122 = true then (some false) else (if t1117 ≥ 1 then (if t1118 ≥ 1 then (if t1117 ≤ a0_3 then (if t1118 ≤ a0_4 then ((sashlaw08_awake.f).bind fun t1123 => (some t1123)) else (some false)) else (some false)) else (some false)) else (some false)))))) else (some false))) else (some false))))) = some r := by rw [if_neg (show ¬ (false = true) by decide)] at H; exact H
    clear H
    have H := H1
    clear H1
    replace H := Option.bind_eq_some_iff.mp H
    obtain ⟨t1117, A160, H⟩ := H
    replace H : ((least_Least.f kj1 a0_0 a0_1 a0_2 a0_3 a0_4 a0_5 l0_6 2).bind fun t1118 => ((least_Fits.f kj1 a0_0 a0_1 a0_2 a0_3 a0_4 a0_5 l0_6 a0_3 a0_4).bind fun t1119 => (if t1119 = true then ((least_Fits.f kj1 a0_0 a0_1 a0_2 a0_3 a0_4 a0_5 l0_6 t1117 t1118).bind fun t1120 => (if t1120 = true then ((least_Fits.f kj1 a0_0 a0_1 a0_2 a0_3 a0_4 a0_5 l0_6 (wrap64 (t1117 - 1)) t1118).bind fun t1121 => (if t1121 = true then (some false) else ((least_Fits.f kj1 a0_0 a0_1 a0_2 a0_3 a0_4 a0_5 l0_6 t1117 (wrap64 (t1118 - 1))).bind fun t1122 => (if t1122 = true then (some false) else (if t1117 ≥ 1 then (if t1118 ≥ 1 then (if t1117 ≤ a0_3 then (if t1118 ≤ a0_4 then ((sashlaw08_awake.f).bind fun t1123 => (some t1123)) else (some false)) else (some false)) else (some false)) else (some false)))))) else (some false))) else (some false)))) = some r := H
    have A16 := Aside0.mk A160
    clear A160
    replace H := Option.bind_eq_some_iff.mp H
    obtain ⟨t1118, A170, H⟩ := H
    replace H : ((least_Fits.f kj1 a0_0 a0_1 a0_2 a0_3 a0_4 a0_5 l0_6 a0_3 a0_4).bind fun t1119 => (if t1119 = true then ((least_Fits.f kj1 a0_0 a0_1 a0_2 a0_3 a0_4 a0_5 l0_6 t1117 t1118).bind fun t1120 => (if t1120 = true then ((least_Fits.f kj1 a0_0 a0_1 a0_2 a0_3 a0_4 a0_5 l0_6 (wrap64 (t1117 - 1)) t1118).bind fun t1121 => (if t1121 = true then (some false) else ((least_Fits.f kj1 a0_0 a0_1 a0_2 a0_3 a0_4 a0_5 l0_6 t1117 (wrap64 (t1118 - 1))).bind fun t1122 => (if t1122 = true then (some false) else (if t1117 ≥ 1 then (if t1118 ≥ 1 then (if t1117 ≤ a0_3 then (if t1118 ≤ a0_4 then ((sashlaw08_awake.f).bind fun t1123 => (some t1123)) else (some false)) else (some false)) else (some false)) else (some false)))))) else (some false))) else (some false))) = some r := H
    have A17 := Aside0.mk A170
    clear A170
    replace H := Option.bind_eq_some_iff.mp H
    obtain ⟨t1119, A180, H⟩ := H
    replace H : (if t1119 = true then ((least_Fits.f kj1 a0_0 a0_1 a0_2 a0_3 a0_4 a0_5 l0_6 t1117 t1118).bind fun t1120 => (if t1120 = true then ((least_Fits.f kj1 a0_0 a0_1 a0_2 a0_3 a0_4 a0_5 l0_6 (wrap64 (t1117 - 1)) t1118).bind fun t1121 => (if t1121 = true then (some false) else ((least_Fits.f kj1 a0_0 a0_1 a0_2 a0_3 a0_4 a0_5 l0_6 t1117 (wrap64 (t1118 - 1))).bind fun t1122 => (if t1122 = true then (some false) else (if t1117 ≥ 1 then (if t1118 ≥ 1 then (if t1117 ≤ a0_3 then (if t1118 ≤ a0_4 then ((sashlaw08_awake.f).bind fun t1123 => (some t1123)) else (some false)) else (some false)) else (some false)) else (some false)))))) else (some false))) else (some false)) = some r := H
    have A18 := Aside0.mk A180
    clear A180
    by_cases c19 : t1119 = true
    ·subst c19
     have H1 : ((least_Fits.f kj1 a0_0 a0_1 a0_2 a0_3 a0_4 a0_5 l0_6 t1117 t1118).bind fun t1120 => (if t1120 = true then ((least_Fits.f kj1 a0_0 a0_1 a0_2 a0_3 a0_4 a0_5 l0_6 (wrap64 (t1117 - 1)) t1118).bind fun t1121 => (if t1121 = true then (some false) else ((least_Fits.f kj1 a0_0 a0_1 a0_2 a0_3 a0_4 a0_5 l0_6 t1117 (wrap64 (t1118 - 1))).bind fun t1122 => (if t1122 = true then (some false) else (if t1117 ≥ 1 then (if t1118 ≥ 1 then (if t1117 ≤ a0_3 then (if t1118 ≤ a0_4 then ((sashlaw08_awake.f).bind fun t1123 => (some t1123)) else (some false)) else (some false)) else (some false)) else (some false)))))) else (some false))) = some r := by rw [if_pos rfl] at H; exact H
     clear H
     have H := H1
     clear H1
     replace H := Option.bind_eq_some_iff.mp H
     obtain ⟨t1120, A200, H⟩ := H
     replace H : (if t1120 = true then ((least_Fits.f kj1 a0_0 a0_1 a0_2 a0_3 a0_4 a0_5 l0_6 (wrap64 (t1117 - 1)) t1118).bind fun t1121 => (if t1121 = true then (some false) else ((least_Fits.f kj1 a0_0 a0_1 a0_2 a0_3 a0_4 a0_5 l0_6 t1117 (wrap64 (t1118 - 1))).bind fun t1122 => (if t1122 = true then (some false) else (if t1117 ≥ 1 then (if t1118 ≥ 1 then (if t1117 ≤ a0_3 then (if t1118 ≤ a0_4 then ((sashlaw08_awake.f).bind fun t1123 => (some t1123)) else (some false)) else (some false)) else (some false)) else (some false)))))) else (some false)) = some r := H
     have A20 := Aside0.mk A200
     clear A200
     by_cases c21 : t1120 = true
     ·subst c21
      have H1 : ((least_Fits.f kj1 a0_0 a0_1 a0_2 a0_3 a0_4 a0_5 l0_6 (wrap64 (t1117 - 1)) t1118).bind fun t1121 => (if t1121 = true then (some false) else ((least_Fits.f kj1 a0_0 a0_1 a0_2 a0_3 a0_4 a0_5 l0_6 t1117 (wrap64 (t1118 - 1))).bind fun t1122 => (if t1122 = true then (some false) else (if t1117 ≥ 1 then (if t1118 ≥ 1 then (if t1117 ≤ a0_3 then (if t1118 ≤ a0_4 then ((sashlaw08_awake.f).bind fun t1123 => (some t1123)) else (some false)) else (some false)) else (some false)) else (some false)))))) = some r := by rw [if_pos rfl] at H; exact H
      clear H
      have H := H1
      clear H1
      replace H := Option.bind_eq_some_iff.mp H
      obtain ⟨t1121, A220, H⟩ := H
      replace H : (if t1121 = true then (some false) else ((least_Fits.f kj1 a0_0 a0_1 a0_2 a0_3 a0_4 a0_5 l0_6 t1117 (wrap64 (t1118 - 1))).bind fun t1122 => (if t1122 = true then (some false) else (if t1117 ≥ 1 then (if t1118 ≥ 1 then (if t1117 ≤ a0_3 then (if t1118 ≤ a0_4 then ((sashlaw08_awake.f).bind fun t1123 => (some t1123)) else (some false)) else (some false)) else (some false)) else (some false))))) = some r := H
      have A22 := Aside0.mk A220
      clear A220
      by_cases c23 : t1121 = true
      ·subst c23
       have H1 : (some false) = some r := by rw [if_pos rfl] at H; exact H
       clear H
       have H := H1
       clear H1
       obtain rfl := Option.some.inj H
       try go_wp2
       replace BK1113 := Aside0.mk (blk_drew BK1113.out); replace HB := Aside0.mk (below_drew1 HB.out)
       refine start_ (n := 6) (S := fun w' => w'.cell? ⟨gb1113, 0, none⟩ = some (.int .u8 a0_0) ∧ w'.cell? ⟨gb1113, 1, none⟩ = some (.int .i64 a0_1) ∧ w'.cell? ⟨gb1113, 2, none⟩ = some (.int .i64 a0_2) ∧ w'.cell? ⟨gb1113, 3, none⟩ = some (.int .i64 a0_3) ∧ w'.cell? ⟨gb1113, 4, none⟩ = some (.int .i64 a0_4) ∧ w'.cell? ⟨gb1113, 5, none⟩ = some (.int .i64 a0_5) ∧ w'.cell? ⟨gb1113, 6, none⟩ = some (.slice A0_6 l0_6.length c0_6)) (ds := []) #[false, false, false, false, false, false] (by kernel_rfl) rfl rfl ⟨(blk_cell BK1113.out 0).trans rfl, (blk_cell BK1113.out 1).trans rfl, (blk_cell BK1113.out 2).trans rfl, (blk_cell BK1113.out 3).trans rfl, (blk_cell BK1113.out 4).trans rfl, (blk_cell BK1113.out 5).trans rfl, (blk_cell BK1113.out 6).trans rfl⟩ (fun hHeld => ?_)
       generalize wc.drew = w24 at BK1113 HB hHeld ⊢
       refine take_ (i := 0) (N := some 13) (v := ?_) (a' := ?_) #[true, false, false, false, false, false] rfl rfl (by kernel_rfl) (fun _ _ _ h => h) (Or.inl ⟨by rfl, ?_⟩) hHeld ?_ ?_
       rotate_left
       ·rintro w' ⟨s0, s1, s2, s3, s4, s5, s6⟩
        go_simp
        with_reducible rfl
       rotate_left
       ·simp only [Act.put, List.setIfInBounds_toArray, List.set_cons_zero, List.set_cons_succ, i64_w, i32_w]
        rfl
       refine take_ (i := 2) (N := some 15) (v := ?_) (a' := ?_) #[true, false, true, false, false, false] rfl rfl (by kernel_rfl) (fun _ _ _ h => h) (Or.inl ⟨by rfl, ?_⟩) hHeld ?_ ?_
       rotate_left
       ·rintro w' ⟨s0, s1, s2, s3, s4, s5, s6⟩
        go_simp
        with_reducible rfl
       rotate_left
       ·simp only [Act.put, List.setIfInBounds_toArray, List.set_cons_zero, List.set_cons_succ, i64_w, i32_w]
        rfl
       refine one_ (i := 1) (N := some 14) #[true, true, true, false, false, false] rfl rfl (by kernel_rfl) (by decide) (fun K hK => ?_)
       refine goes_ Try.func93 (by kernel_rfl) rfl #[.agg #[.int .u8 a0_0, .int .i64 a0_1, .int .i64 a0_2, .int .i64 a0_3, .int .i64 a0_4, .int .i64 a0_5, .slice A0_6 l0_6.length c0_6], .int .u8 1] (by rfl) rfl rfl (by (try simp only [List.map_toArray, List.map_cons, List.map_nil]); rfl) ?_
       with_reducible refine (least_Least.calls kj1 a0_0 a0_1 a0_2 a0_3 a0_4 a0_5 (fun k_ => k_ < w.heap.size) _ _ l0_6 1 t1117 _ ?side1 A16.out).mono ?_
       (case side1 => exact Kd.V_mk HC0_6.out (Kd.F_below (Kd.C_F k26_heap HR0_6.out) (by repeat ((with_reducible exact HB.out)))))
       rintro e w25 ⟨rfl, hb⟩
       refine ⟨_, rfl, ?_⟩
       replace BK1113 := Aside0.mk (blk_below BK1113.out hb); replace HB := Aside0.mk (below_step (by repeat ((with_reducible exact HB.out))) hb)
       (try clear hb)
       (skip)
       (skip)
       (skip)
       refine hK.out _ _ ⟨(blk_cell BK1113.out 0).trans rfl, (blk_cell BK1113.out 1).trans rfl, (blk_cell BK1113.out 2).trans rfl, (blk_cell BK1113.out 3).trans rfl, (blk_cell BK1113.out 4).trans rfl, (blk_cell BK1113.out 5).trans rfl, (blk_cell BK1113.out 6).trans rfl⟩ (fun hHeld => ?_)
       clear hK K
       refine norm_ (a' := ?_) ?_ ?_
       rotate_left
       ·show Act.put _ (some 14) _ = _
        simp only [Act.put, List.setIfInBounds_toArray, List.set_cons_zero, List.set_cons_succ, i64_w, i32_w]
        rfl
       refine one_ (i := 3) (N := some 16) #[true, true, true, true, false, false] rfl rfl (by kernel_rfl) (by decide) (fun K hK => ?_)
       refine goes_ Try.func93 (by kernel_rfl) rfl #[.agg #[.int .u8 a0_0, .int .i64 a0_1, .int .i64 a0_2, .int .i64 a0_3, .int .i64 a0_4, .int .i64 a0_5, .slice A0_6 l0_6.length c0_6], .int .u8 2] (by rfl) rfl rfl (by (try simp only [List.map_toArray, List.map_cons, List.map_nil]); rfl) ?_
       with_reducible refine (least_Least.calls kj1 a0_0 a0_1 a0_2 a0_3 a0_4 a0_5 (fun k_ => k_ < w.heap.size) _ _ l0_6 2 t1118 _ ?side1 A17.out).mono ?_
       (case side1 => exact Kd.V_mk HC0_6.out (Kd.F_below (Kd.C_F k26_heap HR0_6.out) (by repeat ((with_reducible exact HB.out)))))
       rintro e w26 ⟨rfl, hb⟩
       refine ⟨_, rfl, ?_⟩
       replace BK1113 := Aside0.mk (blk_below BK1113.out hb); replace HB := Aside0.mk (below_step (by repeat ((with_reducible exact HB.out))) hb)
       (try clear hb)
       (skip)
       (skip)
       (skip)
       refine hK.out _ _ ⟨(blk_cell BK1113.out 0).trans rfl, (blk_cell BK1113.out 1).trans rfl, (blk_cell BK1113.out 2).trans rfl, (blk_cell BK1113.out 3).trans rfl, (blk_cell BK1113.out 4).trans rfl, (blk_cell BK1113.out 5).trans rfl, (blk_cell BK1113.out 6).trans rfl⟩ (fun hHeld => ?_)
       clear hK K
       refine norm_ (a' := ?_) ?_ ?_
       rotate_left
       ·show Act.put _ (some 16) _ = _
        simp only [Act.put, List.setIfInBounds_toArray, List.set_cons_zero, List.set_cons_succ, i64_w, i32_w]
        rfl
       refine pure_ (i := 4) (N := some 3) (v := ?_) (a' := ?_) #[true, true, true, true, true, false] rfl rfl (by kernel_rfl) (fun _ _ _ h => h) (Or.inl ⟨by rfl, ?_⟩) ?_ ?_
       rotate_left
       ·intro w'
        go_simp
        with_reducible rfl
       rotate_left
       ·simp only [Act.put, List.setIfInBounds_toArray, List.set_cons_zero, List.set_cons_succ, i64_w, i32_w]
        rfl
       refine pure_ (i := 5) (N := some 4) (v := ?_) (a' := ?_) #[true, true, true, true, true, true] rfl rfl (by kernel_rfl) (fun _ _ _ h => h) (Or.inl ⟨by rfl, ?_⟩) ?_ ?_
       rotate_left
       ·intro w'
        go_simp
        with_reducible rfl
       rotate_left
       ·simp only [Act.put, List.setIfInBounds_toArray, List.set_cons_zero, List.set_cons_succ, i64_w, i32_w]
        rfl
       refine done_ (by kernel_rfl) ?_
       have hcz27_0 : w26.cell? ⟨gb1113, 0, none⟩ = some (.int .u8 a0_0) := (blk_cell BK1113.out 0).trans rfl
       have hcz27_1 : w26.cell? ⟨gb1113, 1, none⟩ = some (.int .i64 a0_1) := (blk_cell BK1113.out 1).trans rfl
       have hcz27_2 : w26.cell? ⟨gb1113, 2, none⟩ = some (.int .i64 a0_2) := (blk_cell BK1113.out 2).trans rfl
       have hcz27_3 : w26.cell? ⟨gb1113, 3, none⟩ = some (.int .i64 a0_3) := (blk_cell BK1113.out 3).trans rfl
       have hcz27_4 : w26.cell? ⟨gb1113, 4, none⟩ = some (.int .i64 a0_4) := (blk_cell BK1113.out 4).trans rfl
       have hcz27_5 : w26.cell? ⟨gb1113, 5, none⟩ = some (.int .i64 a0_5) := (blk_cell BK1113.out 5).trans rfl
       have hcz27_6 : w26.cell? ⟨gb1113, 6, none⟩ = some (.slice A0_6 l0_6.length c0_6) := (blk_cell BK1113.out 6).trans rfl
       have hfz27_0 := blk_frozen BK1113.out 0
       have hfz27_1 := blk_frozen BK1113.out 1
       have hfz27_2 := blk_frozen BK1113.out 2
       have hfz27_3 := blk_frozen BK1113.out 3
       have hfz27_4 := blk_frozen BK1113.out 4
       have hfz27_5 := blk_frozen BK1113.out 5
       have hfz27_6 := blk_frozen BK1113.out 6
       try go_wp2_with (first | ((with_reducible refine gate_callee (f := 96) rfl ?_); refine goesL_ (some 24) rfl rfl Try.func96 (by kernel_rfl) rfl #[.agg #[.int .u8 a0_0, .int .i64 a0_1, .int .i64 a0_2, .int .i64 a0_3, .int .i64 a0_4, .int .i64 a0_5, .slice A0_6 l0_6.length c0_6], .int .i64 a0_3, .int .i64 a0_4] rfl (by (try simp only [List.map_toArray, List.map_cons, List.map_nil]); rfl) ?_; (with_reducible refine (least_Fits.calls kj1 a0_0 a0_1 a0_2 a0_3 a0_4 a0_5 (fun k_ => k_ < w.heap.size) _ _ l0_6 a0_3 a0_4 true _ ?side1 A18.out).mono ?_); (case side1 => exact Kd.V_mk HC0_6.out (Kd.F_below (Kd.C_F k26_heap HR0_6.out) (by repeat ((with_reducible exact HB.out))))); rintro e w28 ⟨rfl, hb⟩; refine ⟨_, rfl, ?_⟩; replace BK1113 := Aside0.mk (blk_below BK1113.out hb); replace HB := Aside0.mk (below_step (by repeat ((with_reducible exact HB.out))) hb); (try clear hb); have hcz29_0 : w28.cell? ⟨gb1113, 0, none⟩ = some (.int .u8 a0_0) := (blk_cell BK1113.out 0).trans rfl; have hcz29_1 : w28.cell? ⟨gb1113, 1, none⟩ = some (.int .i64 a0_1) := (blk_cell BK1113.out 1).trans rfl; have hcz29_2 : w28.cell? ⟨gb1113, 2, none⟩ = some (.int .i64 a0_2) := (blk_cell BK1113.out 2).trans rfl; have hcz29_3 : w28.cell? ⟨gb1113, 3, none⟩ = some (.int .i64 a0_3) := (blk_cell BK1113.out 3).trans rfl; have hcz29_4 : w28.cell? ⟨gb1113, 4, none⟩ = some (.int .i64 a0_4) := (blk_cell BK1113.out 4).trans rfl; have hcz29_5 : w28.cell? ⟨gb1113, 5, none⟩ = some (.int .i64 a0_5) := (blk_cell BK1113.out 5).trans rfl; have hcz29_6 : w28.cell? ⟨gb1113, 6, none⟩ = some (.slice A0_6 l0_6.length c0_6) := (blk_cell BK1113.out 6).trans rfl; have hfz29_0 := blk_frozen BK1113.out 0; have hfz29_1 := blk_frozen BK1113.out 1; have hfz29_2 := blk_frozen BK1113.out 2; have hfz29_3 := blk_frozen BK1113.out 3; have hfz29_4 := blk_frozen BK1113.out 4; have hfz29_5 := blk_frozen BK1113.out 5; have hfz29_6 := blk_frozen BK1113.out 6) | (go_at_call 96; (with_reducible refine (least_Fits.calls kj1 a0_0 a0_1 a0_2 a0_3 a0_4 a0_5 (fun k_ => k_ < w.heap.size) _ _ l0_6 t1117 t1118 true _ ?side1 A20.out).mono ?_); (case side1 => exact Kd.V_mk HC0_6.out (Kd.F_below (Kd.C_F k26_heap HR0_6.out) (by repeat ((with_reducible exact HB.out))))); rintro e w30 ⟨rfl, hb⟩; replace BK1113 := Aside0.mk (blk_below BK1113.out hb); replace HB := Aside0.mk (below_step (by repeat ((with_reducible exact HB.out))) hb); (try clear hb); have hcz31_0 : w30.cell? ⟨gb1113, 0, none⟩ = some (.int .u8 a0_0) := (blk_cell BK1113.out 0).trans rfl; have hcz31_1 : w30.cell? ⟨gb1113, 1, none⟩ = some (.int .i64 a0_1) := (blk_cell BK1113.out 1).trans rfl; have hcz31_2 : w30.cell? ⟨gb1113, 2, none⟩ = some (.int .i64 a0_2) := (blk_cell BK1113.out 2).trans rfl; have hcz31_3 : w30.cell? ⟨gb1113, 3, none⟩ = some (.int .i64 a0_3) := (blk_cell BK1113.out 3).trans rfl; have hcz31_4 : w30.cell? ⟨gb1113, 4, none⟩ = some (.int .i64 a0_4) := (blk_cell BK1113.out 4).trans rfl; have hcz31_5 : w30.cell? ⟨gb1113, 5, none⟩ = some (.int .i64 a0_5) := (blk_cell BK1113.out 5).trans rfl; have hcz31_6 : w30.cell? ⟨gb1113, 6, none⟩ = some (.slice A0_6 l0_6.length c0_6) := (blk_cell BK1113.out 6).trans rfl; have hfz31_0 := blk_frozen BK1113.out 0; have hfz31_1 := blk_frozen BK1113.out 1; have hfz31_2 := blk_frozen BK1113.out 2; have hfz31_3 := blk_frozen BK1113.out 3; have hfz31_4 := blk_frozen BK1113.out 4; have hfz31_5 := blk_frozen BK1113.out 5; have hfz31_6 := blk_frozen BK1113.out 6) | (go_at_call 96; (with_reducible refine (least_Fits.calls kj1 a0_0 a0_1 a0_2 a0_3 a0_4 a0_5 (fun k_ => k_ < w.heap.size) _ _ l0_6 (wrap64 (t1117 - 1)) t1118 true _ ?side1 A22.out).mono ?_); (case side1 => exact Kd.V_mk HC0_6.out (Kd.F_below (Kd.C_F k26_heap HR0_6.out) (by repeat ((with_reducible exact HB.out))))); rintro e w32 ⟨rfl, hb⟩; replace BK1113 := Aside0.mk (blk_below BK1113.out hb); replace HB := Aside0.mk (below_step (by repeat ((with_reducible exact HB.out))) hb); (try clear hb)))
       go_ret
       exact ⟨by rfl, by repeat ((with_reducible exact HB.out))⟩
      ·replace c23 := Bool.eq_false_iff.mpr c23
       subst c23
       have H1 : ((least_Fits.f kj1 a0_0 a0_1 a0_2 a0_3 a0_4 a0_5 l0_6 t1117 (wrap64 (t1118 - 1))).bind fun t1122 => (if t1122 = true then (some false) else (if t1117 ≥ 1 then (if t1118 ≥ 1 then (if t1117 ≤ a0_3 then (if t1118 ≤ a0_4 then ((sashlaw08_awake.f).bind fun t1123 => (some t1123)) else (some false)) else (some false)) else (some false)) else (some false)))) = some r := by rw [if_neg (show ¬ (false = true) by decide)] at H; exact H
       clear H
       have H := H1
       clear H1
       replace H := Option.bind_eq_some_iff.mp H
       obtain ⟨t1122, A330, H⟩ := H
       replace H : (if t1122 = true then (some false) else (if t1117 ≥ 1 then (if t1118 ≥ 1 then (if t1117 ≤ a0_3 then (if t1118 ≤ a0_4 then ((sashlaw08_awake.f).bind fun t1123 => (some t1123)) else (some false)) else (some false)) else (some false)) else (some false))) = some r := H
       have A33 := Aside0.mk A330
       clear A330
       by_cases c34 : t1122 = true
       ·subst c34
        have H1 : (some false) = some r := by rw [if_pos rfl] at H; exact H
        clear H
        have H := H1
        clear H1
        obtain rfl := Option.some.inj H
        try go_wp2
        replace BK1113 := Aside0.mk (blk_drew BK1113.out); replace HB := Aside0.mk (below_drew1 HB.out)
        refine start_ (n := 6) (S := fun w' => w'.cell? ⟨gb1113, 0, none⟩ = some (.int .u8 a0_0) ∧ w'.cell? ⟨gb1113, 1, none⟩ = some (.int .i64 a0_1) ∧ w'.cell? ⟨gb1113, 2, none⟩ = some (.int .i64 a0_2) ∧ w'.cell? ⟨gb1113, 3, none⟩ = some (.int .i64 a0_3) ∧ w'.cell? ⟨gb1113, 4, none⟩ = some (.int .i64 a0_4) ∧ w'.cell? ⟨gb1113, 5, none⟩ = some (.int .i64 a0_5) ∧ w'.cell? ⟨gb1113, 6, none⟩ = some (.slice A0_6 l0_6.length c0_6)) (ds := []) #[false, false, false, false, false, false] (by kernel_rfl) rfl rfl ⟨(blk_cell BK1113.out 0).trans rfl, (blk_cell BK1113.out 1).trans rfl, (blk_cell BK1113.out 2).trans rfl, (blk_cell BK1113.out 3).trans rfl, (blk_cell BK1113.out 4).trans rfl, (blk_cell BK1113.out 5).trans rfl, (blk_cell BK1113.out 6).trans rfl⟩ (fun hHeld => ?_)
        generalize wc.drew = w35 at BK1113 HB hHeld ⊢
        refine take_ (i := 0) (N := some 13) (v := ?_) (a' := ?_) #[true, false, false, false, false, false] rfl rfl (by kernel_rfl) (fun _ _ _ h => h) (Or.inl ⟨by rfl, ?_⟩) hHeld ?_ ?_
        rotate_left
        ·rintro w' ⟨s0, s1, s2, s3, s4, s5, s6⟩
         go_simp
         with_reducible rfl
        rotate_left
        ·simp only [Act.put, List.setIfInBounds_toArray, List.set_cons_zero, List.set_cons_succ, i64_w, i32_w]
         rfl
        refine take_ (i := 2) (N := some 15) (v := ?_) (a' := ?_) #[true, false, true, false, false, false] rfl rfl (by kernel_rfl) (fun _ _ _ h => h) (Or.inl ⟨by rfl, ?_⟩) hHeld ?_ ?_
        rotate_left
        ·rintro w' ⟨s0, s1, s2, s3, s4, s5, s6⟩
         go_simp
         with_reducible rfl
        rotate_left
        ·simp only [Act.put, List.setIfInBounds_toArray, List.set_cons_zero, List.set_cons_succ, i64_w, i32_w]
         rfl
        refine one_ (i := 1) (N := some 14) #[true, true, true, false, false, false] rfl rfl (by kernel_rfl) (by decide) (fun K hK => ?_)
        refine goes_ Try.func93 (by kernel_rfl) rfl #[.agg #[.int .u8 a0_0, .int .i64 a0_1, .int .i64 a0_2, .int .i64 a0_3, .int .i64 a0_4, .int .i64 a0_5, .slice A0_6 l0_6.length c0_6], .int .u8 1] (by rfl) rfl rfl (by (try simp only [List.map_toArray, List.map_cons, List.map_nil]); rfl) ?_
        with_reducible refine (least_Least.calls kj1 a0_0 a0_1 a0_2 a0_3 a0_4 a0_5 (fun k_ => k_ < w.heap.size) _ _ l0_6 1 t1117 _ ?side1 A16.out).mono ?_
        (case side1 => exact Kd.V_mk HC0_6.out (Kd.F_below (Kd.C_F k26_heap HR0_6.out) (by repeat ((with_reducible exact HB.out)))))
        rintro e w36 ⟨rfl, hb⟩
        refine ⟨_, rfl, ?_⟩
        replace BK1113 := Aside0.mk (blk_below BK1113.out hb); replace HB := Aside0.mk (below_step (by repeat ((with_reducible exact HB.out))) hb)
        (try clear hb)
        (skip)
        (skip)
        (skip)
        refine hK.out _ _ ⟨(blk_cell BK1113.out 0).trans rfl, (blk_cell BK1113.out 1).trans rfl, (blk_cell BK1113.out 2).trans rfl, (blk_cell BK1113.out 3).trans rfl, (blk_cell BK1113.out 4).trans rfl, (blk_cell BK1113.out 5).trans rfl, (blk_cell BK1113.out 6).trans rfl⟩ (fun hHeld => ?_)
        clear hK K
        refine norm_ (a' := ?_) ?_ ?_
        rotate_left
        ·show Act.put _ (some 14) _ = _
         simp only [Act.put, List.setIfInBounds_toArray, List.set_cons_zero, List.set_cons_succ, i64_w, i32_w]
         rfl
        refine one_ (i := 3) (N := some 16) #[true, true, true, true, false, false] rfl rfl (by kernel_rfl) (by decide) (fun K hK => ?_)
        refine goes_ Try.func93 (by kernel_rfl) rfl #[.agg #[.int .u8 a0_0, .int .i64 a0_1, .int .i64 a0_2, .int .i64 a0_3, .int .i64 a0_4, .int .i64 a0_5, .slice A0_6 l0_6.length c0_6], .int .u8 2] (by rfl) rfl rfl (by (try simp only [List.map_toArray, List.map_cons, List.map_nil]); rfl) ?_
        with_reducible refine (least_Least.calls kj1 a0_0 a0_1 a0_2 a0_3 a0_4 a0_5 (fun k_ => k_ < w.heap.size) _ _ l0_6 2 t1118 _ ?side1 A17.out).mono ?_
        (case side1 => exact Kd.V_mk HC0_6.out (Kd.F_below (Kd.C_F k26_heap HR0_6.out) (by repeat ((with_reducible exact HB.out)))))
        rintro e w37 ⟨rfl, hb⟩
        refine ⟨_, rfl, ?_⟩
        replace BK1113 := Aside0.mk (blk_below BK1113.out hb); replace HB := Aside0.mk (below_step (by repeat ((with_reducible exact HB.out))) hb)
        (try clear hb)
        (skip)
        (skip)
        (skip)
        refine hK.out _ _ ⟨(blk_cell BK1113.out 0).trans rfl, (blk_cell BK1113.out 1).trans rfl, (blk_cell BK1113.out 2).trans rfl, (blk_cell BK1113.out 3).trans rfl, (blk_cell BK1113.out 4).trans rfl, (blk_cell BK1113.out 5).trans rfl, (blk_cell BK1113.out 6).trans rfl⟩ (fun hHeld => ?_)
        clear hK K
        refine norm_ (a' := ?_) ?_ ?_
        rotate_left
        ·show Act.put _ (some 16) _ = _
         simp only [Act.put, List.setIfInBounds_toArray, List.set_cons_zero, List.set_cons_succ, i64_w, i32_w]
         rfl
        refine pure_ (i := 4) (N := some 3) (v := ?_) (a' := ?_) #[true, true, true, true, true, false] rfl rfl (by kernel_rfl) (fun _ _ _ h => h) (Or.inl ⟨by rfl, ?_⟩) ?_ ?_
        rotate_left
        ·intro w'
         go_simp
         with_reducible rfl
        rotate_left
        ·simp only [Act.put, List.setIfInBounds_toArray, List.set_cons_zero, List.set_cons_succ, i64_w, i32_w]
         rfl
        refine pure_ (i := 5) (N := some 4) (v := ?_) (a' := ?_) #[true, true, true, true, true, true] rfl rfl (by kernel_rfl) (fun _ _ _ h => h) (Or.inl ⟨by rfl, ?_⟩) ?_ ?_
        rotate_left
        ·intro w'
         go_simp
         with_reducible rfl
        rotate_left
        ·simp only [Act.put, List.setIfInBounds_toArray, List.set_cons_zero, List.set_cons_succ, i64_w, i32_w]
         rfl
        refine done_ (by kernel_rfl) ?_
        have hcz38_0 : w37.cell? ⟨gb1113, 0, none⟩ = some (.int .u8 a0_0) := (blk_cell BK1113.out 0).trans rfl
        have hcz38_1 : w37.cell? ⟨gb1113, 1, none⟩ = some (.int .i64 a0_1) := (blk_cell BK1113.out 1).trans rfl
        have hcz38_2 : w37.cell? ⟨gb1113, 2, none⟩ = some (.int .i64 a0_2) := (blk_cell BK1113.out 2).trans rfl
        have hcz38_3 : w37.cell? ⟨gb1113, 3, none⟩ = some (.int .i64 a0_3) := (blk_cell BK1113.out 3).trans rfl
        have hcz38_4 : w37.cell? ⟨gb1113, 4, none⟩ = some (.int .i64 a0_4) := (blk_cell BK1113.out 4).trans rfl
        have hcz38_5 : w37.cell? ⟨gb1113, 5, none⟩ = some (.int .i64 a0_5) := (blk_cell BK1113.out 5).trans rfl
        have hcz38_6 : w37.cell? ⟨gb1113, 6, none⟩ = some (.slice A0_6 l0_6.length c0_6) := (blk_cell BK1113.out 6).trans rfl
        have hfz38_0 := blk_frozen BK1113.out 0
        have hfz38_1 := blk_frozen BK1113.out 1
        have hfz38_2 := blk_frozen BK1113.out 2
        have hfz38_3 := blk_frozen BK1113.out 3
        have hfz38_4 := blk_frozen BK1113.out 4
        have hfz38_5 := blk_frozen BK1113.out 5
        have hfz38_6 := blk_frozen BK1113.out 6
        try go_wp2_with (first | ((with_reducible refine gate_callee (f := 96) rfl ?_); refine goesL_ (some 24) rfl rfl Try.func96 (by kernel_rfl) rfl #[.agg #[.int .u8 a0_0, .int .i64 a0_1, .int .i64 a0_2, .int .i64 a0_3, .int .i64 a0_4, .int .i64 a0_5, .slice A0_6 l0_6.length c0_6], .int .i64 a0_3, .int .i64 a0_4] rfl (by (try simp only [List.map_toArray, List.map_cons, List.map_nil]); rfl) ?_; (with_reducible refine (least_Fits.calls kj1 a0_0 a0_1 a0_2 a0_3 a0_4 a0_5 (fun k_ => k_ < w.heap.size) _ _ l0_6 a0_3 a0_4 true _ ?side1 A18.out).mono ?_); (case side1 => exact Kd.V_mk HC0_6.out (Kd.F_below (Kd.C_F k26_heap HR0_6.out) (by repeat ((with_reducible exact HB.out))))); rintro e w39 ⟨rfl, hb⟩; refine ⟨_, rfl, ?_⟩; replace BK1113 := Aside0.mk (blk_below BK1113.out hb); replace HB := Aside0.mk (below_step (by repeat ((with_reducible exact HB.out))) hb); (try clear hb); have hcz40_0 : w39.cell? ⟨gb1113, 0, none⟩ = some (.int .u8 a0_0) := (blk_cell BK1113.out 0).trans rfl; have hcz40_1 : w39.cell? ⟨gb1113, 1, none⟩ = some (.int .i64 a0_1) := (blk_cell BK1113.out 1).trans rfl; have hcz40_2 : w39.cell? ⟨gb1113, 2, none⟩ = some (.int .i64 a0_2) := (blk_cell BK1113.out 2).trans rfl; have hcz40_3 : w39.cell? ⟨gb1113, 3, none⟩ = some (.int .i64 a0_3) := (blk_cell BK1113.out 3).trans rfl; have hcz40_4 : w39.cell? ⟨gb1113, 4, none⟩ = some (.int .i64 a0_4) := (blk_cell BK1113.out 4).trans rfl; have hcz40_5 : w39.cell? ⟨gb1113, 5, none⟩ = some (.int .i64 a0_5) := (blk_cell BK1113.out 5).trans rfl; have hcz40_6 : w39.cell? ⟨gb1113, 6, none⟩ = some (.slice A0_6 l0_6.length c0_6) := (blk_cell BK1113.out 6).trans rfl; have hfz40_0 := blk_frozen BK1113.out 0; have hfz40_1 := blk_frozen BK1113.out 1; have hfz40_2 := blk_frozen BK1113.out 2; have hfz40_3 := blk_frozen BK1113.out 3; have hfz40_4 := blk_frozen BK1113.out 4; have hfz40_5 := blk_frozen BK1113.out 5; have hfz40_6 := blk_frozen BK1113.out 6) | (go_at_call 96; (with_reducible refine (least_Fits.calls kj1 a0_0 a0_1 a0_2 a0_3 a0_4 a0_5 (fun k_ => k_ < w.heap.size) _ _ l0_6 t1117 t1118 true _ ?side1 A20.out).mono ?_); (case side1 => exact Kd.V_mk HC0_6.out (Kd.F_below (Kd.C_F k26_heap HR0_6.out) (by repeat ((with_reducible exact HB.out))))); rintro e w41 ⟨rfl, hb⟩; replace BK1113 := Aside0.mk (blk_below BK1113.out hb); replace HB := Aside0.mk (below_step (by repeat ((with_reducible exact HB.out))) hb); (try clear hb); have hcz42_0 : w41.cell? ⟨gb1113, 0, none⟩ = some (.int .u8 a0_0) := (blk_cell BK1113.out 0).trans rfl; have hcz42_1 : w41.cell? ⟨gb1113, 1, none⟩ = some (.int .i64 a0_1) := (blk_cell BK1113.out 1).trans rfl; have hcz42_2 : w41.cell? ⟨gb1113, 2, none⟩ = some (.int .i64 a0_2) := (blk_cell BK1113.out 2).trans rfl; have hcz42_3 : w41.cell? ⟨gb1113, 3, none⟩ = some (.int .i64 a0_3) := (blk_cell BK1113.out 3).trans rfl; have hcz42_4 : w41.cell? ⟨gb1113, 4, none⟩ = some (.int .i64 a0_4) := (blk_cell BK1113.out 4).trans rfl; have hcz42_5 : w41.cell? ⟨gb1113, 5, none⟩ = some (.int .i64 a0_5) := (blk_cell BK1113.out 5).trans rfl; have hcz42_6 : w41.cell? ⟨gb1113, 6, none⟩ = some (.slice A0_6 l0_6.length c0_6) := (blk_cell BK1113.out 6).trans rfl; have hfz42_0 := blk_frozen BK1113.out 0; have hfz42_1 := blk_frozen BK1113.out 1; have hfz42_2 := blk_frozen BK1113.out 2; have hfz42_3 := blk_frozen BK1113.out 3; have hfz42_4 := blk_frozen BK1113.out 4; have hfz42_5 := blk_frozen BK1113.out 5; have hfz42_6 := blk_frozen BK1113.out 6) | (go_at_call 96; (with_reducible refine (least_Fits.calls kj1 a0_0 a0_1 a0_2 a0_3 a0_4 a0_5 (fun k_ => k_ < w.heap.size) _ _ l0_6 (wrap64 (t1117 - 1)) t1118 false _ ?side1 A22.out).mono ?_); (case side1 => exact Kd.V_mk HC0_6.out (Kd.F_below (Kd.C_F k26_heap HR0_6.out) (by repeat ((with_reducible exact HB.out))))); rintro e w43 ⟨rfl, hb⟩; replace BK1113 := Aside0.mk (blk_below BK1113.out hb); replace HB := Aside0.mk (below_step (by repeat ((with_reducible exact HB.out))) hb); (try clear hb); have hcz44_0 : w43.cell? ⟨gb1113, 0, none⟩ = some (.int .u8 a0_0) := (blk_cell BK1113.out 0).trans rfl; have hcz44_1 : w43.cell? ⟨gb1113, 1, none⟩ = some (.int .i64 a0_1) := (blk_cell BK1113.out 1).trans rfl; have hcz44_2 : w43.cell? ⟨gb1113, 2, none⟩ = some (.int .i64 a0_2) := (blk_cell BK1113.out 2).trans rfl; have hcz44_3 : w43.cell? ⟨gb1113, 3, none⟩ = some (.int .i64 a0_3) := (blk_cell BK1113.out 3).trans rfl; have hcz44_4 : w43.cell? ⟨gb1113, 4, none⟩ = some (.int .i64 a0_4) := (blk_cell BK1113.out 4).trans rfl; have hcz44_5 : w43.cell? ⟨gb1113, 5, none⟩ = some (.int .i64 a0_5) := (blk_cell BK1113.out 5).trans rfl; have hcz44_6 : w43.cell? ⟨gb1113, 6, none⟩ = some (.slice A0_6 l0_6.length c0_6) := (blk_cell BK1113.out 6).trans rfl; have hfz44_0 := blk_frozen BK1113.out 0; have hfz44_1 := blk_frozen BK1113.out 1; have hfz44_2 := blk_frozen BK1113.out 2; have hfz44_3 := blk_frozen BK1113.out 3; have hfz44_4 := blk_frozen BK1113.out 4; have hfz44_5 := blk_frozen BK1113.out 5; have hfz44_6 := blk_frozen BK1113.out 6) | (go_at_call 96; (with_reducible refine (least_Fits.calls kj1 a0_0 a0_1 a0_2 a0_3 a0_4 a0_5 (fun k_ => k_ < w.heap.size) _ _ l0_6 t1117 (wrap64 (t1118 - 1)) true _ ?side1 A33.out).mono ?_); (case side1 => exact Kd.V_mk HC0_6.out (Kd.F_below (Kd.C_F k26_heap HR0_6.out) (by repeat ((with_reducible exact HB.out))))); rintro e w45 ⟨rfl, hb⟩; replace BK1113 := Aside0.mk (blk_below BK1113.out hb); replace HB := Aside0.mk (below_step (by repeat ((with_reducible exact HB.out))) hb); (try clear hb)))
        go_ret
        exact ⟨by rfl, by repeat ((with_reducible exact HB.out))⟩
       ·replace c34 := Bool.eq_false_iff.mpr c34
        subst c34
        have H1 : (if t1117 ≥ 1 then (if t1118 ≥ 1 then (if t1117 ≤ a0_3 then (if t1118 ≤ a0_4 then ((sashlaw08_awake.f).bind fun t1123 => (some t1123)) else (some false)) else (some false)) else (some false)) else (some false)) = some r := by rw [if_neg (show ¬ (false = true) by decide)] at H; exact H
        clear H
        have H := H1
        clear H1
        by_cases c46 : t1117 ≥ 1
        ·rw [if_pos c46] at H
         have c46b0 : decide (1 ≤ t1117) = true := decide_eq_true c46
         clear c46
         by_cases c47 : t1118 ≥ 1
         ·rw [if_pos c47] at H
          have c47b0 : decide (1 ≤ t1118) = true := decide_eq_true c47
          clear c47
          by_cases c48 : t1117 ≤ a0_3
          ·rw [if_pos c48] at H
           have c48b0 : decide (t1117 ≤ a0_3) = true := decide_eq_true c48
           clear c48
           by_cases c49 : t1118 ≤ a0_4
           ·rw [if_pos c49] at H
            have c49b0 : decide (t1118 ≤ a0_4) = true := decide_eq_true c49
            clear c49
            replace H := Option.bind_eq_some_iff.mp H
            obtain ⟨t1123, A500, H⟩ := H
            replace H : (some t1123) = some r := H
            have A50 := Aside0.mk A500
            clear A500
            obtain rfl := Option.some.inj H
            try go_wp2
            replace BK1113 := Aside0.mk (blk_drew BK1113.out); replace HB := Aside0.mk (below_drew1 HB.out)
            refine start_ (n := 6) (S := fun w' => w'.cell? ⟨gb1113, 0, none⟩ = some (.int .u8 a0_0) ∧ w'.cell? ⟨gb1113, 1, none⟩ = some (.int .i64 a0_1) ∧ w'.cell? ⟨gb1113, 2, none⟩ = some (.int .i64 a0_2) ∧ w'.cell? ⟨gb1113, 3, none⟩ = some (.int .i64 a0_3) ∧ w'.cell? ⟨gb1113, 4, none⟩ = some (.int .i64 a0_4) ∧ w'.cell? ⟨gb1113, 5, none⟩ = some (.int .i64 a0_5) ∧ w'.cell? ⟨gb1113, 6, none⟩ = some (.slice A0_6 l0_6.length c0_6)) (ds := []) #[false, false, false, false, false, false] (by kernel_rfl) rfl rfl ⟨(blk_cell BK1113.out 0).trans rfl, (blk_cell BK1113.out 1).trans rfl, (blk_cell BK1113.out 2).trans rfl, (blk_cell BK1113.out 3).trans rfl, (blk_cell BK1113.out 4).trans rfl, (blk_cell BK1113.out 5).trans rfl, (blk_cell BK1113.out 6).trans rfl⟩ (fun hHeld => ?_)
            generalize wc.drew = w51 at BK1113 HB hHeld ⊢
            refine take_ (i := 0) (N := some 13) (v := ?_) (a' := ?_) #[true, false, false, false, false, false] rfl rfl (by kernel_rfl) (fun _ _ _ h => h) (Or.inl ⟨by rfl, ?_⟩) hHeld ?_ ?_
            rotate_left
            ·rintro w' ⟨s0, s1, s2, s3, s4, s5, s6⟩
             go_simp
             with_reducible rfl
            rotate_left
            ·simp only [Act.put, List.setIfInBounds_toArray, List.set_cons_zero, List.set_cons_succ, i64_w, i32_w]
             rfl
            refine take_ (i := 2) (N := some 15) (v := ?_) (a' := ?_) #[true, false, true, false, false, false] rfl rfl (by kernel_rfl) (fun _ _ _ h => h) (Or.inl ⟨by rfl, ?_⟩) hHeld ?_ ?_
            rotate_left
            ·rintro w' ⟨s0, s1, s2, s3, s4, s5, s6⟩
             go_simp
             with_reducible rfl
            rotate_left
            ·simp only [Act.put, List.setIfInBounds_toArray, List.set_cons_zero, List.set_cons_succ, i64_w, i32_w]
             rfl
            refine one_ (i := 1) (N := some 14) #[true, true, true, false, false, false] rfl rfl (by kernel_rfl) (by decide) (fun K hK => ?_)
            refine goes_ Try.func93 (by kernel_rfl) rfl #[.agg #[.int .u8 a0_0, .int .i64 a0_1, .int .i64 a0_2, .int .i64 a0_3, .int .i64 a0_4, .int .i64 a0_5, .slice A0_6 l0_6.length c0_6], .int .u8 1] (by rfl) rfl rfl (by (try simp only [List.map_toArray, List.map_cons, List.map_nil]); rfl) ?_
            with_reducible refine (least_Least.calls kj1 a0_0 a0_1 a0_2 a0_3 a0_4 a0_5 (fun k_ => k_ < w.heap.size) _ _ l0_6 1 t1117 _ ?side1 A16.out).mono ?_
            (case side1 => exact Kd.V_mk HC0_6.out (Kd.F_below (Kd.C_F k26_heap HR0_6.out) (by repeat ((with_reducible exact HB.out)))))
            rintro e w52 ⟨rfl, hb⟩
            refine ⟨_, rfl, ?_⟩
            replace BK1113 := Aside0.mk (blk_below BK1113.out hb); replace HB := Aside0.mk (below_step (by repeat ((with_reducible exact HB.out))) hb)
            (try clear hb)
            (skip)
            (skip)
            (skip)
            refine hK.out _ _ ⟨(blk_cell BK1113.out 0).trans rfl, (blk_cell BK1113.out 1).trans rfl, (blk_cell BK1113.out 2).trans rfl, (blk_cell BK1113.out 3).trans rfl, (blk_cell BK1113.out 4).trans rfl, (blk_cell BK1113.out 5).trans rfl, (blk_cell BK1113.out 6).trans rfl⟩ (fun hHeld => ?_)
            clear hK K
            refine norm_ (a' := ?_) ?_ ?_
            rotate_left
            ·show Act.put _ (some 14) _ = _
             simp only [Act.put, List.setIfInBounds_toArray, List.set_cons_zero, List.set_cons_succ, i64_w, i32_w]
             rfl
            refine one_ (i := 3) (N := some 16) #[true, true, true, true, false, false] rfl rfl (by kernel_rfl) (by decide) (fun K hK => ?_)
            refine goes_ Try.func93 (by kernel_rfl) rfl #[.agg #[.int .u8 a0_0, .int .i64 a0_1, .int .i64 a0_2, .int .i64 a0_3, .int .i64 a0_4, .int .i64 a0_5, .slice A0_6 l0_6.length c0_6], .int .u8 2] (by rfl) rfl rfl (by (try simp only [List.map_toArray, List.map_cons, List.map_nil]); rfl) ?_
            with_reducible refine (least_Least.calls kj1 a0_0 a0_1 a0_2 a0_3 a0_4 a0_5 (fun k_ => k_ < w.heap.size) _ _ l0_6 2 t1118 _ ?side1 A17.out).mono ?_
            (case side1 => exact Kd.V_mk HC0_6.out (Kd.F_below (Kd.C_F k26_heap HR0_6.out) (by repeat ((with_reducible exact HB.out)))))
            rintro e w53 ⟨rfl, hb⟩
            refine ⟨_, rfl, ?_⟩
            replace BK1113 := Aside0.mk (blk_below BK1113.out hb); replace HB := Aside0.mk (below_step (by repeat ((with_reducible exact HB.out))) hb)
            (try clear hb)
            (skip)
            (skip)
            (skip)
            refine hK.out _ _ ⟨(blk_cell BK1113.out 0).trans rfl, (blk_cell BK1113.out 1).trans rfl, (blk_cell BK1113.out 2).trans rfl, (blk_cell BK1113.out 3).trans rfl, (blk_cell BK1113.out 4).trans rfl, (blk_cell BK1113.out 5).trans rfl, (blk_cell BK1113.out 6).trans rfl⟩ (fun hHeld => ?_)
            clear hK K
            refine norm_ (a' := ?_) ?_ ?_
            rotate_left
            ·show Act.put _ (some 16) _ = _
             simp only [Act.put, List.setIfInBounds_toArray, List.set_cons_zero, List.set_cons_succ, i64_w, i32_w]
             rfl
            refine pure_ (i := 4) (N := some 3) (v := ?_) (a' := ?_) #[true, true, true, true, true, false] rfl rfl (by kernel_rfl) (fun _ _ _ h => h) (Or.inl ⟨by rfl, ?_⟩) ?_ ?_
            rotate_left
            ·intro w'
             go_simp
             with_reducible rfl
            rotate_left
            ·simp only [Act.put, List.setIfInBounds_toArray, List.set_cons_zero, List.set_cons_succ, i64_w, i32_w]
             rfl
            refine pure_ (i := 5) (N := some 4) (v := ?_) (a' := ?_) #[true, true, true, true, true, true] rfl rfl (by kernel_rfl) (fun _ _ _ h => h) (Or.inl ⟨by rfl, ?_⟩) ?_ ?_
            rotate_left
            ·intro w'
             go_simp
             with_reducible rfl
            rotate_left
            ·simp only [Act.put, List.setIfInBounds_toArray, List.set_cons_zero, List.set_cons_succ, i64_w, i32_w]
             rfl
            refine done_ (by kernel_rfl) ?_
            have hcz54_0 : w53.cell? ⟨gb1113, 0, none⟩ = some (.int .u8 a0_0) := (blk_cell BK1113.out 0).trans rfl
            have hcz54_1 : w53.cell? ⟨gb1113, 1, none⟩ = some (.int .i64 a0_1) := (blk_cell BK1113.out 1).trans rfl
            have hcz54_2 : w53.cell? ⟨gb1113, 2, none⟩ = some (.int .i64 a0_2) := (blk_cell BK1113.out 2).trans rfl
            have hcz54_3 : w53.cell? ⟨gb1113, 3, none⟩ = some (.int .i64 a0_3) := (blk_cell BK1113.out 3).trans rfl
            have hcz54_4 : w53.cell? ⟨gb1113, 4, none⟩ = some (.int .i64 a0_4) := (blk_cell BK1113.out 4).trans rfl
            have hcz54_5 : w53.cell? ⟨gb1113, 5, none⟩ = some (.int .i64 a0_5) := (blk_cell BK1113.out 5).trans rfl
            have hcz54_6 : w53.cell? ⟨gb1113, 6, none⟩ = some (.slice A0_6 l0_6.length c0_6) := (blk_cell BK1113.out 6).trans rfl
            have hfz54_0 := blk_frozen BK1113.out 0
            have hfz54_1 := blk_frozen BK1113.out 1
            have hfz54_2 := blk_frozen BK1113.out 2
            have hfz54_3 := blk_frozen BK1113.out 3
            have hfz54_4 := blk_frozen BK1113.out 4
            have hfz54_5 := blk_frozen BK1113.out 5
            have hfz54_6 := blk_frozen BK1113.out 6
            try go_wp2_with (first | ((with_reducible refine gate_callee (f := 96) rfl ?_); refine goesL_ (some 24) rfl rfl Try.func96 (by kernel_rfl) rfl #[.agg #[.int .u8 a0_0, .int .i64 a0_1, .int .i64 a0_2, .int .i64 a0_3, .int .i64 a0_4, .int .i64 a0_5, .slice A0_6 l0_6.length c0_6], .int .i64 a0_3, .int .i64 a0_4] rfl (by (try simp only [List.map_toArray, List.map_cons, List.map_nil]); rfl) ?_; (with_reducible refine (least_Fits.calls kj1 a0_0 a0_1 a0_2 a0_3 a0_4 a0_5 (fun k_ => k_ < w.heap.size) _ _ l0_6 a0_3 a0_4 true _ ?side1 A18.out).mono ?_); (case side1 => exact Kd.V_mk HC0_6.out (Kd.F_below (Kd.C_F k26_heap HR0_6.out) (by repeat ((with_reducible exact HB.out))))); rintro e w55 ⟨rfl, hb⟩; refine ⟨_, rfl, ?_⟩; replace BK1113 := Aside0.mk (blk_below BK1113.out hb); replace HB := Aside0.mk (below_step (by repeat ((with_reducible exact HB.out))) hb); (try clear hb); have hcz56_0 : w55.cell? ⟨gb1113, 0, none⟩ = some (.int .u8 a0_0) := (blk_cell BK1113.out 0).trans rfl; have hcz56_1 : w55.cell? ⟨gb1113, 1, none⟩ = some (.int .i64 a0_1) := (blk_cell BK1113.out 1).trans rfl; have hcz56_2 : w55.cell? ⟨gb1113, 2, none⟩ = some (.int .i64 a0_2) := (blk_cell BK1113.out 2).trans rfl; have hcz56_3 : w55.cell? ⟨gb1113, 3, none⟩ = some (.int .i64 a0_3) := (blk_cell BK1113.out 3).trans rfl; have hcz56_4 : w55.cell? ⟨gb1113, 4, none⟩ = some (.int .i64 a0_4) := (blk_cell BK1113.out 4).trans rfl; have hcz56_5 : w55.cell? ⟨gb1113, 5, none⟩ = some (.int .i64 a0_5) := (blk_cell BK1113.out 5).trans rfl; have hcz56_6 : w55.cell? ⟨gb1113, 6, none⟩ = some (.slice A0_6 l0_6.length c0_6) := (blk_cell BK1113.out 6).trans rfl; have hfz56_0 := blk_frozen BK1113.out 0; have hfz56_1 := blk_frozen BK1113.out 1; have hfz56_2 := blk_frozen BK1113.out 2; have hfz56_3 := blk_frozen BK1113.out 3; have hfz56_4 := blk_frozen BK1113.out 4; have hfz56_5 := blk_frozen BK1113.out 5; have hfz56_6 := blk_frozen BK1113.out 6) | (go_at_call 96; (with_reducible refine (least_Fits.calls kj1 a0_0 a0_1 a0_2 a0_3 a0_4 a0_5 (fun k_ => k_ < w.heap.size) _ _ l0_6 t1117 t1118 true _ ?side1 A20.out).mono ?_); (case side1 => exact Kd.V_mk HC0_6.out (Kd.F_below (Kd.C_F k26_heap HR0_6.out) (by repeat ((with_reducible exact HB.out))))); rintro e w57 ⟨rfl, hb⟩; replace BK1113 := Aside0.mk (blk_below BK1113.out hb); replace HB := Aside0.mk (below_step (by repeat ((with_reducible exact HB.out))) hb); (try clear hb); have hcz58_0 : w57.cell? ⟨gb1113, 0, none⟩ = some (.int .u8 a0_0) := (blk_cell BK1113.out 0).trans rfl; have hcz58_1 : w57.cell? ⟨gb1113, 1, none⟩ = some (.int .i64 a0_1) := (blk_cell BK1113.out 1).trans rfl; have hcz58_2 : w57.cell? ⟨gb1113, 2, none⟩ = some (.int .i64 a0_2) := (blk_cell BK1113.out 2).trans rfl; have hcz58_3 : w57.cell? ⟨gb1113, 3, none⟩ = some (.int .i64 a0_3) := (blk_cell BK1113.out 3).trans rfl; have hcz58_4 : w57.cell? ⟨gb1113, 4, none⟩ = some (.int .i64 a0_4) := (blk_cell BK1113.out 4).trans rfl; have hcz58_5 : w57.cell? ⟨gb1113, 5, none⟩ = some (.int .i64 a0_5) := (blk_cell BK1113.out 5).trans rfl; have hcz58_6 : w57.cell? ⟨gb1113, 6, none⟩ = some (.slice A0_6 l0_6.length c0_6) := (blk_cell BK1113.out 6).trans rfl; have hfz58_0 := blk_frozen BK1113.out 0; have hfz58_1 := blk_frozen BK1113.out 1; have hfz58_2 := blk_frozen BK1113.out 2; have hfz58_3 := blk_frozen BK1113.out 3; have hfz58_4 := blk_frozen BK1113.out 4; have hfz58_5 := blk_frozen BK1113.out 5; have hfz58_6 := blk_frozen BK1113.out 6) | (go_at_call 96; (with_reducible refine (least_Fits.calls kj1 a0_0 a0_1 a0_2 a0_3 a0_4 a0_5 (fun k_ => k_ < w.heap.size) _ _ l0_6 (wrap64 (t1117 - 1)) t1118 false _ ?side1 A22.out).mono ?_); (case side1 => exact Kd.V_mk HC0_6.out (Kd.F_below (Kd.C_F k26_heap HR0_6.out) (by repeat ((with_reducible exact HB.out))))); rintro e w59 ⟨rfl, hb⟩; replace BK1113 := Aside0.mk (blk_below BK1113.out hb); replace HB := Aside0.mk (below_step (by repeat ((with_reducible exact HB.out))) hb); (try clear hb); have hcz60_0 : w59.cell? ⟨gb1113, 0, none⟩ = some (.int .u8 a0_0) := (blk_cell BK1113.out 0).trans rfl; have hcz60_1 : w59.cell? ⟨gb1113, 1, none⟩ = some (.int .i64 a0_1) := (blk_cell BK1113.out 1).trans rfl; have hcz60_2 : w59.cell? ⟨gb1113, 2, none⟩ = some (.int .i64 a0_2) := (blk_cell BK1113.out 2).trans rfl; have hcz60_3 : w59.cell? ⟨gb1113, 3, none⟩ = some (.int .i64 a0_3) := (blk_cell BK1113.out 3).trans rfl; have hcz60_4 : w59.cell? ⟨gb1113, 4, none⟩ = some (.int .i64 a0_4) := (blk_cell BK1113.out 4).trans rfl; have hcz60_5 : w59.cell? ⟨gb1113, 5, none⟩ = some (.int .i64 a0_5) := (blk_cell BK1113.out 5).trans rfl; have hcz60_6 : w59.cell? ⟨gb1113, 6, none⟩ = some (.slice A0_6 l0_6.length c0_6) := (blk_cell BK1113.out 6).trans rfl; have hfz60_0 := blk_frozen BK1113.out 0; have hfz60_1 := blk_frozen BK1113.out 1; have hfz60_2 := blk_frozen BK1113.out 2; have hfz60_3 := blk_frozen BK1113.out 3; have hfz60_4 := blk_frozen BK1113.out 4; have hfz60_5 := blk_frozen BK1113.out 5; have hfz60_6 := blk_frozen BK1113.out 6) | (go_at_call 96; (with_reducible refine (least_Fits.calls kj1 a0_0 a0_1 a0_2 a0_3 a0_4 a0_5 (fun k_ => k_ < w.heap.size) _ _ l0_6 t1117 (wrap64 (t1118 - 1)) false _ ?side1 A33.out).mono ?_); (case side1 => exact Kd.V_mk HC0_6.out (Kd.F_below (Kd.C_F k26_heap HR0_6.out) (by repeat ((with_reducible exact HB.out))))); rintro e w61 ⟨rfl, hb⟩; replace BK1113 := Aside0.mk (blk_below BK1113.out hb); replace HB := Aside0.mk (below_step (by repeat ((with_reducible exact HB.out))) hb); (try clear hb); have hcz62_0 : w61.cell? ⟨gb1113, 0, none⟩ = some (.int .u8 a0_0) := (blk_cell BK1113.out 0).trans rfl; have hcz62_1 : w61.cell? ⟨gb1113, 1, none⟩ = some (.int .i64 a0_1) := (blk_cell BK1113.out 1).trans rfl; have hcz62_2 : w61.cell? ⟨gb1113, 2, none⟩ = some (.int .i64 a0_2) := (blk_cell BK1113.out 2).trans rfl; have hcz62_3 : w61.cell? ⟨gb1113, 3, none⟩ = some (.int .i64 a0_3) := (blk_cell BK1113.out 3).trans rfl; have hcz62_4 : w61.cell? ⟨gb1113, 4, none⟩ = some (.int .i64 a0_4) := (blk_cell BK1113.out 4).trans rfl; have hcz62_5 : w61.cell? ⟨gb1113, 5, none⟩ = some (.int .i64 a0_5) := (blk_cell BK1113.out 5).trans rfl; have hcz62_6 : w61.cell? ⟨gb1113, 6, none⟩ = some (.slice A0_6 l0_6.length c0_6) := (blk_cell BK1113.out 6).trans rfl; have hfz62_0 := blk_frozen BK1113.out 0; have hfz62_1 := blk_frozen BK1113.out 1; have hfz62_2 := blk_frozen BK1113.out 2; have hfz62_3 := blk_frozen BK1113.out 3; have hfz62_4 := blk_frozen BK1113.out 4; have hfz62_5 := blk_frozen BK1113.out 5; have hfz62_6 := blk_frozen BK1113.out 6) | (go_at_call 85; (with_reducible refine (sashlaw08_awake.calls  t1123 _ A50.out).mono ?_); rintro e w63 ⟨rfl, hb⟩; replace BK1113 := Aside0.mk (blk_below BK1113.out hb); replace HB := Aside0.mk (below_step (by repeat ((with_reducible exact HB.out))) hb); (try clear hb)))
            go_ret
            exact ⟨by rfl, by repeat ((with_reducible exact HB.out))⟩
           ·rw [if_neg c49] at H
            have c49b0 : decide (t1118 ≤ a0_4) = false := decide_eq_false c49
            clear c49
            obtain rfl := Option.some.inj H
            try go_wp2
            replace BK1113 := Aside0.mk (blk_drew BK1113.out); replace HB := Aside0.mk (below_drew1 HB.out)
            refine start_ (n := 6) (S := fun w' => w'.cell? ⟨gb1113, 0, none⟩ = some (.int .u8 a0_0) ∧ w'.cell? ⟨gb1113, 1, none⟩ = some (.int .i64 a0_1) ∧ w'.cell? ⟨gb1113, 2, none⟩ = some (.int .i64 a0_2) ∧ w'.cell? ⟨gb1113, 3, none⟩ = some (.int .i64 a0_3) ∧ w'.cell? ⟨gb1113, 4, none⟩ = some (.int .i64 a0_4) ∧ w'.cell? ⟨gb1113, 5, none⟩ = some (.int .i64 a0_5) ∧ w'.cell? ⟨gb1113, 6, none⟩ = some (.slice A0_6 l0_6.length c0_6)) (ds := []) #[false, false, false, false, false, false] (by kernel_rfl) rfl rfl ⟨(blk_cell BK1113.out 0).trans rfl, (blk_cell BK1113.out 1).trans rfl, (blk_cell BK1113.out 2).trans rfl, (blk_cell BK1113.out 3).trans rfl, (blk_cell BK1113.out 4).trans rfl, (blk_cell BK1113.out 5).trans rfl, (blk_cell BK1113.out 6).trans rfl⟩ (fun hHeld => ?_)
            generalize wc.drew = w64 at BK1113 HB hHeld ⊢
            refine take_ (i := 0) (N := some 13) (v := ?_) (a' := ?_) #[true, false, false, false, false, false] rfl rfl (by kernel_rfl) (fun _ _ _ h => h) (Or.inl ⟨by rfl, ?_⟩) hHeld ?_ ?_
            rotate_left
            ·rintro w' ⟨s0, s1, s2, s3, s4, s5, s6⟩
             go_simp
             with_reducible rfl
            rotate_left
            ·simp only [Act.put, List.setIfInBounds_toArray, List.set_cons_zero, List.set_cons_succ, i64_w, i32_w]
             rfl
            refine take_ (i := 2) (N := some 15) (v := ?_) (a' := ?_) #[true, false, true, false, false, false] rfl rfl (by kernel_rfl) (fun _ _ _ h => h) (Or.inl ⟨by rfl, ?_⟩) hHeld ?_ ?_
            rotate_left
            ·rintro w' ⟨s0, s1, s2, s3, s4, s5, s6⟩
             go_simp
             with_reducible rfl
            rotate_left
            ·simp only [Act.put, List.setIfInBounds_toArray, List.set_cons_zero, List.set_cons_succ, i64_w, i32_w]
             rfl
            refine one_ (i := 1) (N := some 14) #[true, true, true, false, false, false] rfl rfl (by kernel_rfl) (by decide) (fun K hK => ?_)
            refine goes_ Try.func93 (by kernel_rfl) rfl #[.agg #[.int .u8 a0_0, .int .i64 a0_1, .int .i64 a0_2, .int .i64 a0_3, .int .i64 a0_4, .int .i64 a0_5, .slice A0_6 l0_6.length c0_6], .int .u8 1] (by rfl) rfl rfl (by (try simp only [List.map_toArray, List.map_cons, List.map_nil]); rfl) ?_
            with_reducible refine (least_Least.calls kj1 a0_0 a0_1 a0_2 a0_3 a0_4 a0_5 (fun k_ => k_ < w.heap.size) _ _ l0_6 1 t1117 _ ?side1 A16.out).mono ?_
            (case side1 => exact Kd.V_mk HC0_6.out (Kd.F_below (Kd.C_F k26_heap HR0_6.out) (by repeat ((with_reducible exact HB.out)))))
            rintro e w65 ⟨rfl, hb⟩
            refine ⟨_, rfl, ?_⟩
            replace BK1113 := Aside0.mk (blk_below BK1113.out hb); replace HB := Aside0.mk (below_step (by repeat ((with_reducible exact HB.out))) hb)
            (try clear hb)
            (skip)
            (skip)
            (skip)
            refine hK.out _ _ ⟨(blk_cell BK1113.out 0).trans rfl, (blk_cell BK1113.out 1).trans rfl, (blk_cell BK1113.out 2).trans rfl, (blk_cell BK1113.out 3).trans rfl, (blk_cell BK1113.out 4).trans rfl, (blk_cell BK1113.out 5).trans rfl, (blk_cell BK1113.out 6).trans rfl⟩ (fun hHeld => ?_)
            clear hK K
            refine norm_ (a' := ?_) ?_ ?_
            rotate_left
            ·show Act.put _ (some 14) _ = _
             simp only [Act.put, List.setIfInBounds_toArray, List.set_cons_zero, List.set_cons_succ, i64_w, i32_w]
             rfl
            refine one_ (i := 3) (N := some 16) #[true, true, true, true, false, false] rfl rfl (by kernel_rfl) (by decide) (fun K hK => ?_)
            refine goes_ Try.func93 (by kernel_rfl) rfl #[.agg #[.int .u8 a0_0, .int .i64 a0_1, .int .i64 a0_2, .int .i64 a0_3, .int .i64 a0_4, .int .i64 a0_5, .slice A0_6 l0_6.length c0_6], .int .u8 2] (by rfl) rfl rfl (by (try simp only [List.map_toArray, List.map_cons, List.map_nil]); rfl) ?_
            with_reducible refine (least_Least.calls kj1 a0_0 a0_1 a0_2 a0_3 a0_4 a0_5 (fun k_ => k_ < w.heap.size) _ _ l0_6 2 t1118 _ ?side1 A17.out).mono ?_
            (case side1 => exact Kd.V_mk HC0_6.out (Kd.F_below (Kd.C_F k26_heap HR0_6.out) (by repeat ((with_reducible exact HB.out)))))
            rintro e w66 ⟨rfl, hb⟩
            refine ⟨_, rfl, ?_⟩
            replace BK1113 := Aside0.mk (blk_below BK1113.out hb); replace HB := Aside0.mk (below_step (by repeat ((with_reducible exact HB.out))) hb)
            (try clear hb)
            (skip)
            (skip)
            (skip)
            refine hK.out _ _ ⟨(blk_cell BK1113.out 0).trans rfl, (blk_cell BK1113.out 1).trans rfl, (blk_cell BK1113.out 2).trans rfl, (blk_cell BK1113.out 3).trans rfl, (blk_cell BK1113.out 4).trans rfl, (blk_cell BK1113.out 5).trans rfl, (blk_cell BK1113.out 6).trans rfl⟩ (fun hHeld => ?_)
            clear hK K
            refine norm_ (a' := ?_) ?_ ?_
            rotate_left
            ·show Act.put _ (some 16) _ = _
             simp only [Act.put, List.setIfInBounds_toArray, List.set_cons_zero, List.set_cons_succ, i64_w, i32_w]
             rfl
            refine pure_ (i := 4) (N := some 3) (v := ?_) (a' := ?_) #[true, true, true, true, true, false] rfl rfl (by kernel_rfl) (fun _ _ _ h => h) (Or.inl ⟨by rfl, ?_⟩) ?_ ?_
            rotate_left
            ·intro w'
             go_simp
             with_reducible rfl
            rotate_left
            ·simp only [Act.put, List.setIfInBounds_toArray, List.set_cons_zero, List.set_cons_succ, i64_w, i32_w]
             rfl
            refine pure_ (i := 5) (N := some 4) (v := ?_) (a' := ?_) #[true, true, true, true, true, true] rfl rfl (by kernel_rfl) (fun _ _ _ h => h) (Or.inl ⟨by rfl, ?_⟩) ?_ ?_
            rotate_left
            ·intro w'
             go_simp
             with_reducible rfl
            rotate_left
            ·simp only [Act.put, List.setIfInBounds_toArray, List.set_cons_zero, List.set_cons_succ, i64_w, i32_w]
             rfl
            refine done_ (by kernel_rfl) ?_
            have hcz67_0 : w66.cell? ⟨gb1113, 0, none⟩ = some (.int .u8 a0_0) := (blk_cell BK1113.out 0).trans rfl
            have hcz67_1 : w66.cell? ⟨gb1113, 1, none⟩ = some (.int .i64 a0_1) := (blk_cell BK1113.out 1).trans rfl
            have hcz67_2 : w66.cell? ⟨gb1113, 2, none⟩ = some (.int .i64 a0_2) := (blk_cell BK1113.out 2).trans rfl
            have hcz67_3 : w66.cell? ⟨gb1113, 3, none⟩ = some (.int .i64 a0_3) := (blk_cell BK1113.out 3).trans rfl
            have hcz67_4 : w66.cell? ⟨gb1113, 4, none⟩ = some (.int .i64 a0_4) := (blk_cell BK1113.out 4).trans rfl
            have hcz67_5 : w66.cell? ⟨gb1113, 5, none⟩ = some (.int .i64 a0_5) := (blk_cell BK1113.out 5).trans rfl
            have hcz67_6 : w66.cell? ⟨gb1113, 6, none⟩ = some (.slice A0_6 l0_6.length c0_6) := (blk_cell BK1113.out 6).trans rfl
            have hfz67_0 := blk_frozen BK1113.out 0
            have hfz67_1 := blk_frozen BK1113.out 1
            have hfz67_2 := blk_frozen BK1113.out 2
            have hfz67_3 := blk_frozen BK1113.out 3
            have hfz67_4 := blk_frozen BK1113.out 4
            have hfz67_5 := blk_frozen BK1113.out 5
            have hfz67_6 := blk_frozen BK1113.out 6
            try go_wp2_with (first | ((with_reducible refine gate_callee (f := 96) rfl ?_); refine goesL_ (some 24) rfl rfl Try.func96 (by kernel_rfl) rfl #[.agg #[.int .u8 a0_0, .int .i64 a0_1, .int .i64 a0_2, .int .i64 a0_3, .int .i64 a0_4, .int .i64 a0_5, .slice A0_6 l0_6.length c0_6], .int .i64 a0_3, .int .i64 a0_4] rfl (by (try simp only [List.map_toArray, List.map_cons, List.map_nil]); rfl) ?_; (with_reducible refine (least_Fits.calls kj1 a0_0 a0_1 a0_2 a0_3 a0_4 a0_5 (fun k_ => k_ < w.heap.size) _ _ l0_6 a0_3 a0_4 true _ ?side1 A18.out).mono ?_); (case side1 => exact Kd.V_mk HC0_6.out (Kd.F_below (Kd.C_F k26_heap HR0_6.out) (by repeat ((with_reducible exact HB.out))))); rintro e w68 ⟨rfl, hb⟩; refine ⟨_, rfl, ?_⟩; replace BK1113 := Aside0.mk (blk_below BK1113.out hb); replace HB := Aside0.mk (below_step (by repeat ((with_reducible exact HB.out))) hb); (try clear hb); have hcz69_0 : w68.cell? ⟨gb1113, 0, none⟩ = some (.int .u8 a0_0) := (blk_cell BK1113.out 0).trans rfl; have hcz69_1 : w68.cell? ⟨gb1113, 1, none⟩ = some (.int .i64 a0_1) := (blk_cell BK1113.out 1).trans rfl; have hcz69_2 : w68.cell? ⟨gb1113, 2, none⟩ = some (.int .i64 a0_2) := (blk_cell BK1113.out 2).trans rfl; have hcz69_3 : w68.cell? ⟨gb1113, 3, none⟩ = some (.int .i64 a0_3) := (blk_cell BK1113.out 3).trans rfl; have hcz69_4 : w68.cell? ⟨gb1113, 4, none⟩ = some (.int .i64 a0_4) := (blk_cell BK1113.out 4).trans rfl; have hcz69_5 : w68.cell? ⟨gb1113, 5, none⟩ = some (.int .i64 a0_5) := (blk_cell BK1113.out 5).trans rfl; have hcz69_6 : w68.cell? ⟨gb1113, 6, none⟩ = some (.slice A0_6 l0_6.length c0_6) := (blk_cell BK1113.out 6).trans rfl; have hfz69_0 := blk_frozen BK1113.out 0; have hfz69_1 := blk_frozen BK1113.out 1; have hfz69_2 := blk_frozen BK1113.out 2; have hfz69_3 := blk_frozen BK1113.out 3; have hfz69_4 := blk_frozen BK1113.out 4; have hfz69_5 := blk_frozen BK1113.out 5; have hfz69_6 := blk_frozen BK1113.out 6) | (go_at_call 96; (with_reducible refine (least_Fits.calls kj1 a0_0 a0_1 a0_2 a0_3 a0_4 a0_5 (fun k_ => k_ < w.heap.size) _ _ l0_6 t1117 t1118 true _ ?side1 A20.out).mono ?_); (case side1 => exact Kd.V_mk HC0_6.out (Kd.F_below (Kd.C_F k26_heap HR0_6.out) (by repeat ((with_reducible exact HB.out))))); rintro e w70 ⟨rfl, hb⟩; replace BK1113 := Aside0.mk (blk_below BK1113.out hb); replace HB := Aside0.mk (below_step (by repeat ((with_reducible exact HB.out))) hb); (try clear hb); have hcz71_0 : w70.cell? ⟨gb1113, 0, none⟩ = some (.int .u8 a0_0) := (blk_cell BK1113.out 0).trans rfl; have hcz71_1 : w70.cell? ⟨gb1113, 1, none⟩ = some (.int .i64 a0_1) := (blk_cell BK1113.out 1).trans rfl; have hcz71_2 : w70.cell? ⟨gb1113, 2, none⟩ = some (.int .i64 a0_2) := (blk_cell BK1113.out 2).trans rfl; have hcz71_3 : w70.cell? ⟨gb1113, 3, none⟩ = some (.int .i64 a0_3) := (blk_cell BK1113.out 3).trans rfl; have hcz71_4 : w70.cell? ⟨gb1113, 4, none⟩ = some (.int .i64 a0_4) := (blk_cell BK1113.out 4).trans rfl; have hcz71_5 : w70.cell? ⟨gb1113, 5, none⟩ = some (.int .i64 a0_5) := (blk_cell BK1113.out 5).trans rfl; have hcz71_6 : w70.cell? ⟨gb1113, 6, none⟩ = some (.slice A0_6 l0_6.length c0_6) := (blk_cell BK1113.out 6).trans rfl; have hfz71_0 := blk_frozen BK1113.out 0; have hfz71_1 := blk_frozen BK1113.out 1; have hfz71_2 := blk_frozen BK1113.out 2; have hfz71_3 := blk_frozen BK1113.out 3; have hfz71_4 := blk_frozen BK1113.out 4; have hfz71_5 := blk_frozen BK1113.out 5; have hfz71_6 := blk_frozen BK1113.out 6) | (go_at_call 96; (with_reducible refine (least_Fits.calls kj1 a0_0 a0_1 a0_2 a0_3 a0_4 a0_5 (fun k_ => k_ < w.heap.size) _ _ l0_6 (wrap64 (t1117 - 1)) t1118 false _ ?side1 A22.out).mono ?_); (case side1 => exact Kd.V_mk HC0_6.out (Kd.F_below (Kd.C_F k26_heap HR0_6.out) (by repeat ((with_reducible exact HB.out))))); rintro e w72 ⟨rfl, hb⟩; replace BK1113 := Aside0.mk (blk_below BK1113.out hb); replace HB := Aside0.mk (below_step (by repeat ((with_reducible exact HB.out))) hb); (try clear hb); have hcz73_0 : w72.cell? ⟨gb1113, 0, none⟩ = some (.int .u8 a0_0) := (blk_cell BK1113.out 0).trans rfl; have hcz73_1 : w72.cell? ⟨gb1113, 1, none⟩ = some (.int .i64 a0_1) := (blk_cell BK1113.out 1).trans rfl; have hcz73_2 : w72.cell? ⟨gb1113, 2, none⟩ = some (.int .i64 a0_2) := (blk_cell BK1113.out 2).trans rfl; have hcz73_3 : w72.cell? ⟨gb1113, 3, none⟩ = some (.int .i64 a0_3) := (blk_cell BK1113.out 3).trans rfl; have hcz73_4 : w72.cell? ⟨gb1113, 4, none⟩ = some (.int .i64 a0_4) := (blk_cell BK1113.out 4).trans rfl; have hcz73_5 : w72.cell? ⟨gb1113, 5, none⟩ = some (.int .i64 a0_5) := (blk_cell BK1113.out 5).trans rfl; have hcz73_6 : w72.cell? ⟨gb1113, 6, none⟩ = some (.slice A0_6 l0_6.length c0_6) := (blk_cell BK1113.out 6).trans rfl; have hfz73_0 := blk_frozen BK1113.out 0; have hfz73_1 := blk_frozen BK1113.out 1; have hfz73_2 := blk_frozen BK1113.out 2; have hfz73_3 := blk_frozen BK1113.out 3; have hfz73_4 := blk_frozen BK1113.out 4; have hfz73_5 := blk_frozen BK1113.out 5; have hfz73_6 := blk_frozen BK1113.out 6) | (go_at_call 96; (with_reducible refine (least_Fits.calls kj1 a0_0 a0_1 a0_2 a0_3 a0_4 a0_5 (fun k_ => k_ < w.heap.size) _ _ l0_6 t1117 (wrap64 (t1118 - 1)) false _ ?side1 A33.out).mono ?_); (case side1 => exact Kd.V_mk HC0_6.out (Kd.F_below (Kd.C_F k26_heap HR0_6.out) (by repeat ((with_reducible exact HB.out))))); rintro e w74 ⟨rfl, hb⟩; replace BK1113 := Aside0.mk (blk_below BK1113.out hb); replace HB := Aside0.mk (below_step (by repeat ((with_reducible exact HB.out))) hb); (try clear hb); have hcz75_0 : w74.cell? ⟨gb1113, 0, none⟩ = some (.int .u8 a0_0) := (blk_cell BK1113.out 0).trans rfl; have hcz75_1 : w74.cell? ⟨gb1113, 1, none⟩ = some (.int .i64 a0_1) := (blk_cell BK1113.out 1).trans rfl; have hcz75_2 : w74.cell? ⟨gb1113, 2, none⟩ = some (.int .i64 a0_2) := (blk_cell BK1113.out 2).trans rfl; have hcz75_3 : w74.cell? ⟨gb1113, 3, none⟩ = some (.int .i64 a0_3) := (blk_cell BK1113.out 3).trans rfl; have hcz75_4 : w74.cell? ⟨gb1113, 4, none⟩ = some (.int .i64 a0_4) := (blk_cell BK1113.out 4).trans rfl; have hcz75_5 : w74.cell? ⟨gb1113, 5, none⟩ = some (.int .i64 a0_5) := (blk_cell BK1113.out 5).trans rfl; have hcz75_6 : w74.cell? ⟨gb1113, 6, none⟩ = some (.slice A0_6 l0_6.length c0_6) := (blk_cell BK1113.out 6).trans rfl; have hfz75_0 := blk_frozen BK1113.out 0; have hfz75_1 := blk_frozen BK1113.out 1; have hfz75_2 := blk_frozen BK1113.out 2; have hfz75_3 := blk_frozen BK1113.out 3; have hfz75_4 := blk_frozen BK1113.out 4; have hfz75_5 := blk_frozen BK1113.out 5; have hfz75_6 := blk_frozen BK1113.out 6))
            go_ret
            exact ⟨by rfl, by repeat ((with_reducible exact HB.out))⟩
          ·rw [if_neg c48] at H
           have c48b0 : decide (t1117 ≤ a0_3) = false := decide_eq_false c48
           clear c48
           obtain rfl := Option.some.inj H
           try go_wp2
           replace BK1113 := Aside0.mk (blk_drew BK1113.out); replace HB := Aside0.mk (below_drew1 HB.out)
           refine start_ (n := 6) (S := fun w' => w'.cell? ⟨gb1113, 0, none⟩ = some (.int .u8 a0_0) ∧ w'.cell? ⟨gb1113, 1, none⟩ = some (.int .i64 a0_1) ∧ w'.cell? ⟨gb1113, 2, none⟩ = some (.int .i64 a0_2) ∧ w'.cell? ⟨gb1113, 3, none⟩ = some (.int .i64 a0_3) ∧ w'.cell? ⟨gb1113, 4, none⟩ = some (.int .i64 a0_4) ∧ w'.cell? ⟨gb1113, 5, none⟩ = some (.int .i64 a0_5) ∧ w'.cell? ⟨gb1113, 6, none⟩ = some (.slice A0_6 l0_6.length c0_6)) (ds := []) #[false, false, false, false, false, false] (by kernel_rfl) rfl rfl ⟨(blk_cell BK1113.out 0).trans rfl, (blk_cell BK1113.out 1).trans rfl, (blk_cell BK1113.out 2).trans rfl, (blk_cell BK1113.out 3).trans rfl, (blk_cell BK1113.out 4).trans rfl, (blk_cell BK1113.out 5).trans rfl, (blk_cell BK1113.out 6).trans rfl⟩ (fun hHeld => ?_)
           generalize wc.drew = w76 at BK1113 HB hHeld ⊢
           refine take_ (i := 0) (N := some 13) (v := ?_) (a' := ?_) #[true, false, false, false, false, false] rfl rfl (by kernel_rfl) (fun _ _ _ h => h) (Or.inl ⟨by rfl, ?_⟩) hHeld ?_ ?_
           rotate_left
           ·rintro w' ⟨s0, s1, s2, s3, s4, s5, s6⟩
            go_simp
            with_reducible rfl
           rotate_left
           ·simp only [Act.put, List.setIfInBounds_toArray, List.set_cons_zero, List.set_cons_succ, i64_w, i32_w]
            rfl
           refine take_ (i := 2) (N := some 15) (v := ?_) (a' := ?_) #[true, false, true, false, false, false] rfl rfl (by kernel_rfl) (fun _ _ _ h => h) (Or.inl ⟨by rfl, ?_⟩) hHeld ?_ ?_
           rotate_left
           ·rintro w' ⟨s0, s1, s2, s3, s4, s5, s6⟩
            go_simp
            with_reducible rfl
           rotate_left
           ·simp only [Act.put, List.setIfInBounds_toArray, List.set_cons_zero, List.set_cons_succ, i64_w, i32_w]
            rfl
           refine one_ (i := 1) (N := some 14) #[true, true, true, false, false, false] rfl rfl (by kernel_rfl) (by decide) (fun K hK => ?_)
           refine goes_ Try.func93 (by kernel_rfl) rfl #[.agg #[.int .u8 a0_0, .int .i64 a0_1, .int .i64 a0_2, .int .i64 a0_3, .int .i64 a0_4, .int .i64 a0_5, .slice A0_6 l0_6.length c0_6], .int .u8 1] (by rfl) rfl rfl (by (try simp only [List.map_toArray, List.map_cons, List.map_nil]); rfl) ?_
           with_reducible refine (least_Least.calls kj1 a0_0 a0_1 a0_2 a0_3 a0_4 a0_5 (fun k_ => k_ < w.heap.size) _ _ l0_6 1 t1117 _ ?side1 A16.out).mono ?_
           (case side1 => exact Kd.V_mk HC0_6.out (Kd.F_below (Kd.C_F k26_heap HR0_6.out) (by repeat ((with_reducible exact HB.out)))))
           rintro e w77 ⟨rfl, hb⟩
           refine ⟨_, rfl, ?_⟩
           replace BK1113 := Aside0.mk (blk_below BK1113.out hb); replace HB := Aside0.mk (below_step (by repeat ((with_reducible exact HB.out))) hb)
           (try clear hb)
           (skip)
           (skip)
           (skip)
           refine hK.out _ _ ⟨(blk_cell BK1113.out 0).trans rfl, (blk_cell BK1113.out 1).trans rfl, (blk_cell BK1113.out 2).trans rfl, (blk_cell BK1113.out 3).trans rfl, (blk_cell BK1113.out 4).trans rfl, (blk_cell BK1113.out 5).trans rfl, (blk_cell BK1113.out 6).trans rfl⟩ (fun hHeld => ?_)
           clear hK K
           refine norm_ (a' := ?_) ?_ ?_
           rotate_left
           ·show Act.put _ (some 14) _ = _
            simp only [Act.put, List.setIfInBounds_toArray, List.set_cons_zero, List.set_cons_succ, i64_w, i32_w]
            rfl
           refine one_ (i := 3) (N := some 16) #[true, true, true, true, false, false] rfl rfl (by kernel_rfl) (by decide) (fun K hK => ?_)
           refine goes_ Try.func93 (by kernel_rfl) rfl #[.agg #[.int .u8 a0_0, .int .i64 a0_1, .int .i64 a0_2, .int .i64 a0_3, .int .i64 a0_4, .int .i64 a0_5, .slice A0_6 l0_6.length c0_6], .int .u8 2] (by rfl) rfl rfl (by (try simp only [List.map_toArray, List.map_cons, List.map_nil]); rfl) ?_
           with_reducible refine (least_Least.calls kj1 a0_0 a0_1 a0_2 a0_3 a0_4 a0_5 (fun k_ => k_ < w.heap.size) _ _ l0_6 2 t1118 _ ?side1 A17.out).mono ?_
           (case side1 => exact Kd.V_mk HC0_6.out (Kd.F_below (Kd.C_F k26_heap HR0_6.out) (by repeat ((with_reducible exact HB.out)))))
           rintro e w78 ⟨rfl, hb⟩
           refine ⟨_, rfl, ?_⟩
           replace BK1113 := Aside0.mk (blk_below BK1113.out hb); replace HB := Aside0.mk (below_step (by repeat ((with_reducible exact HB.out))) hb)
           (try clear hb)
           (skip)
           (skip)
           (skip)
           refine hK.out _ _ ⟨(blk_cell BK1113.out 0).trans rfl, (blk_cell BK1113.out 1).trans rfl, (blk_cell BK1113.out 2).trans rfl, (blk_cell BK1113.out 3).trans rfl, (blk_cell BK1113.out 4).trans rfl, (blk_cell BK1113.out 5).trans rfl, (blk_cell BK1113.out 6).trans rfl⟩ (fun hHeld => ?_)
           clear hK K
           refine norm_ (a' := ?_) ?_ ?_
           rotate_left
           ·show Act.put _ (some 16) _ = _
            simp only [Act.put, List.setIfInBounds_toArray, List.set_cons_zero, List.set_cons_succ, i64_w, i32_w]
            rfl
           refine pure_ (i := 4) (N := some 3) (v := ?_) (a' := ?_) #[true, true, true, true, true, false] rfl rfl (by kernel_rfl) (fun _ _ _ h => h) (Or.inl ⟨by rfl, ?_⟩) ?_ ?_
           rotate_left
           ·intro w'
            go_simp
            with_reducible rfl
           rotate_left
           ·simp only [Act.put, List.setIfInBounds_toArray, List.set_cons_zero, List.set_cons_succ, i64_w, i32_w]
            rfl
           refine pure_ (i := 5) (N := some 4) (v := ?_) (a' := ?_) #[true, true, true, true, true, true] rfl rfl (by kernel_rfl) (fun _ _ _ h => h) (Or.inl ⟨by rfl, ?_⟩) ?_ ?_
           rotate_left
           ·intro w'
            go_simp
            with_reducible rfl
           rotate_left
           ·simp only [Act.put, List.setIfInBounds_toArray, List.set_cons_zero, List.set_cons_succ, i64_w, i32_w]
            rfl
           refine done_ (by kernel_rfl) ?_
           have hcz79_0 : w78.cell? ⟨gb1113, 0, none⟩ = some (.int .u8 a0_0) := (blk_cell BK1113.out 0).trans rfl
           have hcz79_1 : w78.cell? ⟨gb1113, 1, none⟩ = some (.int .i64 a0_1) := (blk_cell BK1113.out 1).trans rfl
           have hcz79_2 : w78.cell? ⟨gb1113, 2, none⟩ = some (.int .i64 a0_2) := (blk_cell BK1113.out 2).trans rfl
           have hcz79_3 : w78.cell? ⟨gb1113, 3, none⟩ = some (.int .i64 a0_3) := (blk_cell BK1113.out 3).trans rfl
           have hcz79_4 : w78.cell? ⟨gb1113, 4, none⟩ = some (.int .i64 a0_4) := (blk_cell BK1113.out 4).trans rfl
           have hcz79_5 : w78.cell? ⟨gb1113, 5, none⟩ = some (.int .i64 a0_5) := (blk_cell BK1113.out 5).trans rfl
           have hcz79_6 : w78.cell? ⟨gb1113, 6, none⟩ = some (.slice A0_6 l0_6.length c0_6) := (blk_cell BK1113.out 6).trans rfl
           have hfz79_0 := blk_frozen BK1113.out 0
           have hfz79_1 := blk_frozen BK1113.out 1
           have hfz79_2 := blk_frozen BK1113.out 2
           have hfz79_3 := blk_frozen BK1113.out 3
           have hfz79_4 := blk_frozen BK1113.out 4
           have hfz79_5 := blk_frozen BK1113.out 5
           have hfz79_6 := blk_frozen BK1113.out 6
           try go_wp2_with (first | ((with_reducible refine gate_callee (f := 96) rfl ?_); refine goesL_ (some 24) rfl rfl Try.func96 (by kernel_rfl) rfl #[.agg #[.int .u8 a0_0, .int .i64 a0_1, .int .i64 a0_2, .int .i64 a0_3, .int .i64 a0_4, .int .i64 a0_5, .slice A0_6 l0_6.length c0_6], .int .i64 a0_3, .int .i64 a0_4] rfl (by (try simp only [List.map_toArray, List.map_cons, List.map_nil]); rfl) ?_; (with_reducible refine (least_Fits.calls kj1 a0_0 a0_1 a0_2 a0_3 a0_4 a0_5 (fun k_ => k_ < w.heap.size) _ _ l0_6 a0_3 a0_4 true _ ?side1 A18.out).mono ?_); (case side1 => exact Kd.V_mk HC0_6.out (Kd.F_below (Kd.C_F k26_heap HR0_6.out) (by repeat ((with_reducible exact HB.out))))); rintro e w80 ⟨rfl, hb⟩; refine ⟨_, rfl, ?_⟩; replace BK1113 := Aside0.mk (blk_below BK1113.out hb); replace HB := Aside0.mk (below_step (by repeat ((with_reducible exact HB.out))) hb); (try clear hb); have hcz81_0 : w80.cell? ⟨gb1113, 0, none⟩ = some (.int .u8 a0_0) := (blk_cell BK1113.out 0).trans rfl; have hcz81_1 : w80.cell? ⟨gb1113, 1, none⟩ = some (.int .i64 a0_1) := (blk_cell BK1113.out 1).trans rfl; have hcz81_2 : w80.cell? ⟨gb1113, 2, none⟩ = some (.int .i64 a0_2) := (blk_cell BK1113.out 2).trans rfl; have hcz81_3 : w80.cell? ⟨gb1113, 3, none⟩ = some (.int .i64 a0_3) := (blk_cell BK1113.out 3).trans rfl; have hcz81_4 : w80.cell? ⟨gb1113, 4, none⟩ = some (.int .i64 a0_4) := (blk_cell BK1113.out 4).trans rfl; have hcz81_5 : w80.cell? ⟨gb1113, 5, none⟩ = some (.int .i64 a0_5) := (blk_cell BK1113.out 5).trans rfl; have hcz81_6 : w80.cell? ⟨gb1113, 6, none⟩ = some (.slice A0_6 l0_6.length c0_6) := (blk_cell BK1113.out 6).trans rfl; have hfz81_0 := blk_frozen BK1113.out 0; have hfz81_1 := blk_frozen BK1113.out 1; have hfz81_2 := blk_frozen BK1113.out 2; have hfz81_3 := blk_frozen BK1113.out 3; have hfz81_4 := blk_frozen BK1113.out 4; have hfz81_5 := blk_frozen BK1113.out 5; have hfz81_6 := blk_frozen BK1113.out 6) | (go_at_call 96; (with_reducible refine (least_Fits.calls kj1 a0_0 a0_1 a0_2 a0_3 a0_4 a0_5 (fun k_ => k_ < w.heap.size) _ _ l0_6 t1117 t1118 true _ ?side1 A20.out).mono ?_); (case side1 => exact Kd.V_mk HC0_6.out (Kd.F_below (Kd.C_F k26_heap HR0_6.out) (by repeat ((with_reducible exact HB.out))))); rintro e w82 ⟨rfl, hb⟩; replace BK1113 := Aside0.mk (blk_below BK1113.out hb); replace HB := Aside0.mk (below_step (by repeat ((with_reducible exact HB.out))) hb); (try clear hb); have hcz83_0 : w82.cell? ⟨gb1113, 0, none⟩ = some (.int .u8 a0_0) := (blk_cell BK1113.out 0).trans rfl; have hcz83_1 : w82.cell? ⟨gb1113, 1, none⟩ = some (.int .i64 a0_1) := (blk_cell BK1113.out 1).trans rfl; have hcz83_2 : w82.cell? ⟨gb1113, 2, none⟩ = some (.int .i64 a0_2) := (blk_cell BK1113.out 2).trans rfl; have hcz83_3 : w82.cell? ⟨gb1113, 3, none⟩ = some (.int .i64 a0_3) := (blk_cell BK1113.out 3).trans rfl; have hcz83_4 : w82.cell? ⟨gb1113, 4, none⟩ = some (.int .i64 a0_4) := (blk_cell BK1113.out 4).trans rfl; have hcz83_5 : w82.cell? ⟨gb1113, 5, none⟩ = some (.int .i64 a0_5) := (blk_cell BK1113.out 5).trans rfl; have hcz83_6 : w82.cell? ⟨gb1113, 6, none⟩ = some (.slice A0_6 l0_6.length c0_6) := (blk_cell BK1113.out 6).trans rfl; have hfz83_0 := blk_frozen BK1113.out 0; have hfz83_1 := blk_frozen BK1113.out 1; have hfz83_2 := blk_frozen BK1113.out 2; have hfz83_3 := blk_frozen BK1113.out 3; have hfz83_4 := blk_frozen BK1113.out 4; have hfz83_5 := blk_frozen BK1113.out 5; have hfz83_6 := blk_frozen BK1113.out 6) | (go_at_call 96; (with_reducible refine (least_Fits.calls kj1 a0_0 a0_1 a0_2 a0_3 a0_4 a0_5 (fun k_ => k_ < w.heap.size) _ _ l0_6 (wrap64 (t1117 - 1)) t1118 false _ ?side1 A22.out).mono ?_); (case side1 => exact Kd.V_mk HC0_6.out (Kd.F_below (Kd.C_F k26_heap HR0_6.out) (by repeat ((with_reducible exact HB.out))))); rintro e w84 ⟨rfl, hb⟩; replace BK1113 := Aside0.mk (blk_below BK1113.out hb); replace HB := Aside0.mk (below_step (by repeat ((with_reducible exact HB.out))) hb); (try clear hb); have hcz85_0 : w84.cell? ⟨gb1113, 0, none⟩ = some (.int .u8 a0_0) := (blk_cell BK1113.out 0).trans rfl; have hcz85_1 : w84.cell? ⟨gb1113, 1, none⟩ = some (.int .i64 a0_1) := (blk_cell BK1113.out 1).trans rfl; have hcz85_2 : w84.cell? ⟨gb1113, 2, none⟩ = some (.int .i64 a0_2) := (blk_cell BK1113.out 2).trans rfl; have hcz85_3 : w84.cell? ⟨gb1113, 3, none⟩ = some (.int .i64 a0_3) := (blk_cell BK1113.out 3).trans rfl; have hcz85_4 : w84.cell? ⟨gb1113, 4, none⟩ = some (.int .i64 a0_4) := (blk_cell BK1113.out 4).trans rfl; have hcz85_5 : w84.cell? ⟨gb1113, 5, none⟩ = some (.int .i64 a0_5) := (blk_cell BK1113.out 5).trans rfl; have hcz85_6 : w84.cell? ⟨gb1113, 6, none⟩ = some (.slice A0_6 l0_6.length c0_6) := (blk_cell BK1113.out 6).trans rfl; have hfz85_0 := blk_frozen BK1113.out 0; have hfz85_1 := blk_frozen BK1113.out 1; have hfz85_2 := blk_frozen BK1113.out 2; have hfz85_3 := blk_frozen BK1113.out 3; have hfz85_4 := blk_frozen BK1113.out 4; have hfz85_5 := blk_frozen BK1113.out 5; have hfz85_6 := blk_frozen BK1113.out 6) | (go_at_call 96; (with_reducible refine (least_Fits.calls kj1 a0_0 a0_1 a0_2 a0_3 a0_4 a0_5 (fun k_ => k_ < w.heap.size) _ _ l0_6 t1117 (wrap64 (t1118 - 1)) false _ ?side1 A33.out).mono ?_); (case side1 => exact Kd.V_mk HC0_6.out (Kd.F_below (Kd.C_F k26_heap HR0_6.out) (by repeat ((with_reducible exact HB.out))))); rintro e w86 ⟨rfl, hb⟩; replace BK1113 := Aside0.mk (blk_below BK1113.out hb); replace HB := Aside0.mk (below_step (by repeat ((with_reducible exact HB.out))) hb); (try clear hb); have hcz87_0 : w86.cell? ⟨gb1113, 0, none⟩ = some (.int .u8 a0_0) := (blk_cell BK1113.out 0).trans rfl; have hcz87_1 : w86.cell? ⟨gb1113, 1, none⟩ = some (.int .i64 a0_1) := (blk_cell BK1113.out 1).trans rfl; have hcz87_2 : w86.cell? ⟨gb1113, 2, none⟩ = some (.int .i64 a0_2) := (blk_cell BK1113.out 2).trans rfl; have hcz87_3 : w86.cell? ⟨gb1113, 3, none⟩ = some (.int .i64 a0_3) := (blk_cell BK1113.out 3).trans rfl; have hcz87_4 : w86.cell? ⟨gb1113, 4, none⟩ = some (.int .i64 a0_4) := (blk_cell BK1113.out 4).trans rfl; have hcz87_5 : w86.cell? ⟨gb1113, 5, none⟩ = some (.int .i64 a0_5) := (blk_cell BK1113.out 5).trans rfl; have hcz87_6 : w86.cell? ⟨gb1113, 6, none⟩ = some (.slice A0_6 l0_6.length c0_6) := (blk_cell BK1113.out 6).trans rfl; have hfz87_0 := blk_frozen BK1113.out 0; have hfz87_1 := blk_frozen BK1113.out 1; have hfz87_2 := blk_frozen BK1113.out 2; have hfz87_3 := blk_frozen BK1113.out 3; have hfz87_4 := blk_frozen BK1113.out 4; have hfz87_5 := blk_frozen BK1113.out 5; have hfz87_6 := blk_frozen BK1113.out 6))
           go_ret
           exact ⟨by rfl, by repeat ((with_reducible exact HB.out))⟩
         ·rw [if_neg c47] at H
          have c47b0 : decide (1 ≤ t1118) = false := decide_eq_false c47
          clear c47
          obtain rfl := Option.some.inj H
          try go_wp2
          replace BK1113 := Aside0.mk (blk_drew BK1113.out); replace HB := Aside0.mk (below_drew1 HB.out)
          refine start_ (n := 6) (S := fun w' => w'.cell? ⟨gb1113, 0, none⟩ = some (.int .u8 a0_0) ∧ w'.cell? ⟨gb1113, 1, none⟩ = some (.int .i64 a0_1) ∧ w'.cell? ⟨gb1113, 2, none⟩ = some (.int .i64 a0_2) ∧ w'.cell? ⟨gb1113, 3, none⟩ = some (.int .i64 a0_3) ∧ w'.cell? ⟨gb1113, 4, none⟩ = some (.int .i64 a0_4) ∧ w'.cell? ⟨gb1113, 5, none⟩ = some (.int .i64 a0_5) ∧ w'.cell? ⟨gb1113, 6, none⟩ = some (.slice A0_6 l0_6.length c0_6)) (ds := []) #[false, false, false, false, false, false] (by kernel_rfl) rfl rfl ⟨(blk_cell BK1113.out 0).trans rfl, (blk_cell BK1113.out 1).trans rfl, (blk_cell BK1113.out 2).trans rfl, (blk_cell BK1113.out 3).trans rfl, (blk_cell BK1113.out 4).trans rfl, (blk_cell BK1113.out 5).trans rfl, (blk_cell BK1113.out 6).trans rfl⟩ (fun hHeld => ?_)
          generalize wc.drew = w88 at BK1113 HB hHeld ⊢
          refine take_ (i := 0) (N := some 13) (v := ?_) (a' := ?_) #[true, false, false, false, false, false] rfl rfl (by kernel_rfl) (fun _ _ _ h => h) (Or.inl ⟨by rfl, ?_⟩) hHeld ?_ ?_
          rotate_left
          ·rintro w' ⟨s0, s1, s2, s3, s4, s5, s6⟩
           go_simp
           with_reducible rfl
          rotate_left
          ·simp only [Act.put, List.setIfInBounds_toArray, List.set_cons_zero, List.set_cons_succ, i64_w, i32_w]
           rfl
          refine take_ (i := 2) (N := some 15) (v := ?_) (a' := ?_) #[true, false, true, false, false, false] rfl rfl (by kernel_rfl) (fun _ _ _ h => h) (Or.inl ⟨by rfl, ?_⟩) hHeld ?_ ?_
          rotate_left
          ·rintro w' ⟨s0, s1, s2, s3, s4, s5, s6⟩
           go_simp
           with_reducible rfl
          rotate_left
          ·simp only [Act.put, List.setIfInBounds_toArray, List.set_cons_zero, List.set_cons_succ, i64_w, i32_w]
           rfl
          refine one_ (i := 1) (N := some 14) #[true, true, true, false, false, false] rfl rfl (by kernel_rfl) (by decide) (fun K hK => ?_)
          refine goes_ Try.func93 (by kernel_rfl) rfl #[.agg #[.int .u8 a0_0, .int .i64 a0_1, .int .i64 a0_2, .int .i64 a0_3, .int .i64 a0_4, .int .i64 a0_5, .slice A0_6 l0_6.length c0_6], .int .u8 1] (by rfl) rfl rfl (by (try simp only [List.map_toArray, List.map_cons, List.map_nil]); rfl) ?_
          with_reducible refine (least_Least.calls kj1 a0_0 a0_1 a0_2 a0_3 a0_4 a0_5 (fun k_ => k_ < w.heap.size) _ _ l0_6 1 t1117 _ ?side1 A16.out).mono ?_
          (case side1 => exact Kd.V_mk HC0_6.out (Kd.F_below (Kd.C_F k26_heap HR0_6.out) (by repeat ((with_reducible exact HB.out)))))
          rintro e w89 ⟨rfl, hb⟩
          refine ⟨_, rfl, ?_⟩
          replace BK1113 := Aside0.mk (blk_below BK1113.out hb); replace HB := Aside0.mk (below_step (by repeat ((with_reducible exact HB.out))) hb)
          (try clear hb)
          (skip)
          (skip)
          (skip)
          refine hK.out _ _ ⟨(blk_cell BK1113.out 0).trans rfl, (blk_cell BK1113.out 1).trans rfl, (blk_cell BK1113.out 2).trans rfl, (blk_cell BK1113.out 3).trans rfl, (blk_cell BK1113.out 4).trans rfl, (blk_cell BK1113.out 5).trans rfl, (blk_cell BK1113.out 6).trans rfl⟩ (fun hHeld => ?_)
          clear hK K
          refine norm_ (a' := ?_) ?_ ?_
          rotate_left
          ·show Act.put _ (some 14) _ = _
           simp only [Act.put, List.setIfInBounds_toArray, List.set_cons_zero, List.set_cons_succ, i64_w, i32_w]
           rfl
          refine one_ (i := 3) (N := some 16) #[true, true, true, true, false, false] rfl rfl (by kernel_rfl) (by decide) (fun K hK => ?_)
          refine goes_ Try.func93 (by kernel_rfl) rfl #[.agg #[.int .u8 a0_0, .int .i64 a0_1, .int .i64 a0_2, .int .i64 a0_3, .int .i64 a0_4, .int .i64 a0_5, .slice A0_6 l0_6.length c0_6], .int .u8 2] (by rfl) rfl rfl (by (try simp only [List.map_toArray, List.map_cons, List.map_nil]); rfl) ?_
          with_reducible refine (least_Least.calls kj1 a0_0 a0_1 a0_2 a0_3 a0_4 a0_5 (fun k_ => k_ < w.heap.size) _ _ l0_6 2 t1118 _ ?side1 A17.out).mono ?_
          (case side1 => exact Kd.V_mk HC0_6.out (Kd.F_below (Kd.C_F k26_heap HR0_6.out) (by repeat ((with_reducible exact HB.out)))))
          rintro e w90 ⟨rfl, hb⟩
          refine ⟨_, rfl, ?_⟩
          replace BK1113 := Aside0.mk (blk_below BK1113.out hb); replace HB := Aside0.mk (below_step (by repeat ((with_reducible exact HB.out))) hb)
          (try clear hb)
          (skip)
          (skip)
          (skip)
          refine hK.out _ _ ⟨(blk_cell BK1113.out 0).trans rfl, (blk_cell BK1113.out 1).trans rfl, (blk_cell BK1113.out 2).trans rfl, (blk_cell BK1113.out 3).trans rfl, (blk_cell BK1113.out 4).trans rfl, (blk_cell BK1113.out 5).trans rfl, (blk_cell BK1113.out 6).trans rfl⟩ (fun hHeld => ?_)
          clear hK K
          refine norm_ (a' := ?_) ?_ ?_
          rotate_left
          ·show Act.put _ (some 16) _ = _
           simp only [Act.put, List.setIfInBounds_toArray, List.set_cons_zero, List.set_cons_succ, i64_w, i32_w]
           rfl
          refine pure_ (i := 4) (N := some 3) (v := ?_) (a' := ?_) #[true, true, true, true, true, false] rfl rfl (by kernel_rfl) (fun _ _ _ h => h) (Or.inl ⟨by rfl, ?_⟩) ?_ ?_
          rotate_left
          ·intro w'
           go_simp
           with_reducible rfl
          rotate_left
          ·simp only [Act.put, List.setIfInBounds_toArray, List.set_cons_zero, List.set_cons_succ, i64_w, i32_w]
           rfl
          refine pure_ (i := 5) (N := some 4) (v := ?_) (a' := ?_) #[true, true, true, true, true, true] rfl rfl (by kernel_rfl) (fun _ _ _ h => h) (Or.inl ⟨by rfl, ?_⟩) ?_ ?_
          rotate_left
          ·intro w'
           go_simp
           with_reducible rfl
          rotate_left
          ·simp only [Act.put, List.setIfInBounds_toArray, List.set_cons_zero, List.set_cons_succ, i64_w, i32_w]
           rfl
          refine done_ (by kernel_rfl) ?_
          have hcz91_0 : w90.cell? ⟨gb1113, 0, none⟩ = some (.int .u8 a0_0) := (blk_cell BK1113.out 0).trans rfl
          have hcz91_1 : w90.cell? ⟨gb1113, 1, none⟩ = some (.int .i64 a0_1) := (blk_cell BK1113.out 1).trans rfl
          have hcz91_2 : w90.cell? ⟨gb1113, 2, none⟩ = some (.int .i64 a0_2) := (blk_cell BK1113.out 2).trans rfl
          have hcz91_3 : w90.cell? ⟨gb1113, 3, none⟩ = some (.int .i64 a0_3) := (blk_cell BK1113.out 3).trans rfl
          have hcz91_4 : w90.cell? ⟨gb1113, 4, none⟩ = some (.int .i64 a0_4) := (blk_cell BK1113.out 4).trans rfl
          have hcz91_5 : w90.cell? ⟨gb1113, 5, none⟩ = some (.int .i64 a0_5) := (blk_cell BK1113.out 5).trans rfl
          have hcz91_6 : w90.cell? ⟨gb1113, 6, none⟩ = some (.slice A0_6 l0_6.length c0_6) := (blk_cell BK1113.out 6).trans rfl
          have hfz91_0 := blk_frozen BK1113.out 0
          have hfz91_1 := blk_frozen BK1113.out 1
          have hfz91_2 := blk_frozen BK1113.out 2
          have hfz91_3 := blk_frozen BK1113.out 3
          have hfz91_4 := blk_frozen BK1113.out 4
          have hfz91_5 := blk_frozen BK1113.out 5
          have hfz91_6 := blk_frozen BK1113.out 6
          try go_wp2_with (first | ((with_reducible refine gate_callee (f := 96) rfl ?_); refine goesL_ (some 24) rfl rfl Try.func96 (by kernel_rfl) rfl #[.agg #[.int .u8 a0_0, .int .i64 a0_1, .int .i64 a0_2, .int .i64 a0_3, .int .i64 a0_4, .int .i64 a0_5, .slice A0_6 l0_6.length c0_6], .int .i64 a0_3, .int .i64 a0_4] rfl (by (try simp only [List.map_toArray, List.map_cons, List.map_nil]); rfl) ?_; (with_reducible refine (least_Fits.calls kj1 a0_0 a0_1 a0_2 a0_3 a0_4 a0_5 (fun k_ => k_ < w.heap.size) _ _ l0_6 a0_3 a0_4 true _ ?side1 A18.out).mono ?_); (case side1 => exact Kd.V_mk HC0_6.out (Kd.F_below (Kd.C_F k26_heap HR0_6.out) (by repeat ((with_reducible exact HB.out))))); rintro e w92 ⟨rfl, hb⟩; refine ⟨_, rfl, ?_⟩; replace BK1113 := Aside0.mk (blk_below BK1113.out hb); replace HB := Aside0.mk (below_step (by repeat ((with_reducible exact HB.out))) hb); (try clear hb); have hcz93_0 : w92.cell? ⟨gb1113, 0, none⟩ = some (.int .u8 a0_0) := (blk_cell BK1113.out 0).trans rfl; have hcz93_1 : w92.cell? ⟨gb1113, 1, none⟩ = some (.int .i64 a0_1) := (blk_cell BK1113.out 1).trans rfl; have hcz93_2 : w92.cell? ⟨gb1113, 2, none⟩ = some (.int .i64 a0_2) := (blk_cell BK1113.out 2).trans rfl; have hcz93_3 : w92.cell? ⟨gb1113, 3, none⟩ = some (.int .i64 a0_3) := (blk_cell BK1113.out 3).trans rfl; have hcz93_4 : w92.cell? ⟨gb1113, 4, none⟩ = some (.int .i64 a0_4) := (blk_cell BK1113.out 4).trans rfl; have hcz93_5 : w92.cell? ⟨gb1113, 5, none⟩ = some (.int .i64 a0_5) := (blk_cell BK1113.out 5).trans rfl; have hcz93_6 : w92.cell? ⟨gb1113, 6, none⟩ = some (.slice A0_6 l0_6.length c0_6) := (blk_cell BK1113.out 6).trans rfl; have hfz93_0 := blk_frozen BK1113.out 0; have hfz93_1 := blk_frozen BK1113.out 1; have hfz93_2 := blk_frozen BK1113.out 2; have hfz93_3 := blk_frozen BK1113.out 3; have hfz93_4 := blk_frozen BK1113.out 4; have hfz93_5 := blk_frozen BK1113.out 5; have hfz93_6 := blk_frozen BK1113.out 6) | (go_at_call 96; (with_reducible refine (least_Fits.calls kj1 a0_0 a0_1 a0_2 a0_3 a0_4 a0_5 (fun k_ => k_ < w.heap.size) _ _ l0_6 t1117 t1118 true _ ?side1 A20.out).mono ?_); (case side1 => exact Kd.V_mk HC0_6.out (Kd.F_below (Kd.C_F k26_heap HR0_6.out) (by repeat ((with_reducible exact HB.out))))); rintro e w94 ⟨rfl, hb⟩; replace BK1113 := Aside0.mk (blk_below BK1113.out hb); replace HB := Aside0.mk (below_step (by repeat ((with_reducible exact HB.out))) hb); (try clear hb); have hcz95_0 : w94.cell? ⟨gb1113, 0, none⟩ = some (.int .u8 a0_0) := (blk_cell BK1113.out 0).trans rfl; have hcz95_1 : w94.cell? ⟨gb1113, 1, none⟩ = some (.int .i64 a0_1) := (blk_cell BK1113.out 1).trans rfl; have hcz95_2 : w94.cell? ⟨gb1113, 2, none⟩ = some (.int .i64 a0_2) := (blk_cell BK1113.out 2).trans rfl; have hcz95_3 : w94.cell? ⟨gb1113, 3, none⟩ = some (.int .i64 a0_3) := (blk_cell BK1113.out 3).trans rfl; have hcz95_4 : w94.cell? ⟨gb1113, 4, none⟩ = some (.int .i64 a0_4) := (blk_cell BK1113.out 4).trans rfl; have hcz95_5 : w94.cell? ⟨gb1113, 5, none⟩ = some (.int .i64 a0_5) := (blk_cell BK1113.out 5).trans rfl; have hcz95_6 : w94.cell? ⟨gb1113, 6, none⟩ = some (.slice A0_6 l0_6.length c0_6) := (blk_cell BK1113.out 6).trans rfl; have hfz95_0 := blk_frozen BK1113.out 0; have hfz95_1 := blk_frozen BK1113.out 1; have hfz95_2 := blk_frozen BK1113.out 2; have hfz95_3 := blk_frozen BK1113.out 3; have hfz95_4 := blk_frozen BK1113.out 4; have hfz95_5 := blk_frozen BK1113.out 5; have hfz95_6 := blk_frozen BK1113.out 6) | (go_at_call 96; (with_reducible refine (least_Fits.calls kj1 a0_0 a0_1 a0_2 a0_3 a0_4 a0_5 (fun k_ => k_ < w.heap.size) _ _ l0_6 (wrap64 (t1117 - 1)) t1118 false _ ?side1 A22.out).mono ?_); (case side1 => exact Kd.V_mk HC0_6.out (Kd.F_below (Kd.C_F k26_heap HR0_6.out) (by repeat ((with_reducible exact HB.out))))); rintro e w96 ⟨rfl, hb⟩; replace BK1113 := Aside0.mk (blk_below BK1113.out hb); replace HB := Aside0.mk (below_step (by repeat ((with_reducible exact HB.out))) hb); (try clear hb); have hcz97_0 : w96.cell? ⟨gb1113, 0, none⟩ = some (.int .u8 a0_0) := (blk_cell BK1113.out 0).trans rfl; have hcz97_1 : w96.cell? ⟨gb1113, 1, none⟩ = some (.int .i64 a0_1) := (blk_cell BK1113.out 1).trans rfl; have hcz97_2 : w96.cell? ⟨gb1113, 2, none⟩ = some (.int .i64 a0_2) := (blk_cell BK1113.out 2).trans rfl; have hcz97_3 : w96.cell? ⟨gb1113, 3, none⟩ = some (.int .i64 a0_3) := (blk_cell BK1113.out 3).trans rfl; have hcz97_4 : w96.cell? ⟨gb1113, 4, none⟩ = some (.int .i64 a0_4) := (blk_cell BK1113.out 4).trans rfl; have hcz97_5 : w96.cell? ⟨gb1113, 5, none⟩ = some (.int .i64 a0_5) := (blk_cell BK1113.out 5).trans rfl; have hcz97_6 : w96.cell? ⟨gb1113, 6, none⟩ = some (.slice A0_6 l0_6.length c0_6) := (blk_cell BK1113.out 6).trans rfl; have hfz97_0 := blk_frozen BK1113.out 0; have hfz97_1 := blk_frozen BK1113.out 1; have hfz97_2 := blk_frozen BK1113.out 2; have hfz97_3 := blk_frozen BK1113.out 3; have hfz97_4 := blk_frozen BK1113.out 4; have hfz97_5 := blk_frozen BK1113.out 5; have hfz97_6 := blk_frozen BK1113.out 6) | (go_at_call 96; (with_reducible refine (least_Fits.calls kj1 a0_0 a0_1 a0_2 a0_3 a0_4 a0_5 (fun k_ => k_ < w.heap.size) _ _ l0_6 t1117 (wrap64 (t1118 - 1)) false _ ?side1 A33.out).mono ?_); (case side1 => exact Kd.V_mk HC0_6.out (Kd.F_below (Kd.C_F k26_heap HR0_6.out) (by repeat ((with_reducible exact HB.out))))); rintro e w98 ⟨rfl, hb⟩; replace BK1113 := Aside0.mk (blk_below BK1113.out hb); replace HB := Aside0.mk (below_step (by repeat ((with_reducible exact HB.out))) hb); (try clear hb)))
          go_ret
          exact ⟨by rfl, by repeat ((with_reducible exact HB.out))⟩
        ·rw [if_neg c46] at H
         have c46b0 : decide (1 ≤ t1117) = false := decide_eq_false c46
         clear c46
         obtain rfl := Option.some.inj H
         try go_wp2
         replace BK1113 := Aside0.mk (blk_drew BK1113.out); replace HB := Aside0.mk (below_drew1 HB.out)
         refine start_ (n := 6) (S := fun w' => w'.cell? ⟨gb1113, 0, none⟩ = some (.int .u8 a0_0) ∧ w'.cell? ⟨gb1113, 1, none⟩ = some (.int .i64 a0_1) ∧ w'.cell? ⟨gb1113, 2, none⟩ = some (.int .i64 a0_2) ∧ w'.cell? ⟨gb1113, 3, none⟩ = some (.int .i64 a0_3) ∧ w'.cell? ⟨gb1113, 4, none⟩ = some (.int .i64 a0_4) ∧ w'.cell? ⟨gb1113, 5, none⟩ = some (.int .i64 a0_5) ∧ w'.cell? ⟨gb1113, 6, none⟩ = some (.slice A0_6 l0_6.length c0_6)) (ds := []) #[false, false, false, false, false, false] (by kernel_rfl) rfl rfl ⟨(blk_cell BK1113.out 0).trans rfl, (blk_cell BK1113.out 1).trans rfl, (blk_cell BK1113.out 2).trans rfl, (blk_cell BK1113.out 3).trans rfl, (blk_cell BK1113.out 4).trans rfl, (blk_cell BK1113.out 5).trans rfl, (blk_cell BK1113.out 6).trans rfl⟩ (fun hHeld => ?_)
         generalize wc.drew = w99 at BK1113 HB hHeld ⊢
         refine take_ (i := 0) (N := some 13) (v := ?_) (a' := ?_) #[true, false, false, false, false, false] rfl rfl (by kernel_rfl) (fun _ _ _ h => h) (Or.inl ⟨by rfl, ?_⟩) hHeld ?_ ?_
         rotate_left
         ·rintro w' ⟨s0, s1, s2, s3, s4, s5, s6⟩
          go_simp
          with_reducible rfl
         rotate_left
         ·simp only [Act.put, List.setIfInBounds_toArray, List.set_cons_zero, List.set_cons_succ, i64_w, i32_w]
          rfl
         refine take_ (i := 2) (N := some 15) (v := ?_) (a' := ?_) #[true, false, true, false, false, false] rfl rfl (by kernel_rfl) (fun _ _ _ h => h) (Or.inl ⟨by rfl, ?_⟩) hHeld ?_ ?_
         rotate_left
         ·rintro w' ⟨s0, s1, s2, s3, s4, s5, s6⟩
          go_simp
          with_reducible rfl
         rotate_left
         ·simp only [Act.put, List.setIfInBounds_toArray, List.set_cons_zero, List.set_cons_succ, i64_w, i32_w]
          rfl
         refine one_ (i := 1) (N := some 14) #[true, true, true, false, false, false] rfl rfl (by kernel_rfl) (by decide) (fun K hK => ?_)
         refine goes_ Try.func93 (by kernel_rfl) rfl #[.agg #[.int .u8 a0_0, .int .i64 a0_1, .int .i64 a0_2, .int .i64 a0_3, .int .i64 a0_4, .int .i64 a0_5, .slice A0_6 l0_6.length c0_6], .int .u8 1] (by rfl) rfl rfl (by (try simp only [List.map_toArray, List.map_cons, List.map_nil]); rfl) ?_
         with_reducible refine (least_Least.calls kj1 a0_0 a0_1 a0_2 a0_3 a0_4 a0_5 (fun k_ => k_ < w.heap.size) _ _ l0_6 1 t1117 _ ?side1 A16.out).mono ?_
         (case side1 => exact Kd.V_mk HC0_6.out (Kd.F_below (Kd.C_F k26_heap HR0_6.out) (by repeat ((with_reducible exact HB.out)))))
         rintro e w100 ⟨rfl, hb⟩
         refine ⟨_, rfl, ?_⟩
         replace BK1113 := Aside0.mk (blk_below BK1113.out hb); replace HB := Aside0.mk (below_step (by repeat ((with_reducible exact HB.out))) hb)
         (try clear hb)
         (skip)
         (skip)
         (skip)
         refine hK.out _ _ ⟨(blk_cell BK1113.out 0).trans rfl, (blk_cell BK1113.out 1).trans rfl, (blk_cell BK1113.out 2).trans rfl, (blk_cell BK1113.out 3).trans rfl, (blk_cell BK1113.out 4).trans rfl, (blk_cell BK1113.out 5).trans rfl, (blk_cell BK1113.out 6).trans rfl⟩ (fun hHeld => ?_)
         clear hK K
         refine norm_ (a' := ?_) ?_ ?_
         rotate_left
         ·show Act.put _ (some 14) _ = _
          simp only [Act.put, List.setIfInBounds_toArray, List.set_cons_zero, List.set_cons_succ, i64_w, i32_w]
          rfl
         refine one_ (i := 3) (N := some 16) #[true, true, true, true, false, false] rfl rfl (by kernel_rfl) (by decide) (fun K hK => ?_)
         refine goes_ Try.func93 (by kernel_rfl) rfl #[.agg #[.int .u8 a0_0, .int .i64 a0_1, .int .i64 a0_2, .int .i64 a0_3, .int .i64 a0_4, .int .i64 a0_5, .slice A0_6 l0_6.length c0_6], .int .u8 2] (by rfl) rfl rfl (by (try simp only [List.map_toArray, List.map_cons, List.map_nil]); rfl) ?_
         with_reducible refine (least_Least.calls kj1 a0_0 a0_1 a0_2 a0_3 a0_4 a0_5 (fun k_ => k_ < w.heap.size) _ _ l0_6 2 t1118 _ ?side1 A17.out).mono ?_
         (case side1 => exact Kd.V_mk HC0_6.out (Kd.F_below (Kd.C_F k26_heap HR0_6.out) (by repeat ((with_reducible exact HB.out)))))
         rintro e w101 ⟨rfl, hb⟩
         refine ⟨_, rfl, ?_⟩
         replace BK1113 := Aside0.mk (blk_below BK1113.out hb); replace HB := Aside0.mk (below_step (by repeat ((with_reducible exact HB.out))) hb)
         (try clear hb)
         (skip)
         (skip)
         (skip)
         refine hK.out _ _ ⟨(blk_cell BK1113.out 0).trans rfl, (blk_cell BK1113.out 1).trans rfl, (blk_cell BK1113.out 2).trans rfl, (blk_cell BK1113.out 3).trans rfl, (blk_cell BK1113.out 4).trans rfl, (blk_cell BK1113.out 5).trans rfl, (blk_cell BK1113.out 6).trans rfl⟩ (fun hHeld => ?_)
         clear hK K
         refine norm_ (a' := ?_) ?_ ?_
         rotate_left
         ·show Act.put _ (some 16) _ = _
          simp only [Act.put, List.setIfInBounds_toArray, List.set_cons_zero, List.set_cons_succ, i64_w, i32_w]
          rfl
         refine pure_ (i := 4) (N := some 3) (v := ?_) (a' := ?_) #[true, true, true, true, true, false] rfl rfl (by kernel_rfl) (fun _ _ _ h => h) (Or.inl ⟨by rfl, ?_⟩) ?_ ?_
         rotate_left
         ·intro w'
          go_simp
          with_reducible rfl
         rotate_left
         ·simp only [Act.put, List.setIfInBounds_toArray, List.set_cons_zero, List.set_cons_succ, i64_w, i32_w]
          rfl
         refine pure_ (i := 5) (N := some 4) (v := ?_) (a' := ?_) #[true, true, true, true, true, true] rfl rfl (by kernel_rfl) (fun _ _ _ h => h) (Or.inl ⟨by rfl, ?_⟩) ?_ ?_
         rotate_left
         ·intro w'
          go_simp
          with_reducible rfl
         rotate_left
         ·simp only [Act.put, List.setIfInBounds_toArray, List.set_cons_zero, List.set_cons_succ, i64_w, i32_w]
          rfl
         refine done_ (by kernel_rfl) ?_
         have hcz102_0 : w101.cell? ⟨gb1113, 0, none⟩ = some (.int .u8 a0_0) := (blk_cell BK1113.out 0).trans rfl
         have hcz102_1 : w101.cell? ⟨gb1113, 1, none⟩ = some (.int .i64 a0_1) := (blk_cell BK1113.out 1).trans rfl
         have hcz102_2 : w101.cell? ⟨gb1113, 2, none⟩ = some (.int .i64 a0_2) := (blk_cell BK1113.out 2).trans rfl
         have hcz102_3 : w101.cell? ⟨gb1113, 3, none⟩ = some (.int .i64 a0_3) := (blk_cell BK1113.out 3).trans rfl
         have hcz102_4 : w101.cell? ⟨gb1113, 4, none⟩ = some (.int .i64 a0_4) := (blk_cell BK1113.out 4).trans rfl
         have hcz102_5 : w101.cell? ⟨gb1113, 5, none⟩ = some (.int .i64 a0_5) := (blk_cell BK1113.out 5).trans rfl
         have hcz102_6 : w101.cell? ⟨gb1113, 6, none⟩ = some (.slice A0_6 l0_6.length c0_6) := (blk_cell BK1113.out 6).trans rfl
         have hfz102_0 := blk_frozen BK1113.out 0
         have hfz102_1 := blk_frozen BK1113.out 1
         have hfz102_2 := blk_frozen BK1113.out 2
         have hfz102_3 := blk_frozen BK1113.out 3
         have hfz102_4 := blk_frozen BK1113.out 4
         have hfz102_5 := blk_frozen BK1113.out 5
         have hfz102_6 := blk_frozen BK1113.out 6
         try go_wp2_with (first | ((with_reducible refine gate_callee (f := 96) rfl ?_); refine goesL_ (some 24) rfl rfl Try.func96 (by kernel_rfl) rfl #[.agg #[.int .u8 a0_0, .int .i64 a0_1, .int .i64 a0_2, .int .i64 a0_3, .int .i64 a0_4, .int .i64 a0_5, .slice A0_6 l0_6.length c0_6], .int .i64 a0_3, .int .i64 a0_4] rfl (by (try simp only [List.map_toArray, List.map_cons, List.map_nil]); rfl) ?_; (with_reducible refine (least_Fits.calls kj1 a0_0 a0_1 a0_2 a0_3 a0_4 a0_5 (fun k_ => k_ < w.heap.size) _ _ l0_6 a0_3 a0_4 true _ ?side1 A18.out).mono ?_); (case side1 => exact Kd.V_mk HC0_6.out (Kd.F_below (Kd.C_F k26_heap HR0_6.out) (by repeat ((with_reducible exact HB.out))))); rintro e w103 ⟨rfl, hb⟩; refine ⟨_, rfl, ?_⟩; replace BK1113 := Aside0.mk (blk_below BK1113.out hb); replace HB := Aside0.mk (below_step (by repeat ((with_reducible exact HB.out))) hb); (try clear hb); have hcz104_0 : w103.cell? ⟨gb1113, 0, none⟩ = some (.int .u8 a0_0) := (blk_cell BK1113.out 0).trans rfl; have hcz104_1 : w103.cell? ⟨gb1113, 1, none⟩ = some (.int .i64 a0_1) := (blk_cell BK1113.out 1).trans rfl; have hcz104_2 : w103.cell? ⟨gb1113, 2, none⟩ = some (.int .i64 a0_2) := (blk_cell BK1113.out 2).trans rfl; have hcz104_3 : w103.cell? ⟨gb1113, 3, none⟩ = some (.int .i64 a0_3) := (blk_cell BK1113.out 3).trans rfl; have hcz104_4 : w103.cell? ⟨gb1113, 4, none⟩ = some (.int .i64 a0_4) := (blk_cell BK1113.out 4).trans rfl; have hcz104_5 : w103.cell? ⟨gb1113, 5, none⟩ = some (.int .i64 a0_5) := (blk_cell BK1113.out 5).trans rfl; have hcz104_6 : w103.cell? ⟨gb1113, 6, none⟩ = some (.slice A0_6 l0_6.length c0_6) := (blk_cell BK1113.out 6).trans rfl; have hfz104_0 := blk_frozen BK1113.out 0; have hfz104_1 := blk_frozen BK1113.out 1; have hfz104_2 := blk_frozen BK1113.out 2; have hfz104_3 := blk_frozen BK1113.out 3; have hfz104_4 := blk_frozen BK1113.out 4; have hfz104_5 := blk_frozen BK1113.out 5; have hfz104_6 := blk_frozen BK1113.out 6) | (go_at_call 96; (with_reducible refine (least_Fits.calls kj1 a0_0 a0_1 a0_2 a0_3 a0_4 a0_5 (fun k_ => k_ < w.heap.size) _ _ l0_6 t1117 t1118 true _ ?side1 A20.out).mono ?_); (case side1 => exact Kd.V_mk HC0_6.out (Kd.F_below (Kd.C_F k26_heap HR0_6.out) (by repeat ((with_reducible exact HB.out))))); rintro e w105 ⟨rfl, hb⟩; replace BK1113 := Aside0.mk (blk_below BK1113.out hb); replace HB := Aside0.mk (below_step (by repeat ((with_reducible exact HB.out))) hb); (try clear hb); have hcz106_0 : w105.cell? ⟨gb1113, 0, none⟩ = some (.int .u8 a0_0) := (blk_cell BK1113.out 0).trans rfl; have hcz106_1 : w105.cell? ⟨gb1113, 1, none⟩ = some (.int .i64 a0_1) := (blk_cell BK1113.out 1).trans rfl; have hcz106_2 : w105.cell? ⟨gb1113, 2, none⟩ = some (.int .i64 a0_2) := (blk_cell BK1113.out 2).trans rfl; have hcz106_3 : w105.cell? ⟨gb1113, 3, none⟩ = some (.int .i64 a0_3) := (blk_cell BK1113.out 3).trans rfl; have hcz106_4 : w105.cell? ⟨gb1113, 4, none⟩ = some (.int .i64 a0_4) := (blk_cell BK1113.out 4).trans rfl; have hcz106_5 : w105.cell? ⟨gb1113, 5, none⟩ = some (.int .i64 a0_5) := (blk_cell BK1113.out 5).trans rfl; have hcz106_6 : w105.cell? ⟨gb1113, 6, none⟩ = some (.slice A0_6 l0_6.length c0_6) := (blk_cell BK1113.out 6).trans rfl; have hfz106_0 := blk_frozen BK1113.out 0; have hfz106_1 := blk_frozen BK1113.out 1; have hfz106_2 := blk_frozen BK1113.out 2; have hfz106_3 := blk_frozen BK1113.out 3; have hfz106_4 := blk_frozen BK1113.out 4; have hfz106_5 := blk_frozen BK1113.out 5; have hfz106_6 := blk_frozen BK1113.out 6) | (go_at_call 96; (with_reducible refine (least_Fits.calls kj1 a0_0 a0_1 a0_2 a0_3 a0_4 a0_5 (fun k_ => k_ < w.heap.size) _ _ l0_6 (wrap64 (t1117 - 1)) t1118 false _ ?side1 A22.out).mono ?_); (case side1 => exact Kd.V_mk HC0_6.out (Kd.F_below (Kd.C_F k26_heap HR0_6.out) (by repeat ((with_reducible exact HB.out))))); rintro e w107 ⟨rfl, hb⟩; replace BK1113 := Aside0.mk (blk_below BK1113.out hb); replace HB := Aside0.mk (below_step (by repeat ((with_reducible exact HB.out))) hb); (try clear hb); have hcz108_0 : w107.cell? ⟨gb1113, 0, none⟩ = some (.int .u8 a0_0) := (blk_cell BK1113.out 0).trans rfl; have hcz108_1 : w107.cell? ⟨gb1113, 1, none⟩ = some (.int .i64 a0_1) := (blk_cell BK1113.out 1).trans rfl; have hcz108_2 : w107.cell? ⟨gb1113, 2, none⟩ = some (.int .i64 a0_2) := (blk_cell BK1113.out 2).trans rfl; have hcz108_3 : w107.cell? ⟨gb1113, 3, none⟩ = some (.int .i64 a0_3) := (blk_cell BK1113.out 3).trans rfl; have hcz108_4 : w107.cell? ⟨gb1113, 4, none⟩ = some (.int .i64 a0_4) := (blk_cell BK1113.out 4).trans rfl; have hcz108_5 : w107.cell? ⟨gb1113, 5, none⟩ = some (.int .i64 a0_5) := (blk_cell BK1113.out 5).trans rfl; have hcz108_6 : w107.cell? ⟨gb1113, 6, none⟩ = some (.slice A0_6 l0_6.length c0_6) := (blk_cell BK1113.out 6).trans rfl; have hfz108_0 := blk_frozen BK1113.out 0; have hfz108_1 := blk_frozen BK1113.out 1; have hfz108_2 := blk_frozen BK1113.out 2; have hfz108_3 := blk_frozen BK1113.out 3; have hfz108_4 := blk_frozen BK1113.out 4; have hfz108_5 := blk_frozen BK1113.out 5; have hfz108_6 := blk_frozen BK1113.out 6) | (go_at_call 96; (with_reducible refine (least_Fits.calls kj1 a0_0 a0_1 a0_2 a0_3 a0_4 a0_5 (fun k_ => k_ < w.heap.size) _ _ l0_6 t1117 (wrap64 (t1118 - 1)) false _ ?side1 A33.out).mono ?_); (case side1 => exact Kd.V_mk HC0_6.out (Kd.F_below (Kd.C_F k26_heap HR0_6.out) (by repeat ((with_reducible exact HB.out))))); rintro e w109 ⟨rfl, hb⟩; replace BK1113 := Aside0.mk (blk_below BK1113.out hb); replace HB := Aside0.mk (below_step (by repeat ((with_reducible exact HB.out))) hb); (try clear hb)))
         go_ret
         exact ⟨by rfl, by repeat ((with_reducible exact HB.out))⟩
     ·replace c21 := Bool.eq_false_iff.mpr c21
      subst c21
      have H1 : (some false) = some r := by rw [if_neg (show ¬ (false = true) by decide)] at H; exact H
      clear H
      have H := H1
      clear H1
      obtain rfl := Option.some.inj H
      try go_wp2
      replace BK1113 := Aside0.mk (blk_drew BK1113.out); replace HB := Aside0.mk (below_drew1 HB.out)
      refine start_ (n := 6) (S := fun w' => w'.cell? ⟨gb1113, 0, none⟩ = some (.int .u8 a0_0) ∧ w'.cell? ⟨gb1113, 1, none⟩ = some (.int .i64 a0_1) ∧ w'.cell? ⟨gb1113, 2, none⟩ = some (.int .i64 a0_2) ∧ w'.cell? ⟨gb1113, 3, none⟩ = some (.int .i64 a0_3) ∧ w'.cell? ⟨gb1113, 4, none⟩ = some (.int .i64 a0_4) ∧ w'.cell? ⟨gb1113, 5, none⟩ = some (.int .i64 a0_5) ∧ w'.cell? ⟨gb1113, 6, none⟩ = some (.slice A0_6 l0_6.length c0_6)) (ds := []) #[false, false, false, false, false, false] (by kernel_rfl) rfl rfl ⟨(blk_cell BK1113.out 0).trans rfl, (blk_cell BK1113.out 1).trans rfl, (blk_cell BK1113.out 2).trans rfl, (blk_cell BK1113.out 3).trans rfl, (blk_cell BK1113.out 4).trans rfl, (blk_cell BK1113.out 5).trans rfl, (blk_cell BK1113.out 6).trans rfl⟩ (fun hHeld => ?_)
      generalize wc.drew = w110 at BK1113 HB hHeld ⊢
      refine take_ (i := 0) (N := some 13) (v := ?_) (a' := ?_) #[true, false, false, false, false, false] rfl rfl (by kernel_rfl) (fun _ _ _ h => h) (Or.inl ⟨by rfl, ?_⟩) hHeld ?_ ?_
      rotate_left
      ·rintro w' ⟨s0, s1, s2, s3, s4, s5, s6⟩
       go_simp
       with_reducible rfl
      rotate_left
      ·simp only [Act.put, List.setIfInBounds_toArray, List.set_cons_zero, List.set_cons_succ, i64_w, i32_w]
       rfl
      refine take_ (i := 2) (N := some 15) (v := ?_) (a' := ?_) #[true, false, true, false, false, false] rfl rfl (by kernel_rfl) (fun _ _ _ h => h) (Or.inl ⟨by rfl, ?_⟩) hHeld ?_ ?_
      rotate_left
      ·rintro w' ⟨s0, s1, s2, s3, s4, s5, s6⟩
       go_simp
       with_reducible rfl
      rotate_left
      ·simp only [Act.put, List.setIfInBounds_toArray, List.set_cons_zero, List.set_cons_succ, i64_w, i32_w]
       rfl
      refine one_ (i := 1) (N := some 14) #[true, true, true, false, false, false] rfl rfl (by kernel_rfl) (by decide) (fun K hK => ?_)
      refine goes_ Try.func93 (by kernel_rfl) rfl #[.agg #[.int .u8 a0_0, .int .i64 a0_1, .int .i64 a0_2, .int .i64 a0_3, .int .i64 a0_4, .int .i64 a0_5, .slice A0_6 l0_6.length c0_6], .int .u8 1] (by rfl) rfl rfl (by (try simp only [List.map_toArray, List.map_cons, List.map_nil]); rfl) ?_
      with_reducible refine (least_Least.calls kj1 a0_0 a0_1 a0_2 a0_3 a0_4 a0_5 (fun k_ => k_ < w.heap.size) _ _ l0_6 1 t1117 _ ?side1 A16.out).mono ?_
      (case side1 => exact Kd.V_mk HC0_6.out (Kd.F_below (Kd.C_F k26_heap HR0_6.out) (by repeat ((with_reducible exact HB.out)))))
      rintro e w111 ⟨rfl, hb⟩
      refine ⟨_, rfl, ?_⟩
      replace BK1113 := Aside0.mk (blk_below BK1113.out hb); replace HB := Aside0.mk (below_step (by repeat ((with_reducible exact HB.out))) hb)
      (try clear hb)
      (skip)
      (skip)
      (skip)
      refine hK.out _ _ ⟨(blk_cell BK1113.out 0).trans rfl, (blk_cell BK1113.out 1).trans rfl, (blk_cell BK1113.out 2).trans rfl, (blk_cell BK1113.out 3).trans rfl, (blk_cell BK1113.out 4).trans rfl, (blk_cell BK1113.out 5).trans rfl, (blk_cell BK1113.out 6).trans rfl⟩ (fun hHeld => ?_)
      clear hK K
      refine norm_ (a' := ?_) ?_ ?_
      rotate_left
      ·show Act.put _ (some 14) _ = _
       simp only [Act.put, List.setIfInBounds_toArray, List.set_cons_zero, List.set_cons_succ, i64_w, i32_w]
       rfl
      refine one_ (i := 3) (N := some 16) #[true, true, true, true, false, false] rfl rfl (by kernel_rfl) (by decide) (fun K hK => ?_)
      refine goes_ Try.func93 (by kernel_rfl) rfl #[.agg #[.int .u8 a0_0, .int .i64 a0_1, .int .i64 a0_2, .int .i64 a0_3, .int .i64 a0_4, .int .i64 a0_5, .slice A0_6 l0_6.length c0_6], .int .u8 2] (by rfl) rfl rfl (by (try simp only [List.map_toArray, List.map_cons, List.map_nil]); rfl) ?_
      with_reducible refine (least_Least.calls kj1 a0_0 a0_1 a0_2 a0_3 a0_4 a0_5 (fun k_ => k_ < w.heap.size) _ _ l0_6 2 t1118 _ ?side1 A17.out).mono ?_
      (case side1 => exact Kd.V_mk HC0_6.out (Kd.F_below (Kd.C_F k26_heap HR0_6.out) (by repeat ((with_reducible exact HB.out)))))
      rintro e w112 ⟨rfl, hb⟩
      refine ⟨_, rfl, ?_⟩
      replace BK1113 := Aside0.mk (blk_below BK1113.out hb); replace HB := Aside0.mk (below_step (by repeat ((with_reducible exact HB.out))) hb)
      (try clear hb)
      (skip)
      (skip)
      (skip)
      refine hK.out _ _ ⟨(blk_cell BK1113.out 0).trans rfl, (blk_cell BK1113.out 1).trans rfl, (blk_cell BK1113.out 2).trans rfl, (blk_cell BK1113.out 3).trans rfl, (blk_cell BK1113.out 4).trans rfl, (blk_cell BK1113.out 5).trans rfl, (blk_cell BK1113.out 6).trans rfl⟩ (fun hHeld => ?_)
      clear hK K
      refine norm_ (a' := ?_) ?_ ?_
      rotate_left
      ·show Act.put _ (some 16) _ = _
       simp only [Act.put, List.setIfInBounds_toArray, List.set_cons_zero, List.set_cons_succ, i64_w, i32_w]
       rfl
      refine pure_ (i := 4) (N := some 3) (v := ?_) (a' := ?_) #[true, true, true, true, true, false] rfl rfl (by kernel_rfl) (fun _ _ _ h => h) (Or.inl ⟨by rfl, ?_⟩) ?_ ?_
      rotate_left
      ·intro w'
       go_simp
       with_reducible rfl
      rotate_left
      ·simp only [Act.put, List.setIfInBounds_toArray, List.set_cons_zero, List.set_cons_succ, i64_w, i32_w]
       rfl
      refine pure_ (i := 5) (N := some 4) (v := ?_) (a' := ?_) #[true, true, true, true, true, true] rfl rfl (by kernel_rfl) (fun _ _ _ h => h) (Or.inl ⟨by rfl, ?_⟩) ?_ ?_
      rotate_left
      ·intro w'
       go_simp
       with_reducible rfl
      rotate_left
      ·simp only [Act.put, List.setIfInBounds_toArray, List.set_cons_zero, List.set_cons_succ, i64_w, i32_w]
       rfl
      refine done_ (by kernel_rfl) ?_
      have hcz113_0 : w112.cell? ⟨gb1113, 0, none⟩ = some (.int .u8 a0_0) := (blk_cell BK1113.out 0).trans rfl
      have hcz113_1 : w112.cell? ⟨gb1113, 1, none⟩ = some (.int .i64 a0_1) := (blk_cell BK1113.out 1).trans rfl
      have hcz113_2 : w112.cell? ⟨gb1113, 2, none⟩ = some (.int .i64 a0_2) := (blk_cell BK1113.out 2).trans rfl
      have hcz113_3 : w112.cell? ⟨gb1113, 3, none⟩ = some (.int .i64 a0_3) := (blk_cell BK1113.out 3).trans rfl
      have hcz113_4 : w112.cell? ⟨gb1113, 4, none⟩ = some (.int .i64 a0_4) := (blk_cell BK1113.out 4).trans rfl
      have hcz113_5 : w112.cell? ⟨gb1113, 5, none⟩ = some (.int .i64 a0_5) := (blk_cell BK1113.out 5).trans rfl
      have hcz113_6 : w112.cell? ⟨gb1113, 6, none⟩ = some (.slice A0_6 l0_6.length c0_6) := (blk_cell BK1113.out 6).trans rfl
      have hfz113_0 := blk_frozen BK1113.out 0
      have hfz113_1 := blk_frozen BK1113.out 1
      have hfz113_2 := blk_frozen BK1113.out 2
      have hfz113_3 := blk_frozen BK1113.out 3
      have hfz113_4 := blk_frozen BK1113.out 4
      have hfz113_5 := blk_frozen BK1113.out 5
      have hfz113_6 := blk_frozen BK1113.out 6
      try go_wp2_with (first | ((with_reducible refine gate_callee (f := 96) rfl ?_); refine goesL_ (some 24) rfl rfl Try.func96 (by kernel_rfl) rfl #[.agg #[.int .u8 a0_0, .int .i64 a0_1, .int .i64 a0_2, .int .i64 a0_3, .int .i64 a0_4, .int .i64 a0_5, .slice A0_6 l0_6.length c0_6], .int .i64 a0_3, .int .i64 a0_4] rfl (by (try simp only [List.map_toArray, List.map_cons, List.map_nil]); rfl) ?_; (with_reducible refine (least_Fits.calls kj1 a0_0 a0_1 a0_2 a0_3 a0_4 a0_5 (fun k_ => k_ < w.heap.size) _ _ l0_6 a0_3 a0_4 true _ ?side1 A18.out).mono ?_); (case side1 => exact Kd.V_mk HC0_6.out (Kd.F_below (Kd.C_F k26_heap HR0_6.out) (by repeat ((with_reducible exact HB.out))))); rintro e w114 ⟨rfl, hb⟩; refine ⟨_, rfl, ?_⟩; replace BK1113 := Aside0.mk (blk_below BK1113.out hb); replace HB := Aside0.mk (below_step (by repeat ((with_reducible exact HB.out))) hb); (try clear hb); have hcz115_0 : w114.cell? ⟨gb1113, 0, none⟩ = some (.int .u8 a0_0) := (blk_cell BK1113.out 0).trans rfl; have hcz115_1 : w114.cell? ⟨gb1113, 1, none⟩ = some (.int .i64 a0_1) := (blk_cell BK1113.out 1).trans rfl; have hcz115_2 : w114.cell? ⟨gb1113, 2, none⟩ = some (.int .i64 a0_2) := (blk_cell BK1113.out 2).trans rfl; have hcz115_3 : w114.cell? ⟨gb1113, 3, none⟩ = some (.int .i64 a0_3) := (blk_cell BK1113.out 3).trans rfl; have hcz115_4 : w114.cell? ⟨gb1113, 4, none⟩ = some (.int .i64 a0_4) := (blk_cell BK1113.out 4).trans rfl; have hcz115_5 : w114.cell? ⟨gb1113, 5, none⟩ = some (.int .i64 a0_5) := (blk_cell BK1113.out 5).trans rfl; have hcz115_6 : w114.cell? ⟨gb1113, 6, none⟩ = some (.slice A0_6 l0_6.length c0_6) := (blk_cell BK1113.out 6).trans rfl; have hfz115_0 := blk_frozen BK1113.out 0; have hfz115_1 := blk_frozen BK1113.out 1; have hfz115_2 := blk_frozen BK1113.out 2; have hfz115_3 := blk_frozen BK1113.out 3; have hfz115_4 := blk_frozen BK1113.out 4; have hfz115_5 := blk_frozen BK1113.out 5; have hfz115_6 := blk_frozen BK1113.out 6) | (go_at_call 96; (with_reducible refine (least_Fits.calls kj1 a0_0 a0_1 a0_2 a0_3 a0_4 a0_5 (fun k_ => k_ < w.heap.size) _ _ l0_6 t1117 t1118 false _ ?side1 A20.out).mono ?_); (case side1 => exact Kd.V_mk HC0_6.out (Kd.F_below (Kd.C_F k26_heap HR0_6.out) (by repeat ((with_reducible exact HB.out))))); rintro e w116 ⟨rfl, hb⟩; replace BK1113 := Aside0.mk (blk_below BK1113.out hb); replace HB := Aside0.mk (below_step (by repeat ((with_reducible exact HB.out))) hb); (try clear hb)))
      go_ret
      exact ⟨by rfl, by repeat ((with_reducible exact HB.out))⟩
    ·replace c19 := Bool.eq_false_iff.mpr c19
     subst c19
     have H1 : (some false) = some r := by rw [if_neg (show ¬ (false = true) by decide)] at H; exact H
     clear H
     have H := H1
     clear H1
     obtain rfl := Option.some.inj H
     try go_wp2
     replace BK1113 := Aside0.mk (blk_drew BK1113.out); replace HB := Aside0.mk (below_drew1 HB.out)
     refine start_ (n := 6) (S := fun w' => w'.cell? ⟨gb1113, 0, none⟩ = some (.int .u8 a0_0) ∧ w'.cell? ⟨gb1113, 1, none⟩ = some (.int .i64 a0_1) ∧ w'.cell? ⟨gb1113, 2, none⟩ = some (.int .i64 a0_2) ∧ w'.cell? ⟨gb1113, 3, none⟩ = some (.int .i64 a0_3) ∧ w'.cell? ⟨gb1113, 4, none⟩ = some (.int .i64 a0_4) ∧ w'.cell? ⟨gb1113, 5, none⟩ = some (.int .i64 a0_5) ∧ w'.cell? ⟨gb1113, 6, none⟩ = some (.slice A0_6 l0_6.length c0_6)) (ds := []) #[false, false, false, false, false, false] (by kernel_rfl) rfl rfl ⟨(blk_cell BK1113.out 0).trans rfl, (blk_cell BK1113.out 1).trans rfl, (blk_cell BK1113.out 2).trans rfl, (blk_cell BK1113.out 3).trans rfl, (blk_cell BK1113.out 4).trans rfl, (blk_cell BK1113.out 5).trans rfl, (blk_cell BK1113.out 6).trans rfl⟩ (fun hHeld => ?_)
     generalize wc.drew = w117 at BK1113 HB hHeld ⊢
     refine take_ (i := 0) (N := some 13) (v := ?_) (a' := ?_) #[true, false, false, false, false, false] rfl rfl (by kernel_rfl) (fun _ _ _ h => h) (Or.inl ⟨by rfl, ?_⟩) hHeld ?_ ?_
     rotate_left
     ·rintro w' ⟨s0, s1, s2, s3, s4, s5, s6⟩
      go_simp
      with_reducible rfl
     rotate_left
     ·simp only [Act.put, List.setIfInBounds_toArray, List.set_cons_zero, List.set_cons_succ, i64_w, i32_w]
      rfl
     refine take_ (i := 2) (N := some 15) (v := ?_) (a' := ?_) #[true, false, true, false, false, false] rfl rfl (by kernel_rfl) (fun _ _ _ h => h) (Or.inl ⟨by rfl, ?_⟩) hHeld ?_ ?_
     rotate_left
     ·rintro w' ⟨s0, s1, s2, s3, s4, s5, s6⟩
      go_simp
      with_reducible rfl
     rotate_left
     ·simp only [Act.put, List.setIfInBounds_toArray, List.set_cons_zero, List.set_cons_succ, i64_w, i32_w]
      rfl
     refine one_ (i := 1) (N := some 14) #[true, true, true, false, false, false] rfl rfl (by kernel_rfl) (by decide) (fun K hK => ?_)
     refine goes_ Try.func93 (by kernel_rfl) rfl #[.agg #[.int .u8 a0_0, .int .i64 a0_1, .int .i64 a0_2, .int .i64 a0_3, .int .i64 a0_4, .int .i64 a0_5, .slice A0_6 l0_6.length c0_6], .int .u8 1] (by rfl) rfl rfl (by (try simp only [List.map_toArray, List.map_cons, List.map_nil]); rfl) ?_
     with_reducible refine (least_Least.calls kj1 a0_0 a0_1 a0_2 a0_3 a0_4 a0_5 (fun k_ => k_ < w.heap.size) _ _ l0_6 1 t1117 _ ?side1 A16.out).mono ?_
     (case side1 => exact Kd.V_mk HC0_6.out (Kd.F_below (Kd.C_F k26_heap HR0_6.out) (by repeat ((with_reducible exact HB.out)))))
     rintro e w118 ⟨rfl, hb⟩
     refine ⟨_, rfl, ?_⟩
     replace BK1113 := Aside0.mk (blk_below BK1113.out hb); replace HB := Aside0.mk (below_step (by repeat ((with_reducible exact HB.out))) hb)
     (try clear hb)
     (skip)
     (skip)
     (skip)
     refine hK.out _ _ ⟨(blk_cell BK1113.out 0).trans rfl, (blk_cell BK1113.out 1).trans rfl, (blk_cell BK1113.out 2).trans rfl, (blk_cell BK1113.out 3).trans rfl, (blk_cell BK1113.out 4).trans rfl, (blk_cell BK1113.out 5).trans rfl, (blk_cell BK1113.out 6).trans rfl⟩ (fun hHeld => ?_)
     clear hK K
     refine norm_ (a' := ?_) ?_ ?_
     rotate_left
     ·show Act.put _ (some 14) _ = _
      simp only [Act.put, List.setIfInBounds_toArray, List.set_cons_zero, List.set_cons_succ, i64_w, i32_w]
      rfl
     refine one_ (i := 3) (N := some 16) #[true, true, true, true, false, false] rfl rfl (by kernel_rfl) (by decide) (fun K hK => ?_)
     refine goes_ Try.func93 (by kernel_rfl) rfl #[.agg #[.int .u8 a0_0, .int .i64 a0_1, .int .i64 a0_2, .int .i64 a0_3, .int .i64 a0_4, .int .i64 a0_5, .slice A0_6 l0_6.length c0_6], .int .u8 2] (by rfl) rfl rfl (by (try simp only [List.map_toArray, List.map_cons, List.map_nil]); rfl) ?_
     with_reducible refine (least_Least.calls kj1 a0_0 a0_1 a0_2 a0_3 a0_4 a0_5 (fun k_ => k_ < w.heap.size) _ _ l0_6 2 t1118 _ ?side1 A17.out).mono ?_
     (case side1 => exact Kd.V_mk HC0_6.out (Kd.F_below (Kd.C_F k26_heap HR0_6.out) (by repeat ((with_reducible exact HB.out)))))
     rintro e w119 ⟨rfl, hb⟩
     refine ⟨_, rfl, ?_⟩
     replace BK1113 := Aside0.mk (blk_below BK1113.out hb); replace HB := Aside0.mk (below_step (by repeat ((with_reducible exact HB.out))) hb)
     (try clear hb)
     (skip)
     (skip)
     (skip)
     refine hK.out _ _ ⟨(blk_cell BK1113.out 0).trans rfl, (blk_cell BK1113.out 1).trans rfl, (blk_cell BK1113.out 2).trans rfl, (blk_cell BK1113.out 3).trans rfl, (blk_cell BK1113.out 4).trans rfl, (blk_cell BK1113.out 5).trans rfl, (blk_cell BK1113.out 6).trans rfl⟩ (fun hHeld => ?_)
     clear hK K
     refine norm_ (a' := ?_) ?_ ?_
     rotate_left
     ·show Act.put _ (some 16) _ = _
      simp only [Act.put, List.setIfInBounds_toArray, List.set_cons_zero, List.set_cons_succ, i64_w, i32_w]
      rfl
     refine pure_ (i := 4) (N := some 3) (v := ?_) (a' := ?_) #[true, true, true, true, true, false] rfl rfl (by kernel_rfl) (fun _ _ _ h => h) (Or.inl ⟨by rfl, ?_⟩) ?_ ?_
     rotate_left
     ·intro w'
      go_simp
      with_reducible rfl
     rotate_left
     ·simp only [Act.put, List.setIfInBounds_toArray, List.set_cons_zero, List.set_cons_succ, i64_w, i32_w]
      rfl
     refine pure_ (i := 5) (N := some 4) (v := ?_) (a' := ?_) #[true, true, true, true, true, true] rfl rfl (by kernel_rfl) (fun _ _ _ h => h) (Or.inl ⟨by rfl, ?_⟩) ?_ ?_
     rotate_left
     ·intro w'
      go_simp
      with_reducible rfl
     rotate_left
     ·simp only [Act.put, List.setIfInBounds_toArray, List.set_cons_zero, List.set_cons_succ, i64_w, i32_w]
      rfl
     refine done_ (by kernel_rfl) ?_
     have hcz120_0 : w119.cell? ⟨gb1113, 0, none⟩ = some (.int .u8 a0_0) := (blk_cell BK1113.out 0).trans rfl
     have hcz120_1 : w119.cell? ⟨gb1113, 1, none⟩ = some (.int .i64 a0_1) := (blk_cell BK1113.out 1).trans rfl
     have hcz120_2 : w119.cell? ⟨gb1113, 2, none⟩ = some (.int .i64 a0_2) := (blk_cell BK1113.out 2).trans rfl
     have hcz120_3 : w119.cell? ⟨gb1113, 3, none⟩ = some (.int .i64 a0_3) := (blk_cell BK1113.out 3).trans rfl
     have hcz120_4 : w119.cell? ⟨gb1113, 4, none⟩ = some (.int .i64 a0_4) := (blk_cell BK1113.out 4).trans rfl
     have hcz120_5 : w119.cell? ⟨gb1113, 5, none⟩ = some (.int .i64 a0_5) := (blk_cell BK1113.out 5).trans rfl
     have hcz120_6 : w119.cell? ⟨gb1113, 6, none⟩ = some (.slice A0_6 l0_6.length c0_6) := (blk_cell BK1113.out 6).trans rfl
     have hfz120_0 := blk_frozen BK1113.out 0
     have hfz120_1 := blk_frozen BK1113.out 1
     have hfz120_2 := blk_frozen BK1113.out 2
     have hfz120_3 := blk_frozen BK1113.out 3
     have hfz120_4 := blk_frozen BK1113.out 4
     have hfz120_5 := blk_frozen BK1113.out 5
     have hfz120_6 := blk_frozen BK1113.out 6
     try go_wp2_with (((with_reducible refine gate_callee (f := 96) rfl ?_); refine goesL_ (some 24) rfl rfl Try.func96 (by kernel_rfl) rfl #[.agg #[.int .u8 a0_0, .int .i64 a0_1, .int .i64 a0_2, .int .i64 a0_3, .int .i64 a0_4, .int .i64 a0_5, .slice A0_6 l0_6.length c0_6], .int .i64 a0_3, .int .i64 a0_4] rfl (by (try simp only [List.map_toArray, List.map_cons, List.map_nil]); rfl) ?_; (with_reducible refine (least_Fits.calls kj1 a0_0 a0_1 a0_2 a0_3 a0_4 a0_5 (fun k_ => k_ < w.heap.size) _ _ l0_6 a0_3 a0_4 false _ ?side1 A18.out).mono ?_); (case side1 => exact Kd.V_mk HC0_6.out (Kd.F_below (Kd.C_F k26_heap HR0_6.out) (by repeat ((with_reducible exact HB.out))))); rintro e w121 ⟨rfl, hb⟩; refine ⟨_, rfl, ?_⟩; replace BK1113 := Aside0.mk (blk_below BK1113.out hb); replace HB := Aside0.mk (below_step (by repeat ((with_reducible exact HB.out))) hb); (try clear hb)))
     go_ret
     exact ⟨by rfl, by repeat ((with_reducible exact HB.out))⟩

end Go.Proofs.Ytfdmfgaiblfbhaa.P
/- The sizes of a tree that tiles: plain data. -/
namespace Go.Proofs.Ytfdmfgaiblfbhaa.P
open Go.RowKit Go.Proofs.YtfdmfgaiblfbhaaW.PrintWords Go.Proofs.YtfdmfgaiblfbhaaW.PrintLast Go.Proofs.YtfdmfgaiblfbhaaW.PrintMore
theorem sz_kid {l : List S26} {k : S26} (h : k ∈ l) : sz k ≤ szL l := by
  obtain ⟨p, q, e⟩ := List.append_of_mem h
  rw [e, szL_app, szL_cons]
  omega
theorem rectB_iff {a b : S23} : rectB a b = true ↔ a.f0 = b.f0 ∧ a.f1 = b.f1 ∧ a.f2 = b.f2 ∧ a.f3 = b.f3 := by
  unfold rectB
  simp
theorem parts_other (ax X Y W H : Int) (hax : ax = 1 ∨ ax = 2) : ∀ (kids : List S26) (ns : List Int) (off : Int), kids.length = ns.length → eqL (fun k r => rectB k.f1 r) kids (cutP ax X Y W H off ns) = true → ∀ x, x ∈ kids → sizeR (3 - ax) x.f1 = tX ax H W := by
  intro kids
  induction kids with
  | nil => intro _ _ _ _ x hx; cases hx
  | cons k ks ih =>
    intro ns off hl he x hx
    cases ns with
    | nil => simp at hl
    | cons n ns =>
      simp only [cutP, eqL, Bool.and_eq_true] at he
      rcases List.mem_cons.1 hx with rfl | hx
      · obtain ⟨_, _, h2, h3⟩ := rectB_iff.1 he.1
        simp only [] at h2 h3
        rcases hax with rfl | rfl
        · unfold sizeR tX at *
          simp at h3 ⊢
          exact h3
        · unfold sizeR tX at *
          simp at h2 ⊢
          exact h2
      · exact ih ns (off + n + 1) (by simpa using hl) he.2 x hx
/-- What tiles, is ok, has kids: their sizes. -/
theorem kids_geo {c : S26} (h1 : oneB c = true) (hk : c.f0 = 2 ∨ c.f0 = 3) (hl : c.f3.length ≤ 20000) :
    (c.f3.map (fun k => sizeR (c.f0 - 1) k.f1)).sum + (c.f3.length : Int) - 1 = sizeR (c.f0 - 1) c.f1 ∧ ∀ x, x ∈ c.f3 → sizeR (3 - (c.f0 - 1)) x.f1 = sizeR (3 - (c.f0 - 1)) c.f1 := by
  unfold oneB oneT at h1
  rw [show (c.f0 == 1) = false from by simp; omega, Bool.false_or] at h1
  simp only [Bool.and_eq_true] at h1
  obtain ⟨ht, hlen, hE⟩ := h1
  obtain ⟨_, hg, _, _⟩ := cutT_spec c hl
  obtain ⟨hax, gp, gs, _⟩ := hg ht
  have e1 : axC c.f0 = c.f0 - 1 := by unfold axC; omega
  rw [e1] at hax gp gs
  have e2 : sizesC c = c.f3.map (fun k => sizeR (c.f0 - 1) k.f1) := by
    unfold sizesC
    apply List.map_congr_left
    intro k _
    unfold szK sizeR
    rcases hk with h | h
    · rw [if_pos h, if_pos (by omega)]
    · rw [if_neg (by omega), if_neg (by omega), if_pos (by omega)]
  have e3 : ∀ r : S23, tX (c.f0 - 1) r.f2 r.f3 = sizeR (c.f0 - 1) r ∧ tX (c.f0 - 1) r.f3 r.f2 = sizeR (3 - (c.f0 - 1)) r := by
    intro r
    rcases hk with h | h <;> simp [tX, sizeR, h]
  refine ⟨?_, fun x hx => ?_⟩
  · rw [← e2, ← (e3 c.f1).1, ← gs]
    simp [sizesC]
  · rw [gp] at hE
    rw [← (e3 c.f1).2]
    exact parts_other (c.f0 - 1) _ _ _ _ hax c.f3 (sizesC c) 0 (by simp [sizesC]) hE x hx
theorem ok_rect {c : S26} (h : okC c = true) : mayR c.f1 = true := by
  unfold okC at h
  simp only [Bool.and_eq_true] at h
  exact h.1.1.1
theorem rect_size {r : S23} (h : mayR r = true) {ax : Int} (hax : ax = 1 ∨ ax = 2) : 1 ≤ sizeR ax r ∧ sizeR ax r ≤ 10000 := by
  have := may_iff.1 h
  unfold sizeR
  rcases hax with rfl | rfl
  · rw [if_pos rfl]; omega
  · rw [if_neg (by omega), if_pos rfl]; omega
theorem tilesB_kids {c x : S26} (h : tilesB c = true) (hx : x ∈ c.f3) : tilesB x = true := by
  rw [tilesB_eq, Bool.and_eq_true] at h
  exact List.all_eq_true.1 h.2 x hx
theorem mostL_le {ax u : Int} : ∀ {l : List S26} {m : Int}, m ≤ u → (∀ x, x ∈ l → leastC ax x ≤ u) → mostL ax m l ≤ u := by
  intro l
  induction l with
  | nil => intro m h _; rw [mostL_nil]; exact h
  | cons x xs ih =>
    intro m h hx
    rw [mostL_cons]
    exact ih (mx_le h (hx x (by simp))) (fun y hy => hx y (by simp [hy]))
theorem mostL_ge {ax : Int} : ∀ {l : List S26} {m : Int}, m ≤ mostL ax m l := by
  intro l
  induction l with
  | nil => intro m; rw [mostL_nil]; exact Int.le_refl _
  | cons x xs ih =>
    intro m
    rw [mostL_cons]
    exact Int.le_trans (le_mx1 m (leastC ax x)) ih
theorem sumL_le {ax : Int} : ∀ {l : List S26}, (∀ x, x ∈ l → leastC ax x ≤ sizeR ax x.f1) → sumL ax l ≤ (l.map (fun k => sizeR ax k.f1)).sum := by
  intro l
  induction l with
  | nil => intro _; rw [sumL_nil]; exact Int.le_refl _
  | cons x xs ih =>
    intro hx
    rw [sumL_cons, List.map_cons, List.sum_cons]
    have h1 := hx x (by simp)
    have h2 := ih (fun y hy => hx y (by simp [hy]))
    omega
/-- The least size is at least 1; of a tree that tiles, no greater than its size. -/
theorem least_fits {ax : Int} (hax : ax = 1 ∨ ax = 2) : ∀ (N : Nat) (c : S26), sz c ≤ N → N ≤ 20000 → (allC c).all okC = true → 1 ≤ leastC ax c ∧ (tilesB c = true → leastC ax c ≤ sizeR ax c.f1) := by
  intro N
  induction N with
  | zero => intro c h; rw [sz_eq] at h; omega
  | succ N ih =>
    intro c hc hN hok
    have hs := sz_eq c
    have hlen := szL_len c.f3
    have hk : ∀ x, x ∈ c.f3 → 1 ≤ leastC ax x ∧ (tilesB x = true → leastC ax x ≤ sizeR ax x.f1) := fun x hx => by
      refine ih x ?_ (by omega) (ok_kids hok hx)
      have := sz_kid hx
      omega
    rw [leastC_eq]
    rcases ok_kinds (ok_head hok) with ⟨h1, h2⟩ | ⟨h1, h2⟩
    · rw [if_pos h1]
      exact ⟨Int.le_refl _, fun _ => (rect_size (ok_rect (ok_head hok)) hax).1⟩
    · rw [if_neg (by omega)]
      have hsum : ∀ l : List S26, (∀ x, x ∈ l → 1 ≤ leastC ax x) → (l.length : Int) ≤ sumL ax l := by
        intro l
        induction l with
        | nil => intro _; rw [sumL_nil]; simp
        | cons x xs ihl =>
          intro h
          have a1 := h x (by simp)
          have a2 := ihl (fun y hy => h y (by simp [hy]))
          rw [sumL_cons, List.length_cons]
          omega
      have hgeo := fun (ht : tilesB c = true) => kids_geo (c := c) (by rw [tilesB_eq, Bool.and_eq_true] at ht; exact ht.1) h1 (by omega)
      cases ha : alongK ax c.f0 with
      | true =>
        have e : c.f0 - 1 = ax := by
          unfold alongK at ha
          simp at ha
          omega
        simp only [if_true]
        refine ⟨by have := hsum c.f3 (fun x hx => (hk x hx).1); omega, fun ht => ?_⟩
        obtain ⟨g1, _⟩ := hgeo ht
        rw [e] at g1
        have := sumL_le (ax := ax) (l := c.f3) (fun x hx => (hk x hx).2 (tilesB_kids ht hx))
        omega
      | false =>
        have e : 3 - (c.f0 - 1) = ax := by
          unfold alongK at ha
          simp at ha
          omega
        simp only [Bool.false_eq_true, if_false]
        refine ⟨?_, fun ht => ?_⟩
        · cases hl : c.f3 with
          | nil => rw [hl] at h2; simp at h2
          | cons x xs =>
            have := (hk x (by rw [hl]; simp)).1
            rw [mostL_cons]
            exact Int.le_trans this (Int.le_trans (le_mx2 0 _) mostL_ge)
        · obtain ⟨_, g2⟩ := hgeo ht
          rw [e] at g2
          have := rect_size (ok_rect (ok_head hok)) hax
          exact mostL_le (by omega) (fun x hx => by
            have := (hk x hx).2 (tilesB_kids ht hx)
            rw [g2 x hx] at this
            exact this)
end Go.Proofs.Ytfdmfgaiblfbhaa.P
/- LeastFits, the plain law: a tree that tiles has a size that fits it; the least one does, and one less doesn't. Condition: at most 1048576 cells. -/
namespace Go.Proofs.Ytfdmfgaiblfbhaa.Pure
open Go.RowKit Go.Proofs.Ytfdmfgaiblfbhaa.P Go.Proofs.YtfdmfgaiblfbhaaW.PrintWords Go.Proofs.YtfdmfgaiblfbhaaW.PrintLast Go.Proofs.YtfdmfgaiblfbhaaW.PrintMore
theorem LeastFits : ∀ (a0 : S26), wf26 a0 → sz a0 ≤ 1048576 → ∃ k, sashlaw08_LeastFits.f k a0.f0 a0.f1.f0 a0.f1.f1 a0.f1.f2 a0.f1.f3 a0.f2 a0.f3 = some true := by
  intro c _ hz
  refine Ev.rounds (g := fun k => sashlaw08_LeastFits.f k c.f0 c.f1.f0 c.f1.f1 c.f1.f2 c.f1.f3 c.f2 c.f3) ?_
  unfold sashlaw08_LeastFits.f
  have aw : Ev (fun _ => (sashlaw08_awake.f).bind fun t => some t) true := Ev.now _
  have big : Ev (fun k => sashlaw08_LeastFits.j0 k true c.f0 c.f1.f0 c.f1.f1 c.f1.f2 c.f1.f3 c.f2 c.f3) true := by
    refine Ev.step (fun k => ?_) aw
    simp only [sashlaw08_LeastFits.j0]
    rw [if_pos trivial]
  obtain ⟨g, eg, _⟩ := great_ev c hz
  refine Ev.bind eg ?_
  cases g with
  | true => exact ev_pos rfl big
  | false =>
    refine ev_neg (by simp) (Ev.bind (ref_tiles_ev c hz) ?_)
    cases ht : tilesC c with
    | false => exact big
    | true =>
      have hm := tiles_may ht
      have hok := may_ok hm
      have hs := may_small hm
      have htB : tilesB c = true := by
        unfold tilesC at ht
        simp only [Bool.and_eq_true] at ht
        exact ht.2
      have f1 := least_fits (ax := 1) (.inl rfl) (sz c) c (Nat.le_refl _) hs hok
      have f2 := least_fits (ax := 2) (.inr rfl) (sz c) c (Nat.le_refl _) hs hok
      have g1 := f1.2 htB
      have g2 := f2.2 htB
      have hr := may_iff.1 (ok_rect (ok_head hok))
      rw [show sizeR 1 c.f1 = c.f1.f2 from rfl] at g1
      rw [show sizeR 2 c.f1 = c.f1.f3 from rfl] at g2
      have w1 : wrap64 (10000 - c.f1.f0) = 10000 - c.f1.f0 := wq (by omega) (by omega)
      have w2 : wrap64 (10000 - c.f1.f1) = 10000 - c.f1.f1 := wq (by omega) (by omega)
      have w3 : wrap64 (leastC 1 c - 1) = leastC 1 c - 1 := wq (by omega) (by omega)
      have w4 : wrap64 (leastC 2 c - 1) = leastC 2 c - 1 := wq (by omega) (by omega)
      have l1 : lstC 1 c = leastC 1 c := by unfold lstC; rw [if_pos ⟨.inl rfl, hm⟩]
      have l2 : lstC 2 c = leastC 2 c := by unfold lstC; rw [if_pos ⟨.inr rfl, hm⟩]
      have yes : ∀ w h : Int, leastC 1 c ≤ w → leastC 2 c ≤ h → w ≤ c.f1.f2 → h ≤ c.f1.f3 → fitsC c w h = true := by
        intro w h a1 a2 a3 a4
        unfold fitsC
        rw [hm, w1, w2, decide_eq_true (by omega), decide_eq_true (by omega), decide_eq_true (by omega), decide_eq_true (by omega)]
        rfl
      have no1 : fitsC c (leastC 1 c - 1) (leastC 2 c) = false := by
        unfold fitsC
        rw [hm, decide_eq_false (p := leastC 1 c - 1 ≥ leastC 1 c) (by omega)]
        rfl
      have no2 : fitsC c (leastC 1 c) (leastC 2 c - 1) = false := by
        unfold fitsC
        rw [hm, decide_eq_true (p := leastC 1 c ≥ leastC 1 c) (by omega), decide_eq_false (p := leastC 2 c - 1 ≥ leastC 2 c) (by omega)]
        rfl
      have e1 := lst_ev c hz 1
      have e2 := lst_ev c hz 2
      rw [l1] at e1
      rw [l2] at e2
      have e3 := fits_ev c hz c.f1.f2 c.f1.f3
      have e4 := fits_ev c hz (leastC 1 c) (leastC 2 c)
      have e5 := fits_ev c hz (wrap64 (leastC 1 c - 1)) (leastC 2 c)
      have e6 := fits_ev c hz (leastC 1 c) (wrap64 (leastC 2 c - 1))
      rw [yes _ _ g1 g2 (Int.le_refl _) (Int.le_refl _)] at e3
      rw [yes _ _ (Int.le_refl _) (Int.le_refl _) g1 g2] at e4
      rw [show fitsC c (wrap64 (leastC 1 c - 1)) (leastC 2 c) = false from by rw [w3]; exact no1] at e5
      rw [show fitsC c (leastC 1 c) (wrap64 (leastC 2 c - 1)) = false from by rw [w4]; exact no2] at e6
      refine Ev.step (f := fun k => (least_Least.f k c.f0 c.f1.f0 c.f1.f1 c.f1.f2 c.f1.f3 c.f2 c.f3 1).bind fun t1 => (least_Least.f k c.f0 c.f1.f0 c.f1.f1 c.f1.f2 c.f1.f3 c.f2 c.f3 2).bind fun t2 => (least_Fits.f k c.f0 c.f1.f0 c.f1.f1 c.f1.f2 c.f1.f3 c.f2 c.f3 c.f1.f2 c.f1.f3).bind fun t3 => (if t3 = true then ((least_Fits.f k c.f0 c.f1.f0 c.f1.f1 c.f1.f2 c.f1.f3 c.f2 c.f3 t1 t2).bind fun t4 => (if t4 = true then ((least_Fits.f k c.f0 c.f1.f0 c.f1.f1 c.f1.f2 c.f1.f3 c.f2 c.f3 (wrap64 (t1 - 1)) t2).bind fun t5 => (if t5 = true then (some false) else ((least_Fits.f k c.f0 c.f1.f0 c.f1.f1 c.f1.f2 c.f1.f3 c.f2 c.f3 t1 (wrap64 (t2 - 1))).bind fun t6 => (if t6 = true then (some false) else (if t1 ≥ 1 then (if t2 ≥ 1 then (if t1 ≤ c.f1.f2 then (if t2 ≤ c.f1.f3 then ((sashlaw08_awake.f).bind fun t7 => (some t7)) else (some false)) else (some false)) else (some false)) else (some false)))))) else (some false))) else (some false))) (fun k => ?_) (Ev.bind e1 (Ev.bind e2 (Ev.bind e3 (ev_pos rfl (Ev.bind e4 (ev_pos rfl (Ev.bind e5 (ev_neg (by simp) (Ev.bind e6 (ev_neg (by simp) (ev_pos f1.1 (ev_pos f2.1 (ev_pos g1 (ev_pos g2 aw))))))))))))))
      simp only [sashlaw08_LeastFits.j0]
      rw [if_neg (by simp)]
end Go.Proofs.Ytfdmfgaiblfbhaa.Pure
/- Facts on the program's head, each once: the head's text as a row of signs, its words; what follows of them. -/
namespace Go.Proofs.Ytfdmfgaiblfbhaa.P
open Go.RowKit
def headSigns : List Char := [104, 97, 114, 110, 101, 115, 115, 32, 57, 48, 98, 52, 50, 100, 98, 100, 99, 50, 52, 54, 55, 51, 50, 51, 56, 57, 50, 48, 100, 50, 50, 98, 56, 57, 53, 102, 48, 48, 55, 48, 53, 101, 102, 48, 53, 53, 102, 54, 54, 55, 97, 57, 54, 56, 100, 50, 56, 97, 57, 52, 55, 52, 56, 57, 49, 49, 48, 97, 48, 101, 53, 55, 32, 99, 117, 116, 32, 97, 116, 32, 115, 97, 115, 104, 47, 115, 97, 115, 104, 108, 97, 119, 48, 55, 46, 70, 108, 97, 116, 78, 101, 120, 116, 115, 32, 115, 97, 115, 104, 47, 115, 97, 115, 104, 108, 97, 119, 48, 55, 46, 70, 108, 97, 116, 76, 105, 115, 116, 115, 32, 115, 97, 115, 104, 47, 115, 97, 115, 104, 108, 97, 119, 48, 52, 46, 82, 101, 99, 116, 67, 117, 116, 115, 32, 115, 97, 115, 104, 47, 115, 97, 115, 104, 108, 97, 119, 48, 57, 46, 65, 100, 106, 117, 115, 116, 83, 104, 97, 114, 101, 115, 32, 115, 97, 115, 104, 47, 115, 97, 115, 104, 108, 97, 119, 48, 57, 46, 65, 100, 106, 117, 115, 116, 69, 118, 101, 110, 115, 32, 115, 97, 115, 104, 47, 115, 97, 115, 104, 108, 97, 119, 49, 54, 46, 83, 112, 114, 101, 97, 100, 83, 105, 122, 101, 115, 32, 115, 97, 115, 104, 47, 115, 97, 115, 104, 108, 97, 119, 48, 55, 46, 70, 108, 97, 116, 67, 104, 97, 110, 103, 101, 115, 32, 115, 97, 115, 104, 47, 115, 97, 115, 104, 108, 97, 119, 48, 52, 46, 82, 101, 99, 116, 73, 110, 115, 105, 100, 101, 32, 115, 97, 115, 104, 47, 115, 97, 115, 104, 108, 97, 119, 48, 55, 46, 70, 108, 97, 116, 78, 97, 109, 101, 115, 32, 115, 97, 115, 104, 47, 115, 97, 115, 104, 108, 97, 119, 48, 57, 46, 65, 100, 106, 117, 115, 116, 83, 101, 116, 115, 32, 115, 97, 115, 104, 47, 115, 97, 115, 104, 108, 97, 119, 48, 52, 46, 82, 101, 99, 116, 77, 101, 101, 116, 115, 32, 115, 97, 115, 104, 47, 115, 97, 115, 104, 108, 97, 119, 48, 52, 46, 82, 101, 99, 116, 77, 97, 121, 115, 32, 115, 97, 115, 104, 47, 115, 97, 115, 104, 108, 97, 119, 48, 55, 46, 70, 108, 97, 116, 83, 116, 105, 108, 108, 32, 115, 97, 115, 104, 47, 115, 97, 115, 104, 108, 97, 119, 48, 53, 46, 67, 101, 108, 108, 77, 97, 121, 115, 32, 115, 97, 115, 104, 47, 115, 97, 115, 104, 108, 97, 119, 48, 53, 46, 67, 101, 108, 108, 83, 97, 109, 101, 32, 115, 97, 115, 104, 47, 115, 97, 115, 104, 108, 97, 119, 48, 53, 46, 67, 101, 108, 108, 67, 111, 117, 110, 116, 115, 32, 115, 97, 115, 104, 47, 115, 97, 115, 104, 108, 97, 119, 48, 56, 46, 76, 101, 97, 115, 116, 83, 117, 109, 115, 32, 115, 97, 115, 104, 47, 115, 97, 115, 104, 108, 97, 119, 48, 53, 46, 67, 101, 108, 108, 70, 105, 110, 100, 115, 32, 115, 97, 115, 104, 47, 115, 97, 115, 104, 108, 97, 119, 48, 56, 46, 76, 101, 97, 115, 116, 73, 115, 32, 115, 97, 115, 104, 47, 115, 97, 115, 104, 108, 97, 119, 48, 56, 46, 76, 101, 97, 115, 116, 70, 105, 116, 115, 32, 115, 97, 115, 104, 47, 115, 97, 115, 104, 108, 97, 119, 48, 56, 46, 76, 101, 97, 115, 116, 80, 97, 116, 104, 115, 32, 115, 97, 115, 104, 47, 115, 97, 115, 104, 108, 97, 119, 48, 53, 46, 67, 101, 108, 108, 80, 117, 116, 115, 32, 115, 97, 115, 104, 47, 115, 97, 115, 104, 108, 97, 119, 49, 50, 46, 83, 112, 108, 105, 116, 83, 105, 122, 101, 115, 32, 115, 97, 115, 104, 47, 115, 97, 115, 104, 108, 97, 119, 49, 54, 46, 83, 112, 114, 101, 97, 100, 65, 108, 108, 32, 115, 97, 115, 104, 47, 115, 97, 115, 104, 108, 97, 119, 49, 54, 46, 83, 112, 114, 101, 97, 100, 65, 116, 32, 115, 97, 115, 104, 47, 115, 97, 115, 104, 108, 97, 119, 49, 52, 46, 80, 117, 115, 104, 73, 115, 32, 115, 97, 115, 104, 47, 115, 97, 115, 104, 108, 97, 119, 49, 52, 46, 80, 117, 115, 104, 79, 110, 101, 32, 115, 97, 115, 104, 47, 115, 97, 115, 104, 108, 97, 119, 49, 52, 46, 80, 117, 115, 104, 70, 114, 97, 109, 101, 115, 32, 115, 97, 115, 104, 47, 115, 97, 115, 104, 108, 97, 119, 49, 52, 46, 80, 117, 115, 104, 67, 97, 110, 32, 115, 97, 115, 104, 47, 115, 97, 115, 104, 108, 97, 119, 49, 50, 46, 83, 112, 108, 105, 116, 73, 115, 32, 115, 97, 115, 104, 47, 115, 97, 115, 104, 108, 97, 119, 49, 50, 46, 83, 112, 108, 105, 116, 67, 97, 110].map Char.ofNat
def headWords : List (List Char) := [[104, 97, 114, 110, 101, 115, 115].map Char.ofNat,
  [57, 48, 98, 52, 50, 100, 98, 100, 99, 50, 52, 54, 55, 51, 50, 51, 56, 57, 50, 48, 100, 50, 50, 98, 56, 57, 53, 102, 48, 48, 55, 48, 53, 101, 102, 48, 53, 53, 102, 54, 54, 55, 97, 57, 54, 56, 100, 50, 56, 97, 57, 52, 55, 52, 56, 57, 49, 49, 48, 97, 48, 101, 53, 55].map Char.ofNat,
  [99, 117, 116].map Char.ofNat,
  [97, 116].map Char.ofNat,
  [115, 97, 115, 104, 47, 115, 97, 115, 104, 108, 97, 119, 48, 55, 46, 70, 108, 97, 116, 78, 101, 120, 116, 115].map Char.ofNat,
  [115, 97, 115, 104, 47, 115, 97, 115, 104, 108, 97, 119, 48, 55, 46, 70, 108, 97, 116, 76, 105, 115, 116, 115].map Char.ofNat,
  [115, 97, 115, 104, 47, 115, 97, 115, 104, 108, 97, 119, 48, 52, 46, 82, 101, 99, 116, 67, 117, 116, 115].map Char.ofNat,
  [115, 97, 115, 104, 47, 115, 97, 115, 104, 108, 97, 119, 48, 57, 46, 65, 100, 106, 117, 115, 116, 83, 104, 97, 114, 101, 115].map Char.ofNat,
  [115, 97, 115, 104, 47, 115, 97, 115, 104, 108, 97, 119, 48, 57, 46, 65, 100, 106, 117, 115, 116, 69, 118, 101, 110, 115].map Char.ofNat,
  [115, 97, 115, 104, 47, 115, 97, 115, 104, 108, 97, 119, 49, 54, 46, 83, 112, 114, 101, 97, 100, 83, 105, 122, 101, 115].map Char.ofNat,
  [115, 97, 115, 104, 47, 115, 97, 115, 104, 108, 97, 119, 48, 55, 46, 70, 108, 97, 116, 67, 104, 97, 110, 103, 101, 115].map Char.ofNat,
  [115, 97, 115, 104, 47, 115, 97, 115, 104, 108, 97, 119, 48, 52, 46, 82, 101, 99, 116, 73, 110, 115, 105, 100, 101].map Char.ofNat,
  [115, 97, 115, 104, 47, 115, 97, 115, 104, 108, 97, 119, 48, 55, 46, 70, 108, 97, 116, 78, 97, 109, 101, 115].map Char.ofNat,
  [115, 97, 115, 104, 47, 115, 97, 115, 104, 108, 97, 119, 48, 57, 46, 65, 100, 106, 117, 115, 116, 83, 101, 116, 115].map Char.ofNat,
  [115, 97, 115, 104, 47, 115, 97, 115, 104, 108, 97, 119, 48, 52, 46, 82, 101, 99, 116, 77, 101, 101, 116, 115].map Char.ofNat,
  [115, 97, 115, 104, 47, 115, 97, 115, 104, 108, 97, 119, 48, 52, 46, 82, 101, 99, 116, 77, 97, 121, 115].map Char.ofNat,
  [115, 97, 115, 104, 47, 115, 97, 115, 104, 108, 97, 119, 48, 55, 46, 70, 108, 97, 116, 83, 116, 105, 108, 108].map Char.ofNat,
  [115, 97, 115, 104, 47, 115, 97, 115, 104, 108, 97, 119, 48, 53, 46, 67, 101, 108, 108, 77, 97, 121, 115].map Char.ofNat,
  [115, 97, 115, 104, 47, 115, 97, 115, 104, 108, 97, 119, 48, 53, 46, 67, 101, 108, 108, 83, 97, 109, 101].map Char.ofNat,
  [115, 97, 115, 104, 47, 115, 97, 115, 104, 108, 97, 119, 48, 53, 46, 67, 101, 108, 108, 67, 111, 117, 110, 116, 115].map Char.ofNat,
  [115, 97, 115, 104, 47, 115, 97, 115, 104, 108, 97, 119, 48, 56, 46, 76, 101, 97, 115, 116, 83, 117, 109, 115].map Char.ofNat,
  [115, 97, 115, 104, 47, 115, 97, 115, 104, 108, 97, 119, 48, 53, 46, 67, 101, 108, 108, 70, 105, 110, 100, 115].map Char.ofNat,
  [115, 97, 115, 104, 47, 115, 97, 115, 104, 108, 97, 119, 48, 56, 46, 76, 101, 97, 115, 116, 73, 115].map Char.ofNat,
  [115, 97, 115, 104, 47, 115, 97, 115, 104, 108, 97, 119, 48, 56, 46, 76, 101, 97, 115, 116, 70, 105, 116, 115].map Char.ofNat,
  [115, 97, 115, 104, 47, 115, 97, 115, 104, 108, 97, 119, 48, 56, 46, 76, 101, 97, 115, 116, 80, 97, 116, 104, 115].map Char.ofNat,
  [115, 97, 115, 104, 47, 115, 97, 115, 104, 108, 97, 119, 48, 53, 46, 67, 101, 108, 108, 80, 117, 116, 115].map Char.ofNat,
  [115, 97, 115, 104, 47, 115, 97, 115, 104, 108, 97, 119, 49, 50, 46, 83, 112, 108, 105, 116, 83, 105, 122, 101, 115].map Char.ofNat,
  [115, 97, 115, 104, 47, 115, 97, 115, 104, 108, 97, 119, 49, 54, 46, 83, 112, 114, 101, 97, 100, 65, 108, 108].map Char.ofNat,
  [115, 97, 115, 104, 47, 115, 97, 115, 104, 108, 97, 119, 49, 54, 46, 83, 112, 114, 101, 97, 100, 65, 116].map Char.ofNat,
  [115, 97, 115, 104, 47, 115, 97, 115, 104, 108, 97, 119, 49, 52, 46, 80, 117, 115, 104, 73, 115].map Char.ofNat,
  [115, 97, 115, 104, 47, 115, 97, 115, 104, 108, 97, 119, 49, 52, 46, 80, 117, 115, 104, 79, 110, 101].map Char.ofNat,
  [115, 97, 115, 104, 47, 115, 97, 115, 104, 108, 97, 119, 49, 52, 46, 80, 117, 115, 104, 70, 114, 97, 109, 101, 115].map Char.ofNat,
  [115, 97, 115, 104, 47, 115, 97, 115, 104, 108, 97, 119, 49, 52, 46, 80, 117, 115, 104, 67, 97, 110].map Char.ofNat,
  [115, 97, 115, 104, 47, 115, 97, 115, 104, 108, 97, 119, 49, 50, 46, 83, 112, 108, 105, 116, 73, 115].map Char.ofNat,
  [115, 97, 115, 104, 47, 115, 97, 115, 104, 108, 97, 119, 49, 50, 46, 83, 112, 108, 105, 116, 67, 97, 110].map Char.ofNat]
theorem head_list : Try.prog.initOrder.toList = headSigns := by
  have e : Try.prog.initOrder = String.ofList headSigns := by kernel_rfl
  rw [e, String.toList_ofList]
theorem head_words : wordsSigns Try.prog.initOrder.toList = headWords := by
  rw [head_list]
  kernel_rfl
def headRest : List (List Char) := headWords.drop 3
theorem head_behind : behindMainWord (wordsSigns Try.prog.initOrder.toList) = ([99, 117, 116].map Char.ofNat) :: headRest := by
  rw [head_words]
  kernel_rfl
theorem cut_eq : ([99, 117, 116].map Char.ofNat : List Char) = "cut".toList := by decide +kernel
theorem head_behind' : behindMainWord (wordsSigns Try.prog.initOrder.toList) = "cut".toList :: headRest := head_behind.trans (congrArg (fun c => c :: headRest) cut_eq)
theorem strip_none (rest : List (List Char)) : stripLifts liftWords ("cut".toList :: rest) = ([], "cut".toList :: rest) := by
  have key : ∀ (l : List String), (l.all fun o => !("cut".toList == o.toList)) = true → stripLifts l ("cut".toList :: rest) = ([], "cut".toList :: rest) := by
    intro l
    induction l with
    | nil => intro _; rfl
    | cons o l ih =>
      intro h
      simp only [List.all_cons, Bool.and_eq_true] at h
      unfold stripLifts
      rw [if_neg (by simpa using h.1)]
      exact ih h.2
  exact key _ (by decide +kernel)
theorem make_of (P : Program) (rest : List (List Char)) (h : behindMainWord (wordsSigns P.initOrder.toList) = "cut".toList :: rest) : P.make = some .cut := by
  unfold Program.make
  rw [h]
  simp only
  have h1 : ("cut".toList == "gc".toList) = false := by decide +kernel
  have h2 : ("cut".toList == "spec".toList) = false := by decide +kernel
  rw [h1, h2, if_neg (by simp), if_pos (by simp)]
theorem lifts_of (P : Program) (rest : List (List Char)) (h : behindMainWord (wordsSigns P.initOrder.toList) = "cut".toList :: rest) : P.headLifts = [] := by
  unfold Program.headLifts
  simp only [h, strip_none]
  simp
theorem final_of (P : Program) (rest : List (List Char)) (h : behindMainWord (wordsSigns P.initOrder.toList) = "cut".toList :: rest) : P.liftsFinal = false := by
  have h1 : (some "cut".toList == some "carried".toList) = false := by decide +kernel
  unfold Program.liftsFinal
  simp only [h, lifts_of P rest h, List.head?_cons, h1, Bool.false_and, List.contains_nil, Bool.or_false]
theorem enter_of (P : Program) (rest : List (List Char)) (h : behindMainWord (wordsSigns P.initOrder.toList) = "cut".toList :: rest) (h1 : P.laysLater = false) (h2 : P.bearsReflect = false) (h3 : P.doorFits [] = true) : P.mayEnter = true := by
  unfold Program.mayEnter
  rw [h]
  simp only [strip_none]
  rw [h1, h2, h3]
  simp
theorem head_make : Try.prog.make = some .cut := make_of Try.prog headRest head_behind'
theorem head_final : Try.prog.liftsFinal = false := final_of Try.prog headRest head_behind'
theorem head_later : Try.prog.laysLater = false := by kernel_rfl
theorem head_reflect : Try.prog.bearsReflect = false := by kernel_rfl
theorem head_door : Try.prog.doorFits [] = true := by kernel_rfl
theorem head_enter : Try.prog.mayEnter = true := enter_of Try.prog headRest head_behind' head_later head_reflect head_door
theorem head_keys : (true == Try.prog.plainKeys) = true := by kernel_rfl
theorem head_heard : Try.prog.stopsHeard = true := by kernel_rfl
end Go.Proofs.Ytfdmfgaiblfbhaa.P
/- joinedFacts out of its parts, over any program. -/
namespace Go.Proofs.Ytfdmfgaiblfbhaa.P
open Go.RowKit
theorem joined_mk {P : Program} {f : FuncId} {fn : Func} {s : ChangeSpec} {c : OpenClaim}
    (h0 : (c.wf (OpenSpec.ofChange s)) = true)
    (h1 : (laidOutB P) = true)
    (h2 : (mapsRowed P) = true)
    (h3 : (fn.params.all (P.readableRec ·)) = true)
    (h4 : (namedTie P c.named s.vars) = true)
    (h5 : ((c.stops == [])) = true)
    (h6 : ((P.stops == [])) = true)
    (h7 : ((c.knobs == [])) = true)
    (h8 : ((P.stopKnobs == [])) = true)
    (h9 : ((c.inPlace == P.inPlace f)) = true)
    (h10 : ((c.unfollowed == P.unfollowed f)) = true)
    (h11 : ((c.recurses == P.recurses f)) = true)
    (h12 : ((c.named == P.varsNamed f)) = true)
    (h13 : ((c.maps == (fn.params.toList ++ s.plain.varTypes P).any (P.mapsRec ·))) = true)
    (h14 : ((c.ifaces == (fn.params.toList ++ s.plain.varTypes P).any (P.ifacesRec ·))) = true)
    (h15 : ((c.mapsOut == P.mapsAmong fn.resultTypes.toList)) = true)
    (h16 : ((c.loops == (fn.params.toList ++ s.plain.varTypes P).any (P.loopsFrom ·))) = true)
    (h17 : ((c.wideKeys == (fn.params.toList ++ s.plain.varTypes P ++ fn.resultTypes.toList).any (P.wideKeysFrom ·))) = true)
    (h18 : (s.vars.all (P.varReadable ·)) = true)
    (h19 : (fn.resultTypes.all (fun t => P.readableRec t && decide (t < P.types.size))) = true)
    (h20 : ((c.ifacesOut == fn.resultTypes.toList.any (P.ifacesRec ·))) = true)
    (h21 : ((c.loopsOut == fn.resultTypes.toList.any (P.loopsFrom ·))) = true)
    (h22 : ((c.plainKeys == P.plainKeys)) = true)
    (h23 : (c.shortTexts.isNone) = true)
    (h24 : (P.stopsHeard) = true)
    (h25 : (P.mayEnter) = true)
    (h26 : ((c.lifted == P.liftsFinal)) = true)
    (h27 : ((P.make == some c.make)) = true)
    (hd : c.domain.isEmpty = true) (hk : c.kinds = [])
    (h29 : ((c.pinned == c.pinnedBy)) = true)
    (h30 : ((c.veiled == (fn.params.toList ++ s.plain.varTypes P ++ fn.resultTypes.toList).any (P.veiledRec ·))) = true)
    (h31 : (c.veiledFits P fn.params.toList (fn.params.toList ++ s.plain.varTypes P ++ fn.resultTypes.toList)) = true)
    : joinedFacts P f fn s c = true := by
  unfold joinedFacts
  rw [h0, h1, h2, h3, h4, h5, h6, h7, h8, h9, h10, h11, h12, h13, h14, h15, h16, h17, h18, h19, h20, h21, h22, h23, h24, h25, h26, h27, if_pos hd, hk, h29, h30, h31]
  rfl
end Go.Proofs.Ytfdmfgaiblfbhaa.P
/- How a law's arguments read, with their bulk: a tree has no more cells than its reading has bulk. -/
namespace Go.Proofs.Ytfdmfgaiblfbhaa.P
open Go.RowKit Go.Proofs.YtfdmfgaiblfbhaaW.PrintWords Go.Proofs.YtfdmfgaiblfbhaaW.PrintLast Go.Proofs.YtfdmfgaiblfbhaaW.PrintMore
open Go.ChangeShapes Go.WideShapes Go.ChangeAt Go.Joins Go.Deep

section
variable {H : Type} {enc : TypeId × Value → H} {P : Program} {w : World} {base : Nat} {spare : Nat → Bool} {held : Bool}
theorem bulk_pos (d : DataW H) : 1 ≤ Rows.uptoBulk d := by
  cases d with
  | lit l => cases l <;> simp [Rows.uptoBulk]
  | _ => simp [Rows.uptoBulk]
theorem bulk_len (l : List (DataW H)) : l.length ≤ Rows.uptoBulkAll l := by
  induction l with
  | nil => simp
  | cons x xs ih =>
    have := bulk_pos x
    simp only [Rows.uptoBulkAll, List.length_cons]
    omega
theorem bulk_sum {α : Type} (m : α → Nat) : ∀ (l : List α) (es : List (DataW H)), l.length = es.length → (∀ (i : Nat) (p : α) (e : DataW H), l[i]? = some p → es[i]? = some e → m p ≤ Rows.uptoBulk e) → (l.map m).sum ≤ Rows.uptoBulkAll es := by
  intro l
  induction l with
  | nil => intro es _ _; simp
  | cons x xs ih =>
    intro es hl h
    cases es with
    | nil => simp at hl
    | cons e es =>
      have h0 := h 0 x e rfl rfl
      have h1 := ih es (by simpa using hl) (fun i p e hp he => h (i + 1) p e (by simpa using hp) (by simpa using he))
      simp only [List.map_cons, List.sum_cons, Rows.uptoBulkAll]
      omega
theorem trod_struct4z {t : TypeId} {f0 f1 f2 f3 : Field} {fuel : Nat} {cs : List Value} {x : DataW H × List MemPlace} (ht : P.underlying t = some (.struct #[f0, f1, f2, f3])) (h : DataW.trod enc P w base spare held fuel t cs = some x) :
    ∃ y0 y1 y2 y3 n, fuel = n + 1 ∧ x.1 = .agg [y0.1, y1.1, y2.1, y3.1] ∧ cs.length = P.cellsOf t ∧ DataW.trod enc P w base spare held n f0.type ((cs.drop f0.offset).take (P.cellsOf f0.type)) = some y0 ∧
      DataW.trod enc P w base spare held n f1.type ((cs.drop f1.offset).take (P.cellsOf f1.type)) = some y1 ∧ DataW.trod enc P w base spare held n f2.type ((cs.drop f2.offset).take (P.cellsOf f2.type)) = some y2 ∧
      DataW.trod enc P w base spare held n f3.type ((cs.drop f3.offset).take (P.cellsOf f3.type)) = some y3 := by
  obtain ⟨xs, n, hn, rfl, hl, hlen, hf⟩ := DataW.trod_struct ht h
  match xs, hlen with
  | [y0, y1, y2, y3], _ => exact ⟨y0, y1, y2, y3, n, hn, rfl, hl, by simpa using hf 0 f0 rfl, by simpa using hf 1 f1 rfl, by simpa using hf 2 f2 rfl, by simpa using hf 3 f3 rfl⟩
/-- A row whose elements read: so many, and of such a bulk. -/
theorem open_rowz {α : Type} {k : Kd α} {ok : α → Prop} (m : α → Nat) {t e : TypeId} {fuel : Nat} {cs : List Value} {x : DataW H × List MemPlace} (ht : P.underlying t = some (.slice e)) (hs : k.sz = P.cellsOf e)
    (hE : ∀ n, n < fuel → ∀ cs y, DataW.trod enc P w base spare held n e cs = some y → ∃ p, k.K w p cs ∧ ok p ∧ m p ≤ Rows.uptoBulk y.1) (h : DataW.trod enc P w base spare held fuel t cs = some x) :
    ∃ A c l, cs = [.slice A (l : List α).length c] ∧ l.length ≤ c ∧ k.C w A l.length l ∧ (∀ p, p ∈ l → ok p) ∧ (l.map m).sum < Rows.uptoBulk x.1 ∧ l.length < Rows.uptoBulk x.1 := by
  rcases DataW.trod_slice ht h with ⟨rfl, rfl⟩ | ⟨a, len, cap, elems, rest, n, hn, rfl, rfl, hb, hl, hm, hlen, hel, hsp, hns⟩
  · exact ⟨none, 0, [], rfl, Nat.le_refl _, ⟨rfl, by simp, fun h => absurd h (by simp)⟩, (fun p hp => by cases hp), (by simp [Rows.uptoBulk]), (by simp [Rows.uptoBulk])⟩
  · obtain ⟨l, hl2, hq⟩ := row_of (α := α) (Q := fun i p => ok p ∧ (∃ c, c.length = k.sz ∧ k.K w p c ∧ ∀ j u, c[j]? = some u → w.cell? (a.add (i * k.sz + j)) = some u) ∧ ∀ e, elems[i]? = some e → m p ≤ Rows.uptoBulk e.1) len (fun i hi => by
      have key := hel i hi
      rw [List.getElem?_eq_getElem (by omega)] at key
      obtain ⟨cs', h1, h2⟩ := Option.bind_eq_some_iff.1 key
      obtain ⟨p, hp, hok, hm⟩ := hE n (by omega) cs' _ h2
      obtain ⟨h3, h4⟩ := cells_at h1
      refine ⟨p, hok, ⟨cs', by rw [h3, hs], hp, fun j u hj => ?_⟩, fun e he => ?_⟩
      · rw [hs, ← Deep.add_add]
        exact h4 j u hj
      · rw [List.getElem?_eq_getElem (by omega)] at he
        cases he
        exact hm)
    subst hl2
    refine ⟨some a, cap, l, rfl, hl, ⟨rfl, by unfold maxLen at hm; omega, fun _ => ⟨a, rfl, fun j p hj => ?_⟩⟩, fun p hp => ?_, ?_, ?_⟩
    · obtain ⟨_, ⟨c, h1, h2, h3⟩, _⟩ := hq j p hj
      exact ⟨c, h1, h2, h3⟩
    · obtain ⟨i, hi, rfl⟩ := List.getElem_of_mem hp
      exact (hq i _ (List.getElem?_eq_getElem hi)).1
    · have := bulk_sum m l (elems.map (·.1)) (by simp [hlen]) (fun i p e hp he => by
        rw [List.getElem?_map] at he
        obtain ⟨e', he', rfl⟩ := Option.map_eq_some_iff.1 he
        exact (hq i p hp).2.2 e' he')
      simp only [Rows.uptoBulk]
      omega
    · have := bulk_len (elems.map (·.1))
      simp only [List.length_map] at this
      simp only [Rows.uptoBulk]
      omega
end
section
variable {H : Type} {enc : TypeId × Value → H} {w : World} {base : Nat} {spare : Nat → Bool} {held : Bool}
set_option maxRecDepth 100000 in
theorem read26nz : ∀ (fuel : Nat) {cs : List Value} {x : DataW H × List MemPlace} (_ : DataW.trod enc Try.prog w base spare held fuel 26 cs = some x), ∃ r : S26, (Kd.upto F26 7 [26] fuel).K w r cs ∧ wfn26 fuel r ∧ sz r ≤ Rows.uptoBulk x.1 := by
  intro fuel
  induction fuel using Nat.strongRecOn with
  | _ fuel ih =>
  intro cs x h
  cases fuel with
  | zero => simp [DataW.trod] at h
  | succ fuel =>
    obtain ⟨y0, y1, y2, y3, m, hm, hx, hl, h0, h1, h2, h3⟩ := trod_struct4z Try.underlying26 h
    obtain rfl : fuel = m := by omega
    rw [cells26] at hl
    match cs, hl with
    | [c0, c1, c2, c3, c4, c5, c6], _ =>
        simp only [cells3, cells5, cells23, cells24, List.drop_zero, List.take_succ_cons, List.take_zero, List.drop_succ_cons] at h0 h1 h2 h3
        obtain ⟨n0, e0, _, w0⟩ := DataW.trod_int Try.underlying5 h0
        obtain ⟨n2, e2, _, w2⟩ := DataW.trod_int Try.underlying3 h2
        simp only [List.cons.injEq, and_true] at e0 e2
        subst e0 e2
        obtain ⟨r, hr, hw⟩ := read23 h1
        obtain e1 := k23_open hr
        simp only [List.cons.injEq, and_true] at e1
        obtain ⟨rfl, rfl, rfl, rfl⟩ := e1
        obtain ⟨A, c, l, e3, hlc, hC, hok, hsum, _⟩ := open_rowz (k := Kd.upto F26 7 [26] fuel) (ok := wfn26 fuel) sz Try.underlying24 (by rw [sz26, cells26]) (fun n hn cs y hy => by
          obtain ⟨p, hp, hok, hz⟩ := ih n (by omega) hy
          exact ⟨p, Kd.upto_K_le mono26 sz26 (by omega) hp, wfn26_le (by omega) hok, hz⟩) h3
        simp only [List.cons.injEq, and_true] at e3
        subst e3
        have hlen9 : l.length ≤ 9223372036854775807 := hC.2.1
        refine ⟨⟨n0, r, n2, l⟩, ?_, ⟨u8_of w0, hw, i64_of w2, hlen9, hok⟩, ?_⟩
        · exact ⟨[.int .u8 n0], [.int .i64 r.f0, .int .i64 r.f1, .int .i64 r.f2, .int .i64 r.f3, .int .i64 n2, .slice A l.length c], rfl, rfl, [.int .i64 r.f0, .int .i64 r.f1, .int .i64 r.f2, .int .i64 r.f3], [.int .i64 n2, .slice A l.length c], rfl, k23_mk w r, [.int .i64 n2], [.slice A l.length c], rfl, rfl, A, c, rfl, hlc, hC⟩
        · rw [hx, sz_eq]
          have := szL_sum l
          simp only [Rows.uptoBulk, Rows.uptoBulkAll]
          have h3 := bulk_pos y0.1
          omega
theorem read26z {fuel : Nat} {cs : List Value} {x : DataW H × List MemPlace} (h : DataW.trod enc Try.prog w base spare held fuel 26 cs = some x) : ∃ r : S26, k26.K w r cs ∧ wf26 r ∧ sz r ≤ Rows.uptoBulk x.1 := by
  obtain ⟨r, hr, hw, hz⟩ := read26nz fuel h
  exact ⟨r, ⟨fuel, hr⟩, ⟨fuel, hw⟩, hz⟩
end
end Go.Proofs.Ytfdmfgaiblfbhaa.P
/- The row of the law LeastFits, second form (what it reads is of bulk at most 1048576), out of its plain law and its walk. -/
namespace Go.Proofs.Ytfdmfgaiblfbhaa.leastFitsUpto
open Go.ChangeShapes Go.WideShapes Go.ChangeAt Go.RowKit Go.Proofs.Ytfdmfgaiblfbhaa.P Go.Proofs.YtfdmfgaiblfbhaaW.PrintWords
open Go.ChangeMaps (open_string shut_string)
theorem own : ownKnob Try.prog.godebug = none := by kernel_rfl
theorem laidOut : laidOutB Try.prog = true := by kernel_rfl
set_option maxRecDepth 100000 in
theorem lifted (os : Os) (started : os.Started) (H : Type) (enc : TypeId × Value → H) (F : Stop.Interp) :
  ReturnsInHanded {} Try.checked os 22 .any ((Rows.OpenSpec.upto Rows.leastFitsSpec).pre6 enc Try.prog Try.f22 Rows.leastFitsUptoRow.domain false) (((Rows.OpenSpec.upto Rows.leastFitsSpec).at F).post enc Try.prog Try.f22 false true false false) := by
 refine returnsInHanded_of_cond (C := Try.checked) (s := Rows.OpenSpec.upto Rows.leastFitsSpec) (k := Rows.uptoSmall) rfl own started (by kernel_rfl) Try.func22
  (OpenSpec.witness (enc := enc) (C := Try.checked) (s := Rows.OpenSpec.upto Rows.leastFitsSpec) (k := Rows.uptoSmall) rfl false ⟨#[], #[.agg #[.int .u8 0, .int .i64 0, .int .i64 0, .int .i64 0, .int .i64 0, .int .i64 0, .slice none 0 0]], []⟩ 8 (by kernel_rfl) (by kernel_rfl) (by kernel_rfl)
   (x := ([.agg [.lit (.int .u8 0), .agg [.lit (.int .i64 0), .lit (.int .i64 0), .lit (.int .i64 0), .lit (.int .i64 0)], .lit (.int .i64 0), .nil]], [], [])) (by kernel_rfl) rfl (by kernel_rfl)) ?_
 intro W base args ds gs before hval0 hW hcnd hk0 _
 have hval : ∀ (j : Nat) t v, Try.f22.params[j]? = some t → args[j]? = some v → Value.okWide Try.prog W .any base t v := hval0
 have hW' := hW
 obtain ⟨p, q, hA0, hV, rfl, hfz, hnd⟩ := hW
 have hA : DataW.TrodAll enc Try.prog W 0 (fun _ => true) true Try.f22.params.toList args.toList ds p := hA0
 rw [Try.params22] at hA hval
 obtain ⟨v0, vs0, d0, ds0, p0, q0, hargs, rfl, rfl, h0, r0⟩ := trodAll_cons hA
 obtain ⟨rfl, rfl, rfl⟩ := trodAll_nil r0
 obtain rfl : args = #[v0] := by cases args; simp_all
 obtain ⟨rfl, rfl⟩ := trodVars_none hV
 have hB := of_decide_eq_true hk0
 simp only [List.cons_append, List.nil_append, List.append_nil, Rows.uptoBulkAll] at hB
 have z0 : Rows.uptoBulk d0 ≤ 1048576 := by omega
 have k0 := h0
 have lt0 : ∀ x ∈ p0, x.block < W.heap.size := by obtain ⟨m, hm⟩ := k0; exact DataW.trod_lt m _ _ _ hm
 obtain ⟨fuel0, hf0⟩ := h0
 obtain ⟨cs0, rfl, _⟩ := okWide_struct Try.underlying26 (hval 0 26 v0 rfl rfl)
 obtain ⟨a0, b0, w0, y0⟩ := read26z hf0
 obtain ⟨A0, c0, e0, hc0, hr0⟩ := k26_open b0
 obtain rfl := agg_of e0
 obtain ⟨k, hP⟩ := Pure.LeastFits a0 w0 (Nat.le_trans y0 z0)
 refine (sashlaw08_LeastFits.calls k a0.f0 a0.f1.f0 a0.f1.f1 a0.f1.f2 a0.f1.f3 a0.f2 _ _ a0.f3 true W hr0 hc0 hP).mono fun e W' ⟨he, bel0⟩ => ?_
 have bel : Below W.heap.size W W' := bel0
 subst he
 exact ⟨_, rfl, _, _, _, [], _, [], hW', trodAll_mk1 (shut_bool Try.underlying4 _), (trodAll_cons_mk (Below.trod laidOut (by kernel_rfl) (of_decide_eq_true (by kernel_rfl)) k0 bel lt0) trodAll_mk0), rfl, bel.frame _, fun h => by cases h⟩
theorem j0 : (Rows.leastFitsUptoRow.wf (OpenSpec.ofChange (Rows.OpenSpec.upto Rows.leastFitsSpec).bare)) = true := by kernel_rfl
theorem j1 : (laidOutB Try.prog) = true := by kernel_rfl
theorem j2 : (mapsRowed Try.prog) = true := by kernel_rfl
theorem j3 : (Try.f22.params.all (Try.prog.readableRec ·)) = true := by kernel_rfl
theorem j4 : (namedTie Try.prog Rows.leastFitsUptoRow.named (Rows.OpenSpec.upto Rows.leastFitsSpec).bare.vars) = true := by kernel_rfl
theorem j5 : ((Rows.leastFitsUptoRow.stops == [])) = true := by kernel_rfl
theorem j6 : ((Try.prog.stops == [])) = true := by kernel_rfl
theorem j7 : ((Rows.leastFitsUptoRow.knobs == [])) = true := by kernel_rfl
theorem j8 : ((Try.prog.stopKnobs == [])) = true := by kernel_rfl
theorem j9 : ((Rows.leastFitsUptoRow.inPlace == Try.prog.inPlace 22)) = true := by kernel_rfl
theorem j10 : ((Rows.leastFitsUptoRow.unfollowed == Try.prog.unfollowed 22)) = true := by kernel_rfl
theorem j11 : ((Rows.leastFitsUptoRow.recurses == Try.prog.recurses 22)) = true := by kernel_rfl
theorem j12 : ((Rows.leastFitsUptoRow.named == Try.prog.varsNamed 22)) = true := by kernel_rfl
theorem j13 : ((Rows.leastFitsUptoRow.maps == (Try.f22.params.toList ++ (Rows.OpenSpec.upto Rows.leastFitsSpec).bare.plain.varTypes Try.prog).any (Try.prog.mapsRec ·))) = true := by kernel_rfl
theorem j14 : ((Rows.leastFitsUptoRow.ifaces == (Try.f22.params.toList ++ (Rows.OpenSpec.upto Rows.leastFitsSpec).bare.plain.varTypes Try.prog).any (Try.prog.ifacesRec ·))) = true := by kernel_rfl
theorem j15 : ((Rows.leastFitsUptoRow.mapsOut == Try.prog.mapsAmong Try.f22.resultTypes.toList)) = true := by kernel_rfl
theorem j16 : ((Rows.leastFitsUptoRow.loops == (Try.f22.params.toList ++ (Rows.OpenSpec.upto Rows.leastFitsSpec).bare.plain.varTypes Try.prog).any (Try.prog.loopsFrom ·))) = true := by kernel_rfl
theorem j17 : ((Rows.leastFitsUptoRow.wideKeys == (Try.f22.params.toList ++ (Rows.OpenSpec.upto Rows.leastFitsSpec).bare.plain.varTypes Try.prog ++ Try.f22.resultTypes.toList).any (Try.prog.wideKeysFrom ·))) = true := by kernel_rfl
theorem j18 : ((Rows.OpenSpec.upto Rows.leastFitsSpec).bare.vars.all (Try.prog.varReadable ·)) = true := by kernel_rfl
theorem j19 : (Try.f22.resultTypes.all (fun t => Try.prog.readableRec t && decide (t < Try.prog.types.size))) = true := by kernel_rfl
theorem j20 : ((Rows.leastFitsUptoRow.ifacesOut == Try.f22.resultTypes.toList.any (Try.prog.ifacesRec ·))) = true := by kernel_rfl
theorem j21 : ((Rows.leastFitsUptoRow.loopsOut == Try.f22.resultTypes.toList.any (Try.prog.loopsFrom ·))) = true := by kernel_rfl
theorem j23 : (Rows.leastFitsUptoRow.shortTexts.isNone) = true := by kernel_rfl
theorem j29 : ((Rows.leastFitsUptoRow.pinned == Rows.leastFitsUptoRow.pinnedBy)) = true := by kernel_rfl
theorem j30 : ((Rows.leastFitsUptoRow.veiled == (Try.f22.params.toList ++ (Rows.OpenSpec.upto Rows.leastFitsSpec).bare.plain.varTypes Try.prog ++ Try.f22.resultTypes.toList).any (Try.prog.veiledRec ·))) = true := by kernel_rfl
theorem j31 : (Rows.leastFitsUptoRow.veiledFits Try.prog Try.f22.params.toList (Try.f22.params.toList ++ (Rows.OpenSpec.upto Rows.leastFitsSpec).bare.plain.varTypes Try.prog ++ Try.f22.resultTypes.toList)) = true := by kernel_rfl
theorem closed : joinedFacts Try.prog 22 Try.f22 (Rows.OpenSpec.upto Rows.leastFitsSpec).bare Rows.leastFitsUptoRow = true := P.joined_mk j0 j1 j2 j3 j4 j5 j6 j7 j8 j9 j10 j11 j12 j13 j14 j15 j16 j17 j18 j19 j20 j21 P.head_keys j23 P.head_heard P.head_enter (by rw [P.head_final]; rfl) (by rw [P.head_make]; rfl) rfl rfl j29 j30 j31
theorem over : Rows.leastFitsUptoRow.holds Try.pinned (Rows.OpenSpec.upto Rows.leastFitsSpec) :=
 OpenClaim.holds_of_cond 22 Try.f22 rfl rfl rfl rfl rfl rfl rfl ⟨rfl, rfl, rfl, rfl, rfl⟩ rfl rfl rfl rfl rfl (by kernel_rfl) Try.func22 closed
  (of_decide_eq_true (by kernel_rfl)) (by unfold Func.isWrapper; first | (rw [if_pos (by decide +kernel)]; kernel_rfl) | (rw [if_neg (by decide +kernel)]; exact ⟨rfl, rfl⟩))
  (fun os started H enc _ F => lifted os started H enc F)
theorem proved : Rows.LeastFitsUptoSaid := over
#print axioms proved
end Go.Proofs.Ytfdmfgaiblfbhaa.leastFitsUpto
namespace Go.Proofs.Ytfdmfgaiblfbhaa
/-- The row, under a short name, for the claim. -/
theorem leastFitsUpto_holds : Rows.LeastFitsUptoSaid := leastFitsUpto.proved
end Go.Proofs.Ytfdmfgaiblfbhaa
