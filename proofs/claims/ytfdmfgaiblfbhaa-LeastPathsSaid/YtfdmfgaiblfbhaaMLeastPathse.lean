/- LeastPaths: part 5 of 7 of this claim's texts, one behind the other. The words of the kit's printer stand in it cut down, by a program, to those that are used. -/
import Derived.Test.YtfdmfgaiblfbhaaMLeastPathsd
import Derived.Test.YtfdmfgaiblfbhaaMLeastPathsc
import Derived.WalkSpells
import Derived.Maps.OwnOps
import Derived.Maps.Views
/- slices.EqualFunc at cells (function 211): what it answers, with any test that only reads. -/
namespace Go.Proofs.Ytfdmfgaiblfbhaa.P
open Go.RowKit Go.Proofs.YtfdmfgaiblfbhaaW.PrintWords Go.Proofs.YtfdmfgaiblfbhaaW.PrintLast Go.Proofs.YtfdmfgaiblfbhaaW.PrintMore
set_option linter.unusedVariables false
set_option linter.unusedSimpArgs false
set_option maxHeartbeats 4000000 in
set_option maxRecDepth 100000 in
theorem eqf211 (r : S26 → S23 → Bool) (g : Nat) (eg : ∀ args w, (callFunc g args).run Try.prog w = .ok (.enter g args) w) (la : List S26) (lb : List S23) (A B : Option Addr) (ca cb : Nat) (w : World) (hA : Kd.C k26 w A la.length la) (hB : Kd.C k23 w B lb.length lb)
    (hcall : ∀ W (x : S26) (X : Option Addr) (cx : Nat) (y : S23), x ∈ la → Below w.heap.size w W → Kd.C k26 w X x.f3.length x.f3 → x.f3.length ≤ cx → Calls Try.prog g #[.agg #[.int .u8 x.f0, .int .i64 x.f1.f0, .int .i64 x.f1.f1, .int .i64 x.f1.f2, .int .i64 x.f1.f3, .int .i64 x.f2, .slice X x.f3.length cx], .agg #[.int .i64 y.f0, .int .i64 y.f1, .int .i64 y.f2, .int .i64 y.f3]] W fun e w' => e = .returned (.bool (r x y)) ∧ Below W.heap.size W w') :
    Calls Try.prog 211 #[.slice A la.length ca, .slice B lb.length cb, .func (.func g) #[] #[]] w fun e w' => e = .returned (.bool (la.length == lb.length && eqL r la lb)) ∧ Below w.heap.size w w' := by
  have HA := Aside0.mk hA
  have HLB := Aside0.mk hB
  have HC := Aside0.mk hcall
  have HB := Aside0.mk (Below.refl w.heap.size w)
  have HL := Aside0.mk (show la.length ≤ 9223372036854775807 from hA.2.1)
  clear hA hB hcall
  by_cases hl : la.length = lb.length
  · have hl1 : ((la.length : Int) != (lb.length : Int)) = false := by simp [hl]
    have hl2 : (la.length == lb.length) = true := by simp [hl]
    rw [hl2, Bool.true_and]
    have HE := Aside0.mk hl
    clear hl hl2
    go_enter Try.func211, Try.ntmps211
    go_wp2
    go_loopg [17] la.length (fun gg v17 wr => ∃ (kk : Nat), kk ≤ la.length ∧ la.length - kk ≤ gg ∧ v17 = .int .i64 kk ∧ Aside0 (eqL r la lb = eqL r (la.drop kk) (lb.drop kk)) ∧ Aside0 (Below w.heap.size w wr))
    case atStart => exact ⟨0, Nat.zero_le _, by omega, rfl, ⟨by simp⟩, HB⟩
    case round =>
      clear HB
      obtain ⟨kk, hkk, hgg, rfl, HS, HB⟩ := hrel
      by_cases hlt : kk < la.length
      · have hltz : (kk : Int) < (la.length : Int) := by omega
        have hltb : (kk : Int) < (lb.length : Int) := by have := HE.out; omega
        have hw : wrap64 ((kk : Int) + 1) = ((kk + 1 : Nat) : Int) := by unfold wrap64; have := HL.out; omega
        have HX := Aside0.mk (eqL_at r z26 z23 la lb kk hlt (by omega))
        have hmem : rd_T26 la (kk : Int) ∈ la := scan_mem z26 la kk hlt
        obtain ⟨cd, X, cx, rfl, c0, c1, c2, c3, c4, c5, c6, cl, cg⟩ := at_T26 HA.out (kk : Int) (by omega) hltz
        obtain ⟨dd, rfl, d0, d1, d2, d3⟩ := at_T23 HLB.out (kk : Int) (by omega) hltb
        simp only [Int.toNat_natCast] at c0 c1 c2 c3 c4 c5 c6 d0 d1 d2 d3
        replace c0 := (HB.out.cell (World.block_lt_of_cell? w _ c0)).trans c0
        replace c1 := (HB.out.cell (World.block_lt_of_cell? w _ c1)).trans c1
        replace c2 := (HB.out.cell (World.block_lt_of_cell? w _ c2)).trans c2
        replace c3 := (HB.out.cell (World.block_lt_of_cell? w _ c3)).trans c3
        replace c4 := (HB.out.cell (World.block_lt_of_cell? w _ c4)).trans c4
        replace c5 := (HB.out.cell (World.block_lt_of_cell? w _ c5)).trans c5
        replace c6 := (HB.out.cell (World.block_lt_of_cell? w _ c6)).trans c6
        have D0 := Aside0.mk d0
        have D1 := Aside0.mk d1
        have D2 := Aside0.mk d2
        have D3 := Aside0.mk d3
        clear d0 d1 d2 d3
        have HX := Aside0.mk (show eqL r (la.drop kk) (lb.drop kk) = (r (rd_T26 la (kk : Int)) (rd_T23 lb (kk : Int)) && eqL r (la.drop (kk + 1)) (lb.drop (kk + 1))) from HX.out)
        have cG := Aside0.mk cg
        have cL := Aside0.mk cl
        clear cg cl
        have HM := Aside0.mk hmem
        clear hmem
        generalize rd_T26 la (kk : Int) = x at *
        generalize rd_T23 lb (kk : Int) = y at *
        have HCx := Aside0.mk (fun W hW => HC.out W x X cx y HM.out hW cG.out cL.out )
        have HW := Aside0.mk hw
        have HKK := Aside0.mk (show kk + 1 ≤ la.length from hlt)
        have HGG := Aside0.mk hgg
        clear hw hlt hgg hkk HM
        go_wp2_with (first
          | ((with_reducible refine gate_dst (N := 8) rfl ?_); refine box_event ?hg (N := 8) ?hd (cs := #[.int .u8 0, .int .i64 0, .int .i64 0, .int .i64 0, .int .i64 0, .int .i64 0, .slice none 0 0]) (t := 26) ?hr ?_; (case hd => rfl); (case hg => rfl); (case hr => first | (go_simp; done) | (go_simp; rfl)); intro b8 hg wb8 hbox hb; have K8 := Aside0.mk hbox; have G8 := Aside0.mk (show w.heap.size ≤ b8 by rw [hg]; exact HB.out.size); have q_ := Aside0.mk (below_step HB.out hb); clear HB; have HB := q_; clear q_; clear hb hbox hg)
          | ((with_reducible refine gate_ (.store 26 (.tmp 8) (.tmp 21)) rfl ?_); go_loud (refine box_store (w0 := w) rfl rfl 26 (.tmp 8) (.tmp 21) rfl (g := b8) (j := 0) (base := w.heap.size) #[.int .u8 x.f0, .int .i64 x.f1.f0, .int .i64 x.f1.f1, .int .i64 x.f1.f2, .int .i64 x.f1.f3, .int .i64 x.f2, .slice X x.f3.length cx] (u := .agg #[.int .u8 x.f0, .int .i64 x.f1.f0, .int .i64 x.f1.f1, .int .i64 x.f1.f2, .int .i64 x.f1.f3, .int .i64 x.f2, .slice X x.f3.length cx]) (seg := [.int .u8 x.f0, .int .i64 x.f1.f0, .int .i64 x.f1.f1, .int .i64 x.f1.f2, .int .i64 x.f1.f3, .int .i64 x.f2, .slice X x.f3.length cx]) ?sA ?sX rfl ?sT ?s1 K8.out ?sJ rfl HB.out HB.out.size G8.out ?_; (case sA => rfl); (case sX => rfl); (case sT => rfl); (case s1 => (simp [Value.oneCell'])); (case sJ => (first | decide | simp)); intro ws8 hbk hbb hgg; clear K8 HB; have K8 := Aside0.mk hbk; have HB := Aside0.mk hbb; clear hbk hbb hgg; clear c0 c1 c2 c3 c4 c5 c6; have d0 := (HB.out.cell (World.block_lt_of_cell? w _ D0.out)).trans D0.out; have d1 := (HB.out.cell (World.block_lt_of_cell? w _ D1.out)).trans D1.out; have d2 := (HB.out.cell (World.block_lt_of_cell? w _ D2.out)).trans D2.out; have d3 := (HB.out.cell (World.block_lt_of_cell? w _ D3.out)).trans D3.out))
          | ((with_reducible refine gate_dst (N := 9) rfl ?_); refine box_event ?hg (N := 9) ?hd (cs := #[.int .i64 0, .int .i64 0, .int .i64 0, .int .i64 0]) (t := 23) ?hr ?_; (case hd => rfl); (case hg => rfl); (case hr => first | (go_simp; done) | (go_simp; rfl)); intro b9 hg wb9 hbox hb; have K9 := Aside0.mk hbox; have G9 := Aside0.mk (show w.heap.size ≤ b9 by rw [hg]; exact HB.out.size); have NE := Aside0.mk (show b8 ≠ b9 by rw [hg]; exact Nat.ne_of_lt (blk_lt K8.out)); have q8_ := Aside0.mk (blk_below K8.out hb); clear K8; have K8 := q8_; clear q8_; have q_ := Aside0.mk (below_step HB.out hb); clear HB; have HB := q_; clear q_; clear hb hbox hg d0 d1 d2 d3)
          | ((with_reducible refine gate_ (.store 23 (.tmp 9) (.tmp 25)) rfl ?_); go_loud (refine box_store (w0 := w) rfl rfl 23 (.tmp 9) (.tmp 25) rfl (g := b9) (j := 0) (base := w.heap.size) #[.int .i64 y.f0, .int .i64 y.f1, .int .i64 y.f2, .int .i64 y.f3] (u := .agg #[.int .i64 y.f0, .int .i64 y.f1, .int .i64 y.f2, .int .i64 y.f3]) (seg := [.int .i64 y.f0, .int .i64 y.f1, .int .i64 y.f2, .int .i64 y.f3]) ?sA ?sX rfl ?sT ?s1 K9.out ?sJ rfl HB.out HB.out.size G9.out ?_; (case sA => rfl); (case sX => rfl); (case sT => rfl); (case s1 => (simp [Value.oneCell'])); (case sJ => (first | decide | simp)); intro ws9 hbk hbb hgg; have q8_ := Aside0.mk (blk_grown K8.out hgg (fun e_ => absurd (Option.some.inj e_) NE.out)); clear K8; have K8 := q8_; clear q8_; clear K9 HB; have K9 := Aside0.mk hbk; have HB := Aside0.mk hbb; clear hbk hbb hgg; have e0 := (blk_cell K8.out 0).trans rfl; have e1 := (blk_cell K8.out 1).trans rfl; have e2 := (blk_cell K8.out 2).trans rfl; have e3 := (blk_cell K8.out 3).trans rfl; have e4 := (blk_cell K8.out 4).trans rfl; have e5 := (blk_cell K8.out 5).trans rfl; have e6 := (blk_cell K8.out 6).trans rfl; have f0 := (blk_cell K9.out 0).trans rfl; have f1 := (blk_cell K9.out 1).trans rfl; have f2 := (blk_cell K9.out 2).trans rfl; have f3 := (blk_cell K9.out 3).trans rfl))
          | fail)
        clear e0 e1 e2 e3 e4 e5 e6 f0 f1 f2 f3 K8 K9 NE G8 G9
        refine (HCx.out _ HB.out).mono ?_
        rintro e w' ⟨rfl, hb⟩
        have q_ := Aside0.mk (below_step HB.out hb); clear HB; have HB := q_; clear q_
        clear hb
        cases hq : r x y with
        | true =>
          have HQ := Aside0.mk hq
          clear hq
          go_wp2
          go_roundg (la.length - (kk + 1))
          case measure => have h1 := HGG.out; have h2 := HKK.out; omega
          case rel => exact ⟨kk + 1, HKK.out, Nat.le_refl _, (by rw [HW.out]), ⟨by rw [HS.out, HX.out, HQ.out, Bool.true_and]⟩, HB⟩
        | false =>
          have HQ := Aside0.mk hq
          clear hq
          go_wp2
          go_ret
          rw [HS.out, HX.out, HQ.out, Bool.false_and]
          exact ⟨rfl, HB.out⟩
      · have hltz : ¬ (kk : Int) < (la.length : Int) := by omega
        go_wp2
        go_ret
        rw [HS.out, List.drop_eq_nil_of_le (by omega), eqL_nil]
        exact ⟨rfl, HB.out⟩
  · have hl1 : ((la.length : Int) != (lb.length : Int)) = true := by simp; omega
    have hl2 : (la.length == lb.length) = false := by simp [hl]
    rw [hl2, Bool.false_and]
    clear hl hl2
    go_enter Try.func211, Try.ntmps211
    go_wp2
    go_ret
    exact ⟨rfl, HB.out⟩
end Go.Proofs.Ytfdmfgaiblfbhaa.P
/- A tree's cells and their number: plain data. -/
namespace Go.Proofs.Ytfdmfgaiblfbhaa.P
open Go.RowKit Go.Proofs.YtfdmfgaiblfbhaaW.PrintWords Go.Proofs.YtfdmfgaiblfbhaaW.PrintLast Go.Proofs.YtfdmfgaiblfbhaaW.PrintMore

mutual
def allC : S26 → List S26
  | ⟨a, b, d, l⟩ => ⟨a, b, d, l⟩ :: allL l
def allL : List S26 → List S26
  | [] => []
  | c :: cs => allC c ++ allL cs
end
theorem allC_eq (c : S26) : allC c = c :: allL c.f3 := by cases c; simp [allC]
theorem allL_nil : allL [] = [] := by simp [allL]
theorem allL_cons (c : S26) (cs : List S26) : allL (c :: cs) = allC c ++ allL cs := by simp [allL]
theorem allL_app (a b : List S26) : allL (a ++ b) = allL a ++ allL b := by
  induction a with
  | nil => simp [allL_nil]
  | cons x xs ih => rw [List.cons_append, allL_cons, allL_cons, ih, List.append_assoc]
def sz (c : S26) : Nat := (allC c).length
def szL (l : List S26) : Nat := (allL l).length
theorem sz_eq (c : S26) : sz c = 1 + szL c.f3 := by unfold sz szL; rw [allC_eq, List.length_cons]; omega
theorem szL_nil : szL [] = 0 := by unfold szL; rw [allL_nil]; rfl
theorem szL_cons (c : S26) (cs : List S26) : szL (c :: cs) = sz c + szL cs := by unfold szL sz; rw [allL_cons, List.length_append]
theorem szL_app (a b : List S26) : szL (a ++ b) = szL a + szL b := by unfold szL; rw [allL_app, List.length_append]
theorem szL_len (l : List S26) : l.length ≤ szL l := by
  induction l with
  | nil => simp
  | cons x xs ih => rw [szL_cons, List.length_cons, sz_eq]; omega
theorem eta26 (c : S26) : (⟨c.f0, ⟨c.f1.f0, c.f1.f1, c.f1.f2, c.f1.f3⟩, c.f2, c.f3⟩ : S26) = c := by cases c; rfl
end Go.Proofs.Ytfdmfgaiblfbhaa.P
namespace Go.Proofs.Ytfdmfgaiblfbhaa.P
open Go.RowKit Go.Proofs.YtfdmfgaiblfbhaaW.PrintWords Go.Proofs.YtfdmfgaiblfbhaaW.PrintLast Go.Proofs.YtfdmfgaiblfbhaaW.PrintMore
attribute [local go_sem] max2_int min2_int max_two min_two max_three min_three max_four min_four   -- for this text's walks alone
set_option linter.unusedVariables false
set_option linter.unusedSimpArgs false

/-! ### sashref05_All: function 79 -/
mutual
def sashref05_All.l0 : Nat → List (S26) → Int → Int → Int → Int → Int → Int → Int → Int → List (S26) → Option ((List (S26)))
 | 0, _, _, _, _, _, _, _, _, _, _ => none
 | k + 1, x3, x9, x10, x132000, x132001, x132002, x132003, x132004, x132005, x132006 => if x10 < x9 then (if 0 ≤ x10 then (if x10 < (x132006.length : Int) then ((sashref05_All.f k ((rd_T26 x132006 x10).f0) ((rd_T26 x132006 x10).f1.f0) ((rd_T26 x132006 x10).f1.f1) ((rd_T26 x132006 x10).f1.f2) ((rd_T26 x132006 x10).f1.f3) ((rd_T26 x132006 x10).f2) ((rd_T26 x132006 x10).f3)).bind fun t136 => (if x3.length + t136.length < 1954687338268 then (sashref05_All.l0 k (x3 ++ t136) x9 (wrap64 (x10 + 1)) x132000 x132001 x132002 x132003 x132004 x132005 x132006) else (none))) else (none)) else (none)) else (some x3)
def sashref05_All.f : Nat → Int → Int → Int → Int → Int → Int → List (S26) → Option ((List (S26)))
 | 0, _, _, _, _, _, _, _ => none
 | k + 1, a0_0, a0_1, a0_2, a0_3, a0_4, a0_5, l0_6 => sashref05_All.l0 k (([(⟨a0_0, (⟨a0_1, a0_2, a0_3, a0_4⟩ : S23), a0_5, l0_6⟩ : S26)] : List (S26))) (l0_6.length : Int) 0 a0_0 a0_1 a0_2 a0_3 a0_4 a0_5 l0_6
end
theorem sashref05_All.mono_l : ∀ k, (∀ y0 y1 y2 y3 y4 y5 y6, LeO (sashref05_All.f k y0 y1 y2 y3 y4 y5 y6) (sashref05_All.f (k + 1) y0 y1 y2 y3 y4 y5 y6)) ∧ (∀ y0 y1 y2 y3 y4 y5 y6 y7 y8 y9, LeO (sashref05_All.l0 k y0 y1 y2 y3 y4 y5 y6 y7 y8 y9) (sashref05_All.l0 (k + 1) y0 y1 y2 y3 y4 y5 y6 y7 y8 y9))
 | 0 => ⟨fun _ _ _ _ _ _ _ r h => by simp [sashref05_All.f] at h, fun _ _ _ _ _ _ _ _ _ _ r h => by simp [sashref05_All.l0] at h⟩
 | k + 1 => by
  obtain ⟨ih0, ih1⟩ := sashref05_All.mono_l k
  refine ⟨?_, ?_⟩
  ·intro y0 y1 y2 y3 y4 y5 y6
   unfold sashref05_All.f
   repeat' first
   | (with_reducible exact ih0 _ _ _ _ _ _ _)
   | (with_reducible exact ih1 _ _ _ _ _ _ _ _ _ _)
   | (with_reducible exact LeO.refl _)
   | (with_reducible exact LeO.none _)
   | (with_reducible refine LeO.ite ?_ ?_)
   | (with_reducible refine LeO.bind ?_ (fun _ => ?_))
   | exact ih0 _ _ _ _ _ _ _
   | exact ih1 _ _ _ _ _ _ _ _ _ _
   | exact LeO.none _
   | refine LeO.ite ?_ ?_
   | refine LeO.bind ?_ (fun _ => ?_)
  ·intro y0 y1 y2 y3 y4 y5 y6 y7 y8 y9
   unfold sashref05_All.l0
   repeat' first
   | (with_reducible exact ih0 _ _ _ _ _ _ _)
   | (with_reducible exact ih1 _ _ _ _ _ _ _ _ _ _)
   | (with_reducible exact LeO.refl _)
   | (with_reducible exact LeO.none _)
   | (with_reducible refine LeO.ite ?_ ?_)
   | (with_reducible refine LeO.bind ?_ (fun _ => ?_))
   | exact ih0 _ _ _ _ _ _ _
   | exact ih1 _ _ _ _ _ _ _ _ _ _
   | exact LeO.none _
   | refine LeO.ite ?_ ?_
   | refine LeO.bind ?_ (fun _ => ?_)
theorem sashref05_All.mono : ∀ a0 a1 a2 a3 a4 a5 a6 k, LeO (sashref05_All.f k a0 a1 a2 a3 a4 a5 a6) (sashref05_All.f (k + 1) a0 a1 a2 a3 a4 a5 a6) := by
 intro a0 a1 a2 a3 a4 a5 a6 k
 obtain ⟨ih0, ih1⟩ := sashref05_All.mono_l k
 exact ih0 a0 a1 a2 a3 a4 a5 a6
end Go.Proofs.Ytfdmfgaiblfbhaa.P
namespace Go.Proofs.Ytfdmfgaiblfbhaa.P
open Go.RowKit Go.Proofs.YtfdmfgaiblfbhaaW.PrintWords Go.Proofs.YtfdmfgaiblfbhaaW.PrintLast Go.Proofs.YtfdmfgaiblfbhaaW.PrintMore
attribute [local go_sem] max2_int min2_int max_two min_two max_three min_three max_four min_four   -- for this text's walks alone
set_option linter.unusedVariables false
set_option linter.unusedSimpArgs false

/-! ### sashref05_Leaves: function 126 -/
def sashref05_Leaves.l0 : Nat → List (S26) → List (S26) → Int → Int → Option ((List (S26)))
 | 0, _, _, _, _ => none
 | k + 1, x3, x4, x10, x11 => if x11 < x10 then (if 0 ≤ x11 then (if x11 < (x4.length : Int) then (if ((rd_T26 x4 x11).f0) = 1 then (if x3.length < 1954687338268 then (sashref05_Leaves.l0 k (x3 ++ [(⟨(rd_T26 x4 x11).f0, (⟨(rd_T26 x4 x11).f1.f0, (rd_T26 x4 x11).f1.f1, (rd_T26 x4 x11).f1.f2, (rd_T26 x4 x11).f1.f3⟩ : S23), (rd_T26 x4 x11).f2, (rd_T26 x4 x11).f3⟩ : S26)]) x4 x10 (wrap64 (x11 + 1))) else (none)) else (sashref05_Leaves.l0 k x3 x4 x10 (wrap64 (x11 + 1)))) else (none)) else (none)) else (some x3)
def sashref05_Leaves.f (k : Nat) (a0_0 : Int) (a0_1 : Int) (a0_2 : Int) (a0_3 : Int) (a0_4 : Int) (a0_5 : Int) (l0_6 : List (S26)) : Option ((List (S26))) := (sashref05_All.f k a0_0 a0_1 a0_2 a0_3 a0_4 a0_5 l0_6).bind fun t146 => (sashref05_Leaves.l0 k (([] : List (S26))) t146 (t146.length : Int) 0)
theorem sashref05_Leaves.mono_l : ∀ k, (∀ y0 y1 y2 y3, LeO (sashref05_Leaves.l0 k y0 y1 y2 y3) (sashref05_Leaves.l0 (k + 1) y0 y1 y2 y3))
 | 0 => fun _ _ _ _ r h => by simp [sashref05_Leaves.l0] at h
 | k + 1 => by
  have ih0 := sashref05_Leaves.mono_l k
  ·intro y0 y1 y2 y3
   unfold sashref05_Leaves.l0
   repeat' first
   | (with_reducible exact ih0 _ _ _ _)
   | (with_reducible exact sashref05_All.mono _ _ _ _ _ _ _ _)
   | (with_reducible exact LeO.refl _)
   | (with_reducible exact LeO.none _)
   | (with_reducible refine LeO.ite ?_ ?_)
   | (with_reducible refine LeO.bind ?_ (fun _ => ?_))
   | exact ih0 _ _ _ _
   | exact sashref05_All.mono _ _ _ _ _ _ _ _
   | exact LeO.none _
   | refine LeO.ite ?_ ?_
   | refine LeO.bind ?_ (fun _ => ?_)
theorem sashref05_Leaves.mono : ∀ a0 a1 a2 a3 a4 a5 a6 k, LeO (sashref05_Leaves.f k a0 a1 a2 a3 a4 a5 a6) (sashref05_Leaves.f (k + 1) a0 a1 a2 a3 a4 a5 a6) := by
 intro a0 a1 a2 a3 a4 a5 a6 k
 have ih0 := sashref05_Leaves.mono_l k
 unfold sashref05_Leaves.f
 repeat' first
   | (with_reducible exact ih0 _ _ _ _)
   | (with_reducible exact sashref05_All.mono _ _ _ _ _ _ _ _)
   | (with_reducible exact LeO.refl _)
   | (with_reducible exact LeO.none _)
   | (with_reducible refine LeO.ite ?_ ?_)
   | (with_reducible refine LeO.bind ?_ (fun _ => ?_))
   | exact ih0 _ _ _ _
   | exact sashref05_All.mono _ _ _ _ _ _ _ _
   | exact LeO.none _
   | refine LeO.ite ?_ ?_
   | refine LeO.bind ?_ (fun _ => ?_)
end Go.Proofs.Ytfdmfgaiblfbhaa.P
/- Trees of cells: their size, their cells, their leaves, their panes: the reference's functions, as plain data. -/
namespace Go.Proofs.Ytfdmfgaiblfbhaa.P
open Go.RowKit Go.Proofs.YtfdmfgaiblfbhaaW.PrintWords Go.Proofs.YtfdmfgaiblfbhaaW.PrintLast Go.Proofs.YtfdmfgaiblfbhaaW.PrintMore

theorem rd26_in (pre : List S26) (p : S26) (rest : List S26) : rd_T26 (pre ++ p :: rest) (pre.length : Int) = p := by
  simp [rd_T26, List.getD_eq_getElem?_getD]
theorem up_in {α : Type} (pre : List α) (p : α) (rest : List α) (h : (pre ++ p :: rest).length ≤ 9223372036854775807) : wrap64 ((pre.length : Int) + 1) = ((pre ++ [p]).length : Int) := by
  simp only [List.length_append, List.length_cons, List.length_nil] at h ⊢
  rw [wq (by omega) (by omega)]
  omega

/-- ALL CELLS. -/
theorem all_cells : ∀ (N : Nat) (c : S26), sz c ≤ N → N ≤ 1048576 → Ev (fun k => sashref05_All.f k c.f0 c.f1.f0 c.f1.f1 c.f1.f2 c.f1.f3 c.f2 c.f3) (allC c) := by
  intro N
  induction N with
  | zero => intro c h _; rw [sz_eq] at h; omega
  | succ N ih =>
    intro c hc hN
    have hs := sz_eq c
    have key : ∀ (rest pre : List S26), pre ++ rest = c.f3 → Ev (fun k => sashref05_All.l0 k (c :: allL pre) (c.f3.length : Int) (pre.length : Int) c.f0 c.f1.f0 c.f1.f1 c.f1.f2 c.f1.f3 c.f2 c.f3) (allC c) := by
      intro rest
      induction rest with
      | nil =>
        intro pre hp
        rw [List.append_nil] at hp
        refine Ev.step (f := fun _ => some (allC c)) (fun k => ?_) (Ev.now _)
        simp only [sashref05_All.l0]
        rw [if_neg (by rw [hp]; omega), hp, allC_eq]
      | cons x xs ihr =>
        intro pre hp
        have hl : (pre.length : Int) < (c.f3.length : Int) := by rw [← hp, List.length_append, List.length_cons]; omega
        have hlen := szL_len c.f3
        have hsum : szL c.f3 = szL pre + (sz x + szL xs) := by rw [← hp, szL_app, szL_cons]
        have e2 := ihr (pre ++ [x]) (by rw [List.append_assoc]; exact hp)
        have hr : rd_T26 c.f3 (pre.length : Int) = x := by rw [← hp]; exact rd26_in pre x xs
        have hu : wrap64 ((pre.length : Int) + 1) = ((pre ++ [x]).length : Int) := up_in pre x xs (by rw [hp]; omega)
        have ha : c :: allL (pre ++ [x]) = (c :: allL pre) ++ allC x := by rw [allL_app, allL_cons, allL_nil, List.append_nil, List.cons_append]
        have hb : (c :: allL pre).length + (allC x).length < 1954687338268 := by
          have h1 : (allL pre).length = szL pre := rfl
          have h2 : (allC x).length = sz x := rfl
          rw [List.length_cons, h1, h2]
          omega
        rw [ha] at e2
        refine Ev.step (f := fun k => (sashref05_All.f k x.f0 x.f1.f0 x.f1.f1 x.f1.f2 x.f1.f3 x.f2 x.f3).bind fun t => (if (c :: allL pre).length + t.length < 1954687338268 then (sashref05_All.l0 k ((c :: allL pre) ++ t) (c.f3.length : Int) (wrap64 ((pre.length : Int) + 1)) c.f0 c.f1.f0 c.f1.f1 c.f1.f2 c.f1.f3 c.f2 c.f3) else none)) (fun k => ?_) (Ev.bind (ih x (by omega) (by omega)) (ev_pos hb ?_))
        · simp only [sashref05_All.l0]
          rw [if_pos hl, if_pos (by omega), if_pos hl, hr]
        · rw [hu]
          exact e2
    refine Ev.step (fun k => ?_) (key c.f3 [] rfl)
    simp only [sashref05_All.f, allL_nil, eta26]
    rfl

/-- The leaves. -/
def leavesC (c : S26) : List S26 := (allC c).filter fun x => decide (x.f0 = 1)
theorem leaves_len (c : S26) : (leavesC c).length ≤ sz c := List.length_filter_le _ _
theorem leaves_ev (c : S26) (h : sz c ≤ 1048576) : Ev (fun k => sashref05_Leaves.f k c.f0 c.f1.f0 c.f1.f1 c.f1.f2 c.f1.f3 c.f2 c.f3) (leavesC c) := by
  unfold sashref05_Leaves.f
  refine Ev.bind (all_cells _ c h (Nat.le_refl _)) ?_
  have key : ∀ (rest pre : List S26), pre ++ rest = allC c → Ev (fun k => sashref05_Leaves.l0 k (pre.filter fun x => decide (x.f0 = 1)) (allC c) ((allC c).length : Int) (pre.length : Int)) (leavesC c) := by
    intro rest
    induction rest with
    | nil =>
      intro pre hp
      rw [List.append_nil] at hp
      refine Ev.step (f := fun _ => some (leavesC c)) (fun k => ?_) (Ev.now _)
      simp only [sashref05_Leaves.l0]
      rw [if_neg (by rw [hp]; omega), hp]
      rfl
    | cons x xs ihr =>
      intro pre hp
      have hsz : (allC c).length ≤ 1048576 := h
      have hl : (pre.length : Int) < ((allC c).length : Int) := by rw [← hp, List.length_append, List.length_cons]; omega
      have e2 := ihr (pre ++ [x]) (by rw [List.append_assoc]; exact hp)
      have hr : rd_T26 (allC c) (pre.length : Int) = x := by rw [← hp]; exact rd26_in pre x xs
      have hu : wrap64 ((pre.length : Int) + 1) = ((pre ++ [x]).length : Int) := up_in pre x xs (by rw [hp]; omega)
      have hb : (pre.filter fun x => decide (x.f0 = 1)).length < 1954687338268 := by
        have := List.length_filter_le (fun x : S26 => decide (x.f0 = 1)) pre
        omega
      rw [List.filter_append] at e2
      refine Ev.step (fun k => ?_) e2
      simp only [sashref05_Leaves.l0]
      rw [if_pos hl, if_pos (by omega), if_pos hl, hr, hu]
      by_cases h1 : x.f0 = 1
      · rw [if_pos h1, if_pos hb, List.filter_cons_of_pos (by simpa using h1), eta26]
        rfl
      · rw [if_neg h1, List.filter_cons_of_neg (by simpa using h1), List.filter_nil, List.append_nil]
  exact key (allC c) [] rfl
end Go.Proofs.Ytfdmfgaiblfbhaa.P
namespace Go.Proofs.Ytfdmfgaiblfbhaa.P
open Go.RowKit Go.Proofs.YtfdmfgaiblfbhaaW.PrintWords Go.Proofs.YtfdmfgaiblfbhaaW.PrintLast Go.Proofs.YtfdmfgaiblfbhaaW.PrintMore
attribute [local go_sem] max2_int min2_int max_two min_two max_three min_three max_four min_four   -- for this text's walks alone
set_option linter.unusedVariables false
set_option linter.unusedSimpArgs false

attribute [local go_sem high] eqA23
/-! ### sashref05_Same: function 64 -/
mutual
def sashref05_Same.j0 : Nat → Bool → Int → Int → Int → Int → Int → Int → List (S26) → Int → Int → Int → Int → Int → Int → List (S26) → Option (Bool)
 | 0, _, _, _, _, _, _, _, _, _, _, _, _, _, _, _ => none
 | k + 1, x33, x601000, x601001, x601002, x601003, x601004, x601005, x601006, x602000, x602001, x602002, x602003, x602004, x602005, x602006 => if x33 = true then (some false) else (sashref05_Same.l0 k (x601006.length : Int) 0 x601000 x601001 x601002 x601003 x601004 x601005 x601006 x602000 x602001 x602002 x602003 x602004 x602005 x602006)
def sashref05_Same.l0 : Nat → Int → Int → Int → Int → Int → Int → Int → Int → List (S26) → Int → Int → Int → Int → Int → Int → List (S26) → Option (Bool)
 | 0, _, _, _, _, _, _, _, _, _, _, _, _, _, _, _, _ => none
 | k + 1, x36, x37, x601000, x601001, x601002, x601003, x601004, x601005, x601006, x602000, x602001, x602002, x602003, x602004, x602005, x602006 => if x37 < x36 then (if 0 ≤ x37 then (if x37 < (x601006.length : Int) then (if x37 < (x602006.length : Int) then ((sashref05_Same.f k ((rd_T26 x601006 x37).f0) ((rd_T26 x601006 x37).f1.f0) ((rd_T26 x601006 x37).f1.f1) ((rd_T26 x601006 x37).f1.f2) ((rd_T26 x601006 x37).f1.f3) ((rd_T26 x601006 x37).f2) ((rd_T26 x601006 x37).f3) ((rd_T26 x602006 x37).f0) ((rd_T26 x602006 x37).f1.f0) ((rd_T26 x602006 x37).f1.f1) ((rd_T26 x602006 x37).f1.f2) ((rd_T26 x602006 x37).f1.f3) ((rd_T26 x602006 x37).f2) ((rd_T26 x602006 x37).f3)).bind fun t604 => (if t604 = true then (sashref05_Same.l0 k x36 (wrap64 (x37 + 1)) x601000 x601001 x601002 x601003 x601004 x601005 x601006 x602000 x602001 x602002 x602003 x602004 x602005 x602006) else (some false))) else (none)) else (none)) else (none)) else (some true)
def sashref05_Same.f : Nat → Int → Int → Int → Int → Int → Int → List (S26) → Int → Int → Int → Int → Int → Int → List (S26) → Option (Bool)
 | 0, _, _, _, _, _, _, _, _, _, _, _, _, _, _ => none
 | k + 1, a0_0, a0_1, a0_2, a0_3, a0_4, a0_5, l0_6, a1_0, a1_1, a1_2, a1_3, a1_4, a1_5, l1_6 => if a0_0 = a1_0 then (if (!(a0_1 == a1_1) || (!(a0_2 == a1_2) || (!(a0_3 == a1_3) || (!(a0_4 == a1_4))))) = true then (sashref05_Same.j0 k true a0_0 a0_1 a0_2 a0_3 a0_4 a0_5 l0_6 a1_0 a1_1 a1_2 a1_3 a1_4 a1_5 l1_6) else (if a0_5 = a1_5 then (sashref05_Same.j0 k ((l0_6.length : Int) != (l1_6.length : Int)) a0_0 a0_1 a0_2 a0_3 a0_4 a0_5 l0_6 a1_0 a1_1 a1_2 a1_3 a1_4 a1_5 l1_6) else (sashref05_Same.j0 k true a0_0 a0_1 a0_2 a0_3 a0_4 a0_5 l0_6 a1_0 a1_1 a1_2 a1_3 a1_4 a1_5 l1_6))) else (sashref05_Same.j0 k true a0_0 a0_1 a0_2 a0_3 a0_4 a0_5 l0_6 a1_0 a1_1 a1_2 a1_3 a1_4 a1_5 l1_6)
end
def sashref05_Same.T6 : Bool × List (List Nat × List Nat) := (true, [([], []), ([0], [0]), ([], []), ([1, 2], [1, 2]), ([3], [3]), ([], []), ([5], [5]), ([], []), ([6, 7], [6, 7]), ([8], [8]), ([4, 9], [4, 9]), ([10], [10])])
def sashref05_Same.B6 : List Nat := [0, 1, 0, 7, 15, 0, 32, 0, 224, 480, 1023, 2047]
end Go.Proofs.Ytfdmfgaiblfbhaa.P
/- The reference's sameness of trees: plain data. -/
namespace Go.Proofs.Ytfdmfgaiblfbhaa.P
open Go.RowKit Go.Proofs.YtfdmfgaiblfbhaaW.PrintWords Go.Proofs.YtfdmfgaiblfbhaaW.PrintLast Go.Proofs.YtfdmfgaiblfbhaaW.PrintMore

def rectB (a b : S23) : Bool := a.f0 == b.f0 && (a.f1 == b.f1 && (a.f2 == b.f2 && a.f3 == b.f3))
mutual
def sameC : S26 → S26 → Bool
  | ⟨a, r, d, l⟩, ⟨a', r', d', l'⟩ => a == a' && (rectB r r' && (d == d' && (l.length == l'.length && sameL l l')))
def sameL : List S26 → List S26 → Bool
  | [], _ => true
  | _ :: _, [] => true
  | c :: cs, e :: es => sameC c e && sameL cs es
end
end Go.Proofs.Ytfdmfgaiblfbhaa.P
namespace Go.Proofs.Ytfdmfgaiblfbhaa.P
open Go.RowKit Go.Proofs.YtfdmfgaiblfbhaaW.PrintWords Go.Proofs.YtfdmfgaiblfbhaaW.PrintLast Go.Proofs.YtfdmfgaiblfbhaaW.PrintMore
attribute [local go_sem] max2_int min2_int max_two min_two max_three min_three max_four min_four   -- for this text's walks alone
set_option linter.unusedVariables false
set_option linter.unusedSimpArgs false

/-! ### tile_cut: function 210 -/
def tile_cut.l0 : Nat → List Int → List (S26) → Int → Int → Int → Int → Int → Int → Int → Int → List (S26) → Option ((List (S23)) × (List (S23)) × Bool)
 | 0, _, _, _, _, _, _, _, _, _, _, _ => none
 | k + 1, x5, x9, x10, x11, x1875000, x1875001, x1875002, x1875003, x1875004, x1875005, x1875006 => if x11 < x10 then (if 0 ≤ x11 then (if x11 < (x9.length : Int) then (if x1875000 = 2 then (if x5.length < 17592186044416 then (tile_cut.l0 k (x5 ++ [(rd_T26 x9 x11).f1.f2]) x9 x10 (wrap64 (x11 + 1)) x1875000 x1875001 x1875002 x1875003 x1875004 x1875005 x1875006) else (none)) else (if x5.length < 17592186044416 then (tile_cut.l0 k (x5 ++ [(rd_T26 x9 x11).f1.f3]) x9 x10 (wrap64 (x11 + 1)) x1875000 x1875001 x1875002 x1875003 x1875004 x1875005 x1875006) else (none))) else (none)) else (none)) else ((rect_Cut.f k x1875001 x1875002 x1875003 x1875004 ((((x1875000 - 2) % 256) + 1) % 256) x5).bind fun bt1883 => (some (bt1883.1, bt1883.2.1, bt1883.2.2)))
def tile_cut.f (k : Nat) (a0_0 : Int) (a0_1 : Int) (a0_2 : Int) (a0_3 : Int) (a0_4 : Int) (a0_5 : Int) (l0_6 : List (S26)) : Option ((List (S23)) × (List (S23)) × Bool) := tile_cut.l0 k ([] : List Int) l0_6 (l0_6.length : Int) 0 a0_0 a0_1 a0_2 a0_3 a0_4 a0_5 l0_6
set_option maxHeartbeats 8000000 in
set_option maxRecDepth 100000 in
theorem tile_cut.calls (k : Nat) (a0_0 : Int) (a0_1 : Int) (a0_2 : Int) (a0_3 : Int) (a0_4 : Int) (a0_5 : Int) (A0_6 : Option Addr) (c0_6 : Nat) (l0_6 : List (S26)) (r1 : List (S23)) (r2 : List (S23)) (r3 : Bool) (w : World) (hr0_6 : Kd.C k26 w A0_6 l0_6.length l0_6) (hc0_6 : l0_6.length ≤ c0_6) (h : tile_cut.f k a0_0 a0_1 a0_2 a0_3 a0_4 a0_5 l0_6 = some (r1, r2, r3)) :
  Calls Try.prog 210 #[.agg #[.int .u8 a0_0, .int .i64 a0_1, .int .i64 a0_2, .int .i64 a0_3, .int .i64 a0_4, .int .i64 a0_5, .slice A0_6 l0_6.length c0_6]] w fun e w' => ∃ v0_ v1_ : Value, e = .returned (.tuple #[v0_, v1_, .bool r3]) ∧ Kd.R k23 23 w' w.heap.size (fun k_ => some k_ ≠ (v1_ : Value).ownBlock) v0_ r1 ∧ Kd.R k23 23 w' w.heap.size (fun k_ => some k_ ≠ (v0_ : Value).ownBlock) v1_ r2 ∧ Below w.heap.size w w' := by
 have hu26 := Try.underlying26
 have hu23 := Try.underlying23
 have HR0_6 := Aside0.mk hr0_6
 have HC0_6 := Aside0.mk hc0_6
 clear hr0_6 hc0_6
 have HB := Aside0.mk (Below.refl w.heap.size w)
 have H : (tile_cut.l0 k ([] : List Int) l0_6 (l0_6.length : Int) 0 a0_0 a0_1 a0_2 a0_3 a0_4 a0_5 l0_6) = some (r1, r2, r3) := h
 clear h
 have H' := Aside0.mk H
 clear H
 go_enter Try.func210, Try.ntmps210
 go_wp2_with (first | ((with_reducible refine gate_dst (N := 1) rfl ?_); refine box_event ?hg (N := 1) ?hd (cs := #[.int .u8 a0_0, .int .i64 a0_1, .int .i64 a0_2, .int .i64 a0_3, .int .i64 a0_4, .int .i64 a0_5, .slice A0_6 l0_6.length c0_6]) (t := 26) ?hr ?_; (case hd => rfl); (case hg => rfl); (case hr => first | (go_simp; done) | (go_simp; rfl)); intro gb1874 hg w2 hbox hb; have n0_ := Aside0.mk (below_step (by repeat (first | (with_reducible first | exact HB.out | apply below_alloc | apply pw_below_drewN | apply below_drew1) | exact HB.out)) hb); have n1_ := Aside0.mk (hbox); have n2_ := Aside0.mk ((by rw [hg]; exact (below_size (by repeat (first | (with_reducible first | exact HB.out | apply below_alloc | apply pw_below_drewN | apply below_drew1) | exact HB.out))) : w.heap.size ≤ gb1874)); have n3_ := Aside0.mk ((by rw [hg]; exact (below_size (by repeat (first | (with_reducible first | exact HB.out | apply below_alloc | apply pw_below_drewN | apply below_drew1) | exact HB.out))) : w.heap.size ≤ gb1874)); clear HB; have HB := n0_; have BK1874 := n1_; have GW1874 := n2_; have GE1874 := n3_; clear n0_ n1_ n2_ n3_; clear hb hbox hg; have hcz3_0 : w2.cell? ⟨gb1874, 0, none⟩ = some (.int .u8 a0_0) := (blk_cell BK1874.out 0).trans rfl; have hcz3_1 : w2.cell? ⟨gb1874, 1, none⟩ = some (.int .i64 a0_1) := (blk_cell BK1874.out 1).trans rfl; have hcz3_2 : w2.cell? ⟨gb1874, 2, none⟩ = some (.int .i64 a0_2) := (blk_cell BK1874.out 2).trans rfl; have hcz3_3 : w2.cell? ⟨gb1874, 3, none⟩ = some (.int .i64 a0_3) := (blk_cell BK1874.out 3).trans rfl; have hcz3_4 : w2.cell? ⟨gb1874, 4, none⟩ = some (.int .i64 a0_4) := (blk_cell BK1874.out 4).trans rfl; have hcz3_5 : w2.cell? ⟨gb1874, 5, none⟩ = some (.int .i64 a0_5) := (blk_cell BK1874.out 5).trans rfl; have hcz3_6 : w2.cell? ⟨gb1874, 6, none⟩ = some (.slice A0_6 l0_6.length c0_6) := (blk_cell BK1874.out 6).trans rfl; have hfz3_0 := blk_frozen BK1874.out 0; have hfz3_1 := blk_frozen BK1874.out 1; have hfz3_2 := blk_frozen BK1874.out 2; have hfz3_3 := blk_frozen BK1874.out 3; have hfz3_4 := blk_frozen BK1874.out 4; have hfz3_5 := blk_frozen BK1874.out 5; have hfz3_6 := blk_frozen BK1874.out 6))
 go_loopg [5, 11] k (fun kq v5 v11 w' => ∃ (x5_1 : List Int) (x11_1 : Int), v11 = .int .i64 x11_1 ∧ Aside0 (tile_cut.l0 kq x5_1 l0_6 (l0_6.length : Int) x11_1 a0_0 a0_1 a0_2 a0_3 a0_4 a0_5 l0_6 = some (r1, r2, r3)) ∧ Aside0 (kq ≤ k) ∧ Aside0 (Kd.R (Kd.int .i64) 3 w' w.heap.size (fun _ => True) v5 x5_1) ∧ Aside0 (w'.heap[gb1874]? = some (.cells #[.int .u8 a0_0, .int .i64 a0_1, .int .i64 a0_2, .int .i64 a0_3, .int .i64 a0_4, .int .i64 a0_5, (.slice A0_6 l0_6.length c0_6)] 26 (0, 0))) ∧ Aside0 (Below w.heap.size w w'))
 case atStart => exact ⟨(([] : List Int)), (0), (by first | rfl | (simp; done) | (simp [*]; done)), H', ⟨Nat.le_refl _⟩, ⟨by first | exact Kd.R_nil _ _ _ _ _ | exact Kd.N_nil _ _ _ _ _ | exact Kd.V_nil _ _ _ _ _ | exact Kd.Q_nil _ _ _ _ _ | exact Kd.S_nil _ _ _ _ _⟩, ⟨by (with_reducible repeat (first | refine blk_drewN ?_ _ | refine blk_drew ?_ | refine blk_alloc ?_ _)); exact BK1874.out⟩, ⟨by repeat (first | (with_reducible first | exact HB.out | apply below_alloc | apply pw_below_drewN | apply below_drew1 | refine below_set ?_ GE1874.out) | exact HB.out)⟩⟩
 case round =>
  clear H'
  try clear c2
  try clear p2
  try clear hcz3_0
  try clear hcz3_1
  try clear hcz3_2
  try clear hcz3_3
  try clear hcz3_4
  try clear hcz3_5
  try clear hcz3_6
  try clear hfz3_0
  try clear hfz3_1
  try clear hfz3_2
  try clear hfz3_3
  try clear hfz3_4
  try clear hfz3_5
  try clear hfz3_6
  obtain ⟨x5_1, x11_1, rfl, HA, HK1, HO_5, BK1874, HB⟩ := hrel
  cases gk with
  | zero => exact absurd HA.out (by simp [tile_cut.l0])
  | succ k1 =>
   have H := HA.out
   clear HA
   simp only [tile_cut.l0] at H
   by_cases c4 : x11_1 < (l0_6.length : Int)
   ·rw [if_pos c4] at H
    have c4b0 : decide (x11_1 < (l0_6.length : Int)) = true := decide_eq_true c4
    clear c4
    by_cases c5 : 0 ≤ x11_1
    ·rw [if_pos c5] at H
     have c5b0 : decide (0 ≤ x11_1) = true := decide_eq_true c5
     clear c5
     by_cases c6 : x11_1 < (l0_6.length : Int)
     ·rw [if_pos c6] at H
      have c6b0 : decide (x11_1 < (l0_6.length : Int)) = true := decide_eq_true c6
      clear c6
      by_cases c7 : a0_0 = 2
      ·rw [if_pos c7] at H
       have c7b0 : (a0_0 == 2) = true := beq_iff_eq.mpr c7
       have c7b1 : (a0_0 != 2) = false := bne_eq_false_iff_eq.mpr c7
       clear c7
       by_cases c8 : x5_1.length < 17592186044416
       ·rw [if_pos c8] at H
        have LMc8 := Aside0.mk c8
        clear c8
        obtain ⟨y1877, hy1877⟩ : ∃ y_ : List Int, y_ = (x5_1 ++ [(rd_T26 l0_6 x11_1).f1.f2]) := ⟨_, rfl⟩
        replace H : (tile_cut.l0 k1 y1877 l0_6 (l0_6.length : Int) (wrap64 (x11_1 + 1)) a0_0 a0_1 a0_2 a0_3 a0_4 a0_5 l0_6) = some (r1, r2, r3) := by first | (rw [hy1877]; with_reducible exact H) | (have H2_ := (Option.bind_some _ _).symm.trans H; rw [hy1877]; with_reducible exact H2_) | (have H2_ := (Option.bind_some _ _).symm.trans H; with_reducible exact H2_) | with_reducible exact H | (rw [hy1877]; exact H) | exact H
        have Ny1877 := Aside0.mk hy1877
        clear hy1877
        have H' := Aside0.mk H
        clear H
        have p1875 : 0 ≤ (x11_1 : Int) := of_decide_eq_true (by first | (with_reducible assumption) | assumption)
        have q1875 : x11_1 < (l0_6.length : Int) := of_decide_eq_true (by first | (with_reducible assumption) | assumption)
        obtain ⟨ad1875, A1875_6, c1875_6, e1875, hx1875_0, hx1875_1, hx1875_2, hx1875_3, hx1875_4, hx1875_5, hx1875_6, hl1875_6, hi1875_6⟩ := at_T26 HR0_6.out x11_1 p1875 q1875
        cases e1875
        replace hx1875_0 := (HB.out.cell (World.block_lt_of_cell? w _ hx1875_0)).trans hx1875_0
        replace hx1875_1 := (HB.out.cell (World.block_lt_of_cell? w _ hx1875_1)).trans hx1875_1
        replace hx1875_2 := (HB.out.cell (World.block_lt_of_cell? w _ hx1875_2)).trans hx1875_2
        replace hx1875_3 := (HB.out.cell (World.block_lt_of_cell? w _ hx1875_3)).trans hx1875_3
        replace hx1875_4 := (HB.out.cell (World.block_lt_of_cell? w _ hx1875_4)).trans hx1875_4
        replace hx1875_5 := (HB.out.cell (World.block_lt_of_cell? w _ hx1875_5)).trans hx1875_5
        replace hx1875_6 := (HB.out.cell (World.block_lt_of_cell? w _ hx1875_6)).trans hx1875_6
        have HR1875_6 := Aside0.mk hi1875_6
        have HC1875_6 := Aside0.mk hl1875_6
        clear hi1875_6 hl1875_6
        replace p1875 := eq_true p1875
        replace q1875 := eq_true q1875
        go_wp2_with (first | ((with_reducible refine gate_dst (N := 7) rfl ?_); refine box_event ?hg (N := 7) ?hd (cs := #[.int .u8 0, .int .i64 0, .int .i64 0, .int .i64 0, .int .i64 0, .int .i64 0, .slice none 0 0]) (t := 26) ?hr ?_; (case hd => rfl); (case hg => rfl); (case hr => first | (go_simp; done) | (go_simp; rfl)); intro gb1876 hg w9 hbox hb; have n0_ := Aside0.mk (Kd.R_below (by (with_reducible repeat (first | apply Kd.R_alloc | apply Kd.R_drewN | apply Kd.R_drew)); exact HO_5.out) hb); have n1_ := Aside0.mk (blk_below (g := gb1874) (o := .cells #[.int .u8 a0_0, .int .i64 a0_1, .int .i64 a0_2, .int .i64 a0_3, .int .i64 a0_4, .int .i64 a0_5, .slice (some ad1875) l0_6.length c0_6] 26 (0, 0)) (by (with_reducible repeat (first | refine blk_drewN ?_ _ | refine blk_drew ?_ | refine blk_alloc ?_ _)); exact BK1874.out) hb); have n2_ := Aside0.mk (below_step (by repeat (first | (with_reducible first | exact HB.out | apply below_alloc | apply pw_below_drewN | apply below_drew1 | refine below_set ?_ GE1874.out) | exact HB.out)) hb); have n3_ := Aside0.mk (hbox); have n4_ := Aside0.mk ((by rw [hg]; exact (below_size (by repeat (first | (with_reducible first | exact HB.out | apply below_alloc | apply pw_below_drewN | apply below_drew1 | refine below_set ?_ GE1874.out) | exact HB.out))) : w.heap.size ≤ gb1876)); have n5_ := Aside0.mk ((by rw [hg]; exact (below_size (by repeat (first | (with_reducible first | exact HB.out | apply below_alloc | apply pw_below_drewN | apply below_drew1 | refine below_set ?_ GE1874.out) | exact HB.out))) : w.heap.size ≤ gb1876)); have n6_ := Aside0.mk ((by rw [hg]; exact Nat.ne_of_lt (blk_lt (g := gb1874) (o := .cells #[.int .u8 a0_0, .int .i64 a0_1, .int .i64 a0_2, .int .i64 a0_3, .int .i64 a0_4, .int .i64 a0_5, .slice (some ad1875) l0_6.length c0_6] 26 (0, 0)) (by (with_reducible repeat (first | refine blk_drewN ?_ _ | refine blk_drew ?_ | refine blk_alloc ?_ _)); exact BK1874.out)) : gb1874 ≠ gb1876)); have n7_ := Aside0.mk ((by rw [hg]; exact Nat.ne_of_gt (blk_lt (g := gb1874) (o := .cells #[.int .u8 a0_0, .int .i64 a0_1, .int .i64 a0_2, .int .i64 a0_3, .int .i64 a0_4, .int .i64 a0_5, .slice (some ad1875) l0_6.length c0_6] 26 (0, 0)) (by (with_reducible repeat (first | refine blk_drewN ?_ _ | refine blk_drew ?_ | refine blk_alloc ?_ _)); exact BK1874.out)) : gb1876 ≠ gb1874)); clear HO_5; clear BK1874; clear HB; have HO_5 := n0_; have BK1874 := n1_; have HB := n2_; have BK1876 := n3_; have GW1876 := n4_; have GE1876 := n5_; have NB1874_1876 := n6_; have NB1876_1874 := n7_; clear n0_ n1_ n2_ n3_ n4_ n5_ n6_ n7_; clear hb hbox hg; have hnb10 := NB1876_1874.out; have hnc10 := NB1874_1876.out; have hcz11_0 : w9.cell? ⟨gb1876, 0, none⟩ = some (.int .u8 0) := (blk_cell BK1876.out 0).trans rfl; have hcz11_1 : w9.cell? ⟨gb1876, 1, none⟩ = some (.int .i64 0) := (blk_cell BK1876.out 1).trans rfl; have hcz11_2 : w9.cell? ⟨gb1876, 2, none⟩ = some (.int .i64 0) := (blk_cell BK1876.out 2).trans rfl; have hcz11_3 : w9.cell? ⟨gb1876, 3, none⟩ = some (.int .i64 0) := (blk_cell BK1876.out 3).trans rfl; have hcz11_4 : w9.cell? ⟨gb1876, 4, none⟩ = some (.int .i64 0) := (blk_cell BK1876.out 4).trans rfl; have hcz11_5 : w9.cell? ⟨gb1876, 5, none⟩ = some (.int .i64 0) := (blk_cell BK1876.out 5).trans rfl; have hcz11_6 : w9.cell? ⟨gb1876, 6, none⟩ = some (.slice none 0 0) := (blk_cell BK1876.out 6).trans rfl; have hfz11_0 := blk_frozen BK1876.out 0; have hfz11_1 := blk_frozen BK1876.out 1; have hfz11_2 := blk_frozen BK1876.out 2; have hfz11_3 := blk_frozen BK1876.out 3; have hfz11_4 := blk_frozen BK1876.out 4; have hfz11_5 := blk_frozen BK1876.out 5; have hfz11_6 := blk_frozen BK1876.out 6; have hcz12_0 : w9.cell? ⟨gb1874, 0, none⟩ = some (.int .u8 a0_0) := (blk_cell BK1874.out 0).trans rfl; have hcz12_1 : w9.cell? ⟨gb1874, 1, none⟩ = some (.int .i64 a0_1) := (blk_cell BK1874.out 1).trans rfl; have hcz12_2 : w9.cell? ⟨gb1874, 2, none⟩ = some (.int .i64 a0_2) := (blk_cell BK1874.out 2).trans rfl; have hcz12_3 : w9.cell? ⟨gb1874, 3, none⟩ = some (.int .i64 a0_3) := (blk_cell BK1874.out 3).trans rfl; have hcz12_4 : w9.cell? ⟨gb1874, 4, none⟩ = some (.int .i64 a0_4) := (blk_cell BK1874.out 4).trans rfl; have hcz12_5 : w9.cell? ⟨gb1874, 5, none⟩ = some (.int .i64 a0_5) := (blk_cell BK1874.out 5).trans rfl; have hcz12_6 : w9.cell? ⟨gb1874, 6, none⟩ = some (.slice (some ad1875) l0_6.length c0_6) := (blk_cell BK1874.out 6).trans rfl; have hfz12_0 := blk_frozen BK1874.out 0; have hfz12_1 := blk_frozen BK1874.out 1; have hfz12_2 := blk_frozen BK1874.out 2; have hfz12_3 := blk_frozen BK1874.out 3; have hfz12_4 := blk_frozen BK1874.out 4; have hfz12_5 := blk_frozen BK1874.out 5; have hfz12_6 := blk_frozen BK1874.out 6) | ((with_reducible refine gate_builtin (b := .append) (xs := #[.tmp 18, .tmp 22]) rfl ?_); at_builtin; refine Kd.R_append (Kd.int .i64) (w0 := w) w.heap.size rfl (.tmp 18) (.tmp 22) 41 3 (.int .i64 0) 8 rfl Try.underlying41 info3 rfl (by decide) (by omega) u5 x5_1 ((rd_T26 l0_6 x11_1).f1.f2) [.int .i64 ((rd_T26 l0_6 x11_1).f1.f2)] (fun _ => True) (fun _ => False) rfl (by first | (go_simp; done) | (go_simp; rfl)) ?aP (fun _ hk => hk.elim) ?aF ?aO ?aB ?aS ?aL ?_; (case aP => exact rfl); (case aB => exact (by repeat (first | (with_reducible first | exact HB.out | apply below_alloc | apply pw_below_drewN | apply below_drew1 | refine below_set ?_ GE1874.out | refine below_set ?_ GE1876.out) | exact HB.out))); (case aF => exact (fun _ _ => trivial)); (case aO => exact (by (with_reducible repeat (first | apply Kd.R_alloc | apply Kd.R_drewN | apply Kd.R_drew)); exact Kd.R_mono (Kd.R_far (p := ⟨gb1876, 6, none⟩) (Kd.R_far (p := ⟨gb1876, 5, none⟩) (Kd.R_far (p := ⟨gb1876, 4, none⟩) (Kd.R_far (p := ⟨gb1876, 3, none⟩) (Kd.R_far (p := ⟨gb1876, 2, none⟩) (Kd.R_far (p := ⟨gb1876, 1, none⟩) (Kd.R_far (p := ⟨gb1876, 0, none⟩) (Kd.R_types HO_5.out BK1876.out (by decide)) (fun _ hk => hk.2) (.int .u8 ((rd_T26 l0_6 x11_1).f0))) (fun _ hk => hk.2) (.int .i64 ((rd_T26 l0_6 x11_1).f1.f0))) (fun _ hk => hk.2) (.int .i64 ((rd_T26 l0_6 x11_1).f1.f1))) (fun _ hk => hk.2) (.int .i64 ((rd_T26 l0_6 x11_1).f1.f2))) (fun _ hk => hk.2) (.int .i64 ((rd_T26 l0_6 x11_1).f1.f3))) (fun _ hk => hk.2) (.int .i64 ((rd_T26 l0_6 x11_1).f2))) (fun _ hk => hk.2) (.slice A1875_6 ((rd_T26 l0_6 x11_1).f3).length c1875_6)) (fun _ hk => trivial))); (case aS => exact (below_size (by repeat (first | (with_reducible first | exact HB.out | apply below_alloc | apply pw_below_drewN | apply below_drew1 | refine below_set ?_ GE1874.out | refine below_set ?_ GE1876.out) | exact HB.out)))); (case aL => have := LMc8.out; omega); intro v1878 w13 ho hb hg hat; rw [← Ny1877.out] at ho; have n0_ := Aside0.mk (blk_grown (g := gb1874) (o := .cells #[.int .u8 a0_0, .int .i64 a0_1, .int .i64 a0_2, .int .i64 a0_3, .int .i64 a0_4, .int .i64 a0_5, .slice (some ad1875) l0_6.length c0_6] 26 (0, 0)) (by (with_reducible repeat (first | refine blk_drewN ?_ _ | refine blk_drew ?_ | refine blk_alloc ?_ _)); refine blk_far ?_ NB1874_1876.out _; (with_reducible repeat (first | refine blk_drewN ?_ _ | refine blk_drew ?_ | refine blk_alloc ?_ _)); refine blk_far ?_ NB1874_1876.out _; (with_reducible repeat (first | refine blk_drewN ?_ _ | refine blk_drew ?_ | refine blk_alloc ?_ _)); refine blk_far ?_ NB1874_1876.out _; (with_reducible repeat (first | refine blk_drewN ?_ _ | refine blk_drew ?_ | refine blk_alloc ?_ _)); refine blk_far ?_ NB1874_1876.out _; (with_reducible repeat (first | refine blk_drewN ?_ _ | refine blk_drew ?_ | refine blk_alloc ?_ _)); refine blk_far ?_ NB1874_1876.out _; (with_reducible repeat (first | refine blk_drewN ?_ _ | refine blk_drew ?_ | refine blk_alloc ?_ _)); refine blk_far ?_ NB1874_1876.out _; (with_reducible repeat (first | refine blk_drewN ?_ _ | refine blk_drew ?_ | refine blk_alloc ?_ _)); refine blk_far ?_ NB1874_1876.out _; (with_reducible repeat (first | refine blk_drewN ?_ _ | refine blk_drew ?_ | refine blk_alloc ?_ _)); exact BK1874.out) hg (Kd.R_ne HO_5.out BK1874.out (by decide))); have n1_ := Aside0.mk (blk_grown (g := gb1876) (o := .cells #[.int .u8 ((rd_T26 l0_6 x11_1).f0), .int .i64 ((rd_T26 l0_6 x11_1).f1.f0), .int .i64 ((rd_T26 l0_6 x11_1).f1.f1), .int .i64 ((rd_T26 l0_6 x11_1).f1.f2), .int .i64 ((rd_T26 l0_6 x11_1).f1.f3), .int .i64 ((rd_T26 l0_6 x11_1).f2), .slice A1875_6 ((rd_T26 l0_6 x11_1).f3).length c1875_6] 26 (0, 0)) (by (with_reducible repeat (first | refine blk_drewN ?_ _ | refine blk_drew ?_ | refine blk_alloc ?_ _)); refine blk_put (cs := #[.int .u8 ((rd_T26 l0_6 x11_1).f0), .int .i64 ((rd_T26 l0_6 x11_1).f1.f0), .int .i64 ((rd_T26 l0_6 x11_1).f1.f1), .int .i64 ((rd_T26 l0_6 x11_1).f1.f2), .int .i64 ((rd_T26 l0_6 x11_1).f1.f3), .int .i64 ((rd_T26 l0_6 x11_1).f2), .slice none 0 0]) ?_ 6 _ rfl; (with_reducible repeat (first | refine blk_drewN ?_ _ | refine blk_drew ?_ | refine blk_alloc ?_ _)); refine blk_put (cs := #[.int .u8 ((rd_T26 l0_6 x11_1).f0), .int .i64 ((rd_T26 l0_6 x11_1).f1.f0), .int .i64 ((rd_T26 l0_6 x11_1).f1.f1), .int .i64 ((rd_T26 l0_6 x11_1).f1.f2), .int .i64 ((rd_T26 l0_6 x11_1).f1.f3), .int .i64 0, .slice none 0 0]) ?_ 5 _ rfl; (with_reducible repeat (first | refine blk_drewN ?_ _ | refine blk_drew ?_ | refine blk_alloc ?_ _)); refine blk_put (cs := #[.int .u8 ((rd_T26 l0_6 x11_1).f0), .int .i64 ((rd_T26 l0_6 x11_1).f1.f0), .int .i64 ((rd_T26 l0_6 x11_1).f1.f1), .int .i64 ((rd_T26 l0_6 x11_1).f1.f2), .int .i64 0, .int .i64 0, .slice none 0 0]) ?_ 4 _ rfl; (with_reducible repeat (first | refine blk_drewN ?_ _ | refine blk_drew ?_ | refine blk_alloc ?_ _)); refine blk_put (cs := #[.int .u8 ((rd_T26 l0_6 x11_1).f0), .int .i64 ((rd_T26 l0_6 x11_1).f1.f0), .int .i64 ((rd_T26 l0_6 x11_1).f1.f1), .int .i64 0, .int .i64 0, .int .i64 0, .slice none 0 0]) ?_ 3 _ rfl; (with_reducible repeat (first | refine blk_drewN ?_ _ | refine blk_drew ?_ | refine blk_alloc ?_ _)); refine blk_put (cs := #[.int .u8 ((rd_T26 l0_6 x11_1).f0), .int .i64 ((rd_T26 l0_6 x11_1).f1.f0), .int .i64 0, .int .i64 0, .int .i64 0, .int .i64 0, .slice none 0 0]) ?_ 2 _ rfl; (with_reducible repeat (first | refine blk_drewN ?_ _ | refine blk_drew ?_ | refine blk_alloc ?_ _)); refine blk_put (cs := #[.int .u8 ((rd_T26 l0_6 x11_1).f0), .int .i64 0, .int .i64 0, .int .i64 0, .int .i64 0, .int .i64 0, .slice none 0 0]) ?_ 1 _ rfl; (with_reducible repeat (first | refine blk_drewN ?_ _ | refine blk_drew ?_ | refine blk_alloc ?_ _)); refine blk_put (cs := #[.int .u8 0, .int .i64 0, .int .i64 0, .int .i64 0, .int .i64 0, .int .i64 0, .slice none 0 0]) ?_ 0 _ rfl; (with_reducible repeat (first | refine blk_drewN ?_ _ | refine blk_drew ?_ | refine blk_alloc ?_ _)); exact BK1876.out) hg (Kd.R_ne HO_5.out BK1876.out (by decide))); have n2_ := Aside0.mk (hb); have n3_ := Aside0.mk (ho); clear BK1874; clear BK1876; clear HB; clear HO_5; have BK1874 := n0_; have BK1876 := n1_; have HB := n2_; have HO1879 := n3_; clear n0_ n1_ n2_ n3_; clear ho hb hg hat))
        go_roundg k1
        case measure => have := HK1.out; omega
        case rel => exact ⟨(y1877), (wrap64 (x11_1 + 1)), (by first | rfl | (simp; done) | (simp [*]; done)), H', ⟨by have := HK1.out; omega⟩, ⟨by (with_reducible repeat (first | apply Kd.R_alloc | apply Kd.R_drewN | apply Kd.R_drew)); exact HO1879.out⟩, ⟨by (with_reducible repeat (first | refine blk_drewN ?_ _ | refine blk_drew ?_ | refine blk_alloc ?_ _)); exact BK1874.out⟩, ⟨by repeat (first | (with_reducible first | exact HB.out | apply below_alloc | apply pw_below_drewN | apply below_drew1 | refine below_set ?_ GE1874.out | refine below_set ?_ GE1876.out) | exact HB.out)⟩⟩
       ·rw [if_neg c8] at H
        exact absurd H (by simp)
      ·rw [if_neg c7] at H
       have c7b0 : (a0_0 == 2) = false := beq_eq_false_iff_ne.mpr c7
       have c7b1 : (a0_0 != 2) = true := bne_iff_ne.mpr c7
       by_cases c14 : x5_1.length < 17592186044416
       ·rw [if_pos c14] at H
        have LMc14 := Aside0.mk c14
        clear c14
        obtain ⟨y1880, hy1880⟩ : ∃ y_ : List Int, y_ = (x5_1 ++ [(rd_T26 l0_6 x11_1).f1.f3]) := ⟨_, rfl⟩
        replace H : (tile_cut.l0 k1 y1880 l0_6 (l0_6.length : Int) (wrap64 (x11_1 + 1)) a0_0 a0_1 a0_2 a0_3 a0_4 a0_5 l0_6) = some (r1, r2, r3) := by first | (rw [hy1880]; with_reducible exact H) | (have H2_ := (Option.bind_some _ _).symm.trans H; rw [hy1880]; with_reducible exact H2_) | (have H2_ := (Option.bind_some _ _).symm.trans H; with_reducible exact H2_) | with_reducible exact H | (rw [hy1880]; exact H) | exact H
        have Ny1880 := Aside0.mk hy1880
        clear hy1880
        have H' := Aside0.mk H
        clear H
        have p1875 : 0 ≤ (x11_1 : Int) := of_decide_eq_true (by first | (with_reducible assumption) | assumption)
        have q1875 : x11_1 < (l0_6.length : Int) := of_decide_eq_true (by first | (with_reducible assumption) | assumption)
        obtain ⟨ad1875, A1875_6, c1875_6, e1875, hx1875_0, hx1875_1, hx1875_2, hx1875_3, hx1875_4, hx1875_5, hx1875_6, hl1875_6, hi1875_6⟩ := at_T26 HR0_6.out x11_1 p1875 q1875
        cases e1875
        replace hx1875_0 := (HB.out.cell (World.block_lt_of_cell? w _ hx1875_0)).trans hx1875_0
        replace hx1875_1 := (HB.out.cell (World.block_lt_of_cell? w _ hx1875_1)).trans hx1875_1
        replace hx1875_2 := (HB.out.cell (World.block_lt_of_cell? w _ hx1875_2)).trans hx1875_2
        replace hx1875_3 := (HB.out.cell (World.block_lt_of_cell? w _ hx1875_3)).trans hx1875_3
        replace hx1875_4 := (HB.out.cell (World.block_lt_of_cell? w _ hx1875_4)).trans hx1875_4
        replace hx1875_5 := (HB.out.cell (World.block_lt_of_cell? w _ hx1875_5)).trans hx1875_5
        replace hx1875_6 := (HB.out.cell (World.block_lt_of_cell? w _ hx1875_6)).trans hx1875_6
        have HR1875_6 := Aside0.mk hi1875_6
        have HC1875_6 := Aside0.mk hl1875_6
        clear hi1875_6 hl1875_6
        replace p1875 := eq_true p1875
        replace q1875 := eq_true q1875
        go_wp2_with (first | ((with_reducible refine gate_dst (N := 7) rfl ?_); refine box_event ?hg (N := 7) ?hd (cs := #[.int .u8 0, .int .i64 0, .int .i64 0, .int .i64 0, .int .i64 0, .int .i64 0, .slice none 0 0]) (t := 26) ?hr ?_; (case hd => rfl); (case hg => rfl); (case hr => first | (go_simp; done) | (go_simp; rfl)); intro gb1876 hg w15 hbox hb; have n0_ := Aside0.mk (Kd.R_below (by (with_reducible repeat (first | apply Kd.R_alloc | apply Kd.R_drewN | apply Kd.R_drew)); exact HO_5.out) hb); have n1_ := Aside0.mk (blk_below (g := gb1874) (o := .cells #[.int .u8 a0_0, .int .i64 a0_1, .int .i64 a0_2, .int .i64 a0_3, .int .i64 a0_4, .int .i64 a0_5, .slice (some ad1875) l0_6.length c0_6] 26 (0, 0)) (by (with_reducible repeat (first | refine blk_drewN ?_ _ | refine blk_drew ?_ | refine blk_alloc ?_ _)); exact BK1874.out) hb); have n2_ := Aside0.mk (below_step (by repeat (first | (with_reducible first | exact HB.out | apply below_alloc | apply pw_below_drewN | apply below_drew1 | refine below_set ?_ GE1874.out) | exact HB.out)) hb); have n3_ := Aside0.mk (hbox); have n4_ := Aside0.mk ((by rw [hg]; exact (below_size (by repeat (first | (with_reducible first | exact HB.out | apply below_alloc | apply pw_below_drewN | apply below_drew1 | refine below_set ?_ GE1874.out) | exact HB.out))) : w.heap.size ≤ gb1876)); have n5_ := Aside0.mk ((by rw [hg]; exact (below_size (by repeat (first | (with_reducible first | exact HB.out | apply below_alloc | apply pw_below_drewN | apply below_drew1 | refine below_set ?_ GE1874.out) | exact HB.out))) : w.heap.size ≤ gb1876)); have n6_ := Aside0.mk ((by rw [hg]; exact Nat.ne_of_lt (blk_lt (g := gb1874) (o := .cells #[.int .u8 a0_0, .int .i64 a0_1, .int .i64 a0_2, .int .i64 a0_3, .int .i64 a0_4, .int .i64 a0_5, .slice (some ad1875) l0_6.length c0_6] 26 (0, 0)) (by (with_reducible repeat (first | refine blk_drewN ?_ _ | refine blk_drew ?_ | refine blk_alloc ?_ _)); exact BK1874.out)) : gb1874 ≠ gb1876)); have n7_ := Aside0.mk ((by rw [hg]; exact Nat.ne_of_gt (blk_lt (g := gb1874) (o := .cells #[.int .u8 a0_0, .int .i64 a0_1, .int .i64 a0_2, .int .i64 a0_3, .int .i64 a0_4, .int .i64 a0_5, .slice (some ad1875) l0_6.length c0_6] 26 (0, 0)) (by (with_reducible repeat (first | refine blk_drewN ?_ _ | refine blk_drew ?_ | refine blk_alloc ?_ _)); exact BK1874.out)) : gb1876 ≠ gb1874)); clear HO_5; clear BK1874; clear HB; have HO_5 := n0_; have BK1874 := n1_; have HB := n2_; have BK1876 := n3_; have GW1876 := n4_; have GE1876 := n5_; have NB1874_1876 := n6_; have NB1876_1874 := n7_; clear n0_ n1_ n2_ n3_ n4_ n5_ n6_ n7_; clear hb hbox hg; have hnb16 := NB1876_1874.out; have hnc16 := NB1874_1876.out; have hcz17_0 : w15.cell? ⟨gb1876, 0, none⟩ = some (.int .u8 0) := (blk_cell BK1876.out 0).trans rfl; have hcz17_1 : w15.cell? ⟨gb1876, 1, none⟩ = some (.int .i64 0) := (blk_cell BK1876.out 1).trans rfl; have hcz17_2 : w15.cell? ⟨gb1876, 2, none⟩ = some (.int .i64 0) := (blk_cell BK1876.out 2).trans rfl; have hcz17_3 : w15.cell? ⟨gb1876, 3, none⟩ = some (.int .i64 0) := (blk_cell BK1876.out 3).trans rfl; have hcz17_4 : w15.cell? ⟨gb1876, 4, none⟩ = some (.int .i64 0) := (blk_cell BK1876.out 4).trans rfl; have hcz17_5 : w15.cell? ⟨gb1876, 5, none⟩ = some (.int .i64 0) := (blk_cell BK1876.out 5).trans rfl; have hcz17_6 : w15.cell? ⟨gb1876, 6, none⟩ = some (.slice none 0 0) := (blk_cell BK1876.out 6).trans rfl; have hfz17_0 := blk_frozen BK1876.out 0; have hfz17_1 := blk_frozen BK1876.out 1; have hfz17_2 := blk_frozen BK1876.out 2; have hfz17_3 := blk_frozen BK1876.out 3; have hfz17_4 := blk_frozen BK1876.out 4; have hfz17_5 := blk_frozen BK1876.out 5; have hfz17_6 := blk_frozen BK1876.out 6; have hcz18_0 : w15.cell? ⟨gb1874, 0, none⟩ = some (.int .u8 a0_0) := (blk_cell BK1874.out 0).trans rfl; have hcz18_1 : w15.cell? ⟨gb1874, 1, none⟩ = some (.int .i64 a0_1) := (blk_cell BK1874.out 1).trans rfl; have hcz18_2 : w15.cell? ⟨gb1874, 2, none⟩ = some (.int .i64 a0_2) := (blk_cell BK1874.out 2).trans rfl; have hcz18_3 : w15.cell? ⟨gb1874, 3, none⟩ = some (.int .i64 a0_3) := (blk_cell BK1874.out 3).trans rfl; have hcz18_4 : w15.cell? ⟨gb1874, 4, none⟩ = some (.int .i64 a0_4) := (blk_cell BK1874.out 4).trans rfl; have hcz18_5 : w15.cell? ⟨gb1874, 5, none⟩ = some (.int .i64 a0_5) := (blk_cell BK1874.out 5).trans rfl; have hcz18_6 : w15.cell? ⟨gb1874, 6, none⟩ = some (.slice (some ad1875) l0_6.length c0_6) := (blk_cell BK1874.out 6).trans rfl; have hfz18_0 := blk_frozen BK1874.out 0; have hfz18_1 := blk_frozen BK1874.out 1; have hfz18_2 := blk_frozen BK1874.out 2; have hfz18_3 := blk_frozen BK1874.out 3; have hfz18_4 := blk_frozen BK1874.out 4; have hfz18_5 := blk_frozen BK1874.out 5; have hfz18_6 := blk_frozen BK1874.out 6) | ((with_reducible refine gate_builtin (b := .append) (xs := #[.tmp 24, .tmp 28]) rfl ?_); at_builtin; refine Kd.R_append (Kd.int .i64) (w0 := w) w.heap.size rfl (.tmp 24) (.tmp 28) 41 3 (.int .i64 0) 8 rfl Try.underlying41 info3 rfl (by decide) (by omega) u5 x5_1 ((rd_T26 l0_6 x11_1).f1.f3) [.int .i64 ((rd_T26 l0_6 x11_1).f1.f3)] (fun _ => True) (fun _ => False) rfl (by first | (go_simp; done) | (go_simp; rfl)) ?aP (fun _ hk => hk.elim) ?aF ?aO ?aB ?aS ?aL ?_; (case aP => exact rfl); (case aB => exact (by repeat (first | (with_reducible first | exact HB.out | apply below_alloc | apply pw_below_drewN | apply below_drew1 | refine below_set ?_ GE1874.out | refine below_set ?_ GE1876.out) | exact HB.out))); (case aF => exact (fun _ _ => trivial)); (case aO => exact (by (with_reducible repeat (first | apply Kd.R_alloc | apply Kd.R_drewN | apply Kd.R_drew)); exact Kd.R_mono (Kd.R_far (p := ⟨gb1876, 6, none⟩) (Kd.R_far (p := ⟨gb1876, 5, none⟩) (Kd.R_far (p := ⟨gb1876, 4, none⟩) (Kd.R_far (p := ⟨gb1876, 3, none⟩) (Kd.R_far (p := ⟨gb1876, 2, none⟩) (Kd.R_far (p := ⟨gb1876, 1, none⟩) (Kd.R_far (p := ⟨gb1876, 0, none⟩) (Kd.R_types HO_5.out BK1876.out (by decide)) (fun _ hk => hk.2) (.int .u8 ((rd_T26 l0_6 x11_1).f0))) (fun _ hk => hk.2) (.int .i64 ((rd_T26 l0_6 x11_1).f1.f0))) (fun _ hk => hk.2) (.int .i64 ((rd_T26 l0_6 x11_1).f1.f1))) (fun _ hk => hk.2) (.int .i64 ((rd_T26 l0_6 x11_1).f1.f2))) (fun _ hk => hk.2) (.int .i64 ((rd_T26 l0_6 x11_1).f1.f3))) (fun _ hk => hk.2) (.int .i64 ((rd_T26 l0_6 x11_1).f2))) (fun _ hk => hk.2) (.slice A1875_6 ((rd_T26 l0_6 x11_1).f3).length c1875_6)) (fun _ hk => trivial))); (case aS => exact (below_size (by repeat (first | (with_reducible first | exact HB.out | apply below_alloc | apply pw_below_drewN | apply below_drew1 | refine below_set ?_ GE1874.out | refine below_set ?_ GE1876.out) | exact HB.out)))); (case aL => have := LMc14.out; omega); intro v1881 w19 ho hb hg hat; rw [← Ny1880.out] at ho; have n0_ := Aside0.mk (blk_grown (g := gb1874) (o := .cells #[.int .u8 a0_0, .int .i64 a0_1, .int .i64 a0_2, .int .i64 a0_3, .int .i64 a0_4, .int .i64 a0_5, .slice (some ad1875) l0_6.length c0_6] 26 (0, 0)) (by (with_reducible repeat (first | refine blk_drewN ?_ _ | refine blk_drew ?_ | refine blk_alloc ?_ _)); refine blk_far ?_ NB1874_1876.out _; (with_reducible repeat (first | refine blk_drewN ?_ _ | refine blk_drew ?_ | refine blk_alloc ?_ _)); refine blk_far ?_ NB1874_1876.out _; (with_reducible repeat (first | refine blk_drewN ?_ _ | refine blk_drew ?_ | refine blk_alloc ?_ _)); refine blk_far ?_ NB1874_1876.out _; (with_reducible repeat (first | refine blk_drewN ?_ _ | refine blk_drew ?_ | refine blk_alloc ?_ _)); refine blk_far ?_ NB1874_1876.out _; (with_reducible repeat (first | refine blk_drewN ?_ _ | refine blk_drew ?_ | refine blk_alloc ?_ _)); refine blk_far ?_ NB1874_1876.out _; (with_reducible repeat (first | refine blk_drewN ?_ _ | refine blk_drew ?_ | refine blk_alloc ?_ _)); refine blk_far ?_ NB1874_1876.out _; (with_reducible repeat (first | refine blk_drewN ?_ _ | refine blk_drew ?_ | refine blk_alloc ?_ _)); refine blk_far ?_ NB1874_1876.out _; (with_reducible repeat (first | refine blk_drewN ?_ _ | refine blk_drew ?_ | refine blk_alloc ?_ _)); exact BK1874.out) hg (Kd.R_ne HO_5.out BK1874.out (by decide))); have n1_ := Aside0.mk (blk_grown (g := gb1876) (o := .cells #[.int .u8 ((rd_T26 l0_6 x11_1).f0), .int .i64 ((rd_T26 l0_6 x11_1).f1.f0), .int .i64 ((rd_T26 l0_6 x11_1).f1.f1), .int .i64 ((rd_T26 l0_6 x11_1).f1.f2), .int .i64 ((rd_T26 l0_6 x11_1).f1.f3), .int .i64 ((rd_T26 l0_6 x11_1).f2), .slice A1875_6 ((rd_T26 l0_6 x11_1).f3).length c1875_6] 26 (0, 0)) (by (with_reducible repeat (first | refine blk_drewN ?_ _ | refine blk_drew ?_ | refine blk_alloc ?_ _)); refine blk_put (cs := #[.int .u8 ((rd_T26 l0_6 x11_1).f0), .int .i64 ((rd_T26 l0_6 x11_1).f1.f0), .int .i64 ((rd_T26 l0_6 x11_1).f1.f1), .int .i64 ((rd_T26 l0_6 x11_1).f1.f2), .int .i64 ((rd_T26 l0_6 x11_1).f1.f3), .int .i64 ((rd_T26 l0_6 x11_1).f2), .slice none 0 0]) ?_ 6 _ rfl; (with_reducible repeat (first | refine blk_drewN ?_ _ | refine blk_drew ?_ | refine blk_alloc ?_ _)); refine blk_put (cs := #[.int .u8 ((rd_T26 l0_6 x11_1).f0), .int .i64 ((rd_T26 l0_6 x11_1).f1.f0), .int .i64 ((rd_T26 l0_6 x11_1).f1.f1), .int .i64 ((rd_T26 l0_6 x11_1).f1.f2), .int .i64 ((rd_T26 l0_6 x11_1).f1.f3), .int .i64 0, .slice none 0 0]) ?_ 5 _ rfl; (with_reducible repeat (first | refine blk_drewN ?_ _ | refine blk_drew ?_ | refine blk_alloc ?_ _)); refine blk_put (cs := #[.int .u8 ((rd_T26 l0_6 x11_1).f0), .int .i64 ((rd_T26 l0_6 x11_1).f1.f0), .int .i64 ((rd_T26 l0_6 x11_1).f1.f1), .int .i64 ((rd_T26 l0_6 x11_1).f1.f2), .int .i64 0, .int .i64 0, .slice none 0 0]) ?_ 4 _ rfl; (with_reducible repeat (first | refine blk_drewN ?_ _ | refine blk_drew ?_ | refine blk_alloc ?_ _)); refine blk_put (cs := #[.int .u8 ((rd_T26 l0_6 x11_1).f0), .int .i64 ((rd_T26 l0_6 x11_1).f1.f0), .int .i64 ((rd_T26 l0_6 x11_1).f1.f1), .int .i64 0, .int .i64 0, .int .i64 0, .slice none 0 0]) ?_ 3 _ rfl; (with_reducible repeat (first | refine blk_drewN ?_ _ | refine blk_drew ?_ | refine blk_alloc ?_ _)); refine blk_put (cs := #[.int .u8 ((rd_T26 l0_6 x11_1).f0), .int .i64 ((rd_T26 l0_6 x11_1).f1.f0), .int .i64 0, .int .i64 0, .int .i64 0, .int .i64 0, .slice none 0 0]) ?_ 2 _ rfl; (with_reducible repeat (first | refine blk_drewN ?_ _ | refine blk_drew ?_ | refine blk_alloc ?_ _)); refine blk_put (cs := #[.int .u8 ((rd_T26 l0_6 x11_1).f0), .int .i64 0, .int .i64 0, .int .i64 0, .int .i64 0, .int .i64 0, .slice none 0 0]) ?_ 1 _ rfl; (with_reducible repeat (first | refine blk_drewN ?_ _ | refine blk_drew ?_ | refine blk_alloc ?_ _)); refine blk_put (cs := #[.int .u8 0, .int .i64 0, .int .i64 0, .int .i64 0, .int .i64 0, .int .i64 0, .slice none 0 0]) ?_ 0 _ rfl; (with_reducible repeat (first | refine blk_drewN ?_ _ | refine blk_drew ?_ | refine blk_alloc ?_ _)); exact BK1876.out) hg (Kd.R_ne HO_5.out BK1876.out (by decide))); have n2_ := Aside0.mk (hb); have n3_ := Aside0.mk (ho); clear BK1874; clear BK1876; clear HB; clear HO_5; have BK1874 := n0_; have BK1876 := n1_; have HB := n2_; have HO1882 := n3_; clear n0_ n1_ n2_ n3_; clear ho hb hg hat))
        go_roundg k1
        case measure => have := HK1.out; omega
        case rel => exact ⟨(y1880), (wrap64 (x11_1 + 1)), (by first | rfl | (simp; done) | (simp [*]; done)), H', ⟨by have := HK1.out; omega⟩, ⟨by (with_reducible repeat (first | apply Kd.R_alloc | apply Kd.R_drewN | apply Kd.R_drew)); exact HO1882.out⟩, ⟨by (with_reducible repeat (first | refine blk_drewN ?_ _ | refine blk_drew ?_ | refine blk_alloc ?_ _)); exact BK1874.out⟩, ⟨by repeat (first | (with_reducible first | exact HB.out | apply below_alloc | apply pw_below_drewN | apply below_drew1 | refine below_set ?_ GE1874.out | refine below_set ?_ GE1876.out) | exact HB.out)⟩⟩
       ·rw [if_neg c14] at H
        exact absurd H (by simp)
     ·rw [if_neg c6] at H
      exact absurd H (by simp)
    ·rw [if_neg c5] at H
     exact absurd H (by simp)
   ·rw [if_neg c4] at H
    have c4b0 : decide (x11_1 < (l0_6.length : Int)) = false := decide_eq_false c4
    clear c4
    replace H := Option.bind_eq_some_iff.mp H
    obtain ⟨⟨t1883, t1886, t1889⟩, A200, H⟩ := H
    replace H : (some (t1883, t1886, t1889)) = some (r1, r2, r3) := H
    have A20 := Aside0.mk A200
    clear A200
    simp only [Option.some.injEq, Prod.mk.injEq] at H
    obtain ⟨rfl, rfl, rfl⟩ := H
    have hcz21_0 : wr.cell? ⟨gb1874, 0, none⟩ = some (.int .u8 a0_0) := (blk_cell BK1874.out 0).trans rfl
    have hcz21_1 : wr.cell? ⟨gb1874, 1, none⟩ = some (.int .i64 a0_1) := (blk_cell BK1874.out 1).trans rfl
    have hcz21_2 : wr.cell? ⟨gb1874, 2, none⟩ = some (.int .i64 a0_2) := (blk_cell BK1874.out 2).trans rfl
    have hcz21_3 : wr.cell? ⟨gb1874, 3, none⟩ = some (.int .i64 a0_3) := (blk_cell BK1874.out 3).trans rfl
    have hcz21_4 : wr.cell? ⟨gb1874, 4, none⟩ = some (.int .i64 a0_4) := (blk_cell BK1874.out 4).trans rfl
    have hcz21_5 : wr.cell? ⟨gb1874, 5, none⟩ = some (.int .i64 a0_5) := (blk_cell BK1874.out 5).trans rfl
    have hcz21_6 : wr.cell? ⟨gb1874, 6, none⟩ = some (.slice A0_6 l0_6.length c0_6) := (blk_cell BK1874.out 6).trans rfl
    have hfz21_0 := blk_frozen BK1874.out 0
    have hfz21_1 := blk_frozen BK1874.out 1
    have hfz21_2 := blk_frozen BK1874.out 2
    have hfz21_3 := blk_frozen BK1874.out 3
    have hfz21_4 := blk_frozen BK1874.out 4
    have hfz21_5 := blk_frozen BK1874.out 5
    have hfz21_6 := blk_frozen BK1874.out 6
    obtain ⟨Ao22, co22, eo22⟩ := Kd.R_slice HO_5.out
    subst eo22
    go_wp2_with (first | ((with_reducible refine gate_callee (f := 45) rfl ?_); refine goesL_ (some 38) rfl rfl Try.func45 (by kernel_rfl) rfl #[.agg #[.int .i64 a0_1, .int .i64 a0_2, .int .i64 a0_3, .int .i64 a0_4], .int .u8 ((((a0_0 - 2) % 256) + 1) % 256), .slice Ao22 x5_1.length co22] rfl (by (try simp only [List.map_toArray, List.map_cons, List.map_nil]); first | done | rfl | (simp only [List.length_drop, List.length_take]; rfl)) ?_; (with_reducible refine (rect_Cut.calls k1 a0_1 a0_2 a0_3 a0_4 ((((a0_0 - 2) % 256) + 1) % 256) _ _ x5_1 t1883 t1886 t1889 _ ?side1 ?side2 A20.out).mono ?_); (case side1 => repeat (first | exact (Kd.R_reads' HO_5.out).2.2 | (with_reducible refine Kd.C_alloc ?_ _) | (with_reducible refine Kd.C_drewN ?_ _) | (with_reducible refine Kd.C_drew ?_))); (case side2 => exact (Kd.R_reads' HO_5.out).2.1); rintro e w23 ⟨v1884, v1887, rfl, ho0, ho1, hb⟩; refine ⟨_, rfl, ?_⟩; have n0_ := Aside0.mk (Kd.R_below (by (with_reducible repeat (first | apply Kd.R_alloc | apply Kd.R_drewN | apply Kd.R_drew)); exact HO_5.out) hb); have n1_ := Aside0.mk (Kd.R_lower ho0 (below_size (by repeat (first | (with_reducible first | exact HB.out | apply below_alloc | apply pw_below_drewN | apply below_drew1 | refine below_set ?_ GE1874.out) | exact HB.out)))); have n2_ := Aside0.mk (Kd.R_lower ho1 (below_size (by repeat (first | (with_reducible first | exact HB.out | apply below_alloc | apply pw_below_drewN | apply below_drew1 | refine below_set ?_ GE1874.out) | exact HB.out)))); have n3_ := Aside0.mk (blk_below (g := gb1874) (o := .cells #[.int .u8 a0_0, .int .i64 a0_1, .int .i64 a0_2, .int .i64 a0_3, .int .i64 a0_4, .int .i64 a0_5, .slice A0_6 l0_6.length c0_6] 26 (0, 0)) (by (with_reducible repeat (first | refine blk_drewN ?_ _ | refine blk_drew ?_ | refine blk_alloc ?_ _)); exact BK1874.out) hb); have n4_ := Aside0.mk (below_step (by repeat (first | (with_reducible first | exact HB.out | apply below_alloc | apply pw_below_drewN | apply below_drew1 | refine below_set ?_ GE1874.out) | exact HB.out)) hb); clear HO_5; clear BK1874; clear HB; have HO_5 := n0_; have HO1885 := n1_; have HO1888 := n2_; have BK1874 := n3_; have HB := n4_; clear n0_ n1_ n2_ n3_ n4_; (try clear hb); (try clear hb2); (try clear hk); (try clear hi); (try clear ho0); (try clear ho1)))
    go_ret3
    exact ⟨_, _, by first | rfl | (simp [errW_none, errW_some] <;> rfl) | (simp [*, errW_none, errW_some] <;> rfl), by (with_reducible repeat (first | apply Kd.R_alloc | apply Kd.R_drewN | apply Kd.R_drew)); exact HO1885.out, by (with_reducible repeat (first | apply Kd.R_alloc | apply Kd.R_drewN | apply Kd.R_drew)); exact HO1888.out, by repeat (first | (with_reducible first | exact HB.out | apply below_alloc | apply pw_below_drewN | apply below_drew1 | refine below_set ?_ GE1874.out) | exact HB.out)⟩

end Go.Proofs.Ytfdmfgaiblfbhaa.P
/- The contract of tile.lines (and of its closure): the lines of a cell alone, and whether it tiles. -/
namespace Go.Proofs.Ytfdmfgaiblfbhaa.P
open Go.RowKit Go.Proofs.YtfdmfgaiblfbhaaW.PrintWords Go.Proofs.YtfdmfgaiblfbhaaW.PrintLast Go.Proofs.YtfdmfgaiblfbhaaW.PrintMore
set_option linter.unusedVariables false
set_option linter.unusedSimpArgs false
set_option maxHeartbeats 2000000 in
set_option maxRecDepth 100000 in
theorem clo212 (ak ax ay aw ah aid bx by_ bw bh : Int) (A : Option Addr) (la : List S26) (ca : Nat) (w : World) :
    Calls Try.prog 212 #[.agg #[.int .u8 ak, .int .i64 ax, .int .i64 ay, .int .i64 aw, .int .i64 ah, .int .i64 aid, .slice A la.length ca], .agg #[.int .i64 bx, .int .i64 by_, .int .i64 bw, .int .i64 bh]] w fun e w' => e = .returned (.bool (rectB ⟨ax, ay, aw, ah⟩ ⟨bx, by_, bw, bh⟩)) ∧ Below w.heap.size w w' := by
  have HB := Aside0.mk (Below.refl w.heap.size w)
  have hu23 := Try.underlying23
  simp only [rectB]
  by_cases e_ : ax = bx
  rotate_left
  · have k_ : (ax == bx) = false := beq_eq_false_iff_ne.mpr e_
    clear e_
    simp only [k_, beq_self_eq_true, Bool.true_and, Bool.false_and, Bool.and_false]
    go_enter Try.func212, Try.ntmps212
    go_wp2_with (first
      | ((with_reducible refine gate_dst (N := 2) rfl ?_); refine box_event ?hg (N := 2) ?hd (cs := #[.int .u8 ak, .int .i64 ax, .int .i64 ay, .int .i64 aw, .int .i64 ah, .int .i64 aid, .slice A la.length ca]) (t := 26) ?hr ?_; (case hd => rfl); (case hg => rfl); (case hr => first | (go_simp; done) | (go_simp; rfl)); intro b2 hg wbb2 hbox hb; have Kb2 := Aside0.mk hbox; have q_ := Aside0.mk (below_step HB.out hb); clear HB; have HB := q_; clear q_; skip; clear hb hbox hg)
      | ((with_reducible refine gate_dst (N := 3) rfl ?_); refine box_event ?hg (N := 3) ?hd (cs := #[.int .i64 bx, .int .i64 by_, .int .i64 bw, .int .i64 bh]) (t := 23) ?hr ?_; (case hd => rfl); (case hg => rfl); (case hr => first | (go_simp; done) | (go_simp; rfl)); intro b3 hg wbb3 hbox hb; have Kb3 := Aside0.mk hbox; have q_ := Aside0.mk (below_step HB.out hb); clear HB; have HB := q_; clear q_; have q2_ := Aside0.mk (blk_below Kb2.out hb); clear Kb2; have Kb2 := q2_; clear q2_; have c0 := (blk_cell Kb2.out 0).trans rfl; have c1 := (blk_cell Kb2.out 1).trans rfl; have c2 := (blk_cell Kb2.out 2).trans rfl; have c3 := (blk_cell Kb2.out 3).trans rfl; have c4 := (blk_cell Kb2.out 4).trans rfl; have c5 := (blk_cell Kb2.out 5).trans rfl; have c6 := (blk_cell Kb2.out 6).trans rfl; have d0 := (blk_cell Kb3.out 0).trans rfl; have d1 := (blk_cell Kb3.out 1).trans rfl; have d2 := (blk_cell Kb3.out 2).trans rfl; have d3 := (blk_cell Kb3.out 3).trans rfl; clear hb hbox hg)
      | fail)
    go_ret
    exact ⟨rfl, HB.out⟩
  subst e_
  by_cases e_ : ay = by_
  rotate_left
  · have k_ : (ay == by_) = false := beq_eq_false_iff_ne.mpr e_
    clear e_
    simp only [k_, beq_self_eq_true, Bool.true_and, Bool.false_and, Bool.and_false]
    go_enter Try.func212, Try.ntmps212
    go_wp2_with (first
      | ((with_reducible refine gate_dst (N := 2) rfl ?_); refine box_event ?hg (N := 2) ?hd (cs := #[.int .u8 ak, .int .i64 ax, .int .i64 ay, .int .i64 aw, .int .i64 ah, .int .i64 aid, .slice A la.length ca]) (t := 26) ?hr ?_; (case hd => rfl); (case hg => rfl); (case hr => first | (go_simp; done) | (go_simp; rfl)); intro b2 hg wbb2 hbox hb; have Kb2 := Aside0.mk hbox; have q_ := Aside0.mk (below_step HB.out hb); clear HB; have HB := q_; clear q_; skip; clear hb hbox hg)
      | ((with_reducible refine gate_dst (N := 3) rfl ?_); refine box_event ?hg (N := 3) ?hd (cs := #[.int .i64 ax, .int .i64 by_, .int .i64 bw, .int .i64 bh]) (t := 23) ?hr ?_; (case hd => rfl); (case hg => rfl); (case hr => first | (go_simp; done) | (go_simp; rfl)); intro b3 hg wbb3 hbox hb; have Kb3 := Aside0.mk hbox; have q_ := Aside0.mk (below_step HB.out hb); clear HB; have HB := q_; clear q_; have q2_ := Aside0.mk (blk_below Kb2.out hb); clear Kb2; have Kb2 := q2_; clear q2_; have c0 := (blk_cell Kb2.out 0).trans rfl; have c1 := (blk_cell Kb2.out 1).trans rfl; have c2 := (blk_cell Kb2.out 2).trans rfl; have c3 := (blk_cell Kb2.out 3).trans rfl; have c4 := (blk_cell Kb2.out 4).trans rfl; have c5 := (blk_cell Kb2.out 5).trans rfl; have c6 := (blk_cell Kb2.out 6).trans rfl; have d0 := (blk_cell Kb3.out 0).trans rfl; have d1 := (blk_cell Kb3.out 1).trans rfl; have d2 := (blk_cell Kb3.out 2).trans rfl; have d3 := (blk_cell Kb3.out 3).trans rfl; clear hb hbox hg)
      | fail)
    go_ret
    exact ⟨rfl, HB.out⟩
  subst e_
  by_cases e_ : aw = bw
  rotate_left
  · have k_ : (aw == bw) = false := beq_eq_false_iff_ne.mpr e_
    clear e_
    simp only [k_, beq_self_eq_true, Bool.true_and, Bool.false_and, Bool.and_false]
    go_enter Try.func212, Try.ntmps212
    go_wp2_with (first
      | ((with_reducible refine gate_dst (N := 2) rfl ?_); refine box_event ?hg (N := 2) ?hd (cs := #[.int .u8 ak, .int .i64 ax, .int .i64 ay, .int .i64 aw, .int .i64 ah, .int .i64 aid, .slice A la.length ca]) (t := 26) ?hr ?_; (case hd => rfl); (case hg => rfl); (case hr => first | (go_simp; done) | (go_simp; rfl)); intro b2 hg wbb2 hbox hb; have Kb2 := Aside0.mk hbox; have q_ := Aside0.mk (below_step HB.out hb); clear HB; have HB := q_; clear q_; skip; clear hb hbox hg)
      | ((with_reducible refine gate_dst (N := 3) rfl ?_); refine box_event ?hg (N := 3) ?hd (cs := #[.int .i64 ax, .int .i64 ay, .int .i64 bw, .int .i64 bh]) (t := 23) ?hr ?_; (case hd => rfl); (case hg => rfl); (case hr => first | (go_simp; done) | (go_simp; rfl)); intro b3 hg wbb3 hbox hb; have Kb3 := Aside0.mk hbox; have q_ := Aside0.mk (below_step HB.out hb); clear HB; have HB := q_; clear q_; have q2_ := Aside0.mk (blk_below Kb2.out hb); clear Kb2; have Kb2 := q2_; clear q2_; have c0 := (blk_cell Kb2.out 0).trans rfl; have c1 := (blk_cell Kb2.out 1).trans rfl; have c2 := (blk_cell Kb2.out 2).trans rfl; have c3 := (blk_cell Kb2.out 3).trans rfl; have c4 := (blk_cell Kb2.out 4).trans rfl; have c5 := (blk_cell Kb2.out 5).trans rfl; have c6 := (blk_cell Kb2.out 6).trans rfl; have d0 := (blk_cell Kb3.out 0).trans rfl; have d1 := (blk_cell Kb3.out 1).trans rfl; have d2 := (blk_cell Kb3.out 2).trans rfl; have d3 := (blk_cell Kb3.out 3).trans rfl; clear hb hbox hg)
      | fail)
    go_ret
    exact ⟨rfl, HB.out⟩
  subst e_
  by_cases e_ : ah = bh
  rotate_left
  · have k_ : (ah == bh) = false := beq_eq_false_iff_ne.mpr e_
    clear e_
    simp only [k_, beq_self_eq_true, Bool.true_and, Bool.false_and, Bool.and_false]
    go_enter Try.func212, Try.ntmps212
    go_wp2_with (first
      | ((with_reducible refine gate_dst (N := 2) rfl ?_); refine box_event ?hg (N := 2) ?hd (cs := #[.int .u8 ak, .int .i64 ax, .int .i64 ay, .int .i64 aw, .int .i64 ah, .int .i64 aid, .slice A la.length ca]) (t := 26) ?hr ?_; (case hd => rfl); (case hg => rfl); (case hr => first | (go_simp; done) | (go_simp; rfl)); intro b2 hg wbb2 hbox hb; have Kb2 := Aside0.mk hbox; have q_ := Aside0.mk (below_step HB.out hb); clear HB; have HB := q_; clear q_; skip; clear hb hbox hg)
      | ((with_reducible refine gate_dst (N := 3) rfl ?_); refine box_event ?hg (N := 3) ?hd (cs := #[.int .i64 ax, .int .i64 ay, .int .i64 aw, .int .i64 bh]) (t := 23) ?hr ?_; (case hd => rfl); (case hg => rfl); (case hr => first | (go_simp; done) | (go_simp; rfl)); intro b3 hg wbb3 hbox hb; have Kb3 := Aside0.mk hbox; have q_ := Aside0.mk (below_step HB.out hb); clear HB; have HB := q_; clear q_; have q2_ := Aside0.mk (blk_below Kb2.out hb); clear Kb2; have Kb2 := q2_; clear q2_; have c0 := (blk_cell Kb2.out 0).trans rfl; have c1 := (blk_cell Kb2.out 1).trans rfl; have c2 := (blk_cell Kb2.out 2).trans rfl; have c3 := (blk_cell Kb2.out 3).trans rfl; have c4 := (blk_cell Kb2.out 4).trans rfl; have c5 := (blk_cell Kb2.out 5).trans rfl; have c6 := (blk_cell Kb2.out 6).trans rfl; have d0 := (blk_cell Kb3.out 0).trans rfl; have d1 := (blk_cell Kb3.out 1).trans rfl; have d2 := (blk_cell Kb3.out 2).trans rfl; have d3 := (blk_cell Kb3.out 3).trans rfl; clear hb hbox hg)
      | fail)
    go_ret
    exact ⟨rfl, HB.out⟩
  subst e_
  simp only [beq_self_eq_true, Bool.true_and]
  go_enter Try.func212, Try.ntmps212
  go_wp2_with (first
    | ((with_reducible refine gate_dst (N := 2) rfl ?_); refine box_event ?hg (N := 2) ?hd (cs := #[.int .u8 ak, .int .i64 ax, .int .i64 ay, .int .i64 aw, .int .i64 ah, .int .i64 aid, .slice A la.length ca]) (t := 26) ?hr ?_; (case hd => rfl); (case hg => rfl); (case hr => first | (go_simp; done) | (go_simp; rfl)); intro b2 hg wbb2 hbox hb; have Kb2 := Aside0.mk hbox; have q_ := Aside0.mk (below_step HB.out hb); clear HB; have HB := q_; clear q_; skip; clear hb hbox hg)
    | ((with_reducible refine gate_dst (N := 3) rfl ?_); refine box_event ?hg (N := 3) ?hd (cs := #[.int .i64 ax, .int .i64 ay, .int .i64 aw, .int .i64 ah]) (t := 23) ?hr ?_; (case hd => rfl); (case hg => rfl); (case hr => first | (go_simp; done) | (go_simp; rfl)); intro b3 hg wbb3 hbox hb; have Kb3 := Aside0.mk hbox; have q_ := Aside0.mk (below_step HB.out hb); clear HB; have HB := q_; clear q_; have q2_ := Aside0.mk (blk_below Kb2.out hb); clear Kb2; have Kb2 := q2_; clear q2_; have c0 := (blk_cell Kb2.out 0).trans rfl; have c1 := (blk_cell Kb2.out 1).trans rfl; have c2 := (blk_cell Kb2.out 2).trans rfl; have c3 := (blk_cell Kb2.out 3).trans rfl; have c4 := (blk_cell Kb2.out 4).trans rfl; have c5 := (blk_cell Kb2.out 5).trans rfl; have c6 := (blk_cell Kb2.out 6).trans rfl; have d0 := (blk_cell Kb3.out 0).trans rfl; have d1 := (blk_cell Kb3.out 1).trans rfl; have d2 := (blk_cell Kb3.out 2).trans rfl; have d3 := (blk_cell Kb3.out 3).trans rfl; clear hb hbox hg)
    | fail)
  go_ret
  exact ⟨rfl, HB.out⟩
def oneT (c : S26) (t : List S23 × List S23 × Bool) : Bool := c.f0 == 1 || (t.2.2 && (c.f3.length == t.1.length && eqL (fun k r => rectB k.f1 r) c.f3 t.1))
def linesT (c : S26) (t : List S23 × List S23 × Bool) : List S23 := if c.f0 = 1 then [] else t.2.1
set_option maxHeartbeats 2000000 in
set_option maxRecDepth 100000 in
theorem lines206 (k : Nat) (c : S26) (A : Option Addr) (cc : Nat) (t : List S23 × List S23 × Bool) (w : World) (hr : Kd.C k26 w A c.f3.length c.f3) (hc : c.f3.length ≤ cc) (h : c.f0 ≠ 1 → tile_cut.f k c.f0 c.f1.f0 c.f1.f1 c.f1.f2 c.f1.f3 c.f2 c.f3 = some t) :
    Calls Try.prog 206 #[.agg #[.int .u8 c.f0, .int .i64 c.f1.f0, .int .i64 c.f1.f1, .int .i64 c.f1.f2, .int .i64 c.f1.f3, .int .i64 c.f2, .slice A c.f3.length cc]] w fun e w' => ∃ v : Value, e = .returned (.tuple #[v, .bool (oneT c t)]) ∧ Kd.R k23 23 w' w.heap.size (fun _ => True) v (linesT c t) ∧ Below w.heap.size w w' := by
  have HR := Aside0.mk hr
  have HC := Aside0.mk hc
  have HT := Aside0.mk h
  have HB := Aside0.mk (Below.refl w.heap.size w)
  clear hr hc h
  obtain ⟨ck, ⟨cx, cy, cw, ch⟩, cid, l⟩ := c
  obtain ⟨t1, t2, t3⟩ := t
  simp only [oneT, linesT] at HR HC HT ⊢
  by_cases k1 : ck = 1
  · have k1b : (ck == 1) = true := beq_iff_eq.mpr k1
    simp only [k1b, Bool.true_or, if_pos k1]
    clear k1 HT
    go_enter Try.func206, Try.ntmps206
    go_wp2_with (first
      | ((with_reducible refine gate_dst (N := 1) rfl ?_); refine box_event ?hg (N := 1) ?hd (cs := #[.int .u8 ck, .int .i64 cx, .int .i64 cy, .int .i64 cw, .int .i64 ch, .int .i64 cid, .slice A l.length cc]) (t := 26) ?hr ?_; (case hd => rfl); (case hg => rfl); (case hr => first | (go_simp; done) | (go_simp; rfl)); intro b1 hg wbb1 hbox hb; have Kb1 := Aside0.mk hbox; have q_ := Aside0.mk (below_step HB.out hb); clear HB; have HB := q_; clear q_; have c0 := (blk_cell Kb1.out 0).trans rfl; have c1 := (blk_cell Kb1.out 1).trans rfl; have c2 := (blk_cell Kb1.out 2).trans rfl; have c3 := (blk_cell Kb1.out 3).trans rfl; have c4 := (blk_cell Kb1.out 4).trans rfl; have c5 := (blk_cell Kb1.out 5).trans rfl; have c6 := (blk_cell Kb1.out 6).trans rfl; clear hb hbox hg)
      | fail)
    go_ret2
    exact ⟨_, rfl, Kd.R_nil _ _ _ _ _, HB.out⟩
  · have k1b : (ck == 1) = false := beq_eq_false_iff_ne.mpr k1
    have HT := Aside0.mk (HT.out k1)
    simp only [k1b, Bool.false_or, if_neg k1]
    clear k1
    cases t3 with
    | false =>
      rw [Bool.false_and]
      go_enter Try.func206, Try.ntmps206
      go_wp2_with (first
        | ((with_reducible refine gate_dst (N := 1) rfl ?_); refine box_event ?hg (N := 1) ?hd (cs := #[.int .u8 ck, .int .i64 cx, .int .i64 cy, .int .i64 cw, .int .i64 ch, .int .i64 cid, .slice A l.length cc]) (t := 26) ?hr ?_; (case hd => rfl); (case hg => rfl); (case hr => first | (go_simp; done) | (go_simp; rfl)); intro b1 hg wbb1 hbox hb; have Kb1 := Aside0.mk hbox; have q_ := Aside0.mk (below_step HB.out hb); clear HB; have HB := q_; clear q_; have c0 := (blk_cell Kb1.out 0).trans rfl; have c1 := (blk_cell Kb1.out 1).trans rfl; have c2 := (blk_cell Kb1.out 2).trans rfl; have c3 := (blk_cell Kb1.out 3).trans rfl; have c4 := (blk_cell Kb1.out 4).trans rfl; have c5 := (blk_cell Kb1.out 5).trans rfl; have c6 := (blk_cell Kb1.out 6).trans rfl; clear hb hbox hg)
        | fail)
      clear c0 c1 c2 c3 c4 c5 c6
      refine (tile_cut.calls k ck cx cy cw ch cid A cc l _ _ _ _ (Kd.C_below HR.out HB.out) HC.out HT.out).mono ?_
      rintro e w' ⟨v0, v1, rfl, h0, h1, hb⟩
      have H0 := Aside0.mk h0
      have H1 := Aside0.mk (Kd.R_lower h1 HB.out.size)
      have q1_ := Aside0.mk (blk_below Kb1.out hb)
      clear Kb1
      have Kb1 := q1_
      clear q1_
      have q_ := Aside0.mk (below_step HB.out hb); clear HB; have HB := q_; clear q_
      clear hb h0 h1
      obtain ⟨Ap, cp, ep⟩ := Kd.R_slice H0.out
      subst ep
      have c0 := (blk_cell Kb1.out 0).trans rfl
      have c1 := (blk_cell Kb1.out 1).trans rfl
      have c2 := (blk_cell Kb1.out 2).trans rfl
      have c3 := (blk_cell Kb1.out 3).trans rfl
      have c4 := (blk_cell Kb1.out 4).trans rfl
      have c5 := (blk_cell Kb1.out 5).trans rfl
      have c6 := (blk_cell Kb1.out 6).trans rfl
      go_wp2
      go_ret2
      exact ⟨_, rfl, Kd.R_mono H1.out (fun _ _ => trivial), HB.out⟩
    | true =>
      rw [Bool.true_and]
      go_enter Try.func206, Try.ntmps206
      go_wp2_with (first
        | ((with_reducible refine gate_dst (N := 1) rfl ?_); refine box_event ?hg (N := 1) ?hd (cs := #[.int .u8 ck, .int .i64 cx, .int .i64 cy, .int .i64 cw, .int .i64 ch, .int .i64 cid, .slice A l.length cc]) (t := 26) ?hr ?_; (case hd => rfl); (case hg => rfl); (case hr => first | (go_simp; done) | (go_simp; rfl)); intro b1 hg wbb1 hbox hb; have Kb1 := Aside0.mk hbox; have q_ := Aside0.mk (below_step HB.out hb); clear HB; have HB := q_; clear q_; have c0 := (blk_cell Kb1.out 0).trans rfl; have c1 := (blk_cell Kb1.out 1).trans rfl; have c2 := (blk_cell Kb1.out 2).trans rfl; have c3 := (blk_cell Kb1.out 3).trans rfl; have c4 := (blk_cell Kb1.out 4).trans rfl; have c5 := (blk_cell Kb1.out 5).trans rfl; have c6 := (blk_cell Kb1.out 6).trans rfl; clear hb hbox hg)
        | fail)
      clear c0 c1 c2 c3 c4 c5 c6
      refine (tile_cut.calls k ck cx cy cw ch cid A cc l _ _ _ _ (Kd.C_below HR.out HB.out) HC.out HT.out).mono ?_
      rintro e w' ⟨v0, v1, rfl, h0, h1, hb⟩
      have H0 := Aside0.mk h0
      have H1 := Aside0.mk (Kd.R_lower h1 HB.out.size)
      have q1_ := Aside0.mk (blk_below Kb1.out hb)
      clear Kb1
      have Kb1 := q1_
      clear q1_
      have q_ := Aside0.mk (below_step HB.out hb); clear HB; have HB := q_; clear q_
      clear hb h0 h1
      obtain ⟨Ap, cp, ep⟩ := Kd.R_slice H0.out
      subst ep
      have c0 := (blk_cell Kb1.out 0).trans rfl
      have c1 := (blk_cell Kb1.out 1).trans rfl
      have c2 := (blk_cell Kb1.out 2).trans rfl
      have c3 := (blk_cell Kb1.out 3).trans rfl
      have c4 := (blk_cell Kb1.out 4).trans rfl
      have c5 := (blk_cell Kb1.out 5).trans rfl
      have c6 := (blk_cell Kb1.out 6).trans rfl
      go_wp2_with fail
      refine ((eqf211 (fun k r => rectB k.f1 r) 212 (enters_fn Try.func212 (by decide +kernel) (by kernel_rfl)) l t1 A Ap cc cp _ (Kd.C_below HR.out HB.out) (Kd.R_reads' H0.out).2.2 (fun W x X cx y _ _ _ _ => clo212 _ _ _ _ _ _ _ _ _ _ X x.f3 cx W))).mono ?_
      rintro e ws ⟨rfl, hb⟩
      have q1_ := Aside0.mk (Kd.R_below H1.out hb)
      clear H1
      have H1 := q1_
      have q_ := Aside0.mk (below_step HB.out hb); clear HB; have HB := q_; clear q_
      clear hb q1_
      go_wp2
      go_ret2
      exact ⟨_, rfl, Kd.R_mono H1.out (fun _ _ => trivial), HB.out⟩
end Go.Proofs.Ytfdmfgaiblfbhaa.P
/- What a cell is cut into, and whether a tree tiles: plain data, out of the answer that the code's cut and the reference's share. -/
namespace Go.Proofs.Ytfdmfgaiblfbhaa.P
open Go.RowKit Go.Proofs.YtfdmfgaiblfbhaaW.PrintWords Go.Proofs.YtfdmfgaiblfbhaaW.PrintLast Go.Proofs.YtfdmfgaiblfbhaaW.PrintMore
def axC (k : Int) : Int := (((k - 2) % 256) + 1) % 256
def szK (c k : S26) : Int := if c.f0 = 2 then k.f1.f2 else k.f1.f3
def sizesC (c : S26) : List Int := c.f3.map (szK c)
theorem cut_any (c : S26) : ∃ t : List S23 × List S23 × Bool, c.f3.length ≤ 20000 → (t.1.length ≤ c.f3.length ∧ t.2.1.length ≤ c.f3.length) ∧ ((t.2.2 = true → (axC c.f0 = 1 ∨ axC c.f0 = 2) ∧ t.1 = cutP (axC c.f0) c.f1.f0 c.f1.f1 c.f1.f2 c.f1.f3 0 (sizesC c) ∧ (sizesC c).sum + ((sizesC c).length : Int) - 1 = tX (axC c.f0) c.f1.f2 c.f1.f3 ∧ ∀ m, m ∈ sizesC c → 1 ≤ m)) ∧ Ev (fun k => rect_Cut.f k c.f1.f0 c.f1.f1 c.f1.f2 c.f1.f3 (axC c.f0) (sizesC c)) t ∧ Ev (fun k => sashref04_Cut.f k c.f1.f0 c.f1.f1 c.f1.f2 c.f1.f3 (axC c.f0) (sizesC c)) t := by
  by_cases h : c.f3.length ≤ 20000
  · obtain ⟨t, h1, hg, h2, h3⟩ := Pure.cut_alike c.f1.f0 c.f1.f1 c.f1.f2 c.f1.f3 (axC c.f0) (by unfold axC U8; omega) (sizesC c) (by simpa [sizesC] using h)
    rw [show (sizesC c).length = c.f3.length from by simp [sizesC]] at h1
    exact ⟨t, fun _ => ⟨h1, hg, h2, h3⟩⟩
  · exact ⟨([], [], false), fun h' => absurd h' h⟩
noncomputable def cutT (c : S26) : List S23 × List S23 × Bool := Classical.choose (cut_any c)
theorem cutT_spec (c : S26) (h : c.f3.length ≤ 20000) : ((cutT c).1.length ≤ c.f3.length ∧ (cutT c).2.1.length ≤ c.f3.length) ∧ (((cutT c).2.2 = true → (axC c.f0 = 1 ∨ axC c.f0 = 2) ∧ (cutT c).1 = cutP (axC c.f0) c.f1.f0 c.f1.f1 c.f1.f2 c.f1.f3 0 (sizesC c) ∧ (sizesC c).sum + ((sizesC c).length : Int) - 1 = tX (axC c.f0) c.f1.f2 c.f1.f3 ∧ ∀ m, m ∈ sizesC c → 1 ≤ m)) ∧ Ev (fun k => rect_Cut.f k c.f1.f0 c.f1.f1 c.f1.f2 c.f1.f3 (axC c.f0) (sizesC c)) (cutT c) ∧ Ev (fun k => sashref04_Cut.f k c.f1.f0 c.f1.f1 c.f1.f2 c.f1.f3 (axC c.f0) (sizesC c)) (cutT c) := Classical.choose_spec (cut_any c) h
noncomputable def oneB (c : S26) : Bool := oneT c (cutT c)
noncomputable def linesB (c : S26) : List S23 := linesT c (cutT c)
noncomputable def tilesB (c : S26) : Bool := (allC c).all oneB
theorem linesB_len (c : S26) (h : c.f3.length ≤ 20000) : (linesB c).length ≤ c.f3.length := by
  unfold linesB linesT
  split
  · exact Nat.zero_le _
  · exact (cutT_spec c h).1.2
theorem tilesB_eq (c : S26) : tilesB c = (oneB c && c.f3.all tilesB) := by
  unfold tilesB
  rw [allC_eq, List.all_cons]
  congr 1
  generalize c.f3 = l
  induction l with
  | nil => rw [allL_nil]; rfl
  | cons x xs ih => rw [allL_cons, List.all_append, List.all_cons, ih]
theorem tile_cut_ev (c : S26) (h : c.f3.length ≤ 20000) : Ev (fun k => tile_cut.f k c.f0 c.f1.f0 c.f1.f1 c.f1.f2 c.f1.f3 c.f2 c.f3) (cutT c) := by
  have key : ∀ (rest pre : List S26), pre ++ rest = c.f3 → Ev (fun k => tile_cut.l0 k (pre.map (szK c)) c.f3 (c.f3.length : Int) (pre.length : Int) c.f0 c.f1.f0 c.f1.f1 c.f1.f2 c.f1.f3 c.f2 c.f3) (cutT c) := by
    intro rest
    induction rest with
    | nil =>
      intro pre hp
      rw [List.append_nil] at hp
      subst hp
      refine Ev.step (f := fun k => (rect_Cut.f k c.f1.f0 c.f1.f1 c.f1.f2 c.f1.f3 (axC c.f0) (sizesC c)).bind fun bt => some (bt.1, bt.2.1, bt.2.2)) (fun k => ?_) (Ev.bind (cutT_spec c h).2.2.1 (Ev.now _))
      simp only [tile_cut.l0]
      rw [if_neg (by omega)]
      rfl
    | cons x xs ih =>
      intro pre hp
      have hl : (pre.length : Int) < (c.f3.length : Int) := by rw [← hp, List.length_append, List.length_cons]; omega
      have hr : rd_T26 c.f3 (pre.length : Int) = x := by rw [← hp]; exact rd26_in pre x xs
      have hu : wrap64 ((pre.length : Int) + 1) = ((pre ++ [x]).length : Int) := up_in pre x xs (by rw [hp]; omega)
      have e2 := ih (pre ++ [x]) (by rw [List.append_assoc]; exact hp)
      have hm : (pre ++ [x]).map (szK c) = pre.map (szK c) ++ [szK c x] := by simp
      rw [hm] at e2
      refine Ev.step (fun k => ?_) e2
      simp only [tile_cut.l0]
      rw [if_pos hl, if_pos (by omega), if_pos hl, hr, hu, List.length_map]
      by_cases h2 : c.f0 = 2
      · rw [if_pos h2, if_pos (by omega), show szK c x = x.f1.f2 from if_pos h2]
      · rw [if_neg h2, if_pos (by omega), show szK c x = x.f1.f3 from if_neg h2]
  unfold tile_cut.f
  exact key c.f3 [] rfl
theorem lines_rounds (c : S26) (h : c.f3.length ≤ 20000) : ∃ k, c.f0 ≠ 1 → tile_cut.f k c.f0 c.f1.f0 c.f1.f1 c.f1.f2 c.f1.f3 c.f2 c.f3 = some (cutT c) := by
  obtain ⟨k, hk⟩ := tile_cut_ev c h
  exact ⟨k, fun _ => hk k (Nat.le_refl _)⟩
end Go.Proofs.Ytfdmfgaiblfbhaa.P
/- The walker of package tile: it goes through a tree that may be, and tells whether all its cells tile. -/
namespace Go.Proofs.Ytfdmfgaiblfbhaa.P
open Go.RowKit Go.Proofs.YtfdmfgaiblfbhaaW.PrintWords Go.Proofs.YtfdmfgaiblfbhaaW.PrintLast Go.Proofs.YtfdmfgaiblfbhaaW.PrintMore
set_option linter.unusedVariables false
set_option linter.unusedSimpArgs false
/-- The walker's block, and its row of lines. -/
def WalkI (w0 : World) (gw j : Nat) (W : World) : Prop := Below w0.heap.size w0 W ∧ ∃ (n : Int) (v : Value) (ls : List S23), W.heap[gw]? = some (.cells #[.int .i64 n, v] 182 (0, 0)) ∧ Kd.R k23 23 W w0.heap.size (fun _ => True) v ls ∧ ls.length ≤ j
/-- All blocks but the walker's, and but rows of lines, stay. -/
def Fr (gw : Nat) (W W' : World) : Prop := ∀ k cs t, k ≠ gw → t ≠ 23 → W.heap[k]? = some (.cells cs t (0, 0)) → W'.heap[k]? = some (.cells cs t (0, 0))
theorem Fr.refl (gw : Nat) (W : World) : Fr gw W W := fun _ _ _ _ _ h => h
theorem Fr.trans {gw : Nat} {W W1 W2 : World} (h : Fr gw W W1) (k : Fr gw W1 W2) : Fr gw W W2 := fun i cs t hi ht hb => k i cs t hi ht (h i cs t hi ht hb)
theorem Fr.below {gw : Nat} {W W1 : World} (h : Below W.heap.size W W1) : Fr gw W W1 := fun _ _ _ _ _ hb => blk_below hb h
theorem Fr.store {gw : Nat} {W W1 : World} (h : W.grownBy W1 (some gw)) : Fr gw W W1 := fun _ _ _ hi _ hb => blk_grown hb h (fun e => absurd (Option.some.inj e) hi)
theorem Fr.append {gw base : Nat} {W W1 : World} {v : Value} {xs : List S23} {ok : Nat → Prop} (hv : Kd.R k23 23 W base ok v xs) (h : W.grownBy W1 v.ownBlock) : Fr gw W W1 := fun _ _ _ _ ht hb => blk_grown hb h (Kd.R_ne hv hb (fun e => ht e.symm))
theorem WalkI.below {w0 W W1 : World} {gw j : Nat} (h : WalkI w0 gw j W) (hb : Below W.heap.size W W1) : WalkI w0 gw j W1 := by
  obtain ⟨h1, n, v, ls, h2, h3, h4⟩ := h
  exact ⟨below_step h1 hb, n, v, ls, blk_below h2 hb, Kd.R_below h3 hb, h4⟩
theorem WalkI.mono {w0 W : World} {gw j j' : Nat} (h : WalkI w0 gw j W) (hj : j ≤ j') : WalkI w0 gw j' W := by
  obtain ⟨h1, n, v, ls, h2, h3, h4⟩ := h
  exact ⟨h1, n, v, ls, h2, h3, Nat.le_trans h4 hj⟩
set_option maxHeartbeats 1000000 in
theorem clo207 (x : S26) (B : Option Addr) (cb b3 gw : Nat) (r : Bool) (R : World → Prop) (W : World) (hk : W.heap[b3]? = some (.cells #[.pointer (some ⟨gw, 0, none⟩)] 180 (0, 0)))
    (h : ∀ W1, Below W.heap.size W W1 → Calls Try.prog 197 #[.pointer (some ⟨gw, 0, none⟩), .agg #[.int .u8 x.f0, .int .i64 x.f1.f0, .int .i64 x.f1.f1, .int .i64 x.f1.f2, .int .i64 x.f1.f3, .int .i64 x.f2, .slice B x.f3.length cb]] W1 fun e w' => e = .returned (.bool r) ∧ R w') :
    Calls Try.prog 207 (#[.agg #[.int .u8 x.f0, .int .i64 x.f1.f0, .int .i64 x.f1.f1, .int .i64 x.f1.f2, .int .i64 x.f1.f3, .int .i64 x.f2, .slice B x.f3.length cb]] ++ #[.pointer (some ⟨b3, 0, none⟩)]) W fun e w' => e = .returned (.bool (!r)) ∧ R w' := by
  have HK := Aside0.mk hk
  have H := Aside0.mk h
  clear hk h
  simp only [List.append_toArray, List.cons_append, List.nil_append]
  cases r
  all_goals
    go_enter Try.func207, Try.ntmps207
    go_wp2_with (first
      | ((with_reducible refine gate_dst (N := 2) rfl ?_); refine box_event ?hg (N := 2) ?hd (cs := #[.int .u8 x.f0, .int .i64 x.f1.f0, .int .i64 x.f1.f1, .int .i64 x.f1.f2, .int .i64 x.f1.f3, .int .i64 x.f2, .slice B x.f3.length cb]) (t := 26) ?hr ?_; (case hd => rfl); (case hg => rfl); (case hr => first | (go_simp; done) | (go_simp; rfl)); intro b2 hg wb2 hbox hb; have Kb2 := Aside0.mk hbox; have HB := Aside0.mk hb; have K3 := Aside0.mk (blk_below HK.out hb); have d0 := (blk_cell K3.out 0).trans rfl; have c0 := (blk_cell Kb2.out 0).trans rfl; have c1 := (blk_cell Kb2.out 1).trans rfl; have c2 := (blk_cell Kb2.out 2).trans rfl; have c3 := (blk_cell Kb2.out 3).trans rfl; have c4 := (blk_cell Kb2.out 4).trans rfl; have c5 := (blk_cell Kb2.out 5).trans rfl; have c6 := (blk_cell Kb2.out 6).trans rfl; clear hb hbox hg)
      | fail)
    clear c0 c1 c2 c3 c4 c5 c6 d0
    refine (H.out _ HB.out).mono ?_
    rintro e w' ⟨rfl, hR⟩
    have HR := Aside0.mk hR
    clear hR
    go_wp2
    go_ret
    exact ⟨rfl, HR.out⟩

def tile_walk.T5 : Bool × List (List Nat × List Nat) := (true, [([], []), ([], []), ([1], [1]), ([2], [2]), ([3], [3]), ([], []), ([4, 5], [4, 5]), ([0, 0, 1, 2, 3, 4, 5, 6], [0]), ([7, 0, 1, 2, 3, 4, 5, 6], [7]), ([8, 6, 6, 0, 1, 2, 3, 4, 5, 6], [6, 8])])
def tile_walk.B5 : List Nat := [0, 0, 2, 6, 14, 0, 62, 127, 255, 511]
theorem tile_walk.tab5 : rtab .any (opsOf Try.f197 5) = tile_walk.T5 := by kernel_rfl
theorem tile_walk.bits5 : waitsOk tile_walk.T5.2 tile_walk.B5 = true := by kernel_rfl
set_option maxHeartbeats 4000000 in
set_option maxRecDepth 100000 in
theorem walk197 (w0 : World) (gw : Nat) (hgw : w0.heap.size ≤ gw) : ∀ (N : Nat) (c : S26), sz c ≤ N → N ≤ 20000 → ∀ (A : Option Addr) (cc : Nat), Kd.C k26 w0 A c.f3.length c.f3 → c.f3.length ≤ cc → ∀ (j : Nat) (W : World), j + szL c.f3 ≤ 1000000 → WalkI w0 gw j W →
    Calls Try.prog 197 #[.pointer (some ⟨gw, 0, none⟩), .agg #[.int .u8 c.f0, .int .i64 c.f1.f0, .int .i64 c.f1.f1, .int .i64 c.f1.f2, .int .i64 c.f1.f3, .int .i64 c.f2, .slice A c.f3.length cc]] W fun e w' => e = .returned (.bool (tilesB c)) ∧ WalkI w0 gw (j + szL c.f3) w' ∧ Fr gw W w' := by
  intro N
  induction N with
  | zero => intro c h; rw [sz_eq] at h; omega
  | succ N ih =>
    intro c hc hN A cc hr hlc j W hj hI
    have hsz := sz_eq c
    have hlen := szL_len c.f3
    have hKids : ∀ (b2 j1 : Nat) (W1 : World), b2 ≠ gw → W1.heap[b2]? = some (.cells #[.pointer (some ⟨gw, 0, none⟩)] 180 (0, 0)) → WalkI w0 gw j1 W1 → j1 ≤ j + c.f3.length →
        Calls Try.prog 174 #[.slice A c.f3.length cc, .func (.func 207) #[] #[.pointer (some ⟨b2, 0, none⟩)]] W1 fun e w' => e = .returned (.bool (!(c.f3.all tilesB))) ∧ WalkI w0 gw (j + szL c.f3) w' ∧ Fr gw W1 w' := by
      intro b2 j1 W1 hne hk hi hj1
      have hcon := cons174 (fun rest w' => (∃ i, WalkI w0 gw i w' ∧ i + szL rest ≤ (j + szL c.f3) + rest.length) ∧ Fr gw W1 w') (fun x => !tilesB x) 207 #[.pointer (some ⟨b2, 0, none⟩)] (enters_fn Try.func207 (by decide +kernel) (by kernel_rfl)) c.f3 A cc w0 hr
        (fun s w' h => by obtain ⟨⟨i, h1, _⟩, _⟩ := h; exact h1.1)
        (fun s w' n h => by obtain ⟨⟨i, h1, h2⟩, h3⟩ := h; exact ⟨⟨i, h1.below (pw_below_drewN (Below.refl _ _) n), h2⟩, h3.trans (Fr.below (pw_below_drewN (Below.refl _ _) n))⟩)
        (fun x rest w' B cb hx hp h hCx hlx => by
          obtain ⟨⟨i, h1, h2⟩, h3⟩ := h
          obtain ⟨pre, hp⟩ := hp
          have e1 : szL c.f3 = szL pre + (sz x + szL rest) := by rw [← hp, szL_app, szL_cons]
          have e2 := sz_eq x
          have e3 := szL_len rest
          have e4 := szL_len pre
          rw [szL_cons, List.length_cons] at h2
          refine (clo207 x B cb b2 gw (tilesB x) (fun w'' => WalkI w0 gw (i + szL x.f3) w'' ∧ Fr gw W1 w'') w' (h3 b2 _ 180 hne (by decide) hk) (fun W2 hb2 => ?_)).mono ?_
          · refine (ih x (by omega) (by omega) B cb hCx hlx i W2 (by omega) (h1.below hb2)).mono ?_
            rintro e w'' ⟨he, hi2, hf⟩
            exact ⟨he, hi2, h3.trans ((Fr.below hb2).trans hf)⟩
          · rintro e w'' ⟨he, hi2, hf⟩
            refine ⟨he, ⟨⟨i + szL x.f3, hi2, ?_⟩, hf⟩⟩
            split
            · rw [szL_nil]; show _ ≤ _ + 0; omega
            · omega)
        W1 ⟨⟨j1, hi, by omega⟩, Fr.refl gw W1⟩ hr.2.1
      refine hcon.mono ?_
      rintro e w' ⟨he, ⟨i, h1, h2⟩, h3⟩
      rw [szL_nil] at h2
      refine ⟨?_, h1.mono (by simpa using h2), h3⟩
      rw [he, List.not_all_eq_any_not]
    have hone : c.f3.length ≤ 20000 := by omega
    obtain ⟨k0, hk0⟩ := lines_rounds c hone
    have hll := linesB_len c hone
    have hL : ∀ W1, Below w0.heap.size w0 W1 → Calls Try.prog 206 #[.agg #[.int .u8 c.f0, .int .i64 c.f1.f0, .int .i64 c.f1.f1, .int .i64 c.f1.f2, .int .i64 c.f1.f3, .int .i64 c.f2, .slice A c.f3.length cc]] W1 fun e w' => ∃ v : Value, e = .returned (.tuple #[v, .bool (oneB c)]) ∧ Kd.R k23 23 w' W1.heap.size (fun _ => True) v (linesB c) ∧ Below W1.heap.size W1 w' := fun W1 hb => lines206 k0 c A cc (cutT c) W1 (Kd.C_below hr hb) hlc hk0
    rw [tilesB_eq]
    obtain ⟨hB, n, v, ls, hK, hV, hls⟩ := hI
    obtain ⟨Av, cv, ev⟩ := Kd.R_slice hV
    subst ev
    have HB := Aside0.mk hB
    have KW := Aside0.mk hK
    have RV := Aside0.mk hV
    have FR := Aside0.mk (Fr.refl gw W)
    have HGW := Aside0.mk hgw
    have HKids := Aside0.mk hKids
    have HL := Aside0.mk hL
    have HLS := Aside0.mk hls
    have HLL := Aside0.mk hll
    have HJ := Aside0.mk hj
    have HN := Aside0.mk hlen
    clear hB hK hV hKids hL hls hll hj hlen hone hk0 hsz ih hr hlc hc hN
    obtain ⟨ck, ⟨cx, cy, cw, ch⟩, cid, l⟩ := c
    simp only [] at HKids HL HLL HJ HN ⊢
    generalize oneB ⟨ck, ⟨cx, cy, cw, ch⟩, cid, l⟩ = q at HL ⊢
    generalize linesB ⟨ck, ⟨cx, cy, cw, ch⟩, cid, l⟩ = us at HL HLL
    generalize l.all tilesB = p at HKids ⊢
    cases q with
    | false =>
      rw [Bool.false_and]
      go_enter Try.func197, Try.ntmps197
      go_wp2_with (first
        | ((with_reducible refine gate_dst (N := 2) rfl ?_); refine box_event ?hg (N := 2) ?hd (cs := #[.pointer (some ⟨gw, 0, none⟩)]) (t := 180) ?hr ?_; (case hd => rfl); (case hg => rfl); (case hr => first | (go_simp; done) | (go_simp; rfl)); intro b2 hg wb2 hbox hb; have Kb2 := Aside0.mk hbox; have NE2 := Aside0.mk (show b2 ≠ gw by rw [hg]; exact Nat.ne_of_gt (blk_lt KW.out)); have q_HB := Aside0.mk (below_step HB.out hb); have q_KW := Aside0.mk (blk_below KW.out hb); have q_RV := Aside0.mk (Kd.R_below RV.out hb); have q_FR := Aside0.mk (FR.out.trans (Fr.below hb)); clear HB KW RV FR; have HB := q_HB; have KW := q_KW; have RV := q_RV; have FR := q_FR; clear q_HB q_KW q_RV q_FR; clear hb hbox hg)
        | ((with_reducible refine gate_dst (N := 3) rfl ?_); refine box_event ?hg (N := 3) ?hd (cs := #[.int .u8 ck, .int .i64 cx, .int .i64 cy, .int .i64 cw, .int .i64 ch, .int .i64 cid, .slice A l.length cc]) (t := 26) ?hr ?_; (case hd => rfl); (case hg => rfl); (case hr => first | (go_simp; done) | (go_simp; rfl)); intro b3 hg wb3 hbox hb; have Kb3 := Aside0.mk hbox; have NE3 := Aside0.mk (show b3 ≠ gw by rw [hg]; exact Nat.ne_of_gt (blk_lt KW.out)); have q_HB := Aside0.mk (below_step HB.out hb); have q_KW := Aside0.mk (blk_below KW.out hb); have q_RV := Aside0.mk (Kd.R_below RV.out hb); have q_FR := Aside0.mk (FR.out.trans (Fr.below hb)); have q_Kb2 := Aside0.mk (blk_below Kb2.out hb); clear HB KW RV FR Kb2; have HB := q_HB; have KW := q_KW; have RV := q_RV; have FR := q_FR; have Kb2 := q_Kb2; clear q_HB q_KW q_RV q_FR q_Kb2; have c0 := (blk_cell Kb3.out 0).trans rfl; have c1 := (blk_cell Kb3.out 1).trans rfl; have c2 := (blk_cell Kb3.out 2).trans rfl; have c3 := (blk_cell Kb3.out 3).trans rfl; have c4 := (blk_cell Kb3.out 4).trans rfl; have c5 := (blk_cell Kb3.out 5).trans rfl; have c6 := (blk_cell Kb3.out 6).trans rfl; clear hb hbox hg)
        | fail)
      clear c0 c1 c2 c3 c4 c5 c6
      refine (HL.out _ HB.out).mono ?_
      rintro e w1 ⟨u, rfl, hu, hb⟩
      have HU := Aside0.mk (Kd.R_lower hu HB.out.size)
      clear hu
      have q_HB := Aside0.mk (below_step HB.out hb); have q_KW := Aside0.mk (blk_below KW.out hb); have q_RV := Aside0.mk (Kd.R_below RV.out hb); have q_FR := Aside0.mk (FR.out.trans (Fr.below hb)); have q_Kb2 := Aside0.mk (blk_below Kb2.out hb); have q_Kb3 := Aside0.mk (blk_below Kb3.out hb); clear HB KW RV FR Kb2 Kb3; have HB := q_HB; have KW := q_KW; have RV := q_RV; have FR := q_FR; have Kb2 := q_Kb2; have Kb3 := q_Kb3; clear q_HB q_KW q_RV q_FR q_Kb2 q_Kb3
      clear hb
      obtain ⟨Au, cu, eu⟩ := Kd.R_slice HU.out
      subst eu
      go_wp2
      go_ret
      exact ⟨rfl, ⟨HB.out, n, _, ls, KW.out, RV.out, by have := HLS.out; omega⟩, FR.out⟩
    | true =>
      rw [Bool.true_and]
      go_enter Try.func197, Try.ntmps197
      go_wp2_with (first
        | ((with_reducible refine gate_dst (N := 2) rfl ?_); refine box_event ?hg (N := 2) ?hd (cs := #[.pointer (some ⟨gw, 0, none⟩)]) (t := 180) ?hr ?_; (case hd => rfl); (case hg => rfl); (case hr => first | (go_simp; done) | (go_simp; rfl)); intro b2 hg wb2 hbox hb; have Kb2 := Aside0.mk hbox; have NE2 := Aside0.mk (show b2 ≠ gw by rw [hg]; exact Nat.ne_of_gt (blk_lt KW.out)); have q_HB := Aside0.mk (below_step HB.out hb); have q_KW := Aside0.mk (blk_below KW.out hb); have q_RV := Aside0.mk (Kd.R_below RV.out hb); have q_FR := Aside0.mk (FR.out.trans (Fr.below hb)); clear HB KW RV FR; have HB := q_HB; have KW := q_KW; have RV := q_RV; have FR := q_FR; clear q_HB q_KW q_RV q_FR; clear hb hbox hg)
        | ((with_reducible refine gate_dst (N := 3) rfl ?_); refine box_event ?hg (N := 3) ?hd (cs := #[.int .u8 ck, .int .i64 cx, .int .i64 cy, .int .i64 cw, .int .i64 ch, .int .i64 cid, .slice A l.length cc]) (t := 26) ?hr ?_; (case hd => rfl); (case hg => rfl); (case hr => first | (go_simp; done) | (go_simp; rfl)); intro b3 hg wb3 hbox hb; have Kb3 := Aside0.mk hbox; have NE3 := Aside0.mk (show b3 ≠ gw by rw [hg]; exact Nat.ne_of_gt (blk_lt KW.out)); have q_HB := Aside0.mk (below_step HB.out hb); have q_KW := Aside0.mk (blk_below KW.out hb); have q_RV := Aside0.mk (Kd.R_below RV.out hb); have q_FR := Aside0.mk (FR.out.trans (Fr.below hb)); have q_Kb2 := Aside0.mk (blk_below Kb2.out hb); clear HB KW RV FR Kb2; have HB := q_HB; have KW := q_KW; have RV := q_RV; have FR := q_FR; have Kb2 := q_Kb2; clear q_HB q_KW q_RV q_FR q_Kb2; have c0 := (blk_cell Kb3.out 0).trans rfl; have c1 := (blk_cell Kb3.out 1).trans rfl; have c2 := (blk_cell Kb3.out 2).trans rfl; have c3 := (blk_cell Kb3.out 3).trans rfl; have c4 := (blk_cell Kb3.out 4).trans rfl; have c5 := (blk_cell Kb3.out 5).trans rfl; have c6 := (blk_cell Kb3.out 6).trans rfl; clear hb hbox hg)
        | fail)
      clear c0 c1 c2 c3 c4 c5 c6
      refine (HL.out _ HB.out).mono ?_
      rintro e w1 ⟨u, rfl, hu, hb⟩
      have HU := Aside0.mk (Kd.R_lower hu HB.out.size)
      clear hu
      have q_HB := Aside0.mk (below_step HB.out hb); have q_KW := Aside0.mk (blk_below KW.out hb); have q_RV := Aside0.mk (Kd.R_below RV.out hb); have q_FR := Aside0.mk (FR.out.trans (Fr.below hb)); have q_Kb2 := Aside0.mk (blk_below Kb2.out hb); have q_Kb3 := Aside0.mk (blk_below Kb3.out hb); clear HB KW RV FR Kb2 Kb3; have HB := q_HB; have KW := q_KW; have RV := q_RV; have FR := q_FR; have Kb2 := q_Kb2; have Kb3 := q_Kb3; clear q_HB q_KW q_RV q_FR q_Kb2 q_Kb3
      clear hb
      obtain ⟨Au, cu, eu⟩ := Kd.R_slice HU.out
      subst eu
      have d0 := (blk_cell Kb2.out 0).trans rfl
      have e0 := (blk_cell KW.out 0).trans rfl
      have e1 := (blk_cell KW.out 1).trans rfl
      go_wp2_with (first
        | ((with_reducible refine gate_ (.store 3 (.tmp 20) (.tmp 18)) rfl ?_); go_loud (refine box_store (w0 := w0) rfl rfl 3 (.tmp 20) (.tmp 18) rfl (g := gw) (j := 0) (base := w0.heap.size) #[.int .i64 (wrap64 (n + 1)), .slice Av ls.length cv] (u := .int .i64 (wrap64 (n + 1))) (seg := [.int .i64 (wrap64 (n + 1))]) ?sA ?sX rfl ?sT ?s1 KW.out ?sJ rfl HB.out HB.out.size HGW.out ?_; (case sA => rfl); (case sX => rfl); (case sT => rfl); (case s1 => (simp [Value.oneCell'])); (case sJ => (first | decide | simp)); intro ws hbk hbb hgg; have q_RV := Aside0.mk (Kd.R_grown2 RV.out rfl hgg (fun k_ hk => hk ▸ Kd.R_ne RV.out KW.out (by decide))); have q_HU := Aside0.mk (Kd.R_grown2 HU.out rfl hgg (fun k_ hk => hk ▸ Kd.R_ne HU.out KW.out (by decide))); have q_FR := Aside0.mk (FR.out.trans (Fr.store hgg)); have q_Kb2 := Aside0.mk (blk_grown Kb2.out hgg (fun e_ => absurd (Option.some.inj e_) NE2.out)); have q_Kb3 := Aside0.mk (blk_grown Kb3.out hgg (fun e_ => absurd (Option.some.inj e_) NE3.out)); clear RV HU FR Kb2 Kb3; have RV := q_RV; have HU := q_HU; have FR := q_FR; have Kb2 := q_Kb2; have Kb3 := q_Kb3; clear q_RV q_HU q_FR q_Kb2 q_Kb3; clear KW HB d0 e0 e1; have KW := Aside0.mk hbk; have HB := Aside0.mk hbb; clear hbk hbb hgg))
        | fail)
      have hb : Below ws.heap.size ws ws.drew := below_drew (Below.refl _ _)
      have q_HB := Aside0.mk (below_step HB.out hb); have q_KW := Aside0.mk (blk_below KW.out hb); have q_RV := Aside0.mk (Kd.R_below RV.out hb); have q_FR := Aside0.mk (FR.out.trans (Fr.below hb)); have q_Kb2 := Aside0.mk (blk_below Kb2.out hb); have q_Kb3 := Aside0.mk (blk_below Kb3.out hb); have q_HU := Aside0.mk (Kd.R_below HU.out hb); clear HB KW RV FR Kb2 Kb3 HU; have HB := q_HB; have KW := q_KW; have RV := q_RV; have FR := q_FR; have Kb2 := q_Kb2; have Kb3 := q_Kb3; have HU := q_HU; clear q_HB q_KW q_RV q_FR q_Kb2 q_Kb3 q_HU
      clear hb
      refine start_ (n := 10) (S := fun w' => Below w0.heap.size w0 w' ∧ w'.heap[b2]? = some (.cells #[.pointer (some ⟨gw, 0, none⟩)] 180 (0, 0)) ∧ w'.heap[gw]? = some (.cells #[.int .i64 (wrap64 (n + 1)), .slice Av ls.length cv] 182 (0, 0))) (ds := [9]) #[false, false, false, false, false, false, false, false, false, false] (by kernel_rfl) rfl rfl ⟨HB.out, Kb2.out, KW.out⟩ (fun hHeld => ?_); refine with_tabW tile_walk.tab5 tile_walk.bits5 (fun HT_ HW_ => ?_)
      generalize ws.drew = wd at HB KW RV FR Kb2 Kb3 HU hHeld ⊢
      refine take_ (i := 0) (N := some 21) (v := ?_) (a' := ?_) #[true, false, false, false, false, false, false, false, false, false] rfl rfl (take_ofW HT_.out HW_.out (by kernel_rfl)) (fun _ _ _ h => h) (Or.inl ⟨by rfl, ?_⟩) hHeld ?_ ?_
      rotate_left
      · intro w' hs_
        have c := (blk_cell hs_.2.1 0).trans rfl
        go_simp; with_reducible rfl
      rotate_left
      · simp only [Act.put, List.setIfInBounds_toArray, List.set_cons_zero, List.set_cons_succ, i64_w, i32_w]
        rfl
      refine take_ (i := 1) (N := some 22) (v := ?_) (a' := ?_) #[true, true, false, false, false, false, false, false, false, false] rfl rfl (take_ofW HT_.out HW_.out (by kernel_rfl)) (fun _ _ _ h => h) (Or.inl ⟨by rfl, ?_⟩) hHeld ?_ ?_
      rotate_left
      · intro w' hs_
        have c := (blk_cell hs_.2.1 0).trans rfl
        go_simp; with_reducible rfl
      rotate_left
      · simp only [Act.put, List.setIfInBounds_toArray, List.set_cons_zero, List.set_cons_succ, i64_w, i32_w]
        rfl
      refine pure_ (i := 2) (N := some 23) (v := ?_) (a' := ?_) #[true, true, true, false, false, false, false, false, false, false] rfl rfl (any_of HT_.out (by kernel_rfl)) (fun _ _ _ h => h) (Or.inl ⟨by rfl, ?_⟩) ?_ ?_
      rotate_left
      · intro w'; go_simp; with_reducible rfl
      rotate_left
      · simp only [Act.put, List.setIfInBounds_toArray, List.set_cons_zero, List.set_cons_succ, i64_w, i32_w]
        rfl
      refine pure_ (i := 3) (N := some 24) (v := ?_) (a' := ?_) #[true, true, true, true, false, false, false, false, false, false] rfl rfl (any_of HT_.out (by kernel_rfl)) (fun _ _ _ h => h) (Or.inl ⟨by rfl, ?_⟩) ?_ ?_
      rotate_left
      · intro w'; go_simp; with_reducible rfl
      rotate_left
      · simp only [Act.put, List.setIfInBounds_toArray, List.set_cons_zero, List.set_cons_succ, i64_w, i32_w]
        rfl
      refine take_ (i := 4) (N := some 25) (v := ?_) (a' := ?_) #[true, true, true, true, true, false, false, false, false, false] rfl rfl (take_ofW HT_.out HW_.out (by kernel_rfl)) (fun _ _ _ h => h) (Or.inl ⟨by rfl, ?_⟩) hHeld ?_ ?_
      rotate_left
      · intro w' hs_
        have c := (blk_cell hs_.2.2 1).trans rfl
        go_simp; with_reducible rfl
      rotate_left
      · simp only [Act.put, List.setIfInBounds_toArray, List.set_cons_zero, List.set_cons_succ, i64_w, i32_w]
        rfl
      refine pure_ (i := 5) (N := some 26) (v := ?_) (a' := ?_) #[true, true, true, true, true, true, false, false, false, false] rfl rfl (any_of HT_.out (by kernel_rfl)) (fun _ _ _ h => h) (Or.inl ⟨by rfl, ?_⟩) ?_ ?_
      rotate_left
      · intro w'; go_simp; with_reducible rfl
      rotate_left
      · simp only [Act.put, List.setIfInBounds_toArray, List.set_cons_zero, List.set_cons_succ, i64_w, i32_w]
        rfl
      refine one_ (i := 6) (N := some 27) #[true, true, true, true, true, true, true, false, false, false] rfl rfl (one_of HT_.out (by kernel_rfl)) (by decide) (fun K hK => ?_)
      refine Kd.R_append_rows_step k23 (w0 := w0) w0.heap.size (by rfl) (.tmp 25) (.tmp 26) 42 23 (.agg #[(.int .i64 0), (.int .i64 0), (.int .i64 0), (.int .i64 0)]) 32 rfl Try.underlying42 info23 rfl (by decide) (by omega) (.slice Av ls.length cv) ls us Au us.length cu (fun _ => True) (fun _ => False) rfl rfl RV.out (Kd.R_reads' HU.out).2.2 (fun _ _ h => h) (fun _ h => h.elim) (fun _ _ => trivial) HB.out HB.out.size (by have h1 := HLS.out; have h2 := HLL.out; have h3 := HJ.out; have h4 := HN.out; omega) ?_
      intro v1 wk ho hb hg hat
      have q1 := Aside0.mk (FR.out.trans (Fr.append RV.out hg))
      have q2 := Aside0.mk (blk_grown Kb2.out hg (Kd.R_ne RV.out Kb2.out (by decide)))
      have q3 := Aside0.mk (blk_grown Kb3.out hg (Kd.R_ne RV.out Kb3.out (by decide)))
      have q4 := Aside0.mk (blk_grown KW.out hg (Kd.R_ne RV.out KW.out (by decide)))
      clear FR Kb2 Kb3 KW HB RV HU
      have FR := q1
      have Kb2 := q2
      have Kb3 := q3
      have KW := q4
      have HB := Aside0.mk hb
      have RV := Aside0.mk ho
      clear q1 q2 q3 q4 hb ho hg hat
      obtain ⟨A1, c1, e1⟩ := Kd.R_slice RV.out
      subst e1
      refine hK.out _ _ ⟨HB.out, Kb2.out, KW.out⟩ (fun hHeld => ?_)
      clear hK K
      refine norm_ (a' := ?_) ?_ ?_
      rotate_left
      · show Act.put _ (some 27) _ = _
        simp only [Act.put, List.setIfInBounds_toArray, List.set_cons_zero, List.set_cons_succ, i64_w, i32_w]
        rfl
      refine pure_ (i := 7) (N := some 28) (v := ?_) (a' := ?_) #[true, true, true, true, true, true, true, true, false, false] rfl rfl (any_of HT_.out (by kernel_rfl)) (fun _ _ _ h => h) (Or.inl ⟨by rfl, ?_⟩) ?_ ?_
      rotate_left
      · intro w'; go_simp; with_reducible rfl
      rotate_left
      · simp only [Act.put, List.setIfInBounds_toArray, List.set_cons_zero, List.set_cons_succ, i64_w, i32_w]
        rfl
      refine pure_ (i := 8) (N := some 29) (v := ?_) (a' := ?_) #[true, true, true, true, true, true, true, true, true, false] rfl rfl (any_of HT_.out (by kernel_rfl)) (fun _ _ _ h => h) (Or.inl ⟨by rfl, ?_⟩) ?_ ?_
      rotate_left
      · intro w'; go_simp; with_reducible rfl
      rotate_left
      · simp only [Act.put, List.setIfInBounds_toArray, List.set_cons_zero, List.set_cons_succ, i64_w, i32_w]
        rfl
      refine last_ (i := 9) (N := none) #[true, true, true, true, true, true, true, true, true, true] rfl rfl (one_of HT_.out (by kernel_rfl)) (by decide) (fun K hK => ?_)
      obtain ⟨w9, hw9⟩ : ∃ w9, w9 = wk.setCells gw 1 [.slice A1 (ls ++ us).length c1] := ⟨_, rfl⟩
      have hst := box_cells (j := 1) (cs' := #[.int .i64 (wrap64 (n + 1)), .slice A1 (ls ++ us).length c1]) (seg := [.slice A1 (ls ++ us).length c1]) KW.out (by first | decide | simp) rfl
      rw [← hw9] at hst
      refine skip_ (w1 := w9) (by rfl) rfl ?_ ?_
      · rw [hw9]; exact store_exec 42 (.tmp 29) (.tmp 27) rfl (cs := #[.int .i64 (wrap64 (n + 1)), .slice Av ls.length cv]) (t0 := 182) (seg := [.slice A1 (ls ++ us).length c1]) rfl rfl rfl (by kernel_rfl) (by simp [Value.oneCell']) KW.out (by first | decide | simp)
      have HB9 := Aside0.mk (grown_below HB.out hst.2 HGW.out HB.out.size)
      have RV9 := Aside0.mk (Kd.R_grown2 RV.out rfl hst.2 (fun k_ hk => hk ▸ Kd.R_ne RV.out KW.out (by decide)))
      have FR9 := Aside0.mk (FR.out.trans (Fr.store hst.2))
      have K29 := Aside0.mk (blk_grown Kb2.out hst.2 (fun e_ => absurd (Option.some.inj e_) NE2.out))
      have K39 := Aside0.mk (blk_grown Kb3.out hst.2 (fun e_ => absurd (Option.some.inj e_) NE3.out))
      have KW9 := Aside0.mk hst.1
      clear hst
      refine hK.out _ _ ?_
      clear hK K hw9
      refine done_ (done_of HT_.out (by kernel_rfl)) ?_
      have c6 := (blk_cell K39.out 6).trans rfl
      cases p
      all_goals
        go_wp2_with fail
        refine (HKids.out b2 (j + us.length) _ NE2.out K29.out ⟨HB9.out, _, _, _, KW9.out, RV9.out, by have := HLS.out; rw [List.length_append]; omega⟩ (by have := HLL.out; omega)).mono ?_
        rintro e w2 ⟨rfl, hi, hf⟩
        have HI := Aside0.mk hi
        have HF := Aside0.mk (FR9.out.trans hf)
        clear hi hf
        go_wp2
        go_ret
        exact ⟨rfl, HI.out, HF.out⟩
end Go.Proofs.Ytfdmfgaiblfbhaa.P
/- fault.New, fault.In, and slices.Clone at strings, as package tile calls them: an error comes back. -/
namespace Go.Proofs.Ytfdmfgaiblfbhaa.P
open Go.RowKit Go.Proofs.YtfdmfgaiblfbhaaW.PrintWords Go.Proofs.YtfdmfgaiblfbhaaW.PrintLast Go.Proofs.YtfdmfgaiblfbhaaW.PrintMore
set_option linter.unusedVariables false
set_option linter.unusedSimpArgs false
theorem info9s : (Try.prog.info? 9).map (fun i => (i.zero, i.size, i.bytes)) = some (some (.string ⟨#[]⟩), 1, 16) := by kernel_rfl
set_option maxHeartbeats 1000000 in
theorem new196 (e at_ : Int) (he : e ≠ 0) (w : World) : Calls Try.prog 196 #[.int .i64 e, .int .i64 at_] w fun x w' => (∃ t v, x = .returned (.iface t v)) ∧ Below w.heap.size w w' := by
  have hb : (e == 0) = false := beq_eq_false_iff_ne.mpr he
  clear he
  go_enter Try.func196, Try.ntmps196
  go_wp2
  go_ret
  exact ⟨⟨_, _, rfl⟩, below_alloc (Below.refl _ _) _⟩
set_option maxHeartbeats 2000000 in
set_option maxRecDepth 100000 in
theorem clone205 (ad : Addr) (c0 : Nat) (l0 : List ByteArray) (hl : l0.length ≤ 1000) (w : World) (hr0 : Kd.C Kd.string w (some ad) l0.length l0) (hc0 : l0.length ≤ c0) :
    Calls Try.prog 205 #[.slice (some ad) l0.length c0] w fun e w' => ∃ A n c, e = .returned (.slice A n c) ∧ Below w.heap.size w w' := by
  have heq : ∀ W : World, (binOp .eql 190 (.slice (some ad) l0.length c0) (.slice none 0 0)).run Try.prog W = .ok (.bool false) W := fun W => Lib.run_eql_slice_nil W 190 9 (some ad) l0.length c0 0 0 Try.underlying190
  have HR := Aside0.mk hr0
  have HL := Aside0.mk hl
  clear hl hr0
  go_enter Try.func205, Try.ntmps205
  go_wp2_with (first
    | ((with_reducible refine gate_dst (N := 5) rfl ?_); refine Kd.R_lit Kd.string w.heap.size 9 ?hg (N := 5) ?hd (xs := ([] : List ByteArray)) (inner := []) (ok := fun _ => True) (okp := fun _ => True) ?hr ?hp (fun _ hk => hk) trivial (Below.refl _ _) (Nat.le_refl _) (by simp) ?_; (case hd => rfl); (case hg => rfl); (case hr => first | (go_simp; done) | (go_simp; rfl)); (case hp => exact Reps.none _ _); intro v5 w5 ho hb hg_ hnew_; clear hg_ hnew_; have HO := Aside0.mk ho; have HB := Aside0.mk hb; clear ho hb; obtain ⟨Ao, co, eo⟩ := Kd.R_slice HO.out; subst eo)
    | ((with_reducible refine gate_builtin (b := .append) (xs := #[.tmp 5, .tmp 6]) rfl ?_); at_builtin; refine Kd.R_append_rows (Rr := Kd.string.K w) Kd.string (w0 := w) w.heap.size rfl (.tmp 5) (.tmp 6) 190 9 (.string ⟨#[]⟩) 16 rfl Try.underlying190 info9s rfl (by decide) (by omega) (.slice Ao ([] : List ByteArray).length co) ([] : List ByteArray) l0 _ _ _ (fun _ => True) (fun _ => False) rfl rfl HO.out ?aR (fun _ _ h => h) (fun _ h => h.elim) (fun _ _ => trivial) HB.out HB.out.size ?aL ?_; (case aR => exact Kd.C_below HR.out HB.out); (case aL => have := HL.out; simp; omega); intro v7 w7 ho hb hg_ hat_; have HO7 := Aside0.mk ho; have HB7 := Aside0.mk hb; clear ho hb hg_ hat_)
    | fail)
  obtain ⟨A7, c7, e7⟩ := Kd.R_slice HO7.out
  subst e7
  go_ret
  exact ⟨_, _, _, rfl, HB7.out⟩
set_option maxHeartbeats 2000000 in
set_option maxRecDepth 100000 in
theorem in195 (tv : TypeId) (v : Value) (ad : Addr) (c0 : Nat) (x : ByteArray) (w : World) (hr0 : Kd.C Kd.string w (some ad) 1 [x]) (hc0 : 1 ≤ c0) :
    Calls Try.prog 195 #[.iface tv v, .slice (some ad) 1 c0] w fun e w' => (∃ t u, e = .returned (.iface t u)) ∧ Below w.heap.size w w' := by
  have HCl := Aside0.mk (clone205 ad c0 [x] (by simp) w hr0 hc0)
  clear hr0
  go_enter Try.func195, Try.ntmps195
  go_wp2_with fail
  refine HCl.out.mono ?_
  rintro e w' ⟨A, n, c, rfl, hb⟩
  have HB := Aside0.mk hb
  clear hb
  go_wp2
  go_ret
  exact ⟨⟨_, _, rfl⟩, below_alloc HB.out _⟩
end Go.Proofs.Ytfdmfgaiblfbhaa.P
/- A tree's cells gone through, as long as a test says yes: plain words. -/
namespace Go.Proofs.Ytfdmfgaiblfbhaa.P
open Go.RowKit Go.Proofs.YtfdmfgaiblfbhaaW.PrintWords Go.Proofs.YtfdmfgaiblfbhaaW.PrintLast Go.Proofs.YtfdmfgaiblfbhaaW.PrintMore
section
variable {σ : Type} (step : σ → S26 → Bool × σ)
mutual
def allS : S26 → σ → Bool × σ
  | ⟨a, b, d, l⟩, s => if (step s ⟨a, b, d, l⟩).1 = true then noneS l (step s ⟨a, b, d, l⟩).2 else (false, (step s ⟨a, b, d, l⟩).2)
def noneS : List S26 → σ → Bool × σ
  | [], s => (true, s)
  | k :: ks, s => if (allS k s).1 = true then noneS ks (allS k s).2 else (false, (allS k s).2)
end
theorem allS_eq (c : S26) (s : σ) : allS step c s = if (step s c).1 = true then noneS step c.f3 (step s c).2 else (false, (step s c).2) := by cases c; simp [allS]
theorem noneS_nil (s : σ) : noneS step [] s = (true, s) := by simp [noneS]
theorem noneS_cons (k : S26) (ks : List S26) (s : σ) : noneS step (k :: ks) s = if (allS step k s).1 = true then noneS step ks (allS step k s).2 else (false, (allS step k s).2) := by simp [noneS]
theorem scan_none : ∀ (l : List S26) (s : σ), scanB (fun s k => (!(allS step k s).1, (allS step k s).2)) s l = (!(noneS step l s).1, (noneS step l s).2) := by
  intro l
  induction l with
  | nil => intro s; rw [noneS_nil]; rfl
  | cons k ks ih =>
    intro s
    rw [noneS_cons]
    simp only [scanB]
    cases h : (allS step k s).1 with
    | true => simp [ih]
    | false => simp
/-- One cell after the other. -/
def seqS : List S26 → σ → Bool × σ
  | [], s => (true, s)
  | k :: ks, s => if (step s k).1 = true then seqS ks (step s k).2 else (false, (step s k).2)
theorem seqS_app : ∀ (a b : List S26) (s : σ), seqS step (a ++ b) s = if (seqS step a s).1 = true then seqS step b (seqS step a s).2 else (false, (seqS step a s).2) := by
  intro a
  induction a with
  | nil => intro b s; simp [seqS]
  | cons k ks ih =>
    intro b s
    simp only [List.cons_append, seqS]
    by_cases h : (step s k).1 = true
    · simp [h, ih]
    · simp [h]
theorem allS_seq : ∀ (N : Nat), (∀ c : S26, sz c ≤ N → ∀ s, allS step c s = seqS step (allC c) s) ∧ (∀ l : List S26, szL l ≤ N → ∀ s, noneS step l s = seqS step (allL l) s) := by
  intro N
  induction N with
  | zero =>
    refine ⟨fun c h => ?_, fun l h => ?_⟩
    · rw [sz_eq] at h; omega
    · cases l with
      | nil => intro s; rw [noneS_nil, allL_nil]; rfl
      | cons x xs => rw [szL_cons, sz_eq] at h; omega
  | succ N ih =>
    have hC : ∀ c : S26, sz c ≤ N + 1 → ∀ s, allS step c s = seqS step (allC c) s := by
      intro c h s
      rw [sz_eq] at h
      rw [allS_eq, allC_eq]
      simp only [seqS]
      rw [ih.2 c.f3 (by omega)]
    refine ⟨hC, fun l => ?_⟩
    induction l with
    | nil => intro _ s; rw [noneS_nil, allL_nil]; rfl
    | cons x xs ihl =>
      intro h s
      rw [szL_cons] at h
      rw [noneS_cons, allL_cons, seqS_app, hC x (by omega), ihl (by omega)]
end
end Go.Proofs.Ytfdmfgaiblfbhaa.P
/- May a tree be: plain words. -/
namespace Go.Proofs.Ytfdmfgaiblfbhaa.P
open Go.RowKit Go.Proofs.YtfdmfgaiblfbhaaW.PrintWords Go.Proofs.YtfdmfgaiblfbhaaW.PrintLast Go.Proofs.YtfdmfgaiblfbhaaW.PrintMore

/-- May one cell be, by itself? -/
def okC (c : S26) : Bool := mayR c.f1 && decide (1 ≤ c.f0 ∧ c.f0 ≤ 3) && decide (c.f0 = 1 → c.f3.length = 0 ∧ 0 ≤ c.f2 ∧ c.f2 ≤ 2147483647) && decide (c.f0 > 1 → 2 ≤ c.f3.length ∧ c.f2 = 0)
/-- No number twice? -/
def distinctC : List S26 → Bool
  | [] => true
  | x :: xs => (xs.all fun y => decide (y.f2 ≠ x.f2)) && distinctC xs
def apartTo (pre : List S26) (x : S26) : Bool := pre.all fun y => decide (x.f2 ≠ y.f2)
theorem distinctC_app (pre : List S26) (x : S26) : distinctC (pre ++ [x]) = (distinctC pre && apartTo pre x) := by
  induction pre with
  | nil => simp [distinctC, apartTo]
  | cons y ys ih =>
    have : (decide (x.f2 ≠ y.f2)) = decide (¬ x.f2 = y.f2) := rfl
    simp only [List.cons_append, distinctC, ih, apartTo, List.all_append, List.all_cons, List.all_nil, Bool.and_true]
    cases (ys.all fun z => decide (z.f2 ≠ y.f2)) <;> cases (decide (x.f2 ≠ y.f2)) <;> cases distinctC ys <;> cases (ys.all fun z => decide (x.f2 ≠ z.f2)) <;> rfl
theorem distinctC_pre : ∀ (pre rest : List S26), distinctC pre = false → distinctC (pre ++ rest) = false := by
  intro pre rest h
  induction rest generalizing pre with
  | nil => rw [List.append_nil]; exact h
  | cons x xs ih =>
    have := ih (pre ++ [x]) (by rw [distinctC_app, h, Bool.false_and])
    rwa [List.append_assoc] at this
def mayC (c : S26) : Bool := decide (sz c ≤ 20000) && ((allC c).all okC && distinctC (leavesC c))
end Go.Proofs.Ytfdmfgaiblfbhaa.P
/- slices.IndexFunc, slices.ContainsFunc at S26: what they answer, with any function value that keeps an invariant of the world. -/
namespace Go.Proofs.Ytfdmfgaiblfbhaa.P
open Go.RowKit Go.Proofs.YtfdmfgaiblfbhaaW.PrintWords Go.Proofs.YtfdmfgaiblfbhaaW.PrintLast Go.Proofs.YtfdmfgaiblfbhaaW.PrintMore

set_option maxHeartbeats 2000000 in
set_option maxRecDepth 100000 in
theorem idx192 {σ : Type} (Inv : σ → World → Prop) (step : σ → S26 → Bool × σ) (g : Nat) (lb : Array Value) (eg : ∀ args w, (callFunc g args).run Try.prog w = .ok (.enter g args) w) (l : List S26) (A : Option Addr) (c : Nat)
    (w0 : World) (hR : Kd.C k26 w0 A l.length l) (hW : ∀ s W, Inv s W → Below w0.heap.size w0 W) (hD : ∀ s W n, Inv s W → Inv s (W.drewN n))
    (hcall : ∀ s W (x : S26) (B : Option Addr) (cb : Nat), x ∈ l → Inv s W → Kd.C k26 w0 B x.f3.length x.f3 → x.f3.length ≤ cb → Calls Try.prog g (#[.agg #[.int .u8 x.f0, .int .i64 x.f1.f0, .int .i64 x.f1.f1, .int .i64 x.f1.f2, .int .i64 x.f1.f3, .int .i64 x.f2, .slice B x.f3.length cb]] ++ lb) W fun e w' => e = .returned (.bool (step s x).1) ∧ Inv (step s x).2 w')
    (s : σ) (w : World) (hI : Inv s w) (hl : l.length ≤ 9223372036854775807) :
    Calls Try.prog 192 #[.slice A l.length c, .func (.func g) #[] lb] w fun e w' => e = .returned (.int .i64 (scanI step 0 s l).1) ∧ Inv (scanI step 0 s l).2 w' := by
  have HR := Aside0.mk hR
  have HW := Aside0.mk hW
  have HD := Aside0.mk hD
  have HI := Aside0.mk hI
  have HCall := Aside0.mk hcall
  clear hR hW hcall hD hI
  go_enter Try.func192, Try.ntmps192
  go_wp2
  go_loopg [5, 8] l.length (fun gg _ v8 wr => ∃ (kk : Nat) (t : σ), kk ≤ l.length ∧ l.length - kk ≤ gg ∧ v8 = .int .i64 kk ∧ Aside0 (Inv t wr) ∧ Aside0 (scanI step 0 s l = scanI step kk t (l.drop kk)))
  case atStart => exact ⟨0, s, Nat.zero_le _, by omega, rfl, HI, ⟨by simp⟩⟩
  case round =>
    clear HI
    obtain ⟨kk, t, hkk, hg, rfl, HI, HS⟩ := hrel
    by_cases hlt : kk < l.length
    · have hltz : (kk : Int) < (l.length : Int) := by omega
      obtain ⟨ad, B, cb, rfl, hc0, hc1, hc2, hc3, hc4, hc5, hc6, hlb, hgb⟩ := at_T26 HR.out (kk : Int) (by omega) (by omega)
      have hbw := HW.out t wr HI.out
      replace hc0 := (hbw.cell (World.block_lt_of_cell? w0 _ hc0)).trans hc0
      replace hc1 := (hbw.cell (World.block_lt_of_cell? w0 _ hc1)).trans hc1
      replace hc2 := (hbw.cell (World.block_lt_of_cell? w0 _ hc2)).trans hc2
      replace hc3 := (hbw.cell (World.block_lt_of_cell? w0 _ hc3)).trans hc3
      replace hc4 := (hbw.cell (World.block_lt_of_cell? w0 _ hc4)).trans hc4
      replace hc5 := (hbw.cell (World.block_lt_of_cell? w0 _ hc5)).trans hc5
      replace hc6 := (hbw.cell (World.block_lt_of_cell? w0 _ hc6)).trans hc6
      clear hbw
      have HX : Aside0 (scanI step kk t (l.drop kk) = if (step t (rd_T26 l (kk : Int))).1 = true then ((kk : Int), (step t (rd_T26 l (kk : Int))).2) else scanI step ((kk + 1 : Nat) : Int) (step t (rd_T26 l (kk : Int))).2 (l.drop (kk + 1))) := ⟨scan_at step z26 l kk hlt t⟩
      have hmem : (rd_T26 l (kk : Int)) ∈ l := scan_mem z26 l kk hlt
      have hcall := HCall.out t wr _ B cb hmem HI.out hgb hlb
      clear hmem hgb hlb
      simp only [Int.toNat_natCast] at hc0 hc1 hc2 hc3 hc4 hc5 hc6
      generalize rd_T26 l (kk : Int) = x at hc0 hc1 hc2 hc3 hc4 hc5 hc6 HX hcall
      have HC := Aside0.mk hcall
      clear hcall
      cases hq : (step t x).1 with
      | true =>
        have h := HC.out
        rw [hq] at h
        have HH := Aside0.mk h
        have HQ := Aside0.mk hq
        clear hq HC h
        go_wp2_with fail
        refine HH.out.mono ?_
        rintro e w' ⟨rfl, hb'⟩
        have HB := Aside0.mk hb'
        clear hb'
        go_wp2
        go_ret
        rw [HS.out, HX.out, if_pos HQ.out]
        exact ⟨rfl, HB.out⟩
      | false =>
        have h := HC.out
        rw [hq] at h
        have HH := Aside0.mk h
        have HQ := Aside0.mk hq
        clear hq HC h
        go_wp2_with fail
        refine HH.out.mono ?_
        rintro e w' ⟨rfl, hb'⟩
        have HB := Aside0.mk hb'
        clear hb'
        go_wp2
        go_roundg (l.length - (kk + 1))
        case measure => omega
        case rel =>
          refine ⟨kk + 1, (step t x).2, by omega, by omega, by go_num, HB, ⟨?_⟩⟩
          rw [HS.out, HX.out, if_neg (by rw [HQ.out]; simp)]
    · have hltz : ¬ (kk : Int) < (l.length : Int) := by omega
      go_wp2
      go_ret
      rw [HS.out, List.drop_eq_nil_of_le (by omega)]
      exact ⟨rfl, HI.out⟩

set_option maxHeartbeats 1000000 in
theorem con174 {σ : Type} (Inv : σ → World → Prop) (step : σ → S26 → Bool × σ) (g : Nat) (lb : Array Value) (eg : ∀ args w, (callFunc g args).run Try.prog w = .ok (.enter g args) w) (l : List S26) (A : Option Addr) (c : Nat)
    (w0 : World) (hR : Kd.C k26 w0 A l.length l) (hW : ∀ s W, Inv s W → Below w0.heap.size w0 W) (hD : ∀ s W n, Inv s W → Inv s (W.drewN n))
    (hcall : ∀ s W (x : S26) (B : Option Addr) (cb : Nat), x ∈ l → Inv s W → Kd.C k26 w0 B x.f3.length x.f3 → x.f3.length ≤ cb → Calls Try.prog g (#[.agg #[.int .u8 x.f0, .int .i64 x.f1.f0, .int .i64 x.f1.f1, .int .i64 x.f1.f2, .int .i64 x.f1.f3, .int .i64 x.f2, .slice B x.f3.length cb]] ++ lb) W fun e w' => e = .returned (.bool (step s x).1) ∧ Inv (step s x).2 w')
    (s : σ) (w : World) (hI : Inv s w) (hl : l.length ≤ 9223372036854775807) :
    Calls Try.prog 174 #[.slice A l.length c, .func (.func g) #[] lb] w fun e w' => e = .returned (.bool (scanB step s l).1) ∧ Inv (scanB step s l).2 w' := by
  have hi := idx192 Inv step g lb eg l A c w0 hR hW hD hcall s w hI hl
  rw [scanB_eq]
  clear hR hW hD hcall hI
  generalize scanI step 0 s l = r at hi
  have HI := Aside0.mk hi
  clear hi
  go_enter Try.func174, Try.ntmps174
  go_wp2_with fail
  refine HI.out.mono ?_
  rintro e w' ⟨rfl, hb'⟩
  have HB := Aside0.mk hb'
  clear hb'
  go_wp2
  go_ret
  exact ⟨rfl, HB.out⟩
end Go.Proofs.Ytfdmfgaiblfbhaa.P
/- cell.all, cell.none: what they answer, with any function value that keeps an invariant of the world. -/
namespace Go.Proofs.Ytfdmfgaiblfbhaa.P
open Go.RowKit Go.Proofs.YtfdmfgaiblfbhaaW.PrintWords Go.Proofs.YtfdmfgaiblfbhaaW.PrintLast Go.Proofs.YtfdmfgaiblfbhaaW.PrintMore

set_option maxHeartbeats 1000000 in
/-- cell.none: whether the test says yes of none. -/
theorem none142 (l : List S26) (A : Option Addr) (c : Nat) (g : Nat) (lb : Array Value) (Q : World → Prop) (b : Bool) (w : World)
    (h : Calls Try.prog 174 #[.slice A l.length c, .func (.func g) #[] lb] w fun e w' => e = .returned (.bool b) ∧ Q w') (hD : ∀ W n, Q W → Q (W.drewN n)) :
    Calls Try.prog 142 #[.slice A l.length c, .func (.func g) #[] lb] w fun e w' => e = .returned (.bool (!b)) ∧ Q w' := by
  have H := Aside0.mk h
  have HD := Aside0.mk hD
  clear h hD
  cases b
  all_goals
    go_enter Try.func142, Try.ntmps142
    go_wp2_with fail
    refine H.out.mono ?_
    rintro e w' ⟨rfl, hb⟩
    have HB := Aside0.mk hb
    clear hb
    go_wp2
    go_ret
    exact ⟨rfl, HB.out⟩
/-- Only new blocks, and those of S, may differ. -/
structure Kp (S : Nat → Prop) (W W' : World) : Prop where
  size : W.heap.size ≤ W'.heap.size
  blk : ∀ k, k < W.heap.size → ¬ S k → W'.heap[k]? = W.heap[k]?
theorem Kp.refl (S : Nat → Prop) (W : World) : Kp S W W := ⟨Nat.le_refl _, fun _ _ _ => rfl⟩
theorem Kp.trans {S : Nat → Prop} {W W1 W2 : World} (h : Kp S W W1) (k : Kp S W1 W2) : Kp S W W2 := ⟨Nat.le_trans h.size k.size, fun i hi hs => (k.blk i (Nat.lt_of_lt_of_le hi h.size) hs).trans (h.blk i hi hs)⟩
theorem Kp.below {S : Nat → Prop} {W W1 : World} (h : Below W.heap.size W W1) : Kp S W W1 := ⟨h.size, fun i hi _ => h.block i hi⟩
theorem Kp.at {S : Nat → Prop} {W W1 : World} {g : Nat} {o : Obj} (h : Kp S W W1) (hb : W.heap[g]? = some o) (hs : ¬ S g) : W1.heap[g]? = some o := (h.blk g (blk_lt hb) hs).trans hb
set_option maxHeartbeats 1000000 in
theorem clo193 (x : S26) (B : Option Addr) (cb g : Nat) (lb : Array Value) (b3 : Nat) (r : Bool) (R : World → Prop) (W : World) (hk : W.heap[b3]? = some (.cells #[.func (.func g) #[] lb] 27 (0, 0)))
    (h : ∀ W1, Below W.heap.size W W1 → Calls Try.prog 175 #[.agg #[.int .u8 x.f0, .int .i64 x.f1.f0, .int .i64 x.f1.f1, .int .i64 x.f1.f2, .int .i64 x.f1.f3, .int .i64 x.f2, .slice B x.f3.length cb], .func (.func g) #[] lb] W1 fun e w' => e = .returned (.bool r) ∧ R w') :
    Calls Try.prog 193 (#[.agg #[.int .u8 x.f0, .int .i64 x.f1.f0, .int .i64 x.f1.f1, .int .i64 x.f1.f2, .int .i64 x.f1.f3, .int .i64 x.f2, .slice B x.f3.length cb]] ++ #[.pointer (some ⟨b3, 0, none⟩)]) W fun e w' => e = .returned (.bool (!r)) ∧ R w' := by
  have HK := Aside0.mk hk
  have H := Aside0.mk h
  clear hk h
  simp only [List.append_toArray, List.cons_append, List.nil_append]
  cases r
  all_goals
    go_enter Try.func193, Try.ntmps193
    go_wp2_with (first
      | ((with_reducible refine gate_dst (N := 2) rfl ?_); refine box_event ?hg (N := 2) ?hd (cs := #[.int .u8 x.f0, .int .i64 x.f1.f0, .int .i64 x.f1.f1, .int .i64 x.f1.f2, .int .i64 x.f1.f3, .int .i64 x.f2, .slice B x.f3.length cb]) (t := 26) ?hr ?_; (case hd => rfl); (case hg => rfl); (case hr => first | (go_simp; done) | (go_simp; rfl)); intro b2 hg w2 hbox hb; have HB := Aside0.mk hb; have K2 := Aside0.mk hbox; have K3 := Aside0.mk (blk_below HK.out hb); clear hb hbox hg; have c0 := (blk_cell K2.out 0).trans rfl; have c1 := (blk_cell K2.out 1).trans rfl; have c2 := (blk_cell K2.out 2).trans rfl; have c3 := (blk_cell K2.out 3).trans rfl; have c4 := (blk_cell K2.out 4).trans rfl; have c5 := (blk_cell K2.out 5).trans rfl; have c6 := (blk_cell K2.out 6).trans rfl; have d0 := (blk_cell K3.out 0).trans rfl)
      | fail)
    clear c0 c1 c2 c3 c4 c5 c6 d0
    refine (H.out _ HB.out).mono ?_
    rintro e w' ⟨rfl, hR⟩
    have HR := Aside0.mk hR
    clear hR
    go_wp2
    go_ret
    exact ⟨rfl, HR.out⟩
set_option maxHeartbeats 4000000 in
set_option maxRecDepth 100000 in
theorem all175 {σ : Type} (S : Nat → Prop) (Inv : σ → World → Prop) (step : σ → S26 → Bool × σ) (g : Nat) (lb : Array Value) (eg : ∀ args w, (callFunc g args).run Try.prog w = .ok (.enter g args) w) (w0 : World)
    (hW : ∀ s W, Inv s W → Below w0.heap.size w0 W) (hB : ∀ s W W', Inv s W → Below W.heap.size W W' → Inv s W') (hS : ∀ s W, Inv s W → ∀ k, S k → k < W.heap.size)
    (hcall : ∀ s W (x : S26) (B : Option Addr) (cb : Nat), Inv s W → Kd.C k26 w0 B x.f3.length x.f3 → x.f3.length ≤ cb → Calls Try.prog g (#[.agg #[.int .u8 x.f0, .int .i64 x.f1.f0, .int .i64 x.f1.f1, .int .i64 x.f1.f2, .int .i64 x.f1.f3, .int .i64 x.f2, .slice B x.f3.length cb]] ++ lb) W fun e w' => e = .returned (.bool (step s x).1) ∧ Inv (step s x).2 w' ∧ Kp S W w') :
    ∀ (N : Nat) (c : S26), sz c ≤ N → ∀ (A : Option Addr) (cc : Nat), Kd.C k26 w0 A c.f3.length c.f3 → c.f3.length ≤ cc → ∀ s W, Inv s W →
      Calls Try.prog 175 #[.agg #[.int .u8 c.f0, .int .i64 c.f1.f0, .int .i64 c.f1.f1, .int .i64 c.f1.f2, .int .i64 c.f1.f3, .int .i64 c.f2, .slice A c.f3.length cc], .func (.func g) #[] lb] W fun e w' => e = .returned (.bool (allS step c s).1) ∧ Inv (allS step c s).2 w' ∧ Kp S W w' := by
  intro N
  induction N with
  | zero => intro c h; rw [sz_eq] at h; omega
  | succ N ih =>
    intro c hc A cc hr hlc s W hI
    have hsz := sz_eq c
    -- what the kids' test does
    have hNone : ∀ (b3 : Nat) (s1 : σ) (W1 : World), Inv s1 W1 → W1.heap[b3]? = some (.cells #[.func (.func g) #[] lb] 27 (0, 0)) → ¬ S b3 →
        Calls Try.prog 142 #[.slice A c.f3.length cc, .func (.func 193) #[] #[.pointer (some ⟨b3, 0, none⟩)]] W1 fun e w' => e = .returned (.bool (noneS step c.f3 s1).1) ∧ Inv (noneS step c.f3 s1).2 w' ∧ Kp S W1 w' := by
      intro b3 s1 W1 hI1 hk3 hs3
      have hcon := con174 (fun t w' => Inv t w' ∧ Kp S W1 w') (fun t k => (!(allS step k t).1, (allS step k t).2)) 193 #[.pointer (some ⟨b3, 0, none⟩)] (enters_fn Try.func193 (by decide +kernel) (by kernel_rfl)) c.f3 A cc w0 hr (fun t w' h => hW t w' h.1)
        (fun t w' n h => ⟨hB t w' _ h.1 (pw_below_drewN (Below.refl _ _) n), h.2.trans (Kp.below (pw_below_drewN (Below.refl _ _) n))⟩)
        (fun t w' x B cb hx h hCx hlx => by
          refine clo193 x B cb g lb b3 _ _ w' (h.2.at hk3 hs3) (fun W2 hb2 => ?_)
          refine (ih x ?_ B cb hCx hlx t W2 (hB t w' W2 h.1 hb2)).mono fun e w'' ⟨he, hi, hk⟩ => ⟨he, hi, (h.2.trans (Kp.below hb2)).trans hk⟩
          have : sz x ≤ szL c.f3 := by
            obtain ⟨p, q, e⟩ := List.append_of_mem hx
            rw [e, szL_app, szL_cons]; omega
          omega) s1 W1 ⟨hI1, Kp.refl S W1⟩ hr.2.1
      rw [scan_none] at hcon
      have := none142 c.f3 A cc 193 _ _ _ W1 hcon (fun w' n h => ⟨hB _ w' _ h.1 (pw_below_drewN (Below.refl _ _) n), h.2.trans (Kp.below (pw_below_drewN (Below.refl _ _) n))⟩)
      rw [Bool.not_not] at this
      exact this
    have hHS0 : ∀ k, S k → k < W.heap.size := hS s W hI
    have hE := allS_eq step c s
    have hcl := fun W1 (h : Inv s W1) => hcall s W1 c A cc h hr hlc
    rcases hst : step s c with ⟨q, s1⟩
    rw [hst] at hE hcl
    simp only [] at hE hcl
    rw [hE]
    have HN := Aside0.mk fun b3 W1 => hNone b3 s1 W1
    have HI := Aside0.mk hI
    have HCall := Aside0.mk hcl
    have HBb := Aside0.mk hB
    have HS := Aside0.mk hS
    have HS0 := Aside0.mk hHS0
    have HK := Aside0.mk (Kp.refl S W)
    clear hNone hI hcall hB hS ih hr hlc hsz hc hW hE hcl hst hHS0
    obtain ⟨ck, ⟨cx, cy, cw, ch⟩, cid, l⟩ := c
    simp only [] at HN HCall ⊢
    generalize noneS step l s1 = ns at HN ⊢
    obtain ⟨n1, n2⟩ := ns
    cases q with
    | false =>
      simp only [Bool.false_eq_true, if_false]
      clear HN
      go_enter Try.func175, Try.ntmps175
      go_wp2_with (first
        | ((with_reducible refine gate_dst (N := 2) rfl ?_); refine box_event ?hg (N := 2) ?hd (cs := #[.int .u8 ck, .int .i64 cx, .int .i64 cy, .int .i64 cw, .int .i64 ch, .int .i64 cid, .slice A l.length cc]) (t := 26) ?hr ?_; (case hd => rfl); (case hg => rfl); (case hr => first | (go_simp; done) | (go_simp; rfl)); intro b2 hg wb2 hbox hb; have K2 := Aside0.mk hbox; have HS2 := Aside0.mk (show ¬ b2 < W.heap.size by rw [hg]; exact Nat.lt_irrefl _); have q1_ := Aside0.mk (HBb.out _ _ _ HI.out hb); have q2_ := Aside0.mk (HK.out.trans (Kp.below hb)); clear HI HK; have HI := q1_; have HK := q2_; clear q1_ q2_; clear hb hbox hg)
        | ((with_reducible refine gate_dst (N := 3) rfl ?_); refine box_event ?hg (N := 3) ?hd (cs := #[.func (.func g) #[] lb]) (t := 27) ?hr ?_; (case hd => rfl); (case hg => rfl); (case hr => first | (go_simp; done) | (go_simp; rfl)); intro b3 hg wb3 hbox hb; have K3 := Aside0.mk hbox; have q3_ := Aside0.mk (blk_below K2.out hb); have NS := Aside0.mk (fun h => Nat.lt_irrefl _ (Nat.lt_of_lt_of_le (hg ▸ HS.out _ _ HI.out b3 h) (Nat.le_refl _)) : ¬ S b3); have NS2 := Aside0.mk (fun h => HS2.out (HS0.out b2 h) : ¬ S b2); clear K2; have K2 := q3_; clear q3_; have q1_ := Aside0.mk (HBb.out _ _ _ HI.out hb); have q2_ := Aside0.mk (HK.out.trans (Kp.below hb)); clear HI HK; have HI := q1_; have HK := q2_; clear q1_ q2_; clear hb hbox hg; have c0 := (blk_cell K2.out 0).trans rfl; have c1 := (blk_cell K2.out 1).trans rfl; have c2 := (blk_cell K2.out 2).trans rfl; have c3 := (blk_cell K2.out 3).trans rfl; have c4 := (blk_cell K2.out 4).trans rfl; have c5 := (blk_cell K2.out 5).trans rfl; have c6 := (blk_cell K2.out 6).trans rfl; have d0 := (blk_cell K3.out 0).trans rfl)
        | fail)
      clear c0 c1 c2 c3 c4 c5 c6 d0
      refine (HCall.out _ HI.out).mono ?_
      rintro e w' ⟨rfl, hi, hk⟩
      have HI' := Aside0.mk hi
      have HK' := Aside0.mk (HK.out.trans hk)
      clear hi hk
      go_wp2
      go_ret
      exact ⟨rfl, HI'.out, HK'.out⟩
    | true =>
      simp only [if_true]
      cases n1
      all_goals
        go_enter Try.func175, Try.ntmps175
        go_wp2_with (first
          | ((with_reducible refine gate_dst (N := 2) rfl ?_); refine box_event ?hg (N := 2) ?hd (cs := #[.int .u8 ck, .int .i64 cx, .int .i64 cy, .int .i64 cw, .int .i64 ch, .int .i64 cid, .slice A l.length cc]) (t := 26) ?hr ?_; (case hd => rfl); (case hg => rfl); (case hr => first | (go_simp; done) | (go_simp; rfl)); intro b2 hg wb2 hbox hb; have K2 := Aside0.mk hbox; have HS2 := Aside0.mk (show ¬ b2 < W.heap.size by rw [hg]; exact Nat.lt_irrefl _); have q1_ := Aside0.mk (HBb.out _ _ _ HI.out hb); have q2_ := Aside0.mk (HK.out.trans (Kp.below hb)); clear HI HK; have HI := q1_; have HK := q2_; clear q1_ q2_; clear hb hbox hg)
          | ((with_reducible refine gate_dst (N := 3) rfl ?_); refine box_event ?hg (N := 3) ?hd (cs := #[.func (.func g) #[] lb]) (t := 27) ?hr ?_; (case hd => rfl); (case hg => rfl); (case hr => first | (go_simp; done) | (go_simp; rfl)); intro b3 hg wb3 hbox hb; have K3 := Aside0.mk hbox; have q3_ := Aside0.mk (blk_below K2.out hb); have NS := Aside0.mk (fun h => Nat.lt_irrefl _ (Nat.lt_of_lt_of_le (hg ▸ HS.out _ _ HI.out b3 h) (Nat.le_refl _)) : ¬ S b3); have NS2 := Aside0.mk (fun h => HS2.out (HS0.out b2 h) : ¬ S b2); clear K2; have K2 := q3_; clear q3_; have q1_ := Aside0.mk (HBb.out _ _ _ HI.out hb); have q2_ := Aside0.mk (HK.out.trans (Kp.below hb)); clear HI HK; have HI := q1_; have HK := q2_; clear q1_ q2_; clear hb hbox hg; have c0 := (blk_cell K2.out 0).trans rfl; have c1 := (blk_cell K2.out 1).trans rfl; have c2 := (blk_cell K2.out 2).trans rfl; have c3 := (blk_cell K2.out 3).trans rfl; have c4 := (blk_cell K2.out 4).trans rfl; have c5 := (blk_cell K2.out 5).trans rfl; have c6 := (blk_cell K2.out 6).trans rfl; have d0 := (blk_cell K3.out 0).trans rfl)
          | fail)
        clear c0 c1 c2 c3 c4 c5 c6 d0
        refine (HCall.out _ HI.out).mono ?_
        rintro e w' ⟨rfl, hi, hk⟩
        have HI' := Aside0.mk hi
        have HK' := Aside0.mk (HK.out.trans hk)
        have K3' := Aside0.mk (hk.at K3.out NS.out)
        have K2' := Aside0.mk (hk.at K2.out NS2.out)
        clear hi hk
        have c6 : w'.cell? ⟨b2, 6, none⟩ = some (.slice A l.length cc) := (blk_cell K2'.out 6).trans rfl
        go_wp2_with fail
        clear c6
        refine (HN.out b3 w' HI'.out K3'.out NS.out).mono ?_
        rintro e w'' ⟨rfl, hi, hk⟩
        have HI2 := Aside0.mk hi
        have HK2 := Aside0.mk (HK'.out.trans hk)
        clear hi hk
        go_wp2
        go_ret
        exact ⟨rfl, HI2.out, HK2.out⟩
end Go.Proofs.Ytfdmfgaiblfbhaa.P
/- Whether a tree may be, cell by cell with the numbers met: plain words; and the numbers met as a map of the call's own. -/
namespace Go.Proofs.Ytfdmfgaiblfbhaa.P
open Go.RowKit Go.Proofs.YtfdmfgaiblfbhaaW.PrintWords Go.Proofs.YtfdmfgaiblfbhaaW.PrintLast Go.Proofs.YtfdmfgaiblfbhaaW.PrintMore

def nodeB (x : S26) : Bool := if x.f0 = 1 then decide (x.f3.length = 0) && (decide (0 ≤ x.f2) && decide (x.f2 ≤ 2147483647)) else if x.f0 = 2 ∨ x.f0 = 3 then decide (2 ≤ x.f3.length) && decide (x.f2 = 0) else false
theorem okC_node (x : S26) : okC x = (nodeB x && mayR x.f1) := by
  unfold okC nodeB
  by_cases h1 : x.f0 = 1
  · simp [h1, Bool.and_comm, Bool.and_assoc]
  · by_cases h2 : x.f0 = 2
    · simp [h2, Bool.and_comm]
    · by_cases h3 : x.f0 = 3
      · simp [h3, Bool.and_comm]
      · have : ¬ (1 ≤ x.f0 ∧ x.f0 ≤ 3) := by omega
        simp [h1, h2, h3, this]
/-- One cell: the count, and the numbers met. -/
def mStep (s : Int × List Int) (x : S26) : Bool × (Int × List Int) :=
  if 20000 < wrap64 (s.1 + 1) then (false, (wrap64 (s.1 + 1), s.2))
  else if okC x = false then (false, (wrap64 (s.1 + 1), s.2))
  else if x.f0 = 1 then (if x.f2 ∈ s.2 then (false, (wrap64 (s.1 + 1), s.2)) else (true, (wrap64 (s.1 + 1), x.f2 :: s.2)))
  else (true, (wrap64 (s.1 + 1), s.2))
def lv (l : List S26) : List S26 := l.filter fun x => decide (x.f0 = 1)
theorem mStep_seq : ∀ (rest pre : List S26), (pre ++ rest).length ≤ 1048576 → pre.length ≤ 20000 → distinctC (lv pre) = true →
    (seqS mStep rest ((pre.length : Int), ((lv pre).map (·.f2)).reverse)).1 = (decide (pre.length + rest.length ≤ 20000) && (rest.all okC && distinctC (lv (pre ++ rest)))) := by
  intro rest
  induction rest with
  | nil =>
    intro pre _ h2 h3
    simp [seqS, h3]
    exact h2
  | cons x xs ih =>
    intro pre h1 h2 h3
    have hlen : (pre ++ x :: xs).length = pre.length + xs.length + 1 := by simp; omega
    have hw : wrap64 ((pre.length : Int) + 1) = ((pre.length + 1 : Nat) : Int) := (wq (by omega) (by omega)).trans (by omega)
    have hsp : pre ++ x :: xs = (pre ++ [x]) ++ xs := by simp
    simp only [seqS]
    unfold mStep
    simp only [hw]
    by_cases c1 : (20000 : Int) < ((pre.length + 1 : Nat) : Int)
    · rw [if_pos c1]
      simp
      intro h
      omega
    · rw [if_neg c1]
      cases c2 : okC x with
      | false => simp [c2]
      | true =>
        simp only [Bool.true_eq_false, if_false, List.all_cons, c2, Bool.true_and]
        have hl1 : (pre ++ [x]).length = pre.length + 1 := by simp
        have hcnt : decide (pre.length + (x :: xs).length ≤ 20000) = decide ((pre ++ [x]).length + xs.length ≤ 20000) := by
          rw [hl1, List.length_cons, decide_eq_decide]; omega
        rw [hcnt]
        by_cases c3 : x.f0 = 1
        · rw [if_pos c3]
          have hlv : lv (pre ++ [x]) = lv pre ++ [x] := by simp [lv, c3]
          have hmem : x.f2 ∈ ((lv pre).map (·.f2)).reverse ↔ apartTo (lv pre) x = false := by
            simp [apartTo]
            constructor
            · rintro ⟨y, hy, e⟩; exact ⟨y, hy, e.symm⟩
            · rintro ⟨y, hy, e⟩; exact ⟨y, hy, e.symm⟩
          by_cases c4 : x.f2 ∈ ((lv pre).map (·.f2)).reverse
          · rw [if_pos c4]
            have hd : distinctC (lv (pre ++ x :: xs)) = false := by
              rw [hsp]
              unfold lv
              rw [List.filter_append]
              apply distinctC_pre
              have : List.filter (fun x => decide (x.f0 = 1)) (pre ++ [x]) = lv pre ++ [x] := hlv
              rw [this, distinctC_app, hmem.1 c4, Bool.and_false]
            simp [hd]
          · rw [if_neg c4]
            have ha : apartTo (lv pre) x = true := by
              cases h : apartTo (lv pre) x with
              | true => rfl
              | false => exact absurd (hmem.2 h) c4
            have e := ih (pre ++ [x]) (by rw [← hsp]; exact h1) (by rw [hl1]; omega) (by rw [hlv, distinctC_app, h3, ha]; rfl)
            rw [hlv, List.map_append, List.reverse_append, hl1, ← hsp] at e
            simp only [if_true]
            rw [hl1]
            exact e
        · rw [if_neg c3]
          have hlv : lv (pre ++ [x]) = lv pre := by simp [lv, c3]
          have e := ih (pre ++ [x]) (by rw [← hsp]; exact h1) (by rw [hl1]; omega) (by rw [hlv]; exact h3)
          rw [hlv, hl1, ← hsp] at e
          simp only [if_true]
          rw [hl1]
          exact e
theorem allS_may (c : S26) (h : sz c ≤ 1048576) : (allS mStep c (0, [])).1 = mayC c := by
  rw [(allS_seq mStep (sz c)).1 c (Nat.le_refl _)]
  have e := mStep_seq (allC c) [] (by rw [List.nil_append]; exact h) (by simp) rfl
  have e2 : (seqS mStep (allC c) (0, [])).1 = (decide (0 + (allC c).length ≤ 20000) && ((allC c).all okC && distinctC (lv ([] ++ allC c)))) := e
  rw [e2, Nat.zero_add, List.nil_append]
  rfl
/-- No more numbers than there are. -/
theorem nodup_le : ∀ (N : Nat) (l : List Int), l.Nodup → (∀ i ∈ l, 0 ≤ i ∧ i < (N : Int)) → l.length ≤ N := by
  intro N
  induction N with
  | zero =>
    intro l _ h
    cases l with
    | nil => simp
    | cons x xs => have := h x (by simp); omega
  | succ N ih =>
    intro l hn h
    have h1 := ih (l.filter fun i => decide (i ≠ (N : Int))) (hn.filter _) (fun i hi => by
      have h2 := List.mem_filter.1 hi
      have h3 := h i h2.1
      have h4 := of_decide_eq_true h2.2
      omega)
    have h5 : ∀ (m : List Int), m.Nodup → m.length ≤ (m.filter fun i => decide (i ≠ (N : Int))).length + 1 := by
      intro m
      induction m with
      | nil => intro _; simp
      | cons y ys ihm =>
        intro hm
        rw [List.nodup_cons] at hm
        by_cases hy : y = (N : Int)
        · have : ys.filter (fun i => decide (i ≠ (N : Int))) = ys := by
            rw [List.filter_eq_self]
            intro i hi
            exact decide_eq_true (fun e => hm.1 (by rw [hy, ← e]; exact hi))
          rw [List.filter_cons_of_neg (by simp [hy]), this, List.length_cons]
          exact Nat.le_refl _
        · rw [List.filter_cons_of_pos (by simpa using hy), List.length_cons, List.length_cons]
          have := ihm hm.2
          omega
    have := h5 l hn
    omega
/-- The numbers met, as a map's datum. -/
def setD (ids : List Int) : DataW Unit := ids.foldr (fun i D => D.put (.int .i64 i) (.lit (.bool true))) (.map [])
theorem setD_map : ∀ ids : List Int, Maps.IsMap (setD ids) := by
  intro ids
  induction ids with
  | nil => exact Maps.isMap_empty
  | cons x xs ih => exact Maps.IsMap.put ih _ _
theorem setD_at (i : Int) : ∀ ids : List Int, (setD ids).atKey (.int .i64 i) (.lit (.bool false)) = .lit (.bool (decide (i ∈ ids))) := by
  intro ids
  induction ids with
  | nil => rfl
  | cons x xs ih =>
    show (DataW.put (setD xs) (.int .i64 x) (.lit (.bool true))).atKey (.int .i64 i) (.lit (.bool false)) = _
    by_cases h : i = x
    · subst h
      rw [Maps.atKey_put_same (setD_map xs) (by simp [WideAt.IsKeyLit])]
      simp
    · rw [Maps.atKey_put_other (by intro e; injection e with _ e; exact h e), ih]
      simp [h]
/-- What cell.may holds: the count, the numbers met. -/
structure MayI (w0 : World) (bn bm B : Nat) (s : Int × List Int) (W : World) : Prop where
  hn : W.heap[bn]? = some (.cells #[.int .i64 s.1] 3 (0, 0))
  hm : W.heap[bm]? = some (.cells #[.map (some B)] 161 (0, 0))
  map : W.ownsMap (H := Unit) Try.prog 3 (plainElem Try.prog 4) B s.2.length (setD s.2)
  below : Below w0.heap.size w0 W
  gn : w0.heap.size ≤ bn
  gB : w0.heap.size ≤ B
  nd : s.2.Nodup
  rg : ∀ i ∈ s.2, 0 ≤ i ∧ i ≤ 2147483647
theorem below_grown {W W' : World} (h : Below W.heap.size W W') : W.grownBy W' none := ⟨h.os, h.tape, h.output, h.size, fun k hk _ => h.block k hk⟩
theorem MayI.step {w0 W W' : World} {bn bm B : Nat} {s : Int × List Int} (h : MayI w0 bn bm B s W) (hb : Below W.heap.size W W') : MayI w0 bn bm B s W' :=
  ⟨blk_below h.hn hb, blk_below h.hm hb, h.map.kept (below_grown hb) (by simp), below_step h.below hb, h.gn, h.gB, h.nd, h.rg⟩
theorem MayI.neB {w0 W : World} {bn bm B : Nat} {s : Int × List Int} (h : MayI w0 bn bm B s W) : bn ≠ B ∧ bm ≠ B ∧ bm ≠ bn := by
  obtain ⟨es, cl, hB, _⟩ := h.map
  refine ⟨fun e => ?_, fun e => ?_, blk_ne h.hm h.hn (by decide)⟩
  · have := h.hn; rw [e, hB] at this; cases this
  · have := h.hm; rw [e, hB] at this; cases this
def MayS (bn B : Nat) (k : Nat) : Prop := k = bn ∨ k = B
section
variable {P : Program} {ops : Array Oper} {rest : List Oper} {o : Oper} {a : Act} {Q : Exit → Act → World → Prop}
/-- A look-up in a map of bools of the call's own. -/
theorem lookup_bool (w : World) (hg : o.guard = none) (m x : Operand) (t : TypeId) (hop : o.op = Op.lookup t m x false)
    (k e : TypeId) (K : Maps.Keyed P k) (ht : P.underlying t = some (.map k e)) (he : P.underlying e = some .bool) (hz : (zeroValue e).run P w = .ok (.bool false) w) (b n : Nat) (D : DataW Unit)
    (hm : a.eval m = .map (some b)) (hown : w.ownsMap P k (plainElem P e) b n D) (key : Value) (kl : Lit) (hx : a.eval x = key) (hkey : keyOf P k key = some kl) (r : Bool) (hr : D.atKey kl (.lit (.bool false)) = .lit (.bool r))
    (hK : wpList P ops Q rest (a.put o.dst (.bool r)) w) : wpList P ops Q (o :: rest) a w := by
  refine wpList_plain hg fun K' hK' => ?_
  obtain ⟨v, ps, hrun, hv⟩ := hown.lookup K ht hz (plainElem_bool he false) hkey
  have hv2 : v = .bool r := by
    rw [hr] at hv
    unfold plainElem at hv
    rw [he] at hv
    cases v with
    | bool q =>
      simp only [Option.some.injEq, Prod.mk.injEq, DataW.lit.injEq, Lit.bool.injEq] at hv
      rw [hv.1]
    | _ => cases hv
  subst hv2
  unfold Oper.wp
  simp [execOp, hop, hm, hx, hrun, Result.andThen]
  exact hK' _ _ hK
end
end Go.Proofs.Ytfdmfgaiblfbhaa.P
/- The contract of cell.node: whether a cell alone is right. -/
namespace Go.Proofs.Ytfdmfgaiblfbhaa.P
open Go.RowKit Go.Proofs.YtfdmfgaiblfbhaaW.PrintWords Go.Proofs.YtfdmfgaiblfbhaaW.PrintLast Go.Proofs.YtfdmfgaiblfbhaaW.PrintMore
set_option linter.unusedVariables false
set_option linter.unusedSimpArgs false
set_option maxHeartbeats 2000000 in
set_option maxRecDepth 100000 in
theorem node177 (x : S26) (B : Option Addr) (cb : Nat) (w : World) : Calls Try.prog 177 #[.agg #[.int .u8 x.f0, .int .i64 x.f1.f0, .int .i64 x.f1.f1, .int .i64 x.f1.f2, .int .i64 x.f1.f3, .int .i64 x.f2, .slice B x.f3.length cb]] w fun e w' => e = .returned (.bool (nodeB x)) ∧ Below w.heap.size w w' := by
  unfold nodeB
  by_cases k1 : x.f0 = 1
  · rw [if_pos k1]
    have k1b : (x.f0 == 1) = true := beq_iff_eq.mpr k1
    clear k1
    by_cases l0 : x.f3.length = 0
    · rw [decide_eq_true l0, Bool.true_and]
      have l1 : ((x.f3.length : Int) == 0) = true := by simp [l0]
      have l2 : (x.f3.length == 0) = true := by simp [l0]
      have L0 := Aside0.mk l0
      clear l0
      by_cases i0 : 0 ≤ x.f2
      · rw [decide_eq_true i0, Bool.true_and]
        have i0b : decide (0 ≤ x.f2) = true := decide_eq_true i0
        by_cases i1 : x.f2 ≤ 2147483647
        · rw [decide_eq_true i1]
          have i1b : decide (x.f2 ≤ 2147483647) = true := decide_eq_true i1
          go_enter Try.func177, Try.ntmps177
          go_wp2_with (first | ((with_reducible refine gate_dst (N := 1) rfl ?_); refine box_event ?hg (N := 1) ?hd (cs := #[.int .u8 x.f0, .int .i64 x.f1.f0, .int .i64 x.f1.f1, .int .i64 x.f1.f2, .int .i64 x.f1.f3, .int .i64 x.f2, .slice B x.f3.length cb]) (t := 26) ?hr ?_; (case hd => rfl); (case hg => rfl); (case hr => first | (go_simp; done) | (go_simp; rfl)); intro b1 hg w1 hbox hb; have HB := Aside0.mk hb; have K1 := Aside0.mk hbox; clear hb hbox hg; have c0 := (blk_cell K1.out 0).trans rfl; have c1 := (blk_cell K1.out 1).trans rfl; have c2 := (blk_cell K1.out 2).trans rfl; have c3 := (blk_cell K1.out 3).trans rfl; have c4 := (blk_cell K1.out 4).trans rfl; have c5 := (blk_cell K1.out 5).trans rfl; have c6 := (blk_cell K1.out 6).trans rfl) | fail)
          go_ret
          exact ⟨rfl, HB.out⟩
        · rw [decide_eq_false i1]
          have i1b : decide (x.f2 ≤ 2147483647) = false := decide_eq_false i1
          go_enter Try.func177, Try.ntmps177
          go_wp2_with (first | ((with_reducible refine gate_dst (N := 1) rfl ?_); refine box_event ?hg (N := 1) ?hd (cs := #[.int .u8 x.f0, .int .i64 x.f1.f0, .int .i64 x.f1.f1, .int .i64 x.f1.f2, .int .i64 x.f1.f3, .int .i64 x.f2, .slice B x.f3.length cb]) (t := 26) ?hr ?_; (case hd => rfl); (case hg => rfl); (case hr => first | (go_simp; done) | (go_simp; rfl)); intro b1 hg w1 hbox hb; have HB := Aside0.mk hb; have K1 := Aside0.mk hbox; clear hb hbox hg; have c0 := (blk_cell K1.out 0).trans rfl; have c1 := (blk_cell K1.out 1).trans rfl; have c2 := (blk_cell K1.out 2).trans rfl; have c3 := (blk_cell K1.out 3).trans rfl; have c4 := (blk_cell K1.out 4).trans rfl; have c5 := (blk_cell K1.out 5).trans rfl; have c6 := (blk_cell K1.out 6).trans rfl) | fail)
          go_ret
          exact ⟨rfl, HB.out⟩
      · rw [decide_eq_false i0, Bool.false_and]
        have i0b : decide (0 ≤ x.f2) = false := decide_eq_false i0
        go_enter Try.func177, Try.ntmps177
        go_wp2_with (first | ((with_reducible refine gate_dst (N := 1) rfl ?_); refine box_event ?hg (N := 1) ?hd (cs := #[.int .u8 x.f0, .int .i64 x.f1.f0, .int .i64 x.f1.f1, .int .i64 x.f1.f2, .int .i64 x.f1.f3, .int .i64 x.f2, .slice B x.f3.length cb]) (t := 26) ?hr ?_; (case hd => rfl); (case hg => rfl); (case hr => first | (go_simp; done) | (go_simp; rfl)); intro b1 hg w1 hbox hb; have HB := Aside0.mk hb; have K1 := Aside0.mk hbox; clear hb hbox hg; have c0 := (blk_cell K1.out 0).trans rfl; have c1 := (blk_cell K1.out 1).trans rfl; have c2 := (blk_cell K1.out 2).trans rfl; have c3 := (blk_cell K1.out 3).trans rfl; have c4 := (blk_cell K1.out 4).trans rfl; have c5 := (blk_cell K1.out 5).trans rfl; have c6 := (blk_cell K1.out 6).trans rfl) | fail)
        go_ret
        exact ⟨rfl, HB.out⟩
    · rw [decide_eq_false l0, Bool.false_and]
      have l1 : ((x.f3.length : Int) == 0) = false := by simp; intro h; exact l0 (by simp [h])
      have l2 : (x.f3.length == 0) = false := by simpa using l0
      have L0 := Aside0.mk l0
      clear l0
      go_enter Try.func177, Try.ntmps177
      go_wp2_with (first | ((with_reducible refine gate_dst (N := 1) rfl ?_); refine box_event ?hg (N := 1) ?hd (cs := #[.int .u8 x.f0, .int .i64 x.f1.f0, .int .i64 x.f1.f1, .int .i64 x.f1.f2, .int .i64 x.f1.f3, .int .i64 x.f2, .slice B x.f3.length cb]) (t := 26) ?hr ?_; (case hd => rfl); (case hg => rfl); (case hr => first | (go_simp; done) | (go_simp; rfl)); intro b1 hg w1 hbox hb; have HB := Aside0.mk hb; have K1 := Aside0.mk hbox; clear hb hbox hg; have c0 := (blk_cell K1.out 0).trans rfl; have c1 := (blk_cell K1.out 1).trans rfl; have c2 := (blk_cell K1.out 2).trans rfl; have c3 := (blk_cell K1.out 3).trans rfl; have c4 := (blk_cell K1.out 4).trans rfl; have c5 := (blk_cell K1.out 5).trans rfl; have c6 := (blk_cell K1.out 6).trans rfl) | fail)
      go_ret
      exact ⟨rfl, HB.out⟩
  · rw [if_neg k1]
    have k1b : (x.f0 == 1) = false := beq_eq_false_iff_ne.mpr k1
    by_cases k2 : x.f0 = 2
    · rw [if_pos (.inl k2)]
      have k2b : (x.f0 == 2) = true := beq_iff_eq.mpr k2
      clear k2 k1
      by_cases l0 : 2 ≤ x.f3.length
      · rw [decide_eq_true l0, Bool.true_and]
        have l1 : (2 : Int) ≤ (x.f3.length : Int) := by omega
        by_cases i0 : x.f2 = 0
        · rw [decide_eq_true i0]
          have i0b : (x.f2 == 0) = true := beq_iff_eq.mpr i0
          clear i0
          go_enter Try.func177, Try.ntmps177
          go_wp2_with (first | ((with_reducible refine gate_dst (N := 1) rfl ?_); refine box_event ?hg (N := 1) ?hd (cs := #[.int .u8 x.f0, .int .i64 x.f1.f0, .int .i64 x.f1.f1, .int .i64 x.f1.f2, .int .i64 x.f1.f3, .int .i64 x.f2, .slice B x.f3.length cb]) (t := 26) ?hr ?_; (case hd => rfl); (case hg => rfl); (case hr => first | (go_simp; done) | (go_simp; rfl)); intro b1 hg w1 hbox hb; have HB := Aside0.mk hb; have K1 := Aside0.mk hbox; clear hb hbox hg; have c0 := (blk_cell K1.out 0).trans rfl; have c1 := (blk_cell K1.out 1).trans rfl; have c2 := (blk_cell K1.out 2).trans rfl; have c3 := (blk_cell K1.out 3).trans rfl; have c4 := (blk_cell K1.out 4).trans rfl; have c5 := (blk_cell K1.out 5).trans rfl; have c6 := (blk_cell K1.out 6).trans rfl) | fail)
          go_ret
          exact ⟨rfl, HB.out⟩
        · rw [decide_eq_false i0]
          have i0b : (x.f2 == 0) = false := beq_eq_false_iff_ne.mpr i0
          clear i0
          go_enter Try.func177, Try.ntmps177
          go_wp2_with (first | ((with_reducible refine gate_dst (N := 1) rfl ?_); refine box_event ?hg (N := 1) ?hd (cs := #[.int .u8 x.f0, .int .i64 x.f1.f0, .int .i64 x.f1.f1, .int .i64 x.f1.f2, .int .i64 x.f1.f3, .int .i64 x.f2, .slice B x.f3.length cb]) (t := 26) ?hr ?_; (case hd => rfl); (case hg => rfl); (case hr => first | (go_simp; done) | (go_simp; rfl)); intro b1 hg w1 hbox hb; have HB := Aside0.mk hb; have K1 := Aside0.mk hbox; clear hb hbox hg; have c0 := (blk_cell K1.out 0).trans rfl; have c1 := (blk_cell K1.out 1).trans rfl; have c2 := (blk_cell K1.out 2).trans rfl; have c3 := (blk_cell K1.out 3).trans rfl; have c4 := (blk_cell K1.out 4).trans rfl; have c5 := (blk_cell K1.out 5).trans rfl; have c6 := (blk_cell K1.out 6).trans rfl) | fail)
          go_ret
          exact ⟨rfl, HB.out⟩
      · rw [decide_eq_false l0, Bool.false_and]
        have l1 : ¬ (2 : Int) ≤ (x.f3.length : Int) := by omega
        go_enter Try.func177, Try.ntmps177
        go_wp2_with (first | ((with_reducible refine gate_dst (N := 1) rfl ?_); refine box_event ?hg (N := 1) ?hd (cs := #[.int .u8 x.f0, .int .i64 x.f1.f0, .int .i64 x.f1.f1, .int .i64 x.f1.f2, .int .i64 x.f1.f3, .int .i64 x.f2, .slice B x.f3.length cb]) (t := 26) ?hr ?_; (case hd => rfl); (case hg => rfl); (case hr => first | (go_simp; done) | (go_simp; rfl)); intro b1 hg w1 hbox hb; have HB := Aside0.mk hb; have K1 := Aside0.mk hbox; clear hb hbox hg; have c0 := (blk_cell K1.out 0).trans rfl; have c1 := (blk_cell K1.out 1).trans rfl; have c2 := (blk_cell K1.out 2).trans rfl; have c3 := (blk_cell K1.out 3).trans rfl; have c4 := (blk_cell K1.out 4).trans rfl; have c5 := (blk_cell K1.out 5).trans rfl; have c6 := (blk_cell K1.out 6).trans rfl) | fail)
        go_ret
        exact ⟨rfl, HB.out⟩
    · by_cases k3 : x.f0 = 3
      · rw [if_pos (.inr k3)]
        have k2b : (x.f0 == 2) = false := beq_eq_false_iff_ne.mpr k2
        have k3b : (x.f0 == 3) = true := beq_iff_eq.mpr k3
        clear k3 k2 k1
        by_cases l0 : 2 ≤ x.f3.length
        · rw [decide_eq_true l0, Bool.true_and]
          have l1 : (2 : Int) ≤ (x.f3.length : Int) := by omega
          by_cases i0 : x.f2 = 0
          · rw [decide_eq_true i0]
            have i0b : (x.f2 == 0) = true := beq_iff_eq.mpr i0
            clear i0
            go_enter Try.func177, Try.ntmps177
            go_wp2_with (first | ((with_reducible refine gate_dst (N := 1) rfl ?_); refine box_event ?hg (N := 1) ?hd (cs := #[.int .u8 x.f0, .int .i64 x.f1.f0, .int .i64 x.f1.f1, .int .i64 x.f1.f2, .int .i64 x.f1.f3, .int .i64 x.f2, .slice B x.f3.length cb]) (t := 26) ?hr ?_; (case hd => rfl); (case hg => rfl); (case hr => first | (go_simp; done) | (go_simp; rfl)); intro b1 hg w1 hbox hb; have HB := Aside0.mk hb; have K1 := Aside0.mk hbox; clear hb hbox hg; have c0 := (blk_cell K1.out 0).trans rfl; have c1 := (blk_cell K1.out 1).trans rfl; have c2 := (blk_cell K1.out 2).trans rfl; have c3 := (blk_cell K1.out 3).trans rfl; have c4 := (blk_cell K1.out 4).trans rfl; have c5 := (blk_cell K1.out 5).trans rfl; have c6 := (blk_cell K1.out 6).trans rfl) | fail)
            go_ret
            exact ⟨rfl, HB.out⟩
          · rw [decide_eq_false i0]
            have i0b : (x.f2 == 0) = false := beq_eq_false_iff_ne.mpr i0
            clear i0
            go_enter Try.func177, Try.ntmps177
            go_wp2_with (first | ((with_reducible refine gate_dst (N := 1) rfl ?_); refine box_event ?hg (N := 1) ?hd (cs := #[.int .u8 x.f0, .int .i64 x.f1.f0, .int .i64 x.f1.f1, .int .i64 x.f1.f2, .int .i64 x.f1.f3, .int .i64 x.f2, .slice B x.f3.length cb]) (t := 26) ?hr ?_; (case hd => rfl); (case hg => rfl); (case hr => first | (go_simp; done) | (go_simp; rfl)); intro b1 hg w1 hbox hb; have HB := Aside0.mk hb; have K1 := Aside0.mk hbox; clear hb hbox hg; have c0 := (blk_cell K1.out 0).trans rfl; have c1 := (blk_cell K1.out 1).trans rfl; have c2 := (blk_cell K1.out 2).trans rfl; have c3 := (blk_cell K1.out 3).trans rfl; have c4 := (blk_cell K1.out 4).trans rfl; have c5 := (blk_cell K1.out 5).trans rfl; have c6 := (blk_cell K1.out 6).trans rfl) | fail)
            go_ret
            exact ⟨rfl, HB.out⟩
        · rw [decide_eq_false l0, Bool.false_and]
          have l1 : ¬ (2 : Int) ≤ (x.f3.length : Int) := by omega
          go_enter Try.func177, Try.ntmps177
          go_wp2_with (first | ((with_reducible refine gate_dst (N := 1) rfl ?_); refine box_event ?hg (N := 1) ?hd (cs := #[.int .u8 x.f0, .int .i64 x.f1.f0, .int .i64 x.f1.f1, .int .i64 x.f1.f2, .int .i64 x.f1.f3, .int .i64 x.f2, .slice B x.f3.length cb]) (t := 26) ?hr ?_; (case hd => rfl); (case hg => rfl); (case hr => first | (go_simp; done) | (go_simp; rfl)); intro b1 hg w1 hbox hb; have HB := Aside0.mk hb; have K1 := Aside0.mk hbox; clear hb hbox hg; have c0 := (blk_cell K1.out 0).trans rfl; have c1 := (blk_cell K1.out 1).trans rfl; have c2 := (blk_cell K1.out 2).trans rfl; have c3 := (blk_cell K1.out 3).trans rfl; have c4 := (blk_cell K1.out 4).trans rfl; have c5 := (blk_cell K1.out 5).trans rfl; have c6 := (blk_cell K1.out 6).trans rfl) | fail)
          go_ret
          exact ⟨rfl, HB.out⟩
      · rw [if_neg (fun h => h.elim k2 k3)]
        have k2b : (x.f0 == 2) = false := beq_eq_false_iff_ne.mpr k2
        have k3b : (x.f0 == 3) = false := beq_eq_false_iff_ne.mpr k3
        go_enter Try.func177, Try.ntmps177
        go_wp2_with (first | ((with_reducible refine gate_dst (N := 1) rfl ?_); refine box_event ?hg (N := 1) ?hd (cs := #[.int .u8 x.f0, .int .i64 x.f1.f0, .int .i64 x.f1.f1, .int .i64 x.f1.f2, .int .i64 x.f1.f3, .int .i64 x.f2, .slice B x.f3.length cb]) (t := 26) ?hr ?_; (case hd => rfl); (case hg => rfl); (case hr => first | (go_simp; done) | (go_simp; rfl)); intro b1 hg w1 hbox hb; have HB := Aside0.mk hb; have K1 := Aside0.mk hbox; clear hb hbox hg; have c0 := (blk_cell K1.out 0).trans rfl; have c1 := (blk_cell K1.out 1).trans rfl; have c2 := (blk_cell K1.out 2).trans rfl; have c3 := (blk_cell K1.out 3).trans rfl; have c4 := (blk_cell K1.out 4).trans rfl; have c5 := (blk_cell K1.out 5).trans rfl; have c6 := (blk_cell K1.out 6).trans rfl) | fail)
        go_ret
        exact ⟨rfl, HB.out⟩
end Go.Proofs.Ytfdmfgaiblfbhaa.P
/- slices.IndexFunc, slices.ContainsFunc at S23: what they answer, with any function value that keeps an invariant of the world. -/
namespace Go.Proofs.Ytfdmfgaiblfbhaa.P
open Go.RowKit Go.Proofs.YtfdmfgaiblfbhaaW.PrintWords Go.Proofs.YtfdmfgaiblfbhaaW.PrintLast Go.Proofs.YtfdmfgaiblfbhaaW.PrintMore

set_option maxHeartbeats 2000000 in
set_option maxRecDepth 100000 in
theorem idx173 {σ : Type} (Inv : σ → World → Prop) (step : σ → S23 → Bool × σ) (g : Nat) (lb : Array Value) (eg : ∀ args w, (callFunc g args).run Try.prog w = .ok (.enter g args) w) (l : List S23) (A : Option Addr) (c : Nat)
    (hR : ∀ s W, Inv s W → Kd.C k23 W A l.length l) (hD : ∀ s W n, Inv s W → Inv s (W.drewN n))
    (hcall : ∀ s W (x : S23), x ∈ l → Inv s W → Calls Try.prog g (#[.agg #[.int .i64 x.f0, .int .i64 x.f1, .int .i64 x.f2, .int .i64 x.f3]] ++ lb) W fun e w' => e = .returned (.bool (step s x).1) ∧ Inv (step s x).2 w')
    (s : σ) (w : World) (hI : Inv s w) (hl : l.length ≤ 9223372036854775807) :
    Calls Try.prog 173 #[.slice A l.length c, .func (.func g) #[] lb] w fun e w' => e = .returned (.int .i64 (scanI step 0 s l).1) ∧ Inv (scanI step 0 s l).2 w' := by
  have HR := Aside0.mk hR
  have HD := Aside0.mk hD
  have HI := Aside0.mk hI
  have HCall := Aside0.mk hcall
  clear hR hcall hD hI
  go_enter Try.func173, Try.ntmps173
  go_wp2
  go_loopg [5, 8] l.length (fun gg _ v8 wr => ∃ (kk : Nat) (t : σ), kk ≤ l.length ∧ l.length - kk ≤ gg ∧ v8 = .int .i64 kk ∧ Aside0 (Inv t wr) ∧ Aside0 (scanI step 0 s l = scanI step kk t (l.drop kk)))
  case atStart => exact ⟨0, s, Nat.zero_le _, by omega, rfl, HI, ⟨by simp⟩⟩
  case round =>
    clear HI
    obtain ⟨kk, t, hkk, hg, rfl, HI, HS⟩ := hrel
    by_cases hlt : kk < l.length
    · have hltz : (kk : Int) < (l.length : Int) := by omega
      obtain ⟨ad, rfl, hc0, hc1, hc2, hc3⟩ := at_T23 (HR.out t wr HI.out) (kk : Int) (by omega) (by omega)
      have HX : Aside0 (scanI step kk t (l.drop kk) = if (step t (rd_T23 l (kk : Int))).1 = true then ((kk : Int), (step t (rd_T23 l (kk : Int))).2) else scanI step ((kk + 1 : Nat) : Int) (step t (rd_T23 l (kk : Int))).2 (l.drop (kk + 1))) := ⟨scan_at step z23 l kk hlt t⟩
      have hmem : (rd_T23 l (kk : Int)) ∈ l := scan_mem z23 l kk hlt
      have hcall := HCall.out t wr _ hmem HI.out
      clear hmem
      simp only [Int.toNat_natCast] at hc0 hc1 hc2 hc3
      generalize rd_T23 l (kk : Int) = x at hc0 hc1 hc2 hc3 HX hcall
      have HC := Aside0.mk hcall
      clear hcall
      cases hq : (step t x).1 with
      | true =>
        have h := HC.out
        rw [hq] at h
        have HH := Aside0.mk h
        have HQ := Aside0.mk hq
        clear hq HC h
        go_wp2_with fail
        refine HH.out.mono ?_
        rintro e w' ⟨rfl, hb'⟩
        have HB := Aside0.mk hb'
        clear hb'
        go_wp2
        go_ret
        rw [HS.out, HX.out, if_pos HQ.out]
        exact ⟨rfl, HB.out⟩
      | false =>
        have h := HC.out
        rw [hq] at h
        have HH := Aside0.mk h
        have HQ := Aside0.mk hq
        clear hq HC h
        go_wp2_with fail
        refine HH.out.mono ?_
        rintro e w' ⟨rfl, hb'⟩
        have HB := Aside0.mk hb'
        clear hb'
        go_wp2
        go_roundg (l.length - (kk + 1))
        case measure => omega
        case rel =>
          refine ⟨kk + 1, (step t x).2, by omega, by omega, by go_num, HB, ⟨?_⟩⟩
          rw [HS.out, HX.out, if_neg (by rw [HQ.out]; simp)]
    · have hltz : ¬ (kk : Int) < (l.length : Int) := by omega
      go_wp2
      go_ret
      rw [HS.out, List.drop_eq_nil_of_le (by omega)]
      exact ⟨rfl, HI.out⟩

set_option maxHeartbeats 1000000 in
theorem con134 {σ : Type} (Inv : σ → World → Prop) (step : σ → S23 → Bool × σ) (g : Nat) (lb : Array Value) (eg : ∀ args w, (callFunc g args).run Try.prog w = .ok (.enter g args) w) (l : List S23) (A : Option Addr) (c : Nat)
    (hR : ∀ s W, Inv s W → Kd.C k23 W A l.length l) (hD : ∀ s W n, Inv s W → Inv s (W.drewN n))
    (hcall : ∀ s W (x : S23), x ∈ l → Inv s W → Calls Try.prog g (#[.agg #[.int .i64 x.f0, .int .i64 x.f1, .int .i64 x.f2, .int .i64 x.f3]] ++ lb) W fun e w' => e = .returned (.bool (step s x).1) ∧ Inv (step s x).2 w')
    (s : σ) (w : World) (hI : Inv s w) (hl : l.length ≤ 9223372036854775807) :
    Calls Try.prog 134 #[.slice A l.length c, .func (.func g) #[] lb] w fun e w' => e = .returned (.bool (scanB step s l).1) ∧ Inv (scanB step s l).2 w' := by
  have hi := idx173 Inv step g lb eg l A c hR hD hcall s w hI hl
  rw [scanB_eq]
  clear hR hD hcall hI
  generalize scanI step 0 s l = r at hi
  have HI := Aside0.mk hi
  clear hi
  go_enter Try.func134, Try.ntmps134
  go_wp2_with fail
  refine HI.out.mono ?_
  rintro e w' ⟨rfl, hb'⟩
  have HB := Aside0.mk hb'
  clear hb'
  go_wp2
  go_ret
  exact ⟨rfl, HB.out⟩
end Go.Proofs.Ytfdmfgaiblfbhaa.P
/- The contract of rect.May: whether all of some rectangles may be. -/
namespace Go.Proofs.Ytfdmfgaiblfbhaa.P
open Go.RowKit Go.Proofs.YtfdmfgaiblfbhaaW.PrintWords Go.Proofs.YtfdmfgaiblfbhaaW.PrintLast Go.Proofs.YtfdmfgaiblfbhaaW.PrintMore

set_option maxHeartbeats 1000000 in
theorem may1 (x : S23) (w : World) : Calls Try.prog 138 #[.agg #[.int .i64 x.f0, .int .i64 x.f1, .int .i64 x.f2, .int .i64 x.f3]] w fun e w' => e = .returned (.bool (!mayR x)) ∧ Below w.heap.size w w' := by
  have hc := fun W => rect_may.calls x.f0 x.f1 x.f2 x.f3 (mayR x) W (may_some _ _ _ _)
  have HC := Aside0.mk hc
  clear hc
  cases hm : mayR x with
  | true =>
    rw [hm] at HC
    clear hm
    go_enter Try.func138, Try.ntmps138
    go_wp2_with fail
    refine (HC.out _).mono ?_
    rintro e w' ⟨rfl, hb⟩
    have HB := Aside0.mk hb
    clear hb
    go_wp2
    go_ret
    exact ⟨rfl, below_then (below_alloc (Below.refl _ _) _) (by simp) HB.out⟩
  | false =>
    rw [hm] at HC
    clear hm
    go_enter Try.func138, Try.ntmps138
    go_wp2_with fail
    refine (HC.out _).mono ?_
    rintro e w' ⟨rfl, hb⟩
    have HB := Aside0.mk hb
    clear hb
    go_wp2
    go_ret
    exact ⟨rfl, below_then (below_alloc (Below.refl _ _) _) (by simp) HB.out⟩
def rect_May.f (l0 : List (S23)) : Option Bool := some (l0.all mayR)
set_option maxHeartbeats 1000000 in
theorem rect_May.calls (A0 : Option Addr) (c0 : Nat) (l0 : List (S23)) (r : Bool) (w : World) (hr0 : Kd.C k23 w A0 l0.length l0) (_hc0 : l0.length ≤ c0) (h : rect_May.f l0 = some r) :
    Calls Try.prog 68 #[.slice A0 l0.length c0] w fun e w' => e = .returned (.bool r) ∧ Below w.heap.size w w' := by
  have hcon := con134 (fun (_ : Unit) W => Below w.heap.size w W) (fun _ x => (!mayR x, ())) 138 #[] (enters_fn Try.func138 (by decide +kernel) (by kernel_rfl)) l0 A0 c0 (fun _ W hW => Kd.C_below hr0 hW) (fun _ W n hW => pw_below_drewN hW n)
    (fun _ W x _ hW => by
      rw [show (#[Value.agg #[.int .i64 x.f0, .int .i64 x.f1, .int .i64 x.f2, .int .i64 x.f3]] ++ #[] : Array Value) = #[.agg #[.int .i64 x.f0, .int .i64 x.f1, .int .i64 x.f2, .int .i64 x.f3]] by simp]
      exact (may1 x W).mono fun e w' ⟨he, hb⟩ => ⟨he, below_then hW hW.size hb⟩) () w (Below.refl _ _) hr0.2.1
  rw [scanB_any] at hcon
  have e1 : r = !(l0.any fun x => !mayR x) := by
    injection h with h
    rw [← h]
    clear h hcon hr0 _hc0
    induction l0 with
    | nil => rfl
    | cons x xs ih => simp only [List.all_cons, List.any_cons, ih, Bool.not_or, Bool.not_not]
  subst e1
  generalize (l0.any fun x => !mayR x) = b at hcon
  have HC := Aside0.mk hcon
  clear hcon h hr0
  go_enter Try.func68, Try.ntmps68
  go_wp2_with fail
  refine HC.out.mono ?_
  rintro e w' ⟨rfl, hb⟩
  have HB := Aside0.mk hb
  clear hb
  go_wp2
  go_ret
  exact ⟨rfl, HB.out⟩
end Go.Proofs.Ytfdmfgaiblfbhaa.P
/- The contract of cell.May: whether trees may be. Condition: each has at most 1048576 cells. -/
namespace Go.Proofs.Ytfdmfgaiblfbhaa.P
open Go.RowKit Go.Proofs.YtfdmfgaiblfbhaaW.PrintWords Go.Proofs.YtfdmfgaiblfbhaaW.PrintLast Go.Proofs.YtfdmfgaiblfbhaaW.PrintMore
set_option linter.unusedVariables false
set_option linter.unusedSimpArgs false
theorem Kp.grown {S : Nat → Prop} {W W1 : World} {g : Nat} (h : W.grownBy W1 (some g)) (hs : S g) : Kp S W W1 := ⟨h.size, fun k hk hn => h.block k hk (fun e => hn (by injection e with e; rw [e]; exact hs))⟩
theorem MayI.count {w0 W W1 : World} {bn bm B : Nat} {s : Int × List Int} {n : Int} (h : MayI w0 bn bm B s W) (hk : W1.heap[bn]? = some (.cells #[.int .i64 n] 3 (0, 0))) (hb : Below w0.heap.size w0 W1) (hg : W.grownBy W1 (some bn)) : MayI w0 bn bm B (n, s.2) W1 :=
  ⟨hk, blk_grown h.hm hg (fun e => h.neB.2.2 (Option.some.inj e)), h.map.kept hg (fun e => h.neB.1 (Option.some.inj e).symm), hb, h.gn, h.gB, h.nd, h.rg⟩
theorem MayI.met {w0 W W1 : World} {bn bm B : Nat} {s : Int × List Int} {i : Int} (h : MayI w0 bn bm B s W) (hm : W1.ownsMap (H := Unit) Try.prog 3 (plainElem Try.prog 4) B (s.2.length + 1) ((setD s.2).put (.int .i64 i) (.lit (.bool true)))) (hg : W.grownBy W1 (some B)) (hi : i ∉ s.2) (h0 : 0 ≤ i) (h1 : i ≤ 2147483647) : MayI w0 bn bm B (s.1, i :: s.2) W1 :=
  ⟨blk_grown h.hn hg (fun e => h.neB.1 (Option.some.inj e)), blk_grown h.hm hg (fun e => h.neB.2.1 (Option.some.inj e)), hm, grown_below h.below hg h.gB h.below.size, h.gn, h.gB, List.nodup_cons.2 ⟨hi, h.nd⟩, fun j hj => by
    rcases List.mem_cons.1 hj with rfl | hj
    · exact ⟨h0, h1⟩
    · exact h.rg j hj⟩
theorem zero4 (w : World) : (zeroValue 4).run Try.prog w = .ok (.bool false) w := by kernel_rfl
set_option maxHeartbeats 4000000 in
set_option maxRecDepth 100000 in
theorem may_A (w0 : World) (bn bm B : Nat) (s : Int × List Int) (W : World) (x : S26) (A : Option Addr) (cb : Nat) (hI : MayI w0 bn bm B s W) (h1 : 20000 < wrap64 (s.1 + 1)) :
    Calls Try.prog 176 (#[.agg #[.int .u8 x.f0, .int .i64 x.f1.f0, .int .i64 x.f1.f1, .int .i64 x.f1.f2, .int .i64 x.f1.f3, .int .i64 x.f2, .slice A x.f3.length cb]] ++ #[.pointer (some ⟨bn, 0, none⟩), .pointer (some ⟨bm, 0, none⟩)]) W fun e w' => e = .returned (.bool (mStep s x).1) ∧ MayI w0 bn bm B (mStep s x).2 w' ∧ Kp (MayS bn B) W w' := by
  rw [show mStep s x = (false, (wrap64 (s.1 + 1), s.2)) from by unfold mStep; rw [if_pos h1]]
  have HI := Aside0.mk hI
  have HK := Aside0.mk (Kp.refl (MayS bn B) W)
  clear hI
  simp only [List.append_toArray, List.cons_append, List.nil_append]
  go_enter Try.func176, Try.ntmps176
  go_wp2_with (first
    | ((with_reducible refine gate_dst (N := 3) rfl ?_); refine box_event ?hg (N := 3) ?hd (cs := #[.int .u8 x.f0, .int .i64 x.f1.f0, .int .i64 x.f1.f1, .int .i64 x.f1.f2, .int .i64 x.f1.f3, .int .i64 x.f2, .slice A x.f3.length cb]) (t := 26) ?hr ?_; (case hd => rfl); (case hg => rfl); (case hr => first | (go_simp; done) | (go_simp; rfl)); intro b3 hg w3 hbox hb; have K3 := Aside0.mk hbox; have q1_ := Aside0.mk (HI.out.step hb); have q2_ := Aside0.mk (HK.out.trans (Kp.below hb)); clear HI HK; have HI := q1_; have HK := q2_; clear q1_ q2_; clear hb hbox hg; have cn := (blk_cell HI.out.hn 0).trans rfl)
    | ((with_reducible refine gate_ (.store 3 (.tmp 1) (.tmp 6)) rfl ?_); go_loud (clear cn; refine box_store (w0 := w0) rfl rfl 3 (.tmp 1) (.tmp 6) rfl (g := bn) (j := 0) (base := w0.heap.size) #[.int .i64 (wrap64 (s.1 + 1))] (u := .int .i64 (wrap64 (s.1 + 1))) (seg := [.int .i64 (wrap64 (s.1 + 1))]) ?sA ?sX rfl ?sT ?s1 HI.out.hn ?sJ rfl HI.out.below HI.out.below.size HI.out.gn ?_; (case sA => rfl); (case sX => rfl); (case sT => rfl); (case s1 => (simp [Value.oneCell'])); (case sJ => (first | decide | simp)); intro ws hbk hbb hgg; have q1_ := Aside0.mk (HI.out.count hbk hbb hgg); have q2_ := Aside0.mk (HK.out.trans (Kp.grown hgg (Or.inl rfl))); have q3_ := Aside0.mk (blk_grown K3.out hgg (fun e_ => blk_ne K3.out HI.out.hn (by decide) (Option.some.inj e_))); clear HI HK K3 hbk hbb hgg; have HI := q1_; have HK := q2_; have K3 := q3_; clear q1_ q2_ q3_; have cn := (blk_cell HI.out.hn 0).trans rfl; have c0 := (blk_cell K3.out 0).trans rfl; have c1 := (blk_cell K3.out 1).trans rfl; have c2 := (blk_cell K3.out 2).trans rfl; have c3 := (blk_cell K3.out 3).trans rfl; have c4 := (blk_cell K3.out 4).trans rfl; have c5 := (blk_cell K3.out 5).trans rfl; have c6 := (blk_cell K3.out 6).trans rfl))
    | fail)
  go_ret
  exact ⟨rfl, HI.out, HK.out⟩
set_option maxHeartbeats 4000000 in
set_option maxRecDepth 100000 in
theorem may_B (w0 : World) (bn bm B : Nat) (s : Int × List Int) (W : World) (x : S26) (A : Option Addr) (cb : Nat) (hI : MayI w0 bn bm B s W) (h1 : ¬ 20000 < wrap64 (s.1 + 1)) (h2 : nodeB x = false) :
    Calls Try.prog 176 (#[.agg #[.int .u8 x.f0, .int .i64 x.f1.f0, .int .i64 x.f1.f1, .int .i64 x.f1.f2, .int .i64 x.f1.f3, .int .i64 x.f2, .slice A x.f3.length cb]] ++ #[.pointer (some ⟨bn, 0, none⟩), .pointer (some ⟨bm, 0, none⟩)]) W fun e w' => e = .returned (.bool (mStep s x).1) ∧ MayI w0 bn bm B (mStep s x).2 w' ∧ Kp (MayS bn B) W w' := by
  rw [show mStep s x = (false, (wrap64 (s.1 + 1), s.2)) from by unfold mStep; rw [if_neg h1, okC_node, h2]; simp]
  have HN := Aside0.mk fun W => node177 x A cb W
  rw [h2] at HN
  clear h2
  have HI := Aside0.mk hI
  have HK := Aside0.mk (Kp.refl (MayS bn B) W)
  clear hI
  simp only [List.append_toArray, List.cons_append, List.nil_append]
  go_enter Try.func176, Try.ntmps176
  go_wp2_with (first
    | ((with_reducible refine gate_dst (N := 3) rfl ?_); refine box_event ?hg (N := 3) ?hd (cs := #[.int .u8 x.f0, .int .i64 x.f1.f0, .int .i64 x.f1.f1, .int .i64 x.f1.f2, .int .i64 x.f1.f3, .int .i64 x.f2, .slice A x.f3.length cb]) (t := 26) ?hr ?_; (case hd => rfl); (case hg => rfl); (case hr => first | (go_simp; done) | (go_simp; rfl)); intro b3 hg w3 hbox hb; have K3 := Aside0.mk hbox; have q1_ := Aside0.mk (HI.out.step hb); have q2_ := Aside0.mk (HK.out.trans (Kp.below hb)); clear HI HK; have HI := q1_; have HK := q2_; clear q1_ q2_; clear hb hbox hg; have cn := (blk_cell HI.out.hn 0).trans rfl)
    | ((with_reducible refine gate_ (.store 3 (.tmp 1) (.tmp 6)) rfl ?_); go_loud (clear cn; refine box_store (w0 := w0) rfl rfl 3 (.tmp 1) (.tmp 6) rfl (g := bn) (j := 0) (base := w0.heap.size) #[.int .i64 (wrap64 (s.1 + 1))] (u := .int .i64 (wrap64 (s.1 + 1))) (seg := [.int .i64 (wrap64 (s.1 + 1))]) ?sA ?sX rfl ?sT ?s1 HI.out.hn ?sJ rfl HI.out.below HI.out.below.size HI.out.gn ?_; (case sA => rfl); (case sX => rfl); (case sT => rfl); (case s1 => (simp [Value.oneCell'])); (case sJ => (first | decide | simp)); intro ws hbk hbb hgg; have q1_ := Aside0.mk (HI.out.count hbk hbb hgg); have q2_ := Aside0.mk (HK.out.trans (Kp.grown hgg (Or.inl rfl))); have q3_ := Aside0.mk (blk_grown K3.out hgg (fun e_ => blk_ne K3.out HI.out.hn (by decide) (Option.some.inj e_))); clear HI HK K3 hbk hbb hgg; have HI := q1_; have HK := q2_; have K3 := q3_; clear q1_ q2_ q3_; have cn := (blk_cell HI.out.hn 0).trans rfl; have c0 := (blk_cell K3.out 0).trans rfl; have c1 := (blk_cell K3.out 1).trans rfl; have c2 := (blk_cell K3.out 2).trans rfl; have c3 := (blk_cell K3.out 3).trans rfl; have c4 := (blk_cell K3.out 4).trans rfl; have c5 := (blk_cell K3.out 5).trans rfl; have c6 := (blk_cell K3.out 6).trans rfl))
    | fail)
  clear cn
  clear c0 c1 c2 c3 c4 c5 c6
  refine (HN.out _).mono ?_
  rintro e wk ⟨rfl, hb⟩
  have q3_ := Aside0.mk (blk_below K3.out hb)
  clear K3
  have K3 := q3_
  clear q3_
  have q1_ := Aside0.mk (HI.out.step hb); have q2_ := Aside0.mk (HK.out.trans (Kp.below hb)); clear HI HK; have HI := q1_; have HK := q2_; clear q1_ q2_
  clear hb
  go_wp2
  go_ret
  exact ⟨rfl, HI.out, HK.out⟩
set_option maxHeartbeats 4000000 in
set_option maxRecDepth 100000 in
theorem may_C (w0 : World) (bn bm B : Nat) (s : Int × List Int) (W : World) (x : S26) (A : Option Addr) (cb : Nat) (hI : MayI w0 bn bm B s W) (h1 : ¬ 20000 < wrap64 (s.1 + 1)) (h2 : nodeB x = true) (h3 : mayR x.f1 = false) :
    Calls Try.prog 176 (#[.agg #[.int .u8 x.f0, .int .i64 x.f1.f0, .int .i64 x.f1.f1, .int .i64 x.f1.f2, .int .i64 x.f1.f3, .int .i64 x.f2, .slice A x.f3.length cb]] ++ #[.pointer (some ⟨bn, 0, none⟩), .pointer (some ⟨bm, 0, none⟩)]) W fun e w' => e = .returned (.bool (mStep s x).1) ∧ MayI w0 bn bm B (mStep s x).2 w' ∧ Kp (MayS bn B) W w' := by
  rw [show mStep s x = (false, (wrap64 (s.1 + 1), s.2)) from by unfold mStep; rw [if_neg h1, okC_node, h2, h3]; simp]
  have HN := Aside0.mk fun W => node177 x A cb W
  rw [h2] at HN
  clear h2
  have M1 := Aside0.mk (show rect_May.f [x.f1] = some false by simp [rect_May.f, h3])
  clear h3
  have HI := Aside0.mk hI
  have HK := Aside0.mk (Kp.refl (MayS bn B) W)
  clear hI
  simp only [List.append_toArray, List.cons_append, List.nil_append]
  go_enter Try.func176, Try.ntmps176
  go_wp2_with (first
    | ((with_reducible refine gate_dst (N := 3) rfl ?_); refine box_event ?hg (N := 3) ?hd (cs := #[.int .u8 x.f0, .int .i64 x.f1.f0, .int .i64 x.f1.f1, .int .i64 x.f1.f2, .int .i64 x.f1.f3, .int .i64 x.f2, .slice A x.f3.length cb]) (t := 26) ?hr ?_; (case hd => rfl); (case hg => rfl); (case hr => first | (go_simp; done) | (go_simp; rfl)); intro b3 hg w3 hbox hb; have K3 := Aside0.mk hbox; have q1_ := Aside0.mk (HI.out.step hb); have q2_ := Aside0.mk (HK.out.trans (Kp.below hb)); clear HI HK; have HI := q1_; have HK := q2_; clear q1_ q2_; clear hb hbox hg; have cn := (blk_cell HI.out.hn 0).trans rfl)
    | ((with_reducible refine gate_ (.store 3 (.tmp 1) (.tmp 6)) rfl ?_); go_loud (clear cn; refine box_store (w0 := w0) rfl rfl 3 (.tmp 1) (.tmp 6) rfl (g := bn) (j := 0) (base := w0.heap.size) #[.int .i64 (wrap64 (s.1 + 1))] (u := .int .i64 (wrap64 (s.1 + 1))) (seg := [.int .i64 (wrap64 (s.1 + 1))]) ?sA ?sX rfl ?sT ?s1 HI.out.hn ?sJ rfl HI.out.below HI.out.below.size HI.out.gn ?_; (case sA => rfl); (case sX => rfl); (case sT => rfl); (case s1 => (simp [Value.oneCell'])); (case sJ => (first | decide | simp)); intro ws hbk hbb hgg; have q1_ := Aside0.mk (HI.out.count hbk hbb hgg); have q2_ := Aside0.mk (HK.out.trans (Kp.grown hgg (Or.inl rfl))); have q3_ := Aside0.mk (blk_grown K3.out hgg (fun e_ => blk_ne K3.out HI.out.hn (by decide) (Option.some.inj e_))); clear HI HK K3 hbk hbb hgg; have HI := q1_; have HK := q2_; have K3 := q3_; clear q1_ q2_ q3_; have cn := (blk_cell HI.out.hn 0).trans rfl; have c0 := (blk_cell K3.out 0).trans rfl; have c1 := (blk_cell K3.out 1).trans rfl; have c2 := (blk_cell K3.out 2).trans rfl; have c3 := (blk_cell K3.out 3).trans rfl; have c4 := (blk_cell K3.out 4).trans rfl; have c5 := (blk_cell K3.out 5).trans rfl; have c6 := (blk_cell K3.out 6).trans rfl))
    | fail)
  clear cn
  clear c0 c1 c2 c3 c4 c5 c6
  refine (HN.out _).mono ?_
  rintro e wk ⟨rfl, hb⟩
  have q3_ := Aside0.mk (blk_below K3.out hb)
  clear K3
  have K3 := q3_
  clear q3_
  have q1_ := Aside0.mk (HI.out.step hb); have q2_ := Aside0.mk (HK.out.trans (Kp.below hb)); clear HI HK; have HI := q1_; have HK := q2_; clear q1_ q2_
  clear hb
  have c0 := (blk_cell K3.out 0).trans rfl
  have c1 := (blk_cell K3.out 1).trans rfl
  have c2 := (blk_cell K3.out 2).trans rfl
  have c3 := (blk_cell K3.out 3).trans rfl
  have c4 := (blk_cell K3.out 4).trans rfl
  have c5 := (blk_cell K3.out 5).trans rfl
  have c6 := (blk_cell K3.out 6).trans rfl
  go_wp2_with (first
    | ((with_reducible refine gate_dst (N := 17) rfl ?_); (try (refine gate_guard (by rfl) ?_; dsimp only)); refine Kd.R_lit k23 _ 23 ?hg (N := 17) ?hd (xs := ([x.f1] : List S23)) (inner := [.int .i64 x.f1.f0, .int .i64 x.f1.f1, .int .i64 x.f1.f2, .int .i64 x.f1.f3]) (ok := fun _ => True) (okp := fun _ => True) ?hr ?hp (fun _ hk => hk) trivial (Below.refl _ _) (Nat.le_refl _) (by simp) ?_; (case hd => rfl); (case hg => rfl); (case hr => first | (go_simp; done) | (go_simp; rfl)); (case hp => exact (Reps.c4 (show Kd.M k23 _ _ _ x.f1 [.int .i64 x.f1.f0, .int .i64 x.f1.f1, .int .i64 x.f1.f2, .int .i64 x.f1.f3] from k23_mkM _ _ _ x.f1) (Reps.none _ _))); intro vr wr ho hb hg_ hnew_; clear hg_ hnew_; obtain ⟨Ar, cr, er⟩ := Kd.R_slice ho; subst er; have q3_ := Aside0.mk (blk_below K3.out hb); clear K3; have K3 := q3_; clear q3_; have q1_ := Aside0.mk (HI.out.step hb); have q2_ := Aside0.mk (HK.out.trans (Kp.below hb)); clear HI HK; have HI := q1_; have HK := q2_; clear q1_ q2_; have HR := Aside0.mk (Kd.R_reads' ho).2.2; have LR := Aside0.mk (Kd.R_reads' ho).2.1; clear ho hb)
    | fail)
  clear c0 c1 c2 c3 c4 c5 c6
  refine (rect_May.calls Ar cr [x.f1] false _ HR.out LR.out M1.out).mono ?_
  rintro e wk ⟨rfl, hb⟩
  have q3_ := Aside0.mk (blk_below K3.out hb)
  clear K3
  have K3 := q3_
  clear q3_
  have q1_ := Aside0.mk (HI.out.step hb); have q2_ := Aside0.mk (HK.out.trans (Kp.below hb)); clear HI HK; have HI := q1_; have HK := q2_; clear q1_ q2_
  clear hb
  go_wp2
  go_ret
  exact ⟨rfl, HI.out, HK.out⟩
set_option maxHeartbeats 4000000 in
set_option maxRecDepth 100000 in
theorem may_D (w0 : World) (bn bm B : Nat) (s : Int × List Int) (W : World) (x : S26) (A : Option Addr) (cb : Nat) (hI : MayI w0 bn bm B s W) (h1 : ¬ 20000 < wrap64 (s.1 + 1)) (h2 : nodeB x = true) (h3 : mayR x.f1 = true) (h4 : x.f0 ≠ 1) :
    Calls Try.prog 176 (#[.agg #[.int .u8 x.f0, .int .i64 x.f1.f0, .int .i64 x.f1.f1, .int .i64 x.f1.f2, .int .i64 x.f1.f3, .int .i64 x.f2, .slice A x.f3.length cb]] ++ #[.pointer (some ⟨bn, 0, none⟩), .pointer (some ⟨bm, 0, none⟩)]) W fun e w' => e = .returned (.bool (mStep s x).1) ∧ MayI w0 bn bm B (mStep s x).2 w' ∧ Kp (MayS bn B) W w' := by
  rw [show mStep s x = (true, (wrap64 (s.1 + 1), s.2)) from by unfold mStep; rw [if_neg h1, okC_node, h2, h3, if_neg (by simp), if_neg h4]]
  have HN := Aside0.mk fun W => node177 x A cb W
  rw [h2] at HN
  clear h2
  have M1 := Aside0.mk (show rect_May.f [x.f1] = some true by simp [rect_May.f, h3])
  clear h3
  have h4b : (x.f0 == 1) = false := beq_eq_false_iff_ne.mpr h4
  clear h4
  have HI := Aside0.mk hI
  have HK := Aside0.mk (Kp.refl (MayS bn B) W)
  clear hI
  simp only [List.append_toArray, List.cons_append, List.nil_append]
  go_enter Try.func176, Try.ntmps176
  go_wp2_with (first
    | ((with_reducible refine gate_dst (N := 3) rfl ?_); refine box_event ?hg (N := 3) ?hd (cs := #[.int .u8 x.f0, .int .i64 x.f1.f0, .int .i64 x.f1.f1, .int .i64 x.f1.f2, .int .i64 x.f1.f3, .int .i64 x.f2, .slice A x.f3.length cb]) (t := 26) ?hr ?_; (case hd => rfl); (case hg => rfl); (case hr => first | (go_simp; done) | (go_simp; rfl)); intro b3 hg w3 hbox hb; have K3 := Aside0.mk hbox; have q1_ := Aside0.mk (HI.out.step hb); have q2_ := Aside0.mk (HK.out.trans (Kp.below hb)); clear HI HK; have HI := q1_; have HK := q2_; clear q1_ q2_; clear hb hbox hg; have cn := (blk_cell HI.out.hn 0).trans rfl)
    | ((with_reducible refine gate_ (.store 3 (.tmp 1) (.tmp 6)) rfl ?_); go_loud (clear cn; refine box_store (w0 := w0) rfl rfl 3 (.tmp 1) (.tmp 6) rfl (g := bn) (j := 0) (base := w0.heap.size) #[.int .i64 (wrap64 (s.1 + 1))] (u := .int .i64 (wrap64 (s.1 + 1))) (seg := [.int .i64 (wrap64 (s.1 + 1))]) ?sA ?sX rfl ?sT ?s1 HI.out.hn ?sJ rfl HI.out.below HI.out.below.size HI.out.gn ?_; (case sA => rfl); (case sX => rfl); (case sT => rfl); (case s1 => (simp [Value.oneCell'])); (case sJ => (first | decide | simp)); intro ws hbk hbb hgg; have q1_ := Aside0.mk (HI.out.count hbk hbb hgg); have q2_ := Aside0.mk (HK.out.trans (Kp.grown hgg (Or.inl rfl))); have q3_ := Aside0.mk (blk_grown K3.out hgg (fun e_ => blk_ne K3.out HI.out.hn (by decide) (Option.some.inj e_))); clear HI HK K3 hbk hbb hgg; have HI := q1_; have HK := q2_; have K3 := q3_; clear q1_ q2_ q3_; have cn := (blk_cell HI.out.hn 0).trans rfl; have c0 := (blk_cell K3.out 0).trans rfl; have c1 := (blk_cell K3.out 1).trans rfl; have c2 := (blk_cell K3.out 2).trans rfl; have c3 := (blk_cell K3.out 3).trans rfl; have c4 := (blk_cell K3.out 4).trans rfl; have c5 := (blk_cell K3.out 5).trans rfl; have c6 := (blk_cell K3.out 6).trans rfl))
    | fail)
  clear cn
  clear c0 c1 c2 c3 c4 c5 c6
  refine (HN.out _).mono ?_
  rintro e wk ⟨rfl, hb⟩
  have q3_ := Aside0.mk (blk_below K3.out hb)
  clear K3
  have K3 := q3_
  clear q3_
  have q1_ := Aside0.mk (HI.out.step hb); have q2_ := Aside0.mk (HK.out.trans (Kp.below hb)); clear HI HK; have HI := q1_; have HK := q2_; clear q1_ q2_
  clear hb
  have c0 := (blk_cell K3.out 0).trans rfl
  have c1 := (blk_cell K3.out 1).trans rfl
  have c2 := (blk_cell K3.out 2).trans rfl
  have c3 := (blk_cell K3.out 3).trans rfl
  have c4 := (blk_cell K3.out 4).trans rfl
  have c5 := (blk_cell K3.out 5).trans rfl
  have c6 := (blk_cell K3.out 6).trans rfl
  go_wp2_with (first
    | ((with_reducible refine gate_dst (N := 17) rfl ?_); (try (refine gate_guard (by rfl) ?_; dsimp only)); refine Kd.R_lit k23 _ 23 ?hg (N := 17) ?hd (xs := ([x.f1] : List S23)) (inner := [.int .i64 x.f1.f0, .int .i64 x.f1.f1, .int .i64 x.f1.f2, .int .i64 x.f1.f3]) (ok := fun _ => True) (okp := fun _ => True) ?hr ?hp (fun _ hk => hk) trivial (Below.refl _ _) (Nat.le_refl _) (by simp) ?_; (case hd => rfl); (case hg => rfl); (case hr => first | (go_simp; done) | (go_simp; rfl)); (case hp => exact (Reps.c4 (show Kd.M k23 _ _ _ x.f1 [.int .i64 x.f1.f0, .int .i64 x.f1.f1, .int .i64 x.f1.f2, .int .i64 x.f1.f3] from k23_mkM _ _ _ x.f1) (Reps.none _ _))); intro vr wr ho hb hg_ hnew_; clear hg_ hnew_; obtain ⟨Ar, cr, er⟩ := Kd.R_slice ho; subst er; have q3_ := Aside0.mk (blk_below K3.out hb); clear K3; have K3 := q3_; clear q3_; have q1_ := Aside0.mk (HI.out.step hb); have q2_ := Aside0.mk (HK.out.trans (Kp.below hb)); clear HI HK; have HI := q1_; have HK := q2_; clear q1_ q2_; have HR := Aside0.mk (Kd.R_reads' ho).2.2; have LR := Aside0.mk (Kd.R_reads' ho).2.1; clear ho hb)
    | fail)
  clear c0 c1 c2 c3 c4 c5 c6
  refine (rect_May.calls Ar cr [x.f1] true _ HR.out LR.out M1.out).mono ?_
  rintro e wk ⟨rfl, hb⟩
  have q3_ := Aside0.mk (blk_below K3.out hb)
  clear K3
  have K3 := q3_
  clear q3_
  have q1_ := Aside0.mk (HI.out.step hb); have q2_ := Aside0.mk (HK.out.trans (Kp.below hb)); clear HI HK; have HI := q1_; have HK := q2_; clear q1_ q2_
  clear hb
  have c0 := (blk_cell K3.out 0).trans rfl
  have c1 := (blk_cell K3.out 1).trans rfl
  have c2 := (blk_cell K3.out 2).trans rfl
  have c3 := (blk_cell K3.out 3).trans rfl
  have c4 := (blk_cell K3.out 4).trans rfl
  have c5 := (blk_cell K3.out 5).trans rfl
  have c6 := (blk_cell K3.out 6).trans rfl
  go_wp2
  go_ret
  exact ⟨rfl, HI.out, HK.out⟩
set_option maxHeartbeats 4000000 in
set_option maxRecDepth 100000 in
theorem may_E (w0 : World) (bn bm B : Nat) (s : Int × List Int) (W : World) (x : S26) (A : Option Addr) (cb : Nat) (hI : MayI w0 bn bm B s W) (h1 : ¬ 20000 < wrap64 (s.1 + 1)) (h2 : nodeB x = true) (h3 : mayR x.f1 = true) (h4 : x.f0 = 1) (h5 : 0 ≤ x.f2) (h6 : x.f2 ≤ 2147483647) (h7 : x.f2 ∈ s.2) :
    Calls Try.prog 176 (#[.agg #[.int .u8 x.f0, .int .i64 x.f1.f0, .int .i64 x.f1.f1, .int .i64 x.f1.f2, .int .i64 x.f1.f3, .int .i64 x.f2, .slice A x.f3.length cb]] ++ #[.pointer (some ⟨bn, 0, none⟩), .pointer (some ⟨bm, 0, none⟩)]) W fun e w' => e = .returned (.bool (mStep s x).1) ∧ MayI w0 bn bm B (mStep s x).2 w' ∧ Kp (MayS bn B) W w' := by
  rw [show mStep s x = (false, (wrap64 (s.1 + 1), s.2)) from by unfold mStep; rw [if_neg h1, okC_node, h2, h3, if_neg (by simp), if_pos h4, if_pos h7]]
  have HN := Aside0.mk fun W => node177 x A cb W
  rw [h2] at HN
  clear h2
  have M1 := Aside0.mk (show rect_May.f [x.f1] = some true by simp [rect_May.f, h3])
  clear h3
  have LK : Aside0 ((setD s.2).atKey (.int .i64 x.f2) (.lit (.bool false)) = .lit (.bool true)) := ⟨by rw [setD_at, decide_eq_true h7]⟩
  clear h7
  have I0 := Aside0.mk h5
  have I1 := Aside0.mk h6
  have WF : Aside0 ((Lit.int .i64 x.f2).wf = true) := ⟨WalkArith.wf_i64 (by omega)⟩
  have h4b : (x.f0 == 1) = true := beq_iff_eq.mpr h4
  clear h4 h5 h6
  have HI := Aside0.mk hI
  have HK := Aside0.mk (Kp.refl (MayS bn B) W)
  clear hI
  simp only [List.append_toArray, List.cons_append, List.nil_append]
  go_enter Try.func176, Try.ntmps176
  go_wp2_with (first
    | ((with_reducible refine gate_dst (N := 3) rfl ?_); refine box_event ?hg (N := 3) ?hd (cs := #[.int .u8 x.f0, .int .i64 x.f1.f0, .int .i64 x.f1.f1, .int .i64 x.f1.f2, .int .i64 x.f1.f3, .int .i64 x.f2, .slice A x.f3.length cb]) (t := 26) ?hr ?_; (case hd => rfl); (case hg => rfl); (case hr => first | (go_simp; done) | (go_simp; rfl)); intro b3 hg w3 hbox hb; have K3 := Aside0.mk hbox; have q1_ := Aside0.mk (HI.out.step hb); have q2_ := Aside0.mk (HK.out.trans (Kp.below hb)); clear HI HK; have HI := q1_; have HK := q2_; clear q1_ q2_; clear hb hbox hg; have cn := (blk_cell HI.out.hn 0).trans rfl)
    | ((with_reducible refine gate_ (.store 3 (.tmp 1) (.tmp 6)) rfl ?_); go_loud (clear cn; refine box_store (w0 := w0) rfl rfl 3 (.tmp 1) (.tmp 6) rfl (g := bn) (j := 0) (base := w0.heap.size) #[.int .i64 (wrap64 (s.1 + 1))] (u := .int .i64 (wrap64 (s.1 + 1))) (seg := [.int .i64 (wrap64 (s.1 + 1))]) ?sA ?sX rfl ?sT ?s1 HI.out.hn ?sJ rfl HI.out.below HI.out.below.size HI.out.gn ?_; (case sA => rfl); (case sX => rfl); (case sT => rfl); (case s1 => (simp [Value.oneCell'])); (case sJ => (first | decide | simp)); intro ws hbk hbb hgg; have q1_ := Aside0.mk (HI.out.count hbk hbb hgg); have q2_ := Aside0.mk (HK.out.trans (Kp.grown hgg (Or.inl rfl))); have q3_ := Aside0.mk (blk_grown K3.out hgg (fun e_ => blk_ne K3.out HI.out.hn (by decide) (Option.some.inj e_))); clear HI HK K3 hbk hbb hgg; have HI := q1_; have HK := q2_; have K3 := q3_; clear q1_ q2_ q3_; have cn := (blk_cell HI.out.hn 0).trans rfl; have c0 := (blk_cell K3.out 0).trans rfl; have c1 := (blk_cell K3.out 1).trans rfl; have c2 := (blk_cell K3.out 2).trans rfl; have c3 := (blk_cell K3.out 3).trans rfl; have c4 := (blk_cell K3.out 4).trans rfl; have c5 := (blk_cell K3.out 5).trans rfl; have c6 := (blk_cell K3.out 6).trans rfl))
    | fail)
  clear cn
  clear c0 c1 c2 c3 c4 c5 c6
  refine (HN.out _).mono ?_
  rintro e wk ⟨rfl, hb⟩
  have q3_ := Aside0.mk (blk_below K3.out hb)
  clear K3
  have K3 := q3_
  clear q3_
  have q1_ := Aside0.mk (HI.out.step hb); have q2_ := Aside0.mk (HK.out.trans (Kp.below hb)); clear HI HK; have HI := q1_; have HK := q2_; clear q1_ q2_
  clear hb
  have c0 := (blk_cell K3.out 0).trans rfl
  have c1 := (blk_cell K3.out 1).trans rfl
  have c2 := (blk_cell K3.out 2).trans rfl
  have c3 := (blk_cell K3.out 3).trans rfl
  have c4 := (blk_cell K3.out 4).trans rfl
  have c5 := (blk_cell K3.out 5).trans rfl
  have c6 := (blk_cell K3.out 6).trans rfl
  go_wp2_with (first
    | ((with_reducible refine gate_dst (N := 17) rfl ?_); (try (refine gate_guard (by rfl) ?_; dsimp only)); refine Kd.R_lit k23 _ 23 ?hg (N := 17) ?hd (xs := ([x.f1] : List S23)) (inner := [.int .i64 x.f1.f0, .int .i64 x.f1.f1, .int .i64 x.f1.f2, .int .i64 x.f1.f3]) (ok := fun _ => True) (okp := fun _ => True) ?hr ?hp (fun _ hk => hk) trivial (Below.refl _ _) (Nat.le_refl _) (by simp) ?_; (case hd => rfl); (case hg => rfl); (case hr => first | (go_simp; done) | (go_simp; rfl)); (case hp => exact (Reps.c4 (show Kd.M k23 _ _ _ x.f1 [.int .i64 x.f1.f0, .int .i64 x.f1.f1, .int .i64 x.f1.f2, .int .i64 x.f1.f3] from k23_mkM _ _ _ x.f1) (Reps.none _ _))); intro vr wr ho hb hg_ hnew_; clear hg_ hnew_; obtain ⟨Ar, cr, er⟩ := Kd.R_slice ho; subst er; have q3_ := Aside0.mk (blk_below K3.out hb); clear K3; have K3 := q3_; clear q3_; have q1_ := Aside0.mk (HI.out.step hb); have q2_ := Aside0.mk (HK.out.trans (Kp.below hb)); clear HI HK; have HI := q1_; have HK := q2_; clear q1_ q2_; have HR := Aside0.mk (Kd.R_reads' ho).2.2; have LR := Aside0.mk (Kd.R_reads' ho).2.1; clear ho hb)
    | fail)
  clear c0 c1 c2 c3 c4 c5 c6
  refine (rect_May.calls Ar cr [x.f1] true _ HR.out LR.out M1.out).mono ?_
  rintro e wk ⟨rfl, hb⟩
  have q3_ := Aside0.mk (blk_below K3.out hb)
  clear K3
  have K3 := q3_
  clear q3_
  have q1_ := Aside0.mk (HI.out.step hb); have q2_ := Aside0.mk (HK.out.trans (Kp.below hb)); clear HI HK; have HI := q1_; have HK := q2_; clear q1_ q2_
  clear hb
  have c0 := (blk_cell K3.out 0).trans rfl
  have c1 := (blk_cell K3.out 1).trans rfl
  have c2 := (blk_cell K3.out 2).trans rfl
  have c3 := (blk_cell K3.out 3).trans rfl
  have c4 := (blk_cell K3.out 4).trans rfl
  have c5 := (blk_cell K3.out 5).trans rfl
  have c6 := (blk_cell K3.out 6).trans rfl
  have cm := (blk_cell HI.out.hm 0).trans rfl
  go_wp2_with (first
    | ((with_reducible refine gate_dst (N := 29) rfl ?_); (try (refine gate_guard (by rfl) ?_; dsimp only)); refine lookup_bool _ rfl _ _ 161 rfl 3 4 (Maps.int_keyed Try.underlying3) Try.underlying161 Try.underlying4 (zero4 _) B _ _ rfl HI.out.map _ (.int .i64 x.f2) rfl (Maps.keyOf_int_mk Try.underlying3 WF.out) true LK.out ?_)
    | fail)
  go_ret
  exact ⟨rfl, HI.out, HK.out⟩
set_option maxHeartbeats 4000000 in
set_option maxRecDepth 100000 in
theorem may_F (w0 : World) (bn bm B : Nat) (s : Int × List Int) (W : World) (x : S26) (A : Option Addr) (cb : Nat) (hI : MayI w0 bn bm B s W) (h1 : ¬ 20000 < wrap64 (s.1 + 1)) (h2 : nodeB x = true) (h3 : mayR x.f1 = true) (h4 : x.f0 = 1) (h5 : 0 ≤ x.f2) (h6 : x.f2 ≤ 2147483647) (h7 : x.f2 ∉ s.2) :
    Calls Try.prog 176 (#[.agg #[.int .u8 x.f0, .int .i64 x.f1.f0, .int .i64 x.f1.f1, .int .i64 x.f1.f2, .int .i64 x.f1.f3, .int .i64 x.f2, .slice A x.f3.length cb]] ++ #[.pointer (some ⟨bn, 0, none⟩), .pointer (some ⟨bm, 0, none⟩)]) W fun e w' => e = .returned (.bool (mStep s x).1) ∧ MayI w0 bn bm B (mStep s x).2 w' ∧ Kp (MayS bn B) W w' := by
  rw [show mStep s x = (true, (wrap64 (s.1 + 1), x.f2 :: s.2)) from by unfold mStep; rw [if_neg h1, okC_node, h2, h3, if_neg (by simp), if_pos h4, if_neg h7]]
  have HN := Aside0.mk fun W => node177 x A cb W
  rw [h2] at HN
  clear h2
  have M1 := Aside0.mk (show rect_May.f [x.f1] = some true by simp [rect_May.f, h3])
  clear h3
  have LK : Aside0 ((setD s.2).atKey (.int .i64 x.f2) (.lit (.bool false)) = .lit (.bool false)) := ⟨by rw [setD_at, decide_eq_false h7]⟩
  have NM := Aside0.mk h7
  clear h7
  have HLN : Aside0 (s.2.length < maxLen) := ⟨by have h8 := nodup_le 2147483648 s.2 hI.nd (fun i hi => by have := hI.rg i hi; omega); unfold maxLen; omega⟩
  have I0 := Aside0.mk h5
  have I1 := Aside0.mk h6
  have WF : Aside0 ((Lit.int .i64 x.f2).wf = true) := ⟨WalkArith.wf_i64 (by omega)⟩
  have h4b : (x.f0 == 1) = true := beq_iff_eq.mpr h4
  clear h4 h5 h6
  have HI := Aside0.mk hI
  have HK := Aside0.mk (Kp.refl (MayS bn B) W)
  clear hI
  simp only [List.append_toArray, List.cons_append, List.nil_append]
  go_enter Try.func176, Try.ntmps176
  go_wp2_with (first
    | ((with_reducible refine gate_dst (N := 3) rfl ?_); refine box_event ?hg (N := 3) ?hd (cs := #[.int .u8 x.f0, .int .i64 x.f1.f0, .int .i64 x.f1.f1, .int .i64 x.f1.f2, .int .i64 x.f1.f3, .int .i64 x.f2, .slice A x.f3.length cb]) (t := 26) ?hr ?_; (case hd => rfl); (case hg => rfl); (case hr => first | (go_simp; done) | (go_simp; rfl)); intro b3 hg w3 hbox hb; have K3 := Aside0.mk hbox; have q1_ := Aside0.mk (HI.out.step hb); have q2_ := Aside0.mk (HK.out.trans (Kp.below hb)); clear HI HK; have HI := q1_; have HK := q2_; clear q1_ q2_; clear hb hbox hg; have cn := (blk_cell HI.out.hn 0).trans rfl)
    | ((with_reducible refine gate_ (.store 3 (.tmp 1) (.tmp 6)) rfl ?_); go_loud (clear cn; refine box_store (w0 := w0) rfl rfl 3 (.tmp 1) (.tmp 6) rfl (g := bn) (j := 0) (base := w0.heap.size) #[.int .i64 (wrap64 (s.1 + 1))] (u := .int .i64 (wrap64 (s.1 + 1))) (seg := [.int .i64 (wrap64 (s.1 + 1))]) ?sA ?sX rfl ?sT ?s1 HI.out.hn ?sJ rfl HI.out.below HI.out.below.size HI.out.gn ?_; (case sA => rfl); (case sX => rfl); (case sT => rfl); (case s1 => (simp [Value.oneCell'])); (case sJ => (first | decide | simp)); intro ws hbk hbb hgg; have q1_ := Aside0.mk (HI.out.count hbk hbb hgg); have q2_ := Aside0.mk (HK.out.trans (Kp.grown hgg (Or.inl rfl))); have q3_ := Aside0.mk (blk_grown K3.out hgg (fun e_ => blk_ne K3.out HI.out.hn (by decide) (Option.some.inj e_))); clear HI HK K3 hbk hbb hgg; have HI := q1_; have HK := q2_; have K3 := q3_; clear q1_ q2_ q3_; have cn := (blk_cell HI.out.hn 0).trans rfl; have c0 := (blk_cell K3.out 0).trans rfl; have c1 := (blk_cell K3.out 1).trans rfl; have c2 := (blk_cell K3.out 2).trans rfl; have c3 := (blk_cell K3.out 3).trans rfl; have c4 := (blk_cell K3.out 4).trans rfl; have c5 := (blk_cell K3.out 5).trans rfl; have c6 := (blk_cell K3.out 6).trans rfl))
    | fail)
  clear cn
  clear c0 c1 c2 c3 c4 c5 c6
  refine (HN.out _).mono ?_
  rintro e wk ⟨rfl, hb⟩
  have q3_ := Aside0.mk (blk_below K3.out hb)
  clear K3
  have K3 := q3_
  clear q3_
  have q1_ := Aside0.mk (HI.out.step hb); have q2_ := Aside0.mk (HK.out.trans (Kp.below hb)); clear HI HK; have HI := q1_; have HK := q2_; clear q1_ q2_
  clear hb
  have c0 := (blk_cell K3.out 0).trans rfl
  have c1 := (blk_cell K3.out 1).trans rfl
  have c2 := (blk_cell K3.out 2).trans rfl
  have c3 := (blk_cell K3.out 3).trans rfl
  have c4 := (blk_cell K3.out 4).trans rfl
  have c5 := (blk_cell K3.out 5).trans rfl
  have c6 := (blk_cell K3.out 6).trans rfl
  go_wp2_with (first
    | ((with_reducible refine gate_dst (N := 17) rfl ?_); (try (refine gate_guard (by rfl) ?_; dsimp only)); refine Kd.R_lit k23 _ 23 ?hg (N := 17) ?hd (xs := ([x.f1] : List S23)) (inner := [.int .i64 x.f1.f0, .int .i64 x.f1.f1, .int .i64 x.f1.f2, .int .i64 x.f1.f3]) (ok := fun _ => True) (okp := fun _ => True) ?hr ?hp (fun _ hk => hk) trivial (Below.refl _ _) (Nat.le_refl _) (by simp) ?_; (case hd => rfl); (case hg => rfl); (case hr => first | (go_simp; done) | (go_simp; rfl)); (case hp => exact (Reps.c4 (show Kd.M k23 _ _ _ x.f1 [.int .i64 x.f1.f0, .int .i64 x.f1.f1, .int .i64 x.f1.f2, .int .i64 x.f1.f3] from k23_mkM _ _ _ x.f1) (Reps.none _ _))); intro vr wr ho hb hg_ hnew_; clear hg_ hnew_; obtain ⟨Ar, cr, er⟩ := Kd.R_slice ho; subst er; have q3_ := Aside0.mk (blk_below K3.out hb); clear K3; have K3 := q3_; clear q3_; have q1_ := Aside0.mk (HI.out.step hb); have q2_ := Aside0.mk (HK.out.trans (Kp.below hb)); clear HI HK; have HI := q1_; have HK := q2_; clear q1_ q2_; have HR := Aside0.mk (Kd.R_reads' ho).2.2; have LR := Aside0.mk (Kd.R_reads' ho).2.1; clear ho hb)
    | fail)
  clear c0 c1 c2 c3 c4 c5 c6
  refine (rect_May.calls Ar cr [x.f1] true _ HR.out LR.out M1.out).mono ?_
  rintro e wk ⟨rfl, hb⟩
  have q3_ := Aside0.mk (blk_below K3.out hb)
  clear K3
  have K3 := q3_
  clear q3_
  have q1_ := Aside0.mk (HI.out.step hb); have q2_ := Aside0.mk (HK.out.trans (Kp.below hb)); clear HI HK; have HI := q1_; have HK := q2_; clear q1_ q2_
  clear hb
  have c0 := (blk_cell K3.out 0).trans rfl
  have c1 := (blk_cell K3.out 1).trans rfl
  have c2 := (blk_cell K3.out 2).trans rfl
  have c3 := (blk_cell K3.out 3).trans rfl
  have c4 := (blk_cell K3.out 4).trans rfl
  have c5 := (blk_cell K3.out 5).trans rfl
  have c6 := (blk_cell K3.out 6).trans rfl
  have cm := (blk_cell HI.out.hm 0).trans rfl
  go_wp2_with (first
    | ((with_reducible refine gate_dst (N := 29) rfl ?_); (try (refine gate_guard (by rfl) ?_; dsimp only)); refine lookup_bool _ rfl _ _ 161 rfl 3 4 (Maps.int_keyed Try.underlying3) Try.underlying161 Try.underlying4 (zero4 _) B _ _ rfl HI.out.map _ (.int .i64 x.f2) rfl (Maps.keyOf_int_mk Try.underlying3 WF.out) false LK.out ?_)
    | (at_mapUpdate; refine wpList_mapUpdate_own _ rfl _ _ _ 161 rfl 3 4 (Maps.int_keyed Try.underlying3) Try.underlying161 _ B _ _ rfl HI.out.map HLN.out _ _ (.int .i64 x.f2) rfl rfl (Maps.keyOf_int_mk Try.underlying3 WF.out) (.lit (.bool true)) [] (plainElem_bool Try.underlying4 true) ?_; intro wu hown1 hgrow1; have q1_ := Aside0.mk (HI.out.met hown1 hgrow1 NM.out I0.out I1.out); have q2_ := Aside0.mk (HK.out.trans (Kp.grown hgrow1 (Or.inr rfl))); clear HI HK hown1 hgrow1; have HI := q1_; have HK := q2_; clear q1_ q2_)
    | fail)
  go_ret
  exact ⟨rfl, HI.out, HK.out⟩
theorem may176 (w0 : World) (bn bm B : Nat) (s : Int × List Int) (W : World) (x : S26) (A : Option Addr) (cb : Nat) (hI : MayI w0 bn bm B s W) :
    Calls Try.prog 176 (#[.agg #[.int .u8 x.f0, .int .i64 x.f1.f0, .int .i64 x.f1.f1, .int .i64 x.f1.f2, .int .i64 x.f1.f3, .int .i64 x.f2, .slice A x.f3.length cb]] ++ #[.pointer (some ⟨bn, 0, none⟩), .pointer (some ⟨bm, 0, none⟩)]) W fun e w' => e = .returned (.bool (mStep s x).1) ∧ MayI w0 bn bm B (mStep s x).2 w' ∧ Kp (MayS bn B) W w' := by
  by_cases h1 : 20000 < wrap64 (s.1 + 1)
  · exact may_A w0 bn bm B s W x A cb hI h1
  · cases h2 : nodeB x with
    | false => exact may_B w0 bn bm B s W x A cb hI h1 h2
    | true =>
      cases h3 : mayR x.f1 with
      | false => exact may_C w0 bn bm B s W x A cb hI h1 h2 h3
      | true =>
        by_cases h4 : x.f0 = 1
        · have h8 := h2
          unfold nodeB at h8
          rw [if_pos h4] at h8
          simp only [Bool.and_eq_true, decide_eq_true_eq] at h8
          by_cases h7 : x.f2 ∈ s.2
          · exact may_E w0 bn bm B s W x A cb hI h1 h2 h3 h4 h8.2.1 h8.2.2 h7
          · exact may_F w0 bn bm B s W x A cb hI h1 h2 h3 h4 h8.2.1 h8.2.2 h7
        · exact may_D w0 bn bm B s W x A cb hI h1 h2 h3 h4
end Go.Proofs.Ytfdmfgaiblfbhaa.P
/- The contract of cell.May: whether trees may be. Condition: each has at most 1048576 cells. -/
namespace Go.Proofs.Ytfdmfgaiblfbhaa.P
open Go.RowKit Go.Proofs.YtfdmfgaiblfbhaaW.PrintWords Go.Proofs.YtfdmfgaiblfbhaaW.PrintLast Go.Proofs.YtfdmfgaiblfbhaaW.PrintMore
set_option linter.unusedVariables false
set_option linter.unusedSimpArgs false
section
variable {P : Program} {ops : Array Oper} {rest : List Oper} {o : Oper} {a : Act} {Q : Exit → Act → World → Prop}
theorem map_event {W : World} (hgd : o.guard = none) {N : Tmp} (_hd : o.dst = some N) (t k e : TypeId) (ho : o.op = .makeMap t none)
    (h : ∀ g, g = W.heap.size → ∀ w1, Below W.heap.size W w1 → w1.ownsMap (H := Unit) P k (plainElem P e) g 0 (.map []) → wpList P ops Q rest (a.put o.dst (.map (some g))) w1) : wpList P ops Q (o :: rest) a W := by
  refine Kd.event_run hgd (w1 := W.alloc (.map #[] 0)) (v := .map (some W.heap.size)) ?_ (h _ rfl _ (below_alloc (Below.refl _ _) _) (World.ownsMap_made W P k _))
  unfold execOp
  simp [ho, run_makeMap, Result.andThen]
end
set_option maxHeartbeats 4000000 in
set_option maxRecDepth 100000 in
theorem may144 (c : S26) (A : Option Addr) (cc : Nat) (W : World) (hz : sz c ≤ 1048576) (hr : Kd.C k26 W A c.f3.length c.f3) (hc : c.f3.length ≤ cc) : Calls Try.prog 144 #[.agg #[.int .u8 c.f0, .int .i64 c.f1.f0, .int .i64 c.f1.f1, .int .i64 c.f1.f2, .int .i64 c.f1.f3, .int .i64 c.f2, .slice A c.f3.length cc]] W fun e w' => e = .returned (.bool (mayC c)) ∧ Below W.heap.size W w' := by
  have H175 := Aside0.mk fun (bn bm B : Nat) (W1 : World) (hI : MayI W bn bm B (0, []) W1) => all175 (MayS bn B) (MayI W bn bm B) mStep 176 #[.pointer (some ⟨bn, 0, none⟩), .pointer (some ⟨bm, 0, none⟩)] (enters_fn Try.func176 (by decide +kernel) (by kernel_rfl)) W (fun s w h => h.below) (fun s w w' h hb => h.step hb)
    (fun s w h k hk => hk.elim (fun e => e ▸ blk_lt h.hn) (fun e => e ▸ h.map.lt)) (fun s w x B' cb h _ _ => may176 W bn bm B s w x B' cb h) (sz c) c (Nat.le_refl _) A cc hr hc (0, []) W1 hI
  rw [allS_may c hz] at H175
  have HB := Aside0.mk (Below.refl W.heap.size W)
  clear hr hc hz
  generalize mayC c = r at H175 ⊢
  go_enter Try.func144, Try.ntmps144
  go_wp2_with (first
    | ((with_reducible refine gate_dst (N := 1) rfl ?_); refine box_event ?hg (N := 1) ?hd (cs := #[.int .u8 c.f0, .int .i64 c.f1.f0, .int .i64 c.f1.f1, .int .i64 c.f1.f2, .int .i64 c.f1.f3, .int .i64 c.f2, .slice A c.f3.length cc]) (t := 26) ?hr ?_; (case hd => rfl); (case hg => rfl); (case hr => first | (go_simp; done) | (go_simp; rfl)); intro b1 hg wb1 hbox hb; have Kb1 := Aside0.mk hbox; have Gb1 := Aside0.mk (show W.heap.size ≤ b1 by rw [hg]; exact HB.out.size); have q_HB := Aside0.mk (below_step HB.out hb); clear HB; have HB := q_HB; clear q_HB; clear hb hbox hg)
    | ((with_reducible refine gate_dst (N := 5) rfl ?_); refine map_event rfl (N := 5) rfl 161 3 4 rfl ?_; intro B hg wB hb hM; have GB := Aside0.mk (show W.heap.size ≤ B by rw [hg]; exact HB.out.size); have HM := Aside0.mk hM; have q_HB := Aside0.mk (below_step HB.out hb); have q_Kb1 := Aside0.mk (blk_below Kb1.out hb); clear HB Kb1; have HB := q_HB; have Kb1 := q_Kb1; clear q_HB q_Kb1; clear hb hM hg)
    | ((with_reducible refine gate_dst (N := 3) rfl ?_); refine box_event ?hg (N := 3) ?hd (cs := #[.map none]) (t := 161) ?hr ?_; (case hd => rfl); (case hg => rfl); (case hr => first | (go_simp; done) | (go_simp; rfl)); intro bm hg wbm hbox hb; have Kbm := Aside0.mk hbox; have Gbm := Aside0.mk (show W.heap.size ≤ bm by rw [hg]; exact HB.out.size); have q_HB := Aside0.mk (below_step HB.out hb); have q_Kb1 := Aside0.mk (blk_below Kb1.out hb); have q_HM := Aside0.mk (HM.out.kept (below_grown hb) (by simp)); clear HB Kb1 HM; have HB := q_HB; have Kb1 := q_Kb1; have HM := q_HM; clear q_HB q_Kb1 q_HM; clear hb hbox hg)
    | ((with_reducible refine gate_ (.store 161 (.tmp 3) (.tmp 5)) rfl ?_); go_loud (refine box_store (w0 := W) rfl rfl 161 (.tmp 3) (.tmp 5) rfl (g := bm) (j := 0) (base := W.heap.size) #[.map (some B)] (u := .map (some B)) (seg := [.map (some B)]) ?sA ?sX rfl ?sT ?s1 Kbm.out ?sJ rfl HB.out HB.out.size Gbm.out ?_; (case sA => rfl); (case sX => rfl); (case sT => rfl); (case s1 => (simp [Value.oneCell'])); (case sJ => (first | decide | simp)); intro wsbm hbk hbb hgg; have NB : Aside0 (B ≠ bm) := ⟨fun e => by have hq := Kbm.out; obtain ⟨es, cl, hB, _⟩ := HM.out; rw [← e, hB] at hq; cases hq⟩; have q_Kb1 := Aside0.mk (blk_grown Kb1.out hgg (fun e_ => blk_ne Kb1.out Kbm.out (by decide) (Option.some.inj e_))); have q_HM := Aside0.mk (HM.out.kept hgg (fun e_ => NB.out (Option.some.inj e_))); clear Kb1 HM; have Kb1 := q_Kb1; have HM := q_HM; clear q_Kb1 q_HM; clear Kbm HB; have Kbm := Aside0.mk hbk; have HB := Aside0.mk hbb; clear hbk hbb hgg))
    | ((with_reducible refine gate_dst (N := 4) rfl ?_); refine box_event ?hg (N := 4) ?hd (cs := #[.int .i64 0]) (t := 3) ?hr ?_; (case hd => rfl); (case hg => rfl); (case hr => first | (go_simp; done) | (go_simp; rfl)); intro bn hg wbn hbox hb; have Kbn := Aside0.mk hbox; have Gbn := Aside0.mk (show W.heap.size ≤ bn by rw [hg]; exact HB.out.size); have q_HB := Aside0.mk (below_step HB.out hb); have q_Kb1 := Aside0.mk (blk_below Kb1.out hb); have q_Kbm := Aside0.mk (blk_below Kbm.out hb); have q_HM := Aside0.mk (HM.out.kept (below_grown hb) (by simp)); clear HB Kb1 Kbm HM; have HB := q_HB; have Kb1 := q_Kb1; have Kbm := q_Kbm; have HM := q_HM; clear q_HB q_Kb1 q_Kbm q_HM; clear hb hbox hg)
    | ((with_reducible refine gate_ (.store 3 (.tmp 4) (.const (.int .i64 0))) rfl ?_); go_loud (refine box_store (w0 := W) rfl rfl 3 (.tmp 4) (.const (.int .i64 0)) rfl (g := bn) (j := 0) (base := W.heap.size) #[.int .i64 0] (u := .int .i64 0) (seg := [.int .i64 0]) ?sA ?sX rfl ?sT ?s1 Kbn.out ?sJ rfl HB.out HB.out.size Gbn.out ?_; (case sA => rfl); (case sX => rfl); (case sT => rfl); (case s1 => (simp [Value.oneCell'])); (case sJ => (first | decide | simp)); intro wsbn hbk hbb hgg; have NN : Aside0 (B ≠ bn) := ⟨fun e => by have hq := Kbn.out; obtain ⟨es, cl, hB, _⟩ := HM.out; rw [← e, hB] at hq; cases hq⟩; have q_Kb1 := Aside0.mk (blk_grown Kb1.out hgg (fun e_ => blk_ne Kb1.out Kbn.out (by decide) (Option.some.inj e_))); have q_Kbm := Aside0.mk (blk_grown Kbm.out hgg (fun e_ => blk_ne Kbm.out Kbn.out (by decide) (Option.some.inj e_))); have q_HM := Aside0.mk (HM.out.kept hgg (fun e_ => NN.out (Option.some.inj e_))); clear Kb1 Kbm HM; have Kb1 := q_Kb1; have Kbm := q_Kbm; have HM := q_HM; clear q_Kb1 q_Kbm q_HM; clear Kbn HB; have Kbn := Aside0.mk hbk; have HB := Aside0.mk hbb; clear hbk hbb hgg; have c0 := (blk_cell Kb1.out 0).trans rfl; have c1 := (blk_cell Kb1.out 1).trans rfl; have c2 := (blk_cell Kb1.out 2).trans rfl; have c3 := (blk_cell Kb1.out 3).trans rfl; have c4 := (blk_cell Kb1.out 4).trans rfl; have c5 := (blk_cell Kb1.out 5).trans rfl; have c6 := (blk_cell Kb1.out 6).trans rfl))
    | fail)
  clear c0 c1 c2 c3 c4 c5 c6
  refine (H175.out bn bm B _ ⟨Kbn.out, Kbm.out, HM.out, HB.out, Gbn.out, GB.out, List.nodup_nil, fun i hi => absurd hi (by simp)⟩).mono ?_
  rintro e w' ⟨rfl, hi, _⟩
  have HI := Aside0.mk hi.below
  clear hi
  go_wp2
  go_ret
  exact ⟨rfl, HI.out⟩
set_option maxHeartbeats 2000000 in
set_option maxRecDepth 100000 in
theorem may143 (c : S26) (A : Option Addr) (cc : Nat) (W : World) (hz : sz c ≤ 1048576) (hr : Kd.C k26 W A c.f3.length c.f3) (hc : c.f3.length ≤ cc) : Calls Try.prog 143 #[.agg #[.int .u8 c.f0, .int .i64 c.f1.f0, .int .i64 c.f1.f1, .int .i64 c.f1.f2, .int .i64 c.f1.f3, .int .i64 c.f2, .slice A c.f3.length cc]] W fun e w' => e = .returned (.bool (!mayC c)) ∧ Below W.heap.size W w' := by
  have H := Aside0.mk fun (W1 : World) (hb : Below W.heap.size W W1) => may144 c A cc W1 hz (Kd.C_below hr hb) hc
  clear hr hc hz
  cases hm : mayC c
  all_goals
    rw [hm] at H
    clear hm
    go_enter Try.func143, Try.ntmps143
    go_wp2_with (first | ((with_reducible refine gate_dst (N := 1) rfl ?_); refine box_event ?hg (N := 1) ?hd (cs := #[.int .u8 c.f0, .int .i64 c.f1.f0, .int .i64 c.f1.f1, .int .i64 c.f1.f2, .int .i64 c.f1.f3, .int .i64 c.f2, .slice A c.f3.length cc]) (t := 26) ?hr ?_; (case hd => rfl); (case hg => rfl); (case hr => first | (go_simp; done) | (go_simp; rfl)); intro b1 hg w1 hbox hb; have HB := Aside0.mk hb; have K1 := Aside0.mk hbox; clear hb hbox hg; have c0 := (blk_cell K1.out 0).trans rfl; have c1 := (blk_cell K1.out 1).trans rfl; have c2 := (blk_cell K1.out 2).trans rfl; have c3 := (blk_cell K1.out 3).trans rfl; have c4 := (blk_cell K1.out 4).trans rfl; have c5 := (blk_cell K1.out 5).trans rfl; have c6 := (blk_cell K1.out 6).trans rfl) | fail)
    clear c0 c1 c2 c3 c4 c5 c6
    refine (H.out _ HB.out).mono ?_
    rintro e w' ⟨rfl, hb⟩
    have HB2 := Aside0.mk (below_step HB.out hb)
    clear hb
    go_wp2
    go_ret
    exact ⟨rfl, HB2.out⟩
def cell_May.f (l0 : List S26) : Option Bool := if l0.all (fun c => decide (sz c ≤ 1048576)) = true then some (l0.all mayC) else none
set_option maxHeartbeats 2000000 in
theorem cell_May.calls (A0 : Option Addr) (c0 : Nat) (l0 : List S26) (r : Bool) (w : World) (hr0 : Kd.C k26 w A0 l0.length l0) (hc0 : l0.length ≤ c0) (h : cell_May.f l0 = some r) :
    Calls Try.prog 76 #[.slice A0 l0.length c0] w fun e w' => e = .returned (.bool r) ∧ Below w.heap.size w w' := by
  unfold cell_May.f at h
  split at h
  · rename_i hz
    injection h with h
    have hcon := con174 (fun (_ : Unit) W => Below w.heap.size w W) (fun _ x => (!mayC x, ())) 143 #[] (enters_fn Try.func143 (by decide +kernel) (by kernel_rfl)) l0 A0 c0 w hr0 (fun _ W hW => hW) (fun _ W n hW => pw_below_drewN hW n)
      (fun _ W x B cb hx hW hC hl => by
        rw [show (#[Value.agg #[.int .u8 x.f0, .int .i64 x.f1.f0, .int .i64 x.f1.f1, .int .i64 x.f1.f2, .int .i64 x.f1.f3, .int .i64 x.f2, .slice B x.f3.length cb]] ++ #[] : Array Value) = #[.agg #[.int .u8 x.f0, .int .i64 x.f1.f0, .int .i64 x.f1.f1, .int .i64 x.f1.f2, .int .i64 x.f1.f3, .int .i64 x.f2, .slice B x.f3.length cb]] by simp]
        exact (may143 x B cb W (of_decide_eq_true (List.all_eq_true.1 hz x hx)) (Kd.C_below hC hW) hl).mono fun e w' ⟨he, hb⟩ => ⟨he, below_then hW hW.size hb⟩) () w (Below.refl _ _) hr0.2.1
    rw [scanB_any] at hcon
    have hnone := none142 l0 A0 c0 143 #[] _ _ w hcon (fun W n hW => pw_below_drewN hW n)
    have e1 : r = !(l0.any fun x => !mayC x) := by
      rw [← h]
      clear h hcon hr0 hc0 hz hnone
      induction l0 with
      | nil => rfl
      | cons x xs ih => simp only [List.all_cons, List.any_cons, ih, Bool.not_or, Bool.not_not]
    subst e1
    generalize (l0.any fun x => !mayC x) = b at hnone
    have HC := Aside0.mk hnone
    clear hcon h hr0 hnone hz
    go_enter Try.func76, Try.ntmps76
    go_wp2_with fail
    refine HC.out.mono ?_
    rintro e w' ⟨rfl, hb⟩
    have HB := Aside0.mk hb
    clear hb
    go_wp2
    go_ret
    exact ⟨rfl, HB.out⟩
  · exact absurd h (by simp)
end Go.Proofs.Ytfdmfgaiblfbhaa.P
/- The contracts of tile.Check and tile.Tiles: whether a tree may be and tiles. Condition: at most 1048576 cells. -/
namespace Go.Proofs.Ytfdmfgaiblfbhaa.P
open Go.RowKit Go.Proofs.YtfdmfgaiblfbhaaW.PrintWords Go.Proofs.YtfdmfgaiblfbhaaW.PrintLast Go.Proofs.YtfdmfgaiblfbhaaW.PrintMore
set_option linter.unusedVariables false
set_option linter.unusedSimpArgs false
noncomputable def tilesC (c : S26) : Bool := mayC c && tilesB c
theorem may_small {c : S26} (h : mayC c = true) : sz c ≤ 20000 := by
  unfold mayC at h
  simp only [Bool.and_eq_true, decide_eq_true_eq] at h
  omega
theorem row_some {x : ByteArray} {w : World} {A : Option Addr} (h : Kd.C Kd.string w A 1 [x]) : ∃ ad, A = some ad := by
  obtain ⟨ad, h1, _⟩ := h.2.2 (by omega)
  exact ⟨ad, h1⟩
set_option maxHeartbeats 4000000 in
set_option maxRecDepth 100000 in
theorem check180 (c : S26) (hz : sz c ≤ 1048576) (A : Option Addr) (cc : Nat) (w : World) (hr : Kd.C k26 w A c.f3.length c.f3) (hc : c.f3.length ≤ cc) :
    Calls Try.prog 180 #[.agg #[.int .u8 c.f0, .int .i64 c.f1.f0, .int .i64 c.f1.f1, .int .i64 c.f1.f2, .int .i64 c.f1.f3, .int .i64 c.f2, .slice A c.f3.length cc]] w fun e w' => (if tilesC c = true then e = .returned .nilIface else ∃ t u, e = .returned (.iface t u)) ∧ Below w.heap.size w w' := by
  have hM : cell_May.f [c] = some (mayC c) := by
    unfold cell_May.f
    rw [if_pos (by simp [hz])]
    simp
  have hW : mayC c = true → ∀ (gw : Nat) (W : World), w.heap.size ≤ gw → WalkI w gw 0 W → Calls Try.prog 197 #[.pointer (some ⟨gw, 0, none⟩), .agg #[.int .u8 c.f0, .int .i64 c.f1.f0, .int .i64 c.f1.f1, .int .i64 c.f1.f2, .int .i64 c.f1.f3, .int .i64 c.f2, .slice A c.f3.length cc]] W fun e w' => e = .returned (.bool (tilesB c)) ∧ WalkI w gw (0 + szL c.f3) w' ∧ Fr gw W w' := fun hm gw W hg hI => walk197 w gw hg (sz c) c (Nat.le_refl _) (may_small hm) A cc hr hc 0 W (by have := may_small hm; have := sz_eq c; omega) hI
  unfold tilesC
  have HR := Aside0.mk hr
  have HC := Aside0.mk hc
  have HM := Aside0.mk hM
  have HW := Aside0.mk hW
  have HB := Aside0.mk (Below.refl w.heap.size w)
  clear hr hc hM hW hz
  obtain ⟨ck, ⟨cx, cy, cw, ch⟩, cid, l⟩ := c
  simp only [] at HR HC HW ⊢
  generalize tilesB ⟨ck, ⟨cx, cy, cw, ch⟩, cid, l⟩ = q at HW ⊢
  cases hm : mayC (⟨ck, ⟨cx, cy, cw, ch⟩, cid, l⟩ : S26) with
  | false =>
    rw [hm] at HM
    have HM := HM
    simp only [Bool.false_and, Bool.false_eq_true, if_false]
    clear hm HW
    go_enter Try.func180, Try.ntmps180
    go_wp2_with (first
      | ((with_reducible refine gate_dst (N := 1) rfl ?_); refine box_event ?hg (N := 1) ?hd (cs := #[.int .u8 ck, .int .i64 cx, .int .i64 cy, .int .i64 cw, .int .i64 ch, .int .i64 cid, .slice A l.length cc]) (t := 26) ?hr ?_; (case hd => rfl); (case hg => rfl); (case hr => first | (go_simp; done) | (go_simp; rfl)); intro b1 hg wb1 hbox hb; have Kb1 := Aside0.mk hbox; have q_HB := Aside0.mk (below_step HB.out hb); clear HB; have HB := q_HB; clear q_HB; clear hb hbox hg)
      | ((with_reducible refine gate_dst (N := 5) rfl ?_); refine box_event ?hg (N := 5) ?hd (cs := #[.int .i64 0, .slice none 0 0]) (t := 182) ?hr ?_; (case hd => rfl); (case hg => rfl); (case hr => first | (go_simp; done) | (go_simp; rfl)); intro gw hg wgw hbox hb; have Kgw := Aside0.mk hbox; have GG := Aside0.mk (show w.heap.size ≤ gw by rw [hg]; exact HB.out.size); have q_HB := Aside0.mk (below_step HB.out hb); have q_Kb1 := Aside0.mk (blk_below Kb1.out hb); clear HB Kb1; have HB := q_HB; have Kb1 := q_Kb1; clear q_HB q_Kb1; have c0 := (blk_cell Kb1.out 0).trans rfl; have c1 := (blk_cell Kb1.out 1).trans rfl; have c2 := (blk_cell Kb1.out 2).trans rfl; have c3 := (blk_cell Kb1.out 3).trans rfl; have c4 := (blk_cell Kb1.out 4).trans rfl; have c5 := (blk_cell Kb1.out 5).trans rfl; have c6 := (blk_cell Kb1.out 6).trans rfl; clear hb hbox hg)
      | ((with_reducible refine gate_dst (N := 8) rfl ?_); refine Kd.N_lit k26 _ 26 ?hg (N' := 8) ?hd (xs := [(⟨ck, ⟨cx, cy, cw, ch⟩, cid, l⟩ : S26)]) (inner := [.int .u8 ck, .int .i64 cx, .int .i64 cy, .int .i64 cw, .int .i64 ch, .int .i64 cid, .slice A l.length cc]) (ok := fun _ => True) (okp := fun _ => True) ?hr ?hp (fun _ hk => hk) trivial (Below.refl _ _) (Nat.le_refl _) (by simp) ?_; (case hd => rfl); (case hg => rfl); (case hr => first | (go_simp; done) | (go_simp; rfl)); (case hp => exact (Reps.c7 (k26_mkF _ _ (⟨ck, ⟨cx, cy, cw, ch⟩, cid, l⟩ : S26) HC.out (Kd.F_mono (Kd.C_F k26_heap (Kd.C_below HR.out HB.out)) (fun _ _ => trivial))) (Reps.none _ _))); intro vr wr ho hb hg_ hnew_; clear hg_ hnew_; obtain ⟨Am, cm, er⟩ := Kd.N_slice ho; subst er; have q_HB := Aside0.mk (below_step HB.out hb); have q_Kb1 := Aside0.mk (blk_below Kb1.out hb); have q_Kgw := Aside0.mk (blk_below Kgw.out hb); clear HB Kb1 Kgw; have HB := q_HB; have Kb1 := q_Kb1; have Kgw := q_Kgw; clear q_HB q_Kb1 q_Kgw; have Hm := Aside0.mk (Kd.N_reads' ho).2.2; have Lm := Aside0.mk (Kd.N_reads' ho).2.1; clear ho hb c0 c1 c2 c3 c4 c5 c6)
      | fail)
    refine (cell_May.calls Am cm [(⟨ck, ⟨cx, cy, cw, ch⟩, cid, l⟩ : S26)] false _ Hm.out Lm.out HM.out).mono ?_
    rintro e w1 ⟨rfl, hb⟩
    have q_HB := Aside0.mk (below_step HB.out hb); have q_Kb1 := Aside0.mk (blk_below Kb1.out hb); have q_Kgw := Aside0.mk (blk_below Kgw.out hb); clear HB Kb1 Kgw; have HB := q_HB; have Kb1 := q_Kb1; have Kgw := q_Kgw; clear q_HB q_Kb1 q_Kgw
    clear hb Hm Lm
    go_wp2_with fail
    refine (new196 1 0 (by decide) _).mono ?_
    rintro e w2 ⟨⟨tv, v, rfl⟩, hb⟩
    have q_HB := Aside0.mk (below_step HB.out hb); clear HB; have HB := q_HB; clear q_HB
    clear hb
    go_wp2_with (first
      | ((with_reducible refine gate_dst (N := 12) rfl ?_); refine Kd.R_lit Kd.string _ 9 ?hg (N := 12) ?hd (xs := [(⟨#[108, 97, 121, 111, 117, 116]⟩ : ByteArray)]) (inner := [.string (⟨#[108, 97, 121, 111, 117, 116]⟩ : ByteArray)]) (ok := fun _ => True) (okp := fun _ => True) ?hr ?hp (fun _ hk => hk) trivial (Below.refl _ _) (Nat.le_refl _) (by simp) ?_; (case hd => rfl); (case hg => rfl); (case hr => first | (go_simp; done) | (go_simp; rfl)); (case hp => exact (Reps.one (show Kd.M Kd.string _ _ _ (⟨#[108, 97, 121, 111, 117, 116]⟩ : ByteArray) [.string (⟨#[108, 97, 121, 111, 117, 116]⟩ : ByteArray)] from rfl) (Reps.none _ _))); intro vs wr ho hb hg_ hnew_; clear hg_ hnew_; obtain ⟨As, cs_, er⟩ := Kd.R_slice ho; subst er; have q_HB := Aside0.mk (below_step HB.out hb); clear HB; have HB := q_HB; clear q_HB; have Hs := Aside0.mk (Kd.R_reads' ho).2.2; have Ls := Aside0.mk (Kd.R_reads' ho).2.1; clear ho hb)
      | fail)
    obtain ⟨ad, ea⟩ := row_some Hs.out
    subst ea
    refine (in195 tv v ad cs_ _ _ Hs.out Ls.out).mono ?_
    rintro e w3 ⟨⟨tu, u, rfl⟩, hb⟩
    have q_HB := Aside0.mk (below_step HB.out hb); clear HB; have HB := q_HB; clear q_HB
    clear hb Hs Ls
    go_wp2
    go_ret
    exact ⟨⟨_, _, rfl⟩, HB.out⟩
  | true =>
    rw [hm] at HM
    have HW := Aside0.mk (HW.out hm)
    simp only [Bool.true_and]
    clear hm
    cases q with
    | true =>
      simp only [if_true]
      go_enter Try.func180, Try.ntmps180
      go_wp2_with (first
        | ((with_reducible refine gate_dst (N := 1) rfl ?_); refine box_event ?hg (N := 1) ?hd (cs := #[.int .u8 ck, .int .i64 cx, .int .i64 cy, .int .i64 cw, .int .i64 ch, .int .i64 cid, .slice A l.length cc]) (t := 26) ?hr ?_; (case hd => rfl); (case hg => rfl); (case hr => first | (go_simp; done) | (go_simp; rfl)); intro b1 hg wb1 hbox hb; have Kb1 := Aside0.mk hbox; have q_HB := Aside0.mk (below_step HB.out hb); clear HB; have HB := q_HB; clear q_HB; clear hb hbox hg)
        | ((with_reducible refine gate_dst (N := 5) rfl ?_); refine box_event ?hg (N := 5) ?hd (cs := #[.int .i64 0, .slice none 0 0]) (t := 182) ?hr ?_; (case hd => rfl); (case hg => rfl); (case hr => first | (go_simp; done) | (go_simp; rfl)); intro gw hg wgw hbox hb; have Kgw := Aside0.mk hbox; have GG := Aside0.mk (show w.heap.size ≤ gw by rw [hg]; exact HB.out.size); have q_HB := Aside0.mk (below_step HB.out hb); have q_Kb1 := Aside0.mk (blk_below Kb1.out hb); clear HB Kb1; have HB := q_HB; have Kb1 := q_Kb1; clear q_HB q_Kb1; have c0 := (blk_cell Kb1.out 0).trans rfl; have c1 := (blk_cell Kb1.out 1).trans rfl; have c2 := (blk_cell Kb1.out 2).trans rfl; have c3 := (blk_cell Kb1.out 3).trans rfl; have c4 := (blk_cell Kb1.out 4).trans rfl; have c5 := (blk_cell Kb1.out 5).trans rfl; have c6 := (blk_cell Kb1.out 6).trans rfl; clear hb hbox hg)
        | ((with_reducible refine gate_dst (N := 8) rfl ?_); refine Kd.N_lit k26 _ 26 ?hg (N' := 8) ?hd (xs := [(⟨ck, ⟨cx, cy, cw, ch⟩, cid, l⟩ : S26)]) (inner := [.int .u8 ck, .int .i64 cx, .int .i64 cy, .int .i64 cw, .int .i64 ch, .int .i64 cid, .slice A l.length cc]) (ok := fun _ => True) (okp := fun _ => True) ?hr ?hp (fun _ hk => hk) trivial (Below.refl _ _) (Nat.le_refl _) (by simp) ?_; (case hd => rfl); (case hg => rfl); (case hr => first | (go_simp; done) | (go_simp; rfl)); (case hp => exact (Reps.c7 (k26_mkF _ _ (⟨ck, ⟨cx, cy, cw, ch⟩, cid, l⟩ : S26) HC.out (Kd.F_mono (Kd.C_F k26_heap (Kd.C_below HR.out HB.out)) (fun _ _ => trivial))) (Reps.none _ _))); intro vr wr ho hb hg_ hnew_; clear hg_ hnew_; obtain ⟨Am, cm, er⟩ := Kd.N_slice ho; subst er; have q_HB := Aside0.mk (below_step HB.out hb); have q_Kb1 := Aside0.mk (blk_below Kb1.out hb); have q_Kgw := Aside0.mk (blk_below Kgw.out hb); clear HB Kb1 Kgw; have HB := q_HB; have Kb1 := q_Kb1; have Kgw := q_Kgw; clear q_HB q_Kb1 q_Kgw; have Hm := Aside0.mk (Kd.N_reads' ho).2.2; have Lm := Aside0.mk (Kd.N_reads' ho).2.1; clear ho hb c0 c1 c2 c3 c4 c5 c6)
        | fail)
      refine (cell_May.calls Am cm [(⟨ck, ⟨cx, cy, cw, ch⟩, cid, l⟩ : S26)] true _ Hm.out Lm.out HM.out).mono ?_
      rintro e w1 ⟨rfl, hb⟩
      have q_HB := Aside0.mk (below_step HB.out hb); have q_Kb1 := Aside0.mk (blk_below Kb1.out hb); have q_Kgw := Aside0.mk (blk_below Kgw.out hb); clear HB Kb1 Kgw; have HB := q_HB; have Kb1 := q_Kb1; have Kgw := q_Kgw; clear q_HB q_Kb1 q_Kgw
      clear hb Hm Lm
      have HI := Aside0.mk (show WalkI w gw 0 w1 from ⟨HB.out, 0, .slice none 0 0, [], Kgw.out, Kd.R_nil _ _ _ _ _, Nat.le_refl _⟩)
      have c0 := (blk_cell Kb1.out 0).trans rfl
      have c1 := (blk_cell Kb1.out 1).trans rfl
      have c2 := (blk_cell Kb1.out 2).trans rfl
      have c3 := (blk_cell Kb1.out 3).trans rfl
      have c4 := (blk_cell Kb1.out 4).trans rfl
      have c5 := (blk_cell Kb1.out 5).trans rfl
      have c6 := (blk_cell Kb1.out 6).trans rfl
      go_wp2_with fail
      clear c0 c1 c2 c3 c4 c5 c6
      refine (HW.out gw w1 GG.out HI.out).mono ?_
      rintro e w2 ⟨rfl, ⟨hb2, n, v, ls, hk, _, _⟩, _⟩
      clear HB Kgw HI Kb1
      have HB := Aside0.mk hb2
      have Kgw := Aside0.mk hk
      clear hb2 hk
      go_wp2
      go_ret
      exact ⟨rfl, HB.out⟩
    | false =>
      simp only [Bool.false_eq_true, if_false]
      go_enter Try.func180, Try.ntmps180
      go_wp2_with (first
        | ((with_reducible refine gate_dst (N := 1) rfl ?_); refine box_event ?hg (N := 1) ?hd (cs := #[.int .u8 ck, .int .i64 cx, .int .i64 cy, .int .i64 cw, .int .i64 ch, .int .i64 cid, .slice A l.length cc]) (t := 26) ?hr ?_; (case hd => rfl); (case hg => rfl); (case hr => first | (go_simp; done) | (go_simp; rfl)); intro b1 hg wb1 hbox hb; have Kb1 := Aside0.mk hbox; have q_HB := Aside0.mk (below_step HB.out hb); clear HB; have HB := q_HB; clear q_HB; clear hb hbox hg)
        | ((with_reducible refine gate_dst (N := 5) rfl ?_); refine box_event ?hg (N := 5) ?hd (cs := #[.int .i64 0, .slice none 0 0]) (t := 182) ?hr ?_; (case hd => rfl); (case hg => rfl); (case hr => first | (go_simp; done) | (go_simp; rfl)); intro gw hg wgw hbox hb; have Kgw := Aside0.mk hbox; have GG := Aside0.mk (show w.heap.size ≤ gw by rw [hg]; exact HB.out.size); have q_HB := Aside0.mk (below_step HB.out hb); have q_Kb1 := Aside0.mk (blk_below Kb1.out hb); clear HB Kb1; have HB := q_HB; have Kb1 := q_Kb1; clear q_HB q_Kb1; have c0 := (blk_cell Kb1.out 0).trans rfl; have c1 := (blk_cell Kb1.out 1).trans rfl; have c2 := (blk_cell Kb1.out 2).trans rfl; have c3 := (blk_cell Kb1.out 3).trans rfl; have c4 := (blk_cell Kb1.out 4).trans rfl; have c5 := (blk_cell Kb1.out 5).trans rfl; have c6 := (blk_cell Kb1.out 6).trans rfl; clear hb hbox hg)
        | ((with_reducible refine gate_dst (N := 8) rfl ?_); refine Kd.N_lit k26 _ 26 ?hg (N' := 8) ?hd (xs := [(⟨ck, ⟨cx, cy, cw, ch⟩, cid, l⟩ : S26)]) (inner := [.int .u8 ck, .int .i64 cx, .int .i64 cy, .int .i64 cw, .int .i64 ch, .int .i64 cid, .slice A l.length cc]) (ok := fun _ => True) (okp := fun _ => True) ?hr ?hp (fun _ hk => hk) trivial (Below.refl _ _) (Nat.le_refl _) (by simp) ?_; (case hd => rfl); (case hg => rfl); (case hr => first | (go_simp; done) | (go_simp; rfl)); (case hp => exact (Reps.c7 (k26_mkF _ _ (⟨ck, ⟨cx, cy, cw, ch⟩, cid, l⟩ : S26) HC.out (Kd.F_mono (Kd.C_F k26_heap (Kd.C_below HR.out HB.out)) (fun _ _ => trivial))) (Reps.none _ _))); intro vr wr ho hb hg_ hnew_; clear hg_ hnew_; obtain ⟨Am, cm, er⟩ := Kd.N_slice ho; subst er; have q_HB := Aside0.mk (below_step HB.out hb); have q_Kb1 := Aside0.mk (blk_below Kb1.out hb); have q_Kgw := Aside0.mk (blk_below Kgw.out hb); clear HB Kb1 Kgw; have HB := q_HB; have Kb1 := q_Kb1; have Kgw := q_Kgw; clear q_HB q_Kb1 q_Kgw; have Hm := Aside0.mk (Kd.N_reads' ho).2.2; have Lm := Aside0.mk (Kd.N_reads' ho).2.1; clear ho hb c0 c1 c2 c3 c4 c5 c6)
        | fail)
      refine (cell_May.calls Am cm [(⟨ck, ⟨cx, cy, cw, ch⟩, cid, l⟩ : S26)] true _ Hm.out Lm.out HM.out).mono ?_
      rintro e w1 ⟨rfl, hb⟩
      have q_HB := Aside0.mk (below_step HB.out hb); have q_Kb1 := Aside0.mk (blk_below Kb1.out hb); have q_Kgw := Aside0.mk (blk_below Kgw.out hb); clear HB Kb1 Kgw; have HB := q_HB; have Kb1 := q_Kb1; have Kgw := q_Kgw; clear q_HB q_Kb1 q_Kgw
      clear hb Hm Lm
      have HI := Aside0.mk (show WalkI w gw 0 w1 from ⟨HB.out, 0, .slice none 0 0, [], Kgw.out, Kd.R_nil _ _ _ _ _, Nat.le_refl _⟩)
      have c0 := (blk_cell Kb1.out 0).trans rfl
      have c1 := (blk_cell Kb1.out 1).trans rfl
      have c2 := (blk_cell Kb1.out 2).trans rfl
      have c3 := (blk_cell Kb1.out 3).trans rfl
      have c4 := (blk_cell Kb1.out 4).trans rfl
      have c5 := (blk_cell Kb1.out 5).trans rfl
      have c6 := (blk_cell Kb1.out 6).trans rfl
      go_wp2_with fail
      clear c0 c1 c2 c3 c4 c5 c6
      refine (HW.out gw w1 GG.out HI.out).mono ?_
      rintro e w2 ⟨rfl, ⟨hb2, n, v, ls, hk, _, _⟩, _⟩
      clear HB Kgw HI Kb1
      have HB := Aside0.mk hb2
      have Kgw := Aside0.mk hk
      clear hb2 hk
      have c0 := (blk_cell Kgw.out 0).trans rfl
      have c1 := (blk_cell Kgw.out 1).trans rfl
      go_wp2_with fail
      clear c0 c1
      refine (new196 5 n (by decide) _).mono ?_
      rintro e w2 ⟨⟨tv, v, rfl⟩, hb⟩
      have q_HB := Aside0.mk (below_step HB.out hb); clear HB; have HB := q_HB; clear q_HB
      clear hb
      go_wp2_with (first
        | ((with_reducible refine gate_dst (N := 24) rfl ?_); refine Kd.R_lit Kd.string _ 9 ?hg (N := 24) ?hd (xs := [(⟨#[108, 97, 121, 111, 117, 116]⟩ : ByteArray)]) (inner := [.string (⟨#[108, 97, 121, 111, 117, 116]⟩ : ByteArray)]) (ok := fun _ => True) (okp := fun _ => True) ?hr ?hp (fun _ hk => hk) trivial (Below.refl _ _) (Nat.le_refl _) (by simp) ?_; (case hd => rfl); (case hg => rfl); (case hr => first | (go_simp; done) | (go_simp; rfl)); (case hp => exact (Reps.one (show Kd.M Kd.string _ _ _ (⟨#[108, 97, 121, 111, 117, 116]⟩ : ByteArray) [.string (⟨#[108, 97, 121, 111, 117, 116]⟩ : ByteArray)] from rfl) (Reps.none _ _))); intro vs wr ho hb hg_ hnew_; clear hg_ hnew_; obtain ⟨As, cs_, er⟩ := Kd.R_slice ho; subst er; have q_HB := Aside0.mk (below_step HB.out hb); clear HB; have HB := q_HB; clear q_HB; have Hs := Aside0.mk (Kd.R_reads' ho).2.2; have Ls := Aside0.mk (Kd.R_reads' ho).2.1; clear ho hb)
        | fail)
      obtain ⟨ad, ea⟩ := row_some Hs.out
      subst ea
      refine (in195 tv v ad cs_ _ _ Hs.out Ls.out).mono ?_
      rintro e w3 ⟨⟨tu, u, rfl⟩, hb⟩
      have q_HB := Aside0.mk (below_step HB.out hb); clear HB; have HB := q_HB; clear q_HB
      clear hb Hs Ls
      go_wp2
      go_ret
      exact ⟨⟨_, _, rfl⟩, HB.out⟩
set_option maxHeartbeats 2000000 in
theorem clo179 (x : S26) (hz : sz x ≤ 1048576) (B : Option Addr) (cb : Nat) (W : World) (hr : Kd.C k26 W B x.f3.length x.f3) (hl : x.f3.length ≤ cb) :
    Calls Try.prog 179 #[.agg #[.int .u8 x.f0, .int .i64 x.f1.f0, .int .i64 x.f1.f1, .int .i64 x.f1.f2, .int .i64 x.f1.f3, .int .i64 x.f2, .slice B x.f3.length cb]] W fun e w' => e = .returned (.bool (!tilesC x)) ∧ Below W.heap.size W w' := by
  have HC := Aside0.mk (fun W1 (hb : Below W.heap.size W W1) => check180 x hz B cb W1 (Kd.C_below hr hb) hl)
  have HB := Aside0.mk (Below.refl W.heap.size W)
  clear hr hl hz
  cases hq : tilesC x
  all_goals
    simp only [hq, if_pos, Bool.false_eq_true, if_false] at HC
    clear hq
    go_enter Try.func179, Try.ntmps179
    go_wp2_with (first
      | ((with_reducible refine gate_dst (N := 1) rfl ?_); refine box_event ?hg (N := 1) ?hd (cs := #[.int .u8 x.f0, .int .i64 x.f1.f0, .int .i64 x.f1.f1, .int .i64 x.f1.f2, .int .i64 x.f1.f3, .int .i64 x.f2, .slice B x.f3.length cb]) (t := 26) ?hr ?_; (case hd => rfl); (case hg => rfl); (case hr => first | (go_simp; done) | (go_simp; rfl)); intro b1 hg wb1 hbox hb; have Kb1 := Aside0.mk hbox; have q_HB := Aside0.mk (below_step HB.out hb); clear HB; have HB := q_HB; clear q_HB; have c0 := (blk_cell Kb1.out 0).trans rfl; have c1 := (blk_cell Kb1.out 1).trans rfl; have c2 := (blk_cell Kb1.out 2).trans rfl; have c3 := (blk_cell Kb1.out 3).trans rfl; have c4 := (blk_cell Kb1.out 4).trans rfl; have c5 := (blk_cell Kb1.out 5).trans rfl; have c6 := (blk_cell Kb1.out 6).trans rfl; clear hb hbox hg)
      | fail)
    clear c0 c1 c2 c3 c4 c5 c6
  · refine (HC.out _ HB.out).mono ?_
    rintro e w2 ⟨⟨t, u, rfl⟩, hb⟩
    have q_HB := Aside0.mk (below_step HB.out hb); clear HB; have HB := q_HB; clear q_HB
    clear hb
    go_wp2
    go_ret
    exact ⟨rfl, HB.out⟩
  · refine (HC.out _ HB.out).mono ?_
    rintro e w2 ⟨rfl, hb⟩
    have q_HB := Aside0.mk (below_step HB.out hb); clear HB; have HB := q_HB; clear q_HB
    clear hb
    go_wp2
    go_ret
    exact ⟨rfl, HB.out⟩
set_option maxHeartbeats 1000000 in
theorem tiles148 (l : List S26) (hz : ∀ x, x ∈ l → sz x ≤ 1048576) (A : Option Addr) (c : Nat) (w : World) (hr : Kd.C k26 w A l.length l) (hc : l.length ≤ c) :
    Calls Try.prog 148 #[.slice A l.length c] w fun e w' => e = .returned (.bool (l.all tilesC)) ∧ Below w.heap.size w w' := by
  have hq := cons174 (fun _ W => Below w.heap.size w W) (fun x => !tilesC x) 179 #[] (enters_fn Try.func179 (by decide +kernel) (by kernel_rfl)) l A c w hr (fun _ _ h => h) (fun _ W n h => below_step h (pw_below_drewN (Below.refl _ _) n))
    (fun x rest W B cb hx _ hI hC hlx => by
      refine (clo179 x (hz x hx) B cb W (Kd.C_below hC hI) hlx).mono ?_
      rintro e w' ⟨he, hb⟩
      exact ⟨he, below_step hI hb⟩) w (Below.refl _ _) hr.2.1
  have HQ := Aside0.mk hq
  rw [List.all_eq_not_any_not]
  clear hq hr hc hz
  generalize l.any (fun x => !tilesC x) = r at HQ ⊢
  cases r
  all_goals
    go_enter Try.func148, Try.ntmps148
    go_wp2_with fail
    refine HQ.out.mono ?_
    rintro e w2 ⟨rfl, hb⟩
    have HB := Aside0.mk hb
    clear hb
    go_wp2
    go_ret
    exact ⟨rfl, HB.out⟩
noncomputable def tile_Tiles.f (l0 : List S26) : Option Bool := if l0.all (fun c => decide (sz c ≤ 1048576)) = true then some (l0.all tilesC) else none
theorem tile_Tiles.calls (A0 : Option Addr) (c0 : Nat) (l0 : List S26) (r : Bool) (w : World) (hr0 : Kd.C k26 w A0 l0.length l0) (hc0 : l0.length ≤ c0) (h : tile_Tiles.f l0 = some r) :
    Calls Try.prog 148 #[.slice A0 l0.length c0] w fun e w' => e = .returned (.bool r) ∧ Below w.heap.size w w' := by
  unfold tile_Tiles.f at h
  split at h
  · rename_i hz
    injection h with h
    subst h
    exact tiles148 l0 (fun x hx => of_decide_eq_true (List.all_eq_true.1 hz x hx)) A0 c0 w hr0 hc0
  · exact absurd h (by simp)
end Go.Proofs.Ytfdmfgaiblfbhaa.P
namespace Go.Proofs.Ytfdmfgaiblfbhaa.P
open Go.RowKit Go.Proofs.YtfdmfgaiblfbhaaW.PrintWords Go.Proofs.YtfdmfgaiblfbhaaW.PrintLast Go.Proofs.YtfdmfgaiblfbhaaW.PrintMore
attribute [local go_sem] max2_int min2_int max_two min_two max_three min_three max_four min_four   -- for this text's walks alone
set_option linter.unusedVariables false
set_option linter.unusedSimpArgs false

/-! ### least_Gives: function 86 -/
noncomputable def least_Gives.j0 : Nat → Int → Bool → Int → Int → Int → Int → Int → Int → List (S26) → Option (Int)
 | 0, _, _, _, _, _, _, _, _, _ => none
 | k + 1, x1, x13, x972000, x972001, x972002, x972003, x972004, x972005, x972006 => if x13 = true then (some 0) else ((least_Size.f x972001 x972002 x972003 x972004 x1).bind fun t977 => ((least_least.f k x972000 x972001 x972002 x972003 x972004 x972005 x972006 x1).bind fun t978 => (some (wrap64 (t977 - t978)))))
noncomputable def least_Gives.f (k : Nat) (a0_0 : Int) (a0_1 : Int) (a0_2 : Int) (a0_3 : Int) (a0_4 : Int) (a0_5 : Int) (l0_6 : List (S26)) (a1 : Int) : Option (Int) := (least_axes.f a1).bind fun t972 => (if t972 = true then ((tile_Tiles.f (([(⟨a0_0, (⟨a0_1, a0_2, a0_3, a0_4⟩ : S23), a0_5, l0_6⟩ : S26)] : List (S26)))).bind fun t976 => (least_Gives.j0 k a1 (!t976) a0_0 a0_1 a0_2 a0_3 a0_4 a0_5 l0_6)) else (least_Gives.j0 k a1 true a0_0 a0_1 a0_2 a0_3 a0_4 a0_5 l0_6))
def least_Gives.T3 : Bool × List (List Nat × List Nat) := (true, [([], []), ([0], [0]), ([], []), ([1, 2], [1, 2]), ([], []), ([], []), ([4, 5, 3], [4, 5]), ([3, 6], [3, 6]), ([7, 6, 0, 1, 2, 3, 4, 5, 6, 7], [7])])
def least_Gives.B3 : List Nat := [0, 1, 0, 7, 0, 0, 63, 127, 255]
theorem least_Gives.tab3 : rtab .any (opsOf Try.f86 3) = least_Gives.T3 := by kernel_rfl
theorem least_Gives.bits3 : waitsOk least_Gives.T3.2 least_Gives.B3 = true := by kernel_rfl
set_option maxHeartbeats 8000000 in
set_option maxRecDepth 100000 in
theorem least_Gives.calls (k : Nat) (a0_0 : Int) (a0_1 : Int) (a0_2 : Int) (a0_3 : Int) (a0_4 : Int) (a0_5 : Int) (P0_6_ : Nat → Prop) (A0_6 : Option Addr) (c0_6 : Nat) (l0_6 : List (S26)) (a1 : Int) (r : Int) (w : World) (hs0_6 : Kd.V k26 26 w w.heap.size (fun k_ => P0_6_ k_) (.slice A0_6 l0_6.length c0_6) l0_6) (h : least_Gives.f k a0_0 a0_1 a0_2 a0_3 a0_4 a0_5 l0_6 a1 = some r) :
  Calls Try.prog 86 #[.agg #[.int .u8 a0_0, .int .i64 a0_1, .int .i64 a0_2, .int .i64 a0_3, .int .i64 a0_4, .int .i64 a0_5, .slice A0_6 l0_6.length c0_6], .int .u8 a1] w fun e w' => e = .returned (.int .i64 r) ∧ Below w.heap.size w w' := by
 have hu26 := Try.underlying26
 have hu23 := Try.underlying23
 have HO0_6 := Aside0.mk (show Kd.V k26 26 w w.heap.size (fun k_ => (P0_6_ k_ ∨ w.heap.size ≤ k_)) (.slice A0_6 l0_6.length c0_6) l0_6 from Kd.V_mono hs0_6 (fun k_ hk => .inl hk))
 have HB := Aside0.mk (Below.refl w.heap.size w)
 have H : ((least_axes.f a1).bind fun t972 => (if t972 = true then ((tile_Tiles.f (([(⟨a0_0, (⟨a0_1, a0_2, a0_3, a0_4⟩ : S23), a0_5, l0_6⟩ : S26)] : List (S26)))).bind fun t976 => (least_Gives.j0 k a1 (!t976) a0_0 a0_1 a0_2 a0_3 a0_4 a0_5 l0_6)) else (least_Gives.j0 k a1 true a0_0 a0_1 a0_2 a0_3 a0_4 a0_5 l0_6))) = some r := h
 clear h
 have HC3 := Aside0.mk H
 clear H
 go_enter Try.func86, Try.ntmps86
 go_upto_region 1 with (first | ((with_reducible refine gate_dst (N := 2) rfl ?_); (try (refine gate_guard (by rfl) ?_; dsimp only)); refine box_event ?hg (N := 2) ?hd (cs := #[.int .u8 a0_0, .int .i64 a0_1, .int .i64 a0_2, .int .i64 a0_3, .int .i64 a0_4, .int .i64 a0_5, .slice A0_6 l0_6.length c0_6]) (t := 26) ?hr ?_; (case hd => rfl); (case hg => rfl); (case hr => first | (go_simp; done) | (go_simp; rfl)); intro gb971 hg w4 hbox hb; have n0_ := Aside0.mk (Kd.V_below (Kd.V_elderB (by (with_reducible repeat (first | apply Kd.V_alloc | apply Kd.V_drewN | apply Kd.V_drew)); exact HO0_6.out) gb971 (Nat.le_of_eq hg.symm)) hb); have n1_ := Aside0.mk (below_step (by repeat (first | (with_reducible first | exact HB.out | apply below_alloc | apply pw_below_drewN | apply below_drew1) | exact HB.out)) hb); have n2_ := Aside0.mk (hbox); have n3_ := Aside0.mk ((by rw [hg]; exact (below_size (by repeat (first | (with_reducible first | exact HB.out | apply below_alloc | apply pw_below_drewN | apply below_drew1) | exact HB.out))) : w.heap.size ≤ gb971)); have n4_ := Aside0.mk ((by rw [hg]; exact (below_size (by repeat (first | (with_reducible first | exact HB.out | apply below_alloc | apply pw_below_drewN | apply below_drew1) | exact HB.out))) : w.heap.size ≤ gb971)); clear HO0_6; clear HB; have HO0_6 := n0_; have HB := n1_; have BK971 := n2_; have GW971 := n3_; have GE971 := n4_; clear n0_ n1_ n2_ n3_ n4_; clear hb hbox hg))
 (try simp only [Act.put, List.setIfInBounds_toArray, List.set_cons_zero, List.set_cons_succ])
 go_cut [13] (fun v13 wc => ∃ (kq : Nat) (x13_2 : Bool), v13 = .bool x13_2 ∧ Aside0 (least_Gives.j0 kq a1 x13_2 a0_0 a0_1 a0_2 a0_3 a0_4 a0_5 l0_6 = some r) ∧ Aside0 (kq ≤ k) ∧ Aside0 (Kd.V k26 26 wc w.heap.size (fun k_ => (P0_6_ k_ ∨ w.heap.size ≤ k_) ∧ k_ ≠ gb971) (.slice A0_6 l0_6.length c0_6) l0_6) ∧ Aside0 (wc.heap[gb971]? = some (.cells #[.int .u8 a0_0, .int .i64 a0_1, .int .i64 a0_2, .int .i64 a0_3, .int .i64 a0_4, .int .i64 a0_5, (.slice A0_6 l0_6.length c0_6)] 26 (0, 0))) ∧ Aside0 (Below w.heap.size w wc))
 case first =>
  have H := HC3.out
  clear HC3
  replace H := Option.bind_eq_some_iff.mp H
  obtain ⟨t972, A50, H⟩ := H
  replace H : (if t972 = true then ((tile_Tiles.f (([(⟨a0_0, (⟨a0_1, a0_2, a0_3, a0_4⟩ : S23), a0_5, l0_6⟩ : S26)] : List (S26)))).bind fun t976 => (least_Gives.j0 k a1 (!t976) a0_0 a0_1 a0_2 a0_3 a0_4 a0_5 l0_6)) else (least_Gives.j0 k a1 true a0_0 a0_1 a0_2 a0_3 a0_4 a0_5 l0_6)) = some r := H
  have A5 := Aside0.mk A50
  clear A50
  by_cases c6 : t972 = true
  ·subst c6
   have H1 : ((tile_Tiles.f (([(⟨a0_0, (⟨a0_1, a0_2, a0_3, a0_4⟩ : S23), a0_5, l0_6⟩ : S26)] : List (S26)))).bind fun t976 => (least_Gives.j0 k a1 (!t976) a0_0 a0_1 a0_2 a0_3 a0_4 a0_5 l0_6)) = some r := by rw [if_pos rfl] at H; exact H
   clear H
   have H := H1
   clear H1
   obtain ⟨y973, hy973⟩ : ∃ y_ : List (S26), y_ = (([(⟨a0_0, (⟨a0_1, a0_2, a0_3, a0_4⟩ : S23), a0_5, l0_6⟩ : S26)] : List (S26))) := ⟨_, rfl⟩
   replace H : ((tile_Tiles.f y973).bind fun t976 => (least_Gives.j0 k a1 (!t976) a0_0 a0_1 a0_2 a0_3 a0_4 a0_5 l0_6)) = some r := by first | (rw [hy973]; with_reducible exact H) | (have H2_ := (Option.bind_some _ _).symm.trans H; rw [hy973]; with_reducible exact H2_) | (have H2_ := (Option.bind_some _ _).symm.trans H; with_reducible exact H2_) | with_reducible exact H | (rw [hy973]; exact H) | exact H
   have Ny973 := Aside0.mk hy973
   clear hy973
   replace H := Option.bind_eq_some_iff.mp H
   obtain ⟨t976, A70, H⟩ := H
   replace H : (least_Gives.j0 k a1 (!t976) a0_0 a0_1 a0_2 a0_3 a0_4 a0_5 l0_6) = some r := H
   have A7 := Aside0.mk A70
   clear A70
   have H' := Aside0.mk H
   clear H
   go_wp2_with (first | ((with_reducible refine gate_callee (f := 147) rfl ?_); refine goesL_ (some 6) rfl rfl Try.func147 (by kernel_rfl) rfl #[.int .u8 a1] rfl (by (try simp only [List.map_toArray, List.map_cons, List.map_nil]); first | done | rfl | (simp only [List.length_drop, List.length_take]; rfl)) ?_; (with_reducible refine (least_axes.calls a1 true _ A5.out).mono ?_); rintro e w8 ⟨rfl, hb⟩; refine ⟨_, rfl, ?_⟩; have n0_ := Aside0.mk (Kd.V_below (by (with_reducible repeat (first | apply Kd.V_alloc | apply Kd.V_drewN | apply Kd.V_drew)); exact HO0_6.out) hb); have n1_ := Aside0.mk (blk_below (g := gb971) (o := .cells #[.int .u8 a0_0, .int .i64 a0_1, .int .i64 a0_2, .int .i64 a0_3, .int .i64 a0_4, .int .i64 a0_5, .slice A0_6 l0_6.length c0_6] 26 (0, 0)) (by (with_reducible repeat (first | refine blk_drewN ?_ _ | refine blk_drew ?_ | refine blk_alloc ?_ _)); exact BK971.out) hb); have n2_ := Aside0.mk (below_step (by repeat (first | (with_reducible first | exact HB.out | apply below_alloc | apply pw_below_drewN | apply below_drew1 | refine below_set ?_ GE971.out) | exact HB.out)) hb); clear HO0_6; clear BK971; clear HB; have HO0_6 := n0_; have BK971 := n1_; have HB := n2_; clear n0_ n1_ n2_; (try clear hb); (try clear hb2); (try clear hk); (try clear hi); have hcz9_0 : w8.cell? ⟨gb971, 0, none⟩ = some (.int .u8 a0_0) := (blk_cell BK971.out 0).trans rfl; have hcz9_1 : w8.cell? ⟨gb971, 1, none⟩ = some (.int .i64 a0_1) := (blk_cell BK971.out 1).trans rfl; have hcz9_2 : w8.cell? ⟨gb971, 2, none⟩ = some (.int .i64 a0_2) := (blk_cell BK971.out 2).trans rfl; have hcz9_3 : w8.cell? ⟨gb971, 3, none⟩ = some (.int .i64 a0_3) := (blk_cell BK971.out 3).trans rfl; have hcz9_4 : w8.cell? ⟨gb971, 4, none⟩ = some (.int .i64 a0_4) := (blk_cell BK971.out 4).trans rfl; have hcz9_5 : w8.cell? ⟨gb971, 5, none⟩ = some (.int .i64 a0_5) := (blk_cell BK971.out 5).trans rfl; have hcz9_6 : w8.cell? ⟨gb971, 6, none⟩ = some (.slice A0_6 l0_6.length c0_6) := (blk_cell BK971.out 6).trans rfl; have hfz9_0 := blk_frozen BK971.out 0; have hfz9_1 := blk_frozen BK971.out 1; have hfz9_2 := blk_frozen BK971.out 2; have hfz9_3 := blk_frozen BK971.out 3; have hfz9_4 := blk_frozen BK971.out 4; have hfz9_5 := blk_frozen BK971.out 5; have hfz9_6 := blk_frozen BK971.out 6) | ((with_reducible refine gate_dst (N := 10) rfl ?_); (try (refine gate_guard (by rfl) ?_; dsimp only)); refine Kd.N_lit k26 _ 26 ?hg (N' := 10) ?hd (xs := ([(⟨a0_0, (⟨a0_1, a0_2, a0_3, a0_4⟩ : S23), a0_5, l0_6⟩ : S26)] : List (S26))) (inner := [.int .u8 a0_0, .int .i64 a0_1, .int .i64 a0_2, .int .i64 a0_3, .int .i64 a0_4, .int .i64 a0_5, .slice A0_6 l0_6.length c0_6]) (ok := (fun k_ => (P0_6_ k_ ∨ w.heap.size ≤ k_) ∧ k_ ≠ gb971)) (okp := (fun k_ => (P0_6_ k_ ∨ w.heap.size ≤ k_) ∧ k_ ≠ gb971)) ?hr ?hp (fun _ hk => hk) ((show ∀ k_, w8.heap.size ≤ k_ → (fun k_ => (P0_6_ k_ ∨ w.heap.size ≤ k_) ∧ k_ ≠ gb971) k_ from fun k_ hk => ⟨(.inr (Nat.le_trans (below_size (by repeat (first | (with_reducible first | exact HB.out | apply below_alloc | apply pw_below_drewN | apply below_drew1 | refine below_set ?_ GE971.out) | exact HB.out))) hk)), Kd.freshB (g := gb971) (o := .cells #[.int .u8 a0_0, .int .i64 a0_1, .int .i64 a0_2, .int .i64 a0_3, .int .i64 a0_4, .int .i64 a0_5, .slice A0_6 l0_6.length c0_6] 26 (0, 0)) (by (with_reducible repeat (first | refine blk_drewN ?_ _ | refine blk_drew ?_ | refine blk_alloc ?_ _)); exact BK971.out) k_ hk⟩) _ (Nat.le_refl _)) (Below.refl _ _) (Nat.le_refl _) (by simp) ?_; (case hd => rfl); (case hg => rfl); (case hr => first | (go_simp; done) | (go_simp; rfl)); (case hp => exact (Reps.c7 (show Kd.FK k26 _ _ (⟨a0_0, (⟨a0_1, a0_2, a0_3, a0_4⟩ : S23), a0_5, l0_6⟩ : S26) [.int .u8 a0_0, .int .i64 a0_1, .int .i64 a0_2, .int .i64 a0_3, .int .i64 a0_4, .int .i64 a0_5, .slice A0_6 l0_6.length c0_6] from (k26_mkF _ _ (⟨a0_0, (⟨a0_1, a0_2, a0_3, a0_4⟩ : S23), a0_5, l0_6⟩ : S26) (Kd.V_reads' (Kd.V_mono (ok' := (fun k_ => (P0_6_ k_ ∨ w.heap.size ≤ k_) ∧ k_ ≠ gb971)) (HO0_6.out) (fun k_ hk => ⟨hk.1, hk.2⟩))).2.1 (Kd.V_F (Kd.V_mono (ok' := (fun k_ => (P0_6_ k_ ∨ w.heap.size ≤ k_) ∧ k_ ≠ gb971)) (HO0_6.out) (fun k_ hk => ⟨hk.1, hk.2⟩))))) (Reps.none _ _))); intro v974 w10 ho11 hb hg_ hnew_; clear hg_ hnew_; (first | rw [← Ny973.out] at ho11 | (simp only [Int.reduceToNat] at ho11; rw [← Ny973.out] at ho11)); have n0_ := Aside0.mk (Kd.V_elder' (by (with_reducible repeat (first | apply Kd.V_alloc | apply Kd.V_drewN | apply Kd.V_drew)); exact HO0_6.out) (Kd.N_base ho11) hb); have n1_ := Aside0.mk (Kd.N_lower ho11 (below_size (by repeat (first | (with_reducible first | exact HB.out | apply below_alloc | apply pw_below_drewN | apply below_drew1 | refine below_set ?_ GE971.out) | exact HB.out)))); have n2_ := Aside0.mk (blk_below (g := gb971) (o := .cells #[.int .u8 a0_0, .int .i64 a0_1, .int .i64 a0_2, .int .i64 a0_3, .int .i64 a0_4, .int .i64 a0_5, .slice A0_6 l0_6.length c0_6] 26 (0, 0)) (by (with_reducible repeat (first | refine blk_drewN ?_ _ | refine blk_drew ?_ | refine blk_alloc ?_ _)); exact BK971.out) hb); have n3_ := Aside0.mk (below_step (by repeat (first | (with_reducible first | exact HB.out | apply below_alloc | apply pw_below_drewN | apply below_drew1 | refine below_set ?_ GE971.out) | exact HB.out)) hb); clear HO0_6; clear BK971; clear HB; have HO0_6 := n0_; have HO975 := n1_; have BK971 := n2_; have HB := n3_; clear n0_ n1_ n2_ n3_; clear hb ho11; obtain ⟨Ao12, co12, eo12⟩ := Kd.N_slice HO975.out; subst eo12) | (go_at_call 148; (with_reducible refine (tile_Tiles.calls _ _ y973 t976 _ ?side1 ?side2 A7.out).mono ?_); (case side1 => repeat (first | exact (Kd.N_reads' HO975.out).2.2 | (with_reducible refine Kd.C_alloc ?_ _) | (with_reducible refine Kd.C_drewN ?_ _) | (with_reducible refine Kd.C_drew ?_))); (case side2 => exact (Kd.N_reads' HO975.out).2.1); rintro e w13 ⟨rfl, hb⟩; have n0_ := Aside0.mk (Kd.V_below (by (with_reducible repeat (first | apply Kd.V_alloc | apply Kd.V_drewN | apply Kd.V_drew)); exact HO0_6.out) hb); have n1_ := Aside0.mk (Kd.N_below (by (with_reducible repeat (first | apply Kd.N_alloc | apply Kd.N_drewN | apply Kd.N_drew)); exact HO975.out) hb); have n2_ := Aside0.mk (blk_below (g := gb971) (o := .cells #[.int .u8 a0_0, .int .i64 a0_1, .int .i64 a0_2, .int .i64 a0_3, .int .i64 a0_4, .int .i64 a0_5, .slice A0_6 l0_6.length c0_6] 26 (0, 0)) (by (with_reducible repeat (first | refine blk_drewN ?_ _ | refine blk_drew ?_ | refine blk_alloc ?_ _)); exact BK971.out) hb); have n3_ := Aside0.mk (below_step (by repeat (first | (with_reducible first | exact HB.out | apply below_alloc | apply pw_below_drewN | apply below_drew1 | refine below_set ?_ GE971.out) | exact HB.out)) hb); clear HO0_6; clear HO975; clear BK971; clear HB; have HO0_6 := n0_; have HO975 := n1_; have BK971 := n2_; have HB := n3_; clear n0_ n1_ n2_ n3_; (try clear hb); (try clear hb2); (try clear hk); (try clear hi)))
   go_meet
   case rel => exact ⟨_, (!t976), (by first | rfl | (simp; done) | (simp [*]; done)), H', ⟨by first | omega | exact Nat.le_refl _⟩, ⟨by (with_reducible repeat (first | apply Kd.V_alloc | apply Kd.V_drewN | apply Kd.V_drew)); exact Kd.V_mono HO0_6.out (fun _ hk => ⟨hk.1.1, hk.1.2⟩)⟩, ⟨by (with_reducible repeat (first | refine blk_drewN ?_ _ | refine blk_drew ?_ | refine blk_alloc ?_ _)); exact BK971.out⟩, ⟨by repeat (first | (with_reducible first | exact HB.out | apply below_alloc | apply pw_below_drewN | apply below_drew1 | refine below_set ?_ GE971.out) | exact HB.out)⟩⟩
  ·replace c6 := Bool.eq_false_iff.mpr c6
   subst c6
   have H1 : (least_Gives.j0 k a1 true a0_0 a0_1 a0_2 a0_3 a0_4 a0_5 l0_6) = some r := by rw [if_neg (show ¬ (false = true) by decide)] at H; exact H
   clear H
   have H := H1
   clear H1
   have H' := Aside0.mk H
   clear H
   go_wp2_with (first | ((with_reducible refine gate_callee (f := 147) rfl ?_); refine goesL_ (some 6) rfl rfl Try.func147 (by kernel_rfl) rfl #[.int .u8 a1] rfl (by (try simp only [List.map_toArray, List.map_cons, List.map_nil]); first | done | rfl | (simp only [List.length_drop, List.length_take]; rfl)) ?_; (with_reducible refine (least_axes.calls a1 false _ A5.out).mono ?_); rintro e w14 ⟨rfl, hb⟩; refine ⟨_, rfl, ?_⟩; have n0_ := Aside0.mk (Kd.V_below (by (with_reducible repeat (first | apply Kd.V_alloc | apply Kd.V_drewN | apply Kd.V_drew)); exact HO0_6.out) hb); have n1_ := Aside0.mk (blk_below (g := gb971) (o := .cells #[.int .u8 a0_0, .int .i64 a0_1, .int .i64 a0_2, .int .i64 a0_3, .int .i64 a0_4, .int .i64 a0_5, .slice A0_6 l0_6.length c0_6] 26 (0, 0)) (by (with_reducible repeat (first | refine blk_drewN ?_ _ | refine blk_drew ?_ | refine blk_alloc ?_ _)); exact BK971.out) hb); have n2_ := Aside0.mk (below_step (by repeat (first | (with_reducible first | exact HB.out | apply below_alloc | apply pw_below_drewN | apply below_drew1 | refine below_set ?_ GE971.out) | exact HB.out)) hb); clear HO0_6; clear BK971; clear HB; have HO0_6 := n0_; have BK971 := n1_; have HB := n2_; clear n0_ n1_ n2_; (try clear hb); (try clear hb2); (try clear hk); (try clear hi)))
   go_meet
   case rel => exact ⟨_, (true), (by first | rfl | (simp; done) | (simp [*]; done)), H', ⟨by first | omega | exact Nat.le_refl _⟩, ⟨by (with_reducible repeat (first | apply Kd.V_alloc | apply Kd.V_drewN | apply Kd.V_drew)); exact HO0_6.out⟩, ⟨by (with_reducible repeat (first | refine blk_drewN ?_ _ | refine blk_drew ?_ | refine blk_alloc ?_ _)); exact BK971.out⟩, ⟨by repeat (first | (with_reducible first | exact HB.out | apply below_alloc | apply pw_below_drewN | apply below_drew1 | refine below_set ?_ GE971.out) | exact HB.out)⟩⟩
 case rest =>
  clear HC3
  try clear c1
  try clear p2
  try clear c6
  try clear c7
  try clear c8
  try clear c14
  try clear hcz9_0
  try clear hcz9_1
  try clear hcz9_2
  try clear hcz9_3
  try clear hcz9_4
  try clear hcz9_5
  try clear hcz9_6
  try clear hfz9_0
  try clear hfz9_1
  try clear hfz9_2
  try clear hfz9_3
  try clear hfz9_4
  try clear hfz9_5
  try clear hfz9_6
  obtain ⟨kq, x13_2, rfl, HA, HJ2, HO_972006, BK971, HB⟩ := hcut
  cases kq with
  | zero => exact absurd HA.out (by simp [least_Gives.j0])
  | succ kj2 =>
   have H := HA.out
   clear HA
   simp only [least_Gives.j0] at H
   by_cases c15 : x13_2 = true
   ·subst c15
    have H1 : (some 0) = some r := by rw [if_pos rfl] at H; exact H
    clear H
    have H := H1
    clear H1
    obtain rfl := Option.some.inj H
    go_wp2
    go_ret
    exact ⟨by first | rfl | (simp [errW_none, errW_some] <;> rfl) | (simp [*, errW_none, errW_some] <;> rfl), by repeat (first | (with_reducible first | exact HB.out | apply below_alloc | apply pw_below_drewN | apply below_drew1 | refine below_set ?_ GE971.out) | exact HB.out)⟩
   ·replace c15 := Bool.eq_false_iff.mpr c15
    subst c15
    have H1 : ((least_Size.f a0_1 a0_2 a0_3 a0_4 a1).bind fun t977 => ((least_least.f kj2 a0_0 a0_1 a0_2 a0_3 a0_4 a0_5 l0_6 a1).bind fun t978 => (some (wrap64 (t977 - t978))))) = some r := by rw [if_neg (show ¬ (false = true) by decide)] at H; exact H
    clear H
    have H := H1
    clear H1
    replace H := Option.bind_eq_some_iff.mp H
    obtain ⟨t977, A160, H⟩ := H
    replace H : ((least_least.f kj2 a0_0 a0_1 a0_2 a0_3 a0_4 a0_5 l0_6 a1).bind fun t978 => (some (wrap64 (t977 - t978)))) = some r := H
    have A16 := Aside0.mk A160
    clear A160
    replace H := Option.bind_eq_some_iff.mp H
    obtain ⟨t978, A170, H⟩ := H
    replace H : (some (wrap64 (t977 - t978))) = some r := H
    have A17 := Aside0.mk A170
    clear A170
    obtain rfl := Option.some.inj H
    try go_wp2
    have n0_ := Aside0.mk (Kd.V_drew HO_972006.out)
    have n1_ := Aside0.mk (blk_drew BK971.out)
    have n2_ := Aside0.mk (below_drew1 HB.out)
    clear HO_972006
    clear BK971
    clear HB
    have HO_972006 := n0_
    have BK971 := n1_
    have HB := n2_
    clear n0_ n1_ n2_
    refine start_ (n := 9) (S := fun w' => w'.cell? ⟨gb971, 0, none⟩ = some (.int .u8 a0_0) ∧ w'.cell? ⟨gb971, 1, none⟩ = some (.int .i64 a0_1) ∧ w'.cell? ⟨gb971, 2, none⟩ = some (.int .i64 a0_2) ∧ w'.cell? ⟨gb971, 3, none⟩ = some (.int .i64 a0_3) ∧ w'.cell? ⟨gb971, 4, none⟩ = some (.int .i64 a0_4) ∧ w'.cell? ⟨gb971, 5, none⟩ = some (.int .i64 a0_5) ∧ w'.cell? ⟨gb971, 6, none⟩ = some (.slice A0_6 l0_6.length c0_6)) (ds := []) #[false, false, false, false, false, false, false, false, false] (by kernel_rfl) rfl rfl ⟨(blk_cell BK971.out 0).trans rfl, (blk_cell BK971.out 1).trans rfl, (blk_cell BK971.out 2).trans rfl, (blk_cell BK971.out 3).trans rfl, (blk_cell BK971.out 4).trans rfl, (blk_cell BK971.out 5).trans rfl, (blk_cell BK971.out 6).trans rfl⟩ (fun hHeld => ?_); refine with_tabW least_Gives.tab3 least_Gives.bits3 (fun HT_ HW_ => ?_)
    generalize wc.drew = w18 at HO_972006 BK971 HB hHeld ⊢
    refine pure_ (i := 0) (N := some 14) (v := ?_) (a' := ?_) #[true, false, false, false, false, false, false, false, false] rfl rfl (any_of HT_.out (by kernel_rfl)) (fun _ _ _ h => h) (Or.inl ⟨by rfl, ?_⟩) ?_ ?_
    rotate_left
    ·intro w'
     go_simp
     with_reducible rfl
    rotate_left
    ·simp only [Act.put, List.setIfInBounds_toArray, List.set_cons_zero, List.set_cons_succ, i64_w, i32_w]
     rfl
    refine pure_ (i := 2) (N := some 16) (v := ?_) (a' := ?_) #[true, false, true, false, false, false, false, false, false] rfl rfl (any_of HT_.out (by kernel_rfl)) (fun _ _ _ h => h) (Or.inl ⟨by rfl, ?_⟩) ?_ ?_
    rotate_left
    ·intro w'
     go_simp
     with_reducible rfl
    rotate_left
    ·simp only [Act.put, List.setIfInBounds_toArray, List.set_cons_zero, List.set_cons_succ, i64_w, i32_w]
     rfl
    refine pure_ (i := 5) (N := some 19) (v := ?_) (a' := ?_) #[true, false, true, false, false, true, false, false, false] rfl rfl (any_of HT_.out (by kernel_rfl)) (fun _ _ _ h => h) (Or.inl ⟨by rfl, ?_⟩) ?_ ?_
    rotate_left
    ·intro w'
     go_simp
     with_reducible rfl
    rotate_left
    ·simp only [Act.put, List.setIfInBounds_toArray, List.set_cons_zero, List.set_cons_succ, i64_w, i32_w]
     rfl
    refine take_ (i := 1) (N := some 15) (v := ?_) (a' := ?_) #[true, true, true, false, false, true, false, false, false] rfl rfl (take_ofW HT_.out HW_.out (by kernel_rfl)) (fun _ _ _ h => h) (Or.inl ⟨by rfl, ?_⟩) hHeld ?_ ?_
    rotate_left
    ·rintro w' ⟨s0, s1, s2, s3, s4, s5, s6⟩
     go_simp
     with_reducible rfl
    rotate_left
    ·simp only [Act.put, List.setIfInBounds_toArray, List.set_cons_zero, List.set_cons_succ, i64_w, i32_w]
     rfl
    refine take_ (i := 4) (N := some 18) (v := ?_) (a' := ?_) #[true, true, true, false, true, true, false, false, false] rfl rfl (take_ofW HT_.out HW_.out (by kernel_rfl)) (fun _ _ _ h => h) (Or.inl ⟨by rfl, ?_⟩) hHeld ?_ ?_
    rotate_left
    ·rintro w' ⟨s0, s1, s2, s3, s4, s5, s6⟩
     go_simp
     with_reducible rfl
    rotate_left
    ·simp only [Act.put, List.setIfInBounds_toArray, List.set_cons_zero, List.set_cons_succ, i64_w, i32_w]
     rfl
    refine one_ (i := 3) (N := some 17) #[true, true, true, true, true, true, false, false, false] rfl rfl (one_of HT_.out (by kernel_rfl)) (by decide) (fun K hK => ?_)
    refine goes_ Try.func98 (by kernel_rfl) rfl #[.agg #[.int .i64 a0_1, .int .i64 a0_2, .int .i64 a0_3, .int .i64 a0_4], .int .u8 a1] (by rfl) rfl rfl (by (try simp only [List.map_toArray, List.map_cons, List.map_nil]); first | done | rfl | (simp only [List.length_drop, List.length_take]; rfl)) ?_
    with_reducible refine (least_Size.calls a0_1 a0_2 a0_3 a0_4 a1 t977 _ A16.out).mono ?_
    rintro e w19 ⟨rfl, hb⟩
    refine ⟨_, rfl, ?_⟩
    have n0_ := Aside0.mk (Kd.V_below (by (with_reducible repeat (first | apply Kd.V_alloc | apply Kd.V_drewN | apply Kd.V_drew)); exact HO_972006.out) hb)
    have n1_ := Aside0.mk (blk_below (g := gb971) (o := .cells #[.int .u8 a0_0, .int .i64 a0_1, .int .i64 a0_2, .int .i64 a0_3, .int .i64 a0_4, .int .i64 a0_5, .slice A0_6 l0_6.length c0_6] 26 (0, 0)) (by (with_reducible repeat (first | refine blk_drewN ?_ _ | refine blk_drew ?_ | refine blk_alloc ?_ _)); exact BK971.out) hb)
    have n2_ := Aside0.mk (below_step (by repeat (first | (with_reducible first | exact HB.out | apply below_alloc | apply pw_below_drewN | apply below_drew1 | refine below_set ?_ GE971.out) | exact HB.out)) hb)
    clear HO_972006
    clear BK971
    clear HB
    have HO_972006 := n0_
    have BK971 := n1_
    have HB := n2_
    clear n0_ n1_ n2_
    (try clear hb)
    (try clear hb2)
    (try clear hk)
    (try clear hi)
    refine hK.out _ _ ⟨(blk_cell BK971.out 0).trans rfl, (blk_cell BK971.out 1).trans rfl, (blk_cell BK971.out 2).trans rfl, (blk_cell BK971.out 3).trans rfl, (blk_cell BK971.out 4).trans rfl, (blk_cell BK971.out 5).trans rfl, (blk_cell BK971.out 6).trans rfl⟩ (fun hHeld => ?_)
    clear hK K
    refine norm_ (a' := ?_) ?_ ?_
    rotate_left
    ·show Act.put _ (some 17) _ = _
     simp only [Act.put, List.setIfInBounds_toArray, List.set_cons_zero, List.set_cons_succ, i64_w, i32_w]
     rfl
    refine one_ (i := 6) (N := some 20) #[true, true, true, true, true, true, true, false, false] rfl rfl (one_of HT_.out (by kernel_rfl)) (by decide) (fun K hK => ?_)
    refine goes_ Try.func149 (by kernel_rfl) rfl #[.agg #[.int .u8 a0_0, .int .i64 a0_1, .int .i64 a0_2, .int .i64 a0_3, .int .i64 a0_4, .int .i64 a0_5, .slice A0_6 l0_6.length c0_6], .int .u8 a1] (by rfl) rfl rfl (by (try simp only [List.map_toArray, List.map_cons, List.map_nil]); first | done | rfl | (simp only [List.length_drop, List.length_take]; rfl)) ?_
    with_reducible refine (least_least.calls kj2 a0_0 a0_1 a0_2 a0_3 a0_4 a0_5 _ _ l0_6 a1 t978 _ ?side1 ?side2 A17.out).mono ?_
    (case side1 => repeat (first | exact (Kd.V_reads' HO_972006.out).2.2 | (with_reducible refine Kd.C_alloc ?_ _) | (with_reducible refine Kd.C_drewN ?_ _) | (with_reducible refine Kd.C_drew ?_)))
    (case side2 => exact (Kd.V_reads' HO_972006.out).2.1)
    rintro e w20 ⟨rfl, hb⟩
    refine ⟨_, rfl, ?_⟩
    have n0_ := Aside0.mk (Kd.V_below (by (with_reducible repeat (first | apply Kd.V_alloc | apply Kd.V_drewN | apply Kd.V_drew)); exact HO_972006.out) hb)
    have n1_ := Aside0.mk (blk_below (g := gb971) (o := .cells #[.int .u8 a0_0, .int .i64 a0_1, .int .i64 a0_2, .int .i64 a0_3, .int .i64 a0_4, .int .i64 a0_5, .slice A0_6 l0_6.length c0_6] 26 (0, 0)) (by (with_reducible repeat (first | refine blk_drewN ?_ _ | refine blk_drew ?_ | refine blk_alloc ?_ _)); exact BK971.out) hb)
    have n2_ := Aside0.mk (below_step (by repeat (first | (with_reducible first | exact HB.out | apply below_alloc | apply pw_below_drewN | apply below_drew1 | refine below_set ?_ GE971.out) | exact HB.out)) hb)
    clear HO_972006
    clear BK971
    clear HB
    have HO_972006 := n0_
    have BK971 := n1_
    have HB := n2_
    clear n0_ n1_ n2_
    (try clear hb)
    (try clear hb2)
    (try clear hk)
    (try clear hi)
    refine hK.out _ _ ⟨(blk_cell BK971.out 0).trans rfl, (blk_cell BK971.out 1).trans rfl, (blk_cell BK971.out 2).trans rfl, (blk_cell BK971.out 3).trans rfl, (blk_cell BK971.out 4).trans rfl, (blk_cell BK971.out 5).trans rfl, (blk_cell BK971.out 6).trans rfl⟩ (fun hHeld => ?_)
    clear hK K
    refine norm_ (a' := ?_) ?_ ?_
    rotate_left
    ·show Act.put _ (some 20) _ = _
     simp only [Act.put, List.setIfInBounds_toArray, List.set_cons_zero, List.set_cons_succ, i64_w, i32_w]
     rfl
    refine pure_ (i := 7) (N := some 21) (v := ?_) (a' := ?_) #[true, true, true, true, true, true, true, true, false] rfl rfl (any_of HT_.out (by kernel_rfl)) (fun _ _ _ h => h) (Or.inl ⟨by rfl, ?_⟩) ?_ ?_
    rotate_left
    ·intro w'
     go_simp
     with_reducible rfl
    rotate_left
    ·simp only [Act.put, List.setIfInBounds_toArray, List.set_cons_zero, List.set_cons_succ, i64_w, i32_w]
     rfl
    refine pure_ (i := 8) (N := some 4) (v := ?_) (a' := ?_) #[true, true, true, true, true, true, true, true, true] rfl rfl (any_of HT_.out (by kernel_rfl)) (fun _ _ _ h => h) (Or.inl ⟨by rfl, ?_⟩) ?_ ?_
    rotate_left
    ·intro w'
     go_simp
     with_reducible rfl
    rotate_left
    ·simp only [Act.put, List.setIfInBounds_toArray, List.set_cons_zero, List.set_cons_succ, i64_w, i32_w]
     rfl
    refine done_ (done_of HT_.out (by kernel_rfl)) ?_
    try go_wp2
    go_ret
    exact ⟨by first | rfl | (simp [errW_none, errW_some] <;> rfl) | (simp [*, errW_none, errW_some] <;> rfl), by repeat (first | (with_reducible first | exact HB.out | apply below_alloc | apply pw_below_drewN | apply below_drew1 | refine below_set ?_ GE971.out) | exact HB.out)⟩

end Go.Proofs.Ytfdmfgaiblfbhaa.P
