/- SpreadAll: part 4 of 7 of this claim's texts, one behind the other, made small by a program: the words of the kit's printer cut down to those that are used, the claim's own names made short. -/
import Derived.Test.YtfdmfgaiblfbhaaMSpreadAllc
import Derived.ProofKit
import Derived.Deep.Slices
import Derived.Lib.SmallJoins
import Derived.OpenShut
import Derived.WalkSpells
import Derived.Maps.OwnOps
import Derived.Maps.Views
set_option maxHeartbeats 8000000
set_option maxRecDepth 100000
set_option linter.unusedVariables false
set_option linter.unusedSimpArgs false
namespace Go.Proofs.Ytfdmfgaiblfbhaa.P
open Go.RowKit Go.Proofs.ai.bg Go.Proofs.ai.di Go.Proofs.ai.dG
attribute [local go_sem] kD kF lN lQ jF jG kE kG
mutual
def aJ.j0 : Nat → Int → List Int → List (bC) → Bool → Int → Int → Int → Int → Option ((List (bC)) × (List (bC)) × Bool)
 | 0, _, _, _, _, _, _, _, _ => none
 | k + 1, x1, x2, x9, x31, nP, nR, oh, oq => if x31 = true then (some (x9, x9, false)) else (if x1 = 2 then (aJ.j1 k x1 x2 x9 oq nP nR oh oq) else (aJ.j1 k x1 x2 x9 oh nP nR oh oq))
def aJ.j1 : Nat → Int → List Int → List (bC) → Int → Int → Int → Int → Int → Option ((List (bC)) × (List (bC)) × Bool)
 | 0, _, _, _, _, _, _, _, _ => none
 | k + 1, x1, x2, x9, x10, nP, nR, oh, oq => aJ.l0 k x1 x2 x9 x10 (([] : List (bC))) (([] : List (bC))) 0 (x2.length : Int) 0 nP nR oh oq
def aJ.l0 : Nat → Int → List Int → List (bC) → Int → List (bC) → List (bC) → Int → Int → Int → Int → Int → Int → Int → Option ((List (bC)) × (List (bC)) × Bool)
 | 0, _, _, _, _, _, _, _, _, _, _, _, _, _ => none
 | k + 1, x1, x2, x9, x10, x11, x12, ny, x43, Ef, nP, nR, oh, oq => if Ef < x43 then (if Ef > 0 then (if x1 = 1 then (if x12.length < 4398046511104 then (aJ.j3 k x1 x2 x9 x10 x11 (x12 ++ [(⟨wrap64 (nP + ny), nR, 1, oq⟩ : bC)]) (wrap64 (ny + 1)) Ef x43 Ef nP nR oh oq) else (none)) else (if x12.length < 4398046511104 then (aJ.j3 k x1 x2 x9 x10 x11 (x12 ++ [(⟨nP, wrap64 (nR + ny), oh, 1⟩ : bC)]) (wrap64 (ny + 1)) Ef x43 Ef nP nR oh oq) else (none))) else (aJ.j3 k x1 x2 x9 x10 x11 x12 ny Ef x43 Ef nP nR oh oq)) else (if ny = x10 then (some (x11, x12, true)) else (some (x9, x9, false)))
def aJ.j3 : Nat → Int → List Int → List (bC) → Int → List (bC) → List (bC) → Int → Int → Int → Int → Int → Int → Int → Int → Option ((List (bC)) × (List (bC)) × Bool)
 | 0, _, _, _, _, _, _, _, _, _, _, _, _, _, _ => none
 | k + 1, x1, x2, x9, x10, x11, x12, ny, x14, x43, Ef, nP, nR, oh, oq => if 0 ≤ x14 then (if x14 < (x2.length : Int) then (if (rd x2 x14) < 1 then (aJ.j4 k x1 x2 x9 x10 x11 x12 ny x14 x43 Ef true nP nR oh oq) else (if (rd x2 x14) > x10 then (aJ.j4 k x1 x2 x9 x10 x11 x12 ny x14 x43 Ef true nP nR oh oq) else (aJ.j4 k x1 x2 x9 x10 x11 x12 ny x14 x43 Ef (decide ((wrap64 (ny + (rd x2 x14))) > x10)) nP nR oh oq))) else (none)) else (none)
def aJ.j4 : Nat → Int → List Int → List (bC) → Int → List (bC) → List (bC) → Int → Int → Int → Int → Bool → Int → Int → Int → Int → Option ((List (bC)) × (List (bC)) × Bool)
 | 0, _, _, _, _, _, _, _, _, _, _, _, _, _, _, _ => none
 | k + 1, x1, x2, x9, x10, x11, x12, ny, x14, x43, Ef, x99, nP, nR, oh, oq => if x99 = true then (some (x9, x9, false)) else (if x1 = 1 then (if 0 ≤ x14 then (if x14 < (x2.length : Int) then (if x11.length < 4398046511104 then (aJ.l0 k x1 x2 x9 x10 (x11 ++ [(⟨wrap64 (nP + ny), nR, rd x2 x14, oq⟩ : bC)]) x12 (wrap64 (ny + (rd x2 x14))) x43 (wrap64 (Ef + 1)) nP nR oh oq) else (none)) else (none)) else (none)) else (if 0 ≤ x14 then (if x14 < (x2.length : Int) then (if x11.length < 4398046511104 then (aJ.l0 k x1 x2 x9 x10 (x11 ++ [(⟨nP, wrap64 (nR + ny), oh, rd x2 x14⟩ : bC)]) x12 (wrap64 (ny + (rd x2 x14))) x43 (wrap64 (Ef + 1)) nP nR oh oq) else (none)) else (none)) else (none)))
end
def aJ.f (k : Nat) (az : Int) (aC : Int) (aA : Int) (aG : Int) (a1 : Int) (l2 : List Int) : Option ((List (bC)) × (List (bC)) × Bool) := (some (([] : List (bC)) : List (bC))).bind fun kP => ((lI.f az aC aA aG).bind fun Jy => (if Jy = true then (if a1 < 1 then (aJ.j0 k a1 l2 kP true az aC aA aG) else (if a1 > 2 then (aJ.j0 k a1 l2 kP true az aC aA aG) else (aJ.j0 k a1 l2 kP ((l2.length : Int) == 0) az aC aA aG))) else (aJ.j0 k a1 l2 kP true az aC aA aG)))
def aJ.T20 : Bool × List (List Nat × List Nat) := (true, [([], []), ([], []), ([1], [1]), ([], []), ([2, 3], [2, 3]), ([], []), ([5], [5]), ([], []), ([], []), ([7, 8], [7, 8]), ([9], [9]), ([], []), ([11], [11]), ([4, 6, 10, 12], [4, 6, 10, 12]), ([13], [13]), ([0, 14], [0, 14]), ([15, 15, 0, 1, 2, 3, 4, 5, 6, 7, 8, 9, 10, 11, 12, 13, 14, 15], [0, 15])])
def aJ.B20 : List Nat := [0, 0, 2, 0, 14, 0, 32, 0, 0, 384, 896, 0, 2048, 8190, 16382, 32767, 65535]
theorem aJ.aoa : lC .any (opsOf Try.f46 20) = aJ.T20 := by kernel_rfl
theorem aJ.ajO : lu aJ.T20.2 aJ.B20 = true := by kernel_rfl
def aJ.T21 : Bool × List (List Nat × List Nat) := (true, [([], []), ([], []), ([1], [1]), ([], []), ([3], [3]), ([], []), ([4, 5], [4, 5]), ([], []), ([7], [7]), ([], []), ([], []), ([9, 10], [9, 10]), ([11], [11]), ([2, 6, 8, 12], [2, 6, 8, 12]), ([13], [13]), ([0, 14], [0, 14]), ([15, 15, 0, 1, 2, 3, 4, 5, 6, 7, 8, 9, 10, 11, 12, 13, 14, 15], [0, 15])])
def aJ.B21 : List Nat := [0, 0, 2, 0, 8, 0, 56, 0, 128, 0, 0, 1536, 3584, 8190, 16382, 32767, 65535]
theorem aJ.aob : lC .any (opsOf Try.f46 21) = aJ.T21 := by kernel_rfl
theorem aJ.ajP : lu aJ.T21.2 aJ.B21 = true := by kernel_rfl
theorem aJ.calls (k : Nat) (az : Int) (aC : Int) (aA : Int) (aG : Int) (a1 : Int) (A2 : Option Addr) (c2 : Nat) (l2 : List Int) (r1 : List (bC)) (r2 : List (bC)) (r3 : Bool) (w : World) (hr2 : Kd.C (Kd.int .i64) w A2 l2.length l2) (hc2 : l2.length ≤ c2) (h : aJ.f k az aC aA aG a1 l2 = some (r1, r2, r3)) :
  Calls Try.prog 46 #[.agg #[.int .i64 az, .int .i64 aC, .int .i64 aA, .int .i64 aG], .int .u8 a1, .slice A2 l2.length c2] w fun e w' => ∃ ng KU : Value, e = .returned (.tuple #[ng, KU, .bool r3]) ∧ Kd.V k23 23 w' w.heap.size (fun k_ => (w.heap.size ≤ k_)) ng r1 ∧ Kd.V k23 23 w' w.heap.size (fun k_ => (w.heap.size ≤ k_)) KU r2 ∧ Below w.heap.size w w' := by
 have EX := Try.underlying23
 have HR2 := ae.mk hr2
 clear hr2 hc2
 have HB := ae.mk (Below.refl w.heap.size w)
 have H : ((some (([] : List (bC)) : List (bC))).bind fun kP => ((lI.f az aC aA aG).bind fun Jy => (if Jy = true then (if a1 < 1 then (aJ.j0 k a1 l2 kP true az aC aA aG) else (if a1 > 2 then (aJ.j0 k a1 l2 kP true az aC aA aG) else (aJ.j0 k a1 l2 kP ((l2.length : Int) == 0) az aC aA aG))) else (aJ.j0 k a1 l2 kP true az aC aA aG)))) = some (r1, r2, r3) := h
 clear h
 obtain ⟨kP, YZ⟩ : ∃ y_ : List (bC), y_ = (([] : List (bC))) := ⟨_, rfl⟩
 replace H : ((lI.f az aC aA aG).bind fun Jy => (if Jy = true then (if a1 < 1 then (aJ.j0 k a1 l2 kP true az aC aA aG) else (if a1 > 2 then (aJ.j0 k a1 l2 kP true az aC aA aG) else (aJ.j0 k a1 l2 kP ((l2.length : Int) == 0) az aC aA aG))) else (aJ.j0 k a1 l2 kP true az aC aA aG))) = some (r1, r2, r3) := by (have Z4 := (Option.bind_some _ _).symm.trans H; rw [YZ]; with_reducible exact Z4)
 have amy := ae.mk YZ
 clear YZ
 have HC4 := ae.mk H
 clear H
 go_enter Try.func46, Try.ntmps46
 go_upto_region 2 with (first | ((with_reducible refine aQ (N := 3) rfl ?_); (try (refine eQ (by rfl) ?_; dsimp only)); refine aX ?hg (N := 3) ?hd (cs := #[.int .i64 az, .int .i64 aC, .int .i64 aA, .int .i64 aG]) (t := 23) ?hr ?_; (case hd => rfl); (case hg => rfl); (case hr => (go_simp; done)); intro fB hg w5 hbox hb; have bI := ae.mk (hbox); replace HB := ae.mk (aH (by repeat ((with_reducible exact HB.out))) hb); clear hb hbox hg) | ((with_reducible refine aQ (N := 15) rfl ?_); (try (refine eQ (by rfl) ?_; dsimp only)); refine Kd.o8 k23 _ 23 ?hg (N := 15) ?hd (xs := ([] : List (bC))) (inner := []) (ok := fun _ => True) (iO := fun _ => True) ?hr ?hp (fun _ hk => hk) trivial (Below.refl _ _) (Nat.le_refl _) (by simp) ?_; (case hd => rfl); (case hg => rfl); (case hr => (go_simp; done)); (case hp => exact (dB.none _ _)); intro vI w6 UH hb kW gK; clear kW gK; (rw [← amy.out] at UH); have x_ := ae.mk (Kd.iQ (Kd.S_ (Kd.CX (M := fun k_ => (w.heap.size ≤ k_)) UH (aY (by repeat ((with_reducible exact HB.out)))) (fun k_ h_ => h_)) (g := fB) (o := .cells #[.int .i64 az, .int .i64 aC, .int .i64 aA, .int .i64 aG] 23 (0, 0)) bI.out) (aY (by repeat ((with_reducible exact HB.out))))); replace bI := ae.mk (aK bI.out hb); replace HB := ae.mk (aH (by repeat ((with_reducible exact HB.out))) hb); clear hb UH))
 (skip)
 go_cut [31] (fun v31 wc => ∃ (kq : Nat) (Sz : Bool), v31 = .bool Sz ∧ ae (aJ.j0 kq a1 l2 kP Sz az aC aA aG = some (r1, r2, r3)) ∧ ae (kq ≤ k) ∧ ae (Kd.R k23 23 wc w.heap.size (fun k_ => (w.heap.size ≤ k_) ∧ k_ ≠ fB) vI kP) ∧ ae (wc.heap[fB]? = some (.cells #[.int .i64 az, .int .i64 aC, .int .i64 aA, .int .i64 aG] 23 (0, 0))) ∧ ae (Below w.heap.size w wc))
 case first =>
  have H := HC4.out
  clear HC4
  replace H := Option.bind_eq_some_iff.mp H
  obtain ⟨Jy, ZW, H⟩ := H
  replace H : (if Jy = true then (if a1 < 1 then (aJ.j0 k a1 l2 kP true az aC aA aG) else (if a1 > 2 then (aJ.j0 k a1 l2 kP true az aC aA aG) else (aJ.j0 k a1 l2 kP ((l2.length : Int) == 0) az aC aA aG))) else (aJ.j0 k a1 l2 kP true az aC aA aG)) = some (r1, r2, r3) := H
  have A8 := ae.mk ZW
  clear ZW
  by_cases c9 : Jy = true
  ·subst c9
   have H1 : (if a1 < 1 then (aJ.j0 k a1 l2 kP true az aC aA aG) else (if a1 > 2 then (aJ.j0 k a1 l2 kP true az aC aA aG) else (aJ.j0 k a1 l2 kP ((l2.length : Int) == 0) az aC aA aG))) = some (r1, r2, r3) := by rw [if_pos rfl] at H; exact H
   clear H
   have H := H1
   clear H1
   by_cases c10 : a1 < 1
   ·rw [if_pos c10] at H
    have Cb : decide (a1 < 1) = true := decide_eq_true c10
    clear c10
    (skip)
    have H' := ae.mk H
    clear H
    have yJ : w6.cell? ⟨fB, 0, none⟩ = some (.int .i64 az) := (af bI.out 0).trans rfl
    have yK : w6.cell? ⟨fB, 1, none⟩ = some (.int .i64 aC) := (af bI.out 1).trans rfl
    have yL : w6.cell? ⟨fB, 2, none⟩ = some (.int .i64 aA) := (af bI.out 2).trans rfl
    have yM : w6.cell? ⟨fB, 3, none⟩ = some (.int .i64 aG) := (af bI.out 3).trans rfl
    have yO := ag bI.out 0
    have yP := ag bI.out 1
    have yQ := ag bI.out 2
    have yR := ag bI.out 3
    go_wp2_with (((with_reducible refine dn (f := 57) rfl ?_); refine gu (some 17) rfl rfl Try.func57 (by kernel_rfl) rfl #[.agg #[.int .i64 az, .int .i64 aC, .int .i64 aA, .int .i64 aG]] rfl (by (try simp only [List.map_toArray, List.map_cons, List.map_nil]); rfl) ?_; (with_reducible refine (lI.calls az aC aA aG true _ A8.out).mono ?_); rintro e w12 ⟨rfl, hb⟩; refine ⟨_, rfl, ?_⟩; replace x_ := ae.mk (Kd.fJ x_.out hb); replace bI := ae.mk (aK bI.out hb); replace HB := ae.mk (aH (by repeat ((with_reducible exact HB.out))) hb); (try clear hb)))
    go_meet
    case rel => exact ⟨_, (true), (by rfl), H', ⟨by omega⟩, ⟨by exact Kd.cZ x_.out (fun _ hk => ⟨hk.1.1, hk.2⟩)⟩, ⟨by exact bI.out⟩, ⟨by repeat ((with_reducible exact HB.out))⟩⟩
   ·rw [if_neg c10] at H
    have Cb : decide (a1 < 1) = false := decide_eq_false c10
    clear c10
    (skip)
    by_cases c13 : a1 > 2
    ·rw [if_pos c13] at H
     have RS : decide (2 < a1) = true := decide_eq_true c13
     clear c13
     have H' := ae.mk H
     clear H
     have JY : w6.cell? ⟨fB, 0, none⟩ = some (.int .i64 az) := (af bI.out 0).trans rfl
     have JZ : w6.cell? ⟨fB, 1, none⟩ = some (.int .i64 aC) := (af bI.out 1).trans rfl
     have J3 : w6.cell? ⟨fB, 2, none⟩ = some (.int .i64 aA) := (af bI.out 2).trans rfl
     have J4 : w6.cell? ⟨fB, 3, none⟩ = some (.int .i64 aG) := (af bI.out 3).trans rfl
     have J9 := ag bI.out 0
     have J_ := ag bI.out 1
     have Ko := ag bI.out 2
     have Kq := ag bI.out 3
     go_wp2_with (((with_reducible refine dn (f := 57) rfl ?_); refine gu (some 17) rfl rfl Try.func57 (by kernel_rfl) rfl #[.agg #[.int .i64 az, .int .i64 aC, .int .i64 aA, .int .i64 aG]] rfl (by (try simp only [List.map_toArray, List.map_cons, List.map_nil]); rfl) ?_; (with_reducible refine (lI.calls az aC aA aG true _ A8.out).mono ?_); rintro e pz ⟨rfl, hb⟩; refine ⟨_, rfl, ?_⟩; replace x_ := ae.mk (Kd.fJ x_.out hb); replace bI := ae.mk (aK bI.out hb); replace HB := ae.mk (aH (by repeat ((with_reducible exact HB.out))) hb); (try clear hb)))
     go_meet
     case rel => exact ⟨_, (true), (by rfl), H', ⟨by omega⟩, ⟨by exact Kd.cZ x_.out (fun _ hk => ⟨hk.1.1, hk.2⟩)⟩, ⟨by exact bI.out⟩, ⟨by repeat ((with_reducible exact HB.out))⟩⟩
    ·rw [if_neg c13] at H
     have RS : decide (2 < a1) = false := decide_eq_false c13
     clear c13
     have H' := ae.mk H
     clear H
     have FP : w6.cell? ⟨fB, 0, none⟩ = some (.int .i64 az) := (af bI.out 0).trans rfl
     have FQ : w6.cell? ⟨fB, 1, none⟩ = some (.int .i64 aC) := (af bI.out 1).trans rfl
     have FT : w6.cell? ⟨fB, 2, none⟩ = some (.int .i64 aA) := (af bI.out 2).trans rfl
     have FU : w6.cell? ⟨fB, 3, none⟩ = some (.int .i64 aG) := (af bI.out 3).trans rfl
     have FY := ag bI.out 0
     have FZ := ag bI.out 1
     have F5 := ag bI.out 2
     have F6 := ag bI.out 3
     go_wp2_with (((with_reducible refine dn (f := 57) rfl ?_); refine gu (some 17) rfl rfl Try.func57 (by kernel_rfl) rfl #[.agg #[.int .i64 az, .int .i64 aC, .int .i64 aA, .int .i64 aG]] rfl (by (try simp only [List.map_toArray, List.map_cons, List.map_nil]); rfl) ?_; (with_reducible refine (lI.calls az aC aA aG true _ A8.out).mono ?_); rintro e Rj ⟨rfl, hb⟩; refine ⟨_, rfl, ?_⟩; replace x_ := ae.mk (Kd.fJ x_.out hb); replace bI := ae.mk (aK bI.out hb); replace HB := ae.mk (aH (by repeat ((with_reducible exact HB.out))) hb); (try clear hb)))
     go_meet
     case rel => exact ⟨_, (((l2.length : Int) == 0)), (by rfl), H', ⟨by omega⟩, ⟨by exact Kd.cZ x_.out (fun _ hk => ⟨hk.1.1, hk.2⟩)⟩, ⟨by exact bI.out⟩, ⟨by repeat ((with_reducible exact HB.out))⟩⟩
  ·replace c9 := Bool.eq_false_iff.mpr c9
   subst c9
   have H1 : (aJ.j0 k a1 l2 kP true az aC aA aG) = some (r1, r2, r3) := by rw [if_neg (show ¬ (false = true) by decide)] at H; exact H
   clear H
   have H := H1
   clear H1
   have H' := ae.mk H
   clear H
   have O0 : w6.cell? ⟨fB, 0, none⟩ = some (.int .i64 az) := (af bI.out 0).trans rfl
   have O1 : w6.cell? ⟨fB, 1, none⟩ = some (.int .i64 aC) := (af bI.out 1).trans rfl
   have O3 : w6.cell? ⟨fB, 2, none⟩ = some (.int .i64 aA) := (af bI.out 2).trans rfl
   have O4 : w6.cell? ⟨fB, 3, none⟩ = some (.int .i64 aG) := (af bI.out 3).trans rfl
   have Pj := ag bI.out 0
   have Pm := ag bI.out 1
   have Pn := ag bI.out 2
   have Po := ag bI.out 3
   go_wp2_with (((with_reducible refine dn (f := 57) rfl ?_); refine gu (some 17) rfl rfl Try.func57 (by kernel_rfl) rfl #[.agg #[.int .i64 az, .int .i64 aC, .int .i64 aA, .int .i64 aG]] rfl (by (try simp only [List.map_toArray, List.map_cons, List.map_nil]); rfl) ?_; (with_reducible refine (lI.calls az aC aA aG false _ A8.out).mono ?_); rintro e GL ⟨rfl, hb⟩; refine ⟨_, rfl, ?_⟩; replace x_ := ae.mk (Kd.fJ x_.out hb); replace bI := ae.mk (aK bI.out hb); replace HB := ae.mk (aH (by repeat ((with_reducible exact HB.out))) hb); (try clear hb)))
   go_meet
   case rel => exact ⟨_, (true), (by rfl), H', ⟨by omega⟩, ⟨by exact Kd.cZ x_.out (fun _ hk => ⟨hk.1.1, hk.2⟩)⟩, ⟨by exact bI.out⟩, ⟨by repeat ((with_reducible exact HB.out))⟩⟩
 case rest =>
  clear HC4
  obtain ⟨kq, Sz, rfl, HA, Ic, kS, bI, HB⟩ := hcut
  cases kq with
  | zero => exact absurd HA.out (by simp [aJ.j0])
  | succ kj3 =>
   have H := HA.out
   clear HA
   simp only [aJ.j0] at H
   by_cases c20 : Sz = true
   ·subst c20
    have H1 : (some (kP, kP, false)) = some (r1, r2, r3) := by rw [if_pos rfl] at H; exact H
    clear H
    have H := H1
    clear H1
    simp only [Option.some.injEq, Prod.mk.injEq] at H
    obtain ⟨rfl, rfl, rfl⟩ := H
    go_wp2
    go_ret3
    exact ⟨_, _, by rfl, Kd.KH (by exact Kd.cZ kS.out (fun _ hk => hk.1)), Kd.KH (by exact Kd.cZ kS.out (fun _ hk => hk.1)), by repeat ((with_reducible exact HB.out))⟩
   ·replace c20 := Bool.eq_false_iff.mpr c20
    subst c20
    have H1 : (if a1 = 2 then (aJ.j1 kj3 a1 l2 kP aG az aC aA aG) else (aJ.j1 kj3 a1 l2 kP aA az aC aA aG)) = some (r1, r2, r3) := by rw [if_neg (show ¬ (false = true) by decide)] at H; exact H
    clear H
    have H := H1
    clear H1
    have abW := ae.mk H
    clear H
    have O5 : wc.cell? ⟨fB, 0, none⟩ = some (.int .i64 az) := (af bI.out 0).trans rfl
    have O6 : wc.cell? ⟨fB, 1, none⟩ = some (.int .i64 aC) := (af bI.out 1).trans rfl
    have O7 : wc.cell? ⟨fB, 2, none⟩ = some (.int .i64 aA) := (af bI.out 2).trans rfl
    have O8 : wc.cell? ⟨fB, 3, none⟩ = some (.int .i64 aG) := (af bI.out 3).trans rfl
    have Pq := ag bI.out 0
    have Pv := ag bI.out 1
    have Px := ag bI.out 2
    have Py := ag bI.out 3
    go_upto_if 37 with (fail)
    go_cut [10] (fun v10 wc => ∃ (kq : Nat) (nD : Int), v10 = .int .i64 nD ∧ ae (aJ.j1 kq a1 l2 kP nD az aC aA aG = some (r1, r2, r3)) ∧ ae (kq ≤ kj3) ∧ ae (Kd.R k23 23 wc w.heap.size (fun k_ => (w.heap.size ≤ k_) ∧ k_ ≠ fB) vI kP) ∧ ae (wc.heap[fB]? = some (.cells #[.int .i64 az, .int .i64 aC, .int .i64 aA, .int .i64 aG] 23 (0, 0))) ∧ ae (Below w.heap.size w wc))
    case first =>
     have H := abW.out
     clear abW
     by_cases c23 : a1 = 2
     ·rw [if_pos c23] at H
      have G5 : (a1 == 2) = true := beq_iff_eq.mpr c23
      have ana : (a1 != 2) = false := bne_eq_false_iff_eq.mpr c23
      clear c23
      (rw [G5])
      have H' := ae.mk H
      clear H
      have O9 : wc.cell? ⟨fB, 0, none⟩ = some (.int .i64 az) := (af bI.out 0).trans rfl
      have O_ : wc.cell? ⟨fB, 1, none⟩ = some (.int .i64 aC) := (af bI.out 1).trans rfl
      have Pg : wc.cell? ⟨fB, 2, none⟩ = some (.int .i64 aA) := (af bI.out 2).trans rfl
      have Ph : wc.cell? ⟨fB, 3, none⟩ = some (.int .i64 aG) := (af bI.out 3).trans rfl
      have Pz := ag bI.out 0
      have PD := ag bI.out 1
      have PE := ag bI.out 2
      have PG := ag bI.out 3
      go_wp2
      go_meet
      case rel => exact ⟨_, (aG), (by rfl), H', ⟨by have := Ic.out; omega⟩, ⟨by exact kS.out⟩, ⟨by exact bI.out⟩, ⟨by repeat ((with_reducible exact HB.out))⟩⟩
     ·rw [if_neg c23] at H
      have G5 : (a1 == 2) = false := beq_eq_false_iff_ne.mpr c23
      have ana : (a1 != 2) = true := bne_iff_ne.mpr c23
      (rw [G5])
      have H' := ae.mk H
      clear H
      go_wp2
      go_meet
      case rel => exact ⟨_, (aA), (by rfl), H', ⟨by have := Ic.out; omega⟩, ⟨by exact kS.out⟩, ⟨by exact bI.out⟩, ⟨by repeat ((with_reducible exact HB.out))⟩⟩
    case rest =>
     clear abW
     clear O5 O6 O7 O8 Pq Pv Px Py
     obtain ⟨kq, nD, rfl, HA, EO, kS, bI, HB⟩ := hcut
     cases kq with
     | zero => exact absurd HA.out (by simp [aJ.j1])
     | succ Zm =>
      have H := HA.out
      clear HA
      simp only [aJ.j1] at H
      obtain ⟨aei, Y0⟩ : ∃ y_ : List (bC), y_ = (([] : List (bC))) := ⟨_, rfl⟩
      replace H : (aJ.l0 Zm a1 l2 kP nD aei (([] : List (bC))) 0 (l2.length : Int) 0 az aC aA aG) = some (r1, r2, r3) := by (rw [Y0]; with_reducible exact H)
      have amz := ae.mk Y0
      clear Y0
      obtain ⟨alC, Y1⟩ : ∃ y_ : List (bC), y_ = (([] : List (bC))) := ⟨_, rfl⟩
      replace H : (aJ.l0 Zm a1 l2 kP nD aei alC 0 (l2.length : Int) 0 az aC aA aG) = some (r1, r2, r3) := by (rw [Y1]; with_reducible exact H)
      have amA := ae.mk Y1
      clear Y1
      have H' := ae.mk H
      clear H
      go_wp2_with (first | ((with_reducible refine aQ (N := 40) rfl ?_); (try (refine eQ (by rfl) ?_; dsimp only)); refine Kd.o8 k23 _ 23 ?hg (N := 40) ?hd (xs := ([] : List (bC))) (inner := []) (ok := fun _ => True) (iO := fun _ => True) ?hr ?hp (fun _ hk => hk) trivial (Below.refl _ _) (Nat.le_refl _) (by simp) ?_; (case hd => rfl); (case hg => rfl); (case hr => (go_simp; done)); (case hp => exact (dB.none _ _)); intro awJ BV YS hb kW gK; clear kW gK; (rw [← amz.out] at YS); have RD := ae.mk (Kd.iQ (Kd.S_ (Kd.qG (Kd.CX (M := fun k_ => (w.heap.size ≤ k_)) YS (aY (by repeat ((with_reducible exact HB.out)))) (fun k_ h_ => h_)) (Kd.lX kS.out)) (g := fB) (o := .cells #[.int .i64 az, .int .i64 aC, .int .i64 aA, .int .i64 aG] 23 (0, 0)) bI.out) (aY (by repeat ((with_reducible exact HB.out))))); replace kS := ae.mk (Kd.nY kS.out (Kd.nT YS) hb); replace bI := ae.mk (aK bI.out hb); replace HB := ae.mk (aH (by repeat ((with_reducible exact HB.out))) hb); clear hb YS) | ((with_reducible refine aQ (N := 41) rfl ?_); (try (refine eQ (by rfl) ?_; dsimp only)); refine Kd.o8 k23 _ 23 ?hg (N := 41) ?hd (xs := ([] : List (bC))) (inner := []) (ok := fun _ => True) (iO := fun _ => True) ?hr ?hp (fun _ hk => hk) trivial (Below.refl _ _) (Nat.le_refl _) (by simp) ?_; (case hd => rfl); (case hg => rfl); (case hr => (go_simp; done)); (case hp => exact (dB.none _ _)); intro awK Vl UF hb kW gK; clear kW gK; (rw [← amA.out] at UF); have alZ := ae.mk (Kd.iQ (Kd.S_ (Kd.qG (Kd.qG (Kd.CX (M := fun k_ => (w.heap.size ≤ k_)) UF (aY (by repeat ((with_reducible exact HB.out)))) (fun k_ h_ => h_)) (Kd.lX kS.out)) (Kd.lX RD.out)) (g := fB) (o := .cells #[.int .i64 az, .int .i64 aC, .int .i64 aA, .int .i64 aG] 23 (0, 0)) bI.out) (aY (by repeat ((with_reducible exact HB.out))))); replace kS := ae.mk (Kd.nY kS.out (Kd.nT UF) hb); replace RD := ae.mk (Kd.nY RD.out (Kd.nT UF) hb); replace bI := ae.mk (aK bI.out hb); replace HB := ae.mk (aH (by repeat ((with_reducible exact HB.out))) hb); clear hb UF))
      go_loopg [11, 12, 13, 44] Zm (fun kq v11 v12 v13 v44 w' => ∃ (qN : List (bC)) (Be : List (bC)) (qj : Int) (dF : Int), v13 = .int .i64 qj ∧ v44 = .int .i64 dF ∧ ae (aJ.l0 kq a1 l2 kP nD qN Be qj (l2.length : Int) dF az aC aA aG = some (r1, r2, r3)) ∧ ae (kq ≤ Zm) ∧ ae (Kd.R k23 23 w' w.heap.size (fun k_ => (w.heap.size ≤ k_) ∧ some k_ ≠ (v11 : Value).ownBlock ∧ some k_ ≠ (v12 : Value).ownBlock ∧ k_ ≠ fB) vI kP) ∧ ae (Kd.R k23 23 w' w.heap.size (fun k_ => (w.heap.size ≤ k_) ∧ some k_ ≠ (vI : Value).ownBlock ∧ some k_ ≠ (v12 : Value).ownBlock ∧ k_ ≠ fB) v11 qN) ∧ ae (Kd.R k23 23 w' w.heap.size (fun k_ => (w.heap.size ≤ k_) ∧ some k_ ≠ (vI : Value).ownBlock ∧ some k_ ≠ (v11 : Value).ownBlock ∧ k_ ≠ fB) v12 Be) ∧ ae (w'.heap[fB]? = some (.cells #[.int .i64 az, .int .i64 aC, .int .i64 aA, .int .i64 aG] 23 (0, 0))) ∧ ae (Below w.heap.size w w'))
      case atStart => exact ⟨(aei), (alC), (0), (0), (by rfl), (by rfl), H', ⟨Nat.le_refl _⟩, ⟨by exact Kd.cZ kS.out (fun _ hk => ⟨hk.1.1.1, ⟨hk.1.2, ⟨hk.2, hk.1.1.2⟩⟩⟩)⟩, ⟨by exact Kd.cZ RD.out (fun _ hk => ⟨hk.1.1.1.1, ⟨hk.1.1.2, ⟨hk.2, hk.1.2⟩⟩⟩)⟩, ⟨by exact Kd.cZ alZ.out (fun _ hk => ⟨hk.1.1.1.1, ⟨hk.1.1.2, ⟨hk.1.2, hk.2⟩⟩⟩)⟩, ⟨by exact bI.out⟩, ⟨by repeat ((with_reducible exact HB.out))⟩⟩
      case round =>
       clear H'
       obtain ⟨qN, Be, qj, dF, rfl, rfl, HA, zl, kS, fE, fP, bI, HB⟩ := hrel
       cases gk with
       | zero => exact absurd HA.out (by simp [aJ.l0])
       | succ k3 =>
        have H := HA.out
        clear HA
        simp only [aJ.l0] at H
        by_cases c29 : dF < (l2.length : Int)
        ·rw [if_pos c29] at H
         have aeT : decide (dF < (l2.length : Int)) = true := decide_eq_true c29
         clear c29
         have abX := ae.mk H
         clear H
         go_upto_if 48 with (fail)
         go_cut [12, 13] (fun v12 v13 wc => ∃ (kq : Nat) (xn : List (bC)) (oD : Int), v13 = .int .i64 oD ∧ ae (aJ.j3 kq a1 l2 kP nD qN xn oD dF (l2.length : Int) dF az aC aA aG = some (r1, r2, r3)) ∧ ae (kq ≤ k3) ∧ ae (Kd.R k23 23 wc w.heap.size (fun k_ => (w.heap.size ≤ k_) ∧ some k_ ≠ (u11 : Value).ownBlock ∧ some k_ ≠ (v12 : Value).ownBlock ∧ k_ ≠ fB) vI kP) ∧ ae (Kd.R k23 23 wc w.heap.size (fun k_ => (w.heap.size ≤ k_) ∧ some k_ ≠ (vI : Value).ownBlock ∧ some k_ ≠ (v12 : Value).ownBlock ∧ k_ ≠ fB) u11 qN) ∧ ae (Kd.R k23 23 wc w.heap.size (fun k_ => (w.heap.size ≤ k_) ∧ some k_ ≠ (vI : Value).ownBlock ∧ some k_ ≠ (u11 : Value).ownBlock ∧ k_ ≠ fB) v12 xn) ∧ ae (wc.heap[fB]? = some (.cells #[.int .i64 az, .int .i64 aC, .int .i64 aA, .int .i64 aG] 23 (0, 0))) ∧ ae (Below w.heap.size w wc))
         case first =>
          have H := abX.out
          clear abX
          by_cases c31 : dF > 0
          ·rw [if_pos c31] at H
           have Yx : decide (0 < dF) = true := decide_eq_true c31
           clear c31
           (rw [Yx])
           by_cases c32 : a1 = 1
           ·rw [if_pos c32] at H
            have ane : (a1 == 1) = true := beq_iff_eq.mpr c32
            have anf : (a1 != 1) = false := bne_eq_false_iff_eq.mpr c32
            clear c32
            by_cases c33 : Be.length < 4398046511104
            ·rw [if_pos c33] at H
             have amk := ae.mk c33
             clear c33
             obtain ⟨alD, Y2⟩ : ∃ y_ : List (bC), y_ = (Be ++ [(⟨wrap64 (az + qj), aC, 1, aG⟩ : bC)]) := ⟨_, rfl⟩
             replace H : (aJ.j3 k3 a1 l2 kP nD qN alD (wrap64 (qj + 1)) dF (l2.length : Int) dF az aC aA aG) = some (r1, r2, r3) := by (rw [Y2]; with_reducible exact H)
             have amB := ae.mk Y2
             clear Y2
             have H' := ae.mk H
             clear H
             have aqb : wr.cell? ⟨fB, 0, none⟩ = some (.int .i64 az) := (af bI.out 0).trans rfl
             have aqc : wr.cell? ⟨fB, 1, none⟩ = some (.int .i64 aC) := (af bI.out 1).trans rfl
             have aqd : wr.cell? ⟨fB, 2, none⟩ = some (.int .i64 aA) := (af bI.out 2).trans rfl
             have aqe : wr.cell? ⟨fB, 3, none⟩ = some (.int .i64 aG) := (af bI.out 3).trans rfl
             have ars := ag bI.out 0
             have art := ag bI.out 1
             have aru := ag bI.out 2
             have arv := ag bI.out 3
             go_wp2_with (((with_reducible refine ji (b := .append) (xs := #[.tmp 51, .tmp 61]) rfl ?_); (try (refine eQ (by rfl) ?_; dsimp only)); at_builtin; refine Kd.oG k23 (w0 := w) w.heap.size rfl (.tmp 51) (.tmp 61) 42 23 (.agg #[(.int .i64 0), (.int .i64 0), (.int .i64 0), (.int .i64 0)]) 32 rfl Try.underlying42 info23 rfl (by decide) (by omega) u12 Be (⟨wrap64 (az + qj), aC, 1, aG⟩ : bC) [.int .i64 (wrap64 (az + qj)), .int .i64 aC, .int .i64 1, .int .i64 aG] (fun k_ => (w.heap.size ≤ k_) ∧ some k_ ≠ (vI : Value).ownBlock ∧ some k_ ≠ (u11 : Value).ownBlock ∧ k_ ≠ fB) (fun _ => False) rfl rfl ?aP (fun _ hk => hk.elim) ?aF ?aO ?aB ?aS ?aL ?_; (case aP => exact qV _ _ _ (⟨wrap64 (az + qj), aC, 1, aG⟩ : bC)); (case aB => exact (by repeat ((with_reducible exact HB.out)))); (case aF => exact (fun k_ hk => ⟨(Nat.le_trans (aY (by repeat ((with_reducible exact HB.out)))) hk), Kd.fresh' (Kd.lX kS.out) k_ hk, Kd.fresh' (Kd.lX fE.out) k_ hk, Kd.jM bI.out k_ hk⟩)); (case aO => exact fP.out); (case aS => exact (aY (by repeat ((with_reducible exact HB.out))))); (case aL => have := amk.out; omega); intro awL w35 ho hb hg hat; rw [← amB.out] at ho; have al0 := ae.mk (ho); replace kS := ae.mk (Kd.qy (ok := (fun k_ => (w.heap.size ≤ k_) ∧ some k_ ≠ (u11 : Value).ownBlock ∧ k_ ≠ fB)) (by exact Kd.cZ kS.out (fun _ hk => ⟨⟨hk.1, ⟨hk.2.1, hk.2.2.2⟩⟩, hk.2.2.1⟩)) hg hat); replace fE := ae.mk (Kd.qy (ok := (fun k_ => (w.heap.size ≤ k_) ∧ some k_ ≠ (vI : Value).ownBlock ∧ k_ ≠ fB)) (by exact Kd.cZ fE.out (fun _ hk => ⟨⟨hk.1, ⟨hk.2.1, hk.2.2.2⟩⟩, hk.2.2.1⟩)) hg hat); replace bI := ae.mk (bZ bI.out hg (Kd.oU fP.out (fun _ hk => hk.2.2.2))); replace HB := ae.mk (hb); clear fP; clear ho hb hg hat))
             go_meet
             case rel => exact ⟨_, (alD), (wrap64 (qj + 1)), (by rfl), H', ⟨by have := Ic.out; have := EO.out; have := zl.out; omega⟩, ⟨by exact Kd.cZ kS.out (fun _ hk => ⟨hk.1.1, ⟨hk.1.2.1, ⟨hk.2, hk.1.2.2⟩⟩⟩)⟩, ⟨by exact Kd.cZ fE.out (fun _ hk => ⟨hk.1.1, ⟨hk.1.2.1, ⟨hk.2, hk.1.2.2⟩⟩⟩)⟩, ⟨by exact al0.out⟩, ⟨by exact bI.out⟩, ⟨by repeat ((with_reducible exact HB.out))⟩⟩
            ·rw [if_neg c33] at H
             exact absurd H (by simp)
           ·rw [if_neg c32] at H
            have ane : (a1 == 1) = false := beq_eq_false_iff_ne.mpr c32
            have anf : (a1 != 1) = true := bne_iff_ne.mpr c32
            by_cases Nv : Be.length < 4398046511104
            ·rw [if_pos Nv] at H
             have aml := ae.mk Nv
             clear Nv
             obtain ⟨alE, Y3⟩ : ∃ y_ : List (bC), y_ = (Be ++ [(⟨az, wrap64 (aC + qj), aA, 1⟩ : bC)]) := ⟨_, rfl⟩
             replace H : (aJ.j3 k3 a1 l2 kP nD qN alE (wrap64 (qj + 1)) dF (l2.length : Int) dF az aC aA aG) = some (r1, r2, r3) := by (rw [Y3]; with_reducible exact H)
             have amC := ae.mk Y3
             clear Y3
             have H' := ae.mk H
             clear H
             have agJ : wr.cell? ⟨fB, 0, none⟩ = some (.int .i64 az) := (af bI.out 0).trans rfl
             have agK : wr.cell? ⟨fB, 1, none⟩ = some (.int .i64 aC) := (af bI.out 1).trans rfl
             have agL : wr.cell? ⟨fB, 2, none⟩ = some (.int .i64 aA) := (af bI.out 2).trans rfl
             have agM : wr.cell? ⟨fB, 3, none⟩ = some (.int .i64 aG) := (af bI.out 3).trans rfl
             have ahw := ag bI.out 0
             have ahx := ag bI.out 1
             have ahy := ag bI.out 2
             have ahz := ag bI.out 3
             go_wp2_with (((with_reducible refine ji (b := .append) (xs := #[.tmp 63, .tmp 73]) rfl ?_); (try (refine eQ (by rfl) ?_; dsimp only)); at_builtin; refine Kd.oG k23 (w0 := w) w.heap.size rfl (.tmp 63) (.tmp 73) 42 23 (.agg #[(.int .i64 0), (.int .i64 0), (.int .i64 0), (.int .i64 0)]) 32 rfl Try.underlying42 info23 rfl (by decide) (by omega) u12 Be (⟨az, wrap64 (aC + qj), aA, 1⟩ : bC) [.int .i64 az, .int .i64 (wrap64 (aC + qj)), .int .i64 aA, .int .i64 1] (fun k_ => (w.heap.size ≤ k_) ∧ some k_ ≠ (vI : Value).ownBlock ∧ some k_ ≠ (u11 : Value).ownBlock ∧ k_ ≠ fB) (fun _ => False) rfl rfl ?aP (fun _ hk => hk.elim) ?aF ?aO ?aB ?aS ?aL ?_; (case aP => exact qV _ _ _ (⟨az, wrap64 (aC + qj), aA, 1⟩ : bC)); (case aB => exact (by repeat ((with_reducible exact HB.out)))); (case aF => exact (fun k_ hk => ⟨(Nat.le_trans (aY (by repeat ((with_reducible exact HB.out)))) hk), Kd.fresh' (Kd.lX kS.out) k_ hk, Kd.fresh' (Kd.lX fE.out) k_ hk, Kd.jM bI.out k_ hk⟩)); (case aO => exact fP.out); (case aS => exact (aY (by repeat ((with_reducible exact HB.out))))); (case aL => have := aml.out; omega); intro awM w38 ho hb hg hat; rw [← amC.out] at ho; have al1 := ae.mk (ho); replace kS := ae.mk (Kd.qy (ok := (fun k_ => (w.heap.size ≤ k_) ∧ some k_ ≠ (u11 : Value).ownBlock ∧ k_ ≠ fB)) (by exact Kd.cZ kS.out (fun _ hk => ⟨⟨hk.1, ⟨hk.2.1, hk.2.2.2⟩⟩, hk.2.2.1⟩)) hg hat); replace fE := ae.mk (Kd.qy (ok := (fun k_ => (w.heap.size ≤ k_) ∧ some k_ ≠ (vI : Value).ownBlock ∧ k_ ≠ fB)) (by exact Kd.cZ fE.out (fun _ hk => ⟨⟨hk.1, ⟨hk.2.1, hk.2.2.2⟩⟩, hk.2.2.1⟩)) hg hat); replace bI := ae.mk (bZ bI.out hg (Kd.oU fP.out (fun _ hk => hk.2.2.2))); replace HB := ae.mk (hb); clear fP; clear ho hb hg hat))
             go_meet
             case rel => exact ⟨_, (alE), (wrap64 (qj + 1)), (by rfl), H', ⟨by have := Ic.out; have := EO.out; have := zl.out; omega⟩, ⟨by exact Kd.cZ kS.out (fun _ hk => ⟨hk.1.1, ⟨hk.1.2.1, ⟨hk.2, hk.1.2.2⟩⟩⟩)⟩, ⟨by exact Kd.cZ fE.out (fun _ hk => ⟨hk.1.1, ⟨hk.1.2.1, ⟨hk.2, hk.1.2.2⟩⟩⟩)⟩, ⟨by exact al1.out⟩, ⟨by exact bI.out⟩, ⟨by repeat ((with_reducible exact HB.out))⟩⟩
            ·rw [if_neg Nv] at H
             exact absurd H (by simp)
          ·rw [if_neg c31] at H
           have Yx : decide (0 < dF) = false := decide_eq_false c31
           clear c31
           (rw [Yx])
           have H' := ae.mk H
           clear H
           go_wp2
           go_meet
           case rel => exact ⟨_, (Be), (qj), (by rfl), H', ⟨by have := Ic.out; have := EO.out; have := zl.out; omega⟩, ⟨by exact kS.out⟩, ⟨by exact fE.out⟩, ⟨by exact fP.out⟩, ⟨by exact bI.out⟩, ⟨by repeat ((with_reducible exact HB.out))⟩⟩
         case rest =>
          clear abX
          clear aeT
          obtain ⟨kq, xn, oD, rfl, HA, K_, kS, fE, fP, bI, HB⟩ := hcut
          cases kq with
          | zero => exact absurd HA.out (by simp [aJ.j3])
          | succ apj =>
           have H := HA.out
           clear HA
           simp only [aJ.j3] at H
           have abY := ae.mk H
           clear H
           go_upto_region 17 with (fail)
           go_cut [99] (fun v99 wc => ∃ (kq : Nat) (OA : Bool), v99 = .bool OA ∧ ae (aJ.j4 kq a1 l2 kP nD qN xn oD dF (l2.length : Int) dF OA az aC aA aG = some (r1, r2, r3)) ∧ ae (kq ≤ apj) ∧ ae (Kd.R k23 23 wc w.heap.size (fun k_ => (w.heap.size ≤ k_) ∧ some k_ ≠ (u11 : Value).ownBlock ∧ some k_ ≠ (u12 : Value).ownBlock ∧ k_ ≠ fB) vI kP) ∧ ae (Kd.R k23 23 wc w.heap.size (fun k_ => (w.heap.size ≤ k_) ∧ some k_ ≠ (vI : Value).ownBlock ∧ some k_ ≠ (u12 : Value).ownBlock ∧ k_ ≠ fB) u11 qN) ∧ ae (Kd.R k23 23 wc w.heap.size (fun k_ => (w.heap.size ≤ k_) ∧ some k_ ≠ (vI : Value).ownBlock ∧ some k_ ≠ (u11 : Value).ownBlock ∧ k_ ≠ fB) u12 xn) ∧ ae (wc.heap[fB]? = some (.cells #[.int .i64 az, .int .i64 aC, .int .i64 aA, .int .i64 aG] 23 (0, 0))) ∧ ae (Below w.heap.size w wc))
           case first =>
            have H := abY.out
            clear abY
            by_cases c40 : 0 ≤ dF
            ·rw [if_pos c40] at H
             have auV : decide (0 ≤ dF) = true := decide_eq_true c40
             clear c40
             (skip)
             by_cases c41 : dF < (l2.length : Int)
             ·rw [if_pos c41] at H
              have auW : decide (dF < (l2.length : Int)) = true := decide_eq_true c41
              clear c41
              by_cases VX : (rd l2 dF) < 1
              ·rw [if_pos VX] at H
               have anh : decide ((rd l2 dF) < 1) = true := decide_eq_true VX
               clear VX
               have H' := ae.mk H
               clear H
               have DC : 0 ≤ (dF : Int) := of_decide_eq_true (by (with_reducible assumption))
               have DJ : dF < (l2.length : Int) := of_decide_eq_true (by (with_reducible assumption))
               obtain ⟨Np, e311, uu⟩ := Kd.iU HR2.out dF DC DJ
               cases e311
               replace uu := (HB.out.cell (World.block_lt_of_cell? w _ uu)).trans uu
               replace DC := eq_true DC
               replace DJ := eq_true DJ
               go_wp2
               go_meet
               case rel => exact ⟨_, (true), (by rfl), H', ⟨by have := Ic.out; have := EO.out; have := zl.out; have := K_.out; omega⟩, ⟨by exact kS.out⟩, ⟨by exact fE.out⟩, ⟨by exact fP.out⟩, ⟨by exact bI.out⟩, ⟨by repeat ((with_reducible exact HB.out))⟩⟩
              ·rw [if_neg VX] at H
               have anh : decide ((rd l2 dF) < 1) = false := decide_eq_false VX
               clear VX
               by_cases VY : (rd l2 dF) > nD
               ·rw [if_pos VY] at H
                have ani : decide (nD < (rd l2 dF)) = true := decide_eq_true VY
                clear VY
                have H' := ae.mk H
                clear H
                have DC : 0 ≤ (dF : Int) := of_decide_eq_true (by (with_reducible assumption))
                have DJ : dF < (l2.length : Int) := of_decide_eq_true (by (with_reducible assumption))
                obtain ⟨Np, e311, uu⟩ := Kd.iU HR2.out dF DC DJ
                cases e311
                replace uu := (HB.out.cell (World.block_lt_of_cell? w _ uu)).trans uu
                replace DC := eq_true DC
                replace DJ := eq_true DJ
                have LH : 0 ≤ (dF : Int) := of_decide_eq_true (by (with_reducible assumption))
                have LW : dF < (l2.length : Int) := of_decide_eq_true (by (with_reducible assumption))
                obtain ⟨Yj, e312, Af⟩ := Kd.iU HR2.out dF LH LW
                obtain rfl : Np = Yj := (by injection e312)
                replace Af := (HB.out.cell (World.block_lt_of_cell? w _ Af)).trans Af
                replace LH := eq_true LH
                replace LW := eq_true LW
                go_wp2
                go_meet
                case rel => exact ⟨_, (true), (by rfl), H', ⟨by have := Ic.out; have := EO.out; have := zl.out; have := K_.out; omega⟩, ⟨by exact kS.out⟩, ⟨by exact fE.out⟩, ⟨by exact fP.out⟩, ⟨by exact bI.out⟩, ⟨by repeat ((with_reducible exact HB.out))⟩⟩
               ·rw [if_neg VY] at H
                have ani : decide (nD < (rd l2 dF)) = false := decide_eq_false VY
                clear VY
                have H' := ae.mk H
                clear H
                have DC : 0 ≤ (dF : Int) := of_decide_eq_true (by (with_reducible assumption))
                have DJ : dF < (l2.length : Int) := of_decide_eq_true (by (with_reducible assumption))
                obtain ⟨Np, e311, uu⟩ := Kd.iU HR2.out dF DC DJ
                cases e311
                replace uu := (HB.out.cell (World.block_lt_of_cell? w _ uu)).trans uu
                replace DC := eq_true DC
                replace DJ := eq_true DJ
                have LH : 0 ≤ (dF : Int) := of_decide_eq_true (by (with_reducible assumption))
                have LW : dF < (l2.length : Int) := of_decide_eq_true (by (with_reducible assumption))
                obtain ⟨Yj, e312, Af⟩ := Kd.iU HR2.out dF LH LW
                obtain rfl : Np = Yj := (by injection e312)
                replace Af := (HB.out.cell (World.block_lt_of_cell? w _ Af)).trans Af
                replace LH := eq_true LH
                replace LW := eq_true LW
                have adi : 0 ≤ (dF : Int) := of_decide_eq_true (by (with_reducible assumption))
                have ady : dF < (l2.length : Int) := of_decide_eq_true (by (with_reducible assumption))
                obtain ⟨am1, e313, PV⟩ := Kd.iU HR2.out dF adi ady
                obtain rfl : Np = am1 := (by injection e313)
                replace PV := (HB.out.cell (World.block_lt_of_cell? w _ PV)).trans PV
                replace adi := eq_true adi
                replace ady := eq_true ady
                go_wp2
                go_meet
                case rel => exact ⟨_, (decide ((wrap64 (oD + (rd l2 dF))) > nD)), (by rfl), H', ⟨by have := Ic.out; have := EO.out; have := zl.out; have := K_.out; omega⟩, ⟨by exact kS.out⟩, ⟨by exact fE.out⟩, ⟨by exact fP.out⟩, ⟨by exact bI.out⟩, ⟨by repeat ((with_reducible exact HB.out))⟩⟩
             ·rw [if_neg c41] at H
              exact absurd H (by simp)
            ·rw [if_neg c40] at H
             exact absurd H (by simp)
           case rest =>
            clear abY
            obtain ⟨kq, OA, rfl, HA, X9, kS, fE, fP, bI, HB⟩ := hcut
            cases kq with
            | zero => exact absurd HA.out (by simp [aJ.j4])
            | succ Qq =>
             have H := HA.out
             clear HA
             simp only [aJ.j4] at H
             by_cases c44 : OA = true
             ·subst c44
              have H1 : (some (kP, kP, false)) = some (r1, r2, r3) := by rw [if_pos rfl] at H; exact H
              clear H
              have H := H1
              clear H1
              simp only [Option.some.injEq, Prod.mk.injEq] at H
              obtain ⟨rfl, rfl, rfl⟩ := H
              go_wp2
              go_ret3
              exact ⟨_, _, by rfl, Kd.KH (by exact Kd.cZ kS.out (fun _ hk => hk.1)), Kd.KH (by exact Kd.cZ kS.out (fun _ hk => hk.1)), by repeat ((with_reducible exact HB.out))⟩
             ·replace c44 := Bool.eq_false_iff.mpr c44
              subst c44
              have H1 : (if a1 = 1 then (if 0 ≤ dF then (if dF < (l2.length : Int) then (if qN.length < 4398046511104 then (aJ.l0 Qq a1 l2 kP nD (qN ++ [(⟨wrap64 (az + oD), aC, rd l2 dF, aG⟩ : bC)]) xn (wrap64 (oD + (rd l2 dF))) (l2.length : Int) (wrap64 (dF + 1)) az aC aA aG) else (none)) else (none)) else (none)) else (if 0 ≤ dF then (if dF < (l2.length : Int) then (if qN.length < 4398046511104 then (aJ.l0 Qq a1 l2 kP nD (qN ++ [(⟨az, wrap64 (aC + oD), aA, rd l2 dF⟩ : bC)]) xn (wrap64 (oD + (rd l2 dF))) (l2.length : Int) (wrap64 (dF + 1)) az aC aA aG) else (none)) else (none)) else (none))) = some (r1, r2, r3) := by rw [if_neg (show ¬ (false = true) by decide)] at H; exact H
              clear H
              have H := H1
              clear H1
              by_cases TD : a1 = 1
              ·rw [if_pos TD] at H
               have anj : (a1 == 1) = true := beq_iff_eq.mpr TD
               have ank : (a1 != 1) = false := bne_eq_false_iff_eq.mpr TD
               clear TD
               by_cases c46 : 0 ≤ dF
               ·rw [if_pos c46] at H
                have auX : decide (0 ≤ dF) = true := decide_eq_true c46
                clear c46
                by_cases c47 : dF < (l2.length : Int)
                ·rw [if_pos c47] at H
                 have auY : decide (dF < (l2.length : Int)) = true := decide_eq_true c47
                 clear c47
                 by_cases c48 : qN.length < 4398046511104
                 ·rw [if_pos c48] at H
                  have amm := ae.mk c48
                  clear c48
                  obtain ⟨alF, Y4⟩ : ∃ y_ : List (bC), y_ = (qN ++ [(⟨wrap64 (az + oD), aC, rd l2 dF, aG⟩ : bC)]) := ⟨_, rfl⟩
                  replace H : (aJ.l0 Qq a1 l2 kP nD alF xn (wrap64 (oD + (rd l2 dF))) (l2.length : Int) (wrap64 (dF + 1)) az aC aA aG) = some (r1, r2, r3) := by (rw [Y4]; with_reducible exact H)
                  have amD := ae.mk Y4
                  clear Y4
                  have H' := ae.mk H
                  clear H
                  try go_wp2
                  replace kS := ae.mk (Kd.Fv kS.out); replace fE := ae.mk (Kd.Fv fE.out); replace fP := ae.mk (Kd.Fv fP.out); replace bI := ae.mk (tZ bI.out); replace HB := ae.mk (qP HB.out)
                  have adl : 0 ≤ (dF : Int) := of_decide_eq_true (by (with_reducible assumption))
                  have adz : dF < (l2.length : Int) := of_decide_eq_true (by (with_reducible assumption))
                  obtain ⟨aeG, e314, Gm⟩ := Kd.iU HR2.out dF adl adz
                  have yS := Gm
                  cases e314
                  replace Gm := (HB.out.cell (World.block_lt_of_cell? w _ Gm)).trans Gm
                  replace adl := eq_true adl
                  replace adz := eq_true adz
                  refine m_ (n := 17) (S := fun w' => w'.cell? ⟨fB, 0, none⟩ = some (.int .i64 az) ∧ w'.cell? ⟨fB, 1, none⟩ = some (.int .i64 aC) ∧ w'.cell? ⟨fB, 2, none⟩ = some (.int .i64 aA) ∧ w'.cell? ⟨fB, 3, none⟩ = some (.int .i64 aG) ∧ w'.cell? (aeG.add (dF).toNat) = some (.int .i64 (rd l2 dF))) (ds := []) #[false, false, false, false, false, false, false, false, false, false, false, false, false, false, false, false, false] (by kernel_rfl) rfl rfl ⟨(af bI.out 0).trans rfl, (af bI.out 1).trans rfl, (af bI.out 2).trans rfl, (af bI.out 3).trans rfl, ((HB.out.cell (World.block_lt_of_cell? w _ yS)).trans yS)⟩ (fun hHeld => ?_); refine jr aJ.aoa aJ.ajO (fun aW gX => ?_)
                  generalize wc.drew = w49 at kS fE fP bI HB Gm hHeld ⊢
                  refine eG (i := 0) (N := some 104) (v := ?_) (a' := ?_) #[true, false, false, false, false, false, false, false, false, false, false, false, false, false, false, false, false] rfl rfl (dO aW.out (by kernel_rfl)) (fun _ _ _ h => h) (Or.inl ⟨by rfl, ?_⟩) ?_ ?_
                  rotate_left
                  ·intro w'
                   go_simp
                   with_reducible rfl
                  rotate_left
                  ·simp only [Act.put, List.setIfInBounds_toArray, List.set_cons_zero, List.set_cons_succ, cO, b_]
                   rfl
                  refine eG (i := 1) (N := some 105) (v := ?_) (a' := ?_) #[true, true, false, false, false, false, false, false, false, false, false, false, false, false, false, false, false] rfl rfl (dO aW.out (by kernel_rfl)) (fun _ _ _ h => h) (Or.inl ⟨by rfl, ?_⟩) ?_ ?_
                  rotate_left
                  ·intro w'
                   go_simp
                   with_reducible rfl
                  rotate_left
                  ·simp only [Act.put, List.setIfInBounds_toArray, List.set_cons_zero, List.set_cons_succ, cO, b_]
                   rfl
                  refine eG (i := 3) (N := some 107) (v := ?_) (a' := ?_) #[true, true, false, true, false, false, false, false, false, false, false, false, false, false, false, false, false] rfl rfl (dO aW.out (by kernel_rfl)) (fun _ _ _ h => h) (Or.inl ⟨by rfl, ?_⟩) ?_ ?_
                  rotate_left
                  ·intro w'
                   go_simp
                   with_reducible rfl
                  rotate_left
                  ·simp only [Act.put, List.setIfInBounds_toArray, List.set_cons_zero, List.set_cons_succ, cO, b_]
                   rfl
                  refine eG (i := 5) (N := some 109) (v := ?_) (a' := ?_) #[true, true, false, true, false, true, false, false, false, false, false, false, false, false, false, false, false] rfl rfl (dO aW.out (by kernel_rfl)) (fun _ _ _ h => h) (Or.inl ⟨by rfl, ?_⟩) ?_ ?_
                  rotate_left
                  ·intro w'
                   go_simp
                   with_reducible rfl
                  rotate_left
                  ·simp only [Act.put, List.setIfInBounds_toArray, List.set_cons_zero, List.set_cons_succ, cO, b_]
                   rfl
                  refine eG (i := 7) (N := some 111) (v := ?_) (a' := ?_) #[true, true, false, true, false, true, false, true, false, false, false, false, false, false, false, false, false] rfl rfl (dO aW.out (by kernel_rfl)) (fun _ _ _ h => h) (Or.inl ⟨by rfl, ?_⟩) ?_ ?_
                  rotate_left
                  ·intro w'
                   go_simp
                   with_reducible rfl
                  rotate_left
                  ·simp only [Act.put, List.setIfInBounds_toArray, List.set_cons_zero, List.set_cons_succ, cO, b_]
                   rfl
                  refine eG (i := 8) (N := some 112) (v := ?_) (a' := ?_) #[true, true, false, true, false, true, false, true, true, false, false, false, false, false, false, false, false] rfl rfl (dO aW.out (by kernel_rfl)) (fun _ _ _ h => h) (Or.inl ⟨by rfl, ?_⟩) ?_ ?_
                  rotate_left
                  ·intro w'
                   go_simp
                   with_reducible rfl
                  rotate_left
                  ·simp only [Act.put, List.setIfInBounds_toArray, List.set_cons_zero, List.set_cons_succ, cO, b_]
                   rfl
                  refine eG (i := 9) (N := some 113) (v := ?_) (a' := ?_) #[true, true, false, true, false, true, false, true, true, true, false, false, false, false, false, false, false] rfl rfl (dO aW.out (by kernel_rfl)) (fun _ _ _ h => h) (Or.inl ⟨by rfl, ?_⟩) ?_ ?_
                  rotate_left
                  ·intro w'
                   go_simp
                   with_reducible rfl
                  rotate_left
                  ·simp only [Act.put, List.setIfInBounds_toArray, List.set_cons_zero, List.set_cons_succ, cO, b_]
                   rfl
                  refine eG (i := 11) (N := some 115) (v := ?_) (a' := ?_) #[true, true, false, true, false, true, false, true, true, true, false, true, false, false, false, false, false] rfl rfl (dO aW.out (by kernel_rfl)) (fun _ _ _ h => h) (Or.inl ⟨by rfl, ?_⟩) ?_ ?_
                  rotate_left
                  ·intro w'
                   go_simp
                   with_reducible rfl
                  rotate_left
                  ·simp only [Act.put, List.setIfInBounds_toArray, List.set_cons_zero, List.set_cons_succ, cO, b_]
                   rfl
                  refine mF (i := 2) (N := some 106) (v := ?_) (a' := ?_) #[true, true, true, true, false, true, false, true, true, true, false, true, false, false, false, false, false] rfl rfl (jd aW.out gX.out (by kernel_rfl)) (fun _ _ _ h => h) (Or.inl ⟨by rfl, ?_⟩) hHeld ?_ ?_
                  rotate_left
                  ·rintro w' ⟨s0, s1, s2, s3, s4⟩
                   go_simp
                   with_reducible rfl
                  rotate_left
                  ·simp only [Act.put, List.setIfInBounds_toArray, List.set_cons_zero, List.set_cons_succ, cO, b_]
                   rfl
                  refine eG (i := 4) (N := some 108) (v := ?_) (a' := ?_) #[true, true, true, true, true, true, false, true, true, true, false, true, false, false, false, false, false] rfl rfl (dO aW.out (by kernel_rfl)) (fun _ _ _ h => h) (Or.inl ⟨by rfl, ?_⟩) ?_ ?_
                  rotate_left
                  ·intro w'
                   go_simp
                   with_reducible rfl
                  rotate_left
                  ·simp only [Act.put, List.setIfInBounds_toArray, List.set_cons_zero, List.set_cons_succ, cO, b_]
                   rfl
                  refine mF (i := 6) (N := some 110) (v := ?_) (a' := ?_) #[true, true, true, true, true, true, true, true, true, true, false, true, false, false, false, false, false] rfl rfl (jd aW.out gX.out (by kernel_rfl)) (fun _ _ _ h => h) (Or.inl ⟨by rfl, ?_⟩) hHeld ?_ ?_
                  rotate_left
                  ·rintro w' ⟨s0, s1, s2, s3, s4⟩
                   go_simp
                   with_reducible rfl
                  rotate_left
                  ·simp only [Act.put, List.setIfInBounds_toArray, List.set_cons_zero, List.set_cons_succ, cO, b_]
                   rfl
                  refine mF (i := 10) (N := some 114) (v := ?_) (a' := ?_) #[true, true, true, true, true, true, true, true, true, true, true, true, false, false, false, false, false] rfl rfl (jd aW.out gX.out (by kernel_rfl)) (fun _ _ _ h => h) (Or.inl ⟨by rfl, ?_⟩) hHeld ?_ ?_
                  rotate_left
                  ·rintro w' ⟨s0, s1, s2, s3, s4⟩
                   go_simp
                   with_reducible rfl
                  rotate_left
                  ·simp only [Act.put, List.setIfInBounds_toArray, List.set_cons_zero, List.set_cons_succ, cO, b_]
                   rfl
                  refine mF (i := 12) (N := some 116) (v := ?_) (a' := ?_) #[true, true, true, true, true, true, true, true, true, true, true, true, true, false, false, false, false] rfl rfl (jd aW.out gX.out (by kernel_rfl)) (fun _ _ _ h => h) (Or.inl ⟨by rfl, ?_⟩) hHeld ?_ ?_
                  rotate_left
                  ·rintro w' ⟨s0, s1, s2, s3, s4⟩
                   go_simp
                   with_reducible rfl
                  rotate_left
                  ·simp only [Act.put, List.setIfInBounds_toArray, List.set_cons_zero, List.set_cons_succ, cO, b_]
                   rfl
                  refine eG (i := 13) (N := some 117) (v := ?_) (a' := ?_) #[true, true, true, true, true, true, true, true, true, true, true, true, true, true, false, false, false] rfl rfl (dO aW.out (by kernel_rfl)) (fun _ _ _ h => h) (Or.inl ⟨by rfl, ?_⟩) ?_ ?_
                  rotate_left
                  ·intro w'
                   go_simp
                   with_reducible rfl
                  rotate_left
                  ·simp only [Act.put, List.setIfInBounds_toArray, List.set_cons_zero, List.set_cons_succ, cO, b_]
                   rfl
                  refine jY (i := 14) (N := some 118) #[true, true, true, true, true, true, true, true, true, true, true, true, true, true, true, false, false] rfl rfl (eX aW.out (by kernel_rfl)) (by decide) (fun K hK => ?_)
                  refine Vh (w1 := ?_) (v := ?_) (by rfl) rfl ?_ ?_
                  rotate_left 2
                  ·go_simp
                   constructor
                   ·rfl
                   ·rfl
                  refine hK.out _ _ ⟨(af (uO bI.out _) 0).trans rfl, (af (uO bI.out _) 1).trans rfl, (af (uO bI.out _) 2).trans rfl, (af (uO bI.out _) 3).trans rfl, (World.cell?_alloc_lt _ _ _ (World.block_lt_of_cell? _ _ (((HB.out.cell (World.block_lt_of_cell? w _ yS)).trans yS)))).trans (((HB.out.cell (World.block_lt_of_cell? w _ yS)).trans yS))⟩ (fun hHeld => ?_)
                  clear hK K
                  refine qi (a' := ?_) ?_ ?_
                  rotate_left
                  ·show Act.put _ (some 118) _ = _
                   simp only [Act.put, List.setIfInBounds_toArray, List.set_cons_zero, List.set_cons_succ, cO, b_]
                   rfl
                  refine jY (i := 15) (N := some 119) #[true, true, true, true, true, true, true, true, true, true, true, true, true, true, true, true, false] rfl rfl (eX aW.out (by kernel_rfl)) (by decide) (fun K hK => ?_)
                  refine Kd.BM k23 (w0 := w) w.heap.size (by rfl) (.tmp 104) (.tmp 118) 42 23 (.agg #[(.int .i64 0), (.int .i64 0), (.int .i64 0), (.int .i64 0)]) 32 rfl Try.underlying42 info23 rfl (by decide) (by omega) u11 qN (⟨wrap64 (az + oD), aC, rd l2 dF, aG⟩ : bC) [.int .i64 (wrap64 (az + oD)), .int .i64 aC, .int .i64 (rd l2 dF), .int .i64 aG] (fun k_ => (w.heap.size ≤ k_) ∧ some k_ ≠ (vI : Value).ownBlock ∧ some k_ ≠ (u12 : Value).ownBlock ∧ k_ ≠ fB) (fun _ => False) rfl rfl ?aP (fun _ hk => hk.elim) ?aF ?aO ?aB ?aS ?aL ?_
                  (case aP => exact qV _ _ _ (⟨wrap64 (az + oD), aC, rd l2 dF, aG⟩ : bC))
                  (case aB => exact (by repeat ((with_reducible exact HB.out))))
                  (case aF => exact (fun k_ hk => ⟨(Nat.le_trans (aY (by repeat ((with_reducible exact HB.out)))) hk), Kd.fresh' (Kd.lX kS.out) k_ hk, Kd.fresh' (Kd.lX fP.out) k_ hk, Kd.jM bI.out k_ hk⟩))
                  (case aO => exact fE.out)
                  (case aS => exact (aY (by repeat ((with_reducible exact HB.out)))))
                  (case aL => have := amm.out; omega)
                  intro awN w50 ho hb hg hat
                  rw [← amD.out] at ho
                  have al2 := ae.mk (ho); replace kS := ae.mk (Kd.qy (ok := (fun k_ => (w.heap.size ≤ k_) ∧ some k_ ≠ (u12 : Value).ownBlock ∧ k_ ≠ fB)) (by exact Kd.cZ kS.out (fun _ hk => ⟨⟨hk.1, ⟨hk.2.2.1, hk.2.2.2⟩⟩, hk.2.1⟩)) hg hat); replace fP := ae.mk (Kd.qy (ok := (fun k_ => (w.heap.size ≤ k_) ∧ some k_ ≠ (vI : Value).ownBlock ∧ k_ ≠ fB)) (by exact Kd.cZ fP.out (fun _ hk => ⟨⟨hk.1, ⟨hk.2.1, hk.2.2.2⟩⟩, hk.2.2.1⟩)) hg hat); replace bI := ae.mk (bZ bI.out hg (Kd.oU fE.out (fun _ hk => hk.2.2.2))); replace HB := ae.mk (hb); clear fE
                  clear ho hb hg hat
                  refine hK.out _ _ ⟨(af bI.out 0).trans rfl, (af bI.out 1).trans rfl, (af bI.out 2).trans rfl, (af bI.out 3).trans rfl, ((HB.out.cell (World.block_lt_of_cell? w _ yS)).trans yS)⟩ (fun hHeld => ?_)
                  clear hK K
                  refine qi (a' := ?_) ?_ ?_
                  rotate_left
                  ·show Act.put _ (some 119) _ = _
                   simp only [Act.put, List.setIfInBounds_toArray, List.set_cons_zero, List.set_cons_succ, cO, b_]
                   rfl
                  refine eG (i := 16) (N := some 11) (v := ?_) (a' := ?_) #[true, true, true, true, true, true, true, true, true, true, true, true, true, true, true, true, true] rfl rfl (dO aW.out (by kernel_rfl)) (fun _ _ _ h => h) (Or.inl ⟨by rfl, ?_⟩) ?_ ?_
                  rotate_left
                  ·intro w'
                   go_simp
                   with_reducible rfl
                  rotate_left
                  ·simp only [Act.put, List.setIfInBounds_toArray, List.set_cons_zero, List.set_cons_succ, cO, b_]
                   rfl
                  refine oV (lh aW.out (by kernel_rfl)) ?_
                  have adm : 0 ≤ (dF : Int) := of_decide_eq_true (by (with_reducible assumption))
                  have adA : dF < (l2.length : Int) := of_decide_eq_true (by (with_reducible assumption))
                  obtain ⟨am2, e318, PW⟩ := Kd.iU HR2.out dF adm adA
                  obtain rfl : aeG = am2 := (by injection e318)
                  replace PW := (HB.out.cell (World.block_lt_of_cell? w _ PW)).trans PW
                  replace adm := eq_true adm
                  replace adA := eq_true adA
                  try go_wp2
                  go_roundg Qq
                  case measure => have := Ic.out; have := EO.out; have := zl.out; have := K_.out; have := X9.out; omega
                  case rel => exact ⟨(alF), (xn), (wrap64 (oD + (rd l2 dF))), (wrap64 (dF + 1)), (by rfl), (by rfl), H', ⟨by have := Ic.out; have := EO.out; have := zl.out; have := K_.out; have := X9.out; omega⟩, ⟨by exact Kd.cZ kS.out (fun _ hk => ⟨hk.1.1, ⟨hk.2, ⟨hk.1.2.1, hk.1.2.2⟩⟩⟩)⟩, ⟨by exact al2.out⟩, ⟨by exact Kd.cZ fP.out (fun _ hk => ⟨hk.1.1, ⟨hk.1.2.1, ⟨hk.2, hk.1.2.2⟩⟩⟩)⟩, ⟨by exact bI.out⟩, ⟨by repeat ((with_reducible exact HB.out))⟩⟩
                 ·rw [if_neg c48] at H
                  exact absurd H (by simp)
                ·rw [if_neg c47] at H
                 exact absurd H (by simp)
               ·rw [if_neg c46] at H
                exact absurd H (by simp)
              ·rw [if_neg TD] at H
               have anj : (a1 == 1) = false := beq_eq_false_iff_ne.mpr TD
               have ank : (a1 != 1) = true := bne_iff_ne.mpr TD
               by_cases c51 : 0 ≤ dF
               ·rw [if_pos c51] at H
                have auZ : decide (0 ≤ dF) = true := decide_eq_true c51
                clear c51
                by_cases c52 : dF < (l2.length : Int)
                ·rw [if_pos c52] at H
                 have au0 : decide (dF < (l2.length : Int)) = true := decide_eq_true c52
                 clear c52
                 by_cases c53 : qN.length < 4398046511104
                 ·rw [if_pos c53] at H
                  have amo := ae.mk c53
                  clear c53
                  obtain ⟨alG, Y5⟩ : ∃ y_ : List (bC), y_ = (qN ++ [(⟨az, wrap64 (aC + oD), aA, rd l2 dF⟩ : bC)]) := ⟨_, rfl⟩
                  replace H : (aJ.l0 Qq a1 l2 kP nD alG xn (wrap64 (oD + (rd l2 dF))) (l2.length : Int) (wrap64 (dF + 1)) az aC aA aG) = some (r1, r2, r3) := by (rw [Y5]; with_reducible exact H)
                  have amE := ae.mk Y5
                  clear Y5
                  have H' := ae.mk H
                  clear H
                  try go_wp2
                  replace kS := ae.mk (Kd.Fv kS.out); replace fE := ae.mk (Kd.Fv fE.out); replace fP := ae.mk (Kd.Fv fP.out); replace bI := ae.mk (tZ bI.out); replace HB := ae.mk (qP HB.out)
                  have adn : 0 ≤ (dF : Int) := of_decide_eq_true (by (with_reducible assumption))
                  have adB : dF < (l2.length : Int) := of_decide_eq_true (by (with_reducible assumption))
                  obtain ⟨aeH, aoW, Gn⟩ := Kd.iU HR2.out dF adn adB
                  have yT := Gn
                  cases aoW
                  replace Gn := (HB.out.cell (World.block_lt_of_cell? w _ Gn)).trans Gn
                  replace adn := eq_true adn
                  replace adB := eq_true adB
                  refine m_ (n := 17) (S := fun w' => w'.cell? ⟨fB, 0, none⟩ = some (.int .i64 az) ∧ w'.cell? ⟨fB, 1, none⟩ = some (.int .i64 aC) ∧ w'.cell? ⟨fB, 2, none⟩ = some (.int .i64 aA) ∧ w'.cell? ⟨fB, 3, none⟩ = some (.int .i64 aG) ∧ w'.cell? (aeH.add (dF).toNat) = some (.int .i64 (rd l2 dF))) (ds := []) #[false, false, false, false, false, false, false, false, false, false, false, false, false, false, false, false, false] (by kernel_rfl) rfl rfl ⟨(af bI.out 0).trans rfl, (af bI.out 1).trans rfl, (af bI.out 2).trans rfl, (af bI.out 3).trans rfl, ((HB.out.cell (World.block_lt_of_cell? w _ yT)).trans yT)⟩ (fun hHeld => ?_); refine jr aJ.aob aJ.ajP (fun aW gX => ?_)
                  generalize wc.drew = w54 at kS fE fP bI HB Gn hHeld ⊢
                  refine eG (i := 0) (N := some 120) (v := ?_) (a' := ?_) #[true, false, false, false, false, false, false, false, false, false, false, false, false, false, false, false, false] rfl rfl (dO aW.out (by kernel_rfl)) (fun _ _ _ h => h) (Or.inl ⟨by rfl, ?_⟩) ?_ ?_
                  rotate_left
                  ·intro w'
                   go_simp
                   with_reducible rfl
                  rotate_left
                  ·simp only [Act.put, List.setIfInBounds_toArray, List.set_cons_zero, List.set_cons_succ, cO, b_]
                   rfl
                  refine eG (i := 1) (N := some 121) (v := ?_) (a' := ?_) #[true, true, false, false, false, false, false, false, false, false, false, false, false, false, false, false, false] rfl rfl (dO aW.out (by kernel_rfl)) (fun _ _ _ h => h) (Or.inl ⟨by rfl, ?_⟩) ?_ ?_
                  rotate_left
                  ·intro w'
                   go_simp
                   with_reducible rfl
                  rotate_left
                  ·simp only [Act.put, List.setIfInBounds_toArray, List.set_cons_zero, List.set_cons_succ, cO, b_]
                   rfl
                  refine eG (i := 3) (N := some 123) (v := ?_) (a' := ?_) #[true, true, false, true, false, false, false, false, false, false, false, false, false, false, false, false, false] rfl rfl (dO aW.out (by kernel_rfl)) (fun _ _ _ h => h) (Or.inl ⟨by rfl, ?_⟩) ?_ ?_
                  rotate_left
                  ·intro w'
                   go_simp
                   with_reducible rfl
                  rotate_left
                  ·simp only [Act.put, List.setIfInBounds_toArray, List.set_cons_zero, List.set_cons_succ, cO, b_]
                   rfl
                  refine eG (i := 5) (N := some 125) (v := ?_) (a' := ?_) #[true, true, false, true, false, true, false, false, false, false, false, false, false, false, false, false, false] rfl rfl (dO aW.out (by kernel_rfl)) (fun _ _ _ h => h) (Or.inl ⟨by rfl, ?_⟩) ?_ ?_
                  rotate_left
                  ·intro w'
                   go_simp
                   with_reducible rfl
                  rotate_left
                  ·simp only [Act.put, List.setIfInBounds_toArray, List.set_cons_zero, List.set_cons_succ, cO, b_]
                   rfl
                  refine eG (i := 7) (N := some 127) (v := ?_) (a' := ?_) #[true, true, false, true, false, true, false, true, false, false, false, false, false, false, false, false, false] rfl rfl (dO aW.out (by kernel_rfl)) (fun _ _ _ h => h) (Or.inl ⟨by rfl, ?_⟩) ?_ ?_
                  rotate_left
                  ·intro w'
                   go_simp
                   with_reducible rfl
                  rotate_left
                  ·simp only [Act.put, List.setIfInBounds_toArray, List.set_cons_zero, List.set_cons_succ, cO, b_]
                   rfl
                  refine eG (i := 9) (N := some 129) (v := ?_) (a' := ?_) #[true, true, false, true, false, true, false, true, false, true, false, false, false, false, false, false, false] rfl rfl (dO aW.out (by kernel_rfl)) (fun _ _ _ h => h) (Or.inl ⟨by rfl, ?_⟩) ?_ ?_
                  rotate_left
                  ·intro w'
                   go_simp
                   with_reducible rfl
                  rotate_left
                  ·simp only [Act.put, List.setIfInBounds_toArray, List.set_cons_zero, List.set_cons_succ, cO, b_]
                   rfl
                  refine eG (i := 10) (N := some 130) (v := ?_) (a' := ?_) #[true, true, false, true, false, true, false, true, false, true, true, false, false, false, false, false, false] rfl rfl (dO aW.out (by kernel_rfl)) (fun _ _ _ h => h) (Or.inl ⟨by rfl, ?_⟩) ?_ ?_
                  rotate_left
                  ·intro w'
                   go_simp
                   with_reducible rfl
                  rotate_left
                  ·simp only [Act.put, List.setIfInBounds_toArray, List.set_cons_zero, List.set_cons_succ, cO, b_]
                   rfl
                  refine eG (i := 11) (N := some 131) (v := ?_) (a' := ?_) #[true, true, false, true, false, true, false, true, false, true, true, true, false, false, false, false, false] rfl rfl (dO aW.out (by kernel_rfl)) (fun _ _ _ h => h) (Or.inl ⟨by rfl, ?_⟩) ?_ ?_
                  rotate_left
                  ·intro w'
                   go_simp
                   with_reducible rfl
                  rotate_left
                  ·simp only [Act.put, List.setIfInBounds_toArray, List.set_cons_zero, List.set_cons_succ, cO, b_]
                   rfl
                  refine mF (i := 2) (N := some 122) (v := ?_) (a' := ?_) #[true, true, true, true, false, true, false, true, false, true, true, true, false, false, false, false, false] rfl rfl (jd aW.out gX.out (by kernel_rfl)) (fun _ _ _ h => h) (Or.inl ⟨by rfl, ?_⟩) hHeld ?_ ?_
                  rotate_left
                  ·rintro w' ⟨s0, s1, s2, s3, s4⟩
                   go_simp
                   with_reducible rfl
                  rotate_left
                  ·simp only [Act.put, List.setIfInBounds_toArray, List.set_cons_zero, List.set_cons_succ, cO, b_]
                   rfl
                  refine mF (i := 4) (N := some 124) (v := ?_) (a' := ?_) #[true, true, true, true, true, true, false, true, false, true, true, true, false, false, false, false, false] rfl rfl (jd aW.out gX.out (by kernel_rfl)) (fun _ _ _ h => h) (Or.inl ⟨by rfl, ?_⟩) hHeld ?_ ?_
                  rotate_left
                  ·rintro w' ⟨s0, s1, s2, s3, s4⟩
                   go_simp
                   with_reducible rfl
                  rotate_left
                  ·simp only [Act.put, List.setIfInBounds_toArray, List.set_cons_zero, List.set_cons_succ, cO, b_]
                   rfl
                  refine eG (i := 6) (N := some 126) (v := ?_) (a' := ?_) #[true, true, true, true, true, true, true, true, false, true, true, true, false, false, false, false, false] rfl rfl (dO aW.out (by kernel_rfl)) (fun _ _ _ h => h) (Or.inl ⟨by rfl, ?_⟩) ?_ ?_
                  rotate_left
                  ·intro w'
                   go_simp
                   with_reducible rfl
                  rotate_left
                  ·simp only [Act.put, List.setIfInBounds_toArray, List.set_cons_zero, List.set_cons_succ, cO, b_]
                   rfl
                  refine mF (i := 8) (N := some 128) (v := ?_) (a' := ?_) #[true, true, true, true, true, true, true, true, true, true, true, true, false, false, false, false, false] rfl rfl (jd aW.out gX.out (by kernel_rfl)) (fun _ _ _ h => h) (Or.inl ⟨by rfl, ?_⟩) hHeld ?_ ?_
                  rotate_left
                  ·rintro w' ⟨s0, s1, s2, s3, s4⟩
                   go_simp
                   with_reducible rfl
                  rotate_left
                  ·simp only [Act.put, List.setIfInBounds_toArray, List.set_cons_zero, List.set_cons_succ, cO, b_]
                   rfl
                  refine mF (i := 12) (N := some 132) (v := ?_) (a' := ?_) #[true, true, true, true, true, true, true, true, true, true, true, true, true, false, false, false, false] rfl rfl (jd aW.out gX.out (by kernel_rfl)) (fun _ _ _ h => h) (Or.inl ⟨by rfl, ?_⟩) hHeld ?_ ?_
                  rotate_left
                  ·rintro w' ⟨s0, s1, s2, s3, s4⟩
                   go_simp
                   with_reducible rfl
                  rotate_left
                  ·simp only [Act.put, List.setIfInBounds_toArray, List.set_cons_zero, List.set_cons_succ, cO, b_]
                   rfl
                  refine eG (i := 13) (N := some 133) (v := ?_) (a' := ?_) #[true, true, true, true, true, true, true, true, true, true, true, true, true, true, false, false, false] rfl rfl (dO aW.out (by kernel_rfl)) (fun _ _ _ h => h) (Or.inl ⟨by rfl, ?_⟩) ?_ ?_
                  rotate_left
                  ·intro w'
                   go_simp
                   with_reducible rfl
                  rotate_left
                  ·simp only [Act.put, List.setIfInBounds_toArray, List.set_cons_zero, List.set_cons_succ, cO, b_]
                   rfl
                  refine jY (i := 14) (N := some 134) #[true, true, true, true, true, true, true, true, true, true, true, true, true, true, true, false, false] rfl rfl (eX aW.out (by kernel_rfl)) (by decide) (fun K hK => ?_)
                  refine Vh (w1 := ?_) (v := ?_) (by rfl) rfl ?_ ?_
                  rotate_left 2
                  ·go_simp
                   constructor
                   ·rfl
                   ·rfl
                  refine hK.out _ _ ⟨(af (uO bI.out _) 0).trans rfl, (af (uO bI.out _) 1).trans rfl, (af (uO bI.out _) 2).trans rfl, (af (uO bI.out _) 3).trans rfl, (World.cell?_alloc_lt _ _ _ (World.block_lt_of_cell? _ _ (((HB.out.cell (World.block_lt_of_cell? w _ yT)).trans yT)))).trans (((HB.out.cell (World.block_lt_of_cell? w _ yT)).trans yT))⟩ (fun hHeld => ?_)
                  clear hK K
                  refine qi (a' := ?_) ?_ ?_
                  rotate_left
                  ·show Act.put _ (some 134) _ = _
                   simp only [Act.put, List.setIfInBounds_toArray, List.set_cons_zero, List.set_cons_succ, cO, b_]
                   rfl
                  refine jY (i := 15) (N := some 135) #[true, true, true, true, true, true, true, true, true, true, true, true, true, true, true, true, false] rfl rfl (eX aW.out (by kernel_rfl)) (by decide) (fun K hK => ?_)
                  refine Kd.BM k23 (w0 := w) w.heap.size (by rfl) (.tmp 120) (.tmp 134) 42 23 (.agg #[(.int .i64 0), (.int .i64 0), (.int .i64 0), (.int .i64 0)]) 32 rfl Try.underlying42 info23 rfl (by decide) (by omega) u11 qN (⟨az, wrap64 (aC + oD), aA, rd l2 dF⟩ : bC) [.int .i64 az, .int .i64 (wrap64 (aC + oD)), .int .i64 aA, .int .i64 (rd l2 dF)] (fun k_ => (w.heap.size ≤ k_) ∧ some k_ ≠ (vI : Value).ownBlock ∧ some k_ ≠ (u12 : Value).ownBlock ∧ k_ ≠ fB) (fun _ => False) rfl rfl ?aP (fun _ hk => hk.elim) ?aF ?aO ?aB ?aS ?aL ?_
                  (case aP => exact qV _ _ _ (⟨az, wrap64 (aC + oD), aA, rd l2 dF⟩ : bC))
                  (case aB => exact (by repeat ((with_reducible exact HB.out))))
                  (case aF => exact (fun k_ hk => ⟨(Nat.le_trans (aY (by repeat ((with_reducible exact HB.out)))) hk), Kd.fresh' (Kd.lX kS.out) k_ hk, Kd.fresh' (Kd.lX fP.out) k_ hk, Kd.jM bI.out k_ hk⟩))
                  (case aO => exact fE.out)
                  (case aS => exact (aY (by repeat ((with_reducible exact HB.out)))))
                  (case aL => have := amo.out; omega)
                  intro awO w55 ho hb hg hat
                  rw [← amE.out] at ho
                  have al3 := ae.mk (ho); replace kS := ae.mk (Kd.qy (ok := (fun k_ => (w.heap.size ≤ k_) ∧ some k_ ≠ (u12 : Value).ownBlock ∧ k_ ≠ fB)) (by exact Kd.cZ kS.out (fun _ hk => ⟨⟨hk.1, ⟨hk.2.2.1, hk.2.2.2⟩⟩, hk.2.1⟩)) hg hat); replace fP := ae.mk (Kd.qy (ok := (fun k_ => (w.heap.size ≤ k_) ∧ some k_ ≠ (vI : Value).ownBlock ∧ k_ ≠ fB)) (by exact Kd.cZ fP.out (fun _ hk => ⟨⟨hk.1, ⟨hk.2.1, hk.2.2.2⟩⟩, hk.2.2.1⟩)) hg hat); replace bI := ae.mk (bZ bI.out hg (Kd.oU fE.out (fun _ hk => hk.2.2.2))); replace HB := ae.mk (hb); clear fE
                  clear ho hb hg hat
                  refine hK.out _ _ ⟨(af bI.out 0).trans rfl, (af bI.out 1).trans rfl, (af bI.out 2).trans rfl, (af bI.out 3).trans rfl, ((HB.out.cell (World.block_lt_of_cell? w _ yT)).trans yT)⟩ (fun hHeld => ?_)
                  clear hK K
                  refine qi (a' := ?_) ?_ ?_
                  rotate_left
                  ·show Act.put _ (some 135) _ = _
                   simp only [Act.put, List.setIfInBounds_toArray, List.set_cons_zero, List.set_cons_succ, cO, b_]
                   rfl
                  refine eG (i := 16) (N := some 11) (v := ?_) (a' := ?_) #[true, true, true, true, true, true, true, true, true, true, true, true, true, true, true, true, true] rfl rfl (dO aW.out (by kernel_rfl)) (fun _ _ _ h => h) (Or.inl ⟨by rfl, ?_⟩) ?_ ?_
                  rotate_left
                  ·intro w'
                   go_simp
                   with_reducible rfl
                  rotate_left
                  ·simp only [Act.put, List.setIfInBounds_toArray, List.set_cons_zero, List.set_cons_succ, cO, b_]
                   rfl
                  refine oV (lh aW.out (by kernel_rfl)) ?_
                  have ado : 0 ≤ (dF : Int) := of_decide_eq_true (by (with_reducible assumption))
                  have adC : dF < (l2.length : Int) := of_decide_eq_true (by (with_reducible assumption))
                  obtain ⟨am3, e323, PX⟩ := Kd.iU HR2.out dF ado adC
                  obtain rfl : aeH = am3 := (by injection e323)
                  replace PX := (HB.out.cell (World.block_lt_of_cell? w _ PX)).trans PX
                  replace ado := eq_true ado
                  replace adC := eq_true adC
                  try go_wp2
                  go_roundg Qq
                  case measure => have := Ic.out; have := EO.out; have := zl.out; have := K_.out; have := X9.out; omega
                  case rel => exact ⟨(alG), (xn), (wrap64 (oD + (rd l2 dF))), (wrap64 (dF + 1)), (by rfl), (by rfl), H', ⟨by have := Ic.out; have := EO.out; have := zl.out; have := K_.out; have := X9.out; omega⟩, ⟨by exact Kd.cZ kS.out (fun _ hk => ⟨hk.1.1, ⟨hk.2, ⟨hk.1.2.1, hk.1.2.2⟩⟩⟩)⟩, ⟨by exact al3.out⟩, ⟨by exact Kd.cZ fP.out (fun _ hk => ⟨hk.1.1, ⟨hk.1.2.1, ⟨hk.2, hk.1.2.2⟩⟩⟩)⟩, ⟨by exact bI.out⟩, ⟨by repeat ((with_reducible exact HB.out))⟩⟩
                 ·rw [if_neg c53] at H
                  exact absurd H (by simp)
                ·rw [if_neg c52] at H
                 exact absurd H (by simp)
               ·rw [if_neg c51] at H
                exact absurd H (by simp)
        ·rw [if_neg c29] at H
         have aeT : decide (dF < (l2.length : Int)) = false := decide_eq_false c29
         clear c29
         by_cases TF : qj = nD
         ·rw [if_pos TF] at H
          have anl : (qj == nD) = true := beq_iff_eq.mpr TF
          have anm : (qj != nD) = false := bne_eq_false_iff_eq.mpr TF
          clear TF
          simp only [Option.some.injEq, Prod.mk.injEq] at H
          obtain ⟨rfl, rfl, rfl⟩ := H
          go_wp2
          go_ret3
          exact ⟨_, _, by rfl, Kd.KH (by exact Kd.cZ fE.out (fun _ hk => hk.1)), Kd.KH (by exact Kd.cZ fP.out (fun _ hk => hk.1)), by repeat ((with_reducible exact HB.out))⟩
         ·rw [if_neg TF] at H
          have anl : (qj == nD) = false := beq_eq_false_iff_ne.mpr TF
          have anm : (qj != nD) = true := bne_iff_ne.mpr TF
          simp only [Option.some.injEq, Prod.mk.injEq] at H
          obtain ⟨rfl, rfl, rfl⟩ := H
          go_wp2
          go_ret3
          exact ⟨_, _, by rfl, Kd.KH (by exact Kd.cZ kS.out (fun _ hk => hk.1)), Kd.KH (by exact Kd.cZ kS.out (fun _ hk => hk.1)), by repeat ((with_reducible exact HB.out))⟩
end Go.Proofs.Ytfdmfgaiblfbhaa.P
namespace Go.Proofs.Ytfdmfgaiblfbhaa.P
open Go.RowKit Go.Proofs.ai.bg Go.Proofs.ai.di Go.Proofs.ai.dG
attribute [local go_sem] kD kF lN lQ jF jG kE kG
attribute [local go_sem high] Sj
def mG.l0 : Nat → List (bC) → List (bC) → Int → Int → Option (Bool)
 | 0, _, _, _, _ => none
 | k + 1, x0, x1, x12, ny => if ny < x12 then (if 0 ≤ ny then (if ny < (x0.length : Int) then (if ny < (x1.length : Int) then (if (!(((fQ x0 ny).f0) == ((fQ x1 ny).f0)) || (!(((fQ x0 ny).f1) == ((fQ x1 ny).f1)) || (!(((fQ x0 ny).f2) == ((fQ x1 ny).f2)) || (!(((fQ x0 ny).f3) == ((fQ x1 ny).f3)))))) = true then (some false) else (mG.l0 k x0 x1 x12 (wrap64 (ny + 1)))) else (none)) else (none)) else (none)) else (some true)
def mG.f (k : Nat) (l0 : List (bC)) (l1 : List (bC)) : Option (Bool) := if (l0.length : Int) = (l1.length : Int) then (mG.l0 k l0 l1 (l0.length : Int) 0) else (some false)
end Go.Proofs.Ytfdmfgaiblfbhaa.P
namespace Go.Proofs.Ytfdmfgaiblfbhaa.P
open Go.RowKit Go.Proofs.ai.bg Go.Proofs.ai.di Go.Proofs.ai.dG
open Go.ChangeShapes Go.WideShapes Go.ChangeAt Go.Joins Go.Deep
def I64 (n : Int) : Prop := -9223372036854775808 ≤ n ∧ n ≤ 9223372036854775807
def U8 (n : Int) : Prop := 0 ≤ n ∧ n ≤ 255
def U16 (n : Int) : Prop := 0 ≤ n ∧ n ≤ 65535
def ZO (r : bC) : Prop := I64 r.f0 ∧ I64 r.f1 ∧ I64 r.f2 ∧ I64 r.f3
def axa (p : Nh) : Prop := I64 p.f0 ∧ ZO p.f1
def Kz : Nat → aI → Prop
 | 0, _ => False
 | n + 1, c => U8 c.f0 ∧ ZO c.f1 ∧ I64 c.f2 ∧ c.f3.length ≤ 9223372036854775807 ∧ ∀ k, k ∈ c.f3 → Kz n k
def alv (c : aI) : Prop := ∃ n, Kz n c
theorem Vm : ∀ {n m : Nat} (_ : n ≤ m) {c : aI}, Kz n c → Kz m c
 | 0, _, _, _, h => h.elim
 | n + 1, 0, hm, _, _ => absurd hm (by omega)
 | n + 1, m + 1, hm, _, h => ⟨h.1, h.2.1, h.2.2.1, h.2.2.2.1, fun k hk => Vm (by omega) (h.2.2.2.2 k hk)⟩
section
variable {H : Type} {enc : TypeId × Value → H} {P : Program} {w : World} {base : Nat} {spare : Nat → Bool} {held : Bool}
theorem row_of {α : Type} {Q : Nat → α → Prop} : ∀ (n : Nat), (∀ i, i < n → ∃ p, Q i p) → ∃ l : List α, l.length = n ∧ ∀ i p, l[i]? = some p → Q i p
 | 0, _ => ⟨[], rfl, fun i p h => by simp at h⟩
 | n + 1, h => by
  obtain ⟨l, hl, hq⟩ := row_of n fun i hi => h i (by omega)
  obtain ⟨p, hp⟩ := h n (by omega)
  refine ⟨l ++ [p], by simp [hl], fun i q hi => ?_⟩
  rcases Nat.lt_trichotomy i n with h1 | h1 | h1
  ·rw [List.getElem?_append_left (by omega)] at hi
   exact hq i q hi
  ·subst h1
   rw [List.getElem?_append_right (by omega), hl, Nat.sub_self] at hi
   obtain rfl : p = q := by simpa using hi
   exact hp
  ·rw [List.getElem?_eq_none (by simp; omega)] at hi
   cases hi
theorem cells_at {a : Addr} {n : Nat} {cs : List Value} (h : w.cells? base a n = some cs) : cs.length = n ∧ ∀ i u, cs[i]? = some u → w.cell? (a.add i) = some u := by
 obtain ⟨_, h1, h2⟩ := World.cells?_some h
 exact ⟨h1, fun i u hi => by
  have hlt : i < n := by rw [← h1]; exact (List.getElem?_eq_some_iff.1 hi).1
  rw [h2 i hlt, hi]⟩
end
section
variable {H : Type} {enc : TypeId × Value → H} {w : World} {base : Nat} {spare : Nat → Bool} {held : Bool}
theorem Jl {n : Int} (h : (Lit.int .i64 n).wf = true) : I64 n := by
 have := bounds_i64 h
 unfold I64
 omega
theorem aoc {n : Int} (h : (Lit.int .u8 n).wf = true) : U8 n := bounds_u8 h
theorem ajH {a : Array Value} {l : List Value} (h : (Value.agg a).cells.toList = l) : a = l.toArray := by
 subst h
 simp [Value.cells]
theorem cells23 : Try.prog.cellsOf 23 = 4 := by kernel_rfl
theorem cells26 : Try.prog.cellsOf 26 = 7 := by kernel_rfl
theorem cells3 : Try.prog.cellsOf 3 = 1 := by kernel_rfl
theorem cells5 : Try.prog.cellsOf 5 = 1 := by kernel_rfl
theorem cells24 : Try.prog.cellsOf 24 = 1 := by kernel_rfl
theorem ak5 {fuel : Nat} {cs : List Value} {x : DataW H × List MemPlace} (h : DataW.trod enc Try.prog w base spare held fuel 23 cs = some x) : ∃ r : bC, k23.K w r cs ∧ ZO r := by
 obtain ⟨y0, y1, y2, y3, n, _, hl, h0, h1, h2, h3⟩ := trod_struct4 Try.underlying23 h
 rw [cells23] at hl
 match cs, hl with
 | [c0, c1, c2, c3], _ =>
  simp only [cells3, List.drop_zero, List.take_succ_cons, List.take_zero, List.drop_succ_cons] at h0 h1 h2 h3
  obtain ⟨n0, e0, _, w0⟩ := DataW.trod_int Try.underlying3 h0
  obtain ⟨n1, e1, _, w1⟩ := DataW.trod_int Try.underlying3 h1
  obtain ⟨n2, e2, _, w2⟩ := DataW.trod_int Try.underlying3 h2
  obtain ⟨n3, e3, _, w3⟩ := DataW.trod_int Try.underlying3 h3
  simp only [List.cons.injEq, and_true] at e0 e1 e2 e3
  subst e0 e1 e2 e3
  exact ⟨⟨n0, n1, n2, n3⟩, UN w ⟨n0, n1, n2, n3⟩, Jl w0, Jl w1, Jl w2, Jl w3⟩
end
end Go.Proofs.Ytfdmfgaiblfbhaa.P
namespace Go.Proofs.Ytfdmfgaiblfbhaa.P
open Go.RowKit Go.Proofs.ai.bg Go.Proofs.ai.di Go.Proofs.ai.dG
def tX (ax X Y : Int) : Int := if ax = 2 then Y else X
theorem Bd {ax : Int} (h : ax = 1 ∨ ax = 2) (X Y W H : Int) : jR.f X Y W H ax = some (tX ax X Y, tX ax Y X, tX ax W H, tX ax H W, true) := by
 unfold jR.f tX
 rcases h with rfl | rfl
 ·rfl
 ·rfl
def Df (ax X Y W H : Int) : Int → List Int → List bC
 | _, [] => []
 | off, n :: ns => (⟨tX ax (tX ax X Y + off) (tX ax Y X), tX ax (tX ax Y X) (tX ax X Y + off), tX ax n (tX ax H W), tX ax (tX ax H W) n⟩ : bC) :: Df ax X Y W H (off + n + 1) ns
theorem acu (ax X Y W H : Int) (hax : ax = 1 ∨ ax = 2) (hm : zF X Y W H = true) (sizes : List Int) (hl : sizes.length ≤ 20000) (hne : 0 < sizes.length) :
  ∀ (rest pre : List Int) (off : Int) (parts lines : List bC), pre ++ rest = sizes → 0 ≤ off → off ≤ 10000 → parts.length ≤ 20000 → lines.length ≤ 20000 → parts.length ≤ pre.length → lines.length ≤ pre.length →
  ∃ t : List bC × List bC × Bool, (t.1.length ≤ sizes.length ∧ t.2.1.length ≤ sizes.length) ∧ (t.2.2 = true → t.1 = parts ++ Df ax X Y W H (if pre.length = 0 then off else off + 1) rest ∧ off + rest.sum + (rest.length : Int) - (if pre.length = 0 then 1 else 0) = tX ax W H ∧ ∀ m, m ∈ rest → 1 ≤ m) ∧ Ev (fun k => bW.l0 k ax parts lines (tX ax X Y + off) sizes (sizes.length : Int) (pre.length : Int) (tX ax X Y) (tX ax Y X) (tX ax W H) (tX ax H W)) t ∧
   Ev (fun k => aJ.l0 k ax sizes [] (tX ax W H) parts lines off (sizes.length : Int) (pre.length : Int) X Y W H) t := by
 replace hm := Xt.1 hm
 have hb : 0 ≤ tX ax X Y ∧ 1 ≤ tX ax W H ∧ tX ax W H ≤ 10000 ∧ tX ax X Y + tX ax W H ≤ 10000 ∧ tX ax X Y ≤ 10000 := by
  unfold tX
  rcases hax with rfl | rfl
  ·rw [if_neg (by omega), if_neg (by omega)]; omega
  ·rw [if_pos rfl, if_pos rfl]; omega
 obtain ⟨b1, b2, b3, b4, b5⟩ := hb
 intro rest
 induction rest with
 | nil =>
  intro pre off parts lines he h0 h1 hp hq hp2 hq2
  have e : pre = sizes := by simpa using he
  rw [e] at hp2 hq2
  by_cases ho : off = tX ax W H
  ·refine ⟨(parts, lines, true), ⟨hp2, hq2⟩, fun _ => ⟨by simp [Df], by rw [if_neg (by rw [e]; omega)]; simp; omega, fun m hm => by cases hm⟩, Ev.step (fun k => ?_) (Ev.now _), Ev.step (fun k => ?_) (Ev.now _)⟩
   ·simp only [bW.l0]
    rw [if_neg (by rw [e]; omega), wq (by omega) (by omega), if_pos (by omega)]
   ·simp only [aJ.l0]
    rw [if_neg (by rw [e]; omega), if_pos ho]
  ·refine ⟨([], [], false), ⟨by simp, by simp⟩, fun h => absurd h (by simp), Ev.step (fun k => ?_) (Ev.now _), Ev.step (fun k => ?_) (Ev.now _)⟩
   ·simp only [bW.l0]
    rw [if_neg (by rw [e]; omega), wq (by omega) (by omega), if_neg (by omega)]
   ·simp only [aJ.l0]
    rw [if_neg (by rw [e]; omega), if_neg ho]
 | cons n rest ih =>
  intro pre off parts lines he h0 h1 hp hq hp2 hq2
  have hlen : sizes.length = pre.length + (rest.length + 1) := by rw [← he]; simp
  have hrd : rd sizes (pre.length : Int) = n := by rw [← he]; exact anV pre n rest
  have hi : (pre.length : Int) < (sizes.length : Int) := by omega
  have hi0 : (0 : Int) ≤ (pre.length : Int) := by omega
  have hpl : parts.length < 4398046511104 := Nat.lt_of_le_of_lt hp (by decide)
  have Oc : lines.length < 4398046511104 := Nat.lt_of_le_of_lt hq (by decide)
  have body : ∀ (off' : Int) (Bl : List bC), 0 ≤ off' → off' ≤ 10001 → Bl.length ≤ pre.length + 1 →
    ∃ t : List bC × List bC × Bool, (t.1.length ≤ sizes.length ∧ t.2.1.length ≤ sizes.length) ∧ (t.2.2 = true → t.1 = parts ++ Df ax X Y W H off' (n :: rest) ∧ off' + (n :: rest).sum + (rest.length : Int) = tX ax W H ∧ ∀ m, m ∈ n :: rest → 1 ≤ m) ∧ Ev (fun k => if n < 1 then (some (([] : List bC), ([] : List bC), false)) else (if n > tX ax W H - off' then (some (([] : List bC), ([] : List bC), false)) else
       (bW.l0 k ax (parts ++ [(⟨tX ax (tX ax X Y + off') (tX ax Y X), tX ax (tX ax Y X) (tX ax X Y + off'), tX ax n (tX ax H W), tX ax (tX ax H W) n⟩ : bC)]) Bl (tX ax X Y + (off' + n)) sizes (sizes.length : Int) ((pre ++ [n]).length : Int) (tX ax X Y) (tX ax Y X) (tX ax W H) (tX ax H W)))) t ∧
     Ev (fun k => aJ.j3 k ax sizes [] (tX ax W H) parts Bl off' (pre.length : Int) (sizes.length : Int) (pre.length : Int) X Y W H) t := by
   intro off' Bl g0 g1 g2
   by_cases hn : n < 1
   ·refine ⟨([], [], false), ⟨by simp, by simp⟩, fun h => absurd h (by simp), pM hn (Ev.now _), Ev.step (f := fun k => aJ.j4 k ax sizes [] (tX ax W H) parts Bl off' (pre.length : Int) (sizes.length : Int) (pre.length : Int) true X Y W H) (fun k => ?_) (Ev.step (fun k => ?_) (Ev.now _))⟩
    ·simp only [aJ.j3]
     rw [if_pos hi0, if_pos hi, hrd, if_pos hn]
    ·simp only [aJ.j4]
     rw [if_pos trivial]
   ·by_cases hn2 : n > tX ax W H - off'
    ·refine ⟨([], [], false), ⟨by simp, by simp⟩, fun h => absurd h (by simp), qZ hn (pM hn2 (Ev.now _)), Ev.step (f := fun k => aJ.j4 k ax sizes [] (tX ax W H) parts Bl off' (pre.length : Int) (sizes.length : Int) (pre.length : Int) true X Y W H) (fun k => ?_) (Ev.step (fun k => ?_) (Ev.now _))⟩
     ·simp only [aJ.j3]
      rw [if_pos hi0, if_pos hi, hrd, if_neg hn]
      by_cases hn3 : n > tX ax W H
      ·rw [if_pos hn3]
      ·rw [if_neg hn3, wq (by omega) (by omega), decide_eq_true (by omega)]
     ·simp only [aJ.j4]
      rw [if_pos trivial]
    ·obtain ⟨t, t0, tg, t1, t2⟩ := ih (pre ++ [n]) (off' + n) (parts ++ [(⟨tX ax (tX ax X Y + off') (tX ax Y X), tX ax (tX ax Y X) (tX ax X Y + off'), tX ax n (tX ax H W), tX ax (tX ax H W) n⟩ : bC)]) Bl (by simp [← he]) (by omega) (by omega) (by simp; omega) (by omega) (by simp; omega) (by simp; omega)
     refine ⟨t, t0, fun h => ?_, qZ hn (qZ hn2 t1), Ev.step (f := fun k => aJ.j4 k ax sizes [] (tX ax W H) parts Bl off' (pre.length : Int) (sizes.length : Int) (pre.length : Int) false X Y W H) (fun k => ?_) (Ev.step (fun k => ?_) t2)⟩
     ·obtain ⟨q1, q2, q3⟩ := tg h
      rw [if_neg (by simp)] at q1 q2
      refine ⟨by rw [q1, List.append_assoc]; rfl, by rw [List.sum_cons]; omega, fun m hm => ?_⟩
      rcases List.mem_cons.1 hm with rfl | hm
      ·omega
      ·exact q3 m hm
     ·simp only [aJ.j3]
      rw [if_pos hi0, if_pos hi, hrd, if_neg hn, if_neg (by omega), wq (by omega) (by omega), decide_eq_false (by omega)]
     ·have hi1 : wrap64 ((pre.length : Int) + 1) = ((pre ++ [n]).length : Int) := by rw [wq (by omega) (by omega)]; simp
      have ho1 : wrap64 (off' + n) = off' + n := wq (by omega) (by omega)
      simp only [aJ.j4]
      rw [if_neg (by simp)]
      simp only [if_pos hi0, if_pos hi, if_pos hpl, hrd, hi1, ho1]
      rcases hax with rfl | rfl
      ·rw [if_pos rfl, wq (by omega) (by omega)]
       simp [tX]
      ·rw [if_neg (by omega), wq (by omega) (by omega)]
       simp [tX]
  by_cases hz : (pre.length : Int) > 0
  ·obtain ⟨t, t0, tg, t1, t2⟩ := body (off + 1) (lines ++ [(⟨tX ax (tX ax X Y + off) (tX ax Y X), tX ax (tX ax Y X) (tX ax X Y + off), tX ax 1 (tX ax H W), tX ax (tX ax H W) 1⟩ : bC)]) (by omega) (by omega) (by simp; omega)
   have ho1 : wrap64 (tX ax X Y + off + 1) = tX ax X Y + (off + 1) := by rw [wq (by omega) (by omega)]; omega
   have ho2 : wrap64 (tX ax X Y + tX ax W H) = tX ax X Y + tX ax W H := wq (by omega) (by omega)
   have ho3 : wrap64 (tX ax X Y + tX ax W H - (tX ax X Y + (off + 1))) = tX ax W H - (off + 1) := by rw [wq (by omega) (by omega)]; omega
   have ho4 : wrap64 (off + 1) = off + 1 := wq (by omega) (by omega)
   refine ⟨t, t0, fun h => by obtain ⟨q1, q2, q3⟩ := tg h; rw [if_neg (by omega), if_neg (by omega)]; exact ⟨q1, by rw [List.length_cons]; omega, q3⟩, Ev.step (fun k => ?_) t1, Ev.step (fun k => ?_) t2⟩
   ·simp only [bW.l0]
    rw [if_pos hi, if_pos hi0, if_pos hi, if_pos hz, Bd hax]
    simp only [Option.bind_some]
    rw [if_pos Oc, hrd, ho1, ho2, ho3]
    by_cases hn : n < 1
    ·rw [if_pos hn, if_pos hn]
    ·rw [if_neg hn, if_neg hn]
     by_cases hn2 : n > tX ax W H - (off + 1)
     ·rw [if_pos hn2, if_pos hn2]
     ·have hi1 : wrap64 ((pre.length : Int) + 1) = ((pre ++ [n]).length : Int) := by rw [wq (by omega) (by omega)]; simp
      have Bj : wrap64 (tX ax X Y + (off + 1) + n) = tX ax X Y + (off + 1 + n) := by rw [wq (by omega) (by omega)]; omega
      rw [if_neg hn2, if_neg hn2, Bd hax]
      simp only [Option.bind_some]
      rw [if_pos hpl, hi1, Bj]
   ·simp only [aJ.l0]
    rw [if_pos hi, if_pos hz, ho4]
    rcases hax with rfl | rfl
    ·rw [if_pos rfl, if_pos Oc, wq (by omega) (by omega)]
     simp [tX]
    ·rw [if_neg (by omega), if_pos Oc, wq (by omega) (by omega)]
     simp [tX]
  ·obtain ⟨t, t0, tg, t1, t2⟩ := body off lines h0 (by omega) (by omega)
   have ho2 : wrap64 (tX ax X Y + tX ax W H) = tX ax X Y + tX ax W H := wq (by omega) (by omega)
   have ho3 : wrap64 (tX ax X Y + tX ax W H - (tX ax X Y + off)) = tX ax W H - off := by rw [wq (by omega) (by omega)]; omega
   refine ⟨t, t0, fun h => by obtain ⟨q1, q2, q3⟩ := tg h; rw [if_pos (by omega), if_pos (by omega)]; exact ⟨q1, by rw [List.length_cons]; omega, q3⟩, Ev.step (fun k => ?_) t1, Ev.step (fun k => ?_) t2⟩
   ·simp only [bW.l0]
    rw [if_pos hi, if_pos hi0, if_pos hi, if_neg hz, hrd, ho2, ho3]
    by_cases hn : n < 1
    ·rw [if_pos hn, if_pos hn]
    ·rw [if_neg hn, if_neg hn]
     by_cases hn2 : n > tX ax W H - off
     ·rw [if_pos hn2, if_pos hn2]
     ·have hi1 : wrap64 ((pre.length : Int) + 1) = ((pre ++ [n]).length : Int) := by rw [wq (by omega) (by omega)]; simp
      have Bj : wrap64 (tX ax X Y + off + n) = tX ax X Y + (off + n) := by rw [wq (by omega) (by omega)]; omega
      rw [if_neg hn2, if_neg hn2, Bd hax]
      simp only [Option.bind_some]
      rw [if_pos hpl, hi1, Bj]
   ·simp only [aJ.l0]
    rw [if_pos hi, if_neg hz]
theorem U9 (xs : List bC) (hl : xs.length ≤ 9223372036854775807) : Ev (fun k => mG.f k xs xs) true := by
 have key : ∀ (d i : Nat), i + d = xs.length → Ev (fun k => mG.l0 k xs xs (xs.length : Int) (i : Int)) true := by
  intro d
  induction d with
  | zero =>
   intro i hi
   refine Ev.step (fun k => ?_) (Ev.now _)
   simp only [mG.l0]
   rw [if_neg (by omega)]
  | succ d ih =>
   intro i hi
   have c1 : (i : Int) < (xs.length : Int) := by omega
   have c2 : (0 : Int) ≤ (i : Int) := by omega
   have c3 : wrap64 ((i : Int) + 1) = ((i + 1 : Nat) : Int) := by rw [wq (by omega) (by omega)]; omega
   refine Ev.step (fun k => ?_) (ih (i + 1) (by omega))
   simp only [mG.l0]
   simp only [if_pos c1, if_pos c2, c3]
   rw [if_neg (by simp)]
 refine Ev.congr (fun k => ?_) (key xs.length 0 (by omega))
 unfold mG.f
 rw [if_pos rfl]
 rfl
theorem afS : Ev (fun k => mX.f k) true := Ev.of (k := 30) (fun k => mX.mono k) (by decide +kernel)
end Go.Proofs.Ytfdmfgaiblfbhaa.P
namespace Go.Proofs.Ytfdmfgaiblfbhaa.P
open Go.RowKit Go.Proofs.ai.bg Go.Proofs.ai.di Go.Proofs.ai.dG
attribute [local go_sem] kD kF lN lQ jF jG kE kG
def w_.f (k : Nat) (az : Int) (aC : Int) (aA : Int) (aG : Int) (a1 : Int) (l2 : List Int) : Option (Bool) := if (l2.length : Int) > 100 then ((mX.f k).bind fun apm => (some apm)) else ((bW.f k az aC aA aG a1 l2).bind fun Yo => ((aJ.f k az aC aA aG a1 l2).bind fun Yp => (if (Yo.2.2 == Yp.2.2) = true then ((mG.f k Yo.1 Yp.1).bind fun apn => (if apn = true then ((mG.f k Yo.2.1 Yp.2.1).bind fun apo => (if apo = true then ((mX.f k).bind fun apq => (some apq)) else (some false))) else (some false))) else (some false))))
end Go.Proofs.Ytfdmfgaiblfbhaa.P
namespace Go.Proofs.Ytfdmfgaiblfbhaa.Pure
open Go.RowKit Go.Proofs.Ytfdmfgaiblfbhaa.P Go.Proofs.ai.bg Go.Proofs.ai.di Go.Proofs.ai.dG
theorem QX (X Y W H ax : Int) (hax : U8 ax) (sizes : List Int) (hl : sizes.length ≤ 20000) : ∃ t : List bC × List bC × Bool, (t.1.length ≤ sizes.length ∧ t.2.1.length ≤ sizes.length) ∧ (t.2.2 = true → (ax = 1 ∨ ax = 2) ∧ t.1 = Df ax X Y W H 0 sizes ∧ sizes.sum + (sizes.length : Int) - 1 = tX ax W H ∧ ∀ m, m ∈ sizes → 1 ≤ m) ∧ Ev (fun k => bW.f k X Y W H ax sizes) t ∧ Ev (fun k => aJ.f k X Y W H ax sizes) t := by
 have no1 : ∀ x y z u : Int, Ev (fun k => bW.j0 k ax sizes true x y z u) ([], [], false) := fun x y z u => by
  refine Ev.step (fun k => ?_) (Ev.now _)
  simp only [bW.j0]
  rw [if_pos trivial]
 have no2 : Ev (fun k => aJ.j0 k ax sizes [] true X Y W H) ([], [], false) := by
  refine Ev.step (fun k => ?_) (Ev.now _)
  simp only [aJ.j0]
  rw [if_pos trivial]
 have e2 : ∀ r, Ev (fun k => if zF X Y W H = true then (if ax < 1 then (aJ.j0 k ax sizes [] true X Y W H) else (if ax > 2 then (aJ.j0 k ax sizes [] true X Y W H) else (aJ.j0 k ax sizes [] ((sizes.length : Int) == 0) X Y W H))) else (aJ.j0 k ax sizes [] true X Y W H)) r → Ev (fun k => aJ.f k X Y W H ax sizes) r := fun r h => by
  refine Ev.congr (fun k => ?_) h
  unfold aJ.f
  rw [KP]
  rfl
 unfold U8 at hax
 by_cases ha : ax = 1 ∨ ax = 2
 ·have e1 : ∀ r, Ev (fun k => if zF X Y W H = true then (bW.j0 k ax sizes ((sizes.length : Int) == 0) (tX ax X Y) (tX ax Y X) (tX ax W H) (tX ax H W)) else (bW.j0 k ax sizes true (tX ax X Y) (tX ax Y X) (tX ax W H) (tX ax H W))) r → Ev (fun k => bW.f k X Y W H ax sizes) r := fun r h => by
   refine Ev.congr (fun k => ?_) h
   unfold bW.f
   rw [Bd ha]
   simp only [Option.bind_some]
   rw [if_pos trivial, UT]
   rfl
  by_cases hm : zF X Y W H = true
  ·by_cases hs : sizes = []
   ·subst hs
    exact ⟨([], [], false), ⟨by simp, by simp⟩, fun h => absurd h (by simp), e1 _ (pM hm (no1 _ _ _ _)), e2 _ (pM hm (qZ (by omega) (qZ (by omega) no2)))⟩
   ·have hpos : 0 < sizes.length := List.length_pos_iff.2 hs
    have hz : ((sizes.length : Int) == 0) = false := by simp; exact hs
    obtain ⟨t, t0, tg, t1, t2⟩ := acu ax X Y W H ha hm sizes hl hpos sizes [] 0 [] [] rfl (by omega) (by omega) (by simp) (by simp) (by simp) (by simp)
    refine ⟨t, t0, fun h => by obtain ⟨q1, q2, q3⟩ := tg h; rw [if_pos List.length_nil] at q1 q2; exact ⟨ha, by simpa using q1, by omega, q3⟩, e1 _ (pM hm ?_), e2 _ (pM hm (qZ (by omega) (qZ (by omega) ?_)))⟩
    ·rw [hz]
     refine Ev.step (fun k => ?_) t1
     simp only [bW.j0]
     rw [if_neg (by simp), Int.add_zero]
     rfl
    ·rw [hz]
     refine Ev.step (f := fun k => aJ.j1 k ax sizes [] (tX ax W H) X Y W H) (fun k => ?_) (Ev.step (fun k => ?_) t2)
     ·simp only [aJ.j0]
      rw [if_neg (by simp)]
      rcases ha with rfl | rfl
      ·rw [if_neg (by omega)]; rfl
      ·rw [if_pos rfl]; rfl
     ·simp only [aJ.j1]
      rfl
  ·exact ⟨([], [], false), ⟨by simp, by simp⟩, fun h => absurd h (by simp), e1 _ (qZ hm (no1 _ _ _ _)), e2 _ (qZ hm no2)⟩
 ·refine ⟨([], [], false), ⟨by simp, by simp⟩, fun h => absurd h (by simp), Ev.congr (f := fun k => bW.j0 k ax sizes true 0 0 0 0) (fun k => ?_) (no1 _ _ _ _), e2 _ ?_⟩
  ·unfold bW.f jR.f
   rw [if_neg (by omega), if_neg (by omega)]
   rfl
  ·by_cases hm : zF X Y W H = true
   ·refine pM hm ?_
    by_cases h1 : ax < 1
    ·exact pM h1 no2
    ·exact qZ h1 (pM (by omega) no2)
   ·exact qZ hm no2
theorem RectCuts : ∀ (a0 : bC) (a1 : Int) (a2 : List Int), ZO a0 → U8 a1 → a2.length ≤ 9223372036854775807 → (∀ x, x ∈ a2 → I64 x) → ∃ k, w_.f k a0.f0 a0.f1 a0.f2 a0.f3 a1 a2 = some true := by
 intro r ax sizes _ hax _ _
 refine Ev.rounds (g := fun k => w_.f k r.f0 r.f1 r.f2 r.f3 ax sizes) ?_
 have aw : Ev (fun k => (mX.f k).bind fun t => some t) true := Ev.bind afS (Ev.now _)
 unfold w_.f
 by_cases h : (sizes.length : Int) > 100
 ·exact pM h aw
 ·refine qZ h ?_
  obtain ⟨t, ⟨l1, l2⟩, _, t1, t2⟩ := QX r.f0 r.f1 r.f2 r.f3 ax hax sizes (by omega)
  refine Ev.bind t1 (Ev.bind t2 (pM (by simp) ?_))
  exact Ev.bind (U9 _ (by omega)) (pM rfl (Ev.bind (U9 _ (by omega)) (pM rfl aw)))
end Go.Proofs.Ytfdmfgaiblfbhaa.Pure
namespace Go.Proofs.Ytfdmfgaiblfbhaa.P
open Go.RowKit Go.Proofs.ai.bg Go.Proofs.ai.di Go.Proofs.ai.dG
def Dh {α β : Type} (r : α → β → Bool) : List α → List β → Bool
 | a :: ta, b :: tb => r a b && Dh r ta tb
 | [], _ => true
 | _ :: _, [] => true
theorem akf {α β : Type} (r : α → β → Bool) (za : α) (zb : β) (la : List α) (lb : List β) (k : Nat) (ha : k < la.length) (hb : k < lb.length) :
  Dh r (la.drop k) (lb.drop k) = (r (la.getD (k : Int).toNat za) (lb.getD (k : Int).toNat zb) && Dh r (la.drop (k + 1)) (lb.drop (k + 1))) := by
 rw [List.drop_eq_getElem_cons ha, List.drop_eq_getElem_cons hb]
 simp only [Dh, Int.toNat_natCast, List.getD_eq_getElem?_getD, List.getElem?_eq_getElem ha, List.getElem?_eq_getElem hb, Option.getD_some]
theorem afX {α β : Type} (r : α → β → Bool) (lb : List β) : Dh r ([] : List α) lb = true := by cases lb <;> rfl
theorem akg (r : aI → bC → Bool) (g : Nat) (eg : ∀ args w, (callFunc g args).run Try.prog w = .ok (.enter g args) w) (la : List aI) (lb : List bC) (A B : Option Addr) (ca cb : Nat) (w : World) (hA : Kd.C k26 w A la.length la) (hB : Kd.C k23 w B lb.length lb)
  (hcall : ∀ W (x : aI) (X : Option Addr) (cx : Nat) (y : bC), x ∈ la → Below w.heap.size w W → Kd.C k26 w X x.f3.length x.f3 → x.f3.length ≤ cx → Calls Try.prog g #[.agg #[.int .u8 x.f0, .int .i64 x.f1.f0, .int .i64 x.f1.f1, .int .i64 x.f1.f2, .int .i64 x.f1.f3, .int .i64 x.f2, .slice X x.f3.length cx], .agg #[.int .i64 y.f0, .int .i64 y.f1, .int .i64 y.f2, .int .i64 y.f3]] W fun e w' => e = .returned (.bool (r x y)) ∧ Below W.heap.size W w') :
  Calls Try.prog 211 #[.slice A la.length ca, .slice B lb.length cb, .func (.func g) #[] #[]] w fun e w' => e = .returned (.bool (la.length == lb.length && Dh r la lb)) ∧ Below w.heap.size w w' := by
 have HA := ae.mk hA
 have HLB := ae.mk hB
 have HC := ae.mk hcall
 have HB := ae.mk (Below.refl w.heap.size w)
 have HL := ae.mk (show la.length ≤ 9223372036854775807 from hA.2.1)
 clear hA hB hcall
 by_cases hl : la.length = lb.length
 ·have hl1 : ((la.length : Int) != (lb.length : Int)) = false := by simp [hl]
  have hl2 : (la.length == lb.length) = true := by simp [hl]
  rw [hl2, Bool.true_and]
  have HE := ae.mk hl
  clear hl hl2
  go_enter Try.func211, Try.ntmps211
  go_wp2
  go_loopg [17] la.length (fun gg v17 wr => ∃ (kk : Nat), kk ≤ la.length ∧ la.length - kk ≤ gg ∧ v17 = .int .i64 kk ∧ ae (Dh r la lb = Dh r (la.drop kk) (lb.drop kk)) ∧ ae (Below w.heap.size w wr))
  case atStart => exact ⟨0, Nat.zero_le _, by omega, rfl, ⟨by simp⟩, HB⟩
  case round =>
   clear HB
   obtain ⟨kk, hkk, hgg, rfl, HS, HB⟩ := hrel
   by_cases hlt : kk < la.length
   ·have hltz : (kk : Int) < (la.length : Int) := by omega
    have apc : (kk : Int) < (lb.length : Int) := by have := HE.out; omega
    have hw : wrap64 ((kk : Int) + 1) = ((kk + 1 : Nat) : Int) := by unfold wrap64; have := HL.out; omega
    have HX := ae.mk (akf r z26 z23 la lb kk hlt (by omega))
    have hmem : au la (kk : Int) ∈ la := H9 z26 la kk hlt
    obtain ⟨cd, X, cx, rfl, c0, c1, c2, c3, c4, c5, c6, cl, cg⟩ := nV HA.out (kk : Int) (by omega) hltz
    obtain ⟨dd, rfl, d0, d1, d2, d3⟩ := Nq HLB.out (kk : Int) (by omega) apc
    simp only [Int.toNat_natCast] at c0 c1 c2 c3 c4 c5 c6 d0 d1 d2 d3
    replace c0 := (HB.out.cell (World.block_lt_of_cell? w _ c0)).trans c0
    replace c1 := (HB.out.cell (World.block_lt_of_cell? w _ c1)).trans c1
    replace c2 := (HB.out.cell (World.block_lt_of_cell? w _ c2)).trans c2
    replace c3 := (HB.out.cell (World.block_lt_of_cell? w _ c3)).trans c3
    replace c4 := (HB.out.cell (World.block_lt_of_cell? w _ c4)).trans c4
    replace c5 := (HB.out.cell (World.block_lt_of_cell? w _ c5)).trans c5
    replace c6 := (HB.out.cell (World.block_lt_of_cell? w _ c6)).trans c6
    have D0 := ae.mk d0
    have D1 := ae.mk d1
    have D2 := ae.mk d2
    have D3 := ae.mk d3
    clear d0 d1 d2 d3
    have HX := ae.mk (show Dh r (la.drop kk) (lb.drop kk) = (r (au la (kk : Int)) (fQ lb (kk : Int)) && Dh r (la.drop (kk + 1)) (lb.drop (kk + 1))) from HX.out)
    have cG := ae.mk cg
    have cL := ae.mk cl
    clear cg cl
    have HM := ae.mk hmem
    clear hmem
    generalize au la (kk : Int) = x at *
    generalize fQ lb (kk : Int) = y at *
    have HCx := ae.mk (fun W hW => HC.out W x X cx y HM.out hW cG.out cL.out )
    have HW := ae.mk hw
    have HKK := ae.mk (show kk + 1 ≤ la.length from hlt)
    have qO := ae.mk hgg
    clear hw hlt hgg hkk HM
    go_wp2_with (first | ((with_reducible refine aQ (N := 8) rfl ?_); refine aX ?hg (N := 8) ?hd (cs := #[.int .u8 0, .int .i64 0, .int .i64 0, .int .i64 0, .int .i64 0, .int .i64 0, .slice none 0 0]) (t := 26) ?hr ?_; (case hd => rfl); (case hg => rfl); (case hr => (go_simp; done)); intro b8 hg wb8 hbox hb; have K8 := ae.mk hbox; have G8 := ae.mk (show w.heap.size ≤ b8 by rw [hg]; exact HB.out.size); have q_ := ae.mk (aH HB.out hb); clear HB; have HB := q_; clear q_; clear hb hbox hg) | ((with_reducible refine sS (.store 26 (.tmp 8) (.tmp 21)) rfl ?_); go_loud (refine lY (w0 := w) rfl rfl 26 (.tmp 8) (.tmp 21) rfl (g := b8) (j := 0) (base := w.heap.size) #[.int .u8 x.f0, .int .i64 x.f1.f0, .int .i64 x.f1.f1, .int .i64 x.f1.f2, .int .i64 x.f1.f3, .int .i64 x.f2, .slice X x.f3.length cx] (u := .agg #[.int .u8 x.f0, .int .i64 x.f1.f0, .int .i64 x.f1.f1, .int .i64 x.f1.f2, .int .i64 x.f1.f3, .int .i64 x.f2, .slice X x.f3.length cx]) (dL := [.int .u8 x.f0, .int .i64 x.f1.f0, .int .i64 x.f1.f1, .int .i64 x.f1.f2, .int .i64 x.f1.f3, .int .i64 x.f2, .slice X x.f3.length cx]) ?sA ?sX rfl ?sT ?s1 K8.out ?sJ rfl HB.out HB.out.size G8.out ?_; (case sA => rfl); (case sX => rfl); (case sT => rfl); (case s1 => (simp [Value.oneCell'])); (case sJ => (simp)); intro ws8 hbk hbb hgg; clear K8 HB; have K8 := ae.mk hbk; have HB := ae.mk hbb; clear hbk hbb hgg; clear c0 c1 c2 c3 c4 c5 c6; have d0 := (HB.out.cell (World.block_lt_of_cell? w _ D0.out)).trans D0.out; have d1 := (HB.out.cell (World.block_lt_of_cell? w _ D1.out)).trans D1.out; have d2 := (HB.out.cell (World.block_lt_of_cell? w _ D2.out)).trans D2.out; have d3 := (HB.out.cell (World.block_lt_of_cell? w _ D3.out)).trans D3.out)) | ((with_reducible refine aQ (N := 9) rfl ?_); refine aX ?hg (N := 9) ?hd (cs := #[.int .i64 0, .int .i64 0, .int .i64 0, .int .i64 0]) (t := 23) ?hr ?_; (case hd => rfl); (case hg => rfl); (case hr => (go_simp; done)); intro b9 hg wb9 hbox hb; have K9 := ae.mk hbox; have G9 := ae.mk (show w.heap.size ≤ b9 by rw [hg]; exact HB.out.size); have NE := ae.mk (show b8 ≠ b9 by rw [hg]; exact Nat.ne_of_lt (eP K8.out)); have q8_ := ae.mk (aK K8.out hb); clear K8; have K8 := q8_; clear q8_; have q_ := ae.mk (aH HB.out hb); clear HB; have HB := q_; clear q_; clear hb hbox hg d0 d1 d2 d3) | ((with_reducible refine sS (.store 23 (.tmp 9) (.tmp 25)) rfl ?_); go_loud (refine lY (w0 := w) rfl rfl 23 (.tmp 9) (.tmp 25) rfl (g := b9) (j := 0) (base := w.heap.size) #[.int .i64 y.f0, .int .i64 y.f1, .int .i64 y.f2, .int .i64 y.f3] (u := .agg #[.int .i64 y.f0, .int .i64 y.f1, .int .i64 y.f2, .int .i64 y.f3]) (dL := [.int .i64 y.f0, .int .i64 y.f1, .int .i64 y.f2, .int .i64 y.f3]) ?sA ?sX rfl ?sT ?s1 K9.out ?sJ rfl HB.out HB.out.size G9.out ?_; (case sA => rfl); (case sX => rfl); (case sT => rfl); (case s1 => (simp [Value.oneCell'])); (case sJ => (simp)); intro ws9 hbk hbb hgg; have q8_ := ae.mk (bZ K8.out hgg (fun e_ => absurd (Option.some.inj e_) NE.out)); clear K8; have K8 := q8_; clear q8_; clear K9 HB; have K9 := ae.mk hbk; have HB := ae.mk hbb; clear hbk hbb hgg; have e0 := (af K8.out 0).trans rfl; have e1 := (af K8.out 1).trans rfl; have e2 := (af K8.out 2).trans rfl; have e3 := (af K8.out 3).trans rfl; have e4 := (af K8.out 4).trans rfl; have e5 := (af K8.out 5).trans rfl; have e6 := (af K8.out 6).trans rfl; have f0 := (af K9.out 0).trans rfl; have f1 := (af K9.out 1).trans rfl; have f2 := (af K9.out 2).trans rfl; have f3 := (af K9.out 3).trans rfl)))
    clear e0 e1 e2 e3 e4 e5 e6 f0 f1 f2 f3 K8 K9 NE G8 G9
    refine (HCx.out _ HB.out).mono ?_
    rintro e w' ⟨rfl, hb⟩
    have q_ := ae.mk (aH HB.out hb); clear HB; have HB := q_; clear q_
    clear hb
    cases hq : r x y with
    | true =>
     have HQ := ae.mk hq
     clear hq
     go_wp2
     go_roundg (la.length - (kk + 1))
     case measure => have h1 := qO.out; have h2 := HKK.out; omega
     case rel => exact ⟨kk + 1, HKK.out, Nat.le_refl _, (by rw [HW.out]), ⟨by rw [HS.out, HX.out, HQ.out, Bool.true_and]⟩, HB⟩
    | false =>
     have HQ := ae.mk hq
     clear hq
     go_wp2
     go_ret
     rw [HS.out, HX.out, HQ.out, Bool.false_and]
     exact ⟨rfl, HB.out⟩
   ·have hltz : ¬ (kk : Int) < (la.length : Int) := by omega
    go_wp2
    go_ret
    rw [HS.out, List.drop_eq_nil_of_le (by omega), afX]
    exact ⟨rfl, HB.out⟩
 ·have hl1 : ((la.length : Int) != (lb.length : Int)) = true := by simp; omega
  have hl2 : (la.length == lb.length) = false := by simp [hl]
  rw [hl2, Bool.false_and]
  clear hl hl2
  go_enter Try.func211, Try.ntmps211
  go_wp2
  go_ret
  exact ⟨rfl, HB.out⟩
mutual
def jh : aI → List aI
 | ⟨a, b, d, l⟩ => ⟨a, b, d, l⟩ :: allL l
def allL : List aI → List aI
 | [] => []
 | c :: cs => jh c ++ allL cs
end
theorem yH (c : aI) : jh c = c :: allL c.f3 := by cases c; simp [jh]
theorem uZ : allL [] = [] := by simp [allL]
theorem sO (c : aI) (cs : List aI) : allL (c :: cs) = jh c ++ allL cs := by simp [allL]
theorem GV (a b : List aI) : allL (a ++ b) = allL a ++ allL b := by
 induction a with
 | nil => simp [uZ]
 | cons x xs ih => rw [List.cons_append, sO, sO, ih, List.append_assoc]
def sz (c : aI) : Nat := (jh c).length
def jw (l : List aI) : Nat := (allL l).length
theorem gm (c : aI) : sz c = 1 + jw c.f3 := by unfold sz jw; rw [yH, List.length_cons]; omega
theorem vU : jw [] = 0 := by unfold jw; rw [uZ]; rfl
theorem gz (c : aI) (cs : List aI) : jw (c :: cs) = sz c + jw cs := by unfold jw sz; rw [sO, List.length_append]
theorem vT (a b : List aI) : jw (a ++ b) = jw a + jw b := by unfold jw; rw [GV, List.length_append]
theorem nN (l : List aI) : l.length ≤ jw l := by
 induction l with
 | nil => simp
 | cons x xs ih => rw [gz, List.length_cons, gm]; omega
theorem NI (c : aI) : (⟨c.f0, ⟨c.f1.f0, c.f1.f1, c.f1.f2, c.f1.f3⟩, c.f2, c.f3⟩ : aI) = c := by cases c; rfl
theorem aip (l : List aI) : jw l = (l.map sz).sum := by
 induction l with
 | nil => rw [vU]; rfl
 | cons x xs ih => rw [gz, List.map_cons, List.sum_cons, ih]
end Go.Proofs.Ytfdmfgaiblfbhaa.P
namespace Go.Proofs.Ytfdmfgaiblfbhaa.P
open Go.RowKit Go.Proofs.ai.bg Go.Proofs.ai.di Go.Proofs.ai.dG
attribute [local go_sem] kD kF lN lQ jF jG kE kG
mutual
def eH.l0 : Nat → Int → Int → Int → Int → Int → Int → Int → Int → Int → Int → List (aI) → Option (Int)
 | 0, _, _, _, _, _, _, _, _, _, _, _ => none
 | k + 1, x1, x5, x9, x10, aiy, aiz, aiA, aiB, aiC, aiD, xH => if x10 < x9 then (if x5 > x1 then (some x5) else (if 0 ≤ x10 then (if x10 < (xH.length : Int) then ((eH.f k ((au xH x10).f0) ((au xH x10).f1.f0) ((au xH x10).f1.f1) ((au xH x10).f1.f2) ((au xH x10).f1.f3) ((au xH x10).f2) ((au xH x10).f3) x1).bind fun t103 => (eH.l0 k x1 (wrap64 (x5 + t103)) x9 (wrap64 (x10 + 1)) aiy aiz aiA aiB aiC aiD xH)) else (none)) else (none))) else (some x5)
def eH.f : Nat → Int → Int → Int → Int → Int → Int → List (aI) → Int → Option (Int)
 | 0, _, _, _, _, _, _, _, _ => none
 | k + 1, az, aC, aA, aG, aT, aU, aj, a1 => eH.l0 k a1 1 (aj.length : Int) 0 az aC aA aG aT aU aj
end
theorem eH.calls (k : Nat) : ∀ (az : Int) (aC : Int) (aA : Int) (aG : Int) (aT : Int) (aU : Int) (bT : Option Addr) (bJ : Nat) (aj : List (aI)) (a1 : Int) (r : Int) (w : World) (kJ : Kd.C k26 w bT aj.length aj) (lq : aj.length ≤ bJ) (h : eH.f k az aC aA aG aT aU aj a1 = some r),
  Calls Try.prog 124 #[.agg #[.int .u8 az, .int .i64 aC, .int .i64 aA, .int .i64 aG, .int .i64 aT, .int .i64 aU, .slice bT aj.length bJ], .int .i64 a1] w fun e w' => e = .returned (.int .i64 r) ∧ Below w.heap.size w w' := by
 induction k using Nat.strongRecOn with
 | _ k ih =>
 intro az aC aA aG aT aU bT bJ aj a1 r w kJ lq h
 cases k with
 | zero => exact absurd h (by simp [eH.f])
 | succ k =>
 simp only [eH.f] at h
 have Ae := Try.underlying26
 have lF := ae.mk kJ
 clear kJ lq
 have HB := ae.mk (Below.refl w.heap.size w)
 have H : (eH.l0 k a1 1 (aj.length : Int) 0 az aC aA aG aT aU aj) = some r := h
 clear h
 have H' := ae.mk H
 clear H
 go_enter Try.func124, Try.ntmps124
 go_wp2_with (((with_reducible refine aQ (N := 2) rfl ?_); refine aX ?hg (N := 2) ?hd (cs := #[.int .u8 az, .int .i64 aC, .int .i64 aA, .int .i64 aG, .int .i64 aT, .int .i64 aU, .slice bT aj.length bJ]) (t := 26) ?hr ?_; (case hd => rfl); (case hg => rfl); (case hr => (go_simp; done)); intro vk hg w3 hbox hb; have lD := ae.mk (hbox); replace HB := ae.mk (aH (by repeat ((with_reducible exact HB.out))) hb); clear hb hbox hg; have II : w3.cell? ⟨vk, 0, none⟩ = some (.int .u8 az) := (af lD.out 0).trans rfl; have IJ : w3.cell? ⟨vk, 1, none⟩ = some (.int .i64 aC) := (af lD.out 1).trans rfl; have IK : w3.cell? ⟨vk, 2, none⟩ = some (.int .i64 aA) := (af lD.out 2).trans rfl; have IL : w3.cell? ⟨vk, 3, none⟩ = some (.int .i64 aG) := (af lD.out 3).trans rfl; have NQ : w3.cell? ⟨vk, 4, none⟩ = some (.int .i64 aT) := (af lD.out 4).trans rfl; have NR : w3.cell? ⟨vk, 5, none⟩ = some (.int .i64 aU) := (af lD.out 5).trans rfl; have NT : w3.cell? ⟨vk, 6, none⟩ = some (.slice bT aj.length bJ) := (af lD.out 6).trans rfl; have I7 := ag lD.out 0; have I8 := ag lD.out 1; have I9 := ag lD.out 2; have I_ := ag lD.out 3; have NZ := ag lD.out 4; have N7 := ag lD.out 5; have N8 := ag lD.out 6))
 go_loopg [5, 10] k (fun kq v5 v10 w' => ∃ (gV : Int) (gq : Int), v5 = .int .i64 gV ∧ v10 = .int .i64 gq ∧ ae (eH.l0 kq a1 gV (aj.length : Int) gq az aC aA aG aT aU aj = some r) ∧ ae (kq ≤ k) ∧ ae (w'.heap[vk]? = some (.cells #[.int .u8 az, .int .i64 aC, .int .i64 aA, .int .i64 aG, .int .i64 aT, .int .i64 aU, (.slice bT aj.length bJ)] 26 (0, 0))) ∧ ae (Below w.heap.size w w'))
 case atStart => exact ⟨(1), (0), (by rfl), (by rfl), H', ⟨Nat.le_refl _⟩, ⟨by exact lD.out⟩, ⟨by repeat ((with_reducible exact HB.out))⟩⟩
 case round =>
  clear H'
  clear II IJ IK IL NQ NR NT I7 I8 I9 I_ NZ N7 N8
  obtain ⟨gV, gq, rfl, rfl, HA, jI, lD, HB⟩ := hrel
  cases gk with
  | zero => exact absurd HA.out (by simp [eH.l0])
  | succ k1 =>
   have H := HA.out
   clear HA
   simp only [eH.l0] at H
   by_cases c5 : gq < (aj.length : Int)
   ·rw [if_pos c5] at H
    have ET : decide (gq < (aj.length : Int)) = true := decide_eq_true c5
    clear c5
    by_cases c6 : gV > a1
    ·rw [if_pos c6] at H
     have wS : decide (a1 < gV) = true := decide_eq_true c6
     clear c6
     obtain rfl := Option.some.inj H
     go_wp2
     go_ret
     exact ⟨by rfl, by repeat ((with_reducible exact HB.out))⟩
    ·rw [if_neg c6] at H
     have wS : decide (a1 < gV) = false := decide_eq_false c6
     clear c6
     by_cases c7 : 0 ≤ gq
     ·rw [if_pos c7] at H
      have t_ : decide (0 ≤ gq) = true := decide_eq_true c7
      clear c7
      by_cases c8 : gq < (aj.length : Int)
      ·rw [if_pos c8] at H
       have vZ : decide (gq < (aj.length : Int)) = true := decide_eq_true c8
       clear c8
       replace H := Option.bind_eq_some_iff.mp H
       obtain ⟨t103, ZX, H⟩ := H
       replace H : (eH.l0 k1 a1 (wrap64 (gV + t103)) (aj.length : Int) (wrap64 (gq + 1)) az aC aA aG aT aU aj) = some r := H
       have A9 := ae.mk ZX
       clear ZX
       have H' := ae.mk H
       clear H
       have JU : wr.cell? ⟨vk, 0, none⟩ = some (.int .u8 az) := (af lD.out 0).trans rfl
       have JV : wr.cell? ⟨vk, 1, none⟩ = some (.int .i64 aC) := (af lD.out 1).trans rfl
       have JW : wr.cell? ⟨vk, 2, none⟩ = some (.int .i64 aA) := (af lD.out 2).trans rfl
       have JX : wr.cell? ⟨vk, 3, none⟩ = some (.int .i64 aG) := (af lD.out 3).trans rfl
       have V9 : wr.cell? ⟨vk, 4, none⟩ = some (.int .i64 aT) := (af lD.out 4).trans rfl
       have V_ : wr.cell? ⟨vk, 5, none⟩ = some (.int .i64 aU) := (af lD.out 5).trans rfl
       have We : wr.cell? ⟨vk, 6, none⟩ = some (.slice bT aj.length bJ) := (af lD.out 6).trans rfl
       have J5 := ag lD.out 0
       have J6 := ag lD.out 1
       have J7 := ag lD.out 2
       have J8 := ag lD.out 3
       have WN := ag lD.out 4
       have WO := ag lD.out 5
       have WQ := ag lD.out 6
       have adh : 0 ≤ (gq : Int) := of_decide_eq_true (by (with_reducible assumption))
       have adx : gq < (aj.length : Int) := of_decide_eq_true (by (with_reducible assumption))
       obtain ⟨auN, aiU, ajR, aoT, PN, PO, PQ, PR, PS, PT, PU, Xn, Xl⟩ := nV lF.out gq adh adx
       cases aoT
       replace PN := (HB.out.cell (World.block_lt_of_cell? w _ PN)).trans PN
       replace PO := (HB.out.cell (World.block_lt_of_cell? w _ PO)).trans PO
       replace PQ := (HB.out.cell (World.block_lt_of_cell? w _ PQ)).trans PQ
       replace PR := (HB.out.cell (World.block_lt_of_cell? w _ PR)).trans PR
       replace PS := (HB.out.cell (World.block_lt_of_cell? w _ PS)).trans PS
       replace PT := (HB.out.cell (World.block_lt_of_cell? w _ PT)).trans PT
       replace PU := (HB.out.cell (World.block_lt_of_cell? w _ PU)).trans PU
       have afF := ae.mk Xl
       have afD := ae.mk Xn
       clear Xl Xn
       replace adh := eq_true adh
       replace adx := eq_true adx
       go_wp2_with (((with_reducible refine dn (f := 124) rfl ?_); refine gu (some 24) rfl rfl Try.func124 (by kernel_rfl) rfl #[.agg #[.int .u8 ((au aj gq).f0), .int .i64 ((au aj gq).f1.f0), .int .i64 ((au aj gq).f1.f1), .int .i64 ((au aj gq).f1.f2), .int .i64 ((au aj gq).f1.f3), .int .i64 ((au aj gq).f2), .slice aiU ((au aj gq).f3).length ajR], .int .i64 a1] rfl (by (try simp only [List.map_toArray, List.map_cons, List.map_nil]); rfl) ?_; (with_reducible refine (ih k1 (by have := jI.out; omega) ((au aj gq).f0) ((au aj gq).f1.f0) ((au aj gq).f1.f1) ((au aj gq).f1.f2) ((au aj gq).f1.f3) ((au aj gq).f2) _ _ ((au aj gq).f3) a1 t103 _ ?fO ?gG A9.out).mono ?_); (case fO => repeat (exact (Kd.iP afF.out HB.out))); (case gG => exact afD.out); rintro e D8 ⟨rfl, hb⟩; refine ⟨_, rfl, ?_⟩; replace lD := ae.mk (aK lD.out hb); replace HB := ae.mk (aH (by repeat ((with_reducible exact HB.out))) hb); (try clear hb)))
       go_roundg k1
       case measure => have := jI.out; omega
       case rel => exact ⟨(wrap64 (gV + t103)), (wrap64 (gq + 1)), (by rfl), (by rfl), H', ⟨by have := jI.out; omega⟩, ⟨by exact lD.out⟩, ⟨by repeat ((with_reducible exact HB.out))⟩⟩
      ·rw [if_neg c8] at H
       exact absurd H (by simp)
     ·rw [if_neg c7] at H
      exact absurd H (by simp)
   ·rw [if_neg c5] at H
    have ET : decide (gq < (aj.length : Int)) = false := decide_eq_false c5
    clear c5
    obtain rfl := Option.some.inj H
    go_wp2
    go_ret
    exact ⟨by rfl, by repeat ((with_reducible exact HB.out))⟩
def mZ.f (k : Nat) (az : Int) (aC : Int) (aA : Int) (aG : Int) (aT : Int) (aU : Int) (aj : List (aI)) : Option (Bool) := (eH.f k az aC aA aG aT aU aj 200).bind fun t105 => (some (decide (t105 > 200)))
theorem mZ.calls (k : Nat) (az : Int) (aC : Int) (aA : Int) (aG : Int) (aT : Int) (aU : Int) (bT : Option Addr) (bJ : Nat) (aj : List (aI)) (r : Bool) (w : World) (kJ : Kd.C k26 w bT aj.length aj) (lq : aj.length ≤ bJ) (h : mZ.f k az aC aA aG aT aU aj = some r) :
  Calls Try.prog 34 #[.agg #[.int .u8 az, .int .i64 aC, .int .i64 aA, .int .i64 aG, .int .i64 aT, .int .i64 aU, .slice bT aj.length bJ]] w fun e w' => e = .returned (.bool r) ∧ Below w.heap.size w w' := by
 have Ae := Try.underlying26
 have lF := ae.mk kJ
 have rM := ae.mk lq
 clear kJ lq
 have HB := ae.mk (Below.refl w.heap.size w)
 have H : ((eH.f k az aC aA aG aT aU aj 200).bind fun t105 => (some (decide (t105 > 200)))) = some r := h
 clear h
 replace H := Option.bind_eq_some_iff.mp H
 obtain ⟨t105, BU, H⟩ := H
 replace H : (some (decide (t105 > 200))) = some r := H
 have A2 := ae.mk BU
 clear BU
 obtain rfl := Option.some.inj H
 go_enter Try.func34, Try.ntmps34
 go_wp2_with (first | ((with_reducible refine aQ (N := 1) rfl ?_); refine aX ?hg (N := 1) ?hd (cs := #[.int .u8 az, .int .i64 aC, .int .i64 aA, .int .i64 aG, .int .i64 aT, .int .i64 aU, .slice bT aj.length bJ]) (t := 26) ?hr ?_; (case hd => rfl); (case hg => rfl); (case hr => (go_simp; done)); intro Hl hg w3 hbox hb; have uj := ae.mk (hbox); replace HB := ae.mk (aH (by repeat ((with_reducible exact HB.out))) hb); clear hb hbox hg; have II : w3.cell? ⟨Hl, 0, none⟩ = some (.int .u8 az) := (af uj.out 0).trans rfl; have IJ : w3.cell? ⟨Hl, 1, none⟩ = some (.int .i64 aC) := (af uj.out 1).trans rfl; have IK : w3.cell? ⟨Hl, 2, none⟩ = some (.int .i64 aA) := (af uj.out 2).trans rfl; have IL : w3.cell? ⟨Hl, 3, none⟩ = some (.int .i64 aG) := (af uj.out 3).trans rfl; have NQ : w3.cell? ⟨Hl, 4, none⟩ = some (.int .i64 aT) := (af uj.out 4).trans rfl; have NR : w3.cell? ⟨Hl, 5, none⟩ = some (.int .i64 aU) := (af uj.out 5).trans rfl; have NT : w3.cell? ⟨Hl, 6, none⟩ = some (.slice bT aj.length bJ) := (af uj.out 6).trans rfl; have I7 := ag uj.out 0; have I8 := ag uj.out 1; have I9 := ag uj.out 2; have I_ := ag uj.out 3; have NZ := ag uj.out 4; have N7 := ag uj.out 5; have N8 := ag uj.out 6) | ((with_reducible refine dn (f := 124) rfl ?_); refine gu (some 4) rfl rfl Try.func124 (by kernel_rfl) rfl #[.agg #[.int .u8 az, .int .i64 aC, .int .i64 aA, .int .i64 aG, .int .i64 aT, .int .i64 aU, .slice bT aj.length bJ], .int .i64 200] rfl (by (try simp only [List.map_toArray, List.map_cons, List.map_nil]); rfl) ?_; (with_reducible refine (eH.calls k az aC aA aG aT aU _ _ aj 200 t105 _ ?fO ?gG A2.out).mono ?_); (case fO => repeat (exact (Kd.iP lF.out HB.out))); (case gG => exact rM.out); rintro e w5 ⟨rfl, hb⟩; refine ⟨_, rfl, ?_⟩; replace uj := ae.mk (aK uj.out hb); replace HB := ae.mk (aH (by repeat ((with_reducible exact HB.out))) hb); (try clear hb)))
 go_ret
 exact ⟨by rfl, by repeat ((with_reducible exact HB.out))⟩
mutual
def dM.l0 : Nat → List (aI) → Int → Int → Int → Int → Int → Int → Int → Int → List (aI) → Option ((List (aI)))
 | 0, _, _, _, _, _, _, _, _, _, _ => none
 | k + 1, x3, x9, x10, aiE, aiF, aiG, aiH, aiI, aiJ, xJ => if x10 < x9 then (if 0 ≤ x10 then (if x10 < (xJ.length : Int) then ((dM.f k ((au xJ x10).f0) ((au xJ x10).f1.f0) ((au xJ x10).f1.f1) ((au xJ x10).f1.f2) ((au xJ x10).f1.f3) ((au xJ x10).f2) ((au xJ x10).f3)).bind fun t136 => (if x3.length + t136.length < 1954687338268 then (dM.l0 k (x3 ++ t136) x9 (wrap64 (x10 + 1)) aiE aiF aiG aiH aiI aiJ xJ) else (none))) else (none)) else (none)) else (some x3)
def dM.f : Nat → Int → Int → Int → Int → Int → Int → List (aI) → Option ((List (aI)))
 | 0, _, _, _, _, _, _, _ => none
 | k + 1, az, aC, aA, aG, aT, aU, aj => dM.l0 k (([(⟨az, (⟨aC, aA, aG, aT⟩ : bC), aU, aj⟩ : aI)] : List (aI))) (aj.length : Int) 0 az aC aA aG aT aU aj
end
theorem dM.calls (k : Nat) : ∀ (az : Int) (aC : Int) (aA : Int) (aG : Int) (aT : Int) (aU : Int) (jb : Nat → Prop) (bT : Option Addr) (bJ : Nat) (aj : List (aI)) (r : List (aI)) (w : World) (Kr : Kd.V k26 26 w w.heap.size (fun k_ => jb k_) (.slice bT aj.length bJ) aj) (h : dM.f k az aC aA aG aT aU aj = some r),
  Calls Try.prog 79 #[.agg #[.int .u8 az, .int .i64 aC, .int .i64 aA, .int .i64 aG, .int .i64 aT, .int .i64 aU, .slice bT aj.length bJ]] w fun e w' => ∃ ng : Value, e = .returned (ng) ∧ Kd.N k26 26 w' w.heap.size (fun k_ => (jb k_ ∨ w.heap.size ≤ k_)) ng r ∧ Below w.heap.size w w' := by
 induction k using Nat.strongRecOn with
 | _ k ih =>
 intro az aC aA aG aT aU jb bT bJ aj r w Kr h
 cases k with
 | zero => exact absurd h (by simp [dM.f])
 | succ k =>
 simp only [dM.f] at h
 have Ae := Try.underlying26
 have l9 := ae.mk (show Kd.V k26 26 w w.heap.size (fun k_ => (jb k_ ∨ w.heap.size ≤ k_)) (.slice bT aj.length bJ) aj from Kd.iT Kr (fun k_ hk => .inl hk))
 have HB := ae.mk (Below.refl w.heap.size w)
 have H : (dM.l0 k (([(⟨az, (⟨aC, aA, aG, aT⟩ : bC), aU, aj⟩ : aI)] : List (aI))) (aj.length : Int) 0 az aC aA aG aT aU aj) = some r := h
 clear h
 obtain ⟨aly, YT⟩ : ∃ y_ : List (aI), y_ = (([(⟨az, (⟨aC, aA, aG, aT⟩ : bC), aU, aj⟩ : aI)] : List (aI))) := ⟨_, rfl⟩
 replace H : (dM.l0 k aly (aj.length : Int) 0 az aC aA aG aT aU aj) = some r := by (rw [YT]; with_reducible exact H)
 have amr := ae.mk YT
 clear YT
 have H' := ae.mk H
 clear H
 go_enter Try.func79, Try.ntmps79
 go_wp2_with (first | ((with_reducible refine aQ (N := 1) rfl ?_); refine aX ?hg (N := 1) ?hd (cs := #[.int .u8 az, .int .i64 aC, .int .i64 aA, .int .i64 aG, .int .i64 aT, .int .i64 aU, .slice bT aj.length bJ]) (t := 26) ?hr ?_; (case hd => rfl); (case hg => rfl); (case hr => (go_simp; done)); intro kC hg w2 hbox hb; have iF := ae.mk (hbox); replace l9 := ae.mk (Kd.pF (Kd.wO l9.out kC (Nat.le_of_eq hg.symm)) hb); replace HB := ae.mk (aH (by repeat ((with_reducible exact HB.out))) hb); clear hb hbox hg; have TY : w2.cell? ⟨kC, 0, none⟩ = some (.int .u8 az) := (af iF.out 0).trans rfl; have TZ : w2.cell? ⟨kC, 1, none⟩ = some (.int .i64 aC) := (af iF.out 1).trans rfl; have T_ : w2.cell? ⟨kC, 2, none⟩ = some (.int .i64 aA) := (af iF.out 2).trans rfl; have Ua : w2.cell? ⟨kC, 3, none⟩ = some (.int .i64 aG) := (af iF.out 3).trans rfl; have Ub : w2.cell? ⟨kC, 4, none⟩ = some (.int .i64 aT) := (af iF.out 4).trans rfl; have Uc : w2.cell? ⟨kC, 5, none⟩ = some (.int .i64 aU) := (af iF.out 5).trans rfl; have Ud : w2.cell? ⟨kC, 6, none⟩ = some (.slice bT aj.length bJ) := (af iF.out 6).trans rfl; have Um := ag iF.out 0; have Un := ag iF.out 1; have Uo := ag iF.out 2; have Ur := ag iF.out 3; have Us := ag iF.out 4; have Ut := ag iF.out 5; have Uu := ag iF.out 6) | ((with_reducible refine aQ (N := 6) rfl ?_); refine Kd.BZ k26 _ 26 ?hg (N' := 6) ?hd (xs := ([(⟨az, (⟨aC, aA, aG, aT⟩ : bC), aU, aj⟩ : aI)] : List (aI))) (inner := [.int .u8 az, .int .i64 aC, .int .i64 aA, .int .i64 aG, .int .i64 aT, .int .i64 aU, .slice bT aj.length bJ]) (ok := (fun k_ => (jb k_ ∨ w.heap.size ≤ k_) ∧ k_ ≠ kC)) (iO := (fun k_ => (jb k_ ∨ w.heap.size ≤ k_) ∧ k_ ≠ kC)) ?hr ?hp (fun _ hk => hk) ((show ∀ k_, w2.heap.size ≤ k_ → (fun k_ => (jb k_ ∨ w.heap.size ≤ k_) ∧ k_ ≠ kC) k_ from fun k_ hk => ⟨(.inr (Nat.le_trans (aY (by repeat ((with_reducible exact HB.out)))) hk)), Kd.jM iF.out k_ hk⟩) _ (Nat.le_refl _)) (Below.refl _ _) (Nat.le_refl _) (by simp) ?_; (case hd => rfl); (case hg => rfl); (case hr => (go_simp; done)); (case hp => exact (dB.c7 (show Kd.FK k26 _ _ (⟨az, (⟨aC, aA, aG, aT⟩ : bC), aU, aj⟩ : aI) [.int .u8 az, .int .i64 aC, .int .i64 aA, .int .i64 aG, .int .i64 aT, .int .i64 aU, .slice bT aj.length bJ] from (vP _ _ (⟨az, (⟨aC, aA, aG, aT⟩ : bC), aU, aj⟩ : aI) (Kd.oH (Kd.iT (ok' := (fun k_ => (jb k_ ∨ w.heap.size ≤ k_) ∧ k_ ≠ kC)) (l9.out) (fun k_ hk => ⟨hk.1, hk.2⟩))).2.1 (Kd.V_F (Kd.iT (ok' := (fun k_ => (jb k_ ∨ w.heap.size ≤ k_) ∧ k_ ≠ kC)) (l9.out) (fun k_ hk => ⟨hk.1, hk.2⟩))))) (dB.none _ _))); intro awD w4 Bj hb kW gK; clear kW gK; (rw [← amr.out] at Bj); have alU := ae.mk (Kd.yG Bj (aY (by repeat ((with_reducible exact HB.out))))); replace l9 := ae.mk (Kd.wM l9.out (Kd.xP Bj) hb); replace iF := ae.mk (aK iF.out hb); replace HB := ae.mk (aH (by repeat ((with_reducible exact HB.out))) hb); clear hb Bj; have IV : w4.cell? ⟨kC, 0, none⟩ = some (.int .u8 az) := (af iF.out 0).trans rfl; have IW : w4.cell? ⟨kC, 1, none⟩ = some (.int .i64 aC) := (af iF.out 1).trans rfl; have IX : w4.cell? ⟨kC, 2, none⟩ = some (.int .i64 aA) := (af iF.out 2).trans rfl; have IY : w4.cell? ⟨kC, 3, none⟩ = some (.int .i64 aG) := (af iF.out 3).trans rfl; have IZ : w4.cell? ⟨kC, 4, none⟩ = some (.int .i64 aT) := (af iF.out 4).trans rfl; have I4 : w4.cell? ⟨kC, 5, none⟩ = some (.int .i64 aU) := (af iF.out 5).trans rfl; have I5 : w4.cell? ⟨kC, 6, none⟩ = some (.slice bT aj.length bJ) := (af iF.out 6).trans rfl; have Je := ag iF.out 0; have Jf := ag iF.out 1; have Jg := ag iF.out 2; have Jh := ag iF.out 3; have Ji := ag iF.out 4; have Jj := ag iF.out 5; have Jk := ag iF.out 6))
 go_loopg [3, 10] k (fun kq v3 v10 w' => ∃ (qp : List (aI)) (gq : Int), v10 = .int .i64 gq ∧ ae (dM.l0 kq qp (aj.length : Int) gq az aC aA aG aT aU aj = some r) ∧ ae (kq ≤ k) ∧ ae (Kd.N k26 26 w' w.heap.size (fun k_ => (jb k_ ∨ w.heap.size ≤ k_) ∧ k_ ≠ kC) v3 qp) ∧ ae (Kd.V k26 26 w' w.heap.size (fun k_ => (jb k_ ∨ w.heap.size ≤ k_) ∧ some k_ ≠ (v3 : Value).ownBlock ∧ k_ ≠ kC) (.slice bT aj.length bJ) aj) ∧ ae (w'.heap[kC]? = some (.cells #[.int .u8 az, .int .i64 aC, .int .i64 aA, .int .i64 aG, .int .i64 aT, .int .i64 aU, (.slice bT aj.length bJ)] 26 (0, 0))) ∧ ae (Below w.heap.size w w'))
 case atStart => exact ⟨(aly), (0), (by rfl), H', ⟨Nat.le_refl _⟩, ⟨by exact alU.out⟩, ⟨by exact Kd.iT l9.out (fun _ hk => ⟨hk.1.1, ⟨hk.2, hk.1.2⟩⟩)⟩, ⟨by exact iF.out⟩, ⟨by repeat ((with_reducible exact HB.out))⟩⟩
 case round =>
  clear H'
  clear TY TZ T_ Ua Ub Uc Ud IV IW IX IY IZ I4 I5 Um Un Uo Ur Us Ut Uu Je Jf Jg Jh Ji Jj Jk
  obtain ⟨qp, gq, rfl, HA, jI, tK, wL, iF, HB⟩ := hrel
  cases gk with
  | zero => exact absurd HA.out (by simp [dM.l0])
  | succ k1 =>
   have H := HA.out
   clear HA
   simp only [dM.l0] at H
   by_cases c7 : gq < (aj.length : Int)
   ·rw [if_pos c7] at H
    have t_ : decide (gq < (aj.length : Int)) = true := decide_eq_true c7
    clear c7
    by_cases c8 : 0 ≤ gq
    ·rw [if_pos c8] at H
     have vZ : decide (0 ≤ gq) = true := decide_eq_true c8
     clear c8
     by_cases c9 : gq < (aj.length : Int)
     ·rw [if_pos c9] at H
      have IA : decide (gq < (aj.length : Int)) = true := decide_eq_true c9
      clear c9
      replace H := Option.bind_eq_some_iff.mp H
      obtain ⟨t136, aiT, H⟩ := H
      replace H : (if qp.length + t136.length < 1954687338268 then (dM.l0 k1 (qp ++ t136) (aj.length : Int) (wrap64 (gq + 1)) az aC aA aG aT aU aj) else (none)) = some r := H
      have VH := ae.mk aiT
      clear aiT
      by_cases c11 : qp.length + t136.length < 1954687338268
      ·rw [if_pos c11] at H
       have amh := ae.mk c11
       clear c11
       obtain ⟨alz, YU⟩ : ∃ y_ : List (aI), y_ = (qp ++ t136) := ⟨_, rfl⟩
       replace H : (dM.l0 k1 alz (aj.length : Int) (wrap64 (gq + 1)) az aC aA aG aT aU aj) = some r := by (rw [YU]; with_reducible exact H)
       have ams := ae.mk YU
       clear YU
       have H' := ae.mk H
       clear H
       have Wh : wr.cell? ⟨kC, 0, none⟩ = some (.int .u8 az) := (af iF.out 0).trans rfl
       have Wi : wr.cell? ⟨kC, 1, none⟩ = some (.int .i64 aC) := (af iF.out 1).trans rfl
       have Wj : wr.cell? ⟨kC, 2, none⟩ = some (.int .i64 aA) := (af iF.out 2).trans rfl
       have Wl : wr.cell? ⟨kC, 3, none⟩ = some (.int .i64 aG) := (af iF.out 3).trans rfl
       have afY : wr.cell? ⟨kC, 4, none⟩ = some (.int .i64 aT) := (af iF.out 4).trans rfl
       have afZ : wr.cell? ⟨kC, 5, none⟩ = some (.int .i64 aU) := (af iF.out 5).trans rfl
       have af0 : wr.cell? ⟨kC, 6, none⟩ = some (.slice bT aj.length bJ) := (af iF.out 6).trans rfl
       have WR := ag iF.out 0
       have WS := ag iF.out 1
       have WT := ag iF.out 2
       have WU := ag iF.out 3
       have agO := ag iF.out 4
       have agP := ag iF.out 5
       have agQ := ag iF.out 6
       have Zq : 0 ≤ (gq : Int) := of_decide_eq_true (by (with_reducible assumption))
       have Zt : gq < (aj.length : Int) := of_decide_eq_true (by (with_reducible assumption))
       obtain ⟨auO, aiX, ajS, aoU, asi, asj, asl, asn, aso, asq, ahI, ahE, ahA⟩ := nV (Kd.oH wL.out).2.2 gq Zq Zt
       cases aoU
       obtain ⟨au8, aks, akp, aaI⟩ := Kd.amY wL.out z26 gq Zq Zt
       obtain ⟨asz, asB, rfl, QA, OW⟩ := qQ akp
       have Kt := aaI 6 _ rfl
       rw [mJ _ _ 6 (by omega)] at Kt
       replace Kt := Option.some.inj (Kt.symm.trans ahI)
       injection Kt with wV Dx wW
       rw [wV] at OW
       rw [wW] at QA
       have Fh := ae.mk (show Kd.V k26 26 _ w.heap.size _ _ ((au aj gq).f3) from Kd.C9 QA OW)
       clear wV Dx wW OW QA
       clear aaI aks
       clear ahA ahE
       replace Zq := eq_true Zq
       replace Zt := eq_true Zt
       go_wp2_with (first | ((with_reducible refine dn (f := 79) rfl ?_); refine gu (some 19) rfl rfl Try.func79 (by kernel_rfl) rfl #[.agg #[.int .u8 ((au aj gq).f0), .int .i64 ((au aj gq).f1.f0), .int .i64 ((au aj gq).f1.f1), .int .i64 ((au aj gq).f1.f2), .int .i64 ((au aj gq).f1.f3), .int .i64 ((au aj gq).f2), .slice aiX ((au aj gq).f3).length ajS]] rfl (by (try simp only [List.map_toArray, List.map_cons, List.map_nil]); rfl) ?_; (with_reducible refine (ih k1 (by have := jI.out; omega) ((au aj gq).f0) ((au aj gq).f1.f0) ((au aj gq).f1.f1) ((au aj gq).f1.f2) ((au aj gq).f1.f3) ((au aj gq).f2) (fun k_ => ((jb k_ ∨ w.heap.size ≤ k_) ∧ (some k_ ≠ (u3 : Value).ownBlock ∧ k_ ≠ kC))) _ _ ((au aj gq).f3) t136 _ ?fO VH.out).mono ?_); (case fO => exact Fh.out); rintro e qI ⟨awE, rfl, ho0, hb⟩; refine ⟨_, rfl, ?_⟩; have Ry := ae.mk (Kd.yG (Kd.kV (ok' := fun k_ => (jb k_ ∨ w.heap.size ≤ k_) ∧ some k_ ≠ (u3 : Value).ownBlock ∧ k_ ≠ kC) ho0 (fun k_ qh => ⟨Or.elim qh (fun hs_ => hs_.1) (fun Dw => (.inr (Nat.le_trans (aY (by repeat ((with_reducible exact HB.out)))) Dw))), Or.elim qh (fun hs_ => hs_.2.1) (fun Dw => (Kd.fresh' (Kd.GR tK.out) k_ Dw)), Or.elim qh (fun hs_ => hs_.2.2) (fun Dw => (Kd.jM iF.out k_ Dw))⟩)) (aY (by repeat ((with_reducible exact HB.out))))); replace tK := ae.mk (Kd.Le tK.out (Kd.xP ho0) hb); replace wL := ae.mk (Kd.wM wL.out (Kd.xP ho0) hb); replace Fh := ae.mk (Kd.wM Fh.out (Kd.xP ho0) hb); replace iF := ae.mk (aK iF.out hb); replace HB := ae.mk (aH (by repeat ((with_reducible exact HB.out))) hb); (try clear hb); (try clear ho0); obtain ⟨X0, YE, acG⟩ := Kd.nH Ry.out; subst acG) | ((with_reducible refine ji (b := .append) (xs := #[.tmp 13, .tmp 19]) rfl ?_); at_builtin; refine Kd.Ie k26 (w0 := w) w.heap.size rfl (.tmp 13) (.tmp 19) 24 26 (.agg #[(.int .u8 0), (.int .i64 0), (.int .i64 0), (.int .i64 0), (.int .i64 0), (.int .i64 0), (.slice none 0 0)]) 72 rfl Try.underlying24 info26 rfl (by decide) (by omega) u3 qp t136 _ _ _ (fun k_ => (jb k_ ∨ w.heap.size ≤ k_) ∧ k_ ≠ kC) (fun k_ => ((fun k_ => (jb k_ ∨ w.heap.size ≤ k_) ∧ k_ ≠ kC)) k_ ∧ some k_ ≠ (u3 : Value).ownBlock) rfl rfl ?aO ?aR (fun _ hk => hk) ?aF ?aB ?aS ?aL ?_; (case aR => exact (by exact Kd.N_F (Kd.kV (ok' := (fun k_ => ((fun k_ => (jb k_ ∨ w.heap.size ≤ k_) ∧ k_ ≠ kC)) k_ ∧ some k_ ≠ (u3 : Value).ownBlock)) (Ry.out) (fun k_ hk => ⟨⟨hk.1, hk.2.2⟩, hk.2.1⟩)))); (case aB => exact (by repeat ((with_reducible exact HB.out)))); (case aF => exact (fun k_ hk => ⟨(.inr (Nat.le_trans (aY (by repeat ((with_reducible exact HB.out)))) hk)), Kd.jM iF.out k_ hk⟩)); (case aO => exact (by exact Kd.kV tK.out (fun _ hk => ⟨hk.1.1, hk.1.2⟩))); (case aS => exact (aY (by repeat ((with_reducible exact HB.out))))); (case aL => have := amh.out; omega); intro awF w14 ho hb hg hat; rw [← ams.out] at ho; have alV := ae.mk (ho); replace wL := ae.mk (Kd.CZ (ok := (fun k_ => (jb k_ ∨ w.heap.size ≤ k_) ∧ some k_ ≠ (.slice X0 t136.length YE : Value).ownBlock ∧ k_ ≠ kC)) (by exact Kd.iT wL.out (fun _ hk => ⟨⟨hk.1.1, ⟨hk.2, hk.1.2.2⟩⟩, hk.1.2.1⟩)) hg hat); replace iF := ae.mk (bZ iF.out hg (Kd.aaj tK.out (fun _ hk => hk.1.2))); replace Fh := ae.mk (Kd.CZ (ok := (fun k_ => (jb k_ ∨ w.heap.size ≤ k_) ∧ some k_ ≠ (.slice X0 t136.length YE : Value).ownBlock ∧ k_ ≠ kC)) (by exact Kd.iT Fh.out (fun _ hk => ⟨⟨hk.1.1, ⟨hk.2, hk.1.2.2⟩⟩, hk.1.2.1⟩)) hg hat); replace Ry := ae.mk (Kd.Ld (ok := (fun k_ => (jb k_ ∨ w.heap.size ≤ k_) ∧ k_ ≠ kC)) (by exact Kd.kV Ry.out (fun _ hk => ⟨⟨hk.1, hk.2.2⟩, hk.2.1⟩)) hg hat); replace HB := ae.mk (hb); clear tK; clear ho hb hg hat))
       go_roundg k1
       case measure => have := jI.out; omega
       case rel => exact ⟨(alz), (wrap64 (gq + 1)), (by rfl), H', ⟨by have := jI.out; omega⟩, ⟨by exact alV.out⟩, ⟨by exact Kd.iT wL.out (fun _ hk => ⟨hk.1.1, ⟨hk.2, hk.1.2.2⟩⟩)⟩, ⟨by exact iF.out⟩, ⟨by repeat ((with_reducible exact HB.out))⟩⟩
      ·rw [if_neg c11] at H
       exact absurd H (by simp)
     ·rw [if_neg c9] at H
      exact absurd H (by simp)
    ·rw [if_neg c8] at H
     exact absurd H (by simp)
   ·rw [if_neg c7] at H
    have t_ : decide (gq < (aj.length : Int)) = false := decide_eq_false c7
    clear c7
    obtain rfl := Option.some.inj H
    go_wp2
    go_ret
    exact ⟨_, by rfl, by exact Kd.kV tK.out (fun _ hk => hk.1), by repeat ((with_reducible exact HB.out))⟩
def fZ.l0 : Nat → List (aI) → List (aI) → Int → Int → Option ((List (aI)))
 | 0, _, _, _, _ => none
 | k + 1, x3, x4, x10, x11 => if x11 < x10 then (if 0 ≤ x11 then (if x11 < (x4.length : Int) then (if ((au x4 x11).f0) = 1 then (if x3.length < 1954687338268 then (fZ.l0 k (x3 ++ [(⟨(au x4 x11).f0, (⟨(au x4 x11).f1.f0, (au x4 x11).f1.f1, (au x4 x11).f1.f2, (au x4 x11).f1.f3⟩ : bC), (au x4 x11).f2, (au x4 x11).f3⟩ : aI)]) x4 x10 (wrap64 (x11 + 1))) else (none)) else (fZ.l0 k x3 x4 x10 (wrap64 (x11 + 1)))) else (none)) else (none)) else (some x3)
def fZ.f (k : Nat) (az : Int) (aC : Int) (aA : Int) (aG : Int) (aT : Int) (aU : Int) (aj : List (aI)) : Option ((List (aI))) := (dM.f k az aC aA aG aT aU aj).bind fun t146 => (fZ.l0 k (([] : List (aI))) t146 (t146.length : Int) 0)
theorem fZ.calls (k : Nat) (az : Int) (aC : Int) (aA : Int) (aG : Int) (aT : Int) (aU : Int) (jb : Nat → Prop) (bT : Option Addr) (bJ : Nat) (aj : List (aI)) (r : List (aI)) (w : World) (Kr : Kd.V k26 26 w w.heap.size (fun k_ => jb k_) (.slice bT aj.length bJ) aj) (h : fZ.f k az aC aA aG aT aU aj = some r) :
  Calls Try.prog 126 #[.agg #[.int .u8 az, .int .i64 aC, .int .i64 aA, .int .i64 aG, .int .i64 aT, .int .i64 aU, .slice bT aj.length bJ]] w fun e w' => ∃ ng : Value, e = .returned (ng) ∧ Kd.N k26 26 w' w.heap.size (fun k_ => (jb k_ ∨ w.heap.size ≤ k_)) ng r ∧ Below w.heap.size w w' := by
 have Ae := Try.underlying26
 have l9 := ae.mk (show Kd.V k26 26 w w.heap.size (fun k_ => (jb k_ ∨ w.heap.size ≤ k_)) (.slice bT aj.length bJ) aj from Kd.iT Kr (fun k_ hk => .inl hk))
 have HB := ae.mk (Below.refl w.heap.size w)
 have H : ((dM.f k az aC aA aG aT aU aj).bind fun t146 => (fZ.l0 k (([] : List (aI))) t146 (t146.length : Int) 0)) = some r := h
 clear h
 obtain ⟨aeh, YV⟩ : ∃ y_ : List (aI), y_ = (([] : List (aI))) := ⟨_, rfl⟩
 replace H : ((dM.f k az aC aA aG aT aU aj).bind fun t146 => (fZ.l0 k aeh t146 (t146.length : Int) 0)) = some r := by (rw [YV]; with_reducible exact H)
 have amu := ae.mk YV
 clear YV
 replace H := Option.bind_eq_some_iff.mp H
 obtain ⟨t146, BU, H⟩ := H
 replace H : (fZ.l0 k aeh t146 (t146.length : Int) 0) = some r := H
 have A2 := ae.mk BU
 clear BU
 have H' := ae.mk H
 clear H
 go_enter Try.func126, Try.ntmps126
 go_wp2_with (first | ((with_reducible refine aQ (N := 1) rfl ?_); refine aX ?hg (N := 1) ?hd (cs := #[.int .u8 az, .int .i64 aC, .int .i64 aA, .int .i64 aG, .int .i64 aT, .int .i64 aU, .slice bT aj.length bJ]) (t := 26) ?hr ?_; (case hd => rfl); (case hg => rfl); (case hr => (go_simp; done)); intro oW hg w3 hbox hb; have nG := ae.mk (hbox); replace l9 := ae.mk (Kd.pF (Kd.wO l9.out oW (Nat.le_of_eq hg.symm)) hb); replace HB := ae.mk (aH (by repeat ((with_reducible exact HB.out))) hb); clear hb hbox hg) | ((with_reducible refine aQ (N := 6) rfl ?_); refine Kd.BZ k26 _ 26 ?hg (N' := 6) ?hd (xs := ([] : List (aI))) (inner := []) (ok := (fun k_ => (jb k_ ∨ w.heap.size ≤ k_) ∧ k_ ≠ oW)) (iO := (fun k_ => (jb k_ ∨ w.heap.size ≤ k_) ∧ k_ ≠ oW)) ?hr ?hp (fun _ hk => hk) ((show ∀ k_, w3.heap.size ≤ k_ → (fun k_ => (jb k_ ∨ w.heap.size ≤ k_) ∧ k_ ≠ oW) k_ from fun k_ hk => ⟨(.inr (Nat.le_trans (aY (by repeat ((with_reducible exact HB.out)))) hk)), Kd.jM nG.out k_ hk⟩) _ (Nat.le_refl _)) (Below.refl _ _) (Nat.le_refl _) (by simp) ?_; (case hd => rfl); (case hg => rfl); (case hr => (go_simp; done)); (case hp => exact (dB.none _ _)); intro alp w4 Bj hb kW gK; clear kW gK; (rw [← amu.out] at Bj); have Rz := ae.mk (Kd.yG Bj (aY (by repeat ((with_reducible exact HB.out))))); replace l9 := ae.mk (Kd.wM l9.out (Kd.xP Bj) hb); replace nG := ae.mk (aK nG.out hb); replace HB := ae.mk (aH (by repeat ((with_reducible exact HB.out))) hb); clear hb Bj; have IV : w4.cell? ⟨oW, 0, none⟩ = some (.int .u8 az) := (af nG.out 0).trans rfl; have IW : w4.cell? ⟨oW, 1, none⟩ = some (.int .i64 aC) := (af nG.out 1).trans rfl; have IX : w4.cell? ⟨oW, 2, none⟩ = some (.int .i64 aA) := (af nG.out 2).trans rfl; have IY : w4.cell? ⟨oW, 3, none⟩ = some (.int .i64 aG) := (af nG.out 3).trans rfl; have IZ : w4.cell? ⟨oW, 4, none⟩ = some (.int .i64 aT) := (af nG.out 4).trans rfl; have I4 : w4.cell? ⟨oW, 5, none⟩ = some (.int .i64 aU) := (af nG.out 5).trans rfl; have I5 : w4.cell? ⟨oW, 6, none⟩ = some (.slice bT aj.length bJ) := (af nG.out 6).trans rfl; have Je := ag nG.out 0; have Jf := ag nG.out 1; have Jg := ag nG.out 2; have Jh := ag nG.out 3; have Ji := ag nG.out 4; have Jj := ag nG.out 5; have Jk := ag nG.out 6) | ((with_reducible refine dn (f := 79) rfl ?_); refine gu (some 8) rfl rfl Try.func79 (by kernel_rfl) rfl #[.agg #[.int .u8 az, .int .i64 aC, .int .i64 aA, .int .i64 aG, .int .i64 aT, .int .i64 aU, .slice bT aj.length bJ]] rfl (by (try simp only [List.map_toArray, List.map_cons, List.map_nil]); rfl) ?_; (with_reducible refine (dM.calls k az aC aA aG aT aU (fun k_ => (((jb k_ ∨ w.heap.size ≤ k_) ∧ k_ ≠ oW) ∧ some k_ ≠ (alp : Value).ownBlock)) _ _ aj t146 _ ?fO A2.out).mono ?_); (case fO => exact l9.out); rintro e w7 ⟨awG, rfl, ho0, hb⟩; refine ⟨_, rfl, ?_⟩; have aez := ae.mk (Kd.yG (Kd.kV (ok' := fun k_ => (jb k_ ∨ w.heap.size ≤ k_) ∧ some k_ ≠ (alp : Value).ownBlock ∧ k_ ≠ oW) ho0 (fun k_ qh => ⟨Or.elim qh (fun hs_ => hs_.1.1) (fun Dw => (.inr (Nat.le_trans (aY (by repeat ((with_reducible exact HB.out)))) Dw))), Or.elim qh (fun hs_ => hs_.2) (fun Dw => (Kd.fresh' (Kd.GR Rz.out) k_ Dw)), Or.elim qh (fun hs_ => hs_.1.2) (fun Dw => (Kd.jM nG.out k_ Dw))⟩)) (aY (by repeat ((with_reducible exact HB.out))))); replace l9 := ae.mk (Kd.wM l9.out (Kd.xP ho0) hb); replace Rz := ae.mk (Kd.Le Rz.out (Kd.xP ho0) hb); replace nG := ae.mk (aK nG.out hb); replace HB := ae.mk (aH (by repeat ((with_reducible exact HB.out))) hb); (try clear hb); (try clear ho0); obtain ⟨Ao8, NG, eo8⟩ := Kd.nH aez.out; subst eo8))
 go_loopg [3, 11] k (fun kq v3 v11 w' => ∃ (qp : List (aI)) (bf : Int), v11 = .int .i64 bf ∧ ae (fZ.l0 kq qp t146 (t146.length : Int) bf = some r) ∧ ae (kq ≤ k) ∧ ae (Kd.N k26 26 w' w.heap.size (fun k_ => (jb k_ ∨ w.heap.size ≤ k_) ∧ some k_ ≠ ((.slice Ao8 t146.length NG) : Value).ownBlock ∧ k_ ≠ oW) v3 qp) ∧ ae (Kd.N k26 26 w' w.heap.size (fun k_ => (jb k_ ∨ w.heap.size ≤ k_) ∧ some k_ ≠ (v3 : Value).ownBlock ∧ k_ ≠ oW) (.slice Ao8 t146.length NG) t146) ∧ ae (Kd.V k26 26 w' w.heap.size (fun k_ => (jb k_ ∨ w.heap.size ≤ k_) ∧ some k_ ≠ (v3 : Value).ownBlock ∧ some k_ ≠ ((.slice Ao8 t146.length NG) : Value).ownBlock ∧ k_ ≠ oW) (.slice bT aj.length bJ) aj) ∧ ae (w'.heap[oW]? = some (.cells #[.int .u8 az, .int .i64 aC, .int .i64 aA, .int .i64 aG, .int .i64 aT, .int .i64 aU, (.slice bT aj.length bJ)] 26 (0, 0))) ∧ ae (Below w.heap.size w w'))
 case atStart => exact ⟨(aeh), (0), (by rfl), H', ⟨Nat.le_refl _⟩, ⟨by exact Kd.kV Rz.out (fun _ hk => ⟨hk.1.1, ⟨hk.2, hk.1.2⟩⟩)⟩, ⟨by exact aez.out⟩, ⟨by exact Kd.iT l9.out (fun _ hk => ⟨hk.1.1.1, ⟨hk.1.2, ⟨hk.2, hk.1.1.2⟩⟩⟩)⟩, ⟨by exact nG.out⟩, ⟨by repeat ((with_reducible exact HB.out))⟩⟩
 case round =>
  clear H'
  clear IV IW IX IY IZ I4 I5 Je Jf Jg Jh Ji Jj Jk
  obtain ⟨qp, bf, rfl, HA, jI, tK, qX, Ei, nG, HB⟩ := hrel
  cases gk with
  | zero => exact absurd HA.out (by simp [fZ.l0])
  | succ k1 =>
   have H := HA.out
   clear HA
   simp only [fZ.l0] at H
   by_cases c9 : bf < (t146.length : Int)
   ·rw [if_pos c9] at H
    have IA : decide (bf < (t146.length : Int)) = true := decide_eq_true c9
    clear c9
    by_cases c10 : 0 ≤ bf
    ·rw [if_pos c10] at H
     have Cb : decide (0 ≤ bf) = true := decide_eq_true c10
     clear c10
     by_cases c11 : bf < (t146.length : Int)
     ·rw [if_pos c11] at H
      have GZ : decide (bf < (t146.length : Int)) = true := decide_eq_true c11
      clear c11
      by_cases c12 : ((au t146 bf).f0) = 1
      ·rw [if_pos c12] at H
       have Cc : (((au t146 bf).f0) == 1) = true := beq_iff_eq.mpr c12
       have Nu : (((au t146 bf).f0) != 1) = false := bne_eq_false_iff_eq.mpr c12
       clear c12
       by_cases c13 : qp.length < 1954687338268
       ·rw [if_pos c13] at H
        have Ye := ae.mk c13
        clear c13
        obtain ⟨y151, hy151⟩ : ∃ y_ : List (aI), y_ = (qp ++ [(⟨(au t146 bf).f0, (⟨(au t146 bf).f1.f0, (au t146 bf).f1.f1, (au t146 bf).f1.f2, (au t146 bf).f1.f3⟩ : bC), (au t146 bf).f2, (au t146 bf).f3⟩ : aI)]) := ⟨_, rfl⟩
        replace H : (fZ.l0 k1 y151 t146 (t146.length : Int) (wrap64 (bf + 1))) = some r := by (rw [hy151]; with_reducible exact H)
        have amv := ae.mk hy151
        clear hy151
        have H' := ae.mk H
        clear H
        have Hy : 0 ≤ (bf : Int) := of_decide_eq_true (by (with_reducible assumption))
        have H5 : bf < (t146.length : Int) := of_decide_eq_true (by (with_reducible assumption))
        obtain ⟨Eo, ZT, aas, acw, ahJ, ahK, ahL, ahM, ahN, ahO, Kv, PK, PH⟩ := nV (Kd.kY qX.out).2.2 bf Hy H5
        cases acw
        obtain ⟨anA, TV, TS, IE⟩ := Kd.M_ qX.out z26 bf Hy H5
        obtain ⟨ais, aiu, rfl, GI, FH⟩ := qQ TS
        have xy := IE 6 _ rfl
        rw [mJ _ _ 6 (by omega)] at xy
        replace xy := Option.some.inj (xy.symm.trans Kv)
        injection xy with wV Dx wW
        rw [wV] at FH
        rw [wW] at GI
        clear wV Dx wW FH GI
        clear IE TV
        clear PH PK
        replace Hy := eq_true Hy
        replace H5 := eq_true H5
        have Zr : 0 ≤ (bf : Int) := of_decide_eq_true (by (with_reducible assumption))
        have Zu : bf < (t146.length : Int) := of_decide_eq_true (by (with_reducible assumption))
        obtain ⟨am0, asE, atq, aoV, asr, ass, ast, asu, asv, asw, Xp, ahF, ahB⟩ := nV (Kd.kY qX.out).2.2 bf Zr Zu
        obtain rfl : Eo = am0 := (by injection aoV)
        obtain ⟨au9, akt, akq, aaJ⟩ := Kd.M_ qX.out z26 bf Zr Zu
        obtain ⟨asA, asC, rfl, QB, OX⟩ := qQ akq
        have Ku := aaJ 6 _ rfl
        rw [mJ _ _ 6 (by omega)] at Ku
        replace Ku := Option.some.inj (Ku.symm.trans Xp)
        injection Ku with wV Dx wW
        rw [wV] at OX
        rw [wW] at QB
        have JK := ae.mk (show Kd.V k26 26 _ w.heap.size _ _ ((au t146 bf).f3) from Kd.C9 QB OX)
        clear wV Dx wW OX QB
        clear aaJ akt
        clear ahB ahF
        replace Zr := eq_true Zr
        replace Zu := eq_true Zu
        have ea_ := Option.some.inj (Kv.symm.trans Xp)
        injection ea_ with ea_ en_ ec_
        subst ea_
        subst ec_
        clear en_
        go_wp2_with (((with_reducible refine ji (b := .append) (xs := #[.tmp 20, .tmp 25]) rfl ?_); at_builtin; refine Kd.SY k26 (w0 := w) w.heap.size rfl (.tmp 20) (.tmp 25) 24 26 (.agg #[(.int .u8 0), (.int .i64 0), (.int .i64 0), (.int .i64 0), (.int .i64 0), (.int .i64 0), (.slice none 0 0)]) 72 rfl Try.underlying24 info26 rfl (by decide) (by omega) u3 qp (⟨(au t146 bf).f0, (⟨(au t146 bf).f1.f0, (au t146 bf).f1.f1, (au t146 bf).f1.f2, (au t146 bf).f1.f3⟩ : bC), (au t146 bf).f2, (au t146 bf).f3⟩ : aI) [.int .u8 ((au t146 bf).f0), .int .i64 ((au t146 bf).f1.f0), .int .i64 ((au t146 bf).f1.f1), .int .i64 ((au t146 bf).f1.f2), .int .i64 ((au t146 bf).f1.f3), .int .i64 ((au t146 bf).f2), .slice ZT ((au t146 bf).f3).length aas] (fun k_ => (jb k_ ∨ w.heap.size ≤ k_) ∧ some k_ ≠ (.slice (some Eo) t146.length NG : Value).ownBlock ∧ k_ ≠ oW) (fun k_ => ((fun k_ => (jb k_ ∨ w.heap.size ≤ k_) ∧ some k_ ≠ (.slice (some Eo) t146.length NG : Value).ownBlock ∧ k_ ≠ oW)) k_ ∧ some k_ ≠ (u3 : Value).ownBlock) rfl rfl ?aP (fun _ hk => hk) ?aF ?aO ?aB ?aS ?aL ?_; (case aP => exact (vP _ _ (⟨(au t146 bf).f0, (⟨(au t146 bf).f1.f0, (au t146 bf).f1.f1, (au t146 bf).f1.f2, (au t146 bf).f1.f3⟩ : bC), (au t146 bf).f2, (au t146 bf).f3⟩ : aI) (Kd.oH (Kd.iT (ok' := (fun k_ => ((fun k_ => (jb k_ ∨ w.heap.size ≤ k_) ∧ some k_ ≠ (.slice (some Eo) t146.length NG : Value).ownBlock ∧ k_ ≠ oW)) k_ ∧ some k_ ≠ (u3 : Value).ownBlock)) (JK.out) (fun k_ hk => ⟨⟨hk.1.1, ⟨hk.2, hk.1.2.2⟩⟩, hk.1.2.1⟩))).2.1 (Kd.V_F (Kd.iT (ok' := (fun k_ => ((fun k_ => (jb k_ ∨ w.heap.size ≤ k_) ∧ some k_ ≠ (.slice (some Eo) t146.length NG : Value).ownBlock ∧ k_ ≠ oW)) k_ ∧ some k_ ≠ (u3 : Value).ownBlock)) (JK.out) (fun k_ hk => ⟨⟨hk.1.1, ⟨hk.2, hk.1.2.2⟩⟩, hk.1.2.1⟩))))); (case aB => exact (by repeat ((with_reducible exact HB.out)))); (case aF => exact (fun k_ hk => ⟨(.inr (Nat.le_trans (aY (by repeat ((with_reducible exact HB.out)))) hk)), Kd.fresh' (Kd.GR qX.out) k_ hk, Kd.jM nG.out k_ hk⟩)); (case aO => exact tK.out); (case aS => exact (aY (by repeat ((with_reducible exact HB.out))))); (case aL => have := Ye.out; omega); intro v152 w14 ho hb hg hat; rw [← amv.out] at ho; have alW := ae.mk (ho); replace qX := ae.mk (Kd.Ld (ok := (fun k_ => (jb k_ ∨ w.heap.size ≤ k_) ∧ k_ ≠ oW)) (by exact Kd.kV qX.out (fun _ hk => ⟨⟨hk.1, hk.2.2⟩, hk.2.1⟩)) hg hat); replace Ei := ae.mk (Kd.CZ (ok := (fun k_ => (jb k_ ∨ w.heap.size ≤ k_) ∧ some k_ ≠ (.slice (some Eo) t146.length NG : Value).ownBlock ∧ k_ ≠ oW)) (by exact Kd.iT Ei.out (fun _ hk => ⟨⟨hk.1, ⟨hk.2.2.1, hk.2.2.2⟩⟩, hk.2.1⟩)) hg hat); replace nG := ae.mk (bZ nG.out hg (Kd.aaj tK.out (fun _ hk => hk.2.2))); replace JK := ae.mk (Kd.CZ (ok := (fun k_ => (jb k_ ∨ w.heap.size ≤ k_) ∧ some k_ ≠ (.slice (some Eo) t146.length NG : Value).ownBlock ∧ k_ ≠ oW)) (by exact Kd.iT JK.out (fun _ hk => ⟨⟨hk.1.1, ⟨hk.2, hk.1.2.2⟩⟩, hk.1.2.1⟩)) hg hat); replace HB := ae.mk (hb); clear tK; clear ho hb hg hat))
        go_roundg k1
        case measure => have := jI.out; omega
        case rel => exact ⟨(y151), (wrap64 (bf + 1)), (by rfl), H', ⟨by have := jI.out; omega⟩, ⟨by exact alW.out⟩, ⟨by exact Kd.kV qX.out (fun _ hk => ⟨hk.1.1, ⟨hk.2, hk.1.2⟩⟩)⟩, ⟨by exact Kd.iT Ei.out (fun _ hk => ⟨hk.1.1, ⟨hk.2, ⟨hk.1.2.1, hk.1.2.2⟩⟩⟩)⟩, ⟨by exact nG.out⟩, ⟨by repeat ((with_reducible exact HB.out))⟩⟩
       ·rw [if_neg c13] at H
        exact absurd H (by simp)
      ·rw [if_neg c12] at H
       have Cc : (((au t146 bf).f0) == 1) = false := beq_eq_false_iff_ne.mpr c12
       have Nu : (((au t146 bf).f0) != 1) = true := bne_iff_ne.mpr c12
       have H' := ae.mk H
       clear H
       have Hy : 0 ≤ (bf : Int) := of_decide_eq_true (by (with_reducible assumption))
       have H5 : bf < (t146.length : Int) := of_decide_eq_true (by (with_reducible assumption))
       obtain ⟨Eo, ZT, aas, acw, ahJ, ahK, ahL, ahM, ahN, ahO, Kv, PK, PH⟩ := nV (Kd.kY qX.out).2.2 bf Hy H5
       cases acw
       obtain ⟨anA, TV, TS, IE⟩ := Kd.M_ qX.out z26 bf Hy H5
       obtain ⟨ais, aiu, rfl, GI, FH⟩ := qQ TS
       have xy := IE 6 _ rfl
       rw [mJ _ _ 6 (by omega)] at xy
       replace xy := Option.some.inj (xy.symm.trans Kv)
       injection xy with wV Dx wW
       rw [wV] at FH
       rw [wW] at GI
       clear wV Dx wW FH GI
       clear IE TV
       clear PH PK
       replace Hy := eq_true Hy
       replace H5 := eq_true H5
       go_wp2
       go_roundg k1
       case measure => have := jI.out; omega
       case rel => exact ⟨(qp), (wrap64 (bf + 1)), (by rfl), H', ⟨by have := jI.out; omega⟩, ⟨by exact tK.out⟩, ⟨by exact qX.out⟩, ⟨by exact Ei.out⟩, ⟨by exact nG.out⟩, ⟨by repeat ((with_reducible exact HB.out))⟩⟩
     ·rw [if_neg c11] at H
      exact absurd H (by simp)
    ·rw [if_neg c10] at H
     exact absurd H (by simp)
   ·rw [if_neg c9] at H
    have IA : decide (bf < (t146.length : Int)) = false := decide_eq_false c9
    clear c9
    obtain rfl := Option.some.inj H
    go_wp2
    go_ret
    exact ⟨_, by rfl, by exact Kd.kV tK.out (fun _ hk => hk.1), by repeat ((with_reducible exact HB.out))⟩
end Go.Proofs.Ytfdmfgaiblfbhaa.P
namespace Go.Proofs.Ytfdmfgaiblfbhaa.P
open Go.RowKit Go.Proofs.ai.bg Go.Proofs.ai.di Go.Proofs.ai.dG
theorem lS (pre : List aI) (p : aI) (rest : List aI) : au (pre ++ p :: rest) (pre.length : Int) = p := by
 simp [au, List.getD_eq_getElem?_getD]
theorem Cm {α : Type} (pre : List α) (p : α) (rest : List α) (h : (pre ++ p :: rest).length ≤ 9223372036854775807) : wrap64 ((pre.length : Int) + 1) = ((pre ++ [p]).length : Int) := by
 simp only [List.length_append, List.length_cons, List.length_nil] at h ⊢
 rw [wq (by omega) (by omega)]
 omega
theorem acr (L : Int) : ∀ (N : Nat) (c : aI), sz c ≤ N → N ≤ 1048576 → ∃ n : Int, Ev (fun k => eH.f k c.f0 c.f1.f0 c.f1.f1 c.f1.f2 c.f1.f3 c.f2 c.f3 L) n ∧ 1 ≤ n ∧ n ≤ (sz c : Int) ∧ (n > L ∨ n = (sz c : Int)) := by
 intro N
 induction N with
 | zero => intro c h _; rw [gm] at h; omega
 | succ N ih =>
  intro c hc hN
  have hs := gm c
  have key : ∀ (rest pre : List aI), pre ++ rest = c.f3 → ∀ acc : Int, 1 ≤ acc → acc + (jw rest : Int) ≤ 1048576 → (acc > L ∨ acc = 1 + (jw pre : Int)) →
    ∃ n : Int, Ev (fun k => eH.l0 k L acc (c.f3.length : Int) (pre.length : Int) c.f0 c.f1.f0 c.f1.f1 c.f1.f2 c.f1.f3 c.f2 c.f3) n ∧ acc ≤ n ∧ n ≤ acc + (jw rest : Int) ∧ (n > L ∨ n = 1 + (jw c.f3 : Int)) := by
   intro rest
   induction rest with
   | nil =>
    intro pre hp acc h1 h2 h3
    rw [List.append_nil] at hp
    refine ⟨acc, Ev.step (f := fun _ => some acc) (fun k => ?_) (Ev.now _), by omega, by omega, by rw [← hp]; exact h3⟩
    simp only [eH.l0]
    rw [if_neg (by rw [hp]; omega)]
   | cons x xs ihr =>
    intro pre hp acc h1 h2 h3
    have hl : (pre.length : Int) < (c.f3.length : Int) := by rw [← hp, List.length_append, List.length_cons]; omega
    have hlen := nN c.f3
    by_cases hL : acc > L
    ·refine ⟨acc, Ev.step (f := fun _ => some acc) (fun k => ?_) (Ev.now _), by omega, by omega, .inl hL⟩
     simp only [eH.l0]
     rw [if_pos hl, if_pos hL]
    ·have h3' : acc = 1 + (jw pre : Int) := by omega
     have hsum : jw c.f3 = jw pre + (sz x + jw xs) := by rw [← hp, vT, gz]
     obtain ⟨n1, e1, a1, b1, c1⟩ := ih x (by omega) (by omega)
     rw [gz] at h2
     obtain ⟨n, e2, a2, b2, c2⟩ := ihr (pre ++ [x]) (by rw [List.append_assoc]; exact hp) (acc + n1) (by omega) (by omega) (by
      rw [vT, gz, vU]
      omega)
     refine ⟨n, ?_, by omega, by rw [gz]; omega, c2⟩
     have hw : wrap64 (acc + n1) = acc + n1 := wq (by omega) (by omega)
     have hr : au c.f3 (pre.length : Int) = x := by rw [← hp]; exact lS pre x xs
     have hu : wrap64 ((pre.length : Int) + 1) = ((pre ++ [x]).length : Int) := Cm pre x xs (by rw [hp]; omega)
     refine Ev.step (f := fun k => (eH.f k x.f0 x.f1.f0 x.f1.f1 x.f1.f2 x.f1.f3 x.f2 x.f3 L).bind fun t => eH.l0 k L (wrap64 (acc + t)) (c.f3.length : Int) (wrap64 ((pre.length : Int) + 1)) c.f0 c.f1.f0 c.f1.f1 c.f1.f2 c.f1.f3 c.f2 c.f3) (fun k => ?_) (Ev.bind e1 ?_)
     ·simp only [eH.l0]
      rw [if_pos hl, if_neg hL, if_pos (by omega), if_pos hl, hr]
     ·rw [hw, hu]
      exact e2
  obtain ⟨n, e, a, b, d⟩ := key c.f3 [] rfl 1 (by omega) (by omega) (.inr (by rw [vU]; rfl))
  refine ⟨n, Ev.step (fun k => ?_) e, a, by omega, by omega⟩
  simp only [eH.f]
  rfl
theorem acP (c : aI) (h : sz c ≤ 1048576) : ∃ b : Bool, Ev (fun k => mZ.f k c.f0 c.f1.f0 c.f1.f1 c.f1.f2 c.f1.f3 c.f2 c.f3) b ∧ (b = false → sz c ≤ 200) := by
 obtain ⟨n, e, h1, h2, h3⟩ := acr 200 1048576 c h (Nat.le_refl _)
 refine ⟨decide (n > 200), ?_, fun hb => ?_⟩
 ·unfold mZ.f
  exact Ev.bind e (Ev.now _)
 ·have := of_decide_eq_false hb
  omega
theorem Et : ∀ (N : Nat) (c : aI), sz c ≤ N → N ≤ 1048576 → Ev (fun k => dM.f k c.f0 c.f1.f0 c.f1.f1 c.f1.f2 c.f1.f3 c.f2 c.f3) (jh c) := by
 intro N
 induction N with
 | zero => intro c h _; rw [gm] at h; omega
 | succ N ih =>
  intro c hc hN
  have hs := gm c
  have key : ∀ (rest pre : List aI), pre ++ rest = c.f3 → Ev (fun k => dM.l0 k (c :: allL pre) (c.f3.length : Int) (pre.length : Int) c.f0 c.f1.f0 c.f1.f1 c.f1.f2 c.f1.f3 c.f2 c.f3) (jh c) := by
   intro rest
   induction rest with
   | nil =>
    intro pre hp
    rw [List.append_nil] at hp
    refine Ev.step (f := fun _ => some (jh c)) (fun k => ?_) (Ev.now _)
    simp only [dM.l0]
    rw [if_neg (by rw [hp]; omega), hp, yH]
   | cons x xs ihr =>
    intro pre hp
    have hl : (pre.length : Int) < (c.f3.length : Int) := by rw [← hp, List.length_append, List.length_cons]; omega
    have hlen := nN c.f3
    have hsum : jw c.f3 = jw pre + (sz x + jw xs) := by rw [← hp, vT, gz]
    have e2 := ihr (pre ++ [x]) (by rw [List.append_assoc]; exact hp)
    have hr : au c.f3 (pre.length : Int) = x := by rw [← hp]; exact lS pre x xs
    have hu : wrap64 ((pre.length : Int) + 1) = ((pre ++ [x]).length : Int) := Cm pre x xs (by rw [hp]; omega)
    have ha : c :: allL (pre ++ [x]) = (c :: allL pre) ++ jh x := by rw [GV, sO, uZ, List.append_nil, List.cons_append]
    have hb : (c :: allL pre).length + (jh x).length < 1954687338268 := by
     have h1 : (allL pre).length = jw pre := rfl
     have h2 : (jh x).length = sz x := rfl
     rw [List.length_cons, h1, h2]
     omega
    rw [ha] at e2
    refine Ev.step (f := fun k => (dM.f k x.f0 x.f1.f0 x.f1.f1 x.f1.f2 x.f1.f3 x.f2 x.f3).bind fun t => (if (c :: allL pre).length + t.length < 1954687338268 then (dM.l0 k ((c :: allL pre) ++ t) (c.f3.length : Int) (wrap64 ((pre.length : Int) + 1)) c.f0 c.f1.f0 c.f1.f1 c.f1.f2 c.f1.f3 c.f2 c.f3) else none)) (fun k => ?_) (Ev.bind (ih x (by omega) (by omega)) (pM hb ?_))
    ·simp only [dM.l0]
     rw [if_pos hl, if_pos (by omega), if_pos hl, hr]
    ·rw [hu]
     exact e2
  refine Ev.step (fun k => ?_) (key c.f3 [] rfl)
  simp only [dM.f, uZ, NI]
  rfl
def rZ (c : aI) : List aI := (jh c).filter fun x => decide (x.f0 = 1)
theorem aa_ (c : aI) (h : sz c ≤ 1048576) : Ev (fun k => fZ.f k c.f0 c.f1.f0 c.f1.f1 c.f1.f2 c.f1.f3 c.f2 c.f3) (rZ c) := by
 unfold fZ.f
 refine Ev.bind (Et _ c h (Nat.le_refl _)) ?_
 have key : ∀ (rest pre : List aI), pre ++ rest = jh c → Ev (fun k => fZ.l0 k (pre.filter fun x => decide (x.f0 = 1)) (jh c) ((jh c).length : Int) (pre.length : Int)) (rZ c) := by
  intro rest
  induction rest with
  | nil =>
   intro pre hp
   rw [List.append_nil] at hp
   refine Ev.step (f := fun _ => some (rZ c)) (fun k => ?_) (Ev.now _)
   simp only [fZ.l0]
   rw [if_neg (by rw [hp]; omega), hp]
   rfl
  | cons x xs ihr =>
   intro pre hp
   have hsz : (jh c).length ≤ 1048576 := h
   have hl : (pre.length : Int) < ((jh c).length : Int) := by rw [← hp, List.length_append, List.length_cons]; omega
   have e2 := ihr (pre ++ [x]) (by rw [List.append_assoc]; exact hp)
   have hr : au (jh c) (pre.length : Int) = x := by rw [← hp]; exact lS pre x xs
   have hu : wrap64 ((pre.length : Int) + 1) = ((pre ++ [x]).length : Int) := Cm pre x xs (by rw [hp]; omega)
   have hb : (pre.filter fun x => decide (x.f0 = 1)).length < 1954687338268 := by
    have := List.length_filter_le (fun x : aI => decide (x.f0 = 1)) pre
    omega
   rw [List.filter_append] at e2
   refine Ev.step (fun k => ?_) e2
   simp only [fZ.l0]
   rw [if_pos hl, if_pos (by omega), if_pos hl, hr, hu]
   by_cases h1 : x.f0 = 1
   ·rw [if_pos h1, if_pos hb, List.filter_cons_of_pos (by simpa using h1), NI]
    rfl
   ·rw [if_neg h1, List.filter_cons_of_neg (by simpa using h1), List.filter_nil, List.append_nil]
 exact key (jh c) [] rfl
end Go.Proofs.Ytfdmfgaiblfbhaa.P
namespace Go.Proofs.Ytfdmfgaiblfbhaa.P
open Go.RowKit Go.Proofs.ai.bg Go.Proofs.ai.di Go.Proofs.ai.dG
attribute [local go_sem] kD kF lN lQ jF jG kE kG
attribute [local go_sem high] Sj
mutual
def lT.j0 : Nat → Bool → Int → Int → Int → Int → Int → Int → List (aI) → Int → Int → Int → Int → Int → Int → List (aI) → Option (Bool)
 | 0, _, _, _, _, _, _, _, _, _, _, _, _, _, _, _ => none
 | k + 1, x33, QG, QH, QI, QJ, QK, QL, r_, QM, QN, QO, QP, QQ, QR, uJ => if x33 = true then (some false) else (lT.l0 k (r_.length : Int) 0 QG QH QI QJ QK QL r_ QM QN QO QP QQ QR uJ)
def lT.l0 : Nat → Int → Int → Int → Int → Int → Int → Int → Int → List (aI) → Int → Int → Int → Int → Int → Int → List (aI) → Option (Bool)
 | 0, _, _, _, _, _, _, _, _, _, _, _, _, _, _, _, _ => none
 | k + 1, x36, xZ, QG, QH, QI, QJ, QK, QL, r_, QM, QN, QO, QP, QQ, QR, uJ => if xZ < x36 then (if 0 ≤ xZ then (if xZ < (r_.length : Int) then (if xZ < (uJ.length : Int) then ((lT.f k ((au r_ xZ).f0) ((au r_ xZ).f1.f0) ((au r_ xZ).f1.f1) ((au r_ xZ).f1.f2) ((au r_ xZ).f1.f3) ((au r_ xZ).f2) ((au r_ xZ).f3) ((au uJ xZ).f0) ((au uJ xZ).f1.f0) ((au uJ xZ).f1.f1) ((au uJ xZ).f1.f2) ((au uJ xZ).f1.f3) ((au uJ xZ).f2) ((au uJ xZ).f3)).bind fun apu => (if apu = true then (lT.l0 k x36 (wrap64 (xZ + 1)) QG QH QI QJ QK QL r_ QM QN QO QP QQ QR uJ) else (some false))) else (none)) else (none)) else (none)) else (some true)
def lT.f : Nat → Int → Int → Int → Int → Int → Int → List (aI) → Int → Int → Int → Int → Int → Int → List (aI) → Option (Bool)
 | 0, _, _, _, _, _, _, _, _, _, _, _, _, _, _ => none
 | k + 1, az, aC, aA, aG, aT, aU, aj, Td, Tf, Ti, Tj, Tm, Tn, UQ => if az = Td then (if (!(aC == Tf) || (!(aA == Ti) || (!(aG == Tj) || (!(aT == Tm))))) = true then (lT.j0 k true az aC aA aG aT aU aj Td Tf Ti Tj Tm Tn UQ) else (if aU = Tn then (lT.j0 k ((aj.length : Int) != (UQ.length : Int)) az aC aA aG aT aU aj Td Tf Ti Tj Tm Tn UQ) else (lT.j0 k true az aC aA aG aT aU aj Td Tf Ti Tj Tm Tn UQ))) else (lT.j0 k true az aC aA aG aT aU aj Td Tf Ti Tj Tm Tn UQ)
end
def lT.T6 : Bool × List (List Nat × List Nat) := (true, [([], []), ([0], [0]), ([], []), ([1, 2], [1, 2]), ([3], [3]), ([], []), ([5], [5]), ([], []), ([6, 7], [6, 7]), ([8], [8]), ([4, 9], [4, 9]), ([10], [10])])
def lT.B6 : List Nat := [0, 1, 0, 7, 15, 0, 32, 0, 224, 480, 1023, 2047]
end Go.Proofs.Ytfdmfgaiblfbhaa.P
namespace Go.Proofs.Ytfdmfgaiblfbhaa.P
open Go.RowKit Go.Proofs.ai.bg Go.Proofs.ai.di Go.Proofs.ai.dG
def tC (a b : bC) : Bool := a.f0 == b.f0 && (a.f1 == b.f1 && (a.f2 == b.f2 && a.f3 == b.f3))
mutual
def yc : aI → aI → Bool
 | ⟨a, r, d, l⟩, ⟨a', r', d', l'⟩ => a == a' && (tC r r' && (d == d' && (l.length == l'.length && xC l l')))
def xC : List aI → List aI → Bool
 | [], _ => true
 | _ :: _, [] => true
 | c :: cs, e :: es => yc c e && xC cs es
end
theorem U_ (a b : aI) : yc a b = (a.f0 == b.f0 && (tC a.f1 b.f1 && (a.f2 == b.f2 && (a.f3.length == b.f3.length && xC a.f3 b.f3)))) := by cases a; cases b; simp [yc]
theorem BA (b : List aI) : xC [] b = true := by cases b <;> simp [xC]
theorem zK (c e : aI) (cs es : List aI) : xC (c :: cs) (e :: es) = (yc c e && xC cs es) := by simp [xC]
theorem ZA : ∀ (N : Nat), (∀ c : aI, sz c ≤ N → yc c c = true) ∧ (∀ l : List aI, jw l ≤ N → xC l l = true) := by
 intro N
 induction N with
 | zero =>
  refine ⟨fun c h => ?_, fun l h => ?_⟩
  ·rw [gm] at h; omega
  ·cases l with
   | nil => exact BA _
   | cons x xs => rw [gz, gm] at h; omega
 | succ N ih =>
  have hC : ∀ c : aI, sz c ≤ N + 1 → yc c c = true := by
   intro c h
   rw [gm] at h
   rw [U_, ih.2 c.f3 (by omega)]
   simp [tC]
  refine ⟨hC, fun l => ?_⟩
  induction l with
  | nil => intro _; exact BA _
  | cons x xs ihl =>
   intro h
   rw [gz] at h
   rw [zK, hC x (by omega), ihl (by omega)]
   rfl
end Go.Proofs.Ytfdmfgaiblfbhaa.P
namespace Go.Proofs.Ytfdmfgaiblfbhaa.P
open Go.RowKit Go.Proofs.ai.bg Go.Proofs.ai.di Go.Proofs.ai.dG
attribute [local go_sem] kD kF lN lQ jF jG kE kG
def lg.l0 : Nat → List Int → List (aI) → Int → Int → Int → Int → Int → Int → Int → Int → List (aI) → Option ((List (bC)) × (List (bC)) × Bool)
 | 0, _, _, _, _, _, _, _, _, _, _, _ => none
 | k + 1, x5, x9, x10, x11, Ib, MJ, MK, ML, MM, Vs, Vt => if x11 < x10 then (if 0 ≤ x11 then (if x11 < (x9.length : Int) then (if Ib = 2 then (if x5.length < 17592186044416 then (lg.l0 k (x5 ++ [(au x9 x11).f1.f2]) x9 x10 (wrap64 (x11 + 1)) Ib MJ MK ML MM Vs Vt) else (none)) else (if x5.length < 17592186044416 then (lg.l0 k (x5 ++ [(au x9 x11).f1.f3]) x9 x10 (wrap64 (x11 + 1)) Ib MJ MK ML MM Vs Vt) else (none))) else (none)) else (none)) else ((bW.f k MJ MK ML MM ((((Ib - 2) % 256) + 1) % 256) x5).bind fun TA => (some (TA.1, TA.2.1, TA.2.2)))
def lg.f (k : Nat) (az : Int) (aC : Int) (aA : Int) (aG : Int) (aT : Int) (aU : Int) (aj : List (aI)) : Option ((List (bC)) × (List (bC)) × Bool) := lg.l0 k ([] : List Int) aj (aj.length : Int) 0 az aC aA aG aT aU aj
theorem lg.calls (k : Nat) (az : Int) (aC : Int) (aA : Int) (aG : Int) (aT : Int) (aU : Int) (bT : Option Addr) (bJ : Nat) (aj : List (aI)) (r1 : List (bC)) (r2 : List (bC)) (r3 : Bool) (w : World) (kJ : Kd.C k26 w bT aj.length aj) (lq : aj.length ≤ bJ) (h : lg.f k az aC aA aG aT aU aj = some (r1, r2, r3)) :
  Calls Try.prog 210 #[.agg #[.int .u8 az, .int .i64 aC, .int .i64 aA, .int .i64 aG, .int .i64 aT, .int .i64 aU, .slice bT aj.length bJ]] w fun e w' => ∃ ng KU : Value, e = .returned (.tuple #[ng, KU, .bool r3]) ∧ Kd.R k23 23 w' w.heap.size (fun k_ => some k_ ≠ (KU : Value).ownBlock) ng r1 ∧ Kd.R k23 23 w' w.heap.size (fun k_ => some k_ ≠ (ng : Value).ownBlock) KU r2 ∧ Below w.heap.size w w' := by
 have Ae := Try.underlying26
 have EX := Try.underlying23
 have lF := ae.mk kJ
 clear kJ lq
 have HB := ae.mk (Below.refl w.heap.size w)
 have H : (lg.l0 k ([] : List Int) aj (aj.length : Int) 0 az aC aA aG aT aU aj) = some (r1, r2, r3) := h
 clear h
 have H' := ae.mk H
 clear H
 go_enter Try.func210, Try.ntmps210
 go_wp2_with (((with_reducible refine aQ (N := 1) rfl ?_); refine aX ?hg (N := 1) ?hd (cs := #[.int .u8 az, .int .i64 aC, .int .i64 aA, .int .i64 aG, .int .i64 aT, .int .i64 aU, .slice bT aj.length bJ]) (t := 26) ?hr ?_; (case hd => rfl); (case hg => rfl); (case hr => (go_simp; done)); intro jE hg w2 hbox hb; have dJ := ae.mk (hbox); replace HB := ae.mk (aH (by repeat ((with_reducible exact HB.out))) hb); clear hb hbox hg; have TY : w2.cell? ⟨jE, 0, none⟩ = some (.int .u8 az) := (af dJ.out 0).trans rfl; have TZ : w2.cell? ⟨jE, 1, none⟩ = some (.int .i64 aC) := (af dJ.out 1).trans rfl; have T_ : w2.cell? ⟨jE, 2, none⟩ = some (.int .i64 aA) := (af dJ.out 2).trans rfl; have Ua : w2.cell? ⟨jE, 3, none⟩ = some (.int .i64 aG) := (af dJ.out 3).trans rfl; have Ub : w2.cell? ⟨jE, 4, none⟩ = some (.int .i64 aT) := (af dJ.out 4).trans rfl; have Uc : w2.cell? ⟨jE, 5, none⟩ = some (.int .i64 aU) := (af dJ.out 5).trans rfl; have Ud : w2.cell? ⟨jE, 6, none⟩ = some (.slice bT aj.length bJ) := (af dJ.out 6).trans rfl; have Um := ag dJ.out 0; have Un := ag dJ.out 1; have Uo := ag dJ.out 2; have Ur := ag dJ.out 3; have Us := ag dJ.out 4; have Ut := ag dJ.out 5; have Uu := ag dJ.out 6))
 go_loopg [5, 11] k (fun kq v5 v11 w' => ∃ (gV : List Int) (bf : Int), v11 = .int .i64 bf ∧ ae (lg.l0 kq gV aj (aj.length : Int) bf az aC aA aG aT aU aj = some (r1, r2, r3)) ∧ ae (kq ≤ k) ∧ ae (Kd.R (Kd.int .i64) 3 w' w.heap.size (fun _ => True) v5 gV) ∧ ae (w'.heap[jE]? = some (.cells #[.int .u8 az, .int .i64 aC, .int .i64 aA, .int .i64 aG, .int .i64 aT, .int .i64 aU, (.slice bT aj.length bJ)] 26 (0, 0))) ∧ ae (Below w.heap.size w w'))
 case atStart => exact ⟨(([] : List Int)), (0), (by rfl), H', ⟨Nat.le_refl _⟩, ⟨by exact Kd.nI _ _ _ _ _⟩, ⟨by exact dJ.out⟩, ⟨by repeat ((with_reducible exact HB.out))⟩⟩
 case round =>
  clear H'
  clear TY TZ T_ Ua Ub Uc Ud Um Un Uo Ur Us Ut Uu
  obtain ⟨gV, bf, rfl, HA, jI, iy, dJ, HB⟩ := hrel
  cases gk with
  | zero => exact absurd HA.out (by simp [lg.l0])
  | succ k1 =>
   have H := HA.out
   clear HA
   simp only [lg.l0] at H
   by_cases c4 : bf < (aj.length : Int)
   ·rw [if_pos c4] at H
    have zy : decide (bf < (aj.length : Int)) = true := decide_eq_true c4
    clear c4
    by_cases c5 : 0 ≤ bf
    ·rw [if_pos c5] at H
     have ET : decide (0 ≤ bf) = true := decide_eq_true c5
     clear c5
     by_cases c6 : bf < (aj.length : Int)
     ·rw [if_pos c6] at H
      have wS : decide (bf < (aj.length : Int)) = true := decide_eq_true c6
      clear c6
      by_cases c7 : az = 2
      ·rw [if_pos c7] at H
       have t_ : (az == 2) = true := beq_iff_eq.mpr c7
       have Iz : (az != 2) = false := bne_eq_false_iff_eq.mpr c7
       clear c7
       by_cases c8 : gV.length < 17592186044416
       ·rw [if_pos c8] at H
        have aoI := ae.mk c8
        clear c8
        obtain ⟨afx, UJ⟩ : ∃ y_ : List Int, y_ = (gV ++ [(au aj bf).f1.f2]) := ⟨_, rfl⟩
        replace H : (lg.l0 k1 afx aj (aj.length : Int) (wrap64 (bf + 1)) az aC aA aG aT aU aj) = some (r1, r2, r3) := by (rw [UJ]; with_reducible exact H)
        have ajy := ae.mk UJ
        clear UJ
        have H' := ae.mk H
        clear H
        have Hz : 0 ≤ (bf : Int) := of_decide_eq_true (by (with_reducible assumption))
        have H6 : bf < (aj.length : Int) := of_decide_eq_true (by (with_reducible assumption))
        obtain ⟨Ir, Fb, FC, YG, yj, yl, yt, yu, yw, yx, yz, LC, Lu⟩ := nV lF.out bf Hz H6
        cases YG
        replace yj := (HB.out.cell (World.block_lt_of_cell? w _ yj)).trans yj
        replace yl := (HB.out.cell (World.block_lt_of_cell? w _ yl)).trans yl
        replace yt := (HB.out.cell (World.block_lt_of_cell? w _ yt)).trans yt
        replace yu := (HB.out.cell (World.block_lt_of_cell? w _ yu)).trans yu
        replace yw := (HB.out.cell (World.block_lt_of_cell? w _ yw)).trans yw
        replace yx := (HB.out.cell (World.block_lt_of_cell? w _ yx)).trans yx
        replace yz := (HB.out.cell (World.block_lt_of_cell? w _ yz)).trans yz
        clear Lu LC
        replace Hz := eq_true Hz
        replace H6 := eq_true H6
        go_wp2_with (first | ((with_reducible refine aQ (N := 7) rfl ?_); refine aX ?hg (N := 7) ?hd (cs := #[.int .u8 0, .int .i64 0, .int .i64 0, .int .i64 0, .int .i64 0, .int .i64 0, .slice none 0 0]) (t := 26) ?hr ?_; (case hd => rfl); (case hg => rfl); (case hr => (go_simp; done)); intro jk hg w9 hbox hb; have jf := ae.mk (hbox); have Ik := ae.mk ((by rw [hg]; exact (aY (by repeat ((with_reducible exact HB.out)))) : w.heap.size ≤ jk)); have ku := ae.mk ((by rw [hg]; exact Nat.ne_of_lt (eP dJ.out) : jE ≠ jk)); have ES := ae.mk ((by rw [hg]; exact Nat.ne_of_gt (eP dJ.out) : jk ≠ jE)); replace iy := ae.mk (Kd.fJ iy.out hb); replace dJ := ae.mk (aK dJ.out hb); replace HB := ae.mk (aH (by repeat ((with_reducible exact HB.out))) hb); clear hb hbox hg; have anG := ES.out; have anH := ku.out; have yJ : w9.cell? ⟨jk, 0, none⟩ = some (.int .u8 0) := (af jf.out 0).trans rfl; have yK : w9.cell? ⟨jk, 1, none⟩ = some (.int .i64 0) := (af jf.out 1).trans rfl; have yL : w9.cell? ⟨jk, 2, none⟩ = some (.int .i64 0) := (af jf.out 2).trans rfl; have yM : w9.cell? ⟨jk, 3, none⟩ = some (.int .i64 0) := (af jf.out 3).trans rfl; have FM : w9.cell? ⟨jk, 4, none⟩ = some (.int .i64 0) := (af jf.out 4).trans rfl; have FN : w9.cell? ⟨jk, 5, none⟩ = some (.int .i64 0) := (af jf.out 5).trans rfl; have FO : w9.cell? ⟨jk, 6, none⟩ = some (.slice none 0 0) := (af jf.out 6).trans rfl; have yO := ag jf.out 0; have yP := ag jf.out 1; have yQ := ag jf.out 2; have yR := ag jf.out 3; have FV := ag jf.out 4; have FW := ag jf.out 5; have FX := ag jf.out 6; have Wh : w9.cell? ⟨jE, 0, none⟩ = some (.int .u8 az) := (af dJ.out 0).trans rfl; have Wi : w9.cell? ⟨jE, 1, none⟩ = some (.int .i64 aC) := (af dJ.out 1).trans rfl; have Wj : w9.cell? ⟨jE, 2, none⟩ = some (.int .i64 aA) := (af dJ.out 2).trans rfl; have Wl : w9.cell? ⟨jE, 3, none⟩ = some (.int .i64 aG) := (af dJ.out 3).trans rfl; have afY : w9.cell? ⟨jE, 4, none⟩ = some (.int .i64 aT) := (af dJ.out 4).trans rfl; have afZ : w9.cell? ⟨jE, 5, none⟩ = some (.int .i64 aU) := (af dJ.out 5).trans rfl; have af0 : w9.cell? ⟨jE, 6, none⟩ = some (.slice (some Ir) aj.length bJ) := (af dJ.out 6).trans rfl; have WR := ag dJ.out 0; have WS := ag dJ.out 1; have WT := ag dJ.out 2; have WU := ag dJ.out 3; have agO := ag dJ.out 4; have agP := ag dJ.out 5; have agQ := ag dJ.out 6) | ((with_reducible refine ji (b := .append) (xs := #[.tmp 18, .tmp 22]) rfl ?_); at_builtin; refine Kd.oG (Kd.int .i64) (w0 := w) w.heap.size rfl (.tmp 18) (.tmp 22) 41 3 (.int .i64 0) 8 rfl Try.underlying41 info3 rfl (by decide) (by omega) u5 gV ((au aj bf).f1.f2) [.int .i64 ((au aj bf).f1.f2)] (fun _ => True) (fun _ => False) rfl (by (go_simp; done)) ?aP (fun _ hk => hk.elim) ?aF ?aO ?aB ?aS ?aL ?_; (case aP => exact rfl); (case aB => exact (by repeat ((with_reducible first | exact HB.out | refine iw ?_ Ik.out)))); (case aF => exact (fun _ _ => trivial)); (case aO => exact (by exact Kd.cZ (Kd.eF (p := ⟨jk, 6, none⟩) (Kd.eF (p := ⟨jk, 5, none⟩) (Kd.eF (p := ⟨jk, 4, none⟩) (Kd.eF (p := ⟨jk, 3, none⟩) (Kd.eF (p := ⟨jk, 2, none⟩) (Kd.eF (p := ⟨jk, 1, none⟩) (Kd.eF (p := ⟨jk, 0, none⟩) (Kd.VO iy.out jf.out (by decide)) (fun _ hk => hk.2) (.int .u8 ((au aj bf).f0))) (fun _ hk => hk.2) (.int .i64 ((au aj bf).f1.f0))) (fun _ hk => hk.2) (.int .i64 ((au aj bf).f1.f1))) (fun _ hk => hk.2) (.int .i64 ((au aj bf).f1.f2))) (fun _ hk => hk.2) (.int .i64 ((au aj bf).f1.f3))) (fun _ hk => hk.2) (.int .i64 ((au aj bf).f2))) (fun _ hk => hk.2) (.slice Fb ((au aj bf).f3).length FC)) (fun _ hk => trivial))); (case aS => exact (aY (by repeat ((with_reducible first | exact HB.out | refine iw ?_ Ik.out))))); (case aL => have := aoI.out; omega); intro av5 qI ho hb hg hat; rw [← ajy.out] at ho; have ajn := ae.mk (ho); replace dJ := ae.mk (bZ (g := jE) (o := .cells #[.int .u8 az, .int .i64 aC, .int .i64 aA, .int .i64 aG, .int .i64 aT, .int .i64 aU, .slice (some Ir) aj.length bJ] 26 (0, 0)) (by refine bz ?_ ku.out _; refine bz ?_ ku.out _; refine bz ?_ ku.out _; refine bz ?_ ku.out _; refine bz ?_ ku.out _; refine bz ?_ ku.out _; refine bz ?_ ku.out _; exact dJ.out) hg (Kd.zq iy.out dJ.out (by decide))); replace jf := ae.mk (bZ (g := jk) (o := .cells #[.int .u8 ((au aj bf).f0), .int .i64 ((au aj bf).f1.f0), .int .i64 ((au aj bf).f1.f1), .int .i64 ((au aj bf).f1.f2), .int .i64 ((au aj bf).f1.f3), .int .i64 ((au aj bf).f2), .slice Fb ((au aj bf).f3).length FC] 26 (0, 0)) (by refine bM (cs := #[.int .u8 ((au aj bf).f0), .int .i64 ((au aj bf).f1.f0), .int .i64 ((au aj bf).f1.f1), .int .i64 ((au aj bf).f1.f2), .int .i64 ((au aj bf).f1.f3), .int .i64 ((au aj bf).f2), .slice none 0 0]) ?_ 6 _ rfl; refine bM (cs := #[.int .u8 ((au aj bf).f0), .int .i64 ((au aj bf).f1.f0), .int .i64 ((au aj bf).f1.f1), .int .i64 ((au aj bf).f1.f2), .int .i64 ((au aj bf).f1.f3), .int .i64 0, .slice none 0 0]) ?_ 5 _ rfl; refine bM (cs := #[.int .u8 ((au aj bf).f0), .int .i64 ((au aj bf).f1.f0), .int .i64 ((au aj bf).f1.f1), .int .i64 ((au aj bf).f1.f2), .int .i64 0, .int .i64 0, .slice none 0 0]) ?_ 4 _ rfl; refine bM (cs := #[.int .u8 ((au aj bf).f0), .int .i64 ((au aj bf).f1.f0), .int .i64 ((au aj bf).f1.f1), .int .i64 0, .int .i64 0, .int .i64 0, .slice none 0 0]) ?_ 3 _ rfl; refine bM (cs := #[.int .u8 ((au aj bf).f0), .int .i64 ((au aj bf).f1.f0), .int .i64 0, .int .i64 0, .int .i64 0, .int .i64 0, .slice none 0 0]) ?_ 2 _ rfl; refine bM (cs := #[.int .u8 ((au aj bf).f0), .int .i64 0, .int .i64 0, .int .i64 0, .int .i64 0, .int .i64 0, .slice none 0 0]) ?_ 1 _ rfl; refine bM (cs := #[.int .u8 0, .int .i64 0, .int .i64 0, .int .i64 0, .int .i64 0, .int .i64 0, .slice none 0 0]) ?_ 0 _ rfl; exact jf.out) hg (Kd.zq iy.out jf.out (by decide))); replace HB := ae.mk (hb); clear iy; clear ho hb hg hat))
        go_roundg k1
        case measure => have := jI.out; omega
        case rel => exact ⟨(afx), (wrap64 (bf + 1)), (by rfl), H', ⟨by have := jI.out; omega⟩, ⟨by exact ajn.out⟩, ⟨by exact dJ.out⟩, ⟨by repeat ((with_reducible exact HB.out))⟩⟩
       ·rw [if_neg c8] at H
        exact absurd H (by simp)
      ·rw [if_neg c7] at H
       have t_ : (az == 2) = false := beq_eq_false_iff_ne.mpr c7
       have Iz : (az != 2) = true := bne_iff_ne.mpr c7
       by_cases c14 : gV.length < 17592186044416
       ·rw [if_pos c14] at H
        have ami := ae.mk c14
        clear c14
        obtain ⟨afy, UK⟩ : ∃ y_ : List Int, y_ = (gV ++ [(au aj bf).f1.f3]) := ⟨_, rfl⟩
        replace H : (lg.l0 k1 afy aj (aj.length : Int) (wrap64 (bf + 1)) az aC aA aG aT aU aj) = some (r1, r2, r3) := by (rw [UK]; with_reducible exact H)
        have ajz := ae.mk UK
        clear UK
        have H' := ae.mk H
        clear H
        have Hz : 0 ≤ (bf : Int) := of_decide_eq_true (by (with_reducible assumption))
        have H6 : bf < (aj.length : Int) := of_decide_eq_true (by (with_reducible assumption))
        obtain ⟨Ir, Fb, FC, YG, yj, yl, yt, yu, yw, yx, yz, LC, Lu⟩ := nV lF.out bf Hz H6
        cases YG
        replace yj := (HB.out.cell (World.block_lt_of_cell? w _ yj)).trans yj
        replace yl := (HB.out.cell (World.block_lt_of_cell? w _ yl)).trans yl
        replace yt := (HB.out.cell (World.block_lt_of_cell? w _ yt)).trans yt
        replace yu := (HB.out.cell (World.block_lt_of_cell? w _ yu)).trans yu
        replace yw := (HB.out.cell (World.block_lt_of_cell? w _ yw)).trans yw
        replace yx := (HB.out.cell (World.block_lt_of_cell? w _ yx)).trans yx
        replace yz := (HB.out.cell (World.block_lt_of_cell? w _ yz)).trans yz
        clear Lu LC
        replace Hz := eq_true Hz
        replace H6 := eq_true H6
        go_wp2_with (first | ((with_reducible refine aQ (N := 7) rfl ?_); refine aX ?hg (N := 7) ?hd (cs := #[.int .u8 0, .int .i64 0, .int .i64 0, .int .i64 0, .int .i64 0, .int .i64 0, .slice none 0 0]) (t := 26) ?hr ?_; (case hd => rfl); (case hg => rfl); (case hr => (go_simp; done)); intro jk hg pz hbox hb; have jf := ae.mk (hbox); have Ik := ae.mk ((by rw [hg]; exact (aY (by repeat ((with_reducible exact HB.out)))) : w.heap.size ≤ jk)); have ku := ae.mk ((by rw [hg]; exact Nat.ne_of_lt (eP dJ.out) : jE ≠ jk)); have ES := ae.mk ((by rw [hg]; exact Nat.ne_of_gt (eP dJ.out) : jk ≠ jE)); replace iy := ae.mk (Kd.fJ iy.out hb); replace dJ := ae.mk (aK dJ.out hb); replace HB := ae.mk (aH (by repeat ((with_reducible exact HB.out))) hb); clear hb hbox hg; have avd := ES.out; have avD := ku.out; have age : pz.cell? ⟨jk, 0, none⟩ = some (.int .u8 0) := (af jf.out 0).trans rfl; have agf : pz.cell? ⟨jk, 1, none⟩ = some (.int .i64 0) := (af jf.out 1).trans rfl; have agh : pz.cell? ⟨jk, 2, none⟩ = some (.int .i64 0) := (af jf.out 2).trans rfl; have agi : pz.cell? ⟨jk, 3, none⟩ = some (.int .i64 0) := (af jf.out 3).trans rfl; have agj : pz.cell? ⟨jk, 4, none⟩ = some (.int .i64 0) := (af jf.out 4).trans rfl; have agk : pz.cell? ⟨jk, 5, none⟩ = some (.int .i64 0) := (af jf.out 5).trans rfl; have agl : pz.cell? ⟨jk, 6, none⟩ = some (.slice none 0 0) := (af jf.out 6).trans rfl; have ag5 := ag jf.out 0; have ag6 := ag jf.out 1; have ag7 := ag jf.out 2; have ag8 := ag jf.out 3; have ag9 := ag jf.out 4; have ag_ := ag jf.out 5; have ag' := ag jf.out 6; have O0 : pz.cell? ⟨jE, 0, none⟩ = some (.int .u8 az) := (af dJ.out 0).trans rfl; have O1 : pz.cell? ⟨jE, 1, none⟩ = some (.int .i64 aC) := (af dJ.out 1).trans rfl; have O3 : pz.cell? ⟨jE, 2, none⟩ = some (.int .i64 aA) := (af dJ.out 2).trans rfl; have O4 : pz.cell? ⟨jE, 3, none⟩ = some (.int .i64 aG) := (af dJ.out 3).trans rfl; have apQ : pz.cell? ⟨jE, 4, none⟩ = some (.int .i64 aT) := (af dJ.out 4).trans rfl; have apR : pz.cell? ⟨jE, 5, none⟩ = some (.int .i64 aU) := (af dJ.out 5).trans rfl; have apS : pz.cell? ⟨jE, 6, none⟩ = some (.slice (some Ir) aj.length bJ) := (af dJ.out 6).trans rfl; have Pj := ag dJ.out 0; have Pm := ag dJ.out 1; have Pn := ag dJ.out 2; have Po := ag dJ.out 3; have aq2 := ag dJ.out 4; have aq3 := ag dJ.out 5; have aq4 := ag dJ.out 6) | ((with_reducible refine ji (b := .append) (xs := #[.tmp 24, .tmp 28]) rfl ?_); at_builtin; refine Kd.oG (Kd.int .i64) (w0 := w) w.heap.size rfl (.tmp 24) (.tmp 28) 41 3 (.int .i64 0) 8 rfl Try.underlying41 info3 rfl (by decide) (by omega) u5 gV ((au aj bf).f1.f3) [.int .i64 ((au aj bf).f1.f3)] (fun _ => True) (fun _ => False) rfl (by (go_simp; done)) ?aP (fun _ hk => hk.elim) ?aF ?aO ?aB ?aS ?aL ?_; (case aP => exact rfl); (case aB => exact (by repeat ((with_reducible first | exact HB.out | refine iw ?_ Ik.out)))); (case aF => exact (fun _ _ => trivial)); (case aO => exact (by exact Kd.cZ (Kd.eF (p := ⟨jk, 6, none⟩) (Kd.eF (p := ⟨jk, 5, none⟩) (Kd.eF (p := ⟨jk, 4, none⟩) (Kd.eF (p := ⟨jk, 3, none⟩) (Kd.eF (p := ⟨jk, 2, none⟩) (Kd.eF (p := ⟨jk, 1, none⟩) (Kd.eF (p := ⟨jk, 0, none⟩) (Kd.VO iy.out jf.out (by decide)) (fun _ hk => hk.2) (.int .u8 ((au aj bf).f0))) (fun _ hk => hk.2) (.int .i64 ((au aj bf).f1.f0))) (fun _ hk => hk.2) (.int .i64 ((au aj bf).f1.f1))) (fun _ hk => hk.2) (.int .i64 ((au aj bf).f1.f2))) (fun _ hk => hk.2) (.int .i64 ((au aj bf).f1.f3))) (fun _ hk => hk.2) (.int .i64 ((au aj bf).f2))) (fun _ hk => hk.2) (.slice Fb ((au aj bf).f3).length FC)) (fun _ hk => trivial))); (case aS => exact (aY (by repeat ((with_reducible first | exact HB.out | refine iw ?_ Ik.out))))); (case aL => have := ami.out; omega); intro av6 GL ho hb hg hat; rw [← ajz.out] at ho; have ajo := ae.mk (ho); replace dJ := ae.mk (bZ (g := jE) (o := .cells #[.int .u8 az, .int .i64 aC, .int .i64 aA, .int .i64 aG, .int .i64 aT, .int .i64 aU, .slice (some Ir) aj.length bJ] 26 (0, 0)) (by refine bz ?_ ku.out _; refine bz ?_ ku.out _; refine bz ?_ ku.out _; refine bz ?_ ku.out _; refine bz ?_ ku.out _; refine bz ?_ ku.out _; refine bz ?_ ku.out _; exact dJ.out) hg (Kd.zq iy.out dJ.out (by decide))); replace jf := ae.mk (bZ (g := jk) (o := .cells #[.int .u8 ((au aj bf).f0), .int .i64 ((au aj bf).f1.f0), .int .i64 ((au aj bf).f1.f1), .int .i64 ((au aj bf).f1.f2), .int .i64 ((au aj bf).f1.f3), .int .i64 ((au aj bf).f2), .slice Fb ((au aj bf).f3).length FC] 26 (0, 0)) (by refine bM (cs := #[.int .u8 ((au aj bf).f0), .int .i64 ((au aj bf).f1.f0), .int .i64 ((au aj bf).f1.f1), .int .i64 ((au aj bf).f1.f2), .int .i64 ((au aj bf).f1.f3), .int .i64 ((au aj bf).f2), .slice none 0 0]) ?_ 6 _ rfl; refine bM (cs := #[.int .u8 ((au aj bf).f0), .int .i64 ((au aj bf).f1.f0), .int .i64 ((au aj bf).f1.f1), .int .i64 ((au aj bf).f1.f2), .int .i64 ((au aj bf).f1.f3), .int .i64 0, .slice none 0 0]) ?_ 5 _ rfl; refine bM (cs := #[.int .u8 ((au aj bf).f0), .int .i64 ((au aj bf).f1.f0), .int .i64 ((au aj bf).f1.f1), .int .i64 ((au aj bf).f1.f2), .int .i64 0, .int .i64 0, .slice none 0 0]) ?_ 4 _ rfl; refine bM (cs := #[.int .u8 ((au aj bf).f0), .int .i64 ((au aj bf).f1.f0), .int .i64 ((au aj bf).f1.f1), .int .i64 0, .int .i64 0, .int .i64 0, .slice none 0 0]) ?_ 3 _ rfl; refine bM (cs := #[.int .u8 ((au aj bf).f0), .int .i64 ((au aj bf).f1.f0), .int .i64 0, .int .i64 0, .int .i64 0, .int .i64 0, .slice none 0 0]) ?_ 2 _ rfl; refine bM (cs := #[.int .u8 ((au aj bf).f0), .int .i64 0, .int .i64 0, .int .i64 0, .int .i64 0, .int .i64 0, .slice none 0 0]) ?_ 1 _ rfl; refine bM (cs := #[.int .u8 0, .int .i64 0, .int .i64 0, .int .i64 0, .int .i64 0, .int .i64 0, .slice none 0 0]) ?_ 0 _ rfl; exact jf.out) hg (Kd.zq iy.out jf.out (by decide))); replace HB := ae.mk (hb); clear iy; clear ho hb hg hat))
        go_roundg k1
        case measure => have := jI.out; omega
        case rel => exact ⟨(afy), (wrap64 (bf + 1)), (by rfl), H', ⟨by have := jI.out; omega⟩, ⟨by exact ajo.out⟩, ⟨by exact dJ.out⟩, ⟨by repeat ((with_reducible exact HB.out))⟩⟩
       ·rw [if_neg c14] at H
        exact absurd H (by simp)
     ·rw [if_neg c6] at H
      exact absurd H (by simp)
    ·rw [if_neg c5] at H
     exact absurd H (by simp)
   ·rw [if_neg c4] at H
    have zy : decide (bf < (aj.length : Int)) = false := decide_eq_false c4
    clear c4
    replace H := Option.bind_eq_some_iff.mp H
    obtain ⟨⟨afh, afi, afj⟩, ai0, H⟩ := H
    replace H : (some (afh, afi, afj)) = some (r1, r2, r3) := H
    have BU := ae.mk ai0
    clear ai0
    simp only [Option.some.injEq, Prod.mk.injEq] at H
    obtain ⟨rfl, rfl, rfl⟩ := H
    have Wy : wr.cell? ⟨jE, 0, none⟩ = some (.int .u8 az) := (af dJ.out 0).trans rfl
    have WA : wr.cell? ⟨jE, 1, none⟩ = some (.int .i64 aC) := (af dJ.out 1).trans rfl
    have WB : wr.cell? ⟨jE, 2, none⟩ = some (.int .i64 aA) := (af dJ.out 2).trans rfl
    have WC : wr.cell? ⟨jE, 3, none⟩ = some (.int .i64 aG) := (af dJ.out 3).trans rfl
    have WE : wr.cell? ⟨jE, 4, none⟩ = some (.int .i64 aT) := (af dJ.out 4).trans rfl
    have WG : wr.cell? ⟨jE, 5, none⟩ = some (.int .i64 aU) := (af dJ.out 5).trans rfl
    have WH : wr.cell? ⟨jE, 6, none⟩ = some (.slice bT aj.length bJ) := (af dJ.out 6).trans rfl
    have Xa := ag dJ.out 0
    have Xb := ag dJ.out 1
    have Xc := ag dJ.out 2
    have Xd := ag dJ.out 3
    have Xe := ag dJ.out 4
    have Xf := ag dJ.out 5
    have Xg := ag dJ.out 6
    obtain ⟨ai6, aj_, acI⟩ := Kd.iJ iy.out
    subst acI
    go_wp2_with (((with_reducible refine dn (f := 45) rfl ?_); refine gu (some 38) rfl rfl Try.func45 (by kernel_rfl) rfl #[.agg #[.int .i64 aC, .int .i64 aA, .int .i64 aG, .int .i64 aT], .int .u8 ((((az - 2) % 256) + 1) % 256), .slice ai6 gV.length aj_] rfl (by (try simp only [List.map_toArray, List.map_cons, List.map_nil]); rfl) ?_; (with_reducible refine (bW.calls k1 aC aA aG aT ((((az - 2) % 256) + 1) % 256) _ _ gV afh afi afj _ ?fO ?gG BU.out).mono ?_); (case fO => repeat (exact (Kd.dH iy.out).2.2)); (case gG => exact (Kd.dH iy.out).2.1); rintro e JG ⟨av7, av8, rfl, ho0, ho1, hb⟩; refine ⟨_, rfl, ?_⟩; have ajp := ae.mk (Kd.iQ ho0 (aY (by repeat ((with_reducible exact HB.out))))); have ajq := ae.mk (Kd.iQ ho1 (aY (by repeat ((with_reducible exact HB.out))))); replace iy := ae.mk (Kd.fJ iy.out hb); replace dJ := ae.mk (aK dJ.out hb); replace HB := ae.mk (aH (by repeat ((with_reducible exact HB.out))) hb); (try clear hb); (try clear ho0); (try clear ho1)))
    go_ret3
    exact ⟨_, _, by rfl, by exact ajp.out, by exact ajq.out, by repeat ((with_reducible exact HB.out))⟩
end Go.Proofs.Ytfdmfgaiblfbhaa.P
namespace Go.Proofs.Ytfdmfgaiblfbhaa.P
open Go.RowKit Go.Proofs.ai.bg Go.Proofs.ai.di Go.Proofs.ai.dG
theorem aj9 (ak ax ay aw ah VQ bx bY bw bh : Int) (A : Option Addr) (la : List aI) (ca : Nat) (w : World) :
  Calls Try.prog 212 #[.agg #[.int .u8 ak, .int .i64 ax, .int .i64 ay, .int .i64 aw, .int .i64 ah, .int .i64 VQ, .slice A la.length ca], .agg #[.int .i64 bx, .int .i64 bY, .int .i64 bw, .int .i64 bh]] w fun e w' => e = .returned (.bool (tC ⟨ax, ay, aw, ah⟩ ⟨bx, bY, bw, bh⟩)) ∧ Below w.heap.size w w' := by
 have HB := ae.mk (Below.refl w.heap.size w)
 have EX := Try.underlying23
 simp only [tC]
 by_cases e_ : ax = bx
 rotate_left
 ·have k_ : (ax == bx) = false := beq_eq_false_iff_ne.mpr e_
  clear e_
  simp only [k_, beq_self_eq_true, Bool.true_and, Bool.false_and, Bool.and_false]
  go_enter Try.func212, Try.ntmps212
  go_wp2_with (first | ((with_reducible refine aQ (N := 2) rfl ?_); refine aX ?hg (N := 2) ?hd (cs := #[.int .u8 ak, .int .i64 ax, .int .i64 ay, .int .i64 aw, .int .i64 ah, .int .i64 VQ, .slice A la.length ca]) (t := 26) ?hr ?_; (case hd => rfl); (case hg => rfl); (case hr => (go_simp; done)); intro b2 hg ZM hbox hb; have iC := ae.mk hbox; have q_ := ae.mk (aH HB.out hb); clear HB; have HB := q_; clear q_; clear hb hbox hg) | ((with_reducible refine aQ (N := 3) rfl ?_); refine aX ?hg (N := 3) ?hd (cs := #[.int .i64 bx, .int .i64 bY, .int .i64 bw, .int .i64 bh]) (t := 23) ?hr ?_; (case hd => rfl); (case hg => rfl); (case hr => (go_simp; done)); intro b3 hg ZN hbox hb; have fM := ae.mk hbox; have q_ := ae.mk (aH HB.out hb); clear HB; have HB := q_; clear q_; have f_ := ae.mk (aK iC.out hb); clear iC; have iC := f_; clear f_; have c0 := (af iC.out 0).trans rfl; have c1 := (af iC.out 1).trans rfl; have c2 := (af iC.out 2).trans rfl; have c3 := (af iC.out 3).trans rfl; have c4 := (af iC.out 4).trans rfl; have c5 := (af iC.out 5).trans rfl; have c6 := (af iC.out 6).trans rfl; have d0 := (af fM.out 0).trans rfl; have d1 := (af fM.out 1).trans rfl; have d2 := (af fM.out 2).trans rfl; have d3 := (af fM.out 3).trans rfl; clear hb hbox hg))
  go_ret
  exact ⟨rfl, HB.out⟩
 subst e_
 by_cases e_ : ay = bY
 rotate_left
 ·have k_ : (ay == bY) = false := beq_eq_false_iff_ne.mpr e_
  clear e_
  simp only [k_, beq_self_eq_true, Bool.true_and, Bool.false_and, Bool.and_false]
  go_enter Try.func212, Try.ntmps212
  go_wp2_with (first | ((with_reducible refine aQ (N := 2) rfl ?_); refine aX ?hg (N := 2) ?hd (cs := #[.int .u8 ak, .int .i64 ax, .int .i64 ay, .int .i64 aw, .int .i64 ah, .int .i64 VQ, .slice A la.length ca]) (t := 26) ?hr ?_; (case hd => rfl); (case hg => rfl); (case hr => (go_simp; done)); intro b2 hg ZM hbox hb; have iC := ae.mk hbox; have q_ := ae.mk (aH HB.out hb); clear HB; have HB := q_; clear q_; clear hb hbox hg) | ((with_reducible refine aQ (N := 3) rfl ?_); refine aX ?hg (N := 3) ?hd (cs := #[.int .i64 ax, .int .i64 bY, .int .i64 bw, .int .i64 bh]) (t := 23) ?hr ?_; (case hd => rfl); (case hg => rfl); (case hr => (go_simp; done)); intro b3 hg ZN hbox hb; have fM := ae.mk hbox; have q_ := ae.mk (aH HB.out hb); clear HB; have HB := q_; clear q_; have f_ := ae.mk (aK iC.out hb); clear iC; have iC := f_; clear f_; have c0 := (af iC.out 0).trans rfl; have c1 := (af iC.out 1).trans rfl; have c2 := (af iC.out 2).trans rfl; have c3 := (af iC.out 3).trans rfl; have c4 := (af iC.out 4).trans rfl; have c5 := (af iC.out 5).trans rfl; have c6 := (af iC.out 6).trans rfl; have d0 := (af fM.out 0).trans rfl; have d1 := (af fM.out 1).trans rfl; have d2 := (af fM.out 2).trans rfl; have d3 := (af fM.out 3).trans rfl; clear hb hbox hg))
  go_ret
  exact ⟨rfl, HB.out⟩
 subst e_
 by_cases e_ : aw = bw
 rotate_left
 ·have k_ : (aw == bw) = false := beq_eq_false_iff_ne.mpr e_
  clear e_
  simp only [k_, beq_self_eq_true, Bool.true_and, Bool.false_and, Bool.and_false]
  go_enter Try.func212, Try.ntmps212
  go_wp2_with (first | ((with_reducible refine aQ (N := 2) rfl ?_); refine aX ?hg (N := 2) ?hd (cs := #[.int .u8 ak, .int .i64 ax, .int .i64 ay, .int .i64 aw, .int .i64 ah, .int .i64 VQ, .slice A la.length ca]) (t := 26) ?hr ?_; (case hd => rfl); (case hg => rfl); (case hr => (go_simp; done)); intro b2 hg ZM hbox hb; have iC := ae.mk hbox; have q_ := ae.mk (aH HB.out hb); clear HB; have HB := q_; clear q_; clear hb hbox hg) | ((with_reducible refine aQ (N := 3) rfl ?_); refine aX ?hg (N := 3) ?hd (cs := #[.int .i64 ax, .int .i64 ay, .int .i64 bw, .int .i64 bh]) (t := 23) ?hr ?_; (case hd => rfl); (case hg => rfl); (case hr => (go_simp; done)); intro b3 hg ZN hbox hb; have fM := ae.mk hbox; have q_ := ae.mk (aH HB.out hb); clear HB; have HB := q_; clear q_; have f_ := ae.mk (aK iC.out hb); clear iC; have iC := f_; clear f_; have c0 := (af iC.out 0).trans rfl; have c1 := (af iC.out 1).trans rfl; have c2 := (af iC.out 2).trans rfl; have c3 := (af iC.out 3).trans rfl; have c4 := (af iC.out 4).trans rfl; have c5 := (af iC.out 5).trans rfl; have c6 := (af iC.out 6).trans rfl; have d0 := (af fM.out 0).trans rfl; have d1 := (af fM.out 1).trans rfl; have d2 := (af fM.out 2).trans rfl; have d3 := (af fM.out 3).trans rfl; clear hb hbox hg))
  go_ret
  exact ⟨rfl, HB.out⟩
 subst e_
 by_cases e_ : ah = bh
 rotate_left
 ·have k_ : (ah == bh) = false := beq_eq_false_iff_ne.mpr e_
  clear e_
  simp only [k_, beq_self_eq_true, Bool.true_and, Bool.false_and, Bool.and_false]
  go_enter Try.func212, Try.ntmps212
  go_wp2_with (first | ((with_reducible refine aQ (N := 2) rfl ?_); refine aX ?hg (N := 2) ?hd (cs := #[.int .u8 ak, .int .i64 ax, .int .i64 ay, .int .i64 aw, .int .i64 ah, .int .i64 VQ, .slice A la.length ca]) (t := 26) ?hr ?_; (case hd => rfl); (case hg => rfl); (case hr => (go_simp; done)); intro b2 hg ZM hbox hb; have iC := ae.mk hbox; have q_ := ae.mk (aH HB.out hb); clear HB; have HB := q_; clear q_; clear hb hbox hg) | ((with_reducible refine aQ (N := 3) rfl ?_); refine aX ?hg (N := 3) ?hd (cs := #[.int .i64 ax, .int .i64 ay, .int .i64 aw, .int .i64 bh]) (t := 23) ?hr ?_; (case hd => rfl); (case hg => rfl); (case hr => (go_simp; done)); intro b3 hg ZN hbox hb; have fM := ae.mk hbox; have q_ := ae.mk (aH HB.out hb); clear HB; have HB := q_; clear q_; have f_ := ae.mk (aK iC.out hb); clear iC; have iC := f_; clear f_; have c0 := (af iC.out 0).trans rfl; have c1 := (af iC.out 1).trans rfl; have c2 := (af iC.out 2).trans rfl; have c3 := (af iC.out 3).trans rfl; have c4 := (af iC.out 4).trans rfl; have c5 := (af iC.out 5).trans rfl; have c6 := (af iC.out 6).trans rfl; have d0 := (af fM.out 0).trans rfl; have d1 := (af fM.out 1).trans rfl; have d2 := (af fM.out 2).trans rfl; have d3 := (af fM.out 3).trans rfl; clear hb hbox hg))
  go_ret
  exact ⟨rfl, HB.out⟩
 subst e_
 simp only [beq_self_eq_true, Bool.true_and]
 go_enter Try.func212, Try.ntmps212
 go_wp2_with (first | ((with_reducible refine aQ (N := 2) rfl ?_); refine aX ?hg (N := 2) ?hd (cs := #[.int .u8 ak, .int .i64 ax, .int .i64 ay, .int .i64 aw, .int .i64 ah, .int .i64 VQ, .slice A la.length ca]) (t := 26) ?hr ?_; (case hd => rfl); (case hg => rfl); (case hr => (go_simp; done)); intro b2 hg ZM hbox hb; have iC := ae.mk hbox; have q_ := ae.mk (aH HB.out hb); clear HB; have HB := q_; clear q_; clear hb hbox hg) | ((with_reducible refine aQ (N := 3) rfl ?_); refine aX ?hg (N := 3) ?hd (cs := #[.int .i64 ax, .int .i64 ay, .int .i64 aw, .int .i64 ah]) (t := 23) ?hr ?_; (case hd => rfl); (case hg => rfl); (case hr => (go_simp; done)); intro b3 hg ZN hbox hb; have fM := ae.mk hbox; have q_ := ae.mk (aH HB.out hb); clear HB; have HB := q_; clear q_; have f_ := ae.mk (aK iC.out hb); clear iC; have iC := f_; clear f_; have c0 := (af iC.out 0).trans rfl; have c1 := (af iC.out 1).trans rfl; have c2 := (af iC.out 2).trans rfl; have c3 := (af iC.out 3).trans rfl; have c4 := (af iC.out 4).trans rfl; have c5 := (af iC.out 5).trans rfl; have c6 := (af iC.out 6).trans rfl; have d0 := (af fM.out 0).trans rfl; have d1 := (af fM.out 1).trans rfl; have d2 := (af fM.out 2).trans rfl; have d3 := (af fM.out 3).trans rfl; clear hb hbox hg))
 go_ret
 exact ⟨rfl, HB.out⟩
def UX (c : aI) (t : List bC × List bC × Bool) : Bool := c.f0 == 1 || (t.2.2 && (c.f3.length == t.1.length && Dh (fun k r => tC k.f1 r) c.f3 t.1))
def linesT (c : aI) (t : List bC × List bC × Bool) : List bC := if c.f0 = 1 then [] else t.2.1
theorem ac8 (k : Nat) (c : aI) (A : Option Addr) (cc : Nat) (t : List bC × List bC × Bool) (w : World) (hr : Kd.C k26 w A c.f3.length c.f3) (hc : c.f3.length ≤ cc) (h : c.f0 ≠ 1 → lg.f k c.f0 c.f1.f0 c.f1.f1 c.f1.f2 c.f1.f3 c.f2 c.f3 = some t) :
  Calls Try.prog 206 #[.agg #[.int .u8 c.f0, .int .i64 c.f1.f0, .int .i64 c.f1.f1, .int .i64 c.f1.f2, .int .i64 c.f1.f3, .int .i64 c.f2, .slice A c.f3.length cc]] w fun e w' => ∃ v : Value, e = .returned (.tuple #[v, .bool (UX c t)]) ∧ Kd.R k23 23 w' w.heap.size (fun _ => True) v (linesT c t) ∧ Below w.heap.size w w' := by
 have HR := ae.mk hr
 have HC := ae.mk hc
 have HT := ae.mk h
 have HB := ae.mk (Below.refl w.heap.size w)
 clear hr hc h
 obtain ⟨ck, ⟨cx, cy, cw, ch⟩, aV, l⟩ := c
 obtain ⟨t1, t2, t3⟩ := t
 simp only [UX, linesT] at HR HC HT ⊢
 by_cases k1 : ck = 1
 ·have k1b : (ck == 1) = true := beq_iff_eq.mpr k1
  simp only [k1b, Bool.true_or, if_pos k1]
  clear k1 HT
  go_enter Try.func206, Try.ntmps206
  go_wp2_with (((with_reducible refine aQ (N := 1) rfl ?_); refine aX ?hg (N := 1) ?hd (cs := #[.int .u8 ck, .int .i64 cx, .int .i64 cy, .int .i64 cw, .int .i64 ch, .int .i64 aV, .slice A l.length cc]) (t := 26) ?hr ?_; (case hd => rfl); (case hg => rfl); (case hr => (go_simp; done)); intro b1 hg alu hbox hb; have dR := ae.mk hbox; have q_ := ae.mk (aH HB.out hb); clear HB; have HB := q_; clear q_; have c0 := (af dR.out 0).trans rfl; have c1 := (af dR.out 1).trans rfl; have c2 := (af dR.out 2).trans rfl; have c3 := (af dR.out 3).trans rfl; have c4 := (af dR.out 4).trans rfl; have c5 := (af dR.out 5).trans rfl; have c6 := (af dR.out 6).trans rfl; clear hb hbox hg))
  go_ret2
  exact ⟨_, rfl, Kd.nI _ _ _ _ _, HB.out⟩
 ·have k1b : (ck == 1) = false := beq_eq_false_iff_ne.mpr k1
  have HT := ae.mk (HT.out k1)
  simp only [k1b, Bool.false_or, if_neg k1]
  clear k1
  cases t3 with
  | false =>
   rw [Bool.false_and]
   go_enter Try.func206, Try.ntmps206
   go_wp2_with (((with_reducible refine aQ (N := 1) rfl ?_); refine aX ?hg (N := 1) ?hd (cs := #[.int .u8 ck, .int .i64 cx, .int .i64 cy, .int .i64 cw, .int .i64 ch, .int .i64 aV, .slice A l.length cc]) (t := 26) ?hr ?_; (case hd => rfl); (case hg => rfl); (case hr => (go_simp; done)); intro b1 hg alu hbox hb; have dR := ae.mk hbox; have q_ := ae.mk (aH HB.out hb); clear HB; have HB := q_; clear q_; have c0 := (af dR.out 0).trans rfl; have c1 := (af dR.out 1).trans rfl; have c2 := (af dR.out 2).trans rfl; have c3 := (af dR.out 3).trans rfl; have c4 := (af dR.out 4).trans rfl; have c5 := (af dR.out 5).trans rfl; have c6 := (af dR.out 6).trans rfl; clear hb hbox hg))
   clear c0 c1 c2 c3 c4 c5 c6
   refine (lg.calls k ck cx cy cw ch aV A cc l _ _ _ _ (Kd.iP HR.out HB.out) HC.out HT.out).mono ?_
   rintro e w' ⟨v0, v1, rfl, h0, h1, hb⟩
   have H0 := ae.mk h0
   have H1 := ae.mk (Kd.iQ h1 HB.out.size)
   have gI := ae.mk (aK dR.out hb)
   clear dR
   have dR := gI
   clear gI
   have q_ := ae.mk (aH HB.out hb); clear HB; have HB := q_; clear q_
   clear hb h0 h1
   obtain ⟨Ap, cp, ep⟩ := Kd.iJ H0.out
   subst ep
   have c0 := (af dR.out 0).trans rfl
   have c1 := (af dR.out 1).trans rfl
   have c2 := (af dR.out 2).trans rfl
   have c3 := (af dR.out 3).trans rfl
   have c4 := (af dR.out 4).trans rfl
   have c5 := (af dR.out 5).trans rfl
   have c6 := (af dR.out 6).trans rfl
   go_wp2
   go_ret2
   exact ⟨_, rfl, Kd.cZ H1.out (fun _ _ => trivial), HB.out⟩
  | true =>
   rw [Bool.true_and]
   go_enter Try.func206, Try.ntmps206
   go_wp2_with (((with_reducible refine aQ (N := 1) rfl ?_); refine aX ?hg (N := 1) ?hd (cs := #[.int .u8 ck, .int .i64 cx, .int .i64 cy, .int .i64 cw, .int .i64 ch, .int .i64 aV, .slice A l.length cc]) (t := 26) ?hr ?_; (case hd => rfl); (case hg => rfl); (case hr => (go_simp; done)); intro b1 hg alu hbox hb; have dR := ae.mk hbox; have q_ := ae.mk (aH HB.out hb); clear HB; have HB := q_; clear q_; have c0 := (af dR.out 0).trans rfl; have c1 := (af dR.out 1).trans rfl; have c2 := (af dR.out 2).trans rfl; have c3 := (af dR.out 3).trans rfl; have c4 := (af dR.out 4).trans rfl; have c5 := (af dR.out 5).trans rfl; have c6 := (af dR.out 6).trans rfl; clear hb hbox hg))
   clear c0 c1 c2 c3 c4 c5 c6
   refine (lg.calls k ck cx cy cw ch aV A cc l _ _ _ _ (Kd.iP HR.out HB.out) HC.out HT.out).mono ?_
   rintro e w' ⟨v0, v1, rfl, h0, h1, hb⟩
   have H0 := ae.mk h0
   have H1 := ae.mk (Kd.iQ h1 HB.out.size)
   have gI := ae.mk (aK dR.out hb)
   clear dR
   have dR := gI
   clear gI
   have q_ := ae.mk (aH HB.out hb); clear HB; have HB := q_; clear q_
   clear hb h0 h1
   obtain ⟨Ap, cp, ep⟩ := Kd.iJ H0.out
   subst ep
   have c0 := (af dR.out 0).trans rfl
   have c1 := (af dR.out 1).trans rfl
   have c2 := (af dR.out 2).trans rfl
   have c3 := (af dR.out 3).trans rfl
   have c4 := (af dR.out 4).trans rfl
   have c5 := (af dR.out 5).trans rfl
   have c6 := (af dR.out 6).trans rfl
   go_wp2_with fail
   refine ((akg (fun k r => tC k.f1 r) 212 (wU Try.func212 (by decide +kernel) (by kernel_rfl)) l t1 A Ap cc cp _ (Kd.iP HR.out HB.out) (Kd.dH H0.out).2.2 (fun W x X cx y _ _ _ _ => aj9 _ _ _ _ _ _ _ _ _ _ X x.f3 cx W))).mono ?_
   rintro e ws ⟨rfl, hb⟩
   have gI := ae.mk (Kd.fJ H1.out hb)
   clear H1
   have H1 := gI
   have q_ := ae.mk (aH HB.out hb); clear HB; have HB := q_; clear q_
   clear hb gI
   go_wp2
   go_ret2
   exact ⟨_, rfl, Kd.cZ H1.out (fun _ _ => trivial), HB.out⟩
def yI (k : Int) : Int := (((k - 2) % 256) + 1) % 256
def EM (c k : aI) : Int := if c.f0 = 2 then k.f1.f2 else k.f1.f3
def l7 (c : aI) : List Int := c.f3.map (EM c)
theorem V6 (c : aI) : ∃ t : List bC × List bC × Bool, c.f3.length ≤ 20000 → (t.1.length ≤ c.f3.length ∧ t.2.1.length ≤ c.f3.length) ∧ ((t.2.2 = true → (yI c.f0 = 1 ∨ yI c.f0 = 2) ∧ t.1 = Df (yI c.f0) c.f1.f0 c.f1.f1 c.f1.f2 c.f1.f3 0 (l7 c) ∧ (l7 c).sum + ((l7 c).length : Int) - 1 = tX (yI c.f0) c.f1.f2 c.f1.f3 ∧ ∀ m, m ∈ l7 c → 1 ≤ m)) ∧ Ev (fun k => bW.f k c.f1.f0 c.f1.f1 c.f1.f2 c.f1.f3 (yI c.f0) (l7 c)) t ∧ Ev (fun k => aJ.f k c.f1.f0 c.f1.f1 c.f1.f2 c.f1.f3 (yI c.f0) (l7 c)) t := by
 by_cases h : c.f3.length ≤ 20000
 ·obtain ⟨t, h1, hg, h2, h3⟩ := Pure.QX c.f1.f0 c.f1.f1 c.f1.f2 c.f1.f3 (yI c.f0) (by unfold yI U8; omega) (l7 c) (by simpa [l7] using h)
  rw [show (l7 c).length = c.f3.length from by simp [l7]] at h1
  exact ⟨t, fun _ => ⟨h1, hg, h2, h3⟩⟩
 ·exact ⟨([], [], false), fun h' => absurd h' h⟩
noncomputable def z_ (c : aI) : List bC × List bC × Bool := Classical.choose (V6 c)
theorem Ez (c : aI) (h : c.f3.length ≤ 20000) : ((z_ c).1.length ≤ c.f3.length ∧ (z_ c).2.1.length ≤ c.f3.length) ∧ (((z_ c).2.2 = true → (yI c.f0 = 1 ∨ yI c.f0 = 2) ∧ (z_ c).1 = Df (yI c.f0) c.f1.f0 c.f1.f1 c.f1.f2 c.f1.f3 0 (l7 c) ∧ (l7 c).sum + ((l7 c).length : Int) - 1 = tX (yI c.f0) c.f1.f2 c.f1.f3 ∧ ∀ m, m ∈ l7 c → 1 ≤ m)) ∧ Ev (fun k => bW.f k c.f1.f0 c.f1.f1 c.f1.f2 c.f1.f3 (yI c.f0) (l7 c)) (z_ c) ∧ Ev (fun k => aJ.f k c.f1.f0 c.f1.f1 c.f1.f2 c.f1.f3 (yI c.f0) (l7 c)) (z_ c) := Classical.choose_spec (V6 c) h
noncomputable def EY (c : aI) : Bool := UX c (z_ c)
noncomputable def Og (c : aI) : List bC := linesT c (z_ c)
noncomputable def pO (c : aI) : Bool := (jh c).all EY
theorem Zn (c : aI) (h : c.f3.length ≤ 20000) : (Og c).length ≤ c.f3.length := by
 unfold Og linesT
 split
 ·exact Nat.zero_le _
 ·exact (Ez c h).1.2
theorem JD (c : aI) : pO c = (EY c && c.f3.all pO) := by
 unfold pO
 rw [yH, List.all_cons]
 congr 1
 generalize c.f3 = l
 induction l with
 | nil => rw [uZ]; rfl
 | cons x xs ih => rw [sO, List.all_append, List.all_cons, ih]
theorem VG (c : aI) (h : c.f3.length ≤ 20000) : Ev (fun k => lg.f k c.f0 c.f1.f0 c.f1.f1 c.f1.f2 c.f1.f3 c.f2 c.f3) (z_ c) := by
 have key : ∀ (rest pre : List aI), pre ++ rest = c.f3 → Ev (fun k => lg.l0 k (pre.map (EM c)) c.f3 (c.f3.length : Int) (pre.length : Int) c.f0 c.f1.f0 c.f1.f1 c.f1.f2 c.f1.f3 c.f2 c.f3) (z_ c) := by
  intro rest
  induction rest with
  | nil =>
   intro pre hp
   rw [List.append_nil] at hp
   subst hp
   refine Ev.step (f := fun k => (bW.f k c.f1.f0 c.f1.f1 c.f1.f2 c.f1.f3 (yI c.f0) (l7 c)).bind fun bt => some (bt.1, bt.2.1, bt.2.2)) (fun k => ?_) (Ev.bind (Ez c h).2.2.1 (Ev.now _))
   simp only [lg.l0]
   rw [if_neg (by omega)]
   rfl
  | cons x xs ih =>
   intro pre hp
   have hl : (pre.length : Int) < (c.f3.length : Int) := by rw [← hp, List.length_append, List.length_cons]; omega
   have hr : au c.f3 (pre.length : Int) = x := by rw [← hp]; exact lS pre x xs
   have hu : wrap64 ((pre.length : Int) + 1) = ((pre ++ [x]).length : Int) := Cm pre x xs (by rw [hp]; omega)
   have e2 := ih (pre ++ [x]) (by rw [List.append_assoc]; exact hp)
   have hm : (pre ++ [x]).map (EM c) = pre.map (EM c) ++ [EM c x] := by simp
   rw [hm] at e2
   refine Ev.step (fun k => ?_) e2
   simp only [lg.l0]
   rw [if_pos hl, if_pos (by omega), if_pos hl, hr, hu, List.length_map]
   by_cases h2 : c.f0 = 2
   ·rw [if_pos h2, if_pos (by omega), show EM c x = x.f1.f2 from if_pos h2]
   ·rw [if_neg h2, if_pos (by omega), show EM c x = x.f1.f3 from if_neg h2]
 unfold lg.f
 exact key c.f3 [] rfl
theorem UR (c : aI) (h : c.f3.length ≤ 20000) : ∃ k, c.f0 ≠ 1 → lg.f k c.f0 c.f1.f0 c.f1.f1 c.f1.f2 c.f1.f3 c.f2 c.f3 = some (z_ c) := by
 obtain ⟨k, hk⟩ := VG c h
 exact ⟨k, fun _ => hk k (Nat.le_refl _)⟩
def uo (w0 : World) (gw j : Nat) (W : World) : Prop := Below w0.heap.size w0 W ∧ ∃ (n : Int) (v : Value) (ls : List bC), W.heap[gw]? = some (.cells #[.int .i64 n, v] 182 (0, 0)) ∧ Kd.R k23 23 W w0.heap.size (fun _ => True) v ls ∧ ls.length ≤ j
def Fr (gw : Nat) (W W' : World) : Prop := ∀ k cs t, k ≠ gw → t ≠ 23 → W.heap[k]? = some (.cells cs t (0, 0)) → W'.heap[k]? = some (.cells cs t (0, 0))
theorem Fr.refl (gw : Nat) (W : World) : Fr gw W W := fun _ _ _ _ _ h => h
theorem Fr.trans {gw : Nat} {W W1 W2 : World} (h : Fr gw W W1) (k : Fr gw W1 W2) : Fr gw W W2 := fun i cs t hi ht hb => k i cs t hi ht (h i cs t hi ht hb)
theorem Fr.below {gw : Nat} {W W1 : World} (h : Below W.heap.size W W1) : Fr gw W W1 := fun _ _ _ _ _ hb => aK hb h
theorem Fr.store {gw : Nat} {W W1 : World} (h : W.grownBy W1 (some gw)) : Fr gw W W1 := fun _ _ _ hi _ hb => bZ hb h (fun e => absurd (Option.some.inj e) hi)
theorem Fr.append {gw base : Nat} {W W1 : World} {v : Value} {xs : List bC} {ok : Nat → Prop} (hv : Kd.R k23 23 W base ok v xs) (h : W.grownBy W1 v.ownBlock) : Fr gw W W1 := fun _ _ _ _ ht hb => bZ hb h (Kd.zq hv hb (fun e => ht e.symm))
theorem uo.below {w0 W W1 : World} {gw j : Nat} (h : uo w0 gw j W) (hb : Below W.heap.size W W1) : uo w0 gw j W1 := by
 obtain ⟨h1, n, v, ls, h2, h3, h4⟩ := h
 exact ⟨aH h1 hb, n, v, ls, aK h2 hb, Kd.fJ h3 hb, h4⟩
theorem uo.mono {w0 W : World} {gw j j' : Nat} (h : uo w0 gw j W) (hj : j ≤ j') : uo w0 gw j' W := by
 obtain ⟨h1, n, v, ls, h2, h3, h4⟩ := h
 exact ⟨h1, n, v, ls, h2, h3, Nat.le_trans h4 hj⟩
theorem aj8 (x : aI) (B : Option Addr) (cb b3 gw : Nat) (r : Bool) (R : World → Prop) (W : World) (hk : W.heap[b3]? = some (.cells #[.pointer (some ⟨gw, 0, none⟩)] 180 (0, 0)))
  (h : ∀ W1, Below W.heap.size W W1 → Calls Try.prog 197 #[.pointer (some ⟨gw, 0, none⟩), .agg #[.int .u8 x.f0, .int .i64 x.f1.f0, .int .i64 x.f1.f1, .int .i64 x.f1.f2, .int .i64 x.f1.f3, .int .i64 x.f2, .slice B x.f3.length cb]] W1 fun e w' => e = .returned (.bool r) ∧ R w') :
  Calls Try.prog 207 (#[.agg #[.int .u8 x.f0, .int .i64 x.f1.f0, .int .i64 x.f1.f1, .int .i64 x.f1.f2, .int .i64 x.f1.f3, .int .i64 x.f2, .slice B x.f3.length cb]] ++ #[.pointer (some ⟨b3, 0, none⟩)]) W fun e w' => e = .returned (.bool (!r)) ∧ R w' := by
 have HK := ae.mk hk
 have H := ae.mk h
 clear hk h
 simp only [List.append_toArray, List.cons_append, List.nil_append]
 cases r
 all_goals
  go_enter Try.func207, Try.ntmps207
  go_wp2_with (((with_reducible refine aQ (N := 2) rfl ?_); refine aX ?hg (N := 2) ?hd (cs := #[.int .u8 x.f0, .int .i64 x.f1.f0, .int .i64 x.f1.f1, .int .i64 x.f1.f2, .int .i64 x.f1.f3, .int .i64 x.f2, .slice B x.f3.length cb]) (t := 26) ?hr ?_; (case hd => rfl); (case hg => rfl); (case hr => (go_simp; done)); intro b2 hg wb2 hbox hb; have iC := ae.mk hbox; have HB := ae.mk hb; have K3 := ae.mk (aK HK.out hb); have d0 := (af K3.out 0).trans rfl; have c0 := (af iC.out 0).trans rfl; have c1 := (af iC.out 1).trans rfl; have c2 := (af iC.out 2).trans rfl; have c3 := (af iC.out 3).trans rfl; have c4 := (af iC.out 4).trans rfl; have c5 := (af iC.out 5).trans rfl; have c6 := (af iC.out 6).trans rfl; clear hb hbox hg))
  clear c0 c1 c2 c3 c4 c5 c6 d0
  refine (H.out _ HB.out).mono ?_
  rintro e w' ⟨rfl, hR⟩
  have HR := ae.mk hR
  clear hR
  go_wp2
  go_ret
  exact ⟨rfl, HR.out⟩
def uU.T5 : Bool × List (List Nat × List Nat) := (true, [([], []), ([], []), ([1], [1]), ([2], [2]), ([3], [3]), ([], []), ([4, 5], [4, 5]), ([0, 0, 1, 2, 3, 4, 5, 6], [0]), ([7, 0, 1, 2, 3, 4, 5, 6], [7]), ([8, 6, 6, 0, 1, 2, 3, 4, 5, 6], [6, 8])])
def uU.B5 : List Nat := [0, 0, 2, 6, 14, 0, 62, 127, 255, 511]
theorem uU.ZH : lC .any (opsOf Try.f197 5) = uU.T5 := by kernel_rfl
theorem uU.RJ : lu uU.T5.2 uU.B5 = true := by kernel_rfl
theorem aix (w0 : World) (gw : Nat) (hgw : w0.heap.size ≤ gw) : ∀ (N : Nat) (c : aI), sz c ≤ N → N ≤ 20000 → ∀ (A : Option Addr) (cc : Nat), Kd.C k26 w0 A c.f3.length c.f3 → c.f3.length ≤ cc → ∀ (j : Nat) (W : World), j + jw c.f3 ≤ 1000000 → uo w0 gw j W →
  Calls Try.prog 197 #[.pointer (some ⟨gw, 0, none⟩), .agg #[.int .u8 c.f0, .int .i64 c.f1.f0, .int .i64 c.f1.f1, .int .i64 c.f1.f2, .int .i64 c.f1.f3, .int .i64 c.f2, .slice A c.f3.length cc]] W fun e w' => e = .returned (.bool (pO c)) ∧ uo w0 gw (j + jw c.f3) w' ∧ Fr gw W w' := by
 intro N
 induction N with
 | zero => intro c h; rw [gm] at h; omega
 | succ N ih =>
  intro c hc hN A cc hr hlc j W hj hI
  have hsz := gm c
  have hlen := nN c.f3
  have ae1 : ∀ (b2 j1 : Nat) (W1 : World), b2 ≠ gw → W1.heap[b2]? = some (.cells #[.pointer (some ⟨gw, 0, none⟩)] 180 (0, 0)) → uo w0 gw j1 W1 → j1 ≤ j + c.f3.length →
    Calls Try.prog 174 #[.slice A c.f3.length cc, .func (.func 207) #[] #[.pointer (some ⟨b2, 0, none⟩)]] W1 fun e w' => e = .returned (.bool (!(c.f3.all pO))) ∧ uo w0 gw (j + jw c.f3) w' ∧ Fr gw W1 w' := by
   intro b2 j1 W1 hne hk hi hj1
   have hcon := V5 (fun rest w' => (∃ i, uo w0 gw i w' ∧ i + jw rest ≤ (j + jw c.f3) + rest.length) ∧ Fr gw W1 w') (fun x => !pO x) 207 #[.pointer (some ⟨b2, 0, none⟩)] (wU Try.func207 (by decide +kernel) (by kernel_rfl)) c.f3 A cc w0 hr
    (fun s w' h => by obtain ⟨⟨i, h1, _⟩, _⟩ := h; exact h1.1)
    (fun s w' n h => by obtain ⟨⟨i, h1, h2⟩, h3⟩ := h; exact ⟨⟨i, h1.below (fV (Below.refl _ _) n), h2⟩, h3.trans (Fr.below (fV (Below.refl _ _) n))⟩)
    (fun x rest w' B cb hx hp h hCx hlx => by
     obtain ⟨⟨i, h1, h2⟩, h3⟩ := h
     obtain ⟨pre, hp⟩ := hp
     have e1 : jw c.f3 = jw pre + (sz x + jw rest) := by rw [← hp, vT, gz]
     have e2 := gm x
     have e3 := nN rest
     have e4 := nN pre
     rw [gz, List.length_cons] at h2
     refine (aj8 x B cb b2 gw (pO x) (fun w'' => uo w0 gw (i + jw x.f3) w'' ∧ Fr gw W1 w'') w' (h3 b2 _ 180 hne (by decide) hk) (fun W2 hb2 => ?_)).mono ?_
     ·refine (ih x (by omega) (by omega) B cb hCx hlx i W2 (by omega) (h1.below hb2)).mono ?_
      rintro e w'' ⟨he, hi2, hf⟩
      exact ⟨he, hi2, h3.trans ((Fr.below hb2).trans hf)⟩
     ·rintro e w'' ⟨he, hi2, hf⟩
      refine ⟨he, ⟨⟨i + jw x.f3, hi2, ?_⟩, hf⟩⟩
      split
      ·rw [vU]; show _ ≤ _ + 0; omega
      ·omega)
    W1 ⟨⟨j1, hi, by omega⟩, Fr.refl gw W1⟩ hr.2.1
   refine hcon.mono ?_
   rintro e w' ⟨he, ⟨i, h1, h2⟩, h3⟩
   rw [vU] at h2
   refine ⟨?_, h1.mono (by simpa using h2), h3⟩
   rw [he, List.not_all_eq_any_not]
  have hone : c.f3.length ≤ 20000 := by omega
  obtain ⟨k0, hk0⟩ := UR c hone
  have hll := Zn c hone
  have hL : ∀ W1, Below w0.heap.size w0 W1 → Calls Try.prog 206 #[.agg #[.int .u8 c.f0, .int .i64 c.f1.f0, .int .i64 c.f1.f1, .int .i64 c.f1.f2, .int .i64 c.f1.f3, .int .i64 c.f2, .slice A c.f3.length cc]] W1 fun e w' => ∃ v : Value, e = .returned (.tuple #[v, .bool (EY c)]) ∧ Kd.R k23 23 w' W1.heap.size (fun _ => True) v (Og c) ∧ Below W1.heap.size W1 w' := fun W1 hb => ac8 k0 c A cc (z_ c) W1 (Kd.iP hr hb) hlc hk0
  rw [JD]
  obtain ⟨hB, n, v, ls, hK, hV, hls⟩ := hI
  obtain ⟨Av, cv, ev⟩ := Kd.iJ hV
  subst ev
  have HB := ae.mk hB
  have KW := ae.mk hK
  have RV := ae.mk hV
  have FR := ae.mk (Fr.refl gw W)
  have KF := ae.mk hgw
  have X_ := ae.mk ae1
  have HL := ae.mk hL
  have HLS := ae.mk hls
  have pG := ae.mk hll
  have HJ := ae.mk hj
  have HN := ae.mk hlen
  clear hB hK hV ae1 hL hls hll hj hlen hone hk0 hsz ih hr hlc hc hN
  obtain ⟨ck, ⟨cx, cy, cw, ch⟩, aV, l⟩ := c
  simp only [] at X_ HL pG HJ HN ⊢
  generalize EY ⟨ck, ⟨cx, cy, cw, ch⟩, aV, l⟩ = q at HL ⊢
  generalize Og ⟨ck, ⟨cx, cy, cw, ch⟩, aV, l⟩ = us at HL pG
  generalize l.all pO = p at X_ ⊢
  cases q with
  | false =>
   rw [Bool.false_and]
   go_enter Try.func197, Try.ntmps197
   go_wp2_with (first | ((with_reducible refine aQ (N := 2) rfl ?_); refine aX ?hg (N := 2) ?hd (cs := #[.pointer (some ⟨gw, 0, none⟩)]) (t := 180) ?hr ?_; (case hd => rfl); (case hg => rfl); (case hr => (go_simp; done)); intro b2 hg wb2 hbox hb; have iC := ae.mk hbox; have NE2 := ae.mk (show b2 ≠ gw by rw [hg]; exact Nat.ne_of_gt (eP KW.out)); have dZ := ae.mk (aH HB.out hb); have uI := ae.mk (aK KW.out hb); have rD := ae.mk (Kd.fJ RV.out hb); have rC := ae.mk (FR.out.trans (Fr.below hb)); clear HB KW RV FR; have HB := dZ; have KW := uI; have RV := rD; have FR := rC; clear dZ uI rD rC; clear hb hbox hg) | ((with_reducible refine aQ (N := 3) rfl ?_); refine aX ?hg (N := 3) ?hd (cs := #[.int .u8 ck, .int .i64 cx, .int .i64 cy, .int .i64 cw, .int .i64 ch, .int .i64 aV, .slice A l.length cc]) (t := 26) ?hr ?_; (case hd => rfl); (case hg => rfl); (case hr => (go_simp; done)); intro b3 hg wb3 hbox hb; have fM := ae.mk hbox; have NE3 := ae.mk (show b3 ≠ gw by rw [hg]; exact Nat.ne_of_gt (eP KW.out)); have dZ := ae.mk (aH HB.out hb); have uI := ae.mk (aK KW.out hb); have rD := ae.mk (Kd.fJ RV.out hb); have rC := ae.mk (FR.out.trans (Fr.below hb)); have sZ := ae.mk (aK iC.out hb); clear HB KW RV FR iC; have HB := dZ; have KW := uI; have RV := rD; have FR := rC; have iC := sZ; clear dZ uI rD rC sZ; have c0 := (af fM.out 0).trans rfl; have c1 := (af fM.out 1).trans rfl; have c2 := (af fM.out 2).trans rfl; have c3 := (af fM.out 3).trans rfl; have c4 := (af fM.out 4).trans rfl; have c5 := (af fM.out 5).trans rfl; have c6 := (af fM.out 6).trans rfl; clear hb hbox hg))
   clear c0 c1 c2 c3 c4 c5 c6
   refine (HL.out _ HB.out).mono ?_
   rintro e w1 ⟨u, rfl, hu, hb⟩
   have HU := ae.mk (Kd.iQ hu HB.out.size)
   clear hu
   have dZ := ae.mk (aH HB.out hb); have uI := ae.mk (aK KW.out hb); have rD := ae.mk (Kd.fJ RV.out hb); have rC := ae.mk (FR.out.trans (Fr.below hb)); have sZ := ae.mk (aK iC.out hb); have zJ := ae.mk (aK fM.out hb); clear HB KW RV FR iC fM; have HB := dZ; have KW := uI; have RV := rD; have FR := rC; have iC := sZ; have fM := zJ; clear dZ uI rD rC sZ zJ
   clear hb
   obtain ⟨Au, cu, eu⟩ := Kd.iJ HU.out
   subst eu
   go_wp2
   go_ret
   exact ⟨rfl, ⟨HB.out, n, _, ls, KW.out, RV.out, by have := HLS.out; omega⟩, FR.out⟩
  | true =>
   rw [Bool.true_and]
   go_enter Try.func197, Try.ntmps197
   go_wp2_with (first | ((with_reducible refine aQ (N := 2) rfl ?_); refine aX ?hg (N := 2) ?hd (cs := #[.pointer (some ⟨gw, 0, none⟩)]) (t := 180) ?hr ?_; (case hd => rfl); (case hg => rfl); (case hr => (go_simp; done)); intro b2 hg wb2 hbox hb; have iC := ae.mk hbox; have NE2 := ae.mk (show b2 ≠ gw by rw [hg]; exact Nat.ne_of_gt (eP KW.out)); have dZ := ae.mk (aH HB.out hb); have uI := ae.mk (aK KW.out hb); have rD := ae.mk (Kd.fJ RV.out hb); have rC := ae.mk (FR.out.trans (Fr.below hb)); clear HB KW RV FR; have HB := dZ; have KW := uI; have RV := rD; have FR := rC; clear dZ uI rD rC; clear hb hbox hg) | ((with_reducible refine aQ (N := 3) rfl ?_); refine aX ?hg (N := 3) ?hd (cs := #[.int .u8 ck, .int .i64 cx, .int .i64 cy, .int .i64 cw, .int .i64 ch, .int .i64 aV, .slice A l.length cc]) (t := 26) ?hr ?_; (case hd => rfl); (case hg => rfl); (case hr => (go_simp; done)); intro b3 hg wb3 hbox hb; have fM := ae.mk hbox; have NE3 := ae.mk (show b3 ≠ gw by rw [hg]; exact Nat.ne_of_gt (eP KW.out)); have dZ := ae.mk (aH HB.out hb); have uI := ae.mk (aK KW.out hb); have rD := ae.mk (Kd.fJ RV.out hb); have rC := ae.mk (FR.out.trans (Fr.below hb)); have sZ := ae.mk (aK iC.out hb); clear HB KW RV FR iC; have HB := dZ; have KW := uI; have RV := rD; have FR := rC; have iC := sZ; clear dZ uI rD rC sZ; have c0 := (af fM.out 0).trans rfl; have c1 := (af fM.out 1).trans rfl; have c2 := (af fM.out 2).trans rfl; have c3 := (af fM.out 3).trans rfl; have c4 := (af fM.out 4).trans rfl; have c5 := (af fM.out 5).trans rfl; have c6 := (af fM.out 6).trans rfl; clear hb hbox hg))
   clear c0 c1 c2 c3 c4 c5 c6
   refine (HL.out _ HB.out).mono ?_
   rintro e w1 ⟨u, rfl, hu, hb⟩
   have HU := ae.mk (Kd.iQ hu HB.out.size)
   clear hu
   have dZ := ae.mk (aH HB.out hb); have uI := ae.mk (aK KW.out hb); have rD := ae.mk (Kd.fJ RV.out hb); have rC := ae.mk (FR.out.trans (Fr.below hb)); have sZ := ae.mk (aK iC.out hb); have zJ := ae.mk (aK fM.out hb); clear HB KW RV FR iC fM; have HB := dZ; have KW := uI; have RV := rD; have FR := rC; have iC := sZ; have fM := zJ; clear dZ uI rD rC sZ zJ
   clear hb
   obtain ⟨Au, cu, eu⟩ := Kd.iJ HU.out
   subst eu
   have d0 := (af iC.out 0).trans rfl
   have e0 := (af KW.out 0).trans rfl
   have e1 := (af KW.out 1).trans rfl
   go_wp2_with (((with_reducible refine sS (.store 3 (.tmp 20) (.tmp 18)) rfl ?_); go_loud (refine lY (w0 := w0) rfl rfl 3 (.tmp 20) (.tmp 18) rfl (g := gw) (j := 0) (base := w0.heap.size) #[.int .i64 (wrap64 (n + 1)), .slice Av ls.length cv] (u := .int .i64 (wrap64 (n + 1))) (dL := [.int .i64 (wrap64 (n + 1))]) ?sA ?sX rfl ?sT ?s1 KW.out ?sJ rfl HB.out HB.out.size KF.out ?_; (case sA => rfl); (case sX => rfl); (case sT => rfl); (case s1 => (simp [Value.oneCell'])); (case sJ => (simp)); intro ws hbk hbb hgg; have rD := ae.mk (Kd.Ll RV.out rfl hgg (fun k_ hk => hk ▸ Kd.zq RV.out KW.out (by decide))); have U3 := ae.mk (Kd.Ll HU.out rfl hgg (fun k_ hk => hk ▸ Kd.zq HU.out KW.out (by decide))); have rC := ae.mk (FR.out.trans (Fr.store hgg)); have sZ := ae.mk (bZ iC.out hgg (fun e_ => absurd (Option.some.inj e_) NE2.out)); have zJ := ae.mk (bZ fM.out hgg (fun e_ => absurd (Option.some.inj e_) NE3.out)); clear RV HU FR iC fM; have RV := rD; have HU := U3; have FR := rC; have iC := sZ; have fM := zJ; clear rD U3 rC sZ zJ; clear KW HB d0 e0 e1; have KW := ae.mk hbk; have HB := ae.mk hbb; clear hbk hbb hgg)))
   have hb : Below ws.heap.size ws ws.drew := fF (Below.refl _ _)
   have dZ := ae.mk (aH HB.out hb); have uI := ae.mk (aK KW.out hb); have rD := ae.mk (Kd.fJ RV.out hb); have rC := ae.mk (FR.out.trans (Fr.below hb)); have sZ := ae.mk (aK iC.out hb); have zJ := ae.mk (aK fM.out hb); have U3 := ae.mk (Kd.fJ HU.out hb); clear HB KW RV FR iC fM HU; have HB := dZ; have KW := uI; have RV := rD; have FR := rC; have iC := sZ; have fM := zJ; have HU := U3; clear dZ uI rD rC sZ zJ U3
   clear hb
   refine m_ (n := 10) (S := fun w' => Below w0.heap.size w0 w' ∧ w'.heap[b2]? = some (.cells #[.pointer (some ⟨gw, 0, none⟩)] 180 (0, 0)) ∧ w'.heap[gw]? = some (.cells #[.int .i64 (wrap64 (n + 1)), .slice Av ls.length cv] 182 (0, 0))) (ds := [9]) #[false, false, false, false, false, false, false, false, false, false] (by kernel_rfl) rfl rfl ⟨HB.out, iC.out, KW.out⟩ (fun hHeld => ?_); refine jr uU.ZH uU.RJ (fun aW gX => ?_)
   generalize ws.drew = wd at HB KW RV FR iC fM HU hHeld ⊢
   refine mF (i := 0) (N := some 21) (v := ?_) (a' := ?_) #[true, false, false, false, false, false, false, false, false, false] rfl rfl (jd aW.out gX.out (by kernel_rfl)) (fun _ _ _ h => h) (Or.inl ⟨by rfl, ?_⟩) hHeld ?_ ?_
   rotate_left
   ·intro w' hs_
    have c := (af hs_.2.1 0).trans rfl
    go_simp; with_reducible rfl
   rotate_left
   ·simp only [Act.put, List.setIfInBounds_toArray, List.set_cons_zero, List.set_cons_succ, cO, b_]
    rfl
   refine mF (i := 1) (N := some 22) (v := ?_) (a' := ?_) #[true, true, false, false, false, false, false, false, false, false] rfl rfl (jd aW.out gX.out (by kernel_rfl)) (fun _ _ _ h => h) (Or.inl ⟨by rfl, ?_⟩) hHeld ?_ ?_
   rotate_left
   ·intro w' hs_
    have c := (af hs_.2.1 0).trans rfl
    go_simp; with_reducible rfl
   rotate_left
   ·simp only [Act.put, List.setIfInBounds_toArray, List.set_cons_zero, List.set_cons_succ, cO, b_]
    rfl
   refine eG (i := 2) (N := some 23) (v := ?_) (a' := ?_) #[true, true, true, false, false, false, false, false, false, false] rfl rfl (dO aW.out (by kernel_rfl)) (fun _ _ _ h => h) (Or.inl ⟨by rfl, ?_⟩) ?_ ?_
   rotate_left
   ·intro w'; go_simp; with_reducible rfl
   rotate_left
   ·simp only [Act.put, List.setIfInBounds_toArray, List.set_cons_zero, List.set_cons_succ, cO, b_]
    rfl
   refine eG (i := 3) (N := some 24) (v := ?_) (a' := ?_) #[true, true, true, true, false, false, false, false, false, false] rfl rfl (dO aW.out (by kernel_rfl)) (fun _ _ _ h => h) (Or.inl ⟨by rfl, ?_⟩) ?_ ?_
   rotate_left
   ·intro w'; go_simp; with_reducible rfl
   rotate_left
   ·simp only [Act.put, List.setIfInBounds_toArray, List.set_cons_zero, List.set_cons_succ, cO, b_]
    rfl
   refine mF (i := 4) (N := some 25) (v := ?_) (a' := ?_) #[true, true, true, true, true, false, false, false, false, false] rfl rfl (jd aW.out gX.out (by kernel_rfl)) (fun _ _ _ h => h) (Or.inl ⟨by rfl, ?_⟩) hHeld ?_ ?_
   rotate_left
   ·intro w' hs_
    have c := (af hs_.2.2 1).trans rfl
    go_simp; with_reducible rfl
   rotate_left
   ·simp only [Act.put, List.setIfInBounds_toArray, List.set_cons_zero, List.set_cons_succ, cO, b_]
    rfl
   refine eG (i := 5) (N := some 26) (v := ?_) (a' := ?_) #[true, true, true, true, true, true, false, false, false, false] rfl rfl (dO aW.out (by kernel_rfl)) (fun _ _ _ h => h) (Or.inl ⟨by rfl, ?_⟩) ?_ ?_
   rotate_left
   ·intro w'; go_simp; with_reducible rfl
   rotate_left
   ·simp only [Act.put, List.setIfInBounds_toArray, List.set_cons_zero, List.set_cons_succ, cO, b_]
    rfl
   refine jY (i := 6) (N := some 27) #[true, true, true, true, true, true, true, false, false, false] rfl rfl (eX aW.out (by kernel_rfl)) (by decide) (fun K hK => ?_)
   refine Kd.Ip k23 (w0 := w0) w0.heap.size (by rfl) (.tmp 25) (.tmp 26) 42 23 (.agg #[(.int .i64 0), (.int .i64 0), (.int .i64 0), (.int .i64 0)]) 32 rfl Try.underlying42 info23 rfl (by decide) (by omega) (.slice Av ls.length cv) ls us Au us.length cu (fun _ => True) (fun _ => False) rfl rfl RV.out (Kd.dH HU.out).2.2 (fun _ _ h => h) (fun _ h => h.elim) (fun _ _ => trivial) HB.out HB.out.size (by have h1 := HLS.out; have h2 := pG.out; have h3 := HJ.out; have h4 := HN.out; omega) ?_
   intro v1 wk ho hb hg hat
   have q1 := ae.mk (FR.out.trans (Fr.append RV.out hg))
   have q2 := ae.mk (bZ iC.out hg (Kd.zq RV.out iC.out (by decide)))
   have q3 := ae.mk (bZ fM.out hg (Kd.zq RV.out fM.out (by decide)))
   have q4 := ae.mk (bZ KW.out hg (Kd.zq RV.out KW.out (by decide)))
   clear FR iC fM KW HB RV HU
   have FR := q1
   have iC := q2
   have fM := q3
   have KW := q4
   have HB := ae.mk hb
   have RV := ae.mk ho
   clear q1 q2 q3 q4 hb ho hg hat
   obtain ⟨A1, c1, e1⟩ := Kd.iJ RV.out
   subst e1
   refine hK.out _ _ ⟨HB.out, iC.out, KW.out⟩ (fun hHeld => ?_)
   clear hK K
   refine qi (a' := ?_) ?_ ?_
   rotate_left
   ·show Act.put _ (some 27) _ = _
    simp only [Act.put, List.setIfInBounds_toArray, List.set_cons_zero, List.set_cons_succ, cO, b_]
    rfl
   refine eG (i := 7) (N := some 28) (v := ?_) (a' := ?_) #[true, true, true, true, true, true, true, true, false, false] rfl rfl (dO aW.out (by kernel_rfl)) (fun _ _ _ h => h) (Or.inl ⟨by rfl, ?_⟩) ?_ ?_
   rotate_left
   ·intro w'; go_simp; with_reducible rfl
   rotate_left
   ·simp only [Act.put, List.setIfInBounds_toArray, List.set_cons_zero, List.set_cons_succ, cO, b_]
    rfl
   refine eG (i := 8) (N := some 29) (v := ?_) (a' := ?_) #[true, true, true, true, true, true, true, true, true, false] rfl rfl (dO aW.out (by kernel_rfl)) (fun _ _ _ h => h) (Or.inl ⟨by rfl, ?_⟩) ?_ ?_
   rotate_left
   ·intro w'; go_simp; with_reducible rfl
   rotate_left
   ·simp only [Act.put, List.setIfInBounds_toArray, List.set_cons_zero, List.set_cons_succ, cO, b_]
    rfl
   refine zD (i := 9) (N := none) #[true, true, true, true, true, true, true, true, true, true] rfl rfl (eX aW.out (by kernel_rfl)) (by decide) (fun K hK => ?_)
   obtain ⟨w9, UI⟩ : ∃ w9, w9 = wk.setCells gw 1 [.slice A1 (ls ++ us).length c1] := ⟨_, rfl⟩
   have hst := Iw (j := 1) (cs' := #[.int .i64 (wrap64 (n + 1)), .slice A1 (ls ++ us).length c1]) (dL := [.slice A1 (ls ++ us).length c1]) KW.out (by simp) rfl
   rw [← UI] at hst
   refine Sr (w1 := w9) (by rfl) rfl ?_ ?_
   ·rw [UI]; exact H_ 42 (.tmp 29) (.tmp 27) rfl (cs := #[.int .i64 (wrap64 (n + 1)), .slice Av ls.length cv]) (t0 := 182) (dL := [.slice A1 (ls ++ us).length c1]) rfl rfl rfl (by kernel_rfl) (by simp [Value.oneCell']) KW.out (by simp)
   have Z5 := ae.mk (grown_below HB.out hst.2 KF.out HB.out.size)
   have RV9 := ae.mk (Kd.Ll RV.out rfl hst.2 (fun k_ hk => hk ▸ Kd.zq RV.out KW.out (by decide)))
   have FR9 := ae.mk (FR.out.trans (Fr.store hst.2))
   have K29 := ae.mk (bZ iC.out hst.2 (fun e_ => absurd (Option.some.inj e_) NE2.out))
   have K39 := ae.mk (bZ fM.out hst.2 (fun e_ => absurd (Option.some.inj e_) NE3.out))
   have KW9 := ae.mk hst.1
   clear hst
   refine hK.out _ _ ?_
   clear hK K UI
   refine oV (lh aW.out (by kernel_rfl)) ?_
   have c6 := (af K39.out 6).trans rfl
   cases p
   all_goals
    go_wp2_with fail
    refine (X_.out b2 (j + us.length) _ NE2.out K29.out ⟨Z5.out, _, _, _, KW9.out, RV9.out, by have := HLS.out; rw [List.length_append]; omega⟩ (by have := pG.out; omega)).mono ?_
    rintro e w2 ⟨rfl, hi, hf⟩
    have HI := ae.mk hi
    have HF := ae.mk (FR9.out.trans hf)
    clear hi hf
    go_wp2
    go_ret
    exact ⟨rfl, HI.out, HF.out⟩
theorem akN : (Try.prog.info? 9).map (fun i => (i.zero, i.size, i.bytes)) = some (some (.string ⟨#[]⟩), 1, 16) := by kernel_rfl
theorem abh (e at_ : Int) (he : e ≠ 0) (w : World) : Calls Try.prog 196 #[.int .i64 e, .int .i64 at_] w fun x w' => (∃ t v, x = .returned (.iface t v)) ∧ Below w.heap.size w w' := by
 have hb : (e == 0) = false := beq_eq_false_iff_ne.mpr he
 clear he
 go_enter Try.func196, Try.ntmps196
 go_wp2
 go_ret
 exact ⟨⟨_, _, rfl⟩, kz (Below.refl _ _) _⟩
theorem acn (ad : Addr) (c0 : Nat) (l0 : List ByteArray) (hl : l0.length ≤ 1000) (w : World) (hr0 : Kd.C Kd.string w (some ad) l0.length l0) (hc0 : l0.length ≤ c0) :
  Calls Try.prog 205 #[.slice (some ad) l0.length c0] w fun e w' => ∃ A n c, e = .returned (.slice A n c) ∧ Below w.heap.size w w' := by
 have heq : ∀ W : World, (binOp .eql 190 (.slice (some ad) l0.length c0) (.slice none 0 0)).run Try.prog W = .ok (.bool false) W := fun W => Lib.run_eql_slice_nil W 190 9 (some ad) l0.length c0 0 0 Try.underlying190
 have HR := ae.mk hr0
 have HL := ae.mk hl
 clear hl hr0
 go_enter Try.func205, Try.ntmps205
 go_wp2_with (first | ((with_reducible refine aQ (N := 5) rfl ?_); refine Kd.o8 Kd.string w.heap.size 9 ?hg (N := 5) ?hd (xs := ([] : List ByteArray)) (inner := []) (ok := fun _ => True) (iO := fun _ => True) ?hr ?hp (fun _ hk => hk) trivial (Below.refl _ _) (Nat.le_refl _) (by simp) ?_; (case hd => rfl); (case hg => rfl); (case hr => (go_simp; done)); (case hp => exact dB.none _ _); intro v5 w5 ho hb kW gK; clear kW gK; have HO := ae.mk ho; have HB := ae.mk hb; clear ho hb; obtain ⟨Ao, co, eo⟩ := Kd.iJ HO.out; subst eo) | ((with_reducible refine ji (b := .append) (xs := #[.tmp 5, .tmp 6]) rfl ?_); at_builtin; refine Kd.BL (Rr := Kd.string.K w) Kd.string (w0 := w) w.heap.size rfl (.tmp 5) (.tmp 6) 190 9 (.string ⟨#[]⟩) 16 rfl Try.underlying190 akN rfl (by decide) (by omega) (.slice Ao ([] : List ByteArray).length co) ([] : List ByteArray) l0 _ _ _ (fun _ => True) (fun _ => False) rfl rfl HO.out ?aR (fun _ _ h => h) (fun _ h => h.elim) (fun _ _ => trivial) HB.out HB.out.size ?aL ?_; (case aR => exact Kd.iP HR.out HB.out); (case aL => have := HL.out; simp; omega); intro v7 w7 ho hb kW ao_; have HO7 := ae.mk ho; have HB7 := ae.mk hb; clear ho hb kW ao_))
 obtain ⟨A7, c7, e7⟩ := Kd.iJ HO7.out
 subst e7
 go_ret
 exact ⟨_, _, _, rfl, HB7.out⟩
theorem ae9 (tv : TypeId) (v : Value) (ad : Addr) (c0 : Nat) (x : ByteArray) (w : World) (hr0 : Kd.C Kd.string w (some ad) 1 [x]) (hc0 : 1 ≤ c0) :
  Calls Try.prog 195 #[.iface tv v, .slice (some ad) 1 c0] w fun e w' => (∃ t u, e = .returned (.iface t u)) ∧ Below w.heap.size w w' := by
 have HCl := ae.mk (acn ad c0 [x] (by simp) w hr0 hc0)
 clear hr0
 go_enter Try.func195, Try.ntmps195
 go_wp2_with fail
 refine HCl.out.mono ?_
 rintro e w' ⟨A, n, c, rfl, hb⟩
 have HB := ae.mk hb
 clear hb
 go_wp2
 go_ret
 exact ⟨⟨_, _, rfl⟩, kz HB.out _⟩
section
variable {σ : Type} (step : σ → aI → Bool × σ)
mutual
def vY : aI → σ → Bool × σ
 | ⟨a, b, d, l⟩, s => if (step s ⟨a, b, d, l⟩).1 = true then wH l (step s ⟨a, b, d, l⟩).2 else (false, (step s ⟨a, b, d, l⟩).2)
def wH : List aI → σ → Bool × σ
 | [], s => (true, s)
 | k :: ks, s => if (vY k s).1 = true then wH ks (vY k s).2 else (false, (vY k s).2)
end
theorem VR (c : aI) (s : σ) : vY step c s = if (step s c).1 = true then wH step c.f3 (step s c).2 else (false, (step s c).2) := by cases c; simp [vY]
theorem Jq (s : σ) : wH step [] s = (true, s) := by simp [wH]
theorem Oi (k : aI) (ks : List aI) (s : σ) : wH step (k :: ks) s = if (vY step k s).1 = true then wH step ks (vY step k s).2 else (false, (vY step k s).2) := by simp [wH]
theorem abE : ∀ (l : List aI) (s : σ), wI (fun s k => (!(vY step k s).1, (vY step k s).2)) s l = (!(wH step l s).1, (wH step l s).2) := by
 intro l
 induction l with
 | nil => intro s; rw [Jq]; rfl
 | cons k ks ih =>
  intro s
  rw [Oi]
  simp only [wI]
  cases h : (vY step k s).1 with
  | true => simp [ih]
  | false => simp
def xK : List aI → σ → Bool × σ
 | [], s => (true, s)
 | k :: ks, s => if (step s k).1 = true then xK ks (step s k).2 else (false, (step s k).2)
theorem adP : ∀ (a b : List aI) (s : σ), xK step (a ++ b) s = if (xK step a s).1 = true then xK step b (xK step a s).2 else (false, (xK step a s).2) := by
 intro a
 induction a with
 | nil => intro b s; simp [xK]
 | cons k ks ih =>
  intro b s
  simp only [List.cons_append, xK]
  by_cases h : (step s k).1 = true
  ·simp [h, ih]
  ·simp [h]
theorem aca : ∀ (N : Nat), (∀ c : aI, sz c ≤ N → ∀ s, vY step c s = xK step (jh c) s) ∧ (∀ l : List aI, jw l ≤ N → ∀ s, wH step l s = xK step (allL l) s) := by
 intro N
 induction N with
 | zero =>
  refine ⟨fun c h => ?_, fun l h => ?_⟩
  ·rw [gm] at h; omega
  ·cases l with
   | nil => intro s; rw [Jq, uZ]; rfl
   | cons x xs => rw [gz, gm] at h; omega
 | succ N ih =>
  have hC : ∀ c : aI, sz c ≤ N + 1 → ∀ s, vY step c s = xK step (jh c) s := by
   intro c h s
   rw [gm] at h
   rw [VR, yH]
   simp only [xK]
   rw [ih.2 c.f3 (by omega)]
  refine ⟨hC, fun l => ?_⟩
  induction l with
  | nil => intro _ s; rw [Jq, uZ]; rfl
  | cons x xs ihl =>
   intro h s
   rw [gz] at h
   rw [Oi, sO, adP, hC x (by omega), ihl (by omega)]
end
def uQ (c : aI) : Bool := rQ c.f1 && decide (1 ≤ c.f0 ∧ c.f0 ≤ 3) && decide (c.f0 = 1 → c.f3.length = 0 ∧ 0 ≤ c.f2 ∧ c.f2 ≤ 2147483647) && decide (c.f0 > 1 → 2 ≤ c.f3.length ∧ c.f2 = 0)
def jo : List aI → Bool
 | [] => true
 | x :: xs => (xs.all fun y => decide (y.f2 ≠ x.f2)) && jo xs
def rY (pre : List aI) (x : aI) : Bool := pre.all fun y => decide (x.f2 ≠ y.f2)
theorem vM (pre : List aI) (x : aI) : jo (pre ++ [x]) = (jo pre && rY pre x) := by
 induction pre with
 | nil => simp [jo, rY]
 | cons y ys ih =>
  have : (decide (x.f2 ≠ y.f2)) = decide (¬ x.f2 = y.f2) := rfl
  simp only [List.cons_append, jo, ih, rY, List.all_append, List.all_cons, List.all_nil, Bool.and_true]
  cases (ys.all fun z => decide (z.f2 ≠ y.f2)) <;> cases (decide (x.f2 ≠ y.f2)) <;> cases jo ys <;> cases (ys.all fun z => decide (x.f2 ≠ z.f2)) <;> rfl
theorem BO : ∀ (pre rest : List aI), jo pre = false → jo (pre ++ rest) = false := by
 intro pre rest h
 induction rest generalizing pre with
 | nil => rw [List.append_nil]; exact h
 | cons x xs ih =>
  have := ih (pre ++ [x]) (by rw [vM, h, Bool.false_and])
  rwa [List.append_assoc] at this
def o6 (c : aI) : Bool := decide (sz c ≤ 20000) && ((jh c).all uQ && jo (rZ c))
theorem akM {σ : Type} (Inv : σ → World → Prop) (step : σ → aI → Bool × σ) (g : Nat) (lb : Array Value) (eg : ∀ args w, (callFunc g args).run Try.prog w = .ok (.enter g args) w) (l : List aI) (A : Option Addr) (c : Nat)
  (w0 : World) (hR : Kd.C k26 w0 A l.length l) (hW : ∀ s W, Inv s W → Below w0.heap.size w0 W) (hD : ∀ s W n, Inv s W → Inv s (W.drewN n))
  (hcall : ∀ s W (x : aI) (B : Option Addr) (cb : Nat), x ∈ l → Inv s W → Kd.C k26 w0 B x.f3.length x.f3 → x.f3.length ≤ cb → Calls Try.prog g (#[.agg #[.int .u8 x.f0, .int .i64 x.f1.f0, .int .i64 x.f1.f1, .int .i64 x.f1.f2, .int .i64 x.f1.f3, .int .i64 x.f2, .slice B x.f3.length cb]] ++ lb) W fun e w' => e = .returned (.bool (step s x).1) ∧ Inv (step s x).2 w')
  (s : σ) (w : World) (hI : Inv s w) (hl : l.length ≤ 9223372036854775807) :
  Calls Try.prog 192 #[.slice A l.length c, .func (.func g) #[] lb] w fun e w' => e = .returned (.int .i64 (o5 step 0 s l).1) ∧ Inv (o5 step 0 s l).2 w' := by
 have HR := ae.mk hR
 have HW := ae.mk hW
 have HI := ae.mk hI
 have BX := ae.mk hcall
 clear hR hW hcall hD hI
 go_enter Try.func192, Try.ntmps192
 go_wp2
 go_loopg [5, 8] l.length (fun gg _ v8 wr => ∃ (kk : Nat) (t : σ), kk ≤ l.length ∧ l.length - kk ≤ gg ∧ v8 = .int .i64 kk ∧ ae (Inv t wr) ∧ ae (o5 step 0 s l = o5 step kk t (l.drop kk)))
 case atStart => exact ⟨0, s, Nat.zero_le _, by omega, rfl, HI, ⟨by simp⟩⟩
 case round =>
  clear HI
  obtain ⟨kk, t, hkk, hg, rfl, HI, HS⟩ := hrel
  by_cases hlt : kk < l.length
  ·have hltz : (kk : Int) < (l.length : Int) := by omega
   obtain ⟨ad, B, cb, rfl, hc0, hc1, hc2, hc3, hc4, hc5, hc6, hlb, hgb⟩ := nV HR.out (kk : Int) (by omega) (by omega)
   have hbw := HW.out t wr HI.out
   replace hc0 := (hbw.cell (World.block_lt_of_cell? w0 _ hc0)).trans hc0
   replace hc1 := (hbw.cell (World.block_lt_of_cell? w0 _ hc1)).trans hc1
   replace hc2 := (hbw.cell (World.block_lt_of_cell? w0 _ hc2)).trans hc2
   replace hc3 := (hbw.cell (World.block_lt_of_cell? w0 _ hc3)).trans hc3
   replace hc4 := (hbw.cell (World.block_lt_of_cell? w0 _ hc4)).trans hc4
   replace hc5 := (hbw.cell (World.block_lt_of_cell? w0 _ hc5)).trans hc5
   replace hc6 := (hbw.cell (World.block_lt_of_cell? w0 _ hc6)).trans hc6
   clear hbw
   have HX : ae (o5 step kk t (l.drop kk) = if (step t (au l (kk : Int))).1 = true then ((kk : Int), (step t (au l (kk : Int))).2) else o5 step ((kk + 1 : Nat) : Int) (step t (au l (kk : Int))).2 (l.drop (kk + 1))) := ⟨XB step z26 l kk hlt t⟩
   have hmem : (au l (kk : Int)) ∈ l := H9 z26 l kk hlt
   have hcall := BX.out t wr _ B cb hmem HI.out hgb hlb
   clear hmem hgb hlb
   simp only [Int.toNat_natCast] at hc0 hc1 hc2 hc3 hc4 hc5 hc6
   generalize au l (kk : Int) = x at hc0 hc1 hc2 hc3 hc4 hc5 hc6 HX hcall
   have HC := ae.mk hcall
   clear hcall
   cases hq : (step t x).1 with
   | true =>
    have h := HC.out
    rw [hq] at h
    have HH := ae.mk h
    have HQ := ae.mk hq
    clear hq HC h
    go_wp2_with fail
    refine HH.out.mono ?_
    rintro e w' ⟨rfl, hb'⟩
    have HB := ae.mk hb'
    clear hb'
    go_wp2
    go_ret
    rw [HS.out, HX.out, if_pos HQ.out]
    exact ⟨rfl, HB.out⟩
   | false =>
    have h := HC.out
    rw [hq] at h
    have HH := ae.mk h
    have HQ := ae.mk hq
    clear hq HC h
    go_wp2_with fail
    refine HH.out.mono ?_
    rintro e w' ⟨rfl, hb'⟩
    have HB := ae.mk hb'
    clear hb'
    go_wp2
    go_roundg (l.length - (kk + 1))
    case measure => omega
    case rel =>
     refine ⟨kk + 1, (step t x).2, by omega, by omega, by go_num, HB, ⟨?_⟩⟩
     rw [HS.out, HX.out, if_neg (by rw [HQ.out]; simp)]
  ·have hltz : ¬ (kk : Int) < (l.length : Int) := by omega
   go_wp2
   go_ret
   rw [HS.out, List.drop_eq_nil_of_le (by omega)]
   exact ⟨rfl, HI.out⟩
theorem aay {σ : Type} (Inv : σ → World → Prop) (step : σ → aI → Bool × σ) (g : Nat) (lb : Array Value) (eg : ∀ args w, (callFunc g args).run Try.prog w = .ok (.enter g args) w) (l : List aI) (A : Option Addr) (c : Nat)
  (w0 : World) (hR : Kd.C k26 w0 A l.length l) (hW : ∀ s W, Inv s W → Below w0.heap.size w0 W) (hD : ∀ s W n, Inv s W → Inv s (W.drewN n))
  (hcall : ∀ s W (x : aI) (B : Option Addr) (cb : Nat), x ∈ l → Inv s W → Kd.C k26 w0 B x.f3.length x.f3 → x.f3.length ≤ cb → Calls Try.prog g (#[.agg #[.int .u8 x.f0, .int .i64 x.f1.f0, .int .i64 x.f1.f1, .int .i64 x.f1.f2, .int .i64 x.f1.f3, .int .i64 x.f2, .slice B x.f3.length cb]] ++ lb) W fun e w' => e = .returned (.bool (step s x).1) ∧ Inv (step s x).2 w')
  (s : σ) (w : World) (hI : Inv s w) (hl : l.length ≤ 9223372036854775807) :
  Calls Try.prog 174 #[.slice A l.length c, .func (.func g) #[] lb] w fun e w' => e = .returned (.bool (wI step s l).1) ∧ Inv (wI step s l).2 w' := by
 have hi := akM Inv step g lb eg l A c w0 hR hW hD hcall s w hI hl
 rw [Va]
 clear hR hW hD hcall hI
 generalize o5 step 0 s l = r at hi
 have HI := ae.mk hi
 clear hi
 go_enter Try.func174, Try.ntmps174
 go_wp2_with fail
 refine HI.out.mono ?_
 rintro e w' ⟨rfl, hb'⟩
 have HB := ae.mk hb'
 clear hb'
 go_wp2
 go_ret
 exact ⟨rfl, HB.out⟩
theorem Xu (l : List aI) (A : Option Addr) (c : Nat) (g : Nat) (lb : Array Value) (Q : World → Prop) (b : Bool) (w : World)
  (h : Calls Try.prog 174 #[.slice A l.length c, .func (.func g) #[] lb] w fun e w' => e = .returned (.bool b) ∧ Q w') (hD : ∀ W n, Q W → Q (W.drewN n)) :
  Calls Try.prog 142 #[.slice A l.length c, .func (.func g) #[] lb] w fun e w' => e = .returned (.bool (!b)) ∧ Q w' := by
 have H := ae.mk h
 clear h hD
 cases b
 all_goals
  go_enter Try.func142, Try.ntmps142
  go_wp2_with fail
  refine H.out.mono ?_
  rintro e w' ⟨rfl, hb⟩
  have HB := ae.mk hb
  clear hb
  go_wp2
  go_ret
  exact ⟨rfl, HB.out⟩
structure Kp (S : Nat → Prop) (W W' : World) : Prop where
 size : W.heap.size ≤ W'.heap.size
 blk : ∀ k, k < W.heap.size → ¬ S k → W'.heap[k]? = W.heap[k]?
theorem Kp.refl (S : Nat → Prop) (W : World) : Kp S W W := ⟨Nat.le_refl _, fun _ _ _ => rfl⟩
theorem Kp.trans {S : Nat → Prop} {W W1 W2 : World} (h : Kp S W W1) (k : Kp S W1 W2) : Kp S W W2 := ⟨Nat.le_trans h.size k.size, fun i hi hs => (k.blk i (Nat.lt_of_lt_of_le hi h.size) hs).trans (h.blk i hi hs)⟩
theorem Kp.below {S : Nat → Prop} {W W1 : World} (h : Below W.heap.size W W1) : Kp S W W1 := ⟨h.size, fun i hi _ => h.block i hi⟩
theorem Kp.at {S : Nat → Prop} {W W1 : World} {g : Nat} {o : Obj} (h : Kp S W W1) (hb : W.heap[g]? = some o) (hs : ¬ S g) : W1.heap[g]? = some o := (h.blk g (eP hb) hs).trans hb
theorem aj7 (x : aI) (B : Option Addr) (cb g : Nat) (lb : Array Value) (b3 : Nat) (r : Bool) (R : World → Prop) (W : World) (hk : W.heap[b3]? = some (.cells #[.func (.func g) #[] lb] 27 (0, 0)))
  (h : ∀ W1, Below W.heap.size W W1 → Calls Try.prog 175 #[.agg #[.int .u8 x.f0, .int .i64 x.f1.f0, .int .i64 x.f1.f1, .int .i64 x.f1.f2, .int .i64 x.f1.f3, .int .i64 x.f2, .slice B x.f3.length cb], .func (.func g) #[] lb] W1 fun e w' => e = .returned (.bool r) ∧ R w') :
  Calls Try.prog 193 (#[.agg #[.int .u8 x.f0, .int .i64 x.f1.f0, .int .i64 x.f1.f1, .int .i64 x.f1.f2, .int .i64 x.f1.f3, .int .i64 x.f2, .slice B x.f3.length cb]] ++ #[.pointer (some ⟨b3, 0, none⟩)]) W fun e w' => e = .returned (.bool (!r)) ∧ R w' := by
 have HK := ae.mk hk
 have H := ae.mk h
 clear hk h
 simp only [List.append_toArray, List.cons_append, List.nil_append]
 cases r
 all_goals
  go_enter Try.func193, Try.ntmps193
  go_wp2_with (((with_reducible refine aQ (N := 2) rfl ?_); refine aX ?hg (N := 2) ?hd (cs := #[.int .u8 x.f0, .int .i64 x.f1.f0, .int .i64 x.f1.f1, .int .i64 x.f1.f2, .int .i64 x.f1.f3, .int .i64 x.f2, .slice B x.f3.length cb]) (t := 26) ?hr ?_; (case hd => rfl); (case hg => rfl); (case hr => (go_simp; done)); intro b2 hg w2 hbox hb; have HB := ae.mk hb; have K2 := ae.mk hbox; have K3 := ae.mk (aK HK.out hb); clear hb hbox hg; have c0 := (af K2.out 0).trans rfl; have c1 := (af K2.out 1).trans rfl; have c2 := (af K2.out 2).trans rfl; have c3 := (af K2.out 3).trans rfl; have c4 := (af K2.out 4).trans rfl; have c5 := (af K2.out 5).trans rfl; have c6 := (af K2.out 6).trans rfl; have d0 := (af K3.out 0).trans rfl))
  clear c0 c1 c2 c3 c4 c5 c6 d0
  refine (H.out _ HB.out).mono ?_
  rintro e w' ⟨rfl, hR⟩
  have HR := ae.mk hR
  clear hR
  go_wp2
  go_ret
  exact ⟨rfl, HR.out⟩
theorem ajK {σ : Type} (S : Nat → Prop) (Inv : σ → World → Prop) (step : σ → aI → Bool × σ) (g : Nat) (lb : Array Value) (eg : ∀ args w, (callFunc g args).run Try.prog w = .ok (.enter g args) w) (w0 : World)
  (hW : ∀ s W, Inv s W → Below w0.heap.size w0 W) (hB : ∀ s W W', Inv s W → Below W.heap.size W W' → Inv s W') (hS : ∀ s W, Inv s W → ∀ k, S k → k < W.heap.size)
  (hcall : ∀ s W (x : aI) (B : Option Addr) (cb : Nat), Inv s W → Kd.C k26 w0 B x.f3.length x.f3 → x.f3.length ≤ cb → Calls Try.prog g (#[.agg #[.int .u8 x.f0, .int .i64 x.f1.f0, .int .i64 x.f1.f1, .int .i64 x.f1.f2, .int .i64 x.f1.f3, .int .i64 x.f2, .slice B x.f3.length cb]] ++ lb) W fun e w' => e = .returned (.bool (step s x).1) ∧ Inv (step s x).2 w' ∧ Kp S W w') :
  ∀ (N : Nat) (c : aI), sz c ≤ N → ∀ (A : Option Addr) (cc : Nat), Kd.C k26 w0 A c.f3.length c.f3 → c.f3.length ≤ cc → ∀ s W, Inv s W →
   Calls Try.prog 175 #[.agg #[.int .u8 c.f0, .int .i64 c.f1.f0, .int .i64 c.f1.f1, .int .i64 c.f1.f2, .int .i64 c.f1.f3, .int .i64 c.f2, .slice A c.f3.length cc], .func (.func g) #[] lb] W fun e w' => e = .returned (.bool (vY step c s).1) ∧ Inv (vY step c s).2 w' ∧ Kp S W w' := by
 intro N
 induction N with
 | zero => intro c h; rw [gm] at h; omega
 | succ N ih =>
  intro c hc A cc hr hlc s W hI
  have hsz := gm c
  have ae2 : ∀ (b3 : Nat) (s1 : σ) (W1 : World), Inv s1 W1 → W1.heap[b3]? = some (.cells #[.func (.func g) #[] lb] 27 (0, 0)) → ¬ S b3 →
    Calls Try.prog 142 #[.slice A c.f3.length cc, .func (.func 193) #[] #[.pointer (some ⟨b3, 0, none⟩)]] W1 fun e w' => e = .returned (.bool (wH step c.f3 s1).1) ∧ Inv (wH step c.f3 s1).2 w' ∧ Kp S W1 w' := by
   intro b3 s1 W1 hI1 hk3 hs3
   have hcon := aay (fun t w' => Inv t w' ∧ Kp S W1 w') (fun t k => (!(vY step k t).1, (vY step k t).2)) 193 #[.pointer (some ⟨b3, 0, none⟩)] (wU Try.func193 (by decide +kernel) (by kernel_rfl)) c.f3 A cc w0 hr (fun t w' h => hW t w' h.1)
    (fun t w' n h => ⟨hB t w' _ h.1 (fV (Below.refl _ _) n), h.2.trans (Kp.below (fV (Below.refl _ _) n))⟩)
    (fun t w' x B cb hx h hCx hlx => by
     refine aj7 x B cb g lb b3 _ _ w' (h.2.at hk3 hs3) (fun W2 hb2 => ?_)
     refine (ih x ?_ B cb hCx hlx t W2 (hB t w' W2 h.1 hb2)).mono fun e w'' ⟨he, hi, hk⟩ => ⟨he, hi, (h.2.trans (Kp.below hb2)).trans hk⟩
     have : sz x ≤ jw c.f3 := by
      obtain ⟨p, q, e⟩ := List.append_of_mem hx
      rw [e, vT, gz]; omega
     omega) s1 W1 ⟨hI1, Kp.refl S W1⟩ hr.2.1
   rw [abE] at hcon
   have := Xu c.f3 A cc 193 _ _ _ W1 hcon (fun w' n h => ⟨hB _ w' _ h.1 (fV (Below.refl _ _) n), h.2.trans (Kp.below (fV (Below.refl _ _) n))⟩)
   rw [Bool.not_not] at this
   exact this
  have akn : ∀ k, S k → k < W.heap.size := hS s W hI
  have hE := VR step c s
  have hcl := fun W1 (h : Inv s W1) => hcall s W1 c A cc h hr hlc
  rcases hst : step s c with ⟨q, s1⟩
  rw [hst] at hE hcl
  simp only [] at hE hcl
  rw [hE]
  have HN := ae.mk fun b3 W1 => ae2 b3 s1 W1
  have HI := ae.mk hI
  have BX := ae.mk hcl
  have HBb := ae.mk hB
  have HS := ae.mk hS
  have HS0 := ae.mk akn
  have HK := ae.mk (Kp.refl S W)
  clear ae2 hI hcall hB hS ih hr hlc hsz hc hW hE hcl hst akn
  obtain ⟨ck, ⟨cx, cy, cw, ch⟩, aV, l⟩ := c
  simp only [] at HN BX ⊢
  generalize wH step l s1 = ns at HN ⊢
  obtain ⟨n1, n2⟩ := ns
  cases q with
  | false =>
   simp only [Bool.false_eq_true, if_false]
   clear HN
   go_enter Try.func175, Try.ntmps175
   go_wp2_with (first | ((with_reducible refine aQ (N := 2) rfl ?_); refine aX ?hg (N := 2) ?hd (cs := #[.int .u8 ck, .int .i64 cx, .int .i64 cy, .int .i64 cw, .int .i64 ch, .int .i64 aV, .slice A l.length cc]) (t := 26) ?hr ?_; (case hd => rfl); (case hg => rfl); (case hr => (go_simp; done)); intro b2 hg wb2 hbox hb; have K2 := ae.mk hbox; have HS2 := ae.mk (show ¬ b2 < W.heap.size by rw [hg]; exact Nat.lt_irrefl _); have gI := ae.mk (HBb.out _ _ _ HI.out hb); have f_ := ae.mk (HK.out.trans (Kp.below hb)); clear HI HK; have HI := gI; have HK := f_; clear gI f_; clear hb hbox hg) | ((with_reducible refine aQ (N := 3) rfl ?_); refine aX ?hg (N := 3) ?hd (cs := #[.func (.func g) #[] lb]) (t := 27) ?hr ?_; (case hd => rfl); (case hg => rfl); (case hr => (go_simp; done)); intro b3 hg wb3 hbox hb; have K3 := ae.mk hbox; have kN := ae.mk (aK K2.out hb); have NS := ae.mk (fun h => Nat.lt_irrefl _ (Nat.lt_of_lt_of_le (hg ▸ HS.out _ _ HI.out b3 h) (Nat.le_refl _)) : ¬ S b3); have NS2 := ae.mk (fun h => HS2.out (HS0.out b2 h) : ¬ S b2); clear K2; have K2 := kN; clear kN; have gI := ae.mk (HBb.out _ _ _ HI.out hb); have f_ := ae.mk (HK.out.trans (Kp.below hb)); clear HI HK; have HI := gI; have HK := f_; clear gI f_; clear hb hbox hg; have c0 := (af K2.out 0).trans rfl; have c1 := (af K2.out 1).trans rfl; have c2 := (af K2.out 2).trans rfl; have c3 := (af K2.out 3).trans rfl; have c4 := (af K2.out 4).trans rfl; have c5 := (af K2.out 5).trans rfl; have c6 := (af K2.out 6).trans rfl; have d0 := (af K3.out 0).trans rfl))
   clear c0 c1 c2 c3 c4 c5 c6 d0
   refine (BX.out _ HI.out).mono ?_
   rintro e w' ⟨rfl, hi, hk⟩
   have HI' := ae.mk hi
   have HK' := ae.mk (HK.out.trans hk)
   clear hi hk
   go_wp2
   go_ret
   exact ⟨rfl, HI'.out, HK'.out⟩
  | true =>
   simp only [if_true]
   cases n1
   all_goals
    go_enter Try.func175, Try.ntmps175
    go_wp2_with (first | ((with_reducible refine aQ (N := 2) rfl ?_); refine aX ?hg (N := 2) ?hd (cs := #[.int .u8 ck, .int .i64 cx, .int .i64 cy, .int .i64 cw, .int .i64 ch, .int .i64 aV, .slice A l.length cc]) (t := 26) ?hr ?_; (case hd => rfl); (case hg => rfl); (case hr => (go_simp; done)); intro b2 hg wb2 hbox hb; have K2 := ae.mk hbox; have HS2 := ae.mk (show ¬ b2 < W.heap.size by rw [hg]; exact Nat.lt_irrefl _); have gI := ae.mk (HBb.out _ _ _ HI.out hb); have f_ := ae.mk (HK.out.trans (Kp.below hb)); clear HI HK; have HI := gI; have HK := f_; clear gI f_; clear hb hbox hg) | ((with_reducible refine aQ (N := 3) rfl ?_); refine aX ?hg (N := 3) ?hd (cs := #[.func (.func g) #[] lb]) (t := 27) ?hr ?_; (case hd => rfl); (case hg => rfl); (case hr => (go_simp; done)); intro b3 hg wb3 hbox hb; have K3 := ae.mk hbox; have kN := ae.mk (aK K2.out hb); have NS := ae.mk (fun h => Nat.lt_irrefl _ (Nat.lt_of_lt_of_le (hg ▸ HS.out _ _ HI.out b3 h) (Nat.le_refl _)) : ¬ S b3); have NS2 := ae.mk (fun h => HS2.out (HS0.out b2 h) : ¬ S b2); clear K2; have K2 := kN; clear kN; have gI := ae.mk (HBb.out _ _ _ HI.out hb); have f_ := ae.mk (HK.out.trans (Kp.below hb)); clear HI HK; have HI := gI; have HK := f_; clear gI f_; clear hb hbox hg; have c0 := (af K2.out 0).trans rfl; have c1 := (af K2.out 1).trans rfl; have c2 := (af K2.out 2).trans rfl; have c3 := (af K2.out 3).trans rfl; have c4 := (af K2.out 4).trans rfl; have c5 := (af K2.out 5).trans rfl; have c6 := (af K2.out 6).trans rfl; have d0 := (af K3.out 0).trans rfl))
    clear c0 c1 c2 c3 c4 c5 c6 d0
    refine (BX.out _ HI.out).mono ?_
    rintro e w' ⟨rfl, hi, hk⟩
    have HI' := ae.mk hi
    have HK' := ae.mk (HK.out.trans hk)
    have K3' := ae.mk (hk.at K3.out NS.out)
    have K2' := ae.mk (hk.at K2.out NS2.out)
    clear hi hk
    have c6 : w'.cell? ⟨b2, 6, none⟩ = some (.slice A l.length cc) := (af K2'.out 6).trans rfl
    go_wp2_with fail
    clear c6
    refine (HN.out b3 w' HI'.out K3'.out NS.out).mono ?_
    rintro e w'' ⟨rfl, hi, hk⟩
    have HI2 := ae.mk hi
    have v_ := ae.mk (HK'.out.trans hk)
    clear hi hk
    go_wp2
    go_ret
    exact ⟨rfl, HI2.out, v_.out⟩
def zG (x : aI) : Bool := if x.f0 = 1 then decide (x.f3.length = 0) && (decide (0 ≤ x.f2) && decide (x.f2 ≤ 2147483647)) else if x.f0 = 2 ∨ x.f0 = 3 then decide (2 ≤ x.f3.length) && decide (x.f2 = 0) else false
theorem Dz (x : aI) : uQ x = (zG x && rQ x.f1) := by
 unfold uQ zG
 by_cases h1 : x.f0 = 1
 ·simp [h1, Bool.and_comm, Bool.and_assoc]
 ·by_cases h2 : x.f0 = 2
  ·simp [h2, Bool.and_comm]
  ·by_cases h3 : x.f0 = 3
   ·simp [h3, Bool.and_comm]
   ·have : ¬ (1 ≤ x.f0 ∧ x.f0 ≤ 3) := by omega
    simp [h1, h2, h3, this]
def lV (s : Int × List Int) (x : aI) : Bool × (Int × List Int) :=
 if 20000 < wrap64 (s.1 + 1) then (false, (wrap64 (s.1 + 1), s.2))
 else if uQ x = false then (false, (wrap64 (s.1 + 1), s.2))
 else if x.f0 = 1 then (if x.f2 ∈ s.2 then (false, (wrap64 (s.1 + 1), s.2)) else (true, (wrap64 (s.1 + 1), x.f2 :: s.2)))
 else (true, (wrap64 (s.1 + 1), s.2))
def lv (l : List aI) : List aI := l.filter fun x => decide (x.f0 = 1)
theorem abb : ∀ (rest pre : List aI), (pre ++ rest).length ≤ 1048576 → pre.length ≤ 20000 → jo (lv pre) = true →
  (xK lV rest ((pre.length : Int), ((lv pre).map (·.f2)).reverse)).1 = (decide (pre.length + rest.length ≤ 20000) && (rest.all uQ && jo (lv (pre ++ rest)))) := by
 intro rest
 induction rest with
 | nil =>
  intro pre _ h2 h3
  simp [xK, h3]
  exact h2
 | cons x xs ih =>
  intro pre h1 h2 h3
  have hlen : (pre ++ x :: xs).length = pre.length + xs.length + 1 := by simp; omega
  have hw : wrap64 ((pre.length : Int) + 1) = ((pre.length + 1 : Nat) : Int) := (wq (by omega) (by omega)).trans (by omega)
  have hsp : pre ++ x :: xs = (pre ++ [x]) ++ xs := by simp
  simp only [xK]
  unfold lV
  simp only [hw]
  by_cases c1 : (20000 : Int) < ((pre.length + 1 : Nat) : Int)
  ·rw [if_pos c1]
   simp
   intro h
   omega
  ·rw [if_neg c1]
   cases c2 : uQ x with
   | false => simp [c2]
   | true =>
    simp only [Bool.true_eq_false, if_false, List.all_cons, c2, Bool.true_and]
    have hl1 : (pre ++ [x]).length = pre.length + 1 := by simp
    have hcnt : decide (pre.length + (x :: xs).length ≤ 20000) = decide ((pre ++ [x]).length + xs.length ≤ 20000) := by
     rw [hl1, List.length_cons, decide_eq_decide]; omega
    rw [hcnt]
    by_cases c3 : x.f0 = 1
    ·rw [if_pos c3]
     have hlv : lv (pre ++ [x]) = lv pre ++ [x] := by simp [lv, c3]
     have hmem : x.f2 ∈ ((lv pre).map (·.f2)).reverse ↔ rY (lv pre) x = false := by
      simp [rY]
      constructor
      ·rintro ⟨y, hy, e⟩; exact ⟨y, hy, e.symm⟩
      ·rintro ⟨y, hy, e⟩; exact ⟨y, hy, e.symm⟩
     by_cases c4 : x.f2 ∈ ((lv pre).map (·.f2)).reverse
     ·rw [if_pos c4]
      have hd : jo (lv (pre ++ x :: xs)) = false := by
       rw [hsp]
       unfold lv
       rw [List.filter_append]
       apply BO
       have : List.filter (fun x => decide (x.f0 = 1)) (pre ++ [x]) = lv pre ++ [x] := hlv
       rw [this, vM, hmem.1 c4, Bool.and_false]
      simp [hd]
     ·rw [if_neg c4]
      have ha : rY (lv pre) x = true := by
       cases h : rY (lv pre) x with
       | true => rfl
       | false => exact absurd (hmem.2 h) c4
      have e := ih (pre ++ [x]) (by rw [← hsp]; exact h1) (by rw [hl1]; omega) (by rw [hlv, vM, h3, ha]; rfl)
      rw [hlv, List.map_append, List.reverse_append, hl1, ← hsp] at e
      simp only [if_true]
      rw [hl1]
      exact e
    ·rw [if_neg c3]
     have hlv : lv (pre ++ [x]) = lv pre := by simp [lv, c3]
     have e := ih (pre ++ [x]) (by rw [← hsp]; exact h1) (by rw [hl1]; omega) (by rw [hlv]; exact h3)
     rw [hlv, hl1, ← hsp] at e
     simp only [if_true]
     rw [hl1]
     exact e
theorem ab_ (c : aI) (h : sz c ≤ 1048576) : (vY lV c (0, [])).1 = o6 c := by
 rw [(aca lV (sz c)).1 c (Nat.le_refl _)]
 have e := abb (jh c) [] (by rw [List.nil_append]; exact h) (by simp) rfl
 have e2 : (xK lV (jh c) (0, [])).1 = (decide (0 + (jh c).length ≤ 20000) && ((jh c).all uQ && jo (lv ([] ++ jh c)))) := e
 rw [e2, Nat.zero_add, List.nil_append]
 rfl
theorem ade : ∀ (N : Nat) (l : List Int), l.Nodup → (∀ i ∈ l, 0 ≤ i ∧ i < (N : Int)) → l.length ≤ N := by
 intro N
 induction N with
 | zero =>
  intro l _ h
  cases l with
  | nil => simp
  | cons x xs => have := h x (by simp); omega
 | succ N ih =>
  intro l hn h
  have h1 := ih (l.filter fun i => decide (i ≠ (N : Int))) (hn.filter _) (fun i hi => by
   have h2 := List.mem_filter.1 hi
   have h3 := h i h2.1
   have h4 := of_decide_eq_true h2.2
   omega)
  have h5 : ∀ (m : List Int), m.Nodup → m.length ≤ (m.filter fun i => decide (i ≠ (N : Int))).length + 1 := by
   intro m
   induction m with
   | nil => intro _; simp
   | cons y ys ihm =>
    intro hm
    rw [List.nodup_cons] at hm
    by_cases hy : y = (N : Int)
    ·have : ys.filter (fun i => decide (i ≠ (N : Int))) = ys := by
      rw [List.filter_eq_self]
      intro i hi
      exact decide_eq_true (fun e => hm.1 (by rw [hy, ← e]; exact hi))
     rw [List.filter_cons_of_neg (by simp [hy]), this, List.length_cons]
     exact Nat.le_refl _
    ·rw [List.filter_cons_of_pos (by simpa using hy), List.length_cons, List.length_cons]
     have := ihm hm.2
     omega
  have := h5 l hn
  omega
def L_ (ids : List Int) : DataW Unit := ids.foldr (fun i D => D.put (.int .i64 i) (.lit (.bool true))) (.map [])
theorem adQ : ∀ ids : List Int, Maps.IsMap (L_ ids) := by
 intro ids
 induction ids with
 | nil => exact Maps.isMap_empty
 | cons x xs ih => exact Maps.IsMap.put ih _ _
theorem XE (i : Int) : ∀ ids : List Int, (L_ ids).atKey (.int .i64 i) (.lit (.bool false)) = .lit (.bool (decide (i ∈ ids))) := by
 intro ids
 induction ids with
 | nil => rfl
 | cons x xs ih =>
  show (DataW.put (L_ xs) (.int .i64 x) (.lit (.bool true))).atKey (.int .i64 i) (.lit (.bool false)) = _
  by_cases h : i = x
  ·subst h
   rw [Maps.atKey_put_same (adQ xs) (by simp [WideAt.IsKeyLit])]
   simp
  ·rw [Maps.atKey_put_other (by intro e; injection e with _ e; exact h e), ih]
   simp [h]
structure pV (w0 : World) (bn bm B : Nat) (s : Int × List Int) (W : World) : Prop where
 hn : W.heap[bn]? = some (.cells #[.int .i64 s.1] 3 (0, 0))
 hm : W.heap[bm]? = some (.cells #[.map (some B)] 161 (0, 0))
 map : W.ownsMap (H := Unit) Try.prog 3 (plainElem Try.prog 4) B s.2.length (L_ s.2)
 below : Below w0.heap.size w0 W
 gn : w0.heap.size ≤ bn
 gB : w0.heap.size ≤ B
 nd : s.2.Nodup
 rg : ∀ i ∈ s.2, 0 ≤ i ∧ i ≤ 2147483647
theorem below_grown {W W' : World} (h : Below W.heap.size W W') : W.grownBy W' none := ⟨h.os, h.tape, h.output, h.size, fun k hk _ => h.block k hk⟩
theorem pV.step {w0 W W' : World} {bn bm B : Nat} {s : Int × List Int} (h : pV w0 bn bm B s W) (hb : Below W.heap.size W W') : pV w0 bn bm B s W' :=
 ⟨aK h.hn hb, aK h.hm hb, h.map.kept (below_grown hb) (by simp), aH h.below hb, h.gn, h.gB, h.nd, h.rg⟩
theorem pV.neB {w0 W : World} {bn bm B : Nat} {s : Int × List Int} (h : pV w0 bn bm B s W) : bn ≠ B ∧ bm ≠ B ∧ bm ≠ bn := by
 obtain ⟨es, cl, hB, _⟩ := h.map
 refine ⟨fun e => ?_, fun e => ?_, xQ h.hm h.hn (by decide)⟩
 ·have := h.hn; rw [e, hB] at this; cases this
 ·have := h.hm; rw [e, hB] at this; cases this
def zn (bn B : Nat) (k : Nat) : Prop := k = bn ∨ k = B
section
variable {P : Program} {ops : Array Oper} {rest : List Oper} {o : Oper} {a : Act} {Q : Exit → Act → World → Prop}
theorem KJ (w : World) (hg : o.guard = none) (m x : Operand) (t : TypeId) (hop : o.op = Op.lookup t m x false)
  (k e : TypeId) (K : Maps.Keyed P k) (ht : P.underlying t = some (.map k e)) (he : P.underlying e = some .bool) (hz : (zeroValue e).run P w = .ok (.bool false) w) (b n : Nat) (D : DataW Unit)
  (hm : a.eval m = .map (some b)) (hown : w.ownsMap P k (plainElem P e) b n D) (key : Value) (kl : Lit) (hx : a.eval x = key) (hkey : keyOf P k key = some kl) (r : Bool) (hr : D.atKey kl (.lit (.bool false)) = .lit (.bool r))
  (hK : wpList P ops Q rest (a.put o.dst (.bool r)) w) : wpList P ops Q (o :: rest) a w := by
 refine wpList_plain hg fun K' hK' => ?_
 obtain ⟨v, ps, hrun, hv⟩ := hown.lookup K ht hz (plainElem_bool he false) hkey
 have hv2 : v = .bool r := by
  rw [hr] at hv
  unfold plainElem at hv
  rw [he] at hv
  cases v with
  | bool q =>
   simp only [Option.some.injEq, Prod.mk.injEq, DataW.lit.injEq, Lit.bool.injEq] at hv
   rw [hv.1]
  | _ => cases hv
 subst hv2
 unfold Oper.wp
 simp [execOp, hop, hm, hx, hrun, Result.andThen]
 exact hK' _ _ hK
end
theorem Gu (x : aI) (B : Option Addr) (cb : Nat) (w : World) : Calls Try.prog 177 #[.agg #[.int .u8 x.f0, .int .i64 x.f1.f0, .int .i64 x.f1.f1, .int .i64 x.f1.f2, .int .i64 x.f1.f3, .int .i64 x.f2, .slice B x.f3.length cb]] w fun e w' => e = .returned (.bool (zG x)) ∧ Below w.heap.size w w' := by
 unfold zG
 by_cases k1 : x.f0 = 1
 ·rw [if_pos k1]
  have k1b : (x.f0 == 1) = true := beq_iff_eq.mpr k1
  clear k1
  by_cases l0 : x.f3.length = 0
  ·rw [decide_eq_true l0, Bool.true_and]
   have l1 : ((x.f3.length : Int) == 0) = true := by simp [l0]
   have l2 : (x.f3.length == 0) = true := by simp [l0]
   clear l0
   by_cases i0 : 0 ≤ x.f2
   ·rw [decide_eq_true i0, Bool.true_and]
    have i0b : decide (0 ≤ x.f2) = true := decide_eq_true i0
    by_cases i1 : x.f2 ≤ 2147483647
    ·rw [decide_eq_true i1]
     have i1b : decide (x.f2 ≤ 2147483647) = true := decide_eq_true i1
     go_enter Try.func177, Try.ntmps177
     go_wp2_with (((with_reducible refine aQ (N := 1) rfl ?_); refine aX ?hg (N := 1) ?hd (cs := #[.int .u8 x.f0, .int .i64 x.f1.f0, .int .i64 x.f1.f1, .int .i64 x.f1.f2, .int .i64 x.f1.f3, .int .i64 x.f2, .slice B x.f3.length cb]) (t := 26) ?hr ?_; (case hd => rfl); (case hg => rfl); (case hr => (go_simp; done)); intro b1 hg w1 hbox hb; have HB := ae.mk hb; have K1 := ae.mk hbox; clear hb hbox hg; have c0 := (af K1.out 0).trans rfl; have c1 := (af K1.out 1).trans rfl; have c2 := (af K1.out 2).trans rfl; have c3 := (af K1.out 3).trans rfl; have c4 := (af K1.out 4).trans rfl; have c5 := (af K1.out 5).trans rfl; have c6 := (af K1.out 6).trans rfl))
     go_ret
     exact ⟨rfl, HB.out⟩
    ·rw [decide_eq_false i1]
     have i1b : decide (x.f2 ≤ 2147483647) = false := decide_eq_false i1
     go_enter Try.func177, Try.ntmps177
     go_wp2_with (((with_reducible refine aQ (N := 1) rfl ?_); refine aX ?hg (N := 1) ?hd (cs := #[.int .u8 x.f0, .int .i64 x.f1.f0, .int .i64 x.f1.f1, .int .i64 x.f1.f2, .int .i64 x.f1.f3, .int .i64 x.f2, .slice B x.f3.length cb]) (t := 26) ?hr ?_; (case hd => rfl); (case hg => rfl); (case hr => (go_simp; done)); intro b1 hg w1 hbox hb; have HB := ae.mk hb; have K1 := ae.mk hbox; clear hb hbox hg; have c0 := (af K1.out 0).trans rfl; have c1 := (af K1.out 1).trans rfl; have c2 := (af K1.out 2).trans rfl; have c3 := (af K1.out 3).trans rfl; have c4 := (af K1.out 4).trans rfl; have c5 := (af K1.out 5).trans rfl; have c6 := (af K1.out 6).trans rfl))
     go_ret
     exact ⟨rfl, HB.out⟩
   ·rw [decide_eq_false i0, Bool.false_and]
    have i0b : decide (0 ≤ x.f2) = false := decide_eq_false i0
    go_enter Try.func177, Try.ntmps177
    go_wp2_with (((with_reducible refine aQ (N := 1) rfl ?_); refine aX ?hg (N := 1) ?hd (cs := #[.int .u8 x.f0, .int .i64 x.f1.f0, .int .i64 x.f1.f1, .int .i64 x.f1.f2, .int .i64 x.f1.f3, .int .i64 x.f2, .slice B x.f3.length cb]) (t := 26) ?hr ?_; (case hd => rfl); (case hg => rfl); (case hr => (go_simp; done)); intro b1 hg w1 hbox hb; have HB := ae.mk hb; have K1 := ae.mk hbox; clear hb hbox hg; have c0 := (af K1.out 0).trans rfl; have c1 := (af K1.out 1).trans rfl; have c2 := (af K1.out 2).trans rfl; have c3 := (af K1.out 3).trans rfl; have c4 := (af K1.out 4).trans rfl; have c5 := (af K1.out 5).trans rfl; have c6 := (af K1.out 6).trans rfl))
    go_ret
    exact ⟨rfl, HB.out⟩
  ·rw [decide_eq_false l0, Bool.false_and]
   have l1 : ((x.f3.length : Int) == 0) = false := by simp; intro h; exact l0 (by simp [h])
   have l2 : (x.f3.length == 0) = false := by simpa using l0
   clear l0
   go_enter Try.func177, Try.ntmps177
   go_wp2_with (((with_reducible refine aQ (N := 1) rfl ?_); refine aX ?hg (N := 1) ?hd (cs := #[.int .u8 x.f0, .int .i64 x.f1.f0, .int .i64 x.f1.f1, .int .i64 x.f1.f2, .int .i64 x.f1.f3, .int .i64 x.f2, .slice B x.f3.length cb]) (t := 26) ?hr ?_; (case hd => rfl); (case hg => rfl); (case hr => (go_simp; done)); intro b1 hg w1 hbox hb; have HB := ae.mk hb; have K1 := ae.mk hbox; clear hb hbox hg; have c0 := (af K1.out 0).trans rfl; have c1 := (af K1.out 1).trans rfl; have c2 := (af K1.out 2).trans rfl; have c3 := (af K1.out 3).trans rfl; have c4 := (af K1.out 4).trans rfl; have c5 := (af K1.out 5).trans rfl; have c6 := (af K1.out 6).trans rfl))
   go_ret
   exact ⟨rfl, HB.out⟩
 ·rw [if_neg k1]
  have k1b : (x.f0 == 1) = false := beq_eq_false_iff_ne.mpr k1
  by_cases k2 : x.f0 = 2
  ·rw [if_pos (.inl k2)]
   have k2b : (x.f0 == 2) = true := beq_iff_eq.mpr k2
   clear k2 k1
   by_cases l0 : 2 ≤ x.f3.length
   ·rw [decide_eq_true l0, Bool.true_and]
    have l1 : (2 : Int) ≤ (x.f3.length : Int) := by omega
    by_cases i0 : x.f2 = 0
    ·rw [decide_eq_true i0]
     have i0b : (x.f2 == 0) = true := beq_iff_eq.mpr i0
     clear i0
     go_enter Try.func177, Try.ntmps177
     go_wp2_with (((with_reducible refine aQ (N := 1) rfl ?_); refine aX ?hg (N := 1) ?hd (cs := #[.int .u8 x.f0, .int .i64 x.f1.f0, .int .i64 x.f1.f1, .int .i64 x.f1.f2, .int .i64 x.f1.f3, .int .i64 x.f2, .slice B x.f3.length cb]) (t := 26) ?hr ?_; (case hd => rfl); (case hg => rfl); (case hr => (go_simp; done)); intro b1 hg w1 hbox hb; have HB := ae.mk hb; have K1 := ae.mk hbox; clear hb hbox hg; have c0 := (af K1.out 0).trans rfl; have c1 := (af K1.out 1).trans rfl; have c2 := (af K1.out 2).trans rfl; have c3 := (af K1.out 3).trans rfl; have c4 := (af K1.out 4).trans rfl; have c5 := (af K1.out 5).trans rfl; have c6 := (af K1.out 6).trans rfl))
     go_ret
     exact ⟨rfl, HB.out⟩
    ·rw [decide_eq_false i0]
     have i0b : (x.f2 == 0) = false := beq_eq_false_iff_ne.mpr i0
     clear i0
     go_enter Try.func177, Try.ntmps177
     go_wp2_with (((with_reducible refine aQ (N := 1) rfl ?_); refine aX ?hg (N := 1) ?hd (cs := #[.int .u8 x.f0, .int .i64 x.f1.f0, .int .i64 x.f1.f1, .int .i64 x.f1.f2, .int .i64 x.f1.f3, .int .i64 x.f2, .slice B x.f3.length cb]) (t := 26) ?hr ?_; (case hd => rfl); (case hg => rfl); (case hr => (go_simp; done)); intro b1 hg w1 hbox hb; have HB := ae.mk hb; have K1 := ae.mk hbox; clear hb hbox hg; have c0 := (af K1.out 0).trans rfl; have c1 := (af K1.out 1).trans rfl; have c2 := (af K1.out 2).trans rfl; have c3 := (af K1.out 3).trans rfl; have c4 := (af K1.out 4).trans rfl; have c5 := (af K1.out 5).trans rfl; have c6 := (af K1.out 6).trans rfl))
     go_ret
     exact ⟨rfl, HB.out⟩
   ·rw [decide_eq_false l0, Bool.false_and]
    have l1 : ¬ (2 : Int) ≤ (x.f3.length : Int) := by omega
    go_enter Try.func177, Try.ntmps177
    go_wp2_with (((with_reducible refine aQ (N := 1) rfl ?_); refine aX ?hg (N := 1) ?hd (cs := #[.int .u8 x.f0, .int .i64 x.f1.f0, .int .i64 x.f1.f1, .int .i64 x.f1.f2, .int .i64 x.f1.f3, .int .i64 x.f2, .slice B x.f3.length cb]) (t := 26) ?hr ?_; (case hd => rfl); (case hg => rfl); (case hr => (go_simp; done)); intro b1 hg w1 hbox hb; have HB := ae.mk hb; have K1 := ae.mk hbox; clear hb hbox hg; have c0 := (af K1.out 0).trans rfl; have c1 := (af K1.out 1).trans rfl; have c2 := (af K1.out 2).trans rfl; have c3 := (af K1.out 3).trans rfl; have c4 := (af K1.out 4).trans rfl; have c5 := (af K1.out 5).trans rfl; have c6 := (af K1.out 6).trans rfl))
    go_ret
    exact ⟨rfl, HB.out⟩
  ·by_cases k3 : x.f0 = 3
   ·rw [if_pos (.inr k3)]
    have k2b : (x.f0 == 2) = false := beq_eq_false_iff_ne.mpr k2
    have k3b : (x.f0 == 3) = true := beq_iff_eq.mpr k3
    clear k3 k2 k1
    by_cases l0 : 2 ≤ x.f3.length
    ·rw [decide_eq_true l0, Bool.true_and]
     have l1 : (2 : Int) ≤ (x.f3.length : Int) := by omega
     by_cases i0 : x.f2 = 0
     ·rw [decide_eq_true i0]
      have i0b : (x.f2 == 0) = true := beq_iff_eq.mpr i0
      clear i0
      go_enter Try.func177, Try.ntmps177
      go_wp2_with (((with_reducible refine aQ (N := 1) rfl ?_); refine aX ?hg (N := 1) ?hd (cs := #[.int .u8 x.f0, .int .i64 x.f1.f0, .int .i64 x.f1.f1, .int .i64 x.f1.f2, .int .i64 x.f1.f3, .int .i64 x.f2, .slice B x.f3.length cb]) (t := 26) ?hr ?_; (case hd => rfl); (case hg => rfl); (case hr => (go_simp; done)); intro b1 hg w1 hbox hb; have HB := ae.mk hb; have K1 := ae.mk hbox; clear hb hbox hg; have c0 := (af K1.out 0).trans rfl; have c1 := (af K1.out 1).trans rfl; have c2 := (af K1.out 2).trans rfl; have c3 := (af K1.out 3).trans rfl; have c4 := (af K1.out 4).trans rfl; have c5 := (af K1.out 5).trans rfl; have c6 := (af K1.out 6).trans rfl))
      go_ret
      exact ⟨rfl, HB.out⟩
     ·rw [decide_eq_false i0]
      have i0b : (x.f2 == 0) = false := beq_eq_false_iff_ne.mpr i0
      clear i0
      go_enter Try.func177, Try.ntmps177
      go_wp2_with (((with_reducible refine aQ (N := 1) rfl ?_); refine aX ?hg (N := 1) ?hd (cs := #[.int .u8 x.f0, .int .i64 x.f1.f0, .int .i64 x.f1.f1, .int .i64 x.f1.f2, .int .i64 x.f1.f3, .int .i64 x.f2, .slice B x.f3.length cb]) (t := 26) ?hr ?_; (case hd => rfl); (case hg => rfl); (case hr => (go_simp; done)); intro b1 hg w1 hbox hb; have HB := ae.mk hb; have K1 := ae.mk hbox; clear hb hbox hg; have c0 := (af K1.out 0).trans rfl; have c1 := (af K1.out 1).trans rfl; have c2 := (af K1.out 2).trans rfl; have c3 := (af K1.out 3).trans rfl; have c4 := (af K1.out 4).trans rfl; have c5 := (af K1.out 5).trans rfl; have c6 := (af K1.out 6).trans rfl))
      go_ret
      exact ⟨rfl, HB.out⟩
    ·rw [decide_eq_false l0, Bool.false_and]
     have l1 : ¬ (2 : Int) ≤ (x.f3.length : Int) := by omega
     go_enter Try.func177, Try.ntmps177
     go_wp2_with (((with_reducible refine aQ (N := 1) rfl ?_); refine aX ?hg (N := 1) ?hd (cs := #[.int .u8 x.f0, .int .i64 x.f1.f0, .int .i64 x.f1.f1, .int .i64 x.f1.f2, .int .i64 x.f1.f3, .int .i64 x.f2, .slice B x.f3.length cb]) (t := 26) ?hr ?_; (case hd => rfl); (case hg => rfl); (case hr => (go_simp; done)); intro b1 hg w1 hbox hb; have HB := ae.mk hb; have K1 := ae.mk hbox; clear hb hbox hg; have c0 := (af K1.out 0).trans rfl; have c1 := (af K1.out 1).trans rfl; have c2 := (af K1.out 2).trans rfl; have c3 := (af K1.out 3).trans rfl; have c4 := (af K1.out 4).trans rfl; have c5 := (af K1.out 5).trans rfl; have c6 := (af K1.out 6).trans rfl))
     go_ret
     exact ⟨rfl, HB.out⟩
   ·rw [if_neg (fun h => h.elim k2 k3)]
    have k2b : (x.f0 == 2) = false := beq_eq_false_iff_ne.mpr k2
    have k3b : (x.f0 == 3) = false := beq_eq_false_iff_ne.mpr k3
    go_enter Try.func177, Try.ntmps177
    go_wp2_with (((with_reducible refine aQ (N := 1) rfl ?_); refine aX ?hg (N := 1) ?hd (cs := #[.int .u8 x.f0, .int .i64 x.f1.f0, .int .i64 x.f1.f1, .int .i64 x.f1.f2, .int .i64 x.f1.f3, .int .i64 x.f2, .slice B x.f3.length cb]) (t := 26) ?hr ?_; (case hd => rfl); (case hg => rfl); (case hr => (go_simp; done)); intro b1 hg w1 hbox hb; have HB := ae.mk hb; have K1 := ae.mk hbox; clear hb hbox hg; have c0 := (af K1.out 0).trans rfl; have c1 := (af K1.out 1).trans rfl; have c2 := (af K1.out 2).trans rfl; have c3 := (af K1.out 3).trans rfl; have c4 := (af K1.out 4).trans rfl; have c5 := (af K1.out 5).trans rfl; have c6 := (af K1.out 6).trans rfl))
    go_ret
    exact ⟨rfl, HB.out⟩
theorem akL {σ : Type} (Inv : σ → World → Prop) (step : σ → bC → Bool × σ) (g : Nat) (lb : Array Value) (eg : ∀ args w, (callFunc g args).run Try.prog w = .ok (.enter g args) w) (l : List bC) (A : Option Addr) (c : Nat)
  (hR : ∀ s W, Inv s W → Kd.C k23 W A l.length l) (hD : ∀ s W n, Inv s W → Inv s (W.drewN n))
  (hcall : ∀ s W (x : bC), x ∈ l → Inv s W → Calls Try.prog g (#[.agg #[.int .i64 x.f0, .int .i64 x.f1, .int .i64 x.f2, .int .i64 x.f3]] ++ lb) W fun e w' => e = .returned (.bool (step s x).1) ∧ Inv (step s x).2 w')
  (s : σ) (w : World) (hI : Inv s w) (hl : l.length ≤ 9223372036854775807) :
  Calls Try.prog 173 #[.slice A l.length c, .func (.func g) #[] lb] w fun e w' => e = .returned (.int .i64 (o5 step 0 s l).1) ∧ Inv (o5 step 0 s l).2 w' := by
 have HR := ae.mk hR
 have HI := ae.mk hI
 have BX := ae.mk hcall
 clear hR hcall hD hI
 go_enter Try.func173, Try.ntmps173
 go_wp2
 go_loopg [5, 8] l.length (fun gg _ v8 wr => ∃ (kk : Nat) (t : σ), kk ≤ l.length ∧ l.length - kk ≤ gg ∧ v8 = .int .i64 kk ∧ ae (Inv t wr) ∧ ae (o5 step 0 s l = o5 step kk t (l.drop kk)))
 case atStart => exact ⟨0, s, Nat.zero_le _, by omega, rfl, HI, ⟨by simp⟩⟩
 case round =>
  clear HI
  obtain ⟨kk, t, hkk, hg, rfl, HI, HS⟩ := hrel
  by_cases hlt : kk < l.length
  ·have hltz : (kk : Int) < (l.length : Int) := by omega
   obtain ⟨ad, rfl, hc0, hc1, hc2, hc3⟩ := Nq (HR.out t wr HI.out) (kk : Int) (by omega) (by omega)
   have HX : ae (o5 step kk t (l.drop kk) = if (step t (fQ l (kk : Int))).1 = true then ((kk : Int), (step t (fQ l (kk : Int))).2) else o5 step ((kk + 1 : Nat) : Int) (step t (fQ l (kk : Int))).2 (l.drop (kk + 1))) := ⟨XB step z23 l kk hlt t⟩
   have hmem : (fQ l (kk : Int)) ∈ l := H9 z23 l kk hlt
   have hcall := BX.out t wr _ hmem HI.out
   clear hmem
   simp only [Int.toNat_natCast] at hc0 hc1 hc2 hc3
   generalize fQ l (kk : Int) = x at hc0 hc1 hc2 hc3 HX hcall
   have HC := ae.mk hcall
   clear hcall
   cases hq : (step t x).1 with
   | true =>
    have h := HC.out
    rw [hq] at h
    have HH := ae.mk h
    have HQ := ae.mk hq
    clear hq HC h
    go_wp2_with fail
    refine HH.out.mono ?_
    rintro e w' ⟨rfl, hb'⟩
    have HB := ae.mk hb'
    clear hb'
    go_wp2
    go_ret
    rw [HS.out, HX.out, if_pos HQ.out]
    exact ⟨rfl, HB.out⟩
   | false =>
    have h := HC.out
    rw [hq] at h
    have HH := ae.mk h
    have HQ := ae.mk hq
    clear hq HC h
    go_wp2_with fail
    refine HH.out.mono ?_
    rintro e w' ⟨rfl, hb'⟩
    have HB := ae.mk hb'
    clear hb'
    go_wp2
    go_roundg (l.length - (kk + 1))
    case measure => omega
    case rel =>
     refine ⟨kk + 1, (step t x).2, by omega, by omega, by go_num, HB, ⟨?_⟩⟩
     rw [HS.out, HX.out, if_neg (by rw [HQ.out]; simp)]
  ·have hltz : ¬ (kk : Int) < (l.length : Int) := by omega
   go_wp2
   go_ret
   rw [HS.out, List.drop_eq_nil_of_le (by omega)]
   exact ⟨rfl, HI.out⟩
theorem aj' {σ : Type} (Inv : σ → World → Prop) (step : σ → bC → Bool × σ) (g : Nat) (lb : Array Value) (eg : ∀ args w, (callFunc g args).run Try.prog w = .ok (.enter g args) w) (l : List bC) (A : Option Addr) (c : Nat)
  (hR : ∀ s W, Inv s W → Kd.C k23 W A l.length l) (hD : ∀ s W n, Inv s W → Inv s (W.drewN n))
  (hcall : ∀ s W (x : bC), x ∈ l → Inv s W → Calls Try.prog g (#[.agg #[.int .i64 x.f0, .int .i64 x.f1, .int .i64 x.f2, .int .i64 x.f3]] ++ lb) W fun e w' => e = .returned (.bool (step s x).1) ∧ Inv (step s x).2 w')
  (s : σ) (w : World) (hI : Inv s w) (hl : l.length ≤ 9223372036854775807) :
  Calls Try.prog 134 #[.slice A l.length c, .func (.func g) #[] lb] w fun e w' => e = .returned (.bool (wI step s l).1) ∧ Inv (wI step s l).2 w' := by
 have hi := akL Inv step g lb eg l A c hR hD hcall s w hI hl
 rw [Va]
 clear hR hD hcall hI
 generalize o5 step 0 s l = r at hi
 have HI := ae.mk hi
 clear hi
 go_enter Try.func134, Try.ntmps134
 go_wp2_with fail
 refine HI.out.mono ?_
 rintro e w' ⟨rfl, hb'⟩
 have HB := ae.mk hb'
 clear hb'
 go_wp2
 go_ret
 exact ⟨rfl, HB.out⟩
theorem may1 (x : bC) (w : World) : Calls Try.prog 138 #[.agg #[.int .i64 x.f0, .int .i64 x.f1, .int .i64 x.f2, .int .i64 x.f3]] w fun e w' => e = .returned (.bool (!rQ x)) ∧ Below w.heap.size w w' := by
 have hc := fun W => rE.calls x.f0 x.f1 x.f2 x.f3 (rQ x) W (UT _ _ _ _)
 have HC := ae.mk hc
 clear hc
 cases hm : rQ x with
 | true =>
  rw [hm] at HC
  clear hm
  go_enter Try.func138, Try.ntmps138
  go_wp2_with fail
  refine (HC.out _).mono ?_
  rintro e w' ⟨rfl, hb⟩
  have HB := ae.mk hb
  clear hb
  go_wp2
  go_ret
  exact ⟨rfl, zx (kz (Below.refl _ _) _) (by simp) HB.out⟩
 | false =>
  rw [hm] at HC
  clear hm
  go_enter Try.func138, Try.ntmps138
  go_wp2_with fail
  refine (HC.out _).mono ?_
  rintro e w' ⟨rfl, hb⟩
  have HB := ae.mk hb
  clear hb
  go_wp2
  go_ret
  exact ⟨rfl, zx (kz (Below.refl _ _) _) (by simp) HB.out⟩
def pg.f (l0 : List (bC)) : Option Bool := some (l0.all rQ)
theorem pg.calls (A0 : Option Addr) (c0 : Nat) (l0 : List (bC)) (r : Bool) (w : World) (hr0 : Kd.C k23 w A0 l0.length l0) (aoJ : l0.length ≤ c0) (h : pg.f l0 = some r) :
  Calls Try.prog 68 #[.slice A0 l0.length c0] w fun e w' => e = .returned (.bool r) ∧ Below w.heap.size w w' := by
 have hcon := aj' (fun (_ : Unit) W => Below w.heap.size w W) (fun _ x => (!rQ x, ())) 138 #[] (wU Try.func138 (by decide +kernel) (by kernel_rfl)) l0 A0 c0 (fun _ W hW => Kd.iP hr0 hW) (fun _ W n hW => fV hW n)
  (fun _ W x _ hW => by
   rw [show (#[Value.agg #[.int .i64 x.f0, .int .i64 x.f1, .int .i64 x.f2, .int .i64 x.f3]] ++ #[] : Array Value) = #[.agg #[.int .i64 x.f0, .int .i64 x.f1, .int .i64 x.f2, .int .i64 x.f3]] by simp]
   exact (may1 x W).mono fun e w' ⟨he, hb⟩ => ⟨he, zx hW hW.size hb⟩) () w (Below.refl _ _) hr0.2.1
 rw [Rf] at hcon
 have e1 : r = !(l0.any fun x => !rQ x) := by
  injection h with h
  rw [← h]
  clear h hcon hr0 aoJ
  induction l0 with
  | nil => rfl
  | cons x xs ih => simp only [List.all_cons, List.any_cons, ih, Bool.not_or, Bool.not_not]
 subst e1
 generalize (l0.any fun x => !rQ x) = b at hcon
 have HC := ae.mk hcon
 clear hcon h hr0
 go_enter Try.func68, Try.ntmps68
 go_wp2_with fail
 refine HC.out.mono ?_
 rintro e w' ⟨rfl, hb⟩
 have HB := ae.mk hb
 clear hb
 go_wp2
 go_ret
 exact ⟨rfl, HB.out⟩
end Go.Proofs.Ytfdmfgaiblfbhaa.P
