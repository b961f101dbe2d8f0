/- The row of the law PushFrames, second form (what it reads is of bulk at most 1048576), out of its plain law and its walk. -/
import Derived.Test.YtfdmfgaiblfbhaaMPushFramese
import Derived.Test.YtfdmfgaiblfbhaaMPushFramesd
import Derived.Test.YtfdmfgaiblfbhaaMPushFramesc
import Derived.ProofKit
import Derived.Deep.Slices
import Derived.Lib.SmallJoins
import Derived.OpenShut
import Derived.Test.YtfdmfgaiblfbhaaRows
import Derived.WalkKit
import Derived.ShutString
import Derived.ChangeOld
import Derived.Below
import Derived.SizedLaws
import Derived.JoinedCond
set_option maxHeartbeats 8000000
set_option maxRecDepth 100000
set_option linter.unusedVariables false
set_option linter.unusedSimpArgs false
namespace Go.Proofs.Ytfdmfgaiblfbhaa.P
open Go.RowKit Go.Proofs.ag.aT Go.Proofs.ag.bK Go.Proofs.ag.bY
theorem adw : ∀ (N : Nat), (∀ c : ai, sz c ≤ N → ∀ x y, sz (dA c x y) = sz c) ∧ (∀ l : List ai, dO l ≤ N → ∀ a x y, dO (jf a l x y) = dO l) := by
 intro N
 induction N with
 | zero => exact ⟨fun c h => by rw [df] at h; omega, fun l h a x y => by cases l with
  | nil => rw [lS]
  | cons k ks => rw [bW] at h; have := df k; omega⟩
 | succ N ih =>
  have hC : ∀ c : ai, sz c ≤ N + 1 → ∀ x y, sz (dA c x y) = sz c := fun c h x y => by
   rw [kY, df, df c]
   show 1 + dO (jf c.f0 c.f3 x y) = _
   rw [ih.2 c.f3 (by rw [df] at h; omega)]
  refine ⟨hC, fun l => ?_⟩
  induction l with
  | nil => intro _ a x y; rw [lS]
  | cons k ks ihl =>
   intro h a x y
   rw [mY, bW, bW]
   rw [bW] at h
   rw [hC k (by omega), ihl (by omega)]
section
variable {W : World} {b : Nat} {P : Nat → Prop} {A : Option Addr} {cc : Nat}
end
theorem oU {W W1 : World} {Q : Nat → Value → Prop} {ad : Nat → Addr} (h : ∀ (j : Nat) (u : Value), Q j u → W.cell? (ad j) = some u) (hb : Below W.heap.size W W1) : ∀ (j : Nat) (u : Value), Q j u → W1.cell? (ad j) = some u :=
 fun j u hq => (hb.cell (World.block_lt_of_cell? W _ (h j u hq))).trans (h j u hq)
def xH.T0 : Bool × List (List Nat × List Nat) := (true, [([], []), ([0], [0]), ([1], [1]), ([2], [2]), ([3], [3]), ([], []), ([], []), ([6], [6]), ([7], [7]), ([8], [8]), ([9], [9]), ([], []), ([10, 11], [10, 11]), ([12], [12]), ([13], [13]), ([], []), ([15], [15]), ([16], [16]), ([17], [17]), ([], []), ([14, 18, 19, 14], [14, 18, 19]), ([20], [20]), ([21], [21]), ([21], [21]), ([4, 5, 0, 1, 2, 3, 4, 5, 6, 7, 8, 9, 10, 11, 12, 13, 14, 15, 16, 17, 18, 19, 20, 21, 22], [4, 5]), ([24, 22, 20, 0, 1, 2, 3, 4, 5, 6, 7, 8, 9, 10, 11, 12, 13, 14, 15, 16, 17, 18, 19, 20, 21, 22], [22, 24])])
def xH.B0 : List Nat := [0, 1, 3, 7, 15, 0, 0, 64, 192, 448, 960, 0, 4032, 8128, 16320, 0, 32768, 98304, 229376, 0, 1048512, 2097088, 4194240, 4194240, 8388607, 25165823]
theorem xH.agD : g_ .any (opsOf Try.f186 0) = xH.T0 := by kernel_rfl
theorem xH.aek : iL xH.T0.2 xH.B0 = true := by kernel_rfl
theorem xn {w W : World} {P : Nat → Prop} {bs : List (Option Nat × Obj)} {ts : List (Value × List ai)} {ro : List (Addr × Value)} {g gr cap : Nat} {fk fx fy fw fh zA ax : Int} {VP : Value} {q : Nat} {L : List ai} (i : Nat) (n : Int) (hi : i < L.length) (hz : dO L ≤ 1000000)
  (S0 : St w P ((some g, .cells #[.int .u8 fk, .int .i64 fx, .int .i64 fy, .int .i64 fw, .int .i64 fh, .int .i64 zA, .slice (some ⟨gr, 0, none⟩) L.length cap, VP, .int .i64 (q : Int), .int .u8 ax] 147 (0, 0)) :: bs) [(.slice (some ⟨gr, 0, none⟩) L.length cap, L)] (ts) (ro) W) :
  Calls Try.prog 186 #[.pointer (some ⟨g, 0, none⟩), .int .i64 (i : Int), .int .i64 n] W fun e w' => e = .returned (.tuple #[]) ∧ St w P ((some g, .cells #[.int .u8 fk, .int .i64 fx, .int .i64 fy, .int .i64 fw, .int .i64 fh, .int .i64 zA, .slice (some ⟨gr, 0, none⟩) L.length cap, VP, .int .i64 (q : Int), .int .u8 ax] 147 (0, 0)) :: bs) [(.slice (some ⟨gr, 0, none⟩) L.length cap, (dL ax i n L))] (ts) (ro) w' := by
 have S := ae.mk S0
 clear S0
 have hi1 : (i : Int) < (L.length : Int) := by omega
 have HI1 := ae.mk hi1
 obtain ⟨ua, uc, S1, hcell⟩ := S.out.He (i : Int) (Int.natCast_nonneg _) hi1
 rw [Qh] at S1 hcell
 simp only [Int.toNat_natCast] at hcell
 have lC := ae.mk (show sz (kd L i) ≤ 1000000 by have := xB (vV hi); omega)
 have NV := ae.mk (show sz (dA (kd L i) 0 0) ≤ 1048576 by rw [(adw (sz (kd L i))).1 _ (Nat.le_refl _)]; have := lC.out; omega)
 unfold dL
 generalize kd L i = k at S1 hcell lC NV ⊢
 replace S := ae.mk S1
 have wo := ae.mk hcell
 clear S1 hcell hz hi
 go_enter Try.func186, Try.ntmps186
 go_wp2
 refine ik (n := 26) (S := fun w' => St w _ _ _ _ _ w' ∧ ∀ (j : Nat) (u : Value), (kL k ua uc)[j]? = some u → w'.cell? ⟨gr, i * 7 + j, none⟩ = some u) (ds := [25]) (bA 26 0) (by kernel_rfl) rfl rfl ⟨S.out.call (bg (Below.refl _ _)), oU wo.out (bg (Below.refl _ _))⟩ (fun hHeld => ?_); refine ed xH.agD xH.aek (fun aj dW => ?_)
 replace S := ae.mk (S.out.call (bg (Below.refl _ _)))
 replace wo := ae.mk (oU wo.out (bg (Below.refl _ _)))
 generalize W.drew = yl at S wo hHeld ⊢
 refine au 0 7 (bA 26 1) aj ?_
 refine au 1 8 (bA 26 3) aj ?_
 refine au 2 9 (bA 26 7) aj ?_
 refine au 3 10 (bA 26 15) aj ?_
 refine dS 4 11 (bA 26 31) aj dW hHeld ?_ (hv := by intro w' hs_; have af8 := (hs_.1.at (.head _) 6).trans rfl; go_simp; with_reducible rfl)
 refine au 5 12 (bA 26 63) aj ?_
 refine au 6 13 (bA 26 127) aj ?_
 refine au 7 14 (bA 26 255) aj ?_
 refine au 8 15 (bA 26 511) aj ?_
 refine au 9 16 (bA 26 1023) aj ?_
 refine dS 10 17 (bA 26 2047) aj dW hHeld ?_ (hv := by intro w' hs_; have af8 := (hs_.1.at (.head _) 6).trans rfl; go_simp; with_reducible rfl)
 refine au 11 18 (bA 26 4095) aj ?_
 refine au 12 19 (bA 26 8191) aj ?_
 refine dS 13 20 (bA 26 16383) aj dW hHeld ?_ (hv := by intro w' hs_; have xe0 := (show w'.cell? ⟨gr, i * 7, none⟩ = some (.int .u8 k.f0) from hs_.2 0 _ rfl); have xe1 := (show w'.cell? ⟨gr, i * 7 + 1, none⟩ = some (.int .i64 k.f1.f0) from hs_.2 1 _ rfl); have xe2 := (show w'.cell? ⟨gr, i * 7 + 2, none⟩ = some (.int .i64 k.f1.f1) from hs_.2 2 _ rfl); have xe3 := (show w'.cell? ⟨gr, i * 7 + 3, none⟩ = some (.int .i64 k.f1.f2) from hs_.2 3 _ rfl); have xe4 := (show w'.cell? ⟨gr, i * 7 + 4, none⟩ = some (.int .i64 k.f1.f3) from hs_.2 4 _ rfl); have xe5 := (show w'.cell? ⟨gr, i * 7 + 5, none⟩ = some (.int .i64 k.f2) from hs_.2 5 _ rfl); have xe6 := (show w'.cell? ⟨gr, i * 7 + 6, none⟩ = some (.slice ua k.f3.length uc) from hs_.2 6 _ rfl); go_simp; with_reducible rfl)
 refine au 15 22 (bA 26 49151) aj ?_
 refine au 16 23 (bA 26 114687) aj ?_
 refine au 17 24 (bA 26 245759) aj ?_
 refine dS 18 25 (bA 26 507903) aj dW hHeld ?_ (hv := by intro w' hs_; have ajN := (hs_.1.at (.head _) 9).trans rfl; go_simp; with_reducible rfl)
 refine au 19 26 (bA 26 1032191) aj ?_
 refine jR 14 (some 21) (bA 26 1048575) aj (fun K hK => ?_)
 refine BA Try.func66 #[.agg #[.int .u8 k.f0, .int .i64 k.f1.f0, .int .i64 k.f1.f1, .int .i64 k.f1.f2, .int .i64 k.f1.f3, .int .i64 k.f2, .slice ua k.f3.length uc], .int .i64 0, .int .i64 0] ?_
 refine (JL k 0 0 lC.out (S.out.tree _ (.head _))).mono ?_
 rintro e dX ⟨A1, c1, rfl, h1, hb⟩
 refine ⟨_, rfl, ?_⟩
 replace wo := ae.mk (oU wo.out hb)
 replace S := ae.mk (S.out.res (Kd.qJ (base' := 0) h1) hb)
 clear h1 hb
 refine hK.out _ _ ⟨S.out.dG, wo.out⟩ (fun hHeld => ?_)
 clear hK K
 refine eF 21 ?_
 refine jR 20 (some 27) (bA 26 2097151) aj (fun K hK => ?_)
 refine BA Try.func183 #[.agg #[.int .u8 ((dA k 0 0).f0), .int .i64 ((dA k 0 0).f1.f0), .int .i64 ((dA k 0 0).f1.f1), .int .i64 ((dA k 0 0).f1.f2), .int .i64 ((dA k 0 0).f1.f3), .int .i64 ((dA k 0 0).f2), .slice A1 ((dA k 0 0).f3.length) c1], .int .u8 ax, .int .i64 n] ?_
 refine (Ro ax (dA k 0 0) NV.out n _ _ _ _ (f_ (S.out.tree _ (.head _)))).mono ?_
 rintro e fU ⟨A2, c2, rfl, h1, hb⟩
 refine ⟨_, rfl, ?_⟩
 replace wo := ae.mk (oU wo.out hb)
 replace S := ae.mk (S.out.res (Kd.qJ (base' := 0) h1) hb)
 clear h1 hb
 refine hK.out _ _ ⟨S.out.dG.dG, wo.out⟩ (fun hHeld => ?_)
 clear hK K
 refine eF 27 ?_
 refine au 21 6 (bA 26 4194303) aj ?_
 refine au 22 28 (bA 26 8388607) aj ?_
 refine au 23 29 (bA 26 16777215) aj ?_
 refine au 24 30 (bA 26 33554431) aj ?_
 refine oH 25 none (bA 26 67108863) aj (fun K hK => ?_)
 refine OV (i : Int) (xR ax n k) (.tmp 30) (.tmp 28) rfl S.out (by rfl) rfl (Int.natCast_nonneg _) HI1.out (by first | rfl | (go_simp; rfl)) rfl (by kernel_rfl) (.head _) ?_
 intro iW S1
 rw [Int.toNat_natCast] at S1
 replace S := ae.mk S1
 clear S1
 refine hK.out _ _ ?_
 clear hK K
 refine ji (fP aj.out (by kernel_rfl)) ?_
 clear hHeld
 go_wp2
 (try simp only [Exit.inBlock, Exit.then])
 refine bodyPost_end (results_none rfl _ _ _) rfl ?_
 exact ⟨rfl, S.out.dG.dG.dG⟩
end Go.Proofs.Ytfdmfgaiblfbhaa.P
namespace Go.Proofs.Ytfdmfgaiblfbhaa.P
open Go.RowKit Go.Proofs.ag.aT Go.Proofs.ag.bK Go.Proofs.ag.bY
attribute [local go_sem] je jO jr kC
def o9 (b : Int) : Int := if 0 < b then b else if b < -2147483647 then 2147483647 else -b
theorem D6 {ax : Int} {q : Nat} {m : Bool} {L : List ai} {i : Nat} {args : Array Value} {W : World} (h : mF ax q m L = some i) (hc : Calls Try.prog 185 args W fun e w' => e = .returned (.int .i64 (Vs (mF ax q m L))) ∧ Below W.heap.size W w') : Calls Try.prog 185 args W fun e w' => e = .returned (.int .i64 (i : Int)) ∧ Below W.heap.size W w' := by
 rw [h] at hc
 exact hc
theorem Oh {ax : Int} {q : Nat} {m : Bool} {L : List ai} {args : Array Value} {W : World} (h : mF ax q m L = none) (hc : Calls Try.prog 185 args W fun e w' => e = .returned (.int .i64 (Vs (mF ax q m L))) ∧ Below W.heap.size W w') : Calls Try.prog 185 args W fun e w' => e = .returned (.int .i64 (-1)) ∧ Below W.heap.size W w' := by
 rw [h] at hc
 exact hc
theorem ZI {w W : World} {P : Nat → Prop} {bs : List (Option Nat × Obj)} {ts : List (Value × List ai)} {ro : List (Addr × Value)} {g gr cap : Nat} {fk fx fy fw fh zA ax s : Int} {VP : Value} {q : Nat} {L : List ai} (bI : Int) (hax : ax = 1 ∨ ax = 2) (hg : qW ax s L) (hq : q + 1 < L.length) (hz : dO L ≤ 1000000) (hb : -9223372036854775808 ≤ bI ∧ bI ≤ 9223372036854775807)
  (S0 : St w P ((some g, .cells #[.int .u8 fk, .int .i64 fx, .int .i64 fy, .int .i64 fw, .int .i64 fh, .int .i64 zA, .slice (some ⟨gr, 0, none⟩) L.length cap, VP, .int .i64 (q : Int), .int .u8 ax] 147 (0, 0)) :: bs) [(.slice (some ⟨gr, 0, none⟩) L.length cap, L)] (ts) (ro) W) :
  Calls Try.prog 158 #[.pointer (some ⟨g, 0, none⟩), .int .i64 bI] W fun e w' => e = .returned (.int .i64 (if decide (0 < bI) = true then (gW ax q (decide (0 < bI)) (o9 bI) 10001 L 0).2 else -(gW ax q (decide (0 < bI)) (o9 bI) 10001 L 0).2)) ∧ St w P ((some g, .cells #[.int .u8 fk, .int .i64 fx, .int .i64 fy, .int .i64 fw, .int .i64 fh, .int .i64 zA, .slice (some ⟨gr, 0, none⟩) (((gW ax q (decide (0 < bI)) (o9 bI) 10001 L 0).1).length) cap, VP, .int .i64 (q : Int), .int .u8 ax] 147 (0, 0)) :: bs) [(.slice (some ⟨gr, 0, none⟩) (((gW ax q (decide (0 < bI)) (o9 bI) 10001 L 0).1).length) cap, (gW ax q (decide (0 < bI)) (o9 bI) 10001 L 0).1)] (ts) (ro) w' := by
 have S := ae.mk S0
 have o_ := ae.mk hax
 have QV := ae.mk (show L.length ≤ 1000000 by have := jF L; omega)
 have hgp : 0 ≤ aU ax (kd L (place q (decide (0 < bI)))) := by
  have hp : place q (decide (0 < bI)) < L.length := by unfold place; split <;> omega
  have := Pure.kz hax (hg.rE _ (vV hp))
  omega
 have JX := ae.mk hgp
 have HI0 := ae.mk (uD.start hg (p := place q (decide (0 < bI))) (by unfold place; split <;> omega))
 have HQQ := ae.mk hq
 have HZZ := ae.mk hz
 have FQ := ae.mk hb
 have WB := ae.mk (show wrap64 ((q : Int) + 1) = ((q + 1 : Nat) : Int) by have := QV.out; unfold wrap64; omega)
 clear S0 hgp hax hg hq hz hb
 by_cases hp : 0 < bI
 case pos =>
  rw [decide_eq_true hp] at HI0 JX ⊢
  obtain ⟨R, hR⟩ : ∃ R, R = gW ax q true (o9 bI) 10001 L 0 := ⟨_, rfl⟩
  rw [← hR]
  obtain ⟨LF, LY⟩ : ∃ l, l = o9 bI := ⟨_, rfl⟩
  rw [← LY] at hR
  have HI0 := ae.mk (show uD ax s q (dO L) L L 0 from HI0.out)
  have JX := ae.mk (show 0 ≤ aU ax (kd L q) from JX.out)
  have HR := ae.mk hR.symm
  have J5 := ae.mk (show q = place q true from rfl)
  have JZ := ae.mk (show LF = bI by rw [LY]; unfold o9; rw [if_pos hp])
  have HPB := ae.mk hp
  obtain ⟨hba, hbb⟩ := mV (a := 0) (b := bI) (by omega)
  simp only [if_true]
  clear hp hR LY
  go_enter Try.func158, Try.ntmps158
  have UR := (S.out.at (.head _) 8).trans rfl
  go_wp2
  clear UR
  go_loopg [7, 8] 10001 (fun gg v7 v8 wr => ∃ (K : List ai) (d : Int) (f : Nat), v7 = .int .i64 (LF - d) ∧ v8 = .int .i64 d ∧ ae (gW ax q true LF f K d = R) ∧ ae (uD ax s q (dO L) L K d) ∧ ae (10001 ≤ (f : Int) + d) ∧ f ≤ gg ∧ ae (St w P ((some g, .cells #[.int .u8 fk, .int .i64 fx, .int .i64 fy, .int .i64 fw, .int .i64 fh, .int .i64 zA, .slice (some ⟨gr, 0, none⟩) K.length cap, VP, .int .i64 (q : Int), .int .u8 ax] 147 (0, 0)) :: bs) [(.slice (some ⟨gr, 0, none⟩) K.length cap, K)] (ts) (ro) wr))
  case atStart => exact ⟨L, 0, 10001, (by rw [JZ.out, Int.sub_zero]), rfl, HR, HI0, ⟨by omega⟩, Nat.le_refl _, S⟩
  case round =>
   clear S HR HI0
   obtain ⟨K, d, f, rfl, rfl, HR, HI, HF, hgg, S⟩ := hrel
   have HD := ae.mk (HI.out.small o_.out JX.out)
   have HD0 := ae.mk HI.out.d0
   have FV := ae.mk (show q + 1 < K.length by rw [HI.out.len]; exact HQQ.out)
   have Ef := ae.mk (show K.length ≤ 1000000 by rw [HI.out.len]; exact QV.out)
   have lC := ae.mk (show dO K ≤ 1000000 by rw [HI.out.z]; exact HZZ.out)
   by_cases hl : LF ≤ d
   case pos =>
    have HRR := ae.mk ((wY hl).symm.trans HR.out).symm
    obtain ⟨hxa, hxb⟩ := lU (a := 0) (b := LF - d) (by omega)
    have hx2 : ¬ (d < LF) := by omega
    have hx3 : decide (d < LF) = false := decide_eq_false hx2
    clear hl hgg
    go_wp2
    have hrr := HRR.out
    subst hrr
    go_ret
    exact ⟨rfl, S.out⟩
   case neg =>
    have Cf := ae.mk (show d < LF by omega)
    have mD := ae.mk hl
    obtain ⟨hxa, hxb⟩ := mV (a := 0) (b := LF - d) (by omega)
    have hx2 : d < LF := Cf.out
    have hx3 : decide (d < LF) = true := decide_eq_true hx2
    clear hl
    cases hgv : mF ax q true K with
    | none =>
     have HG := ae.mk hgv
     have HRR := ae.mk ((zO hgv).symm.trans HR.out).symm
     clear hgv hgg
     have h34 : decide ((-1 : Int) < 0) = true := rfl
     go_wp2_with ((refine bP (some 32) Try.func185 S (Oh HG.out (wK true FV.out Ef.out lC.out (S.out.blk _ (.head _) _ rfl) (Kd.qJ (base' := 0) (S.out.own _ (.head _))))) ?_; clear S; intro dJ S))
     have hrr := HRR.out
     subst hrr
     go_ret
     exact ⟨rfl, S.out⟩
    | some i =>
     have hs := Bz hgv FV.out
     have HG := ae.mk hgv
     have jP := ae.mk hs.1
     have Ci := ae.mk (show i ≠ q by rw [J5.out]; exact hs.2.1)
     have JY := ae.mk hs.2.2
     have hg2 := Pure.kz o_.out (HI.out.good.rE _ (vV hs.1))
     have zV := ae.mk (show (aU ax (kd K i)) ≤ 10000 by omega)
     have gz := ae.mk hgg
     have hf : f ≠ 0 := by have := HF.out; have := HD.out; omega
     obtain ⟨f', rfl⟩ : ∃ f', f = f' + 1 := ⟨f - 1, by omega⟩
     have hstep := (wX mD.out hgv).symm.trans HR.out
     rw [show place q true = q from J5.out.symm] at hstep
     have HST := ae.mk hstep
     have h34 : decide ((i : Int) < 0) = false := decide_eq_false (by omega)
     have agn : ¬ ((i : Int) < 0) := by omega
     clear hs hgv hgg hg2 hf hstep
     by_cases hmn : (aU ax (kd K i)) < LF - d
     case pos =>
      have hmv : mn (LF - d) (aU ax (kd K i)) = (aU ax (kd K i)) := by unfold mn; rw [if_pos hmn]
      have EH := ae.mk (show gW ax q true LF f' (dL ax q (aU ax (kd K i)) (dL ax i (-(aU ax (kd K i))) K)) (d + (aU ax (kd K i))) = R by have h := HST.out; rw [hmv] at h; exact h)
      have m_ := ae.mk (show 0 < (aU ax (kd K i)) by have := JY.out; have := Cf.out; omega)
      have rH := ae.mk (show (aU ax (kd K i)) ≤ (aU ax (kd K i)) by omega)
      have J6 := ae.mk (HI.out.step o_.out jP.out Ci.out (Int.le_of_lt m_.out) rH.out)
      have EF := ae.mk (show q < (dL ax i (-(aU ax (kd K i))) K).length by rw [show (dL ax i (-(aU ax (kd K i))) K).length = K.length from List.length_set]; exact HI.out.MZ)
      have EE := ae.mk (show dO (dL ax i (-(aU ax (kd K i))) K) ≤ 1000000 by rw [(HI.out.good.move o_.out jP.out (n := -(aU ax (kd K i))) (by have := rH.out; omega) (by have := HI.out.good.small; have := m_.out; omega)).2.2.2.2.1]; exact lC.out)
      have hneg : wrap64 (-(aU ax (kd K i))) = -(aU ax (kd K i)) := by have := zV.out; have := rH.out; have := m_.out; unfold wrap64; omega
      have hw7 : wrap64 (LF - d - (aU ax (kd K i))) = LF - (d + (aU ax (kd K i))) := by have h1 := JZ.out; have h2 := FQ.out; have := rH.out; have := m_.out; have := HD.out; have := HD0.out; have := Cf.out; unfold wrap64; omega
      have hw8 : wrap64 (d + (aU ax (kd K i))) = d + (aU ax (kd K i)) := by have := zV.out; have := rH.out; have := m_.out; have := HD.out; have := HD0.out; unfold wrap64; omega
      have Q3 := ae.mk hw7
      have J8 := ae.mk hw8
      have hm1 : (aU ax (kd K i)) < LF - d := hmn
      clear hmv hmn hw7 hw8
      go_wp2_with (first | (refine bP (some 32) Try.func185 S (D6 HG.out (wK true FV.out Ef.out lC.out (S.out.blk _ (.head _) _ rfl) (Kd.qJ (base' := 0) (S.out.own _ (.head _))))) ?_; clear S; intro dJ S) | (refine bP (some 38) Try.func164 S (mg i jP.out lC.out (S.out.blk _ (.head _) _ rfl) (Kd.qJ (base' := 0) (S.out.own _ (.head _)))) ?_; clear S; intro dX S) | (refine jb (some 44) Try.func186 (xn i (wrap64 (-(aU ax (kd K i)))) jP.out lC.out S.out) ?_; rintro e fU ⟨rfl, h1⟩; refine ⟨_, rfl, ?_⟩; rw [hneg] at h1; replace S := ae.mk h1; clear h1; rw [show K.length = (dL ax i (-(aU ax (kd K i))) K).length from (List.length_set).symm] at S) | (refine jb (some 48) Try.func186 (xn q (aU ax (kd K i)) EF.out EE.out S.out) ?_; rintro e iW ⟨rfl, h1⟩; refine ⟨_, rfl, ?_⟩; replace S := ae.mk h1; clear h1; rw [show (dL ax i (-(aU ax (kd K i))) K).length = (dL ax q (aU ax (kd K i)) (dL ax i (-(aU ax (kd K i))) K)).length from (List.length_set).symm] at S))
      go_roundg f'
      case measure => exact Nat.lt_of_lt_of_le (Nat.lt_succ_self _) gz.out
      case rel => exact ⟨_, d + (aU ax (kd K i)), f', (by rw [Q3.out]), (by rw [J8.out]), EH, J6, ⟨by have := HF.out; have := m_.out; omega⟩, Nat.le_refl _, S⟩
     case neg =>
      have hmv : mn (LF - d) (aU ax (kd K i)) = (LF - d) := by unfold mn; rw [if_neg hmn]
      have EH := ae.mk (show gW ax q true LF f' (dL ax q (LF - d) (dL ax i (-(LF - d)) K)) (d + (LF - d)) = R by have h := HST.out; rw [hmv] at h; exact h)
      have m_ := ae.mk (show 0 < (LF - d) by have := JY.out; have := Cf.out; omega)
      have rH := ae.mk (show (LF - d) ≤ (aU ax (kd K i)) by omega)
      have J6 := ae.mk (HI.out.step o_.out jP.out Ci.out (Int.le_of_lt m_.out) rH.out)
      have EF := ae.mk (show q < (dL ax i (-(LF - d)) K).length by rw [show (dL ax i (-(LF - d)) K).length = K.length from List.length_set]; exact HI.out.MZ)
      have EE := ae.mk (show dO (dL ax i (-(LF - d)) K) ≤ 1000000 by rw [(HI.out.good.move o_.out jP.out (n := -(LF - d)) (by have := rH.out; omega) (by have := HI.out.good.small; have := m_.out; omega)).2.2.2.2.1]; exact lC.out)
      have hneg : wrap64 (-(LF - d)) = -(LF - d) := by have := zV.out; have := rH.out; have := m_.out; unfold wrap64; omega
      have hw7 : wrap64 (LF - d - (LF - d)) = LF - (d + (LF - d)) := by have h1 := JZ.out; have h2 := FQ.out; have := rH.out; have := m_.out; have := HD.out; have := HD0.out; have := Cf.out; unfold wrap64; omega
      have hw8 : wrap64 (d + (LF - d)) = d + (LF - d) := by have := zV.out; have := rH.out; have := m_.out; have := HD.out; have := HD0.out; unfold wrap64; omega
      have Q3 := ae.mk hw7
      have J8 := ae.mk hw8
      have hm1 : ¬ ((aU ax (kd K i)) < LF - d) := hmn
      clear hmv hmn hw7 hw8
      go_wp2_with (first | (refine bP (some 32) Try.func185 S (D6 HG.out (wK true FV.out Ef.out lC.out (S.out.blk _ (.head _) _ rfl) (Kd.qJ (base' := 0) (S.out.own _ (.head _))))) ?_; clear S; intro dJ S) | (refine bP (some 38) Try.func164 S (mg i jP.out lC.out (S.out.blk _ (.head _) _ rfl) (Kd.qJ (base' := 0) (S.out.own _ (.head _)))) ?_; clear S; intro dX S) | (refine jb (some 44) Try.func186 (xn i (wrap64 (-(LF - d))) jP.out lC.out S.out) ?_; rintro e fU ⟨rfl, h1⟩; refine ⟨_, rfl, ?_⟩; rw [hneg] at h1; replace S := ae.mk h1; clear h1; rw [show K.length = (dL ax i (-(LF - d)) K).length from (List.length_set).symm] at S) | (refine jb (some 48) Try.func186 (xn q (LF - d) EF.out EE.out S.out) ?_; rintro e iW ⟨rfl, h1⟩; refine ⟨_, rfl, ?_⟩; replace S := ae.mk h1; clear h1; rw [show (dL ax i (-(LF - d)) K).length = (dL ax q (LF - d) (dL ax i (-(LF - d)) K)).length from (List.length_set).symm] at S))
      go_roundg f'
      case measure => exact Nat.lt_of_lt_of_le (Nat.lt_succ_self _) gz.out
      case rel => exact ⟨_, d + (LF - d), f', (by (congr 1; omega)), (by rw [J8.out]), EH, J6, ⟨by have := HF.out; have := m_.out; omega⟩, Nat.le_refl _, S⟩
 case neg =>
  rw [decide_eq_false hp] at HI0 JX ⊢
  obtain ⟨R, hR⟩ : ∃ R, R = gW ax q false (o9 bI) 10001 L 0 := ⟨_, rfl⟩
  rw [← hR]
  obtain ⟨LF, LY⟩ : ∃ l, l = o9 bI := ⟨_, rfl⟩
  rw [← LY] at hR
  obtain ⟨pl, hpl⟩ : ∃ p, p = place q false := ⟨_, rfl⟩
  rw [← hpl] at HI0 JX
  have hq1 : wrap64 ((q : Int) + 1) = (pl : Int) := by rw [WB.out, hpl]; rfl
  have HR := ae.mk hR.symm
  have J5 := ae.mk (show pl = place q false from hpl)
  have JZ := ae.mk (show LF = if bI < -2147483647 then 2147483647 else -bI by rw [LY]; unfold o9; rw [if_neg hp])
  have HPB := ae.mk hp
  obtain ⟨hba, hbb⟩ := lU (a := 0) (b := bI) (by omega)
  simp only [Bool.false_eq_true, if_false]
  clear hp hR LY hpl
  go_enter Try.func158, Try.ntmps158
  have UR := (S.out.at (.head _) 8).trans rfl
  go_wp2
  clear UR
  all_goals
   go_loopg [7, 8] 10001 (fun gg v7 v8 wr => ∃ (K : List ai) (d : Int) (f : Nat), v7 = .int .i64 (LF - d) ∧ v8 = .int .i64 d ∧ ae (gW ax q false LF f K d = R) ∧ ae (uD ax s pl (dO L) L K d) ∧ ae (10001 ≤ (f : Int) + d) ∧ f ≤ gg ∧ ae (St w P ((some g, .cells #[.int .u8 fk, .int .i64 fx, .int .i64 fy, .int .i64 fw, .int .i64 fh, .int .i64 zA, .slice (some ⟨gr, 0, none⟩) K.length cap, VP, .int .i64 (q : Int), .int .u8 ax] 147 (0, 0)) :: bs) [(.slice (some ⟨gr, 0, none⟩) K.length cap, K)] (ts) (ro) wr))
   case atStart => exact ⟨L, 0, 10001, (by have h1 := JZ.out; have h2 := FQ.out; have h3 := HPB.out; congr 1; rw [h1]; unfold wrap64; split <;> omega), rfl, HR, HI0, ⟨by omega⟩, Nat.le_refl _, S⟩
   case round =>
    clear S HR HI0
    obtain ⟨K, d, f, rfl, rfl, HR, HI, HF, hgg, S⟩ := hrel
    have HD := ae.mk (HI.out.small o_.out JX.out)
    have HD0 := ae.mk HI.out.d0
    have FV := ae.mk (show q + 1 < K.length by rw [HI.out.len]; exact HQQ.out)
    have Ef := ae.mk (show K.length ≤ 1000000 by rw [HI.out.len]; exact QV.out)
    have lC := ae.mk (show dO K ≤ 1000000 by rw [HI.out.z]; exact HZZ.out)
    by_cases hl : LF ≤ d
    case pos =>
     have HRR := ae.mk ((wY hl).symm.trans HR.out).symm
     obtain ⟨hxa, hxb⟩ := lU (a := 0) (b := LF - d) (by omega)
     have hx2 : ¬ (d < LF) := by omega
     have hx3 : decide (d < LF) = false := decide_eq_false hx2
     clear hl hgg
     go_wp2
     have hrr := HRR.out
     subst hrr
     go_ret
     rw [show wrap64 (-d) = -d by have := HD.out; have := HD0.out; unfold wrap64; omega]
     exact ⟨rfl, S.out⟩
    case neg =>
     have Cf := ae.mk (show d < LF by omega)
     have mD := ae.mk hl
     obtain ⟨hxa, hxb⟩ := mV (a := 0) (b := LF - d) (by omega)
     have hx2 : d < LF := Cf.out
     have hx3 : decide (d < LF) = true := decide_eq_true hx2
     clear hl
     cases hgv : mF ax q false K with
     | none =>
      have HG := ae.mk hgv
      have HRR := ae.mk ((zO hgv).symm.trans HR.out).symm
      clear hgv hgg
      have h34 : decide ((-1 : Int) < 0) = true := rfl
      go_wp2_with ((refine bP (some 32) Try.func185 S (Oh HG.out (wK false FV.out Ef.out lC.out (S.out.blk _ (.head _) _ rfl) (Kd.qJ (base' := 0) (S.out.own _ (.head _))))) ?_; clear S; intro dJ S))
      have hrr := HRR.out
      subst hrr
      go_ret
      rw [show wrap64 (-d) = -d by have := HD.out; have := HD0.out; unfold wrap64; omega]
      exact ⟨rfl, S.out⟩
     | some i =>
      have hs := Bz hgv FV.out
      have HG := ae.mk hgv
      have jP := ae.mk hs.1
      have Ci := ae.mk (show i ≠ pl by rw [J5.out]; exact hs.2.1)
      have JY := ae.mk hs.2.2
      have hg2 := Pure.kz o_.out (HI.out.good.rE _ (vV hs.1))
      have zV := ae.mk (show (aU ax (kd K i)) ≤ 10000 by omega)
      have gz := ae.mk hgg
      have hf : f ≠ 0 := by have := HF.out; have := HD.out; omega
      obtain ⟨f', rfl⟩ : ∃ f', f = f' + 1 := ⟨f - 1, by omega⟩
      have hstep := (wX mD.out hgv).symm.trans HR.out
      rw [show place q false = pl from J5.out.symm] at hstep
      have HST := ae.mk hstep
      have h34 : decide ((i : Int) < 0) = false := decide_eq_false (by omega)
      have agn : ¬ ((i : Int) < 0) := by omega
      clear hs hgv hgg hg2 hf hstep
      by_cases hmn : (aU ax (kd K i)) < LF - d
      case pos =>
       have hmv : mn (LF - d) (aU ax (kd K i)) = (aU ax (kd K i)) := by unfold mn; rw [if_pos hmn]
       have EH := ae.mk (show gW ax q false LF f' (dL ax pl (aU ax (kd K i)) (dL ax i (-(aU ax (kd K i))) K)) (d + (aU ax (kd K i))) = R by have h := HST.out; rw [hmv] at h; exact h)
       have m_ := ae.mk (show 0 < (aU ax (kd K i)) by have := JY.out; have := Cf.out; omega)
       have rH := ae.mk (show (aU ax (kd K i)) ≤ (aU ax (kd K i)) by omega)
       have J6 := ae.mk (HI.out.step o_.out jP.out Ci.out (Int.le_of_lt m_.out) rH.out)
       have EF := ae.mk (show pl < (dL ax i (-(aU ax (kd K i))) K).length by rw [show (dL ax i (-(aU ax (kd K i))) K).length = K.length from List.length_set]; exact HI.out.MZ)
       have EE := ae.mk (show dO (dL ax i (-(aU ax (kd K i))) K) ≤ 1000000 by rw [(HI.out.good.move o_.out jP.out (n := -(aU ax (kd K i))) (by have := rH.out; omega) (by have := HI.out.good.small; have := m_.out; omega)).2.2.2.2.1]; exact lC.out)
       have hneg : wrap64 (-(aU ax (kd K i))) = -(aU ax (kd K i)) := by have := zV.out; have := rH.out; have := m_.out; unfold wrap64; omega
       have hw7 : wrap64 (LF - d - (aU ax (kd K i))) = LF - (d + (aU ax (kd K i))) := by have h1 := JZ.out; have h2 := FQ.out; have := rH.out; have := m_.out; have := HD.out; have := HD0.out; have := Cf.out; split at h1 <;> (unfold wrap64; omega)
       have hw8 : wrap64 (d + (aU ax (kd K i))) = d + (aU ax (kd K i)) := by have := zV.out; have := rH.out; have := m_.out; have := HD.out; have := HD0.out; unfold wrap64; omega
       have Q3 := ae.mk hw7
       have J8 := ae.mk hw8
       have hm1 : (aU ax (kd K i)) < LF - d := hmn
       clear hmv hmn hw7 hw8
       go_wp2_with (first | (refine bP (some 32) Try.func185 S (D6 HG.out (wK false FV.out Ef.out lC.out (S.out.blk _ (.head _) _ rfl) (Kd.qJ (base' := 0) (S.out.own _ (.head _))))) ?_; clear S; intro dJ S) | (refine bP (some 38) Try.func164 S (mg i jP.out lC.out (S.out.blk _ (.head _) _ rfl) (Kd.qJ (base' := 0) (S.out.own _ (.head _)))) ?_; clear S; intro dX S) | (refine jb (some 44) Try.func186 (xn i (wrap64 (-(aU ax (kd K i)))) jP.out lC.out S.out) ?_; rintro e fU ⟨rfl, h1⟩; refine ⟨_, rfl, ?_⟩; rw [hneg] at h1; replace S := ae.mk h1; clear h1; rw [show K.length = (dL ax i (-(aU ax (kd K i))) K).length from (List.length_set).symm] at S) | (refine jb (some 48) Try.func186 (xn pl (aU ax (kd K i)) EF.out EE.out S.out) ?_; rintro e iW ⟨rfl, h1⟩; refine ⟨_, rfl, ?_⟩; replace S := ae.mk h1; clear h1; rw [show (dL ax i (-(aU ax (kd K i))) K).length = (dL ax pl (aU ax (kd K i)) (dL ax i (-(aU ax (kd K i))) K)).length from (List.length_set).symm] at S))
       go_roundg f'
       case measure => exact Nat.lt_of_lt_of_le (Nat.lt_succ_self _) gz.out
       case rel => exact ⟨_, d + (aU ax (kd K i)), f', (by rw [Q3.out]), (by rw [J8.out]), EH, J6, ⟨by have := HF.out; have := m_.out; omega⟩, Nat.le_refl _, S⟩
      case neg =>
       have hmv : mn (LF - d) (aU ax (kd K i)) = (LF - d) := by unfold mn; rw [if_neg hmn]
       have EH := ae.mk (show gW ax q false LF f' (dL ax pl (LF - d) (dL ax i (-(LF - d)) K)) (d + (LF - d)) = R by have h := HST.out; rw [hmv] at h; exact h)
       have m_ := ae.mk (show 0 < (LF - d) by have := JY.out; have := Cf.out; omega)
       have rH := ae.mk (show (LF - d) ≤ (aU ax (kd K i)) by omega)
       have J6 := ae.mk (HI.out.step o_.out jP.out Ci.out (Int.le_of_lt m_.out) rH.out)
       have EF := ae.mk (show pl < (dL ax i (-(LF - d)) K).length by rw [show (dL ax i (-(LF - d)) K).length = K.length from List.length_set]; exact HI.out.MZ)
       have EE := ae.mk (show dO (dL ax i (-(LF - d)) K) ≤ 1000000 by rw [(HI.out.good.move o_.out jP.out (n := -(LF - d)) (by have := rH.out; omega) (by have := HI.out.good.small; have := m_.out; omega)).2.2.2.2.1]; exact lC.out)
       have hneg : wrap64 (-(LF - d)) = -(LF - d) := by have := zV.out; have := rH.out; have := m_.out; unfold wrap64; omega
       have hw7 : wrap64 (LF - d - (LF - d)) = LF - (d + (LF - d)) := by have h1 := JZ.out; have h2 := FQ.out; have := rH.out; have := m_.out; have := HD.out; have := HD0.out; have := Cf.out; split at h1 <;> (unfold wrap64; omega)
       have hw8 : wrap64 (d + (LF - d)) = d + (LF - d) := by have := zV.out; have := rH.out; have := m_.out; have := HD.out; have := HD0.out; unfold wrap64; omega
       have Q3 := ae.mk hw7
       have J8 := ae.mk hw8
       have hm1 : ¬ ((aU ax (kd K i)) < LF - d) := hmn
       clear hmv hmn hw7 hw8
       go_wp2_with (first | (refine bP (some 32) Try.func185 S (D6 HG.out (wK false FV.out Ef.out lC.out (S.out.blk _ (.head _) _ rfl) (Kd.qJ (base' := 0) (S.out.own _ (.head _))))) ?_; clear S; intro dJ S) | (refine bP (some 38) Try.func164 S (mg i jP.out lC.out (S.out.blk _ (.head _) _ rfl) (Kd.qJ (base' := 0) (S.out.own _ (.head _)))) ?_; clear S; intro dX S) | (refine jb (some 44) Try.func186 (xn i (wrap64 (-(LF - d))) jP.out lC.out S.out) ?_; rintro e fU ⟨rfl, h1⟩; refine ⟨_, rfl, ?_⟩; rw [hneg] at h1; replace S := ae.mk h1; clear h1; rw [show K.length = (dL ax i (-(LF - d)) K).length from (List.length_set).symm] at S) | (refine jb (some 48) Try.func186 (xn pl (LF - d) EF.out EE.out S.out) ?_; rintro e iW ⟨rfl, h1⟩; refine ⟨_, rfl, ?_⟩; replace S := ae.mk h1; clear h1; rw [show (dL ax i (-(LF - d)) K).length = (dL ax pl (LF - d) (dL ax i (-(LF - d)) K)).length from (List.length_set).symm] at S))
       go_roundg f'
       case measure => exact Nat.lt_of_lt_of_le (Nat.lt_succ_self _) gz.out
       case rel => exact ⟨_, d + (LF - d), f', (by (congr 1; omega)), (by rw [J8.out]), EH, J6, ⟨by have := HF.out; have := m_.out; omega⟩, Nat.le_refl _, S⟩
end Go.Proofs.Ytfdmfgaiblfbhaa.P
namespace Go.Proofs.Ytfdmfgaiblfbhaa.P
open Go.RowKit Go.Proofs.ag.aT Go.Proofs.ag.bK Go.Proofs.ag.bY
section
variable {c x z : ai} {path p L : _} {en id : Int}
end
noncomputable def qA (ax bI : Int) (q : Nat) (L : List ai) : List ai × Int :=
 ((gW ax q (decide (0 < bI)) (o9 bI) 10001 L 0).1, if decide (0 < bI) = true then (gW ax q (decide (0 < bI)) (o9 bI) 10001 L 0).2 else -(gW ax q (decide (0 < bI)) (o9 bI) 10001 L 0).2)
noncomputable def JK (ax bI : Int) (c z : ai) (pq : List Int) (q : Nat) : ai × Int × Int :=
 if (qA ax bI q z.f3).2 = 0 ∧ bI ≠ 0 then (z26, 0, 7) else (dA ((wP ⟨z.f0, z.f1, z.f2, (qA ax bI q z.f3).1⟩ pq c).getD z26) c.f1.f0 c.f1.f1, (qA ax bI q z.f3).2, 0)
def qI (p : List Int) (d : Nat) (z : ai) : Nat := (mn (rd p (d : Int)) ((z.f3.length : Int) - 2)).toNat
noncomputable def sS (ax id bI : Int) (c : ai) : ai × Int × Int :=
 if qc ax id c ≠ 0 then (z26, 0, qc ax id c) else match fA id c with
 | none => (z26, 0, 0)
 | some p => match CO ax c p with
  | none => (z26, 0, 0)
  | some d => match oh c (p.take d) with
   | none => (z26, 0, 0)
   | some z => JK ax bI c z (p.take d) (qI p d z)
structure qH (ax id : Int) (c : ai) (p : List Int) (d : Nat) (z : ai) (q : Nat) : Prop where
 rE : bZ c = true
 hax : ax = 1 ∨ ax = 2
 find : fA id c = some p
 WW : CO ax c p = some d
 fr : wF ax c p d z q
 zt : bZ z = true
theorem LW {ax id : Int} {c : ai} (h : qc ax id c = 0) : ∃ p d z q, qH ax id c p d z q := by
 unfold qc at h
 split at h
 ·rename_i h1
  cases hf : fA id c with
  | none => rw [hf] at h; simp at h
  | some p =>
   rw [hf] at h
   simp only [] at h
   cases hd : CO ax c p with
   | none => rw [hd] at h; simp at h
   | some d =>
    obtain ⟨x, hx, _⟩ := (Aj id _).1 c (Nat.le_refl _) p hf
    obtain ⟨z, q, hF, ht⟩ := PU h1.1 hx hd
    exact ⟨p, d, z, q, h1.1, h1.2, hf, hd, hF, ht⟩
 ·simp at h
theorem qH.n {ax id : Int} {c : ai} {p : List Int} {d : Nat} {z : ai} {q : Nat} (h : qH ax id c p d z q) : qc ax id c = 0 := by
 unfold qc
 rw [if_pos ⟨h.rE, h.hax⟩, h.find]
 simp only [h.WW]
theorem qH.q {ax id : Int} {c : ai} {p : List Int} {d : Nat} {z : ai} {q : Nat} (h : qH ax id c p d z q) : qI p d z = q := by
 unfold qI
 rw [← h.fr.hq]
 exact Int.toNat_natCast _
theorem qH.good {ax id : Int} {c : ai} {p : List Int} {d : Nat} {z : ai} {q : Nat} (h : qH ax id c p d z q) : qW ax (aV ax z.f1 - ((z.f3.length : Int) - 1)) z.f3 := PT h.hax h.zt h.fr.al
theorem qH.zs {ax id : Int} {c : ai} {p : List Int} {d : Nat} {z : ai} {q : Nat} (h : qH ax id c p d z q) : 1 + dO z.f3 ≤ sz c ∧ sz c ≤ 20000 := by
 have h1 := GY _ _ _ h.fr.at'
 have h2 := df z
 exact ⟨by omega, mW (lg h.rE)⟩
theorem VV {ax id bI n : Int} {c : ai} (h : qc ax id c = n) (h0 : n ≠ 0) : sS ax id bI c = (z26, 0, n) := by
 unfold sS
 rw [h, if_pos h0]
theorem Eo {ax id bI : Int} {c : ai} {p : List Int} {d : Nat} {z : ai} {q : Nat} (h : qH ax id c p d z q) : sS ax id bI c = JK ax bI c z (p.take d) q := by
 unfold sS
 rw [h.n, if_neg (by simp), h.find]
 simp only [h.WW, h.fr.at', h.q]
theorem Jm {ax bI s : Int} {q : Nat} {L : List ai} (hax : ax = 1 ∨ ax = 2) (h : qW ax s L) (hq : q + 1 < L.length) :
  uD ax s (place q (decide (0 < bI))) (dO L) L (qA ax bI q L).1 (gW ax q (decide (0 < bI)) (o9 bI) 10001 L 0).2 :=
 (Qr hax _ _ _ (uD.start h (by unfold place; split <;> omega)) hq).1
theorem VU {ax bI s : Int} {q : Nat} {L : List ai} (hax : ax = 1 ∨ ax = 2) (h : qW ax s L) (hq : q + 1 < L.length) : dO (qA ax bI q L).1 = dO L ∧ (qA ax bI q L).1.length = L.length :=
 ⟨(Jm hax h hq).z, (Jm hax h hq).len⟩
abbrev Kz (w : World) (P : Nat → Prop) (r : ai × Int × Int) (e : Ending) (w' : World) : Prop := ∃ A c, e = .returned (.tuple #[.agg #[.int .u8 r.1.f0, .int .i64 r.1.f1.f0, .int .i64 r.1.f1.f1, .int .i64 r.1.f1.f2, .int .i64 r.1.f1.f3, .int .i64 r.1.f2, .slice A r.1.f3.length c], .int .i64 r.2.1, .int .i64 r.2.2]) ∧ Kd.N k26 26 w' w.heap.size (fun k => P k ∨ w.heap.size ≤ k) (.slice A r.1.f3.length c) r.1.f3 ∧ Below w.heap.size w w'
abbrev aaD (w : World) (P : Nat → Prop) (ax : Int) (p pq : List Int) (z : ai) (q : Nat) (e : Ending) (w' : World) : Prop := ∃ Az cz Ap cp op, e = .returned (.tuple #[.agg #[.int .u8 z.f0, .int .i64 z.f1.f0, .int .i64 z.f1.f1, .int .i64 z.f1.f2, .int .i64 z.f1.f3, .int .i64 z.f2, .slice Az z.f3.length cz, .slice Ap pq.length cp, .int .i64 (q : Int), .int .u8 ax], .int .i64 0]) ∧ IR w.heap.size (.slice Ap p.length cp) p op ∧ St w P [((Value.slice Ap p.length cp).ownBlock, op)] [(.slice Az z.f3.length cz, z.f3)] [] [] w'
theorem Gf {ax id : Int} {c : ai} {p pq : List Int} {d : Nat} {z : ai} {q : Nat} {b : Nat} {P : Nat → Prop} {A : Option Addr} {cc : Nat} {w : World} (h : qH ax id c p d z q) (hpq : pq = p.take d) (hz : sz c ≤ 1000000) (hv : Kd.V k26 26 w b P (.slice A c.f3.length cc) c.f3) :
  Calls Try.prog 157 #[.agg #[.int .u8 c.f0, .int .i64 c.f1.f0, .int .i64 c.f1.f1, .int .i64 c.f1.f2, .int .i64 c.f1.f3, .int .i64 c.f2, .slice A c.f3.length cc], .int .i64 id, .int .u8 ax] w (aaD w P ax p pq z q) := by
 subst hpq
 exact (Hg c hz id ax b P A cc w hv).2 p d z q h.rE h.hax h.find h.WW h.fr
theorem Na {w W : World} {P : Nat → Prop} {bs : List (Option Nat × Obj)} {ts : List (Value × List ai)} {ro : List (Addr × Value)} {g gr cap : Nat} {fk fx fy fw fh zA ax s : Int} {VP : Value} {q : Nat} {L L' : List ai} {n : Int} (bI : Int) (hax : ax = 1 ∨ ax = 2) (hg : qW ax s L) (hq : q + 1 < L.length) (hz : dO L ≤ 1000000) (hb : -9223372036854775808 ≤ bI ∧ bI ≤ 9223372036854775807) (hF : qA ax bI q L = (L', n))
  (S0 : St w P ((some g, .cells #[.int .u8 fk, .int .i64 fx, .int .i64 fy, .int .i64 fw, .int .i64 fh, .int .i64 zA, .slice (some ⟨gr, 0, none⟩) L.length cap, VP, .int .i64 (q : Int), .int .u8 ax] 147 (0, 0)) :: bs) [(.slice (some ⟨gr, 0, none⟩) L.length cap, L)] ts ro W) :
  Calls Try.prog 158 #[.pointer (some ⟨g, 0, none⟩), .int .i64 bI] W fun e w' => e = .returned (.int .i64 n) ∧ St w P ((some g, .cells #[.int .u8 fk, .int .i64 fx, .int .i64 fy, .int .i64 fw, .int .i64 fh, .int .i64 zA, .slice (some ⟨gr, 0, none⟩) L'.length cap, VP, .int .i64 (q : Int), .int .u8 ax] 147 (0, 0)) :: bs) [(.slice (some ⟨gr, 0, none⟩) L'.length cap, L')] ts ro w' := by
 have h := ZI bI hax hg hq hz hb S0
 have e1 : L' = (qA ax bI q L).1 := by rw [hF]
 have e2 : n = (qA ax bI q L).2 := by rw [hF]
 subst e1 e2
 exact h
theorem Zu (c : ai) (hz : sz c ≤ 1000000) (id ax bI : Int) (hb : -9223372036854775808 ≤ bI ∧ bI ≤ 9223372036854775807) (P : Nat → Prop) (A : Option Addr) (cc : Nat) (w : World) (hv : Kd.V k26 26 w w.heap.size P (.slice A c.f3.length cc) c.f3) :
  Calls Try.prog 114 #[.agg #[.int .u8 c.f0, .int .i64 c.f1.f0, .int .i64 c.f1.f1, .int .i64 c.f1.f2, .int .i64 c.f1.f3, .int .i64 c.f2, .slice A c.f3.length cc], .int .i64 id, .int .u8 ax, .int .i64 bI] w (Kz w P (sS ax id bI c)) := by
 have S := ae.mk (St.start (ts := [(.slice A c.f3.length cc, c.f3)]) (b0 := w.heap.size) (w := w) (P := P) (fun t ht => by rw [List.mem_singleton.1 ht]; exact hv))
 have HZ := ae.mk hz
 have FQ := ae.mk hb
 clear hz hv hb
 by_cases hn0 : qc ax id c = 0
 case pos =>
  obtain ⟨p, d, z, q, hF⟩ := LW hn0
  have hs := hF.zs
  have hps := fun y => VX ⟨z.f0, z.f1, z.f2, (qA ax bI q z.f3).1⟩ (p.take d) c y
  have hpz := (VU (bI := bI) hF.hax hF.good hF.fr.next).1
  obtain ⟨y, hy⟩ := adl (kid := ⟨z.f0, z.f1, z.f2, (qA ax bI q z.f3).1⟩) (p.take d) c hF.fr.at'
  have hys := hps y hy
  have hk6 := df ⟨z.f0, z.f1, z.f2, (qA ax bI q z.f3).1⟩
  simp only [] at hk6
  rw [Eo hF]
  unfold JK
  rw [hy]
  obtain ⟨pq, hpq⟩ : ∃ pq, pq = p.take d := ⟨_, rfl⟩
  rw [← hpq] at hy
  obtain ⟨⟨L', n⟩, hr⟩ : ∃ r, qA ax bI q z.f3 = r := ⟨_, rfl⟩
  rw [hr] at hy hpz hys hk6 ⊢
  simp only [Option.getD_some] at hy hpz hys hk6 ⊢
  have yf := ae.mk hF
  have o_ := ae.mk hF.hax
  have HGD := ae.mk hF.good
  have HQN := ae.mk hF.fr.next
  have HZ2 := ae.mk (show 0 < z.f3.length by have := hF.fr.next; omega)
  have IX := ae.mk (show dO z.f3 ≤ 1000000 by omega)
  have HPF := ae.mk hr
  have aaW := ae.mk hy
  have jy := ae.mk (And.intro hpq (Nat.le_of_lt hF.fr.hd))
  have lC := ae.mk (show sz ⟨z.f0, z.f1, z.f2, L'⟩ ≤ 1000000 by omega)
  have HYZ := ae.mk (show sz y ≤ 1000000 by omega)
  clear hn0 hF hs hps hpz hys hk6 hr hy hpq
  obtain ⟨ck, ⟨cx, cy, cw, ch⟩, aK, l⟩ := c
  simp only [] at S ⊢
  by_cases hn : n = 0
  case pos =>
   by_cases hb0 : bI = 0
   case pos =>
    rw [if_neg (fun h => h.2 hb0)]
    obtain ⟨hna, hnb, hnd⟩ := yQ (a := n) (b := 0) (by omega)
    obtain ⟨hba, hbb, hbd⟩ := yQ (a := bI) (b := 0) (by omega)
    clear hn hb0
    go_enter Try.func114, Try.ntmps114
    go_wp2_with (first | (refine boxS 4 _ 26 S ?_; clear S; intro b4 dJ S) | (refine boxS 8 _ 26 S ?_; clear S; intro b8 dX S; obtain ⟨l7, nN, nO, qY, qZ, rf, o7⟩ := St.eQ S bG) | (refine jb (some 20) Try.func157 (Gf yf.out jy.out.1 HZ.out (S.out.tree _ (.head _))) ?_; rintro e fU ⟨Az, cz, Ap, cp, op, rfl, Ej, T⟩; refine ⟨_, rfl, ?_⟩; have S1 := S.out.join T; have iq := ae.mk Ej; obtain ⟨gr, abr, ev, _⟩ := Kd.xm S1.xY HZ2.out; injection ev with e1 e2 e3; subst e1; clear e2 e3 T Ej; replace S := ae.mk S1; clear S1; clear l7 nN nO qY qZ rf o7) | (refine boxS 11 _ 147 S ?_; clear S; intro b11 iW S) | (refine iT 147 11 21 #[.int .u8 z.f0, .int .i64 z.f1.f0, .int .i64 z.f1.f1, .int .i64 z.f1.f2, .int .i64 z.f1.f3, .int .i64 z.f2, .slice (some ⟨gr, 0, none⟩) z.f3.length cz, .slice Ap pq.length cp, .int .i64 (q : Int), .int .u8 ax] 0 10 S ?_; clear S; intro mG S) | (refine jb (some 28) Try.func158 (Na bI o_.out HGD.out HQN.out IX.out FQ.out HPF.out S.out) ?_; rintro e Cb ⟨rfl, S1⟩; refine ⟨_, rfl, ?_⟩; replace S := ae.mk S1.free; clear S1; obtain ⟨l7, nN, nO, qY, qZ, rf, o7⟩ := St.eQ S kR; have ug := (S.out.at (.head _) 0).trans rfl; have uh := (S.out.at (.head _) 1).trans rfl; have ui := (S.out.at (.head _) 2).trans rfl; have uj := (S.out.at (.head _) 3).trans rfl; have uk := (S.out.at (.head _) 4).trans rfl; have um := (S.out.at (.head _) 5).trans rfl; have rQ := (S.out.at (.head _) 6).trans rfl; have KZ := (S.out.at (.head _) 7).trans rfl) | (refine jb (some 42) Try.func102 (Xh ⟨ck, ⟨cx, cy, cw, ch⟩, aK, l⟩ ⟨z.f0, z.f1, z.f2, L'⟩ pq y aaW.out HZ.out lC.out (S.out.tree _ bG) (S.out.tree _ (.head _)) (fD iq.out S.out bG jy.out).1 (fD iq.out S.out bG jy.out).2) ?_; rintro e zL ⟨Ay, cy', rfl, h1, hb⟩; refine ⟨_, rfl, ?_⟩; replace S := ae.mk (S.out.res (Kd.qJ (base' := 0) h1) hb); clear h1 hb; clear l7 nN nO qY qZ rf o7 ug uh ui uj uk um rQ KZ) | (refine boxS 14 _ 26 S ?_; clear S; intro b14 zM S) | (refine iT 26 14 43 #[.int .u8 y.f0, .int .i64 y.f1.f0, .int .i64 y.f1.f1, .int .i64 y.f1.f2, .int .i64 y.f1.f3, .int .i64 y.f2, .slice Ay y.f3.length cy'] 0 7 S ?_; clear S; intro O3 S; obtain ⟨K_, La, Lc, Ld, Le, Lh, Lj⟩ := St.eQ S (.head _); have nN := (S.out.at qg 1).trans rfl; have nO := (S.out.at qg 2).trans rfl) | (refine PW (some 52) Try.func66 S (JL y cx cy HYZ.out (S.out.tree _ (.head _))) ?_; clear S; intro As cs BQ S; clear K_ La Lc Ld Le Lh Lj nN nO) | (refine VW 26 8 52 #[.int .u8 ((dA y cx cy).f0), .int .i64 ((dA y cx cy).f1.f0), .int .i64 ((dA y cx cy).f1.f1), .int .i64 ((dA y cx cy).f1.f2), .int .i64 ((dA y cx cy).f1.f3), .int .i64 ((dA y cx cy).f2), .slice As ((dA y cx cy).f3.length) cs] 0 7 S ?_; clear S; intro QJ S))
    refine bodyPost_ret (wZ rfl _ _ b8 26 _ (0, 0) _ rfl (S.out.blk _ kR _ rfl) Try.underlying26 rfl (by kernel_rfl)) rfl ?_
    exact ⟨_, _, rfl, S.out.xY, S.out.below⟩
   case neg =>
    rw [if_pos ⟨hn, hb0⟩]
    obtain ⟨hna, hnb, hnd⟩ := yQ (a := n) (b := 0) (by omega)
    obtain ⟨hba, hbb, hbd⟩ := eqF (a := bI) (b := 0) (by omega)
    clear hn hb0
    go_enter Try.func114, Try.ntmps114
    go_wp2_with (first | (refine boxS 4 _ 26 S ?_; clear S; intro b4 dJ S) | (refine boxS 8 _ 26 S ?_; clear S; intro b8 dX S; obtain ⟨l7, nN, nO, qY, qZ, rf, o7⟩ := St.eQ S bG) | (refine jb (some 20) Try.func157 (Gf yf.out jy.out.1 HZ.out (S.out.tree _ (.head _))) ?_; rintro e fU ⟨Az, cz, Ap, cp, op, rfl, Ej, T⟩; refine ⟨_, rfl, ?_⟩; have S1 := S.out.join T; have iq := ae.mk Ej; obtain ⟨gr, abr, ev, _⟩ := Kd.xm S1.xY HZ2.out; injection ev with e1 e2 e3; subst e1; clear e2 e3 T Ej; replace S := ae.mk S1; clear S1; clear l7 nN nO qY qZ rf o7) | (refine boxS 11 _ 147 S ?_; clear S; intro b11 iW S) | (refine iT 147 11 21 #[.int .u8 z.f0, .int .i64 z.f1.f0, .int .i64 z.f1.f1, .int .i64 z.f1.f2, .int .i64 z.f1.f3, .int .i64 z.f2, .slice (some ⟨gr, 0, none⟩) z.f3.length cz, .slice Ap pq.length cp, .int .i64 (q : Int), .int .u8 ax] 0 10 S ?_; clear S; intro mG S) | (refine jb (some 28) Try.func158 (Na bI o_.out HGD.out HQN.out IX.out FQ.out HPF.out S.out) ?_; rintro e Cb ⟨rfl, S1⟩; refine ⟨_, rfl, ?_⟩; replace S := ae.mk S1.free; clear S1) | (refine Qs 26 8 35 #[.int .u8 0, .int .i64 0, .int .i64 0, .int .i64 0, .int .i64 0, .int .i64 0, .slice none 0 0] 0 7 S ?_; clear S; intro zL S))
    refine bodyPost_ret (wZ rfl _ _ b8 26 _ (0, 0) _ rfl (S.out.blk _ dN _ rfl) Try.underlying26 rfl (by kernel_rfl)) rfl ?_
    exact ⟨_, _, rfl, Kd.yu _ _ _ _ _, S.out.below⟩
  case neg =>
   rw [if_neg (fun h => hn h.1)]
   obtain ⟨hna, hnb, hnd⟩ := eqF (a := n) (b := 0) (by omega)
   clear hn
   go_enter Try.func114, Try.ntmps114
   go_wp2_with (first | (refine boxS 4 _ 26 S ?_; clear S; intro b4 dJ S) | (refine boxS 8 _ 26 S ?_; clear S; intro b8 dX S; obtain ⟨l7, nN, nO, qY, qZ, rf, o7⟩ := St.eQ S bG) | (refine jb (some 20) Try.func157 (Gf yf.out jy.out.1 HZ.out (S.out.tree _ (.head _))) ?_; rintro e fU ⟨Az, cz, Ap, cp, op, rfl, Ej, T⟩; refine ⟨_, rfl, ?_⟩; have S1 := S.out.join T; have iq := ae.mk Ej; obtain ⟨gr, abr, ev, _⟩ := Kd.xm S1.xY HZ2.out; injection ev with e1 e2 e3; subst e1; clear e2 e3 T Ej; replace S := ae.mk S1; clear S1; clear l7 nN nO qY qZ rf o7) | (refine boxS 11 _ 147 S ?_; clear S; intro b11 iW S) | (refine iT 147 11 21 #[.int .u8 z.f0, .int .i64 z.f1.f0, .int .i64 z.f1.f1, .int .i64 z.f1.f2, .int .i64 z.f1.f3, .int .i64 z.f2, .slice (some ⟨gr, 0, none⟩) z.f3.length cz, .slice Ap pq.length cp, .int .i64 (q : Int), .int .u8 ax] 0 10 S ?_; clear S; intro mG S) | (refine jb (some 28) Try.func158 (Na bI o_.out HGD.out HQN.out IX.out FQ.out HPF.out S.out) ?_; rintro e Cb ⟨rfl, S1⟩; refine ⟨_, rfl, ?_⟩; replace S := ae.mk S1.free; clear S1; obtain ⟨l7, nN, nO, qY, qZ, rf, o7⟩ := St.eQ S kR; have ug := (S.out.at (.head _) 0).trans rfl; have uh := (S.out.at (.head _) 1).trans rfl; have ui := (S.out.at (.head _) 2).trans rfl; have uj := (S.out.at (.head _) 3).trans rfl; have uk := (S.out.at (.head _) 4).trans rfl; have um := (S.out.at (.head _) 5).trans rfl; have rQ := (S.out.at (.head _) 6).trans rfl; have KZ := (S.out.at (.head _) 7).trans rfl) | (refine jb (some 42) Try.func102 (Xh ⟨ck, ⟨cx, cy, cw, ch⟩, aK, l⟩ ⟨z.f0, z.f1, z.f2, L'⟩ pq y aaW.out HZ.out lC.out (S.out.tree _ bG) (S.out.tree _ (.head _)) (fD iq.out S.out bG jy.out).1 (fD iq.out S.out bG jy.out).2) ?_; rintro e zL ⟨Ay, cy', rfl, h1, hb⟩; refine ⟨_, rfl, ?_⟩; replace S := ae.mk (S.out.res (Kd.qJ (base' := 0) h1) hb); clear h1 hb; clear l7 nN nO qY qZ rf o7 ug uh ui uj uk um rQ KZ) | (refine boxS 14 _ 26 S ?_; clear S; intro b14 zM S) | (refine iT 26 14 43 #[.int .u8 y.f0, .int .i64 y.f1.f0, .int .i64 y.f1.f1, .int .i64 y.f1.f2, .int .i64 y.f1.f3, .int .i64 y.f2, .slice Ay y.f3.length cy'] 0 7 S ?_; clear S; intro O3 S; obtain ⟨K_, La, Lc, Ld, Le, Lh, Lj⟩ := St.eQ S (.head _); have nN := (S.out.at qg 1).trans rfl; have nO := (S.out.at qg 2).trans rfl) | (refine PW (some 52) Try.func66 S (JL y cx cy HYZ.out (S.out.tree _ (.head _))) ?_; clear S; intro As cs BQ S; clear K_ La Lc Ld Le Lh Lj nN nO) | (refine VW 26 8 52 #[.int .u8 ((dA y cx cy).f0), .int .i64 ((dA y cx cy).f1.f0), .int .i64 ((dA y cx cy).f1.f1), .int .i64 ((dA y cx cy).f1.f2), .int .i64 ((dA y cx cy).f1.f3), .int .i64 ((dA y cx cy).f2), .slice As ((dA y cx cy).f3.length) cs] 0 7 S ?_; clear S; intro QJ S))
   refine bodyPost_ret (wZ rfl _ _ b8 26 _ (0, 0) _ rfl (S.out.blk _ kR _ rfl) Try.underlying26 rfl (by kernel_rfl)) rfl ?_
   exact ⟨_, _, rfl, S.out.xY, S.out.below⟩
 case neg =>
  obtain ⟨n, hn⟩ : ∃ n, qc ax id c = n := ⟨_, rfl⟩
  rw [hn] at hn0
  rw [VV hn hn0]
  obtain ⟨hna, hnb, hnd⟩ := eqF (a := n) (b := 0) (by omega)
  have HN := ae.mk hn
  have m_ := ae.mk hn0
  clear hn hn0
  obtain ⟨ck, ⟨cx, cy, cw, ch⟩, aK, l⟩ := c
  simp only [] at S ⊢
  go_enter Try.func114, Try.ntmps114
  go_wp2_with (first | (refine boxS 4 _ 26 S ?_; clear S; intro b4 dJ S) | (refine boxS 8 _ 26 S ?_; clear S; intro b8 dX S; obtain ⟨l7, nN, nO, qY, qZ, rf, o7⟩ := St.eQ S bG) | (refine bP (some 20) Try.func157 S ((Hg ⟨ck, ⟨cx, cy, cw, ch⟩, aK, l⟩ HZ.out id ax _ _ _ _ _ (S.out.tree _ (.head _))).1 n HN.out m_.out) ?_; clear S; intro fU S; clear l7 nN nO qY qZ rf o7) | (refine boxS 11 _ 147 S ?_; clear S; intro b11 iW S) | (refine iT 147 11 21 #[.int .u8 0, .int .i64 0, .int .i64 0, .int .i64 0, .int .i64 0, .int .i64 0, .slice none 0 0, .slice none 0 0, .int .i64 0, .int .u8 0] 0 10 S ?_; clear S; intro mG S) | (refine zQ 26 8 25 #[.int .u8 0, .int .i64 0, .int .i64 0, .int .i64 0, .int .i64 0, .int .i64 0, .slice none 0 0] 0 7 S ?_; clear S; intro Cb S))
  refine bodyPost_ret (wZ rfl _ _ b8 26 _ (0, 0) _ rfl (S.out.blk _ bG _ rfl) Try.underlying26 rfl (by kernel_rfl)) rfl ?_
  exact ⟨_, _, rfl, Kd.yu _ _ _ _ _, S.out.below⟩
theorem acY (r : Int → Bool) (g : Nat) (lb : Array Value) (eg : ∀ args w, (callFunc g args).run Try.prog w = .ok (.enter g args) w) (l : List Int) (A : Option Addr) (c : Nat) (w : World) (hR : Kd.C (Kd.int .u8) w A l.length l)
  (hcall : ∀ (x : Int) (W : World), x ∈ l → Below w.heap.size w W → Calls Try.prog g (#[.int .u8 x] ++ lb) W fun e w' => e = .returned (.bool (r x)) ∧ Below W.heap.size W w') :
  Calls Try.prog 187 #[.slice A l.length c, .func (.func g) #[] lb] w fun e w' => ∃ i : Int, e = .returned (.int .i64 i) ∧ decide (i ≥ 0) = l.any r ∧ Below w.heap.size w w' := by
 have HR := ae.mk hR
 have HB := ae.mk (Below.refl w.heap.size w)
 have u_ := ae.mk hcall
 have HL := ae.mk (show l.length ≤ 9223372036854775807 from hR.2.1)
 clear hR hcall
 go_enter Try.func187, Try.ntmps187
 go_wp2
 go_loopg [5, 8] l.length (fun gg _ v8 wr => ∃ (kk : Nat), kk ≤ l.length ∧ l.length - kk ≤ gg ∧ v8 = .int .i64 kk ∧ ae (Below w.heap.size w wr) ∧ ae (l.any r = (l.drop kk).any r))
 case atStart => exact ⟨0, Nat.zero_le _, by omega, rfl, HB, ⟨by simp⟩⟩
 case round =>
  clear HB
  obtain ⟨kk, hkk, hg, rfl, HB, HS⟩ := hrel
  by_cases hlt : kk < l.length
  ·have hltz : (kk : Int) < (l.length : Int) := by omega
   obtain ⟨ad, rfl, xi⟩ := Kd.iy HR.out (kk : Int) (by omega) (by omega)
   have xi : w.cell? (ad.add kk) = some (.int .u8 (rd l (kk : Int))) := by simpa using xi
   replace xi := (HB.out.cell (World.block_lt_of_cell? w _ xi)).trans xi
   have hmem : rd l (kk : Int) ∈ l := by
    simp only [rd, Int.toNat_natCast, List.getD_eq_getElem?_getD, List.getElem?_eq_getElem hlt, Option.getD_some]
    exact List.getElem_mem _
   have hdr : l.drop kk = rd l (kk : Int) :: l.drop (kk + 1) := by
    rw [List.drop_eq_getElem_cons hlt]
    simp only [rd, Int.toNat_natCast, List.getD_eq_getElem?_getD, List.getElem?_eq_getElem hlt, Option.getD_some]
   have HX : ae ((l.drop kk).any r = (r (rd l (kk : Int)) || (l.drop (kk + 1)).any r)) := ⟨by rw [hdr, List.any_cons]⟩
   have HC := ae.mk (u_.out _ wr hmem HB.out)
   clear hmem hdr
   generalize rd l (kk : Int) = x at xi HX HC
   have hw : wrap64 ((kk : Int) + 1) = ((kk + 1 : Nat) : Int) := by unfold wrap64; have := HL.out; omega
   cases hq : r x with
   | true =>
    have h := HC.out
    rw [hq] at h
    have HH := ae.mk h
    have HQ := ae.mk hq
    clear hq HC h
    go_wp2_with fail
    refine HH.out.mono ?_
    rintro e w' ⟨rfl, hb⟩
    have HB' := ae.mk (ak HB.out hb)
    clear hb
    go_wp2
    go_ret
    refine ⟨_, rfl, ?_, HB'.out⟩
    rw [HS.out, HX.out, HQ.out, Bool.true_or]
    exact decide_eq_true (by omega)
   | false =>
    have h := HC.out
    rw [hq] at h
    have HH := ae.mk h
    have HQ := ae.mk hq
    clear hq HC h
    go_wp2_with fail
    refine HH.out.mono ?_
    rintro e w' ⟨rfl, hb⟩
    have HB' := ae.mk (ak HB.out hb)
    clear hb
    go_wp2
    go_roundg (l.length - (kk + 1))
    case measure => omega
    case rel =>
     refine ⟨kk + 1, by omega, by omega, (by rw [hw]), HB', ⟨?_⟩⟩
     rw [HS.out, HX.out, HQ.out, Bool.false_or]
  ·have hltz : ¬ (kk : Int) < (l.length : Int) := by omega
   have hd : l.drop kk = [] := List.drop_eq_nil_of_le (by omega)
   have HS2 := ae.mk (hd ▸ HS.out)
   clear HS hd
   go_wp2
   go_ret
   refine ⟨_, rfl, ?_, HB.out⟩
   rw [HS2.out]
   rfl
theorem abI (r : Int → Bool) (g : Nat) (lb : Array Value) (eg : ∀ args w, (callFunc g args).run Try.prog w = .ok (.enter g args) w) (l : List Int) (A : Option Addr) (c : Nat) (w : World) (hR : Kd.C (Kd.int .u8) w A l.length l)
  (hcall : ∀ (x : Int) (W : World), x ∈ l → Below w.heap.size w W → Calls Try.prog g (#[.int .u8 x] ++ lb) W fun e w' => e = .returned (.bool (r x)) ∧ Below W.heap.size W w') :
  Calls Try.prog 162 #[.slice A l.length c, .func (.func g) #[] lb] w fun e w' => e = .returned (.bool (l.any r)) ∧ Below w.heap.size w w' := by
 have HI := ae.mk (acY r g lb eg l A c w hR hcall)
 clear hR hcall
 go_enter Try.func162, Try.ntmps162
 go_wp2_with fail
 refine HI.out.mono ?_
 rintro e w' ⟨i, rfl, hd, hb'⟩
 have HB := ae.mk hb'
 have HN := ae.mk hd
 clear hb' hd
 go_wp2
 go_ret
 exact ⟨by rw [← HN.out]; rfl, HB.out⟩
theorem abB (x id : Int) (c : ai) (hz : sz c ≤ 1000000) (b : Nat) (P : Nat → Prop) (A : Option Addr) (cc b3 b4 : Nat) (w : World) (hk : w.heap[b3]? = some (.cells #[.int .u8 c.f0, .int .i64 c.f1.f0, .int .i64 c.f1.f1, .int .i64 c.f1.f2, .int .i64 c.f1.f3, .int .i64 c.f2, .slice A c.f3.length cc] 26 (0, 0))) (hi : w.heap[b4]? = some (.cells #[.int .i64 id] 3 (0, 0))) (hv : Kd.V k26 26 w b P (.slice A c.f3.length cc) c.f3) :
  Calls Try.prog 163 (#[.int .u8 x] ++ #[.pointer (some ⟨b3, 0, none⟩), .pointer (some ⟨b4, 0, none⟩)]) w fun e w' => e = .returned (.bool (qc x id c != 0)) ∧ Below w.heap.size w w' := by
 have S := ae.mk (St.start (ts := [(.slice A c.f3.length cc, c.f3)]) (b0 := w.heap.size) (w := w) (P := P) (fun t ht => by rw [List.mem_singleton.1 ht]; exact f_ hv))
 replace S := ae.mk (S.out.lZ (show w.cell? ⟨b3, 6, none⟩ = some (.slice A c.f3.length cc) from (af hk 6).trans rfl))
 replace S := ae.mk (S.out.lZ (show w.cell? ⟨b3, 5, none⟩ = some (.int .i64 c.f2) from (af hk 5).trans rfl))
 replace S := ae.mk (S.out.lZ (show w.cell? ⟨b3, 4, none⟩ = some (.int .i64 c.f1.f3) from (af hk 4).trans rfl))
 replace S := ae.mk (S.out.lZ (show w.cell? ⟨b3, 3, none⟩ = some (.int .i64 c.f1.f2) from (af hk 3).trans rfl))
 replace S := ae.mk (S.out.lZ (show w.cell? ⟨b3, 2, none⟩ = some (.int .i64 c.f1.f1) from (af hk 2).trans rfl))
 replace S := ae.mk (S.out.lZ (show w.cell? ⟨b3, 1, none⟩ = some (.int .i64 c.f1.f0) from (af hk 1).trans rfl))
 replace S := ae.mk (S.out.lZ (show w.cell? ⟨b3, 0, none⟩ = some (.int .u8 c.f0) from (af hk 0).trans rfl))
 replace S := ae.mk (S.out.lZ (show w.cell? ⟨b4, 0, none⟩ = some (.int .i64 id) from (af hi 0).trans rfl))
 have HZ := ae.mk hz
 clear hz hv hk hi
 simp only [List.append_toArray, List.cons_append, List.nil_append]
 by_cases hn0 : qc x id c = 0
 case pos =>
  have hb : (qc x id c != 0) = false := by rw [hn0]; rfl
  rw [hb]
  obtain ⟨p, d0, z, q, hF⟩ := LW hn0
  obtain ⟨pq, hpq⟩ : ∃ pq, pq = p.take d0 := ⟨_, rfl⟩
  have yf := ae.mk hF
  have jy := ae.mk (And.intro hpq (Nat.le_of_lt hF.fr.hd))
  clear hn0 hb hF hpq
  obtain ⟨ck, ⟨cx, cy, cw, ch⟩, aK, l⟩ := c
  simp only [] at S ⊢
  go_enter Try.func163, Try.ntmps163
  have iY := (S.out.cell _ bG).1
  have jH := (S.out.cell _ dN).1
  have jv := (S.out.cell _ kR).1
  have jw := (S.out.cell _ qg).1
  have lD := (S.out.cell _ zD).1
  have lF := (S.out.cell _ zF).1
  have Ce := (S.out.cell _ Jh).1
  have gX := (S.out.cell _ (.head _)).1
  go_wp2_with (first
   | (refine jb (some 11) Try.func157 (Gf yf.out jy.out.1 HZ.out (S.out.tree _ (.head _))) ?_; rintro e dJ ⟨Az, cz, Ap, cp, op, rfl, Ej, T⟩; refine ⟨_, rfl, ?_⟩; replace S := ae.mk (S.out.join T).free; clear Ej T; clear iY jH jv jw lD lF Ce gX)
   | (refine boxS 5 _ 147 S ?_; clear S; intro b5 dX S)
   | (refine iT 147 5 12 #[.int .u8 z.f0, .int .i64 z.f1.f0, .int .i64 z.f1.f1, .int .i64 z.f1.f2, .int .i64 z.f1.f3, .int .i64 z.f2, .slice Az z.f3.length cz, .slice Ap pq.length cp, .int .i64 (q : Int), .int .u8 x] 0 10 S ?_; clear S; intro fU S)
   | fail)
  go_ret
  exact ⟨rfl, S.out.below⟩
 case neg =>
  have hb : (qc x id c != 0) = true := bne_iff_ne.mpr hn0
  rw [hb]
  obtain ⟨n, hn⟩ : ∃ n, qc x id c = n := ⟨_, rfl⟩
  rw [hn] at hn0
  obtain ⟨hna, hnb, hnd⟩ := eqF (a := n) (b := 0) (by omega)
  have HN := ae.mk hn
  have m_ := ae.mk hn0
  clear hn hn0 hb
  obtain ⟨ck, ⟨cx, cy, cw, ch⟩, aK, l⟩ := c
  simp only [] at S ⊢
  go_enter Try.func163, Try.ntmps163
  have iY := (S.out.cell _ bG).1
  have jH := (S.out.cell _ dN).1
  have jv := (S.out.cell _ kR).1
  have jw := (S.out.cell _ qg).1
  have lD := (S.out.cell _ zD).1
  have lF := (S.out.cell _ zF).1
  have Ce := (S.out.cell _ Jh).1
  have gX := (S.out.cell _ (.head _)).1
  go_wp2_with (first
   | (refine bP (some 11) Try.func157 S ((Hg ⟨ck, ⟨cx, cy, cw, ch⟩, aK, l⟩ HZ.out id x _ _ _ _ _ (S.out.tree _ (.head _))).1 n HN.out m_.out) ?_; clear S; intro dJ S; clear iY jH jv jw lD lF Ce gX)
   | (refine boxS 5 _ 147 S ?_; clear S; intro b5 dX S)
   | (refine iT 147 5 12 #[.int .u8 0, .int .i64 0, .int .i64 0, .int .i64 0, .int .i64 0, .int .i64 0, .slice none 0 0, .slice none 0 0, .int .i64 0, .int .u8 0] 0 10 S ?_; clear S; intro fU S)
   | fail)
  go_ret
  exact ⟨rfl, S.out.below⟩
noncomputable def frameC (id : Int) (cO : List Int) (c : ai) : Bool := (fA id c).isSome && (bZ c && !(cO.any fun x => qc x id c != 0))
theorem E5 (c : ai) (hz : sz c ≤ 1000000) (id : Int) (cO : List Int) (P : Nat → Prop) (A : Option Addr) (cc : Nat) (B : Option Addr) (cb : Nat) (w : World) (hv : Kd.V k26 26 w w.heap.size P (.slice A c.f3.length cc) c.f3) (hA : Kd.C (Kd.int .u8) w B cO.length cO) :
  Calls Try.prog 117 #[.agg #[.int .u8 c.f0, .int .i64 c.f1.f0, .int .i64 c.f1.f1, .int .i64 c.f1.f2, .int .i64 c.f1.f3, .int .i64 c.f2, .slice A c.f3.length cc], .int .i64 id, .slice B cO.length cb] w fun e w' => e = .returned (.bool (frameC id cO c)) ∧ Below w.heap.size w w' := by
 have S := ae.mk (St.start (ts := [(.slice A c.f3.length cc, c.f3)]) (b0 := w.heap.size) (w := w) (P := P) (fun t ht => by rw [List.mem_singleton.1 ht]; exact hv))
 have HZ := ae.mk hz
 have uM := ae.mk (show sz c ≤ 1048576 by omega)
 have HA := ae.mk hA
 unfold frameC
 clear hz hv hA
 cases hf : fA id c with
 | none =>
  have sZ := ae.mk hf
  clear hf
  simp only [Option.isSome_none, Bool.false_and]
  obtain ⟨ck, ⟨cx, cy, cw, ch⟩, aK, l⟩ := c
  simp only [] at S ⊢
  go_enter Try.func117, Try.ntmps117
  go_wp2_with (first
   | (refine boxS 3 _ 26 S ?_; clear S; intro b3 dJ S)
   | (refine boxS 4 _ 3 S ?_; clear S; intro b4 dX S; obtain ⟨a_, aW, aY, aX, bD, bH, bu⟩ := St.eQ S bG; have l7 := (S.out.at (.head _) 0).trans rfl)
   | (refine uA (some 12) Try.func89 S (Og id ⟨ck, ⟨cx, cy, cw, ch⟩, aK, l⟩ sZ.out HZ.out (S.out.tree _ (.head _))) ?_; clear S; intro Ap cp op fU S iq; clear a_ aW aY aX bD bH bu l7)
   | fail)
  go_ret
  exact ⟨rfl, S.out.below⟩
 | some p =>
  have sZ := ae.mk hf
  clear hf
  simp only [Option.isSome_some, Bool.true_and]
  cases ht : bZ c with
  | false =>
   have HT := ae.mk ht
   clear ht
   rw [Bool.false_and]
   obtain ⟨ck, ⟨cx, cy, cw, ch⟩, aK, l⟩ := c
   simp only [] at S ⊢
   go_enter Try.func117, Try.ntmps117
   go_wp2_with (first
    | (refine boxS 3 _ 26 S ?_; clear S; intro b3 dJ S)
    | (refine boxS 4 _ 3 S ?_; clear S; intro b4 dX S; obtain ⟨a_, aW, aY, aX, bD, bH, bu⟩ := St.eQ S bG; have l7 := (S.out.at (.head _) 0).trans rfl)
    | (refine uA (some 12) Try.func89 S (zB id ⟨ck, ⟨cx, cy, cw, ch⟩, aK, l⟩ p sZ.out HZ.out (S.out.tree _ (.head _))) ?_; clear S; intro Ap cp op fU S iq; clear a_ aW aY aX bD bH bu l7; obtain ⟨a_, aW, aY, aX, bD, bH, bu⟩ := St.eQ S dN)
    | ((with_reducible refine aA (N := 18) rfl ?_); (refine fB (by rfl) ?_; dsimp only); refine pO (N := 18) rfl rfl ⟨ck, ⟨cx, cy, cw, ch⟩, aK, l⟩ S.out (S.out.tree _ (.head _)) ?hr ?_; (case hr => first | (go_simp; done) | (go_simp; rfl)); intro afS af9 iW S1 h1 h2; replace S := ae.mk S1; have oO := ae.mk h1; have rG := ae.mk h2; clear S1 h1 h2; clear a_ aW aY aX bD bH bu)
    | (refine gm 19 rfl ?_; (refine fB (by rfl) ?_; dsimp only); refine bP (some 19) Try.func148 S (kE HT.out (pW ⟨ck, ⟨cx, cy, cw, ch⟩, aK, l⟩ uM.out rG.out oO.out)) ?_; clear S; intro mG S)
    | fail)
   go_ret
   exact ⟨rfl, S.out.below⟩
  | true =>
   have HT := ae.mk ht
   clear ht
   rw [Bool.true_and]
   obtain ⟨ck, ⟨cx, cy, cw, ch⟩, aK, l⟩ := c
   simp only [] at S ⊢
   go_enter Try.func117, Try.ntmps117
   go_wp2_with (first
    | (refine boxS 3 _ 26 S ?_; clear S; intro b3 dJ S)
    | (refine boxS 4 _ 3 S ?_; clear S; intro b4 dX S; obtain ⟨a_, aW, aY, aX, bD, bH, bu⟩ := St.eQ S bG; have l7 := (S.out.at (.head _) 0).trans rfl)
    | (refine uA (some 12) Try.func89 S (zB id ⟨ck, ⟨cx, cy, cw, ch⟩, aK, l⟩ p sZ.out HZ.out (S.out.tree _ (.head _))) ?_; clear S; intro Ap cp op fU S iq; clear a_ aW aY aX bD bH bu l7; obtain ⟨a_, aW, aY, aX, bD, bH, bu⟩ := St.eQ S dN)
    | ((with_reducible refine aA (N := 18) rfl ?_); (refine fB (by rfl) ?_; dsimp only); refine pO (N := 18) rfl rfl ⟨ck, ⟨cx, cy, cw, ch⟩, aK, l⟩ S.out (S.out.tree _ (.head _)) ?hr ?_; (case hr => first | (go_simp; done) | (go_simp; rfl)); intro afS af9 iW S1 h1 h2; replace S := ae.mk S1; have oO := ae.mk h1; have rG := ae.mk h2; clear S1 h1 h2; clear a_ aW aY aX bD bH bu)
    | (refine gm 19 rfl ?_; (refine fB (by rfl) ?_; dsimp only); refine bP (some 19) Try.func148 S (kE HT.out (pW ⟨ck, ⟨cx, cy, cw, ch⟩, aK, l⟩ uM.out rG.out oO.out)) ?_; clear S; intro mG S)
    | (refine gm 24 rfl ?_; (refine fB (by rfl) ?_; dsimp only); refine bP (some 24) Try.func162 S (abI (fun x => qc x id ⟨ck, ⟨cx, cy, cw, ch⟩, aK, l⟩ != 0) 163 #[.pointer (some ⟨b3, 0, none⟩), .pointer (some ⟨b4, 0, none⟩)] (p_ Try.func163 (by decide +kernel) (by kernel_rfl)) cO B cb _ (Kd.fK HA.out S.out.below) (fun x W' _ hW => abB x id ⟨ck, ⟨cx, cy, cw, ch⟩, aK, l⟩ HZ.out _ _ A cc b3 b4 W' (aI (S.out.blk _ dN _ rfl) hW) (aI (S.out.blk _ bG _ rfl) hW) (Kd.iI (Kd.z_ (S.out.tree _ (.head _))) hW))) ?_; clear S; intro Cb S)
    | fail)
   go_ret
   exact ⟨rfl, S.out.below⟩
theorem OY (a : Int) : ∀ (l : List ai) (n : Nat) (x y : Int), n < l.length → ∃ x' y', kd (jf a l x y) n = dA (kd l n) x' y' := by
 intro l
 induction l with
 | nil => intro n x y h; simp at h
 | cons k ks ih =>
  intro n x y h
  rw [mY]
  cases n with
  | zero => exact ⟨x, y, rfl⟩
  | succ n => exact ih n _ _ (by simpa using h)
def BX : ai := ⟨1, ⟨0, 0, 40, 24⟩, 1, []⟩
def BZ : ai := ⟨1, ⟨41, 0, 39, 24⟩, 2, []⟩
def uq : ai := ⟨2, ⟨0, 0, 80, 24⟩, 0, [BX, BZ]⟩
theorem LV : bZ uq = true := by decide +kernel
theorem XX : fA 2 uq = some [1] := by decide +kernel
theorem abW : CO 1 uq [1] = some 0 := by decide +kernel
theorem I5 : qH 1 2 uq [1] 0 uq 0 :=
 ⟨LV, .inl rfl, XX, abW, ⟨by decide, rfl, by decide, by decide, by decide, by decide, by decide⟩, LV⟩
theorem Va : mF 1 0 true [BX, BZ] = some 1 := by decide +kernel
theorem LQ : aU 1 (kd [BX, BZ] 1) = 38 := by decide +kernel
theorem XY : qA 1 5 0 [BX, BZ] = (dL 1 0 5 (dL 1 1 (-5) [BX, BZ]), 5) := by
 have e : gW 1 0 true 5 10001 [BX, BZ] 0 = (dL 1 0 5 (dL 1 1 (-5) [BX, BZ]), 5) := by
  rw [wX (f := 10000) (by omega) Va, LQ]
  have e1 : mn ((5 : Int) - 0) 38 = 5 := by decide
  have e2 : place 0 true = 0 := rfl
  rw [e1, e2, Int.zero_add, wY (Int.le_refl _)]
 unfold qA
 rw [show decide ((0 : Int) < 5) = true from rfl, show o9 5 = 5 from rfl, e]
 rfl
theorem abV : (sS 1 2 5 uq).2 = (5, 0) ∧ (sS 1 2 5 uq).1.f3.length = 2 ∧ (kd (sS 1 2 5 uq).1.f3 0).f1.f2 = 45 ∧ (kd (sS 1 2 5 uq).1.f3 1).f1.f2 = 34 := by
 have hg := I5.good
 have hs : aV 1 uq.f1 - ((uq.f3.length : Int) - 1) = 79 := by decide
 rw [hs] at hg
 have hg : qW 1 79 [BX, BZ] := hg
 obtain ⟨a1, a2, a3, a4, a5, a6⟩ := hg.move (.inl rfl) (i := 1) (n := -5) (by decide) (by rw [LQ]; decide) (by decide)
 obtain ⟨b1, b2, b3, b4, b5, b6⟩ := a1.move (.inl rfl) (i := 0) (n := 5) (by rw [a4]; decide) (by
  have := Pure.kz (ax := 1) (.inl rfl) (a1.rE _ (vV (i := 0) (by rw [a4]; decide)))
  omega) (by decide)
 have e0 := b6
 rw [a3 0 (by decide)] at e0
 have e1 := a6
 rw [← b3 1 (by decide)] at e1
 have hr : sS 1 2 5 uq = (dA ⟨uq.f0, uq.f1, uq.f2, dL 1 0 5 (dL 1 1 (-5) [BX, BZ])⟩ 0 0, 5, 0) := by
  rw [Eo I5]
  unfold JK
  rw [show uq.f3 = [BX, BZ] from rfl, XY]
  rfl
 rw [hr]
 generalize dL 1 0 5 (dL 1 1 (-5) [BX, BZ]) = L at *
 have hl : L.length = 2 := by rw [b4, a4]; rfl
 have hf : (dA ⟨uq.f0, uq.f1, uq.f2, L⟩ 0 0).f3 = jf 2 L 0 0 := by rw [kY]; rfl
 obtain ⟨x0, y0, h0⟩ := OY 2 L 0 0 0 (by omega)
 obtain ⟨x1, y1, h1⟩ := OY 2 L 1 0 0 (by omega)
 simp only []
 rw [hf, su, h0, h1]
 have hw : ∀ k x y, (dA k x y).f1.f2 = aV 1 k.f1 := fun k x y => by rw [kY]; rfl
 rw [hw, hw, e0, e1]
 refine ⟨?_, hl, ?_, ?_⟩ <;> first | trivial | rfl
theorem Zx {Pr : Program} {ops : Array Oper} {rest : List Oper} {op : Oper} {a : Act} {Q : Exit → Act → World → Prop} {w W : World} {P : Nat → Prop} {bs : List (Option Nat × Obj)} {ts : List (Value × List ai)} {ro : List (Addr × Value)} {N : Tmp} (hd : op.dst = some N) (hgd : op.guard = none) (x y : ai) {A B : Option Addr} {c d b b' : Nat} (S : St w P bs [] ts ro W)
  (hV : Kd.V k26 26 W b (Ok w P (keys bs [])) (.slice A x.f3.length c) x.f3) (hV' : Kd.V k26 26 W b' (Ok w P (keys bs [])) (.slice B y.f3.length d) y.f3)
  (hrun : (execOp a.eval op).run Pr W = .ok (.value (.slice (some ⟨W.heap.size, 0, none⟩) 2 2)) (W.alloc (.cells (kL x A c ++ kL y B d).toArray 26)))
  (h : ∀ A1 c1 w1, St w P bs [(.slice A1 2 c1, [x, y])] ts ro w1 → wpList Pr ops Q rest (a.put op.dst (.slice A1 2 c1)) w1) : wpList Pr ops Q (op :: rest) a W := by
 obtain ⟨_, hl, hF⟩ := Kd.Bd hV
 obtain ⟨_, hl', hF'⟩ := Kd.Bd hV'
 refine Kd.yt k26 (w0 := W) W.heap.size 26 hgd hd (xs := [x, y]) (inner := kL x A c ++ kL y B d) (ok := fun k => Ok w P (keys bs []) k ∨ W.heap.size ≤ k) (fE := Ok w P (keys bs [])) hrun (bV.c7 (nS W _ x hl hF) (bV.c7 (nS W _ y hl' hF') (bV.none _ _))) (fun _ h => .inl h) (.inr (Nat.le_refl _)) (Below.refl _ _) (Nat.le_refl _) (by simp) ?_
 intro v1 w1 hN _ hg _
 obtain ⟨A1, c1, rfl⟩ := Kd.jm hN
 exact h A1 c1 w1 (S.x_ hN (vU hg))
theorem ac5 {ax id bI : Int} {c : ai} {r : ai × Int × Int} {P : Nat → Prop} {W : World} {f : FuncId} {args : Array Value} (h : sS ax id bI c = r) (hc : Calls Try.prog f args W (Kz W P (sS ax id bI c))) : Calls Try.prog f args W (Kz W P r) := by
 rw [h] at hc
 exact hc
theorem xq {w : World} : Calls Try.prog 113 #[] w fun e w' => e = .returned (.bool true) ∧ Below w.heap.size w w' := by
 have S := ae.mk (St.start (ts := []) (b0 := w.heap.size) (w := w) (P := fun _ => True) (fun t ht => by cases ht))
 have hx := abV
 obtain ⟨⟨X, n, e⟩, hr⟩ : ∃ r, sS 1 2 5 uq = r := ⟨_, rfl⟩
 rw [hr] at hx
 obtain ⟨h1, h2, h3, h4⟩ := hx
 injection h1 with h5 h6
 have h5 : n = 5 := h5
 have h6 : e = 0 := h6
 subst h5 h6
 have HR := ae.mk hr
 have HL := ae.mk (show X.f3.length = 2 from h2)
 have QV := ae.mk (show ((0 : Nat) : Int) < (X.f3.length : Int) by rw [HL.out]; decide)
 have HL1 := ae.mk (show ((1 : Nat) : Int) < (X.f3.length : Int) by rw [HL.out]; decide)
 have HX0 := ae.mk (show (kd X.f3 0).f1.f2 = 45 from h3)
 have HX1 := ae.mk (show (kd X.f3 1).f1.f2 = 34 from h4)
 clear h2 h3 h4 hr
 go_enter Try.func113, Try.ntmps113
 go_wp2_with (first
  | (refine boxS 1 _ 26 S ?_; clear S; intro b1 dJ S)
  | (refine iT 26 1 8 #[.int .u8 1, .int .i64 0, .int .i64 0, .int .i64 40, .int .i64 24, .int .i64 1, .slice none 0 0] 0 7 S ?_; clear S; intro dX S)
  | (refine boxS 2 _ 26 S ?_; clear S; intro b2 fU S)
  | (refine iT 26 2 10 #[.int .u8 1, .int .i64 41, .int .i64 0, .int .i64 39, .int .i64 24, .int .i64 2, .slice none 0 0] 0 7 S ?_; clear S; intro iW S; obtain ⟨oz, vK, vM, vN, vO, sH, jh⟩ := St.eQ S (.head _); obtain ⟨fO, jS, jT, jU, jV, lV, iD⟩ := St.eQ S bG)
  | ((with_reducible refine aA (N := 14) rfl ?_); refine Zx (N := 14) rfl rfl BX BZ S.out (Kd.JG k26 26 _ 0 _) (Kd.JG k26 26 _ 0 _) ?hr ?_; (case hr => first | (go_simp; done) | (go_simp; rfl)); intro Aq cq mG S1; replace S := ae.mk S1; clear S1; clear oz vK vM vN vO sH jh fO jS jT jU jV lV iD)
  | (refine boxS 3 _ 26 S ?_; clear S; intro b3 Cb S)
  | (refine iT 26 3 15 #[.int .u8 2, .int .i64 0, .int .i64 0, .int .i64 80, .int .i64 24, .int .i64 0, .slice Aq 2 cq] 0 7 S ?_; clear S; intro zL S; obtain ⟨a_, aW, aY, aX, bD, bH, bu⟩ := St.eQ S (.head _))
  | (refine jb (some 18) Try.func114 (ac5 HR.out (Zu uq (by decide) 2 1 5 (by decide) _ _ _ _ (f_ (S.out.free.tree _ (.head _))))) ?_; rintro e zM ⟨Ax, WV, rfl, h1, hb⟩; refine ⟨_, rfl, ?_⟩; replace S := ae.mk (S.out.free.res (Kd.qJ (base' := 0) h1) hb); clear h1 hb; clear a_ aW aY aX bD bH bu)
  | (refine boxS 4 _ 26 S ?_; clear S; intro b4 O3 S)
  | (refine iT 26 4 19 #[.int .u8 X.f0, .int .i64 X.f1.f0, .int .i64 X.f1.f1, .int .i64 X.f1.f2, .int .i64 X.f1.f3, .int .i64 X.f2, .slice Ax X.f3.length WV] 0 7 S ?_; clear S; intro BQ S; obtain ⟨ad, ua, uc, ek, S1⟩ := S.out.elem (.head _) ((0 : Nat) : Int) (by decide) QV.out; subst ek; obtain ⟨ad2, ub, uc2, ek, S2⟩ := S1.elem bG ((1 : Nat) : Int) (by decide) HL1.out; injection ek with ek; subst ek; rw [Qh] at S1 S2; have f3 : BQ.cell? ⟨ad.block, ad.off + 3, none⟩ = some (.int .i64 45) := (by have h := (S1.cell _ kR).1; rw [HX0.out] at h; exact h); have f10 : BQ.cell? ⟨ad.block, ad.off + 10, none⟩ = some (.int .i64 34) := (by have h := (S2.cell _ kR).1; rw [HX1.out] at h; exact h); have ajW : BQ.cell? ⟨ad.block, ad.off + 7 + 3, none⟩ = some (.int .i64 34) := f10; have hl := HL.out; clear S1 S2; have o7 := (S.out.at (.head _) 6).trans rfl)
  | fail)
 clear o7
 go_ret
 exact ⟨rfl, S.out.below⟩
end Go.Proofs.Ytfdmfgaiblfbhaa.P
namespace Go.Proofs.Ytfdmfgaiblfbhaa.P
open Go.RowKit Go.Proofs.ag.aT Go.Proofs.ag.bK Go.Proofs.ag.bY
attribute [local go_sem] je jO jr kC
def oN.T9 : Bool × List (List Nat × List Nat) := (true, [([], []), ([], []), ([], []), ([1, 2], [1, 2]), ([0, 3], [0, 3]), ([4], [4]), ([5], [5]), ([5], [5]), ([], []), ([8, 6, 4, 0, 1, 2, 3, 4, 5, 6, 8], [6, 8]), ([7, 9, 0, 1, 2, 3, 4, 5, 6, 7, 8, 9], [7])])
def oN.B9 : List Nat := [0, 0, 0, 6, 15, 31, 63, 63, 0, 383, 1023]
theorem oN.zk : g_ .any (opsOf Try.f116 9) = oN.T9 := by kernel_rfl
theorem oN.vI : iL oN.T9.2 oN.B9 = true := by kernel_rfl
abbrev Rf (w : World) (p : List Int) (d : Nat) (q : Nat) (e : Ending) (w' : World) : Prop := ∃ Ap cp op, e = .returned (.agg #[.slice Ap (p.take d).length cp, .int .i64 (q : Int), .int .i64 0]) ∧ IR w.heap.size (.slice Ap p.length cp) p op ∧ (∀ g, (Value.slice Ap p.length cp).ownBlock = some g → w.heap.size ≤ g ∧ w'.heap[g]? = some op) ∧ Below w.heap.size w w'
theorem XZ (c : ai) (hz : sz c ≤ 1000000) (id ax : Int) (b : Nat) (P : Nat → Prop) (A : Option Addr) (cc : Nat) (w : World) (hv : Kd.V k26 26 w b P (.slice A c.f3.length cc) c.f3) :
  (∀ n, qc ax id c = n → n ≠ 0 → Calls Try.prog 116 #[.agg #[.int .u8 c.f0, .int .i64 c.f1.f0, .int .i64 c.f1.f1, .int .i64 c.f1.f2, .int .i64 c.f1.f3, .int .i64 c.f2, .slice A c.f3.length cc], .int .i64 id, .int .u8 ax] w fun e w' => e = .returned (.agg #[.slice none 0 0, .int .i64 0, .int .i64 n]) ∧ Below w.heap.size w w') ∧
  (∀ p d z q, bZ c = true → (ax = 1 ∨ ax = 2) → fA id c = some p → CO ax c p = some d → wF ax c p d z q → Calls Try.prog 116 #[.agg #[.int .u8 c.f0, .int .i64 c.f1.f0, .int .i64 c.f1.f1, .int .i64 c.f1.f2, .int .i64 c.f1.f3, .int .i64 c.f2, .slice A c.f3.length cc], .int .i64 id, .int .u8 ax] w (Rf w p d q)) := by
 have S := ae.mk (St.start (ts := [(.slice A c.f3.length cc, c.f3)]) (b0 := w.heap.size) (w := w) (P := P) (fun t ht => by rw [List.mem_singleton.1 ht]; exact f_ hv))
 have uM := ae.mk (show sz c ≤ 1048576 by omega)
 have HZ := ae.mk hz
 have hpl := fun p (h : fA id c = some p) => (Bq id (sz c)).1 c (Nat.le_refl _) p h
 clear hz hv
 obtain ⟨ck, ⟨cx, cy, cw, ch⟩, aK, l⟩ := c
 simp only [] at S ⊢
 constructor
 ·intro n hn hn0
  unfold qc at hn
  cases ht : bZ ⟨ck, ⟨cx, cy, cw, ch⟩, aK, l⟩ with
  | false =>
   rw [if_neg (fun h => by rw [ht] at h; cases h.1)] at hn
   subst hn
   have HT := ae.mk ht
   clear ht hn0 hpl
   go_enter Try.func116, Try.ntmps116
   go_wp2_with (first | (refine boxS 3 _ 26 S ?_; clear S; intro b3 dJ S) | (refine boxS 6 _ 110 S ?_; clear S; intro b6 dX S; obtain ⟨a_, aW, aY, aX, bD, bH, bu⟩ := St.eQ S bG) | (refine bP (some 14) Try.func84 S (kE HT.out (uG ⟨ck, ⟨cx, cy, cw, ch⟩, aK, l⟩ uM.out _ _ _ _ _ (S.out.tree _ (.head _)))) ?_; clear S; intro fU S; clear a_ aW aY aX bD bH bu) | (refine iT 110 6 24 #[.slice none 0 0, .int .i64 0, .int .i64 1] 0 3 S ?_; clear S; intro iW S))
   refine bodyPost_ret (results_cell_row rfl _ _ b6 110 _ (0, 0) _ rfl (S.out.blk _ (.head _) _ rfl) Try.underlying110 rfl (by kernel_rfl)) rfl ?_
   exact ⟨rfl, S.out.below⟩
  | true =>
   have HT := ae.mk ht
   by_cases h1 : ax = 1 ∨ ax = 2
   case neg =>
    rw [if_neg (fun h => h1 h.2)] at hn
    subst hn
    clear ht hn0 hpl
    by_cases h2 : ax < 1
    case pos =>
     obtain ⟨hxa, hxb⟩ := mV (a := ax) (b := 1) (by omega)
     clear h1 h2
     go_enter Try.func116, Try.ntmps116
     go_wp2_with (first | (refine boxS 3 _ 26 S ?_; clear S; intro b3 dJ S) | (refine boxS 6 _ 110 S ?_; clear S; intro b6 dX S; obtain ⟨a_, aW, aY, aX, bD, bH, bu⟩ := St.eQ S bG) | (refine bP (some 14) Try.func84 S (kE HT.out (uG ⟨ck, ⟨cx, cy, cw, ch⟩, aK, l⟩ uM.out _ _ _ _ _ (S.out.tree _ (.head _)))) ?_; clear S; intro fU S; clear a_ aW aY aX bD bH bu) | (refine iT 110 6 24 #[.slice none 0 0, .int .i64 0, .int .i64 1] 0 3 S ?_; clear S; intro iW S))
     refine bodyPost_ret (results_cell_row rfl _ _ b6 110 _ (0, 0) _ rfl (S.out.blk _ (.head _) _ rfl) Try.underlying110 rfl (by kernel_rfl)) rfl ?_
     exact ⟨rfl, S.out.below⟩
    case neg =>
     obtain ⟨hxa, hxb⟩ := lU (a := ax) (b := 1) (by omega)
     obtain ⟨hya, hyb⟩ := mV (a := 2) (b := ax) (by omega)
     clear h1 h2
     go_enter Try.func116, Try.ntmps116
     go_wp2_with (first | (refine boxS 3 _ 26 S ?_; clear S; intro b3 dJ S) | (refine boxS 6 _ 110 S ?_; clear S; intro b6 dX S; obtain ⟨a_, aW, aY, aX, bD, bH, bu⟩ := St.eQ S bG) | (refine bP (some 14) Try.func84 S (kE HT.out (uG ⟨ck, ⟨cx, cy, cw, ch⟩, aK, l⟩ uM.out _ _ _ _ _ (S.out.tree _ (.head _)))) ?_; clear S; intro fU S; clear a_ aW aY aX bD bH bu) | (refine iT 110 6 24 #[.slice none 0 0, .int .i64 0, .int .i64 1] 0 3 S ?_; clear S; intro iW S))
     refine bodyPost_ret (results_cell_row rfl _ _ b6 110 _ (0, 0) _ rfl (S.out.blk _ (.head _) _ rfl) Try.underlying110 rfl (by kernel_rfl)) rfl ?_
     exact ⟨rfl, S.out.below⟩
   rw [if_pos ⟨ht, h1⟩] at hn
   cases hf : fA id ⟨ck, ⟨cx, cy, cw, ch⟩, aK, l⟩ with
   | none =>
    rw [hf] at hn
    simp only [] at hn
    subst hn
    have sZ := ae.mk hf
    clear ht hn0 hpl hf
    obtain ⟨hxa, hxb⟩ := lU (a := ax) (b := 1) (by omega)
    obtain ⟨hya, hyb⟩ := lU (a := 2) (b := ax) (by omega)
    all_goals
     clear h1
     go_enter Try.func116, Try.ntmps116
     go_wp2_with (first | (refine boxS 3 _ 26 S ?_; clear S; intro b3 dJ S) | (refine boxS 6 _ 110 S ?_; clear S; intro b6 dX S; obtain ⟨a_, aW, aY, aX, bD, bH, bu⟩ := St.eQ S bG) | (refine bP (some 14) Try.func84 S (kE HT.out (uG ⟨ck, ⟨cx, cy, cw, ch⟩, aK, l⟩ uM.out _ _ _ _ _ (S.out.tree _ (.head _)))) ?_; clear S; intro fU S; clear a_ aW aY aX bD bH bu; obtain ⟨a_, aW, aY, aX, bD, bH, bu⟩ := St.eQ S bG) | (refine uA (some 28) Try.func90 S (Nq id ⟨ck, ⟨cx, cy, cw, ch⟩, aK, l⟩ sZ.out HZ.out (S.out.tree _ (.head _))) ?_; clear S; intro Ap cp op iW S iq; clear a_ aW aY aX bD bH bu) | (refine zQ 110 6 33 #[.slice none 0 0, .int .i64 0, .int .i64 6] 0 3 S ?_; clear S; intro mG S))
     refine bodyPost_ret (results_cell_row rfl _ _ b6 110 _ (0, 0) _ rfl (S.out.blk _ bG _ rfl) Try.underlying110 rfl (by kernel_rfl)) rfl ?_
     exact ⟨rfl, S.out.below⟩
   | some p =>
    rw [hf] at hn
    simp only [] at hn
    have uK := ae.mk (show p.length ≤ 1000000 by have := hpl p hf; have := HZ.out; omega)
    have sZ := ae.mk hf
    obtain ⟨x, hx, _⟩ := (Aj id _).1 _ (Nat.le_refl _) p hf
    have HX := ae.mk hx
    cases hfr : CO ax ⟨ck, ⟨cx, cy, cw, ch⟩, aK, l⟩ p with
    | some d => rw [hfr] at hn; exact absurd hn.symm hn0
    | none =>
     rw [hfr] at hn
     simp only [] at hn
     subst hn
     have HR := ae.mk (show oG (qU ax ⟨ck, ⟨cx, cy, cw, ch⟩, aK, l⟩ p) p.length = none from hfr)
     clear ht hn0 hpl hf hx hfr
     obtain ⟨hxa, hxb⟩ := lU (a := ax) (b := 1) (by omega)
     obtain ⟨hya, hyb⟩ := lU (a := 2) (b := ax) (by omega)
     all_goals
      clear h1
      go_enter Try.func116, Try.ntmps116
      go_wp2_with (first | (refine boxS 3 _ 26 S ?_; clear S; intro b3 dJ S) | (refine boxS 6 _ 110 S ?_; clear S; intro b6 dX S; obtain ⟨a_, aW, aY, aX, bD, bH, bu⟩ := St.eQ S bG) | (refine bP (some 14) Try.func84 S (kE HT.out (uG ⟨ck, ⟨cx, cy, cw, ch⟩, aK, l⟩ uM.out _ _ _ _ _ (S.out.tree _ (.head _)))) ?_; clear S; intro fU S; clear a_ aW aY aX bD bH bu; obtain ⟨a_, aW, aY, aX, bD, bH, bu⟩ := St.eQ S bG) | (refine uA (some 28) Try.func90 S (yA id ⟨ck, ⟨cx, cy, cw, ch⟩, aK, l⟩ p sZ.out HZ.out (S.out.tree _ (.head _))) ?_; clear S; intro Ap cp op iW S iq; clear a_ aW aY aX bD bH bu))
      go_loopg [9] (p.length + 1) (fun gg v9 wr => ∃ n : Nat, v9 = .int .i64 ((n : Int) - 1) ∧ ae (n ≤ p.length) ∧ n ≤ gg ∧ ae (oG (qU ax ⟨ck, ⟨cx, cy, cw, ch⟩, aK, l⟩ p) n = none) ∧ ae (St w P [((Value.slice Ap p.length cp).ownBlock, op), (some b6, .cells #[.slice none 0 0, .int .i64 0, .int .i64 0] 110 (0, 0)), (some b3, .cells #[.int .u8 ck, .int .i64 cx, .int .i64 cy, .int .i64 cw, .int .i64 ch, .int .i64 aK, .slice A l.length cc] 26 (0, 0))] [] [(.slice A l.length cc, l)] [] wr))
      case atStart => exact ⟨p.length, (by have := uK.out; congr 1; unfold wrap64; omega), ⟨Nat.le_refl _⟩, Nat.le_succ _, HR, S⟩
      case round =>
       clear S HR
       obtain ⟨n, rfl, HN, hgg, HR, S⟩ := hrel
       cases n with
       | zero =>
        go_wp2_with ((refine zQ 110 6 70 #[.slice none 0 0, .int .i64 0, .int .i64 10] 0 3 S ?_; clear S; intro dJ S))
        refine bodyPost_ret (results_cell_row rfl _ _ b6 110 _ (0, 0) _ rfl (S.out.blk _ bG _ rfl) Try.underlying110 rfl (by kernel_rfl)) rfl ?_
        exact ⟨rfl, S.out.below⟩
       | succ n =>
        have e1 : (((n + 1 : Nat) : Int) - 1) = (n : Int) := by omega
        rw [e1]
        have mD := ae.mk (show n < p.length from HN.out)
        have gz := ae.mk hgg
        have hw : wrap64 ((n : Int) - 1) = (n : Int) - 1 := by have := HN.out; have := uK.out; unfold wrap64; omega
        have HW := ae.mk hw
        have h0 : decide ((n : Int) ≥ 0) = true := decide_eq_true (Int.natCast_nonneg _)
        have wC : (0 : Int) ≤ (n : Int) := Int.natCast_nonneg _
        obtain ⟨z, qp, hi0, hi1⟩ := Cm p ⟨ck, ⟨cx, cy, cw, ch⟩, aK, l⟩ _ HX.out n mD.out
        obtain ⟨pq, hpq⟩ : ∃ pq, pq = p.take n := ⟨_, rfl⟩
        have hal : qU ax ⟨ck, ⟨cx, cy, cw, ch⟩, aK, l⟩ p n = fG ax z.f0 := by unfold qU; rw [qp]
        rw [← hpq] at qp
        have HAT := ae.mk qp
        have jy := ae.mk (And.intro hpq (Nat.le_of_lt mD.out))
        have hcut : ∀ W : World, (Instr.slice 41 (.slice Ap p.length cp) none (some (.int .i64 (n : Int))) none).run Try.prog W = .ok (.slice Ap pq.length cp) W := by
         intro W
         obtain ⟨i0, hi0, _, hsz, _⟩ := info_parts info3
         have h := F_ (P := Try.prog) 41 3 .i64 Try.underlying41 hi0 Ap p.length cp (n : Int) (Int.natCast_nonneg _) (by have := mD.out; omega) (EI iq.out S.out (.head _)).2 W
         rw [Int.toNat_natCast, show n = pq.length by rw [hpq, List.length_take]; have := mD.out; omega] at h
         rw [show n = pq.length by rw [hpq, List.length_take]; have := mD.out; omega]
         exact h
        have HI0 := ae.mk hi0
        have HI1 := ae.mk hi1
        have hr := HR.out
        rw [oG, hal] at hr
        clear hw hgg e1 hal hpq qp hi0 hi1
        cases ha : fG ax z.f0 with
        | false =>
         rw [ha, if_neg (by simp)] at hr
         replace HR := ae.mk hr
         have HA := ae.mk ha
         clear hr ha
         go_wp2
         refine ik (n := 11) (S := fun w' => St w _ _ _ _ _ w') (ds := [9]) (bA 11 0) (by kernel_rfl) rfl rfl (S.out.call (bg (Below.refl _ _))) (fun hHeld => ?_); refine ed oN.zk oN.vI (fun aj dW => ?_)
         replace S := ae.mk (S.out.call (bg (Below.refl _ _)))
         generalize wr.drew = yl at S hHeld ⊢
         refine dS 0 42 (bA 11 1) aj dW hHeld ?_ (hv := by intro w' hs_; have a_ := (hs_.at dN 0).trans rfl; have aW := (hs_.at dN 1).trans rfl; have aY := (hs_.at dN 2).trans rfl; have aX := (hs_.at dN 3).trans rfl; have bD := (hs_.at dN 4).trans rfl; have bH := (hs_.at dN 5).trans rfl; have bu := (hs_.at dN 6).trans rfl; go_simp; with_reducible rfl)
         refine au 1 43 (bA 11 3) aj ?_
         refine au 2 44 (bA 11 7) aj ?_
         refine au 3 45 (bA 11 15) aj ?_
         refine zC (σ := Option Addr × Nat × Nat) 2 (bA 11 511) (fun s_ => [(46, .tuple #[.agg #[.int .u8 z.f0, .int .i64 z.f1.f0, .int .i64 z.f1.f1, .int .i64 z.f1.f2, .int .i64 z.f1.f3, .int .i64 z.f2, .slice s_.1 z.f3.length s_.2.1], .bool true]), (41, .tuple #[.agg #[.int .u8 z.f0, .int .i64 z.f1.f0, .int .i64 z.f1.f1, .int .i64 z.f1.f2, .int .i64 z.f1.f3, .int .i64 z.f2, .slice s_.1 z.f3.length s_.2.1], .bool true]), (47, .agg #[.int .u8 z.f0, .int .i64 z.f1.f0, .int .i64 z.f1.f1, .int .i64 z.f1.f2, .int .i64 z.f1.f3, .int .i64 z.f2, .slice s_.1 z.f3.length s_.2.1]), (48, .bool true), (10, .pointer (some ⟨s_.2.2, 0, none⟩))]) (fun s_ w' => St w P [(some s_.2.2, .cells #[.int .u8 0, .int .i64 0, .int .i64 0, .int .i64 0, .int .i64 0, .int .i64 0, .slice none 0 0] 26 (0, 0)), ((Value.slice Ap p.length cp).ownBlock, op), (some b6, .cells #[.slice none 0 0, .int .i64 0, .int .i64 0] 110 (0, 0)), (some b3, .cells #[.int .u8 ck, .int .i64 cx, .int .i64 cy, .int .i64 cw, .int .i64 ch, .int .i64 aK, .slice A l.length cc] 26 (0, 0))] [] [(.slice s_.1 z.f3.length s_.2.1, z.f3), (.slice A l.length cc, l)] [] w') ?_ ?_
         rotate_left
         ·intro kM
          refine DN (i := 4) (j := 8) (Ni := some 46) (Nj := some 10) (bA 11 31) (bA 11 271) rfl rfl rfl rfl (xM aj.out (by kernel_rfl)) (by decide) (by decide) (fun K hK => ?_) (fun K hK => ?_)
          ·skip
           refine jB Try.func92 (by kernel_rfl) rfl #[.agg #[.int .u8 ck, .int .i64 cx, .int .i64 cy, .int .i64 cw, .int .i64 ch, .int .i64 aK, .slice A l.length cc], .slice Ap pq.length cp] (by rfl) rfl rfl (by (try simp only [List.map_toArray, List.map_cons, List.map_nil]); rfl) ?_
           refine (zH ⟨ck, ⟨cx, cy, cw, ch⟩, aK, l⟩ pq z HAT.out (S.out.tree _ (.head _)) (fD iq.out S.out (.head _) jy.out).1 (fD iq.out S.out (.head _) jy.out).2).mono ?_
           rintro e dX ⟨Az, cz, rfl, h1, hb⟩
           refine ⟨_, rfl, ?_⟩
           replace S := ae.mk (S.out.res h1 hb)
           clear h1 hb
           refine hK.out _ _ S.out.dG (fun hHeld => ?_)
           clear hK K
           refine eF 46 ?_
           refine au 5 41 (bA 11 63) aj ?_
           refine au 6 47 (bA 11 127) aj ?_
           refine au 7 48 (bA 11 255) aj ?_
           refine jR 8 (some 10) (bA 11 511) aj (fun K hK => ?_)
           refine jI ?hg (N := 10) ?hd (cs := #[.int .u8 0, .int .i64 0, .int .i64 0, .int .i64 0, .int .i64 0, .int .i64 0, .slice none 0 0]) (t := 26) ?hr ?_; (case hd => rfl); (case hg => rfl); (case hr => (go_simp; done))
           intro b10 hg fU hbox hb
           replace S := ae.mk (S.out.box hg hbox hb)
           clear hg hbox hb
           refine hK.out _ _ S.out.dQ.dG (fun hHeld => ?_)
           clear hK K
           refine eF 10 ?_
           exact lW (by simp only [iJ, Act.put, List.setIfInBounds_toArray, List.set_cons_zero, List.set_cons_succ] <;> rfl) (kM (Az, cz, b10) _ S.out)
          ·skip
           refine jI ?hg (N := 10) ?hd (cs := #[.int .u8 0, .int .i64 0, .int .i64 0, .int .i64 0, .int .i64 0, .int .i64 0, .slice none 0 0]) (t := 26) ?hr ?_; (case hd => rfl); (case hg => rfl); (case hr => (go_simp; done))
           intro b10 hg iW hbox hb
           replace S := ae.mk (S.out.box hg hbox hb)
           clear hg hbox hb
           refine hK.out _ _ S.out.dQ (fun hHeld => ?_)
           clear hK K
           refine eF 10 ?_
           refine jR 4 (some 46) (bA 11 287) aj (fun K hK => ?_)
           refine jB Try.func92 (by kernel_rfl) rfl #[.agg #[.int .u8 ck, .int .i64 cx, .int .i64 cy, .int .i64 cw, .int .i64 ch, .int .i64 aK, .slice A l.length cc], .slice Ap pq.length cp] (by rfl) rfl rfl (by (try simp only [List.map_toArray, List.map_cons, List.map_nil]); rfl) ?_
           refine (zH ⟨ck, ⟨cx, cy, cw, ch⟩, aK, l⟩ pq z HAT.out (S.out.tree _ (.head _)) (fD iq.out S.out bG jy.out).1 (fD iq.out S.out bG jy.out).2).mono ?_
           rintro e mG ⟨Az, cz, rfl, h1, hb⟩
           refine ⟨_, rfl, ?_⟩
           replace S := ae.mk (S.out.res h1 hb)
           clear h1 hb
           refine hK.out _ _ S.out.dQ.dG (fun hHeld => ?_)
           clear hK K
           refine eF 46 ?_
           refine au 5 41 (bA 11 319) aj ?_
           refine au 6 47 (bA 11 383) aj ?_
           refine au 7 48 (bA 11 511) aj ?_
           exact lW (by simp only [iJ, Act.put, List.setIfInBounds_toArray, List.set_cons_zero, List.set_cons_succ] <;> rfl) (kM (Az, cz, b10) _ S.out)
         rintro ⟨Az, cz, b10⟩ O4 S1
         simp only [iJ, Act.put, List.setIfInBounds_toArray, List.set_cons_zero, List.set_cons_succ]
         replace S := ae.mk S1
         clear S1 hHeld
         have hHeld := S.out.dQ.dG
         refine oH 9 none (bA 11 1023) aj (fun K hK => ?_)
         refine nU 0 rfl 26 (.tmp 10) (.tmp 47) rfl #[.int .u8 z.f0, .int .i64 z.f1.f0, .int .i64 z.f1.f1, .int .i64 z.f1.f2, .int .i64 z.f1.f3, .int .i64 z.f2, .slice Az z.f3.length cz] (j := 0) (u := .agg #[.int .u8 z.f0, .int .i64 z.f1.f0, .int .i64 z.f1.f1, .int .i64 z.f1.f2, .int .i64 z.f1.f3, .int .i64 z.f2, .slice Az z.f3.length cz]) (bJ := [.int .u8 z.f0, .int .i64 z.f1.f0, .int .i64 z.f1.f1, .int .i64 z.f1.f2, .int .i64 z.f1.f3, .int .i64 z.f2, .slice Az z.f3.length cz]) S.out (by rfl) rfl rfl rfl rfl (by kernel_rfl) (by simp [Value.oneCell']) (by simp) rfl ?_
         intro zL S1
         simp only [List.set_cons_zero, List.set_cons_succ] at S1
         replace S := ae.mk S1
         clear S1
         refine hK.out _ _ ?_
         clear hK K
         refine au 10 11 (bA 11 2047) aj ?_
         refine ji (fP aj.out (by kernel_rfl)) ?_
         clear hHeld
         obtain ⟨yJ, yK, yL, yM, yN, yO, rP⟩ := St.eQ S (.head _)
         go_wp2_with ((refine bP (some 51) Try.func88 S (BL (c := z) HA.out (S.out.tree _ (.head _))) ?_; clear S; intro zM S; clear yJ yK yL yM yN yO rP))
         have hw := HW.out
         go_wp2
         go_roundg n
         case measure => exact Nat.lt_of_lt_of_le (Nat.lt_succ_self _) gz.out
         case rel => exact ⟨n, (by rw [hw]), ⟨by have := HN.out; omega⟩, Nat.le_refl _, HR, ⟨S.out.dG.dQ.uS.uS.uS⟩⟩
        | true =>
         rw [ha, if_pos rfl] at hr
         cases hr
 ·intro p d z q ht h1 hf hfr hF
  have uK := ae.mk (show p.length ≤ 1000000 by have := hpl p hf; have := HZ.out; omega)
  have sZ := ae.mk hf
  obtain ⟨x, hx, _⟩ := (Aj id _).1 _ (Nat.le_refl _) p hf
  have HX := ae.mk hx
  have HT := ae.mk ht
  have yf := ae.mk hF
  have IX := ae.mk (show z.f3.length ≤ 1000000 by have h2 := GY _ _ _ hF.at'; have h3 := df z; have h4 := jF z.f3; have := HZ.out; omega)
  have HR := ae.mk (show oG (qU ax ⟨ck, ⟨cx, cy, cw, ch⟩, aK, l⟩ p) p.length = some d from hfr)
  clear ht hpl hf hx hfr hF
  obtain ⟨hxa, hxb⟩ := lU (a := ax) (b := 1) (by omega)
  obtain ⟨hya, hyb⟩ := lU (a := 2) (b := ax) (by omega)
  all_goals
   clear h1
   go_enter Try.func116, Try.ntmps116
   go_wp2_with (first | (refine boxS 3 _ 26 S ?_; clear S; intro b3 dJ S) | (refine boxS 6 _ 110 S ?_; clear S; intro b6 dX S; obtain ⟨a_, aW, aY, aX, bD, bH, bu⟩ := St.eQ S bG) | (refine bP (some 14) Try.func84 S (kE HT.out (uG ⟨ck, ⟨cx, cy, cw, ch⟩, aK, l⟩ uM.out _ _ _ _ _ (S.out.tree _ (.head _)))) ?_; clear S; intro fU S; clear a_ aW aY aX bD bH bu; obtain ⟨a_, aW, aY, aX, bD, bH, bu⟩ := St.eQ S bG) | (refine uA (some 28) Try.func90 S (yA id ⟨ck, ⟨cx, cy, cw, ch⟩, aK, l⟩ p sZ.out HZ.out (S.out.tree _ (.head _))) ?_; clear S; intro Ap cp op iW S iq; clear a_ aW aY aX bD bH bu))
   go_loopg [9] (p.length + 1) (fun gg v9 wr => ∃ n : Nat, v9 = .int .i64 ((n : Int) - 1) ∧ ae (n ≤ p.length) ∧ n ≤ gg ∧ ae (oG (qU ax ⟨ck, ⟨cx, cy, cw, ch⟩, aK, l⟩ p) n = some d) ∧ ae (St w P [((Value.slice Ap p.length cp).ownBlock, op), (some b6, .cells #[.slice none 0 0, .int .i64 0, .int .i64 0] 110 (0, 0)), (some b3, .cells #[.int .u8 ck, .int .i64 cx, .int .i64 cy, .int .i64 cw, .int .i64 ch, .int .i64 aK, .slice A l.length cc] 26 (0, 0))] [] [(.slice A l.length cc, l)] [] wr))
   case atStart => exact ⟨p.length, (by have := uK.out; congr 1; unfold wrap64; omega), ⟨Nat.le_refl _⟩, Nat.le_succ _, HR, S⟩
   case round =>
    clear S HR
    obtain ⟨n, rfl, HN, hgg, HR, S⟩ := hrel
    cases n with
    | zero =>
     have h := HR.out
     cases h
    | succ n =>
     have e1 : (((n + 1 : Nat) : Int) - 1) = (n : Int) := by omega
     rw [e1]
     have mD := ae.mk (show n < p.length from HN.out)
     have gz := ae.mk hgg
     have hw : wrap64 ((n : Int) - 1) = (n : Int) - 1 := by have := HN.out; have := uK.out; unfold wrap64; omega
     have HW := ae.mk hw
     have h0 : decide ((n : Int) ≥ 0) = true := decide_eq_true (Int.natCast_nonneg _)
     have wC : (0 : Int) ≤ (n : Int) := Int.natCast_nonneg _
     obtain ⟨z, qp, hi0, hi1⟩ := Cm p ⟨ck, ⟨cx, cy, cw, ch⟩, aK, l⟩ _ HX.out n mD.out
     obtain ⟨pq, hpq⟩ : ∃ pq, pq = p.take n := ⟨_, rfl⟩
     have hal : qU ax ⟨ck, ⟨cx, cy, cw, ch⟩, aK, l⟩ p n = fG ax z.f0 := by unfold qU; rw [qp]
     rw [← hpq] at qp
     have HAT := ae.mk qp
     have jy := ae.mk (And.intro hpq (Nat.le_of_lt mD.out))
     have hcut : ∀ W : World, (Instr.slice 41 (.slice Ap p.length cp) none (some (.int .i64 (n : Int))) none).run Try.prog W = .ok (.slice Ap pq.length cp) W := by
      intro W
      obtain ⟨i0, hi0, _, hsz, _⟩ := info_parts info3
      have h := F_ (P := Try.prog) 41 3 .i64 Try.underlying41 hi0 Ap p.length cp (n : Int) (Int.natCast_nonneg _) (by have := mD.out; omega) (EI iq.out S.out (.head _)).2 W
      rw [Int.toNat_natCast, show n = pq.length by rw [hpq, List.length_take]; have := mD.out; omega] at h
      rw [show n = pq.length by rw [hpq, List.length_take]; have := mD.out; omega]
      exact h
     have HI0 := ae.mk hi0
     have HI1 := ae.mk hi1
     have hr := HR.out
     rw [oG, hal] at hr
     clear hw hgg e1 hal hpq qp hi0 hi1
     cases ha : fG ax z.f0 with
     | false =>
      rw [ha, if_neg (by simp)] at hr
      replace HR := ae.mk hr
      have HA := ae.mk ha
      clear hr ha
      go_wp2
      refine ik (n := 11) (S := fun w' => St w _ _ _ _ _ w') (ds := [9]) (bA 11 0) (by kernel_rfl) rfl rfl (S.out.call (bg (Below.refl _ _))) (fun hHeld => ?_); refine ed oN.zk oN.vI (fun aj dW => ?_)
      replace S := ae.mk (S.out.call (bg (Below.refl _ _)))
      generalize wr.drew = yl at S hHeld ⊢
      refine dS 0 42 (bA 11 1) aj dW hHeld ?_ (hv := by intro w' hs_; have a_ := (hs_.at dN 0).trans rfl; have aW := (hs_.at dN 1).trans rfl; have aY := (hs_.at dN 2).trans rfl; have aX := (hs_.at dN 3).trans rfl; have bD := (hs_.at dN 4).trans rfl; have bH := (hs_.at dN 5).trans rfl; have bu := (hs_.at dN 6).trans rfl; go_simp; with_reducible rfl)
      refine au 1 43 (bA 11 3) aj ?_
      refine au 2 44 (bA 11 7) aj ?_
      refine au 3 45 (bA 11 15) aj ?_
      refine zC (σ := Option Addr × Nat × Nat) 2 (bA 11 511) (fun s_ => [(46, .tuple #[.agg #[.int .u8 z.f0, .int .i64 z.f1.f0, .int .i64 z.f1.f1, .int .i64 z.f1.f2, .int .i64 z.f1.f3, .int .i64 z.f2, .slice s_.1 z.f3.length s_.2.1], .bool true]), (41, .tuple #[.agg #[.int .u8 z.f0, .int .i64 z.f1.f0, .int .i64 z.f1.f1, .int .i64 z.f1.f2, .int .i64 z.f1.f3, .int .i64 z.f2, .slice s_.1 z.f3.length s_.2.1], .bool true]), (47, .agg #[.int .u8 z.f0, .int .i64 z.f1.f0, .int .i64 z.f1.f1, .int .i64 z.f1.f2, .int .i64 z.f1.f3, .int .i64 z.f2, .slice s_.1 z.f3.length s_.2.1]), (48, .bool true), (10, .pointer (some ⟨s_.2.2, 0, none⟩))]) (fun s_ w' => St w P [(some s_.2.2, .cells #[.int .u8 0, .int .i64 0, .int .i64 0, .int .i64 0, .int .i64 0, .int .i64 0, .slice none 0 0] 26 (0, 0)), ((Value.slice Ap p.length cp).ownBlock, op), (some b6, .cells #[.slice none 0 0, .int .i64 0, .int .i64 0] 110 (0, 0)), (some b3, .cells #[.int .u8 ck, .int .i64 cx, .int .i64 cy, .int .i64 cw, .int .i64 ch, .int .i64 aK, .slice A l.length cc] 26 (0, 0))] [] [(.slice s_.1 z.f3.length s_.2.1, z.f3), (.slice A l.length cc, l)] [] w') ?_ ?_
      rotate_left
      ·intro kM
       refine DN (i := 4) (j := 8) (Ni := some 46) (Nj := some 10) (bA 11 31) (bA 11 271) rfl rfl rfl rfl (xM aj.out (by kernel_rfl)) (by decide) (by decide) (fun K hK => ?_) (fun K hK => ?_)
       ·skip
        refine jB Try.func92 (by kernel_rfl) rfl #[.agg #[.int .u8 ck, .int .i64 cx, .int .i64 cy, .int .i64 cw, .int .i64 ch, .int .i64 aK, .slice A l.length cc], .slice Ap pq.length cp] (by rfl) rfl rfl (by (try simp only [List.map_toArray, List.map_cons, List.map_nil]); rfl) ?_
        refine (zH ⟨ck, ⟨cx, cy, cw, ch⟩, aK, l⟩ pq z HAT.out (S.out.tree _ (.head _)) (fD iq.out S.out (.head _) jy.out).1 (fD iq.out S.out (.head _) jy.out).2).mono ?_
        rintro e dX ⟨Az, cz, rfl, h1, hb⟩
        refine ⟨_, rfl, ?_⟩
        replace S := ae.mk (S.out.res h1 hb)
        clear h1 hb
        refine hK.out _ _ S.out.dG (fun hHeld => ?_)
        clear hK K
        refine eF 46 ?_
        refine au 5 41 (bA 11 63) aj ?_
        refine au 6 47 (bA 11 127) aj ?_
        refine au 7 48 (bA 11 255) aj ?_
        refine jR 8 (some 10) (bA 11 511) aj (fun K hK => ?_)
        refine jI ?hg (N := 10) ?hd (cs := #[.int .u8 0, .int .i64 0, .int .i64 0, .int .i64 0, .int .i64 0, .int .i64 0, .slice none 0 0]) (t := 26) ?hr ?_; (case hd => rfl); (case hg => rfl); (case hr => (go_simp; done))
        intro b10 hg fU hbox hb
        replace S := ae.mk (S.out.box hg hbox hb)
        clear hg hbox hb
        refine hK.out _ _ S.out.dQ.dG (fun hHeld => ?_)
        clear hK K
        refine eF 10 ?_
        exact lW (by simp only [iJ, Act.put, List.setIfInBounds_toArray, List.set_cons_zero, List.set_cons_succ] <;> rfl) (kM (Az, cz, b10) _ S.out)
       ·skip
        refine jI ?hg (N := 10) ?hd (cs := #[.int .u8 0, .int .i64 0, .int .i64 0, .int .i64 0, .int .i64 0, .int .i64 0, .slice none 0 0]) (t := 26) ?hr ?_; (case hd => rfl); (case hg => rfl); (case hr => (go_simp; done))
        intro b10 hg iW hbox hb
        replace S := ae.mk (S.out.box hg hbox hb)
        clear hg hbox hb
        refine hK.out _ _ S.out.dQ (fun hHeld => ?_)
        clear hK K
        refine eF 10 ?_
        refine jR 4 (some 46) (bA 11 287) aj (fun K hK => ?_)
        refine jB Try.func92 (by kernel_rfl) rfl #[.agg #[.int .u8 ck, .int .i64 cx, .int .i64 cy, .int .i64 cw, .int .i64 ch, .int .i64 aK, .slice A l.length cc], .slice Ap pq.length cp] (by rfl) rfl rfl (by (try simp only [List.map_toArray, List.map_cons, List.map_nil]); rfl) ?_
        refine (zH ⟨ck, ⟨cx, cy, cw, ch⟩, aK, l⟩ pq z HAT.out (S.out.tree _ (.head _)) (fD iq.out S.out bG jy.out).1 (fD iq.out S.out bG jy.out).2).mono ?_
        rintro e mG ⟨Az, cz, rfl, h1, hb⟩
        refine ⟨_, rfl, ?_⟩
        replace S := ae.mk (S.out.res h1 hb)
        clear h1 hb
        refine hK.out _ _ S.out.dQ.dG (fun hHeld => ?_)
        clear hK K
        refine eF 46 ?_
        refine au 5 41 (bA 11 319) aj ?_
        refine au 6 47 (bA 11 383) aj ?_
        refine au 7 48 (bA 11 511) aj ?_
        exact lW (by simp only [iJ, Act.put, List.setIfInBounds_toArray, List.set_cons_zero, List.set_cons_succ] <;> rfl) (kM (Az, cz, b10) _ S.out)
      rintro ⟨Az, cz, b10⟩ O4 S1
      simp only [iJ, Act.put, List.setIfInBounds_toArray, List.set_cons_zero, List.set_cons_succ]
      replace S := ae.mk S1
      clear S1 hHeld
      have hHeld := S.out.dQ.dG
      refine oH 9 none (bA 11 1023) aj (fun K hK => ?_)
      refine nU 0 rfl 26 (.tmp 10) (.tmp 47) rfl #[.int .u8 z.f0, .int .i64 z.f1.f0, .int .i64 z.f1.f1, .int .i64 z.f1.f2, .int .i64 z.f1.f3, .int .i64 z.f2, .slice Az z.f3.length cz] (j := 0) (u := .agg #[.int .u8 z.f0, .int .i64 z.f1.f0, .int .i64 z.f1.f1, .int .i64 z.f1.f2, .int .i64 z.f1.f3, .int .i64 z.f2, .slice Az z.f3.length cz]) (bJ := [.int .u8 z.f0, .int .i64 z.f1.f0, .int .i64 z.f1.f1, .int .i64 z.f1.f2, .int .i64 z.f1.f3, .int .i64 z.f2, .slice Az z.f3.length cz]) S.out (by rfl) rfl rfl rfl rfl (by kernel_rfl) (by simp [Value.oneCell']) (by simp) rfl ?_
      intro zL S1
      simp only [List.set_cons_zero, List.set_cons_succ] at S1
      replace S := ae.mk S1
      clear S1
      refine hK.out _ _ ?_
      clear hK K
      refine au 10 11 (bA 11 2047) aj ?_
      refine ji (fP aj.out (by kernel_rfl)) ?_
      clear hHeld
      obtain ⟨yJ, yK, yL, yM, yN, yO, rP⟩ := St.eQ S (.head _)
      go_wp2_with ((refine bP (some 51) Try.func88 S (BL (c := z) HA.out (S.out.tree _ (.head _))) ?_; clear S; intro zM S; clear yJ yK yL yM yN yO rP))
      have hw := HW.out
      go_wp2
      go_roundg n
      case measure => exact Nat.lt_of_lt_of_le (Nat.lt_succ_self _) gz.out
      case rel => exact ⟨n, (by rw [hw]), ⟨by have := HN.out; omega⟩, Nat.le_refl _, HR, ⟨S.out.dG.dQ.uS.uS.uS⟩⟩
     | true =>
      rw [ha, if_pos rfl] at hr
      injection hr with hr
      subst hr
      have hzz := HAT.out
      rw [jy.out.1, yf.out.at'] at hzz
      injection hzz with hzz
      subst hzz
      have HA := ae.mk ha
      clear ha
      obtain ⟨yh, ek, _⟩ := Kd.iy (EI iq.out S.out (.head _)).1 (n : Int) (Int.natCast_nonneg _) (by have := mD.out; omega)
      subst ek
      have Pq := ae.mk (show (n : Int) < (p.length : Int) by have := mD.out; omega)
      have hnn : n < p.length := mD.out
      have hw2 : wrap64 ((z.f3.length : Int) - 1) = (z.f3.length : Int) - 1 := by have := yf.out.len; have := IX.out; unfold wrap64; omega
      have HW3 := ae.mk (show wrap64 (rd p (n : Int) - 1) = rd p (n : Int) - 1 by have := HI0.out; have := HI1.out; have := IX.out; unfold wrap64; omega)
      by_cases hq : rd p (n : Int) = (z.f3.length : Int) - 1
      case pos =>
       obtain ⟨hqa, hqb, hqd⟩ := yQ (a := rd p (n : Int)) (b := (z.f3.length : Int) - 1) (by omega)
       have HQV := ae.mk (show rd p (n : Int) - 1 = (q : Int) by have h := yf.out.hq; have := HI1.out; have := yf.out.len; rw [h]; unfold mn; split <;> omega)
       clear hq
       go_wp2
       refine ik (n := 11) (S := fun w' => St w _ _ _ _ _ w') (ds := [9]) (bA 11 0) (by kernel_rfl) rfl rfl (S.out.call (bg (Below.refl _ _))) (fun hHeld => ?_); refine ed oN.zk oN.vI (fun aj dW => ?_)
       replace S := ae.mk (S.out.call (bg (Below.refl _ _)))
       generalize wr.drew = yl at S hHeld ⊢
       refine dS 0 42 (bA 11 1) aj dW hHeld ?_ (hv := by intro w' hs_; have a_ := (hs_.at dN 0).trans rfl; have aW := (hs_.at dN 1).trans rfl; have aY := (hs_.at dN 2).trans rfl; have aX := (hs_.at dN 3).trans rfl; have bD := (hs_.at dN 4).trans rfl; have bH := (hs_.at dN 5).trans rfl; have bu := (hs_.at dN 6).trans rfl; go_simp; with_reducible rfl)
       refine au 1 43 (bA 11 3) aj ?_
       refine au 2 44 (bA 11 7) aj ?_
       refine au 3 45 (bA 11 15) aj ?_
       refine zC (σ := Option Addr × Nat × Nat) 2 (bA 11 511) (fun s_ => [(46, .tuple #[.agg #[.int .u8 z.f0, .int .i64 z.f1.f0, .int .i64 z.f1.f1, .int .i64 z.f1.f2, .int .i64 z.f1.f3, .int .i64 z.f2, .slice s_.1 z.f3.length s_.2.1], .bool true]), (41, .tuple #[.agg #[.int .u8 z.f0, .int .i64 z.f1.f0, .int .i64 z.f1.f1, .int .i64 z.f1.f2, .int .i64 z.f1.f3, .int .i64 z.f2, .slice s_.1 z.f3.length s_.2.1], .bool true]), (47, .agg #[.int .u8 z.f0, .int .i64 z.f1.f0, .int .i64 z.f1.f1, .int .i64 z.f1.f2, .int .i64 z.f1.f3, .int .i64 z.f2, .slice s_.1 z.f3.length s_.2.1]), (48, .bool true), (10, .pointer (some ⟨s_.2.2, 0, none⟩))]) (fun s_ w' => St w P [(some s_.2.2, .cells #[.int .u8 0, .int .i64 0, .int .i64 0, .int .i64 0, .int .i64 0, .int .i64 0, .slice none 0 0] 26 (0, 0)), ((Value.slice (some yh) p.length cp).ownBlock, op), (some b6, .cells #[.slice none 0 0, .int .i64 0, .int .i64 0] 110 (0, 0)), (some b3, .cells #[.int .u8 ck, .int .i64 cx, .int .i64 cy, .int .i64 cw, .int .i64 ch, .int .i64 aK, .slice A l.length cc] 26 (0, 0))] [] [(.slice s_.1 z.f3.length s_.2.1, z.f3), (.slice A l.length cc, l)] [] w') ?_ ?_
       rotate_left
       ·intro kM
        refine DN (i := 4) (j := 8) (Ni := some 46) (Nj := some 10) (bA 11 31) (bA 11 271) rfl rfl rfl rfl (xM aj.out (by kernel_rfl)) (by decide) (by decide) (fun K hK => ?_) (fun K hK => ?_)
        ·skip
         refine jB Try.func92 (by kernel_rfl) rfl #[.agg #[.int .u8 ck, .int .i64 cx, .int .i64 cy, .int .i64 cw, .int .i64 ch, .int .i64 aK, .slice A l.length cc], .slice (some yh) pq.length cp] (by rfl) rfl rfl (by (try simp only [List.map_toArray, List.map_cons, List.map_nil]); rfl) ?_
         refine (zH ⟨ck, ⟨cx, cy, cw, ch⟩, aK, l⟩ pq z HAT.out (S.out.tree _ (.head _)) (fD iq.out S.out (.head _) jy.out).1 (fD iq.out S.out (.head _) jy.out).2).mono ?_
         rintro e dX ⟨Az, cz, rfl, h1, hb⟩
         refine ⟨_, rfl, ?_⟩
         replace S := ae.mk (S.out.res h1 hb)
         clear h1 hb
         refine hK.out _ _ S.out.dG (fun hHeld => ?_)
         clear hK K
         refine eF 46 ?_
         refine au 5 41 (bA 11 63) aj ?_
         refine au 6 47 (bA 11 127) aj ?_
         refine au 7 48 (bA 11 255) aj ?_
         refine jR 8 (some 10) (bA 11 511) aj (fun K hK => ?_)
         refine jI ?hg (N := 10) ?hd (cs := #[.int .u8 0, .int .i64 0, .int .i64 0, .int .i64 0, .int .i64 0, .int .i64 0, .slice none 0 0]) (t := 26) ?hr ?_; (case hd => rfl); (case hg => rfl); (case hr => (go_simp; done))
         intro b10 hg fU hbox hb
         replace S := ae.mk (S.out.box hg hbox hb)
         clear hg hbox hb
         refine hK.out _ _ S.out.dQ.dG (fun hHeld => ?_)
         clear hK K
         refine eF 10 ?_
         exact lW (by simp only [iJ, Act.put, List.setIfInBounds_toArray, List.set_cons_zero, List.set_cons_succ] <;> rfl) (kM (Az, cz, b10) _ S.out)
        ·skip
         refine jI ?hg (N := 10) ?hd (cs := #[.int .u8 0, .int .i64 0, .int .i64 0, .int .i64 0, .int .i64 0, .int .i64 0, .slice none 0 0]) (t := 26) ?hr ?_; (case hd => rfl); (case hg => rfl); (case hr => (go_simp; done))
         intro b10 hg iW hbox hb
         replace S := ae.mk (S.out.box hg hbox hb)
         clear hg hbox hb
         refine hK.out _ _ S.out.dQ (fun hHeld => ?_)
         clear hK K
         refine eF 10 ?_
         refine jR 4 (some 46) (bA 11 287) aj (fun K hK => ?_)
         refine jB Try.func92 (by kernel_rfl) rfl #[.agg #[.int .u8 ck, .int .i64 cx, .int .i64 cy, .int .i64 cw, .int .i64 ch, .int .i64 aK, .slice A l.length cc], .slice (some yh) pq.length cp] (by rfl) rfl rfl (by (try simp only [List.map_toArray, List.map_cons, List.map_nil]); rfl) ?_
         refine (zH ⟨ck, ⟨cx, cy, cw, ch⟩, aK, l⟩ pq z HAT.out (S.out.tree _ (.head _)) (fD iq.out S.out bG jy.out).1 (fD iq.out S.out bG jy.out).2).mono ?_
         rintro e mG ⟨Az, cz, rfl, h1, hb⟩
         refine ⟨_, rfl, ?_⟩
         replace S := ae.mk (S.out.res h1 hb)
         clear h1 hb
         refine hK.out _ _ S.out.dQ.dG (fun hHeld => ?_)
         clear hK K
         refine eF 46 ?_
         refine au 5 41 (bA 11 319) aj ?_
         refine au 6 47 (bA 11 383) aj ?_
         refine au 7 48 (bA 11 511) aj ?_
         exact lW (by simp only [iJ, Act.put, List.setIfInBounds_toArray, List.set_cons_zero, List.set_cons_succ] <;> rfl) (kM (Az, cz, b10) _ S.out)
       rintro ⟨Az, cz, b10⟩ O4 S1
       simp only [iJ, Act.put, List.setIfInBounds_toArray, List.set_cons_zero, List.set_cons_succ]
       replace S := ae.mk S1
       clear S1 hHeld
       have hHeld := S.out.dQ.dG
       refine oH 9 none (bA 11 1023) aj (fun K hK => ?_)
       refine nU 0 rfl 26 (.tmp 10) (.tmp 47) rfl #[.int .u8 z.f0, .int .i64 z.f1.f0, .int .i64 z.f1.f1, .int .i64 z.f1.f2, .int .i64 z.f1.f3, .int .i64 z.f2, .slice Az z.f3.length cz] (j := 0) (u := .agg #[.int .u8 z.f0, .int .i64 z.f1.f0, .int .i64 z.f1.f1, .int .i64 z.f1.f2, .int .i64 z.f1.f3, .int .i64 z.f2, .slice Az z.f3.length cz]) (bJ := [.int .u8 z.f0, .int .i64 z.f1.f0, .int .i64 z.f1.f1, .int .i64 z.f1.f2, .int .i64 z.f1.f3, .int .i64 z.f2, .slice Az z.f3.length cz]) S.out (by rfl) rfl rfl rfl rfl (by kernel_rfl) (by simp [Value.oneCell']) (by simp) rfl ?_
       intro zL S1
       simp only [List.set_cons_zero, List.set_cons_succ] at S1
       replace S := ae.mk S1
       clear S1
       refine hK.out _ _ ?_
       clear hK K
       refine au 10 11 (bA 11 2047) aj ?_
       refine ji (fP aj.out (by kernel_rfl)) ?_
       clear hHeld
       obtain ⟨yJ, yK, yL, yM, yN, yO, rP⟩ := St.eQ S (.head _)
       go_wp2_with (first | (refine bP (some 51) Try.func88 S (BL (c := z) HA.out (S.out.tree _ (.head _))) ?_; clear S; intro zM S; clear yJ yK yL yM yN yO rP; have xp := AZ iq.out (S.out.blk _ bG) n Pq.out; have rP := (S.out.at (.head _) 6).trans rfl) | (refine Qs 110 6 69 #[.slice (some yh) pq.length cp, .int .i64 (wrap64 ((rd p (n : Int)) - 1)), .int .i64 0] 0 3 S ?_; clear S; intro O3 S; clear xp rP))
       refine bodyPost_ret (results_cell_row rfl _ _ b6 110 _ (0, 0) _ rfl (S.out.blk _ dN _ rfl) Try.underlying110 rfl (by kernel_rfl)) rfl ?_
       exact ⟨_, _, _, (by rw [jy.out.1, ← HQV.out]; (try rw [HW3.out])), iq.out, (fun g hg => ⟨(S.out.new g (mem_keys bG hg)).1, S.out.blk _ bG g hg⟩), S.out.below⟩
      case neg =>
       obtain ⟨hqa, hqb, hqd⟩ := eqF (a := rd p (n : Int)) (b := (z.f3.length : Int) - 1) (by omega)
       have HQV := ae.mk (show rd p (n : Int) = (q : Int) by have h := yf.out.hq; have := HI1.out; have := yf.out.len; rw [h]; unfold mn; split <;> omega)
       clear hq
       go_wp2
       refine ik (n := 11) (S := fun w' => St w _ _ _ _ _ w') (ds := [9]) (bA 11 0) (by kernel_rfl) rfl rfl (S.out.call (bg (Below.refl _ _))) (fun hHeld => ?_); refine ed oN.zk oN.vI (fun aj dW => ?_)
       replace S := ae.mk (S.out.call (bg (Below.refl _ _)))
       generalize wr.drew = yl at S hHeld ⊢
       refine dS 0 42 (bA 11 1) aj dW hHeld ?_ (hv := by intro w' hs_; have a_ := (hs_.at dN 0).trans rfl; have aW := (hs_.at dN 1).trans rfl; have aY := (hs_.at dN 2).trans rfl; have aX := (hs_.at dN 3).trans rfl; have bD := (hs_.at dN 4).trans rfl; have bH := (hs_.at dN 5).trans rfl; have bu := (hs_.at dN 6).trans rfl; go_simp; with_reducible rfl)
       refine au 1 43 (bA 11 3) aj ?_
       refine au 2 44 (bA 11 7) aj ?_
       refine au 3 45 (bA 11 15) aj ?_
       refine zC (σ := Option Addr × Nat × Nat) 2 (bA 11 511) (fun s_ => [(46, .tuple #[.agg #[.int .u8 z.f0, .int .i64 z.f1.f0, .int .i64 z.f1.f1, .int .i64 z.f1.f2, .int .i64 z.f1.f3, .int .i64 z.f2, .slice s_.1 z.f3.length s_.2.1], .bool true]), (41, .tuple #[.agg #[.int .u8 z.f0, .int .i64 z.f1.f0, .int .i64 z.f1.f1, .int .i64 z.f1.f2, .int .i64 z.f1.f3, .int .i64 z.f2, .slice s_.1 z.f3.length s_.2.1], .bool true]), (47, .agg #[.int .u8 z.f0, .int .i64 z.f1.f0, .int .i64 z.f1.f1, .int .i64 z.f1.f2, .int .i64 z.f1.f3, .int .i64 z.f2, .slice s_.1 z.f3.length s_.2.1]), (48, .bool true), (10, .pointer (some ⟨s_.2.2, 0, none⟩))]) (fun s_ w' => St w P [(some s_.2.2, .cells #[.int .u8 0, .int .i64 0, .int .i64 0, .int .i64 0, .int .i64 0, .int .i64 0, .slice none 0 0] 26 (0, 0)), ((Value.slice (some yh) p.length cp).ownBlock, op), (some b6, .cells #[.slice none 0 0, .int .i64 0, .int .i64 0] 110 (0, 0)), (some b3, .cells #[.int .u8 ck, .int .i64 cx, .int .i64 cy, .int .i64 cw, .int .i64 ch, .int .i64 aK, .slice A l.length cc] 26 (0, 0))] [] [(.slice s_.1 z.f3.length s_.2.1, z.f3), (.slice A l.length cc, l)] [] w') ?_ ?_
       rotate_left
       ·intro kM
        refine DN (i := 4) (j := 8) (Ni := some 46) (Nj := some 10) (bA 11 31) (bA 11 271) rfl rfl rfl rfl (xM aj.out (by kernel_rfl)) (by decide) (by decide) (fun K hK => ?_) (fun K hK => ?_)
        ·skip
         refine jB Try.func92 (by kernel_rfl) rfl #[.agg #[.int .u8 ck, .int .i64 cx, .int .i64 cy, .int .i64 cw, .int .i64 ch, .int .i64 aK, .slice A l.length cc], .slice (some yh) pq.length cp] (by rfl) rfl rfl (by (try simp only [List.map_toArray, List.map_cons, List.map_nil]); rfl) ?_
         refine (zH ⟨ck, ⟨cx, cy, cw, ch⟩, aK, l⟩ pq z HAT.out (S.out.tree _ (.head _)) (fD iq.out S.out (.head _) jy.out).1 (fD iq.out S.out (.head _) jy.out).2).mono ?_
         rintro e dX ⟨Az, cz, rfl, h1, hb⟩
         refine ⟨_, rfl, ?_⟩
         replace S := ae.mk (S.out.res h1 hb)
         clear h1 hb
         refine hK.out _ _ S.out.dG (fun hHeld => ?_)
         clear hK K
         refine eF 46 ?_
         refine au 5 41 (bA 11 63) aj ?_
         refine au 6 47 (bA 11 127) aj ?_
         refine au 7 48 (bA 11 255) aj ?_
         refine jR 8 (some 10) (bA 11 511) aj (fun K hK => ?_)
         refine jI ?hg (N := 10) ?hd (cs := #[.int .u8 0, .int .i64 0, .int .i64 0, .int .i64 0, .int .i64 0, .int .i64 0, .slice none 0 0]) (t := 26) ?hr ?_; (case hd => rfl); (case hg => rfl); (case hr => (go_simp; done))
         intro b10 hg fU hbox hb
         replace S := ae.mk (S.out.box hg hbox hb)
         clear hg hbox hb
         refine hK.out _ _ S.out.dQ.dG (fun hHeld => ?_)
         clear hK K
         refine eF 10 ?_
         exact lW (by simp only [iJ, Act.put, List.setIfInBounds_toArray, List.set_cons_zero, List.set_cons_succ] <;> rfl) (kM (Az, cz, b10) _ S.out)
        ·skip
         refine jI ?hg (N := 10) ?hd (cs := #[.int .u8 0, .int .i64 0, .int .i64 0, .int .i64 0, .int .i64 0, .int .i64 0, .slice none 0 0]) (t := 26) ?hr ?_; (case hd => rfl); (case hg => rfl); (case hr => (go_simp; done))
         intro b10 hg iW hbox hb
         replace S := ae.mk (S.out.box hg hbox hb)
         clear hg hbox hb
         refine hK.out _ _ S.out.dQ (fun hHeld => ?_)
         clear hK K
         refine eF 10 ?_
         refine jR 4 (some 46) (bA 11 287) aj (fun K hK => ?_)
         refine jB Try.func92 (by kernel_rfl) rfl #[.agg #[.int .u8 ck, .int .i64 cx, .int .i64 cy, .int .i64 cw, .int .i64 ch, .int .i64 aK, .slice A l.length cc], .slice (some yh) pq.length cp] (by rfl) rfl rfl (by (try simp only [List.map_toArray, List.map_cons, List.map_nil]); rfl) ?_
         refine (zH ⟨ck, ⟨cx, cy, cw, ch⟩, aK, l⟩ pq z HAT.out (S.out.tree _ (.head _)) (fD iq.out S.out bG jy.out).1 (fD iq.out S.out bG jy.out).2).mono ?_
         rintro e mG ⟨Az, cz, rfl, h1, hb⟩
         refine ⟨_, rfl, ?_⟩
         replace S := ae.mk (S.out.res h1 hb)
         clear h1 hb
         refine hK.out _ _ S.out.dQ.dG (fun hHeld => ?_)
         clear hK K
         refine eF 46 ?_
         refine au 5 41 (bA 11 319) aj ?_
         refine au 6 47 (bA 11 383) aj ?_
         refine au 7 48 (bA 11 511) aj ?_
         exact lW (by simp only [iJ, Act.put, List.setIfInBounds_toArray, List.set_cons_zero, List.set_cons_succ] <;> rfl) (kM (Az, cz, b10) _ S.out)
       rintro ⟨Az, cz, b10⟩ O4 S1
       simp only [iJ, Act.put, List.setIfInBounds_toArray, List.set_cons_zero, List.set_cons_succ]
       replace S := ae.mk S1
       clear S1 hHeld
       have hHeld := S.out.dQ.dG
       refine oH 9 none (bA 11 1023) aj (fun K hK => ?_)
       refine nU 0 rfl 26 (.tmp 10) (.tmp 47) rfl #[.int .u8 z.f0, .int .i64 z.f1.f0, .int .i64 z.f1.f1, .int .i64 z.f1.f2, .int .i64 z.f1.f3, .int .i64 z.f2, .slice Az z.f3.length cz] (j := 0) (u := .agg #[.int .u8 z.f0, .int .i64 z.f1.f0, .int .i64 z.f1.f1, .int .i64 z.f1.f2, .int .i64 z.f1.f3, .int .i64 z.f2, .slice Az z.f3.length cz]) (bJ := [.int .u8 z.f0, .int .i64 z.f1.f0, .int .i64 z.f1.f1, .int .i64 z.f1.f2, .int .i64 z.f1.f3, .int .i64 z.f2, .slice Az z.f3.length cz]) S.out (by rfl) rfl rfl rfl rfl (by kernel_rfl) (by simp [Value.oneCell']) (by simp) rfl ?_
       intro zL S1
       simp only [List.set_cons_zero, List.set_cons_succ] at S1
       replace S := ae.mk S1
       clear S1
       refine hK.out _ _ ?_
       clear hK K
       refine au 10 11 (bA 11 2047) aj ?_
       refine ji (fP aj.out (by kernel_rfl)) ?_
       clear hHeld
       obtain ⟨yJ, yK, yL, yM, yN, yO, rP⟩ := St.eQ S (.head _)
       go_wp2_with (first | (refine bP (some 51) Try.func88 S (BL (c := z) HA.out (S.out.tree _ (.head _))) ?_; clear S; intro zM S; clear yJ yK yL yM yN yO rP; have xp := AZ iq.out (S.out.blk _ bG) n Pq.out; have rP := (S.out.at (.head _) 6).trans rfl) | (refine Qs 110 6 69 #[.slice (some yh) pq.length cp, .int .i64 (rd p (n : Int)), .int .i64 0] 0 3 S ?_; clear S; intro O3 S; clear xp rP))
       refine bodyPost_ret (results_cell_row rfl _ _ b6 110 _ (0, 0) _ rfl (S.out.blk _ dN _ rfl) Try.underlying110 rfl (by kernel_rfl)) rfl ?_
       exact ⟨_, _, _, (by rw [jy.out.1, ← HQV.out]), iq.out, (fun g hg => ⟨(S.out.new g (mem_keys bG hg)).1, S.out.blk _ bG g hg⟩), S.out.below⟩
end Go.Proofs.Ytfdmfgaiblfbhaa.P
namespace Go.Proofs.Ytfdmfgaiblfbhaa.P
open Go.RowKit Go.Proofs.ag.aT Go.Proofs.ag.bK Go.Proofs.ag.bY
def rD.T8 : Bool × List (List Nat × List Nat) := (true, [([], []), ([0], [0]), ([1], [1]), ([1], [1]), ([1], [1]), ([1], [1]), ([4, 5, 1], [1, 4, 5]), ([6, 1], [1, 6]), ([2, 3, 7, 1, 1], [1, 2, 3, 7]), ([8, 1], [1, 8]), ([9, 1], [1, 9]), ([1, 10], [1, 10]), ([11, 8, 0, 1, 2, 3, 4, 5, 6, 7, 8, 9, 10, 11], [0, 11])])
def rD.B8 : List Nat := [0, 1, 3, 3, 3, 3, 51, 115, 255, 511, 1023, 2047, 4095]
theorem rD.QE : g_ .any (opsOf Try.f30 8) = rD.T8 := by kernel_rfl
theorem rD.JI : iL rD.T8.2 rD.B8 = true := by kernel_rfl
theorem ND {ax id n : Int} {c : ai} {args : Array Value} {W : World} (hn : qc ax id c = n) (h : (∀ n, qc ax id c = n → n ≠ 0 → Calls Try.prog 116 args W fun e w' => e = .returned (.agg #[.slice none 0 0, .int .i64 0, .int .i64 n]) ∧ Below W.heap.size W w') ∧ (∀ p d z q, bZ c = true → (ax = 1 ∨ ax = 2) → fA id c = some p → CO ax c p = some d → wF ax c p d z q → Calls Try.prog 116 args W (Rf W p d q))) :
  Calls Try.prog 116 args W fun e w' => ∃ pv pw, e = .returned (.agg #[pv, pw, .int .i64 n]) ∧ Below W.heap.size W w' := by
 by_cases h0 : n = 0
 ·rw [h0] at hn
  obtain ⟨p, d, z, q, hF⟩ := LW hn
  exact (h.2 p d z q hF.rE hF.hax hF.find hF.WW hF.fr).mono (fun e w' ⟨Ap, cp, op, he, _, _, hb⟩ => ⟨_, _, by rw [h0]; exact he, hb⟩)
 ·exact (h.1 n hn h0).mono (fun e w' ⟨he, hb⟩ => ⟨_, _, he, hb⟩)
theorem Hl {id : Int} {cO : List Int} {c : ai} {R : Bool} {args : Array Value} {W : World} (h : frameC id cO c = R) (hc : Calls Try.prog 117 args W fun e w' => e = .returned (.bool (frameC id cO c)) ∧ Below W.heap.size W w') : Calls Try.prog 117 args W fun e w' => e = .returned (.bool R) ∧ Below W.heap.size W w' := by
 rw [h] at hc
 exact hc
theorem VJ (f : Int → Int) : ∀ l : List Int, (!(l.any fun x => f x != 0)) = l.all fun x => f x == 0 := by
 intro l
 induction l with
 | nil => rfl
 | cons x xs ih => simp only [List.any_cons, List.all_cons, Bool.not_or, ih]; congr 1; simp [bne]
theorem TR (c : ai) (id : Int) (cO : List Int) (A : Option Addr) (cc : Nat) (B : Option Addr) (cb : Nat) (w : World) (hr : Kd.C k26 w A c.f3.length c.f3) (hc : c.f3.length ≤ cc) (hi : Kd.C (Kd.int .u8) w B cO.length cO) (hb : cO.length ≤ cb) (hz : sz c ≤ 1048576) (h1 : ∃ k, ig.f k c.f0 c.f1.f0 c.f1.f1 c.f1.f2 c.f1.f3 c.f2 c.f3 = some true)  :
  Calls Try.prog 30 #[.agg #[.int .u8 c.f0, .int .i64 c.f1.f0, .int .i64 c.f1.f1, .int .i64 c.f1.f2, .int .i64 c.f1.f3, .int .i64 c.f2, .slice A c.f3.length cc], .int .i64 id, .slice B cO.length cb] w fun e w' => e = .returned (.bool true) ∧ Below w.heap.size w w' := by
 have S := ae.mk (St.start (ts := [(.slice A c.f3.length cc, c.f3)]) (b0 := w.heap.size) (w := w) (P := fun k => k < w.heap.size) (fun t ht => by
  rw [List.mem_singleton.1 ht]; exact Kd.tK hc (Kd.BU mi hr)))
 have G1 := ae.mk h1
 have HA := ae.mk hi
 clear hr hc h1 hz hi hb
 obtain ⟨ck, ⟨cx, cy, cw, ch⟩, aK, l⟩ := c
 simp only [] at S G1 ⊢
 go_enter Try.func30, Try.ntmps30
 go_wp2_with (first
  | (refine boxS 3 _ 26 S ?_; clear S; intro b3 dJ S; obtain ⟨a_, aW, aY, aX, bD, bH, bu⟩ := St.eQ S (.head _))
  | (refine bP (some 11) Try.func34 S (AB ⟨ck, ⟨cx, cy, cw, ch⟩, aK, l⟩ true G1.out (S.out.tree _ (.head _))) ?_; clear S; intro dX S; clear a_ aW aY aX bD bH bu)
  | (refine bP (some 17) Try.func113 S (xq) ?_; clear S; intro fU S)
  | fail)
 go_ret
 exact ⟨rfl, S.out.below⟩
theorem VS (c : ai) (id : Int) (cO : List Int) (A : Option Addr) (cc : Nat) (B : Option Addr) (cb : Nat) (w : World) (hr : Kd.C k26 w A c.f3.length c.f3) (hc : c.f3.length ≤ cc) (hi : Kd.C (Kd.int .u8) w B cO.length cO) (hb : cO.length ≤ cb) (hz : sz c ≤ 1048576) (h1 : ∃ k, ig.f k c.f0 c.f1.f0 c.f1.f1 c.f1.f2 c.f1.f3 c.f2 c.f3 = some false) (h3 : 10 < cO.length) :
  Calls Try.prog 30 #[.agg #[.int .u8 c.f0, .int .i64 c.f1.f0, .int .i64 c.f1.f1, .int .i64 c.f1.f2, .int .i64 c.f1.f3, .int .i64 c.f2, .slice A c.f3.length cc], .int .i64 id, .slice B cO.length cb] w fun e w' => e = .returned (.bool true) ∧ Below w.heap.size w w' := by
 have S := ae.mk (St.start (ts := [(.slice A c.f3.length cc, c.f3)]) (b0 := w.heap.size) (w := w) (P := fun k => k < w.heap.size) (fun t ht => by
  rw [List.mem_singleton.1 ht]; exact Kd.tK hc (Kd.BU mi hr)))
 have G1 := ae.mk h1
 have HA := ae.mk hi
 have h3b : decide ((cO.length : Int) > 10) = true := decide_eq_true (by omega)
 have h3c : decide (10 < (cO.length : Int)) = true := decide_eq_true (by omega)
 have h3d : decide (10 < cO.length) = true := decide_eq_true (by omega)
 clear h3
 clear hr hc h1 hz hi hb
 obtain ⟨ck, ⟨cx, cy, cw, ch⟩, aK, l⟩ := c
 simp only [] at S G1 ⊢
 go_enter Try.func30, Try.ntmps30
 go_wp2_with (first
  | (refine boxS 3 _ 26 S ?_; clear S; intro b3 dJ S; obtain ⟨a_, aW, aY, aX, bD, bH, bu⟩ := St.eQ S (.head _))
  | (refine bP (some 11) Try.func34 S (AB ⟨ck, ⟨cx, cy, cw, ch⟩, aK, l⟩ false G1.out (S.out.tree _ (.head _))) ?_; clear S; intro dX S; clear a_ aW aY aX bD bH bu)
  | (refine bP (some 17) Try.func113 S (xq) ?_; clear S; intro fU S)
  | fail)
 go_ret
 exact ⟨rfl, S.out.below⟩
theorem VT (c : ai) (id : Int) (cO : List Int) (A : Option Addr) (cc : Nat) (B : Option Addr) (cb : Nat) (w : World) (hr : Kd.C k26 w A c.f3.length c.f3) (hc : c.f3.length ≤ cc) (hi : Kd.C (Kd.int .u8) w B cO.length cO) (hb : cO.length ≤ cb) (hz : sz c ≤ 1048576) (h1 : ∃ k, ig.f k c.f0 c.f1.f0 c.f1.f1 c.f1.f2 c.f1.f3 c.f2 c.f3 = some false) (h3 : ¬ 10 < cO.length) (hz2 : sz c ≤ 200) (hf : fA id c = none) :
  Calls Try.prog 30 #[.agg #[.int .u8 c.f0, .int .i64 c.f1.f0, .int .i64 c.f1.f1, .int .i64 c.f1.f2, .int .i64 c.f1.f3, .int .i64 c.f2, .slice A c.f3.length cc], .int .i64 id, .slice B cO.length cb] w fun e w' => e = .returned (.bool true) ∧ Below w.heap.size w w' := by
 have S := ae.mk (St.start (ts := [(.slice A c.f3.length cc, c.f3)]) (b0 := w.heap.size) (w := w) (P := fun k => k < w.heap.size) (fun t ht => by
  rw [List.mem_singleton.1 ht]; exact Kd.tK hc (Kd.BU mi hr)))
 have G1 := ae.mk h1
 have HA := ae.mk hi
 have sZ := ae.mk hf
 have HZ := ae.mk (show sz c ≤ 1000000 by omega)
 have uM := ae.mk hz
 have QW := ae.mk (show cO.length ≤ 10 by omega)
 have QZ := ae.mk (show frameC id cO c = false by unfold frameC; rw [hf]; rfl)
 have h3b : decide ((cO.length : Int) > 10) = false := decide_eq_false (by omega)
 have h3c : decide (10 < (cO.length : Int)) = false := decide_eq_false (by omega)
 have h3d : decide (10 < cO.length) = false := decide_eq_false (by omega)
 clear h3 hz2 hf
 clear hr hc h1 hz hi hb
 obtain ⟨ck, ⟨cx, cy, cw, ch⟩, aK, l⟩ := c
 simp only [] at S G1 ⊢
 go_enter Try.func30, Try.ntmps30
 go_wp2_with (first
  | (refine boxS 3 _ 26 S ?_; clear S; intro b3 dJ S; obtain ⟨a_, aW, aY, aX, bD, bH, bu⟩ := St.eQ S (.head _))
  | (refine bP (some 11) Try.func34 S (AB ⟨ck, ⟨cx, cy, cw, ch⟩, aK, l⟩ false G1.out (S.out.tree _ (.head _))) ?_; clear S; intro dX S; clear a_ aW aY aX bD bH bu; obtain ⟨a_, aW, aY, aX, bD, bH, bu⟩ := St.eQ S (.head _))
  | (refine uA (some 21) Try.func90 S (Nq id ⟨ck, ⟨cx, cy, cw, ch⟩, aK, l⟩ sZ.out HZ.out (S.out.tree _ (.head _))) ?_; clear S; intro Ap cp op fU S iq; clear a_ aW aY aX bD bH bu)
  | fail)
 go_loopg [8, 9] cO.length (fun gg v8 v9 wr => ∃ (n : Nat), v8 = .bool false ∧ v9 = .int .i64 (n : Int) ∧ ae (n ≤ cO.length) ∧ cO.length - n ≤ gg ∧ ae (St w (fun k => k < w.heap.size) [((Value.slice Ap (([] : List Int).length) cp).ownBlock, op), (some b3, .cells #[.int .u8 ck, .int .i64 cx, .int .i64 cy, .int .i64 cw, .int .i64 ch, .int .i64 aK, .slice A l.length cc] 26 (0, 0))] [] [(.slice A l.length cc, l)] [] wr))
 case atStart => exact ⟨0, rfl, rfl, ⟨Nat.zero_le _⟩, Nat.le_refl _, S⟩
 case round =>
  clear S
  obtain ⟨n, rfl, rfl, HN, hgg, S⟩ := hrel
  by_cases hlt : n < cO.length
  case pos =>
   have jP := ae.mk hlt
   have hlz : (n : Int) < (cO.length : Int) := by omega
   have gz := ae.mk hgg
   have hw : wrap64 ((n : Int) + 1) = ((n + 1 : Nat) : Int) := by have := QW.out; unfold wrap64; omega
   have HW := ae.mk hw
   clear hw hgg
   go_wp2
   refine ik (n := 13) (S := fun w' => St w _ _ _ _ _ w') (ds := []) (bA 13 0) (by kernel_rfl) rfl rfl (S.out.call (bg (Below.refl _ _))) (fun hHeld => ?_); refine ed rD.QE rD.JI (fun aj dW => ?_)
   replace S := ae.mk (S.out.call (bg (Below.refl _ _)))
   generalize wr.drew = yl at S hHeld ⊢
   refine au 0 35 (bA 13 1) aj ?_
   refine au 1 36 (bA 13 3) aj ?_
   refine lM 2 37 (bA 13 7) aj ?_
   refine lM 3 38 (bA 13 15) aj ?_
   refine lM 4 39 (bA 13 31) aj ?_
   refine lM 5 40 (bA 13 63) aj ?_
   refine lM 6 41 (bA 13 127) aj ?_
   refine lM 7 42 (bA 13 255) aj ?_
   refine lM 8 43 (bA 13 511) aj ?_
   refine lM 9 44 (bA 13 1023) aj ?_
   refine lM 10 45 (bA 13 2047) aj ?_
   refine au 11 46 (bA 13 4095) aj ?_
   refine au 12 8 (bA 13 8191) aj ?_
   refine ji (fP aj.out (by kernel_rfl)) ?_
   clear hHeld
   go_wp2
   have hw := HW.out
   go_wp2
   go_roundg (cO.length - (n + 1))
   case measure => have := gz.out; have := jP.out; omega
   case rel => exact ⟨n + 1, rfl, (by rw [hw]), ⟨jP.out⟩, Nat.le_refl _, S⟩
  case neg =>
   have hlz : ¬ ((n : Int) < (cO.length : Int)) := by omega
   clear hlt hgg
   obtain ⟨a_, aW, aY, aX, bD, bH, bu⟩ := St.eQ S bG
   go_wp2_with (first
    | (refine bP (some 50) Try.func117 S (Hl QZ.out (E5 ⟨ck, ⟨cx, cy, cw, ch⟩, aK, l⟩ HZ.out id cO _ _ _ _ _ _ (f_ (S.out.tree _ (.head _))) (Kd.fK HA.out S.out.below))) ?_; clear S; intro dJ S; clear a_ aW aY aX bD bH bu)
    | (refine gm 54 rfl ?_; (refine fB (by rfl) ?_; dsimp only); refine bP (some 54) Try.func113 S (xq) ?_; clear S; intro dX S)
    | fail)
   go_ret
   exact ⟨rfl, S.out.below⟩
theorem ZH (c : ai) (id : Int) (cO : List Int) (A : Option Addr) (cc : Nat) (B : Option Addr) (cb : Nat) (w : World) (hr : Kd.C k26 w A c.f3.length c.f3) (hc : c.f3.length ≤ cc) (hi : Kd.C (Kd.int .u8) w B cO.length cO) (hb : cO.length ≤ cb) (hz : sz c ≤ 1048576) (h1 : ∃ k, ig.f k c.f0 c.f1.f0 c.f1.f1 c.f1.f2 c.f1.f3 c.f2 c.f3 = some false) (h3 : ¬ 10 < cO.length) (hz2 : sz c ≤ 200) (p : List Int) (hf : fA id c = some p) (ht : bZ c = false) :
  Calls Try.prog 30 #[.agg #[.int .u8 c.f0, .int .i64 c.f1.f0, .int .i64 c.f1.f1, .int .i64 c.f1.f2, .int .i64 c.f1.f3, .int .i64 c.f2, .slice A c.f3.length cc], .int .i64 id, .slice B cO.length cb] w fun e w' => e = .returned (.bool true) ∧ Below w.heap.size w w' := by
 have S := ae.mk (St.start (ts := [(.slice A c.f3.length cc, c.f3)]) (b0 := w.heap.size) (w := w) (P := fun k => k < w.heap.size) (fun t ht => by
  rw [List.mem_singleton.1 ht]; exact Kd.tK hc (Kd.BU mi hr)))
 have G1 := ae.mk h1
 have HA := ae.mk hi
 have sZ := ae.mk hf
 have HZ := ae.mk (show sz c ≤ 1000000 by omega)
 have uM := ae.mk hz
 have QW := ae.mk (show cO.length ≤ 10 by omega)
 have HT := ae.mk ht
 have QZ := ae.mk (show frameC id cO c = false by unfold frameC; rw [ht, Bool.false_and, Bool.and_false])
 have h3b : decide ((cO.length : Int) > 10) = false := decide_eq_false (by omega)
 have h3c : decide (10 < (cO.length : Int)) = false := decide_eq_false (by omega)
 have h3d : decide (10 < cO.length) = false := decide_eq_false (by omega)
 clear h3 hz2 hf ht
 clear hr hc h1 hz hi hb
 obtain ⟨ck, ⟨cx, cy, cw, ch⟩, aK, l⟩ := c
 simp only [] at S G1 ⊢
 go_enter Try.func30, Try.ntmps30
 go_wp2_with (first
  | (refine boxS 3 _ 26 S ?_; clear S; intro b3 dJ S; obtain ⟨a_, aW, aY, aX, bD, bH, bu⟩ := St.eQ S (.head _))
  | (refine bP (some 11) Try.func34 S (AB ⟨ck, ⟨cx, cy, cw, ch⟩, aK, l⟩ false G1.out (S.out.tree _ (.head _))) ?_; clear S; intro dX S; clear a_ aW aY aX bD bH bu; obtain ⟨a_, aW, aY, aX, bD, bH, bu⟩ := St.eQ S (.head _))
  | (refine uA (some 21) Try.func90 S (yA id ⟨ck, ⟨cx, cy, cw, ch⟩, aK, l⟩ p sZ.out HZ.out (S.out.tree _ (.head _))) ?_; clear S; intro Ap cp op fU S iq; clear a_ aW aY aX bD bH bu; obtain ⟨a_, aW, aY, aX, bD, bH, bu⟩ := St.eQ S bG)
  | (refine gm 27 rfl ?_; (refine fB (by rfl) ?_; dsimp only); refine bP (some 27) Try.func84 S (kE HT.out (Ns ⟨ck, ⟨cx, cy, cw, ch⟩, aK, l⟩ uM.out (S.out.tree _ (.head _)))) ?_; clear S; intro iW S; clear a_ aW aY aX bD bH bu)
  | fail)
 go_loopg [8, 9] cO.length (fun gg v8 v9 wr => ∃ (n : Nat), v8 = .bool false ∧ v9 = .int .i64 (n : Int) ∧ ae (n ≤ cO.length) ∧ cO.length - n ≤ gg ∧ ae (St w (fun k => k < w.heap.size) [((Value.slice Ap p.length cp).ownBlock, op), (some b3, .cells #[.int .u8 ck, .int .i64 cx, .int .i64 cy, .int .i64 cw, .int .i64 ch, .int .i64 aK, .slice A l.length cc] 26 (0, 0))] [] [(.slice A l.length cc, l)] [] wr))
 case atStart => exact ⟨0, rfl, rfl, ⟨Nat.zero_le _⟩, Nat.le_refl _, S⟩
 case round =>
  clear S
  obtain ⟨n, rfl, rfl, HN, hgg, S⟩ := hrel
  by_cases hlt : n < cO.length
  case pos =>
   have jP := ae.mk hlt
   have hlz : (n : Int) < (cO.length : Int) := by omega
   have gz := ae.mk hgg
   have hw : wrap64 ((n : Int) + 1) = ((n + 1 : Nat) : Int) := by have := QW.out; unfold wrap64; omega
   have HW := ae.mk hw
   clear hw hgg
   go_wp2
   refine ik (n := 13) (S := fun w' => St w _ _ _ _ _ w') (ds := []) (bA 13 0) (by kernel_rfl) rfl rfl (S.out.call (bg (Below.refl _ _))) (fun hHeld => ?_); refine ed rD.QE rD.JI (fun aj dW => ?_)
   replace S := ae.mk (S.out.call (bg (Below.refl _ _)))
   generalize wr.drew = yl at S hHeld ⊢
   refine au 0 35 (bA 13 1) aj ?_
   refine au 1 36 (bA 13 3) aj ?_
   refine lM 2 37 (bA 13 7) aj ?_
   refine lM 3 38 (bA 13 15) aj ?_
   refine lM 4 39 (bA 13 31) aj ?_
   refine lM 5 40 (bA 13 63) aj ?_
   refine lM 6 41 (bA 13 127) aj ?_
   refine lM 7 42 (bA 13 255) aj ?_
   refine lM 8 43 (bA 13 511) aj ?_
   refine lM 9 44 (bA 13 1023) aj ?_
   refine lM 10 45 (bA 13 2047) aj ?_
   refine au 11 46 (bA 13 4095) aj ?_
   refine au 12 8 (bA 13 8191) aj ?_
   refine ji (fP aj.out (by kernel_rfl)) ?_
   clear hHeld
   go_wp2
   have hw := HW.out
   go_wp2
   go_roundg (cO.length - (n + 1))
   case measure => have := gz.out; have := jP.out; omega
   case rel => exact ⟨n + 1, rfl, (by rw [hw]), ⟨jP.out⟩, Nat.le_refl _, S⟩
  case neg =>
   have hlz : ¬ ((n : Int) < (cO.length : Int)) := by omega
   clear hlt hgg
   obtain ⟨a_, aW, aY, aX, bD, bH, bu⟩ := St.eQ S bG
   go_wp2_with (first
    | (refine bP (some 50) Try.func117 S (Hl QZ.out (E5 ⟨ck, ⟨cx, cy, cw, ch⟩, aK, l⟩ HZ.out id cO _ _ _ _ _ _ (f_ (S.out.tree _ (.head _))) (Kd.fK HA.out S.out.below))) ?_; clear S; intro dJ S; clear a_ aW aY aX bD bH bu)
    | (refine gm 54 rfl ?_; (refine fB (by rfl) ?_; dsimp only); refine bP (some 54) Try.func113 S (xq) ?_; clear S; intro dX S)
    | fail)
   go_ret
   exact ⟨rfl, S.out.below⟩
theorem adh (c : ai) (id : Int) (cO : List Int) (A : Option Addr) (cc : Nat) (B : Option Addr) (cb : Nat) (w : World) (hr : Kd.C k26 w A c.f3.length c.f3) (hc : c.f3.length ≤ cc) (hi : Kd.C (Kd.int .u8) w B cO.length cO) (hb : cO.length ≤ cb) (hz : sz c ≤ 1048576) (h1 : ∃ k, ig.f k c.f0 c.f1.f0 c.f1.f1 c.f1.f2 c.f1.f3 c.f2 c.f3 = some false) (h3 : ¬ 10 < cO.length) (hz2 : sz c ≤ 200) (p : List Int) (hf : fA id c = some p) (ht : bZ c = true) :
  Calls Try.prog 30 #[.agg #[.int .u8 c.f0, .int .i64 c.f1.f0, .int .i64 c.f1.f1, .int .i64 c.f1.f2, .int .i64 c.f1.f3, .int .i64 c.f2, .slice A c.f3.length cc], .int .i64 id, .slice B cO.length cb] w fun e w' => e = .returned (.bool true) ∧ Below w.heap.size w w' := by
 have S := ae.mk (St.start (ts := [(.slice A c.f3.length cc, c.f3)]) (b0 := w.heap.size) (w := w) (P := fun k => k < w.heap.size) (fun t ht => by
  rw [List.mem_singleton.1 ht]; exact Kd.tK hc (Kd.BU mi hr)))
 have G1 := ae.mk h1
 have HA := ae.mk hi
 have sZ := ae.mk hf
 have HZ := ae.mk (show sz c ≤ 1000000 by omega)
 have uM := ae.mk hz
 have QW := ae.mk (show cO.length ≤ 10 by omega)
 have HT := ae.mk ht
 obtain ⟨R, hR⟩ : ∃ r, frameC id cO c = r := ⟨_, rfl⟩
 have QZ := ae.mk hR
 have hR0 : (true && (cO.drop 0).all fun x => qc x id c == 0) = R := by rw [← hR]; unfold frameC; rw [hf, ht, VJ (fun x => qc x id c)]; simp
 have HR := ae.mk hR0
 clear hR hR0
 have h3b : decide ((cO.length : Int) > 10) = false := decide_eq_false (by omega)
 have h3c : decide (10 < (cO.length : Int)) = false := decide_eq_false (by omega)
 have h3d : decide (10 < cO.length) = false := decide_eq_false (by omega)
 clear h3 hz2 hf ht
 clear hr hc h1 hz hi hb
 obtain ⟨ck, ⟨cx, cy, cw, ch⟩, aK, l⟩ := c
 simp only [] at S G1 ⊢
 go_enter Try.func30, Try.ntmps30
 go_wp2_with (first
  | (refine boxS 3 _ 26 S ?_; clear S; intro b3 dJ S; obtain ⟨a_, aW, aY, aX, bD, bH, bu⟩ := St.eQ S (.head _))
  | (refine bP (some 11) Try.func34 S (AB ⟨ck, ⟨cx, cy, cw, ch⟩, aK, l⟩ false G1.out (S.out.tree _ (.head _))) ?_; clear S; intro dX S; clear a_ aW aY aX bD bH bu; obtain ⟨a_, aW, aY, aX, bD, bH, bu⟩ := St.eQ S (.head _))
  | (refine uA (some 21) Try.func90 S (yA id ⟨ck, ⟨cx, cy, cw, ch⟩, aK, l⟩ p sZ.out HZ.out (S.out.tree _ (.head _))) ?_; clear S; intro Ap cp op fU S iq; clear a_ aW aY aX bD bH bu; obtain ⟨a_, aW, aY, aX, bD, bH, bu⟩ := St.eQ S bG)
  | (refine gm 27 rfl ?_; (refine fB (by rfl) ?_; dsimp only); refine bP (some 27) Try.func84 S (kE HT.out (Ns ⟨ck, ⟨cx, cy, cw, ch⟩, aK, l⟩ uM.out (S.out.tree _ (.head _)))) ?_; clear S; intro iW S; clear a_ aW aY aX bD bH bu)
  | fail)
 go_loopg [8, 9] cO.length (fun gg v8 v9 wr => ∃ (n : Nat) (b : Bool), v8 = .bool b ∧ v9 = .int .i64 (n : Int) ∧ ae (n ≤ cO.length) ∧ cO.length - n ≤ gg ∧ ae ((b && (cO.drop n).all fun x => qc x id ⟨ck, ⟨cx, cy, cw, ch⟩, aK, l⟩ == 0) = R) ∧ ae (St w (fun k => k < w.heap.size) [((Value.slice Ap p.length cp).ownBlock, op), (some b3, .cells #[.int .u8 ck, .int .i64 cx, .int .i64 cy, .int .i64 cw, .int .i64 ch, .int .i64 aK, .slice A l.length cc] 26 (0, 0))] [] [(.slice A l.length cc, l)] [] wr))
 case atStart => exact ⟨0, true, rfl, rfl, ⟨Nat.zero_le _⟩, Nat.le_refl _, HR, S⟩
 case round =>
  clear S HR
  obtain ⟨n, b, rfl, rfl, HN, hgg, HR, S⟩ := hrel
  by_cases hlt : n < cO.length
  case pos =>
   have jP := ae.mk hlt
   have hlz : (n : Int) < (cO.length : Int) := by omega
   have gz := ae.mk hgg
   have hw : wrap64 ((n : Int) + 1) = ((n + 1 : Nat) : Int) := by have := QW.out; unfold wrap64; omega
   have HW := ae.mk hw
   clear hw hgg
   cases b with
   | false =>
    go_wp2
    refine ik (n := 13) (S := fun w' => St w _ _ _ _ _ w') (ds := []) (bA 13 0) (by kernel_rfl) rfl rfl (S.out.call (bg (Below.refl _ _))) (fun hHeld => ?_); refine ed rD.QE rD.JI (fun aj dW => ?_)
    replace S := ae.mk (S.out.call (bg (Below.refl _ _)))
    generalize wr.drew = yl at S hHeld ⊢
    refine au 0 35 (bA 13 1) aj ?_
    refine au 1 36 (bA 13 3) aj ?_
    refine lM 2 37 (bA 13 7) aj ?_
    refine lM 3 38 (bA 13 15) aj ?_
    refine lM 4 39 (bA 13 31) aj ?_
    refine lM 5 40 (bA 13 63) aj ?_
    refine lM 6 41 (bA 13 127) aj ?_
    refine lM 7 42 (bA 13 255) aj ?_
    refine lM 8 43 (bA 13 511) aj ?_
    refine lM 9 44 (bA 13 1023) aj ?_
    refine lM 10 45 (bA 13 2047) aj ?_
    refine au 11 46 (bA 13 4095) aj ?_
    refine au 12 8 (bA 13 8191) aj ?_
    refine ji (fP aj.out (by kernel_rfl)) ?_
    clear hHeld
    go_wp2
    have hw := HW.out
    go_wp2
    go_roundg (cO.length - (n + 1))
    case measure => have := gz.out; have := jP.out; omega
    case rel => exact ⟨n + 1, false, rfl, (by rw [hw]), ⟨jP.out⟩, Nat.le_refl _, ⟨by have h := HR.out; rw [Bool.false_and] at h ⊢; exact h⟩, S⟩
   | true =>
    obtain ⟨ad, ek, xi⟩ := Kd.iy HA.out (n : Int) (Int.natCast_nonneg _) hlz
    subst ek
    rw [Int.toNat_natCast] at xi
    have hdr : cO.drop n = rd cO (n : Int) :: cO.drop (n + 1) := by
     rw [List.drop_eq_getElem_cons jP.out]
     simp only [rd, Int.toNat_natCast, List.getD_eq_getElem?_getD, List.getElem?_eq_getElem jP.out, Option.getD_some]
    have hr := HR.out
    rw [hdr, Bool.true_and, List.all_cons] at hr
    obtain ⟨x, hx⟩ : ∃ x, x = rd cO (n : Int) := ⟨_, rfl⟩
    rw [← hx] at xi hr
    obtain ⟨fN, hfn⟩ : ∃ f, qc x id ⟨ck, ⟨cx, cy, cw, ch⟩, aK, l⟩ = f := ⟨_, rfl⟩
    rw [hfn] at hr
    have HFN := ae.mk hfn
    have HR2 := ae.mk hr
    have wo := ae.mk (fun (j : Nat) (u : Value) (e : u = .int .u8 x) => (show wr.cell? (ad.add n) = some u by rw [e]; exact (S.out.below.cell (World.block_lt_of_cell? w _ xi)).trans xi))
    clear xi hdr hr hx hfn HR
    go_wp2
    refine ik (n := 13) (S := fun w' => St w _ _ _ _ _ w' ∧ ∀ (j : Nat) (u : Value), u = .int .u8 x → w'.cell? (ad.add n) = some u) (ds := []) (bA 13 0) (by kernel_rfl) rfl rfl ⟨S.out.call (bg (Below.refl _ _)), oU wo.out (bg (Below.refl _ _))⟩ (fun hHeld => ?_); refine ed rD.QE rD.JI (fun aj dW => ?_)
    replace S := ae.mk (S.out.call (bg (Below.refl _ _)))
    replace wo := ae.mk (oU wo.out (bg (Below.refl _ _)))
    generalize wr.drew = yl at S wo hHeld ⊢
    refine au 0 35 (bA 13 1) aj ?_
    refine au 1 36 (bA 13 3) aj ?_
    refine dS 2 37 (bA 13 7) aj dW hHeld ?_ (hv := by intro w' hs_; have a_ := (hs_.1.at bG 0).trans rfl; have aW := (hs_.1.at bG 1).trans rfl; have aY := (hs_.1.at bG 2).trans rfl; have aX := (hs_.1.at bG 3).trans rfl; have bD := (hs_.1.at bG 4).trans rfl; have bH := (hs_.1.at bG 5).trans rfl; have bu := (hs_.1.at bG 6).trans rfl; go_simp; with_reducible rfl)
    refine au 3 38 (bA 13 15) aj ?_
    refine au 4 39 (bA 13 31) aj ?_
    refine au 5 40 (bA 13 63) aj ?_
    refine au 6 41 (bA 13 127) aj ?_
    refine dS 7 42 (bA 13 255) aj dW hHeld ?_ (hv := by intro w' hs_; have xe0 := (show w'.cell? (ad.add n) = some (.int .u8 x) from hs_.2 0 _ rfl); go_simp; with_reducible rfl)
    refine jR 8 (some 43) (bA 13 511) aj (fun K hK => ?_)
    refine BA Try.func116 #[.agg #[.int .u8 ck, .int .i64 cx, .int .i64 cy, .int .i64 cw, .int .i64 ch, .int .i64 aK, .slice A l.length cc], .int .i64 id, .int .u8 x] ?_
    refine (ND HFN.out (XZ ⟨ck, ⟨cx, cy, cw, ch⟩, aK, l⟩ HZ.out id x _ _ _ _ _ (S.out.tree _ (.head _)))).mono ?_
    rintro e dX ⟨pv, pw, rfl, hb⟩
    refine ⟨_, rfl, ?_⟩
    replace wo := ae.mk (oU wo.out hb)
    replace S := ae.mk (S.out.call hb)
    clear hb
    have hfd : ∀ W : World, (Instr.field 110 (.agg #[pv, pw, .int .i64 fN]) 2).run Try.prog W = .ok (.int .i64 fN) W := fun _ => by kernel_rfl
    refine hK.out _ _ ⟨S.out, wo.out⟩ (fun hHeld => ?_)
    clear hK K
    refine eF 43 ?_
    refine au 9 44 (bA 13 1023) aj ?_
    refine au 10 45 (bA 13 2047) aj ?_
    refine au 11 46 (bA 13 4095) aj ?_
    refine au 12 8 (bA 13 8191) aj ?_
    refine ji (fP aj.out (by kernel_rfl)) ?_
    clear hHeld
    go_wp2
    have hw := HW.out
    go_wp2
    go_roundg (cO.length - (n + 1))
    case measure => have := gz.out; have := jP.out; omega
    case rel => exact ⟨n + 1, _, rfl, (by rw [hw]), ⟨jP.out⟩, Nat.le_refl _, HR2, S⟩
  case neg =>
   have hlz : ¬ ((n : Int) < (cO.length : Int)) := by omega
   have hr := HR.out
   rw [List.drop_eq_nil_of_le (by omega), List.all_nil, Bool.and_true] at hr
   subst hr
   clear hlt hgg
   obtain ⟨a_, aW, aY, aX, bD, bH, bu⟩ := St.eQ S bG
   go_wp2_with (first
    | (refine bP (some 50) Try.func117 S (Hl QZ.out (E5 ⟨ck, ⟨cx, cy, cw, ch⟩, aK, l⟩ HZ.out id cO _ _ _ _ _ _ (f_ (S.out.tree _ (.head _))) (Kd.fK HA.out S.out.below))) ?_; clear S; intro dJ S; clear a_ aW aY aX bD bH bu)
    | (refine gm 54 rfl ?_; (refine fB (by rfl) ?_; dsimp only); refine bP (some 54) Try.func113 S (xq) ?_; clear S; intro dX S)
    | fail)
   go_ret
   exact ⟨rfl, S.out.below⟩
def jE.f (a0 a1 a2 a3 a4 a5 : Int) (l : List ai) (_ : Int) (_ : List Int) : Option Bool := if sz ⟨a0, ⟨a1, a2, a3, a4⟩, a5, l⟩ ≤ 1048576 then some true else none
theorem Gs (c : ai) (id : Int) (cO : List Int) (A : Option Addr) (cc : Nat) (B : Option Addr) (cb : Nat) (w : World) (hr : Kd.C k26 w A c.f3.length c.f3) (hc : c.f3.length ≤ cc) (hi : Kd.C (Kd.int .u8) w B cO.length cO) (hb : cO.length ≤ cb) (hz : sz c ≤ 1048576) :
  Calls Try.prog 30 #[.agg #[.int .u8 c.f0, .int .i64 c.f1.f0, .int .i64 c.f1.f1, .int .i64 c.f1.f2, .int .i64 c.f1.f3, .int .i64 c.f2, .slice A c.f3.length cc], .int .i64 id, .slice B cO.length cb] w fun e w' => e = .returned (.bool true) ∧ Below w.heap.size w w' := by
 obtain ⟨g, eg, hg⟩ := Vg c hz
 cases g with
 | true => exact TR c id cO A cc B cb w hr hc hi hb hz eg.rounds
 | false =>
  by_cases h3 : 10 < cO.length
  ·exact VS c id cO A cc B cb w hr hc hi hb hz eg.rounds h3
  ·cases hf : fA id c with
   | none => exact VT c id cO A cc B cb w hr hc hi hb hz eg.rounds h3 (hg rfl) hf
   | some p =>
    cases ht : bZ c with
    | false => exact ZH c id cO A cc B cb w hr hc hi hb hz eg.rounds h3 (hg rfl) p hf ht
    | true => exact adh c id cO A cc B cb w hr hc hi hb hz eg.rounds h3 (hg rfl) p hf ht
theorem jE.calls (ay aH aC aG bz bC : Int) (dE : Option Addr) (dF : Nat) (aJ : List ai) (a1 : Int) (A2 : Option Addr) (c2 : Nat) (l2 : List Int) (r : Bool) (w : World) (o8 : Kd.C k26 w dE aJ.length aJ) (qo : aJ.length ≤ dF) (hr2 : Kd.C (Kd.int .u8) w A2 l2.length l2) (hc2 : l2.length ≤ c2) (h : jE.f ay aH aC aG bz bC aJ a1 l2 = some r) :
  Calls Try.prog 30 #[.agg #[.int .u8 ay, .int .i64 aH, .int .i64 aC, .int .i64 aG, .int .i64 bz, .int .i64 bC, .slice dE aJ.length dF], .int .i64 a1, .slice A2 l2.length c2] w fun e w' => e = .returned (.bool r) ∧ Below w.heap.size w w' := by
 unfold jE.f at h
 split at h
 ·rename_i hz
  injection h with h
  subst h
  exact Gs ⟨ay, ⟨aH, aC, aG, bz⟩, bC, aJ⟩ a1 l2 dE dF A2 c2 w o8 qo hr2 hc2 hz
 ·exact absurd h (by simp)
end Go.Proofs.Ytfdmfgaiblfbhaa.P
namespace Go.Proofs.Ytfdmfgaiblfbhaa.P
open Go.RowKit Go.Proofs.ag.aT Go.Proofs.ag.bK Go.Proofs.ag.bY
open Go.ChangeShapes Go.WideShapes Go.ChangeAt Go.Joins Go.Deep
def I64 (n : Int) : Prop := -9223372036854775808 ≤ n ∧ n ≤ 9223372036854775807
def U8 (n : Int) : Prop := 0 ≤ n ∧ n ≤ 255
def adI (r : dD) : Prop := I64 r.f0 ∧ I64 r.f1 ∧ I64 r.f2 ∧ I64 r.f3
def Ec : Nat → ai → Prop
 | 0, _ => False
 | n + 1, c => U8 c.f0 ∧ adI c.f1 ∧ I64 c.f2 ∧ c.f3.length ≤ 9223372036854775807 ∧ ∀ k, k ∈ c.f3 → Ec n k
def adJ (c : ai) : Prop := ∃ n, Ec n c
theorem Nz : ∀ {n m : Nat} (_ : n ≤ m) {c : ai}, Ec n c → Ec m c
 | 0, _, _, _, h => h.elim
 | n + 1, 0, hm, _, _ => absurd hm (by omega)
 | n + 1, m + 1, hm, _, h => ⟨h.1, h.2.1, h.2.2.1, h.2.2.2.1, fun k hk => Nz (by omega) (h.2.2.2.2 k hk)⟩
section
variable {H : Type} {enc : TypeId × Value → H} {P : Program} {w : World} {base : Nat} {spare : Nat → Bool} {held : Bool}
theorem row_of {α : Type} {Q : Nat → α → Prop} : ∀ (n : Nat), (∀ i, i < n → ∃ p, Q i p) → ∃ l : List α, l.length = n ∧ ∀ i p, l[i]? = some p → Q i p
 | 0, _ => ⟨[], rfl, fun i p h => by simp at h⟩
 | n + 1, h => by
  obtain ⟨l, hl, hq⟩ := row_of n fun i hi => h i (by omega)
  obtain ⟨p, hp⟩ := h n (by omega)
  refine ⟨l ++ [p], by simp [hl], fun i q hi => ?_⟩
  rcases Nat.lt_trichotomy i n with h1 | h1 | h1
  ·rw [List.getElem?_append_left (by omega)] at hi
   exact hq i q hi
  ·subst h1
   rw [List.getElem?_append_right (by omega), hl, Nat.sub_self] at hi
   obtain rfl : p = q := by simpa using hi
   exact hp
  ·rw [List.getElem?_eq_none (by simp; omega)] at hi
   cases hi
theorem cells_at {a : Addr} {n : Nat} {cs : List Value} (h : w.cells? base a n = some cs) : cs.length = n ∧ ∀ i u, cs[i]? = some u → w.cell? (a.add i) = some u := by
 obtain ⟨_, h1, h2⟩ := World.cells?_some h
 exact ⟨h1, fun i u hi => by
  have hlt : i < n := by rw [← h1]; exact (List.getElem?_eq_some_iff.1 hi).1
  rw [h2 i hlt, hi]⟩
end
section
variable {H : Type} {enc : TypeId × Value → H} {w : World} {base : Nat} {spare : Nat → Bool} {held : Bool}
theorem AL {n : Int} (h : (Lit.int .i64 n).wf = true) : I64 n := by
 have := bounds_i64 h
 unfold I64
 omega
theorem Xp {n : Int} (h : (Lit.int .u8 n).wf = true) : U8 n := bounds_u8 h
theorem abe {a : Array Value} {l : List Value} (h : (Value.agg a).cells.toList = l) : a = l.toArray := by
 subst h
 simp [Value.cells]
theorem cells23 : Try.prog.cellsOf 23 = 4 := by kernel_rfl
theorem cells26 : Try.prog.cellsOf 26 = 7 := by kernel_rfl
theorem cells3 : Try.prog.cellsOf 3 = 1 := by kernel_rfl
theorem cells5 : Try.prog.cellsOf 5 = 1 := by kernel_rfl
theorem cells24 : Try.prog.cellsOf 24 = 1 := by kernel_rfl
theorem adr {fuel : Nat} {cs : List Value} {x : DataW H × List MemPlace} (h : DataW.trod enc Try.prog w base spare held fuel 23 cs = some x) : ∃ r : dD, k23.K w r cs ∧ adI r := by
 obtain ⟨y0, y1, y2, y3, n, _, hl, h0, h1, h2, h3⟩ := trod_struct4 Try.underlying23 h
 rw [cells23] at hl
 match cs, hl with
 | [c0, c1, c2, c3], _ =>
  simp only [cells3, List.drop_zero, List.take_succ_cons, List.take_zero, List.drop_succ_cons] at h0 h1 h2 h3
  obtain ⟨n0, e0, _, w0⟩ := DataW.trod_int Try.underlying3 h0
  obtain ⟨n1, e1, _, w1⟩ := DataW.trod_int Try.underlying3 h1
  obtain ⟨n2, e2, _, w2⟩ := DataW.trod_int Try.underlying3 h2
  obtain ⟨n3, e3, _, w3⟩ := DataW.trod_int Try.underlying3 h3
  simp only [List.cons.injEq, and_true] at e0 e1 e2 e3
  subst e0 e1 e2 e3
  exact ⟨⟨n0, n1, n2, n3⟩, MN w ⟨n0, n1, n2, n3⟩, AL w0, AL w1, AL w2, AL w3⟩
end
end Go.Proofs.Ytfdmfgaiblfbhaa.P
namespace Go.Proofs.Ytfdmfgaiblfbhaa.Pure
open Go.RowKit Go.Proofs.Ytfdmfgaiblfbhaa.P Go.Proofs.ag.aT Go.Proofs.ag.bK Go.Proofs.ag.bY
theorem PushFrames : ∀ (a0 : ai) (a1 : Int) (a2 : List Int), adJ a0 → sz a0 ≤ 1048576 → I64 a1 → a2.length ≤ 1048576 → (∀ x, x ∈ a2 → U8 x) → jE.f a0.f0 a0.f1.f0 a0.f1.f1 a0.f1.f2 a0.f1.f3 a0.f2 a0.f3 a1 a2 = some true := by
 intro c id cO _ hz _ _ _
 unfold jE.f
 rw [D5, if_pos hz]
end Go.Proofs.Ytfdmfgaiblfbhaa.Pure
namespace Go.Proofs.Ytfdmfgaiblfbhaa.P
open Go.RowKit
def I_ : List Char := [104, 97, 114, 110, 101, 115, 115, 32, 57, 48, 98, 52, 50, 100, 98, 100, 99, 50, 52, 54, 55, 51, 50, 51, 56, 57, 50, 48, 100, 50, 50, 98, 56, 57, 53, 102, 48, 48, 55, 48, 53, 101, 102, 48, 53, 53, 102, 54, 54, 55, 97, 57, 54, 56, 100, 50, 56, 97, 57, 52, 55, 52, 56, 57, 49, 49, 48, 97, 48, 101, 53, 55, 32, 99, 117, 116, 32, 97, 116, 32, 115, 97, 115, 104, 47, 115, 97, 115, 104, 108, 97, 119, 48, 55, 46, 70, 108, 97, 116, 78, 101, 120, 116, 115, 32, 115, 97, 115, 104, 47, 115, 97, 115, 104, 108, 97, 119, 48, 55, 46, 70, 108, 97, 116, 76, 105, 115, 116, 115, 32, 115, 97, 115, 104, 47, 115, 97, 115, 104, 108, 97, 119, 48, 52, 46, 82, 101, 99, 116, 67, 117, 116, 115, 32, 115, 97, 115, 104, 47, 115, 97, 115, 104, 108, 97, 119, 48, 57, 46, 65, 100, 106, 117, 115, 116, 83, 104, 97, 114, 101, 115, 32, 115, 97, 115, 104, 47, 115, 97, 115, 104, 108, 97, 119, 48, 57, 46, 65, 100, 106, 117, 115, 116, 69, 118, 101, 110, 115, 32, 115, 97, 115, 104, 47, 115, 97, 115, 104, 108, 97, 119, 49, 54, 46, 83, 112, 114, 101, 97, 100, 83, 105, 122, 101, 115, 32, 115, 97, 115, 104, 47, 115, 97, 115, 104, 108, 97, 119, 48, 55, 46, 70, 108, 97, 116, 67, 104, 97, 110, 103, 101, 115, 32, 115, 97, 115, 104, 47, 115, 97, 115, 104, 108, 97, 119, 48, 52, 46, 82, 101, 99, 116, 73, 110, 115, 105, 100, 101, 32, 115, 97, 115, 104, 47, 115, 97, 115, 104, 108, 97, 119, 48, 55, 46, 70, 108, 97, 116, 78, 97, 109, 101, 115, 32, 115, 97, 115, 104, 47, 115, 97, 115, 104, 108, 97, 119, 48, 57, 46, 65, 100, 106, 117, 115, 116, 83, 101, 116, 115, 32, 115, 97, 115, 104, 47, 115, 97, 115, 104, 108, 97, 119, 48, 52, 46, 82, 101, 99, 116, 77, 101, 101, 116, 115, 32, 115, 97, 115, 104, 47, 115, 97, 115, 104, 108, 97, 119, 48, 52, 46, 82, 101, 99, 116, 77, 97, 121, 115, 32, 115, 97, 115, 104, 47, 115, 97, 115, 104, 108, 97, 119, 48, 55, 46, 70, 108, 97, 116, 83, 116, 105, 108, 108, 32, 115, 97, 115, 104, 47, 115, 97, 115, 104, 108, 97, 119, 48, 53, 46, 67, 101, 108, 108, 77, 97, 121, 115, 32, 115, 97, 115, 104, 47, 115, 97, 115, 104, 108, 97, 119, 48, 53, 46, 67, 101, 108, 108, 83, 97, 109, 101, 32, 115, 97, 115, 104, 47, 115, 97, 115, 104, 108, 97, 119, 48, 53, 46, 67, 101, 108, 108, 67, 111, 117, 110, 116, 115, 32, 115, 97, 115, 104, 47, 115, 97, 115, 104, 108, 97, 119, 48, 56, 46, 76, 101, 97, 115, 116, 83, 117, 109, 115, 32, 115, 97, 115, 104, 47, 115, 97, 115, 104, 108, 97, 119, 48, 53, 46, 67, 101, 108, 108, 70, 105, 110, 100, 115, 32, 115, 97, 115, 104, 47, 115, 97, 115, 104, 108, 97, 119, 48, 56, 46, 76, 101, 97, 115, 116, 73, 115, 32, 115, 97, 115, 104, 47, 115, 97, 115, 104, 108, 97, 119, 48, 56, 46, 76, 101, 97, 115, 116, 70, 105, 116, 115, 32, 115, 97, 115, 104, 47, 115, 97, 115, 104, 108, 97, 119, 48, 56, 46, 76, 101, 97, 115, 116, 80, 97, 116, 104, 115, 32, 115, 97, 115, 104, 47, 115, 97, 115, 104, 108, 97, 119, 48, 53, 46, 67, 101, 108, 108, 80, 117, 116, 115, 32, 115, 97, 115, 104, 47, 115, 97, 115, 104, 108, 97, 119, 49, 50, 46, 83, 112, 108, 105, 116, 83, 105, 122, 101, 115, 32, 115, 97, 115, 104, 47, 115, 97, 115, 104, 108, 97, 119, 49, 54, 46, 83, 112, 114, 101, 97, 100, 65, 108, 108, 32, 115, 97, 115, 104, 47, 115, 97, 115, 104, 108, 97, 119, 49, 54, 46, 83, 112, 114, 101, 97, 100, 65, 116, 32, 115, 97, 115, 104, 47, 115, 97, 115, 104, 108, 97, 119, 49, 52, 46, 80, 117, 115, 104, 73, 115, 32, 115, 97, 115, 104, 47, 115, 97, 115, 104, 108, 97, 119, 49, 52, 46, 80, 117, 115, 104, 79, 110, 101, 32, 115, 97, 115, 104, 47, 115, 97, 115, 104, 108, 97, 119, 49, 52, 46, 80, 117, 115, 104, 70, 114, 97, 109, 101, 115, 32, 115, 97, 115, 104, 47, 115, 97, 115, 104, 108, 97, 119, 49, 52, 46, 80, 117, 115, 104, 67, 97, 110, 32, 115, 97, 115, 104, 47, 115, 97, 115, 104, 108, 97, 119, 49, 50, 46, 83, 112, 108, 105, 116, 73, 115, 32, 115, 97, 115, 104, 47, 115, 97, 115, 104, 108, 97, 119, 49, 50, 46, 83, 112, 108, 105, 116, 67, 97, 110].map Char.ofNat
def Ja : List (List Char) := [[104, 97, 114, 110, 101, 115, 115].map Char.ofNat,
 [57, 48, 98, 52, 50, 100, 98, 100, 99, 50, 52, 54, 55, 51, 50, 51, 56, 57, 50, 48, 100, 50, 50, 98, 56, 57, 53, 102, 48, 48, 55, 48, 53, 101, 102, 48, 53, 53, 102, 54, 54, 55, 97, 57, 54, 56, 100, 50, 56, 97, 57, 52, 55, 52, 56, 57, 49, 49, 48, 97, 48, 101, 53, 55].map Char.ofNat,
 [99, 117, 116].map Char.ofNat,
 [97, 116].map Char.ofNat,
 [115, 97, 115, 104, 47, 115, 97, 115, 104, 108, 97, 119, 48, 55, 46, 70, 108, 97, 116, 78, 101, 120, 116, 115].map Char.ofNat,
 [115, 97, 115, 104, 47, 115, 97, 115, 104, 108, 97, 119, 48, 55, 46, 70, 108, 97, 116, 76, 105, 115, 116, 115].map Char.ofNat,
 [115, 97, 115, 104, 47, 115, 97, 115, 104, 108, 97, 119, 48, 52, 46, 82, 101, 99, 116, 67, 117, 116, 115].map Char.ofNat,
 [115, 97, 115, 104, 47, 115, 97, 115, 104, 108, 97, 119, 48, 57, 46, 65, 100, 106, 117, 115, 116, 83, 104, 97, 114, 101, 115].map Char.ofNat,
 [115, 97, 115, 104, 47, 115, 97, 115, 104, 108, 97, 119, 48, 57, 46, 65, 100, 106, 117, 115, 116, 69, 118, 101, 110, 115].map Char.ofNat,
 [115, 97, 115, 104, 47, 115, 97, 115, 104, 108, 97, 119, 49, 54, 46, 83, 112, 114, 101, 97, 100, 83, 105, 122, 101, 115].map Char.ofNat,
 [115, 97, 115, 104, 47, 115, 97, 115, 104, 108, 97, 119, 48, 55, 46, 70, 108, 97, 116, 67, 104, 97, 110, 103, 101, 115].map Char.ofNat,
 [115, 97, 115, 104, 47, 115, 97, 115, 104, 108, 97, 119, 48, 52, 46, 82, 101, 99, 116, 73, 110, 115, 105, 100, 101].map Char.ofNat,
 [115, 97, 115, 104, 47, 115, 97, 115, 104, 108, 97, 119, 48, 55, 46, 70, 108, 97, 116, 78, 97, 109, 101, 115].map Char.ofNat,
 [115, 97, 115, 104, 47, 115, 97, 115, 104, 108, 97, 119, 48, 57, 46, 65, 100, 106, 117, 115, 116, 83, 101, 116, 115].map Char.ofNat,
 [115, 97, 115, 104, 47, 115, 97, 115, 104, 108, 97, 119, 48, 52, 46, 82, 101, 99, 116, 77, 101, 101, 116, 115].map Char.ofNat,
 [115, 97, 115, 104, 47, 115, 97, 115, 104, 108, 97, 119, 48, 52, 46, 82, 101, 99, 116, 77, 97, 121, 115].map Char.ofNat,
 [115, 97, 115, 104, 47, 115, 97, 115, 104, 108, 97, 119, 48, 55, 46, 70, 108, 97, 116, 83, 116, 105, 108, 108].map Char.ofNat,
 [115, 97, 115, 104, 47, 115, 97, 115, 104, 108, 97, 119, 48, 53, 46, 67, 101, 108, 108, 77, 97, 121, 115].map Char.ofNat,
 [115, 97, 115, 104, 47, 115, 97, 115, 104, 108, 97, 119, 48, 53, 46, 67, 101, 108, 108, 83, 97, 109, 101].map Char.ofNat,
 [115, 97, 115, 104, 47, 115, 97, 115, 104, 108, 97, 119, 48, 53, 46, 67, 101, 108, 108, 67, 111, 117, 110, 116, 115].map Char.ofNat,
 [115, 97, 115, 104, 47, 115, 97, 115, 104, 108, 97, 119, 48, 56, 46, 76, 101, 97, 115, 116, 83, 117, 109, 115].map Char.ofNat,
 [115, 97, 115, 104, 47, 115, 97, 115, 104, 108, 97, 119, 48, 53, 46, 67, 101, 108, 108, 70, 105, 110, 100, 115].map Char.ofNat,
 [115, 97, 115, 104, 47, 115, 97, 115, 104, 108, 97, 119, 48, 56, 46, 76, 101, 97, 115, 116, 73, 115].map Char.ofNat,
 [115, 97, 115, 104, 47, 115, 97, 115, 104, 108, 97, 119, 48, 56, 46, 76, 101, 97, 115, 116, 70, 105, 116, 115].map Char.ofNat,
 [115, 97, 115, 104, 47, 115, 97, 115, 104, 108, 97, 119, 48, 56, 46, 76, 101, 97, 115, 116, 80, 97, 116, 104, 115].map Char.ofNat,
 [115, 97, 115, 104, 47, 115, 97, 115, 104, 108, 97, 119, 48, 53, 46, 67, 101, 108, 108, 80, 117, 116, 115].map Char.ofNat,
 [115, 97, 115, 104, 47, 115, 97, 115, 104, 108, 97, 119, 49, 50, 46, 83, 112, 108, 105, 116, 83, 105, 122, 101, 115].map Char.ofNat,
 [115, 97, 115, 104, 47, 115, 97, 115, 104, 108, 97, 119, 49, 54, 46, 83, 112, 114, 101, 97, 100, 65, 108, 108].map Char.ofNat,
 [115, 97, 115, 104, 47, 115, 97, 115, 104, 108, 97, 119, 49, 54, 46, 83, 112, 114, 101, 97, 100, 65, 116].map Char.ofNat,
 [115, 97, 115, 104, 47, 115, 97, 115, 104, 108, 97, 119, 49, 52, 46, 80, 117, 115, 104, 73, 115].map Char.ofNat,
 [115, 97, 115, 104, 47, 115, 97, 115, 104, 108, 97, 119, 49, 52, 46, 80, 117, 115, 104, 79, 110, 101].map Char.ofNat,
 [115, 97, 115, 104, 47, 115, 97, 115, 104, 108, 97, 119, 49, 52, 46, 80, 117, 115, 104, 70, 114, 97, 109, 101, 115].map Char.ofNat,
 [115, 97, 115, 104, 47, 115, 97, 115, 104, 108, 97, 119, 49, 52, 46, 80, 117, 115, 104, 67, 97, 110].map Char.ofNat,
 [115, 97, 115, 104, 47, 115, 97, 115, 104, 108, 97, 119, 49, 50, 46, 83, 112, 108, 105, 116, 73, 115].map Char.ofNat,
 [115, 97, 115, 104, 47, 115, 97, 115, 104, 108, 97, 119, 49, 50, 46, 83, 112, 108, 105, 116, 67, 97, 110].map Char.ofNat]
theorem SH : Try.prog.initOrder.toList = I_ := by
 have e : Try.prog.initOrder = String.ofList I_ := by kernel_rfl
 rw [e, String.toList_ofList]
theorem P7 : wordsSigns Try.prog.initOrder.toList = Ja := by
 rw [SH]
 kernel_rfl
def wL : List (List Char) := Ja.drop 3
theorem NF : behindMainWord (wordsSigns Try.prog.initOrder.toList) = ([99, 117, 116].map Char.ofNat) :: wL := by
 rw [P7]
 kernel_rfl
theorem abL : ([99, 117, 116].map Char.ofNat : List Char) = "cut".toList := by decide +kernel
theorem yS : behindMainWord (wordsSigns Try.prog.initOrder.toList) = "cut".toList :: wL := NF.trans (congrArg (fun c => c :: wL) abL)
theorem Gz (rest : List (List Char)) : stripLifts liftWords ("cut".toList :: rest) = ([], "cut".toList :: rest) := by
 have key : ∀ (l : List String), (l.all fun o => !("cut".toList == o.toList)) = true → stripLifts l ("cut".toList :: rest) = ([], "cut".toList :: rest) := by
  intro l
  induction l with
  | nil => intro _; rfl
  | cons o l ih =>
   intro h
   simp only [List.all_cons, Bool.and_eq_true] at h
   unfold stripLifts
   rw [if_neg (by simpa using h.1)]
   exact ih h.2
 exact key _ (by decide +kernel)
theorem ZA (P : Program) (rest : List (List Char)) (h : behindMainWord (wordsSigns P.initOrder.toList) = "cut".toList :: rest) : P.make = some .cut := by
 unfold Program.make
 rw [h]
 simp only
 have h1 : ("cut".toList == "gc".toList) = false := by decide +kernel
 have h2 : ("cut".toList == "spec".toList) = false := by decide +kernel
 rw [h1, h2, if_neg (by simp), if_pos (by simp)]
theorem VA (P : Program) (rest : List (List Char)) (h : behindMainWord (wordsSigns P.initOrder.toList) = "cut".toList :: rest) : P.headLifts = [] := by
 unfold Program.headLifts
 simp only [h, Gz]
 simp
theorem Vb (P : Program) (rest : List (List Char)) (h : behindMainWord (wordsSigns P.initOrder.toList) = "cut".toList :: rest) : P.liftsFinal = false := by
 have h1 : (some "cut".toList == some "carried".toList) = false := by decide +kernel
 unfold Program.liftsFinal
 simp only [h, VA P rest h, List.head?_cons, h1, Bool.false_and, List.contains_nil, Bool.or_false]
theorem U7 (P : Program) (rest : List (List Char)) (h : behindMainWord (wordsSigns P.initOrder.toList) = "cut".toList :: rest) (h1 : P.laysLater = false) (h2 : P.bearsReflect = false) (h3 : P.doorFits [] = true) : P.mayEnter = true := by
 unfold Program.mayEnter
 rw [h]
 simp only [Gz]
 rw [h1, h2, h3]
 simp
theorem SI : Try.prog.make = some .cut := ZA Try.prog wL yS
theorem PZ : Try.prog.liftsFinal = false := Vb Try.prog wL yS
theorem P6 : Try.prog.laysLater = false := by kernel_rfl
theorem MB : Try.prog.bearsReflect = false := by kernel_rfl
theorem SE : Try.prog.doorFits [] = true := by kernel_rfl
theorem PY : Try.prog.mayEnter = true := U7 Try.prog wL yS P6 MB SE
theorem SG : (true == Try.prog.plainKeys) = true := by kernel_rfl
theorem P5 : Try.prog.stopsHeard = true := by kernel_rfl
theorem Tq {P : Program} {f : FuncId} {fn : Func} {s : ChangeSpec} {c : OpenClaim}
  (h0 : (c.wf (OpenSpec.ofChange s)) = true)
  (h1 : (laidOutB P) = true)
  (h2 : (mapsRowed P) = true)
  (h3 : (fn.params.all (P.readableRec ·)) = true)
  (h4 : (namedTie P c.named s.vars) = true)
  (h5 : ((c.stops == [])) = true)
  (h6 : ((P.stops == [])) = true)
  (h7 : ((c.knobs == [])) = true)
  (h8 : ((P.stopKnobs == [])) = true)
  (h9 : ((c.inPlace == P.inPlace f)) = true)
  (h10 : ((c.unfollowed == P.unfollowed f)) = true)
  (h11 : ((c.recurses == P.recurses f)) = true)
  (h12 : ((c.named == P.varsNamed f)) = true)
  (h13 : ((c.maps == (fn.params.toList ++ s.plain.varTypes P).any (P.mapsRec ·))) = true)
  (h14 : ((c.ifaces == (fn.params.toList ++ s.plain.varTypes P).any (P.ifacesRec ·))) = true)
  (h15 : ((c.mapsOut == P.mapsAmong fn.resultTypes.toList)) = true)
  (h16 : ((c.loops == (fn.params.toList ++ s.plain.varTypes P).any (P.loopsFrom ·))) = true)
  (h17 : ((c.wideKeys == (fn.params.toList ++ s.plain.varTypes P ++ fn.resultTypes.toList).any (P.wideKeysFrom ·))) = true)
  (h18 : (s.vars.all (P.varReadable ·)) = true)
  (h19 : (fn.resultTypes.all (fun t => P.readableRec t && decide (t < P.types.size))) = true)
  (h20 : ((c.ifacesOut == fn.resultTypes.toList.any (P.ifacesRec ·))) = true)
  (h21 : ((c.loopsOut == fn.resultTypes.toList.any (P.loopsFrom ·))) = true)
  (h22 : ((c.plainKeys == P.plainKeys)) = true)
  (h23 : (c.shortTexts.isNone) = true)
  (h24 : (P.stopsHeard) = true)
  (h25 : (P.mayEnter) = true)
  (h26 : ((c.lifted == P.liftsFinal)) = true)
  (h27 : ((P.make == some c.make)) = true)
  (hd : c.domain.isEmpty = true) (hk : c.kinds = [])
  (h29 : ((c.pinned == c.pinnedBy)) = true)
  (h30 : ((c.veiled == (fn.params.toList ++ s.plain.varTypes P ++ fn.resultTypes.toList).any (P.veiledRec ·))) = true)
  (h31 : (c.veiledFits P fn.params.toList (fn.params.toList ++ s.plain.varTypes P ++ fn.resultTypes.toList)) = true)
  : joinedFacts P f fn s c = true := by
 unfold joinedFacts
 rw [h0, h1, h2, h3, h4, h5, h6, h7, h8, h9, h10, h11, h12, h13, h14, h15, h16, h17, h18, h19, h20, h21, h22, h23, h24, h25, h26, h27, if_pos hd, hk, h29, h30, h31]
 rfl
end Go.Proofs.Ytfdmfgaiblfbhaa.P
namespace Go.Proofs.Ytfdmfgaiblfbhaa.P
open Go.RowKit Go.Proofs.ag.aT Go.Proofs.ag.bK Go.Proofs.ag.bY
open Go.ChangeShapes Go.WideShapes Go.ChangeAt Go.Joins Go.Deep
section
variable {H : Type} {enc : TypeId × Value → H} {P : Program} {w : World} {base : Nat} {spare : Nat → Bool} {held : Bool}
theorem KT (d : DataW H) : 1 ≤ Rows.uptoBulk d := by
 cases d with
 | lit l => cases l <;> simp [Rows.uptoBulk]
 | _ => simp [Rows.uptoBulk]
theorem UM (l : List (DataW H)) : l.length ≤ Rows.uptoBulkAll l := by
 induction l with
 | nil => simp
 | cons x xs ih =>
  have := KT x
  simp only [Rows.uptoBulkAll, List.length_cons]
  omega
theorem UN {α : Type} (m : α → Nat) : ∀ (l : List α) (es : List (DataW H)), l.length = es.length → (∀ (i : Nat) (p : α) (e : DataW H), l[i]? = some p → es[i]? = some e → m p ≤ Rows.uptoBulk e) → (l.map m).sum ≤ Rows.uptoBulkAll es := by
 intro l
 induction l with
 | nil => intro es _ _; simp
 | cons x xs ih =>
  intro es hl h
  cases es with
  | nil => simp at hl
  | cons e es =>
   have h0 := h 0 x e rfl rfl
   have h1 := ih es (by simpa using hl) (fun i p e hp he => h (i + 1) p e (by simpa using hp) (by simpa using he))
   simp only [List.map_cons, List.sum_cons, Rows.uptoBulkAll]
   omega
theorem Jy {t : TypeId} {f0 f1 f2 f3 : Field} {fuel : Nat} {cs : List Value} {x : DataW H × List MemPlace} (ht : P.underlying t = some (.struct #[f0, f1, f2, f3])) (h : DataW.trod enc P w base spare held fuel t cs = some x) :
  ∃ y0 y1 y2 y3 n, fuel = n + 1 ∧ x.1 = .agg [y0.1, y1.1, y2.1, y3.1] ∧ cs.length = P.cellsOf t ∧ DataW.trod enc P w base spare held n f0.type ((cs.drop f0.offset).take (P.cellsOf f0.type)) = some y0 ∧
   DataW.trod enc P w base spare held n f1.type ((cs.drop f1.offset).take (P.cellsOf f1.type)) = some y1 ∧ DataW.trod enc P w base spare held n f2.type ((cs.drop f2.offset).take (P.cellsOf f2.type)) = some y2 ∧
   DataW.trod enc P w base spare held n f3.type ((cs.drop f3.offset).take (P.cellsOf f3.type)) = some y3 := by
 obtain ⟨xs, n, hn, rfl, hl, hlen, hf⟩ := DataW.trod_struct ht h
 match xs, hlen with
 | [y0, y1, y2, y3], _ => exact ⟨y0, y1, y2, y3, n, hn, rfl, hl, by simpa using hf 0 f0 rfl, by simpa using hf 1 f1 rfl, by simpa using hf 2 f2 rfl, by simpa using hf 3 f3 rfl⟩
theorem Jl {α : Type} {k : Kd α} {ok : α → Prop} (m : α → Nat) {t e : TypeId} {fuel : Nat} {cs : List Value} {x : DataW H × List MemPlace} (ht : P.underlying t = some (.slice e)) (hs : k.sz = P.cellsOf e)
  (hE : ∀ n, n < fuel → ∀ cs y, DataW.trod enc P w base spare held n e cs = some y → ∃ p, k.K w p cs ∧ ok p ∧ m p ≤ Rows.uptoBulk y.1) (h : DataW.trod enc P w base spare held fuel t cs = some x) :
  ∃ A c l, cs = [.slice A (l : List α).length c] ∧ l.length ≤ c ∧ k.C w A l.length l ∧ (∀ p, p ∈ l → ok p) ∧ (l.map m).sum < Rows.uptoBulk x.1 ∧ l.length < Rows.uptoBulk x.1 := by
 rcases DataW.trod_slice ht h with ⟨rfl, rfl⟩ | ⟨a, len, cap, elems, rest, n, hn, rfl, rfl, hb, hl, hm, hlen, hel, hsp, hns⟩
 ·exact ⟨none, 0, [], rfl, Nat.le_refl _, ⟨rfl, by simp, fun h => absurd h (by simp)⟩, (fun p hp => by cases hp), (by simp [Rows.uptoBulk]), (by simp [Rows.uptoBulk])⟩
 ·obtain ⟨l, hl2, hq⟩ := row_of (α := α) (Q := fun i p => ok p ∧ (∃ c, c.length = k.sz ∧ k.K w p c ∧ ∀ j u, c[j]? = some u → w.cell? (a.add (i * k.sz + j)) = some u) ∧ ∀ e, elems[i]? = some e → m p ≤ Rows.uptoBulk e.1) len (fun i hi => by
   have key := hel i hi
   rw [List.getElem?_eq_getElem (by omega)] at key
   obtain ⟨cs', h1, h2⟩ := Option.bind_eq_some_iff.1 key
   obtain ⟨p, hp, hok, hm⟩ := hE n (by omega) cs' _ h2
   obtain ⟨h3, h4⟩ := cells_at h1
   refine ⟨p, hok, ⟨cs', by rw [h3, hs], hp, fun j u hj => ?_⟩, fun e he => ?_⟩
   ·rw [hs, ← Deep.add_add]
    exact h4 j u hj
   ·rw [List.getElem?_eq_getElem (by omega)] at he
    cases he
    exact hm)
  subst hl2
  refine ⟨some a, cap, l, rfl, hl, ⟨rfl, by unfold maxLen at hm; omega, fun _ => ⟨a, rfl, fun j p hj => ?_⟩⟩, fun p hp => ?_, ?_, ?_⟩
  ·obtain ⟨_, ⟨c, h1, h2, h3⟩, _⟩ := hq j p hj
   exact ⟨c, h1, h2, h3⟩
  ·obtain ⟨i, hi, rfl⟩ := List.getElem_of_mem hp
   exact (hq i _ (List.getElem?_eq_getElem hi)).1
  ·have := UN m l (elems.map (·.1)) (by simp [hlen]) (fun i p e hp he => by
    rw [List.getElem?_map] at he
    obtain ⟨e', he', rfl⟩ := Option.map_eq_some_iff.1 he
    exact (hq i p hp).2.2 e' he')
   simp only [Rows.uptoBulk]
   omega
  ·have := UM (elems.map (·.1))
   simp only [List.length_map] at this
   simp only [Rows.uptoBulk]
   omega
end
section
variable {H : Type} {enc : TypeId × Value → H} {w : World} {base : Nat} {spare : Nat → Bool} {held : Bool}
theorem V4 : ∀ (fuel : Nat) {cs : List Value} {x : DataW H × List MemPlace} (_ : DataW.trod enc Try.prog w base spare held fuel 26 cs = some x), ∃ r : ai, (Kd.upto NR 7 [26] fuel).K w r cs ∧ Ec fuel r ∧ sz r ≤ Rows.uptoBulk x.1 := by
 intro fuel
 induction fuel using Nat.strongRecOn with
 | _ fuel ih =>
 intro cs x h
 cases fuel with
 | zero => simp [DataW.trod] at h
 | succ fuel =>
  obtain ⟨y0, y1, y2, y3, m, hm, hx, hl, h0, h1, h2, h3⟩ := Jy Try.underlying26 h
  obtain rfl : fuel = m := by omega
  rw [cells26] at hl
  match cs, hl with
  | [c0, c1, c2, c3, c4, c5, c6], _ =>
    simp only [cells3, cells5, cells23, cells24, List.drop_zero, List.take_succ_cons, List.take_zero, List.drop_succ_cons] at h0 h1 h2 h3
    obtain ⟨n0, e0, _, w0⟩ := DataW.trod_int Try.underlying5 h0
    obtain ⟨n2, e2, _, w2⟩ := DataW.trod_int Try.underlying3 h2
    simp only [List.cons.injEq, and_true] at e0 e2
    subst e0 e2
    obtain ⟨r, hr, hw⟩ := adr h1
    obtain e1 := Ff hr
    simp only [List.cons.injEq, and_true] at e1
    obtain ⟨rfl, rfl, rfl, rfl⟩ := e1
    obtain ⟨A, c, l, e3, hlc, hC, hok, hsum, _⟩ := Jl (k := Kd.upto NR 7 [26] fuel) (ok := Ec fuel) sz Try.underlying24 (by rw [QB, cells26]) (fun n hn cs y hy => by
     obtain ⟨p, hp, hok, hz⟩ := ih n (by omega) hy
     exact ⟨p, Kd.DR MR QB (by omega) hp, Nz (by omega) hok, hz⟩) h3
    simp only [List.cons.injEq, and_true] at e3
    subst e3
    have aeL : l.length ≤ 9223372036854775807 := hC.2.1
    refine ⟨⟨n0, r, n2, l⟩, ?_, ⟨Xp w0, hw, AL w2, aeL, hok⟩, ?_⟩
    ·exact ⟨[.int .u8 n0], [.int .i64 r.f0, .int .i64 r.f1, .int .i64 r.f2, .int .i64 r.f3, .int .i64 n2, .slice A l.length c], rfl, rfl, [.int .i64 r.f0, .int .i64 r.f1, .int .i64 r.f2, .int .i64 r.f3], [.int .i64 n2, .slice A l.length c], rfl, MN w r, [.int .i64 n2], [.slice A l.length c], rfl, rfl, A, c, rfl, hlc, hC⟩
    ·rw [hx, df]
     have := ZX l
     simp only [Rows.uptoBulk, Rows.uptoBulkAll]
     have h3 := KT y0.1
     omega
theorem ZN {fuel : Nat} {cs : List Value} {x : DataW H × List MemPlace} (h : DataW.trod enc Try.prog w base spare held fuel 26 cs = some x) : ∃ r : ai, k26.K w r cs ∧ adJ r ∧ sz r ≤ Rows.uptoBulk x.1 := by
 obtain ⟨r, hr, hw, hz⟩ := V4 fuel h
 exact ⟨r, ⟨fuel, hr⟩, ⟨fuel, hw⟩, hz⟩
end
end Go.Proofs.Ytfdmfgaiblfbhaa.P
namespace Go.Proofs.Ytfdmfgaiblfbhaa.AU
open Go.ChangeShapes Go.WideShapes Go.ChangeAt Go.RowKit Go.Proofs.Ytfdmfgaiblfbhaa.P Go.Proofs.ag.aT
open Go.ChangeMaps (open_string shut_string)
theorem own : ownKnob Try.prog.godebug = none := by kernel_rfl
theorem laidOut : laidOutB Try.prog = true := by kernel_rfl
theorem lifted (os : Os) (started : os.Started) (H : Type) (enc : TypeId × Value → H) (F : Stop.Interp) :
  ReturnsInHanded {} Try.checked os 30 .any ((Rows.OpenSpec.upto Rows.pushFramesSpec).pre6 enc Try.prog Try.f30 Rows.pushFramesUptoRow.domain false) (((Rows.OpenSpec.upto Rows.pushFramesSpec).at F).post enc Try.prog Try.f30 false true false false) := by
 refine returnsInHanded_of_cond (C := Try.checked) (s := Rows.OpenSpec.upto Rows.pushFramesSpec) (k := Rows.uptoSmall) rfl own started (by kernel_rfl) Try.func30
  (OpenSpec.witness (enc := enc) (C := Try.checked) (s := Rows.OpenSpec.upto Rows.pushFramesSpec) (k := Rows.uptoSmall) rfl false ⟨#[], #[.agg #[.int .u8 0, .int .i64 0, .int .i64 0, .int .i64 0, .int .i64 0, .int .i64 0, .slice none 0 0], .int .i64 0, .slice none 0 0], []⟩ 8 (by kernel_rfl) (by kernel_rfl) (by kernel_rfl)
   (x := ([.agg [.lit (.int .u8 0), .agg [.lit (.int .i64 0), .lit (.int .i64 0), .lit (.int .i64 0), .lit (.int .i64 0)], .lit (.int .i64 0), .nil], .lit (.int .i64 0), .nil], [], [])) (by kernel_rfl) rfl (by kernel_rfl)) ?_
 intro W base args ds gs before hval0 hW hcnd hk0 _
 have hval : ∀ (j : Nat) t v, Try.f30.params[j]? = some t → args[j]? = some v → Value.okWide Try.prog W .any base t v := hval0
 have hW' := hW
 obtain ⟨p, q, hA0, hV, rfl, hfz, hnd⟩ := hW
 have hA : DataW.TrodAll enc Try.prog W 0 (fun _ => true) true Try.f30.params.toList args.toList ds p := hA0
 rw [Try.params30] at hA hval
 obtain ⟨v0, vs0, d0, ds0, p0, q0, hargs, rfl, rfl, h0, r0⟩ := trodAll_cons hA
 obtain ⟨v1, vs1, d1, ds1, p1, q1, rfl, rfl, rfl, h1, r1⟩ := trodAll_cons r0
 obtain ⟨v2, vs2, d2, ds2, p2, q2, rfl, rfl, rfl, h2, r2⟩ := trodAll_cons r1
 obtain ⟨rfl, rfl, rfl⟩ := trodAll_nil r2
 obtain rfl : args = #[v0, v1, v2] := by cases args; simp_all
 obtain ⟨rfl, rfl⟩ := trodVars_none hV
 have hB := of_decide_eq_true hk0
 simp only [List.cons_append, List.nil_append, List.append_nil, Rows.uptoBulkAll] at hB
 have z0 : Rows.uptoBulk d0 ≤ 1048576 := by omega
 have z2 : Rows.uptoBulk d2 ≤ 1048576 := by omega
 have k0 := h0
 have lt0 : ∀ x ∈ p0, x.block < W.heap.size := by obtain ⟨m, hm⟩ := k0; exact DataW.trod_lt m _ _ _ hm
 obtain ⟨fuel0, hf0⟩ := h0
 obtain ⟨cs0, rfl, _⟩ := okWide_struct Try.underlying26 (hval 0 26 v0 rfl rfl)
 obtain ⟨a0, b0, w0, y0⟩ := ZN hf0
 obtain ⟨A0, c0, e0, hc0, hr0⟩ := BC b0
 obtain rfl := abe e0
 obtain ⟨a1, rfl, rfl, rfl, w1⟩ := open_int Try.underlying3 (hval 1 3 v1 rfl rfl) h1
 have k2 := h2
 have lt2 : ∀ x ∈ p2, x.block < W.heap.size := by obtain ⟨m, hm⟩ := k2; exact DataW.trod_lt m _ _ _ hm
 obtain ⟨ajz, hf2⟩ := h2
 obtain ⟨A2, aj1, cap2, rfl⟩ := okWide_slice Try.underlying113 (hval 2 113 v2 rfl rfl)
 obtain ⟨B2, c2, a2, e2, hc2, hr2, w2, s2, y2⟩ := Jl (k := Kd.int .u8) (ok := U8) (fun _ => 0) Try.underlying113 (by kernel_rfl) (fun n _ cs y hy => by obtain ⟨x, rfl, _, hw⟩ := DataW.trod_int Try.underlying5 hy; exact ⟨x, rfl, Xp hw, Nat.zero_le _⟩) hf2
 simp only [Value.cells, List.cons.injEq, Value.slice.injEq, and_true] at e2
 obtain ⟨rfl, rfl, rfl⟩ := e2
 have hP := Pure.PushFrames a0 a1 a2 w0 (Nat.le_trans y0 z0) (AL w1) (Nat.le_trans (Nat.le_of_lt y2) z2) w2
 refine (jE.calls a0.f0 a0.f1.f0 a0.f1.f1 a0.f1.f2 a0.f1.f3 a0.f2 _ _ a0.f3 a1 _ _ a2 true W hr0 hc0 hr2 hc2 hP).mono fun e W' ⟨he, af1⟩ => ?_
 have bel : Below W.heap.size W W' := af1
 subst he
 exact ⟨_, rfl, _, _, _, [], _, [], hW', trodAll_mk1 (shut_bool Try.underlying4 _), (trodAll_cons_mk (Below.trod laidOut (by kernel_rfl) (of_decide_eq_true (by kernel_rfl)) k0 bel lt0) (trodAll_cons_mk (shut_int Try.underlying3 w1) (trodAll_cons_mk (Below.trod laidOut (by kernel_rfl) (of_decide_eq_true (by kernel_rfl)) k2 bel lt2) trodAll_mk0))), rfl, bel.frame _, fun h => by cases h⟩
theorem j0 : (Rows.pushFramesUptoRow.wf (OpenSpec.ofChange (Rows.OpenSpec.upto Rows.pushFramesSpec).bare)) = true := by kernel_rfl
theorem j1 : (laidOutB Try.prog) = true := by kernel_rfl
theorem j2 : (mapsRowed Try.prog) = true := by kernel_rfl
theorem j3 : (Try.f30.params.all (Try.prog.readableRec ·)) = true := by kernel_rfl
theorem j4 : (namedTie Try.prog Rows.pushFramesUptoRow.named (Rows.OpenSpec.upto Rows.pushFramesSpec).bare.vars) = true := by kernel_rfl
theorem j5 : ((Rows.pushFramesUptoRow.stops == [])) = true := by kernel_rfl
theorem j6 : ((Try.prog.stops == [])) = true := by kernel_rfl
theorem j7 : ((Rows.pushFramesUptoRow.knobs == [])) = true := by kernel_rfl
theorem j8 : ((Try.prog.stopKnobs == [])) = true := by kernel_rfl
theorem j9 : ((Rows.pushFramesUptoRow.inPlace == Try.prog.inPlace 30)) = true := by kernel_rfl
theorem j10 : ((Rows.pushFramesUptoRow.unfollowed == Try.prog.unfollowed 30)) = true := by kernel_rfl
theorem j11 : ((Rows.pushFramesUptoRow.recurses == Try.prog.recurses 30)) = true := by kernel_rfl
theorem j12 : ((Rows.pushFramesUptoRow.named == Try.prog.varsNamed 30)) = true := by kernel_rfl
theorem j13 : ((Rows.pushFramesUptoRow.maps == (Try.f30.params.toList ++ (Rows.OpenSpec.upto Rows.pushFramesSpec).bare.plain.varTypes Try.prog).any (Try.prog.mapsRec ·))) = true := by kernel_rfl
theorem j14 : ((Rows.pushFramesUptoRow.ifaces == (Try.f30.params.toList ++ (Rows.OpenSpec.upto Rows.pushFramesSpec).bare.plain.varTypes Try.prog).any (Try.prog.ifacesRec ·))) = true := by kernel_rfl
theorem j15 : ((Rows.pushFramesUptoRow.mapsOut == Try.prog.mapsAmong Try.f30.resultTypes.toList)) = true := by kernel_rfl
theorem j16 : ((Rows.pushFramesUptoRow.loops == (Try.f30.params.toList ++ (Rows.OpenSpec.upto Rows.pushFramesSpec).bare.plain.varTypes Try.prog).any (Try.prog.loopsFrom ·))) = true := by kernel_rfl
theorem j17 : ((Rows.pushFramesUptoRow.wideKeys == (Try.f30.params.toList ++ (Rows.OpenSpec.upto Rows.pushFramesSpec).bare.plain.varTypes Try.prog ++ Try.f30.resultTypes.toList).any (Try.prog.wideKeysFrom ·))) = true := by kernel_rfl
theorem j18 : ((Rows.OpenSpec.upto Rows.pushFramesSpec).bare.vars.all (Try.prog.varReadable ·)) = true := by kernel_rfl
theorem j19 : (Try.f30.resultTypes.all (fun t => Try.prog.readableRec t && decide (t < Try.prog.types.size))) = true := by kernel_rfl
theorem j20 : ((Rows.pushFramesUptoRow.ifacesOut == Try.f30.resultTypes.toList.any (Try.prog.ifacesRec ·))) = true := by kernel_rfl
theorem j21 : ((Rows.pushFramesUptoRow.loopsOut == Try.f30.resultTypes.toList.any (Try.prog.loopsFrom ·))) = true := by kernel_rfl
theorem j23 : (Rows.pushFramesUptoRow.shortTexts.isNone) = true := by kernel_rfl
theorem j29 : ((Rows.pushFramesUptoRow.pinned == Rows.pushFramesUptoRow.pinnedBy)) = true := by kernel_rfl
theorem j30 : ((Rows.pushFramesUptoRow.veiled == (Try.f30.params.toList ++ (Rows.OpenSpec.upto Rows.pushFramesSpec).bare.plain.varTypes Try.prog ++ Try.f30.resultTypes.toList).any (Try.prog.veiledRec ·))) = true := by kernel_rfl
theorem j31 : (Rows.pushFramesUptoRow.veiledFits Try.prog Try.f30.params.toList (Try.f30.params.toList ++ (Rows.OpenSpec.upto Rows.pushFramesSpec).bare.plain.varTypes Try.prog ++ Try.f30.resultTypes.toList)) = true := by kernel_rfl
theorem closed : joinedFacts Try.prog 30 Try.f30 (Rows.OpenSpec.upto Rows.pushFramesSpec).bare Rows.pushFramesUptoRow = true := P.Tq j0 j1 j2 j3 j4 j5 j6 j7 j8 j9 j10 j11 j12 j13 j14 j15 j16 j17 j18 j19 j20 j21 P.SG j23 P.P5 P.PY (by rw [P.PZ]; rfl) (by rw [P.SI]; rfl) rfl rfl j29 j30 j31
theorem over : Rows.pushFramesUptoRow.holds Try.pinned (Rows.OpenSpec.upto Rows.pushFramesSpec) :=
 OpenClaim.holds_of_cond 30 Try.f30 rfl rfl rfl rfl rfl rfl rfl ⟨rfl, rfl, rfl, rfl, rfl⟩ rfl rfl rfl rfl rfl (by kernel_rfl) Try.func30 closed
  (of_decide_eq_true (by kernel_rfl)) (by unfold Func.isWrapper; first | (rw [if_pos (by decide +kernel)]; kernel_rfl) | (rw [if_neg (by decide +kernel)]; exact ⟨rfl, rfl⟩))
  (fun os started H enc _ F => lifted os started H enc F)
theorem proved : Rows.PushFramesUptoSaid := over
#print axioms proved
end Go.Proofs.Ytfdmfgaiblfbhaa.AU
namespace Go.Proofs.Ytfdmfgaiblfbhaa
theorem pushFramesUpto_holds : Rows.PushFramesUptoSaid := AU.proved
end Go.Proofs.Ytfdmfgaiblfbhaa
