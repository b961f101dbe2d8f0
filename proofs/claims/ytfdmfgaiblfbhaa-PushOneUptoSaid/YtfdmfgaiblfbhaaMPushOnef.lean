/- The row of the law PushOne, second form (what it reads is of bulk at most 1048576), out of its plain law and its walk. -/
import Derived.Test.YtfdmfgaiblfbhaaMPushOnee
import Derived.Test.YtfdmfgaiblfbhaaMPushOned
import Derived.Test.YtfdmfgaiblfbhaaMPushOnec
import Derived.ProofKit
import Derived.Deep.Slices
import Derived.Lib.SmallJoins
import Derived.OpenShut
import Derived.Test.YtfdmfgaiblfbhaaRows
import Derived.WalkKit
import Derived.ShutString
import Derived.ChangeOld
import Derived.Below
import Derived.SizedLaws
import Derived.JoinedCond
set_option maxHeartbeats 8000000
set_option maxRecDepth 100000
set_option linter.unusedVariables false
set_option linter.unusedSimpArgs false
namespace Go.Proofs.Ytfdmfgaiblfbhaa.P
open Go.RowKit Go.Proofs.ag.aQ Go.Proofs.ag.bu Go.Proofs.ag.bP
def xH.T6 : Bool × List (List Nat × List Nat) := (true, [([], []), ([], []), ([], []), ([0, 1, 2], [0, 1, 2]), ([], []), ([4], [4]), ([5], [5]), ([], []), ([7], [7]), ([8], [8]), ([3, 6, 9, 3], [3, 6, 9]), ([10, 10, 0, 1, 2, 3, 4, 5, 6, 7, 8, 9, 10], [10]), ([11, 0, 1, 2, 3, 4, 5, 6, 7, 8, 9, 10, 11], [])])
def xH.B6 : List Nat := [0, 0, 0, 7, 0, 16, 48, 0, 128, 384, 1023, 2047, 4095]
theorem xH.tab6 : iD .any (opsOf Try.f183 6) = xH.T6 := by kernel_rfl
theorem xH.Gf : iG xH.T6.2 xH.B6 = true := by kernel_rfl
theorem RU (ax : Int) (c : ai) (hz : sz c ≤ 1048576) (aW : Int) (P : Nat → Prop) (A : Option Addr) (cc : Nat) (w : World) (hv : Kd.V k26 26 w w.heap.size P (.slice A c.f3.length cc) c.f3) :
  Calls Try.prog 183 #[.agg #[.int .u8 c.f0, .int .i64 c.f1.f0, .int .i64 c.f1.f1, .int .i64 c.f1.f2, .int .i64 c.f1.f3, .int .i64 c.f2, .slice A c.f3.length cc], .int .u8 ax, .int .i64 aW] w (aeJ w P (aZ ax c aW) (aN ax c aW)) := by
 have S := ae.mk (St.start (ts := [(.slice A c.f3.length cc, c.f3)]) (b0 := w.heap.size) (w := w) (P := P) (fun t ht => by rw [List.mem_singleton.1 ht]; exact hv))
 have HZ := ae.mk hz
 obtain ⟨ck, ⟨cx, cy, cw, ch⟩, aT, l⟩ := c
 simp only [] at S
 clear hv hz
 cases ht : dB ⟨ck, ⟨cx, cy, cw, ch⟩, aT, l⟩ with
 | false =>
  have HB := ae.mk (show xX ax ⟨ck, ⟨cx, cy, cw, ch⟩, aT, l⟩ = true by unfold xX; rw [ht]; rfl)
  go_enter Try.func183, Try.ntmps183
  go_wp2_with (first | (refine boxS 3 _ 26 S ?_; clear S; intro b3 dQ S) | (refine boxS 6 _ 26 S ?_; clear S; intro b6 eU S; obtain ⟨bH, bC, bF, bD, dC, dD, bY⟩ := St.fA S bz) | ((with_reducible refine aC (N := 10) rfl ?_); refine sK (N := 10) rfl rfl ⟨ck, ⟨cx, cy, cw, ch⟩, aT, l⟩ S.out (S.out.tree _ (.head _)) ?hr ?_; (case hr => (go_simp; rfl)); intro U4 VA gV S1 h1 h2; replace S := ae.mk S1; have ry := ae.mk h1; have uY := ae.mk h2; clear S1 h1 h2; clear bH bC bF bD dC dD bY) | (refine bT (some 11) Try.func148 S (sQ ⟨ck, ⟨cx, cy, cw, ch⟩, aT, l⟩ HZ.out uY.out ry.out) ?_; clear S; intro ji S) | (refine ik 26 6 21 #[.int .u8 0, .int .i64 0, .int .i64 0, .int .i64 0, .int .i64 0, .int .i64 0, .slice none 0 0] 0 7 S ?_; clear S; intro mg S))
  refine bodyPost_ret (fE rfl _ _ b6 26 _ (0, 0) _ rfl (S.out.blk _ (.head _) _ rfl) Try.underlying26 rfl (by kernel_rfl)) rfl ?_
  rw [show aN ax ⟨ck, ⟨cx, cy, cw, ch⟩, aT, l⟩ aW = 1 by unfold aN; rw [if_pos HB.out], show aZ ax ⟨ck, ⟨cx, cy, cw, ch⟩, aT, l⟩ aW = z26 by unfold aZ; rw [if_pos HB.out]]
  exact ⟨_, _, rfl, Kd.yB _ _ _ _ _, S.out.below⟩
 | true =>
  have HT := ae.mk ht
  by_cases hax : ax = 1 ∨ ax = 2
  ·have HB := ae.mk (show xX ax ⟨ck, ⟨cx, cy, cw, ch⟩, aT, l⟩ = false by unfold xX; rw [ht]; rcases hax with rfl | rfl <;> rfl)
   have pz := ae.mk hax
   clear ht hax
   go_enter Try.func183, Try.ntmps183
   go_upto_region 1 with (first | (refine boxS 3 _ 26 S ?_; clear S; intro b3 dQ S) | (refine boxS 6 _ 26 S ?_; clear S; intro b6 eU S))
   (skip)
   go_cut [20] (fun v20 wc => v20 = .bool false ∧ ae (St w P [(some b6, .cells #[.int .u8 0, .int .i64 0, .int .i64 0, .int .i64 0, .int .i64 0, .int .i64 0, .slice none 0 0] 26 (0, 0)), (some b3, .cells #[.int .u8 ck, .int .i64 cx, .int .i64 cy, .int .i64 cw, .int .i64 ch, .int .i64 aT, .slice A l.length cc] 26 (0, 0))] [] [(.slice A l.length cc, l)] [] wc))
   case first =>
    by_cases h1 : ax = 1
    ·skip
     have h1b : (ax != 1) = false := by rw [h1]; rfl
     clear h1
     obtain ⟨bH, bC, bF, bD, dC, dD, bY⟩ := St.fA S bz
     go_wp2_with (first | ((with_reducible refine aC (N := 10) rfl ?_); refine sK (N := 10) rfl rfl ⟨ck, ⟨cx, cy, cw, ch⟩, aT, l⟩ S.out (S.out.tree _ (.head _)) ?hr ?_; (case hr => (go_simp; rfl)); intro U4 VA dQ S1 h1 h2; replace S := ae.mk S1; have ry := ae.mk h1; have uY := ae.mk h2; clear S1 h1 h2; clear bH bC bF bD dC dD bY) | (refine bT (some 11) Try.func148 S (ny HT.out (sQ ⟨ck, ⟨cx, cy, cw, ch⟩, aT, l⟩ HZ.out uY.out ry.out)) ?_; clear S; intro eU S))
     go_meet
     case rel => exact ⟨by rfl, S⟩
    ·skip
     have h1b : (ax != 1) = true := bne_iff_ne.mpr h1
     have h2b : (ax != 2) = false := by rw [pz.out.resolve_left h1]; rfl
     clear h1
     obtain ⟨bH, bC, bF, bD, dC, dD, bY⟩ := St.fA S bz
     go_wp2_with (first | ((with_reducible refine aC (N := 10) rfl ?_); refine sK (N := 10) rfl rfl ⟨ck, ⟨cx, cy, cw, ch⟩, aT, l⟩ S.out (S.out.tree _ (.head _)) ?hr ?_; (case hr => (go_simp; rfl)); intro U4 VA dQ S1 h1 h2; replace S := ae.mk S1; have ry := ae.mk h1; have uY := ae.mk h2; clear S1 h1 h2; clear bH bC bF bD dC dD bY) | (refine bT (some 11) Try.func148 S (ny HT.out (sQ ⟨ck, ⟨cx, cy, cw, ch⟩, aT, l⟩ HZ.out uY.out ry.out)) ?_; clear S; intro eU S))
     go_meet
     case rel => exact ⟨by rfl, S⟩
   case rest =>
    clear S
    obtain ⟨rfl, S⟩ := hcut
    rename World => wx
    have bC := (S.out.at bz 1).trans rfl
    have bD := (S.out.at bz 3).trans rfl
    have bF := (S.out.at bz 2).trans rfl
    have dC := (S.out.at bz 4).trans rfl
    go_upto_region 4 with ((refine bT (some 38) Try.func98 S (ad4 ⟨0, 0, wrap64 (cx + cw), wrap64 (cy + ch)⟩ ax) ?_; clear S; intro dQ S; clear bC bD bF dC))
    (skip)
    by_cases h4 : aW < wrap64 (-(aU ax ⟨ck, ⟨cx, cy, cw, ch⟩, aT, l⟩))
    ·have Gv : decide (aW < wrap64 (-(aU ax ⟨ck, ⟨cx, cy, cw, ch⟩, aT, l⟩))) = true := decide_eq_true h4
     have HO := ae.mk (show xY ax ⟨ck, ⟨cx, cy, cw, ch⟩, aT, l⟩ aW = true by unfold xY; rw [Gv]; rfl)
     clear h4
     obtain ⟨bH, bC, bF, bD, dC, dD, bY⟩ := St.fA S bz
     go_wp2_with (first | (refine bT (some 42) Try.func86 S (AQ ⟨ck, ⟨cx, cy, cw, ch⟩, aT, l⟩ ax HZ.out (S.out.tree _ (.head _))) ?_; clear S; intro dQ S; clear bH bC bF bD dC dD bY) | (refine ik 26 6 51 #[.int .u8 0, .int .i64 0, .int .i64 0, .int .i64 0, .int .i64 0, .int .i64 0, .slice none 0 0] 0 7 S ?_; clear S; intro eU S))
     refine bodyPost_ret (fE rfl _ _ b6 26 _ (0, 0) _ rfl (S.out.blk _ (.head _) _ rfl) Try.underlying26 rfl (by kernel_rfl)) rfl ?_
     rw [show aN ax ⟨ck, ⟨cx, cy, cw, ch⟩, aT, l⟩ aW = 7 by unfold aN; rw [if_neg (by rw [HB.out]; simp), if_pos HO.out], show aZ ax ⟨ck, ⟨cx, cy, cw, ch⟩, aT, l⟩ aW = z26 by unfold aZ; rw [if_neg (by rw [HB.out]; simp), if_pos HO.out]]
     exact ⟨_, _, rfl, Kd.yB _ _ _ _ _, S.out.below⟩
    ·have Gv : decide (aW < wrap64 (-(aU ax ⟨ck, ⟨cx, cy, cw, ch⟩, aT, l⟩))) = false := decide_eq_false h4
     by_cases h5 : aW > wrap64 (10000 - (aV ax ⟨0, 0, wrap64 (cx + cw), wrap64 (cy + ch)⟩))
     ·have Me : decide (aW > wrap64 (10000 - (aV ax ⟨0, 0, wrap64 (cx + cw), wrap64 (cy + ch)⟩))) = true := decide_eq_true h5
      have SX : decide (wrap64 (10000 - (aV ax ⟨0, 0, wrap64 (cx + cw), wrap64 (cy + ch)⟩)) < aW) = true := decide_eq_true h5
      have HO := ae.mk (show xY ax ⟨ck, ⟨cx, cy, cw, ch⟩, aT, l⟩ aW = true by unfold xY; rw [Gv]; exact Me)
      clear h4 h5
      obtain ⟨bH, bC, bF, bD, dC, dD, bY⟩ := St.fA S bz
      go_wp2_with (first | (refine bT (some 42) Try.func86 S (AQ ⟨ck, ⟨cx, cy, cw, ch⟩, aT, l⟩ ax HZ.out (S.out.tree _ (.head _))) ?_; clear S; intro dQ S; clear bH bC bF bD dC dD bY) | (refine ik 26 6 51 #[.int .u8 0, .int .i64 0, .int .i64 0, .int .i64 0, .int .i64 0, .int .i64 0, .slice none 0 0] 0 7 S ?_; clear S; intro eU S))
      refine bodyPost_ret (fE rfl _ _ b6 26 _ (0, 0) _ rfl (S.out.blk _ (.head _) _ rfl) Try.underlying26 rfl (by kernel_rfl)) rfl ?_
      rw [show aN ax ⟨ck, ⟨cx, cy, cw, ch⟩, aT, l⟩ aW = 7 by unfold aN; rw [if_neg (by rw [HB.out]; simp), if_pos HO.out], show aZ ax ⟨ck, ⟨cx, cy, cw, ch⟩, aT, l⟩ aW = z26 by unfold aZ; rw [if_neg (by rw [HB.out]; simp), if_pos HO.out]]
      exact ⟨_, _, rfl, Kd.yB _ _ _ _ _, S.out.below⟩
     ·have Me : decide (aW > wrap64 (10000 - (aV ax ⟨0, 0, wrap64 (cx + cw), wrap64 (cy + ch)⟩))) = false := decide_eq_false h5
      have SX : decide (wrap64 (10000 - (aV ax ⟨0, 0, wrap64 (cx + cw), wrap64 (cy + ch)⟩)) < aW) = false := decide_eq_false h5
      have HO := ae.mk (show xY ax ⟨ck, ⟨cx, cy, cw, ch⟩, aT, l⟩ aW = false by unfold xY; rw [Gv]; exact Me)
      have hf := agz HB.out HO.out
      have HZ2 := ae.mk (show sz ⟨ck, ⟨cx, cy, cw, ch⟩, aT, l⟩ ≤ 100000 by omega)
      have HZ3 := ae.mk (show sz (fK ax ⟨ck, ⟨cx, cy, cw, ch⟩, aT, l⟩ aW) ≤ 1000000 by rw [(abQ ax _).1 _ (Nat.le_refl _)]; omega)
      have HBY := ae.mk (show -2147483647 ≤ aW ∧ aW ≤ 2147483647 by omega)
      clear hf h4 h5
      obtain ⟨bH, bC, bF, bD, dC, dD, bY⟩ := St.fA S bz
      go_wp2_with ((refine bT (some 42) Try.func86 S (AQ ⟨ck, ⟨cx, cy, cw, ch⟩, aT, l⟩ ax HZ.out (S.out.tree _ (.head _))) ?_; clear S; intro dQ S; clear bH bC bF bD dC dD bY))
      refine iT (n := 13) (S := fun w' => St w _ _ _ _ _ w') (ds := [11]) (bA 13 0) (by kernel_rfl) rfl rfl (S.out.call (bg (Below.refl _ _))) (fun hHeld => ?_); refine eP xH.tab6 xH.Gf (fun aj dW => ?_)
      replace S := ae.mk (S.out.call (bg (Below.refl _ _)))
      generalize dQ.drew = wd2 at S hHeld ⊢
      refine dO 0 52 (bA 13 1) aj dW hHeld ?_ (hv := by intro w' hs_; have bH := (hs_.at bz 0).trans rfl; have bC := (hs_.at bz 1).trans rfl; have bF := (hs_.at bz 2).trans rfl; have bD := (hs_.at bz 3).trans rfl; have dC := (hs_.at bz 4).trans rfl; have dD := (hs_.at bz 5).trans rfl; have bY := (hs_.at bz 6).trans rfl; go_simp; with_reducible rfl)
      refine au 1 53 (bA 13 3) aj ?_
      refine au 2 54 (bA 13 7) aj ?_
      refine au 4 56 (bA 13 23) aj ?_
      refine au 5 57 (bA 13 55) aj ?_
      refine dO 6 58 (bA 13 119) aj dW hHeld ?_ (hv := by intro w' hs_; have bC := (hs_.at bz 1).trans rfl; go_simp; with_reducible rfl)
      refine au 7 59 (bA 13 247) aj ?_
      refine au 8 60 (bA 13 503) aj ?_
      refine dO 9 61 (bA 13 1015) aj dW hHeld ?_ (hv := by intro w' hs_; have bF := (hs_.at bz 2).trans rfl; go_simp; with_reducible rfl)
      refine jf 3 (some 55) (bA 13 1023) aj (fun K hK => ?_)
      refine jH Try.func199 (by kernel_rfl) rfl #[.agg #[.int .u8 ck, .int .i64 cx, .int .i64 cy, .int .i64 cw, .int .i64 ch, .int .i64 aT, .slice A l.length cc], .int .u8 ax, .int .i64 aW] (by rfl) rfl rfl (by (try simp only [List.map_toArray, List.map_cons, List.map_nil]); rfl) ?_
      refine (abO ax 100000 ⟨ck, ⟨cx, cy, cw, ch⟩, aT, l⟩ HZ2.out (Nat.le_refl _) aW HBY.out _ A cc _ (gQ (S.out.tree _ (.head _)))).mono ?_
      rintro e gV ⟨A55, agF, rfl, h1, hb⟩
      refine ⟨_, rfl, ?_⟩
      replace S := ae.mk (S.out.res (Kd.qF (base' := 0) h1) hb)
      clear h1 hb
      refine hK.out _ _ S.out.dG (fun hHeld => ?_)
      clear hK K
      refine dK 55 ?_
      refine jf 10 (some 62) (bA 13 2047) aj (fun K hK => ?_)
      refine jH Try.func66 (by kernel_rfl) rfl #[.agg #[.int .u8 ((fK ax ⟨ck, ⟨cx, cy, cw, ch⟩, aT, l⟩ aW).f0), .int .i64 ((fK ax ⟨ck, ⟨cx, cy, cw, ch⟩, aT, l⟩ aW).f1.f0), .int .i64 ((fK ax ⟨ck, ⟨cx, cy, cw, ch⟩, aT, l⟩ aW).f1.f1), .int .i64 ((fK ax ⟨ck, ⟨cx, cy, cw, ch⟩, aT, l⟩ aW).f1.f2), .int .i64 ((fK ax ⟨ck, ⟨cx, cy, cw, ch⟩, aT, l⟩ aW).f1.f3), .int .i64 ((fK ax ⟨ck, ⟨cx, cy, cw, ch⟩, aT, l⟩ aW).f2), .slice A55 ((fK ax ⟨ck, ⟨cx, cy, cw, ch⟩, aT, l⟩ aW).f3.length) agF], .int .i64 cx, .int .i64 cy] (by rfl) rfl rfl (by (try simp only [List.map_toArray, List.map_cons, List.map_nil]); rfl) ?_
      refine (JW (fK ax ⟨ck, ⟨cx, cy, cw, ch⟩, aT, l⟩ aW) cx cy HZ3.out (S.out.tree _ (.head _))).mono ?_
      rintro e ji ⟨A62, Vw, rfl, h1, hb⟩
      refine ⟨_, rfl, ?_⟩
      replace S := ae.mk (S.out.yj h1 hb)
      clear h1 hb
      refine hK.out _ _ S.out.free.dG.dG (fun hHeld => ?_)
      clear hK K
      refine dK 62 ?_
      refine nT 11 none (bA 13 4095) aj (fun K hK => ?_)
      refine n_ 0 rfl 26 (.tmp 6) (.tmp 62) rfl #[.int .u8 ((b_ (fK ax ⟨ck, ⟨cx, cy, cw, ch⟩, aT, l⟩ aW) cx cy).f0), .int .i64 ((b_ (fK ax ⟨ck, ⟨cx, cy, cw, ch⟩, aT, l⟩ aW) cx cy).f1.f0), .int .i64 ((b_ (fK ax ⟨ck, ⟨cx, cy, cw, ch⟩, aT, l⟩ aW) cx cy).f1.f1), .int .i64 ((b_ (fK ax ⟨ck, ⟨cx, cy, cw, ch⟩, aT, l⟩ aW) cx cy).f1.f2), .int .i64 ((b_ (fK ax ⟨ck, ⟨cx, cy, cw, ch⟩, aT, l⟩ aW) cx cy).f1.f3), .int .i64 ((b_ (fK ax ⟨ck, ⟨cx, cy, cw, ch⟩, aT, l⟩ aW) cx cy).f2), .slice A62 ((b_ (fK ax ⟨ck, ⟨cx, cy, cw, ch⟩, aT, l⟩ aW) cx cy).f3.length) Vw] (j := 0) (u := .agg #[.int .u8 ((b_ (fK ax ⟨ck, ⟨cx, cy, cw, ch⟩, aT, l⟩ aW) cx cy).f0), .int .i64 ((b_ (fK ax ⟨ck, ⟨cx, cy, cw, ch⟩, aT, l⟩ aW) cx cy).f1.f0), .int .i64 ((b_ (fK ax ⟨ck, ⟨cx, cy, cw, ch⟩, aT, l⟩ aW) cx cy).f1.f1), .int .i64 ((b_ (fK ax ⟨ck, ⟨cx, cy, cw, ch⟩, aT, l⟩ aW) cx cy).f1.f2), .int .i64 ((b_ (fK ax ⟨ck, ⟨cx, cy, cw, ch⟩, aT, l⟩ aW) cx cy).f1.f3), .int .i64 ((b_ (fK ax ⟨ck, ⟨cx, cy, cw, ch⟩, aT, l⟩ aW) cx cy).f2), .slice A62 ((b_ (fK ax ⟨ck, ⟨cx, cy, cw, ch⟩, aT, l⟩ aW) cx cy).f3.length) Vw]) (bG := [.int .u8 ((b_ (fK ax ⟨ck, ⟨cx, cy, cw, ch⟩, aT, l⟩ aW) cx cy).f0), .int .i64 ((b_ (fK ax ⟨ck, ⟨cx, cy, cw, ch⟩, aT, l⟩ aW) cx cy).f1.f0), .int .i64 ((b_ (fK ax ⟨ck, ⟨cx, cy, cw, ch⟩, aT, l⟩ aW) cx cy).f1.f1), .int .i64 ((b_ (fK ax ⟨ck, ⟨cx, cy, cw, ch⟩, aT, l⟩ aW) cx cy).f1.f2), .int .i64 ((b_ (fK ax ⟨ck, ⟨cx, cy, cw, ch⟩, aT, l⟩ aW) cx cy).f1.f3), .int .i64 ((b_ (fK ax ⟨ck, ⟨cx, cy, cw, ch⟩, aT, l⟩ aW) cx cy).f2), .slice A62 ((b_ (fK ax ⟨ck, ⟨cx, cy, cw, ch⟩, aT, l⟩ aW) cx cy).f3.length) Vw]) S.out (by rfl) rfl rfl rfl rfl (by kernel_rfl) (by simp [Value.oneCell']) (by simp) rfl ?_
      intro mg S1
      simp only [List.set_cons_zero, List.set_cons_succ] at S1
      replace S := ae.mk S1
      clear S1
      refine hK.out _ _ ?_
      clear hK K
      refine au 12 7 (bA 13 8191) aj ?_
      refine jG (gK aj.out (by kernel_rfl)) ?_
      clear hHeld
      go_wp2
      refine bodyPost_ret (fE rfl _ _ b6 26 _ (0, 0) _ rfl (S.out.blk _ (.head _) _ rfl) Try.underlying26 rfl (by kernel_rfl)) rfl ?_
      rw [show aN ax ⟨ck, ⟨cx, cy, cw, ch⟩, aT, l⟩ aW = 0 by unfold aN; rw [if_neg (by rw [HB.out]; simp), if_neg (by rw [HO.out]; simp)], show aZ ax ⟨ck, ⟨cx, cy, cw, ch⟩, aT, l⟩ aW = b_ (fK ax ⟨ck, ⟨cx, cy, cw, ch⟩, aT, l⟩ aW) cx cy by unfold aZ; rw [if_neg (by rw [HB.out]; simp), if_neg (by rw [HO.out]; simp)]]
      exact ⟨_, _, rfl, S.out.yg, S.out.below⟩
  ·have h1b : (ax != 1) = true := bne_iff_ne.mpr (fun h => hax (.inl h))
   have h2b : (ax != 2) = true := bne_iff_ne.mpr (fun h => hax (.inr h))
   have HB := ae.mk (show xX ax ⟨ck, ⟨cx, cy, cw, ch⟩, aT, l⟩ = true by unfold xX; rw [ht, h1b, h2b]; rfl)
   clear hax
   go_enter Try.func183, Try.ntmps183
   go_wp2_with (first | (refine boxS 3 _ 26 S ?_; clear S; intro b3 dQ S) | (refine boxS 6 _ 26 S ?_; clear S; intro b6 eU S; obtain ⟨bH, bC, bF, bD, dC, dD, bY⟩ := St.fA S bz) | ((with_reducible refine aC (N := 10) rfl ?_); refine sK (N := 10) rfl rfl ⟨ck, ⟨cx, cy, cw, ch⟩, aT, l⟩ S.out (S.out.tree _ (.head _)) ?hr ?_; (case hr => (go_simp; rfl)); intro U4 VA gV S1 h1 h2; replace S := ae.mk S1; have ry := ae.mk h1; have uY := ae.mk h2; clear S1 h1 h2; clear bH bC bF bD dC dD bY) | (refine bT (some 11) Try.func148 S (sQ ⟨ck, ⟨cx, cy, cw, ch⟩, aT, l⟩ HZ.out uY.out ry.out) ?_; clear S; intro ji S) | (refine ik 26 6 21 #[.int .u8 0, .int .i64 0, .int .i64 0, .int .i64 0, .int .i64 0, .int .i64 0, .slice none 0 0] 0 7 S ?_; clear S; intro mg S))
   refine bodyPost_ret (fE rfl _ _ b6 26 _ (0, 0) _ rfl (S.out.blk _ (.head _) _ rfl) Try.underlying26 rfl (by kernel_rfl)) rfl ?_
   rw [show aN ax ⟨ck, ⟨cx, cy, cw, ch⟩, aT, l⟩ aW = 1 by unfold aN; rw [if_pos HB.out], show aZ ax ⟨ck, ⟨cx, cy, cw, ch⟩, aT, l⟩ aW = z26 by unfold aZ; rw [if_pos HB.out]]
   exact ⟨_, _, rfl, Kd.yB _ _ _ _ _, S.out.below⟩
end Go.Proofs.Ytfdmfgaiblfbhaa.P
namespace Go.Proofs.Ytfdmfgaiblfbhaa.P
open Go.RowKit Go.Proofs.ag.aQ Go.Proofs.ag.bu Go.Proofs.ag.bP
attribute [local go_sem] jo jC jU kH jS jT kU kW
def DR.f (k : Nat) (a0 : Int) (a1 : Int) : Option (List Int × Bool) := if a1 < 1 then (some (([] : List Int), false)) else (if a1 > 20000 then (some (([] : List Int), false)) else (if a0 < (wrap64 ((wrap64 (2 * a1)) - 1)) then (some (([] : List Int), false)) else (if a0 > 2147483647 then (some (([] : List Int), false)) else (if 0 ≤ a1 then (if (a1 : Int).toNat ≤ 35184372088832 then ((bf.f k (wrap64 ((wrap64 (a0 - a1)) + 1)) (List.replicate (a1 : Int).toNat 0)).bind fun aeT => (some (aeT.1, true))) else (none)) else (none)))))
def XZ.f (k : Nat)  : Option (Bool) := (DR.f k 80 3).bind fun XA => ((DR.f k 8 3).bind fun XB => (if XA.2 = true then (if XB.2 = true then ((lV.f k XA.1 (([26, 26, 26] : List Int))).bind fun ag7 => (if ag7 = true then ((lV.f k XB.1 (([2, 2, 2] : List Int))).bind fun ag8 => (some ag8)) else (some false))) else (some false)) else (some false)))
mutual
def jv.j0 : Nat → Int → Int → List Int → Bool → Option (List Int × Bool)
 | 0, _, _, _, _ => none
 | k + 1, x0, x1, x6, x27 => if x27 = true then (some (x6, false)) else (if x1 = 0 then (none) else (jv.l0 k x1 x6 (wrap64 (Int.tdiv (wrap64 (x0 - (wrap64 (x1 - 1)))) x1)) (Int.tmod (wrap64 (x0 - (wrap64 (x1 - 1)))) x1) 0))
def jv.l0 : Nat → Int → List Int → Int → Int → Int → Option (List Int × Bool)
 | 0, _, _, _, _, _ => none
 | k + 1, x1, x6, x7, x8, x9 => if x9 < x1 then (if x9 < x8 then (if x6.length < 17592186044416 then (jv.l0 k x1 (x6 ++ [wrap64 (x7 + 1)]) x7 x8 (wrap64 (x9 + 1))) else (none)) else (if x6.length < 17592186044416 then (jv.l0 k x1 (x6 ++ [x7]) x7 x8 (wrap64 (x9 + 1))) else (none))) else (some (x6, true))
end
def jv.f (k : Nat) (a0 : Int) (a1 : Int) : Option (List Int × Bool) := (some (([] : List Int) : List Int)).bind fun Q7 => (if a1 < 1 then (jv.j0 k a0 a1 Q7 true) else (if a1 > 20000 then (jv.j0 k a0 a1 Q7 true) else (if a0 < (wrap64 ((wrap64 (2 * a1)) - 1)) then (jv.j0 k a0 a1 Q7 true) else (jv.j0 k a0 a1 Q7 (decide (a0 > 2147483647))))))
end Go.Proofs.Ytfdmfgaiblfbhaa.P
namespace Go.Proofs.Ytfdmfgaiblfbhaa.Pure
open Go.RowKit Go.Proofs.Ytfdmfgaiblfbhaa.P Go.Proofs.ag.aQ Go.Proofs.ag.bu Go.Proofs.ag.bP
end Go.Proofs.Ytfdmfgaiblfbhaa.Pure
namespace Go.Proofs.Ytfdmfgaiblfbhaa.P
open Go.RowKit Go.Proofs.ag.aQ Go.Proofs.ag.bu Go.Proofs.ag.bP
theorem ad1 : ∀ (N : Nat), (∀ c : ai, sz c ≤ N → ∀ x y, sz (b_ c x y) = sz c) ∧ (∀ l : List ai, dN l ≤ N → ∀ a x y, dN (jg a l x y) = dN l) := by
 intro N
 induction N with
 | zero => exact ⟨fun c h => by rw [bZ] at h; omega, fun l h a x y => by cases l with
  | nil => rw [lW]
  | cons k ks => rw [bU] at h; have := bZ k; omega⟩
 | succ N ih =>
  have hC : ∀ c : ai, sz c ≤ N + 1 → ∀ x y, sz (b_ c x y) = sz c := fun c h x y => by
   rw [jV, bZ, bZ c]
   show 1 + dN (jg c.f0 c.f3 x y) = _
   rw [ih.2 c.f3 (by rw [bZ] at h; omega)]
  refine ⟨hC, fun l => ?_⟩
  induction l with
  | nil => intro _ a x y; rw [lW]
  | cons k ks ihl =>
   intro h a x y
   rw [ni, bU, bU]
   rw [bU] at h
   rw [hC k (by omega), ihl (by omega)]
section
variable {W : World} {b : Nat} {P : Nat → Prop} {A : Option Addr} {cc : Nat}
end
theorem wS {W W1 : World} {Q : Nat → Value → Prop} {ad : Nat → Addr} (h : ∀ (j : Nat) (u : Value), Q j u → W.cell? (ad j) = some u) (hb : Below W.heap.size W W1) : ∀ (j : Nat) (u : Value), Q j u → W1.cell? (ad j) = some u :=
 fun j u hq => (hb.cell (World.block_lt_of_cell? W _ (h j u hq))).trans (h j u hq)
def xI.T0 : Bool × List (List Nat × List Nat) := (true, [([], []), ([0], [0]), ([1], [1]), ([2], [2]), ([3], [3]), ([], []), ([], []), ([6], [6]), ([7], [7]), ([8], [8]), ([9], [9]), ([], []), ([10, 11], [10, 11]), ([12], [12]), ([13], [13]), ([], []), ([15], [15]), ([16], [16]), ([17], [17]), ([], []), ([14, 18, 19, 14], [14, 18, 19]), ([20], [20]), ([21], [21]), ([21], [21]), ([4, 5, 0, 1, 2, 3, 4, 5, 6, 7, 8, 9, 10, 11, 12, 13, 14, 15, 16, 17, 18, 19, 20, 21, 22], [4, 5]), ([24, 22, 20, 0, 1, 2, 3, 4, 5, 6, 7, 8, 9, 10, 11, 12, 13, 14, 15, 16, 17, 18, 19, 20, 21, 22], [22, 24])])
def xI.B0 : List Nat := [0, 1, 3, 7, 15, 0, 0, 64, 192, 448, 960, 0, 4032, 8128, 16320, 0, 32768, 98304, 229376, 0, 1048512, 2097088, 4194240, 4194240, 8388607, 25165823]
theorem xI.ag' : iD .any (opsOf Try.f186 0) = xI.T0 := by kernel_rfl
theorem xI.aeQ : iG xI.T0.2 xI.B0 = true := by kernel_rfl
theorem xq {w W : World} {P : Nat → Prop} {bs : List (Option Nat × Obj)} {ts : List (Value × List ai)} {ro : List (Addr × Value)} {g gr cap : Nat} {fk fx fy fw fh zI ax : Int} {VP : Value} {q : Nat} {L : List ai} (i : Nat) (n : Int) (hi : i < L.length) (hz : dN L ≤ 1000000)
  (S0 : St w P ((some g, .cells #[.int .u8 fk, .int .i64 fx, .int .i64 fy, .int .i64 fw, .int .i64 fh, .int .i64 zI, .slice (some ⟨gr, 0, none⟩) L.length cap, VP, .int .i64 (q : Int), .int .u8 ax] 147 (0, 0)) :: bs) [(.slice (some ⟨gr, 0, none⟩) L.length cap, L)] (ts) (ro) W) :
  Calls Try.prog 186 #[.pointer (some ⟨g, 0, none⟩), .int .i64 (i : Int), .int .i64 n] W fun e w' => e = .returned (.tuple #[]) ∧ St w P ((some g, .cells #[.int .u8 fk, .int .i64 fx, .int .i64 fy, .int .i64 fw, .int .i64 fh, .int .i64 zI, .slice (some ⟨gr, 0, none⟩) L.length cap, VP, .int .i64 (q : Int), .int .u8 ax] 147 (0, 0)) :: bs) [(.slice (some ⟨gr, 0, none⟩) L.length cap, (dL ax i n L))] (ts) (ro) w' := by
 have S := ae.mk S0
 clear S0
 have hi1 : (i : Int) < (L.length : Int) := by omega
 have HI1 := ae.mk hi1
 obtain ⟨ua, uc, S1, hcell⟩ := S.out.HY (i : Int) (Int.natCast_nonneg _) hi1
 rw [Eg] at S1 hcell
 simp only [Int.toNat_natCast] at hcell
 have lK := ae.mk (show sz (kd L i) ≤ 1000000 by have := xC (rP hi); omega)
 have Oh := ae.mk (show sz (b_ (kd L i) 0 0) ≤ 1048576 by rw [(ad1 (sz (kd L i))).1 _ (Nat.le_refl _)]; have := lK.out; omega)
 unfold dL
 generalize kd L i = k at S1 hcell lK Oh ⊢
 replace S := ae.mk S1
 have Eo := ae.mk hcell
 clear S1 hcell hz hi
 go_enter Try.func186, Try.ntmps186
 go_wp2
 refine iT (n := 26) (S := fun w' => St w _ _ _ _ _ w' ∧ ∀ (j : Nat) (u : Value), (kT k ua uc)[j]? = some u → w'.cell? ⟨gr, i * 7 + j, none⟩ = some u) (ds := [25]) (bA 26 0) (by kernel_rfl) rfl rfl ⟨S.out.call (bg (Below.refl _ _)), wS Eo.out (bg (Below.refl _ _))⟩ (fun hHeld => ?_); refine eP xI.ag' xI.aeQ (fun aj dW => ?_)
 replace S := ae.mk (S.out.call (bg (Below.refl _ _)))
 replace Eo := ae.mk (wS Eo.out (bg (Below.refl _ _)))
 generalize W.drew = Cj at S Eo hHeld ⊢
 refine au 0 7 (bA 26 1) aj ?_
 refine au 1 8 (bA 26 3) aj ?_
 refine au 2 9 (bA 26 7) aj ?_
 refine au 3 10 (bA 26 15) aj ?_
 refine dO 4 11 (bA 26 31) aj dW hHeld ?_ (hv := by intro w' hs_; have agH := (hs_.1.at (.head _) 6).trans rfl; go_simp; with_reducible rfl)
 refine au 5 12 (bA 26 63) aj ?_
 refine au 6 13 (bA 26 127) aj ?_
 refine au 7 14 (bA 26 255) aj ?_
 refine au 8 15 (bA 26 511) aj ?_
 refine au 9 16 (bA 26 1023) aj ?_
 refine dO 10 17 (bA 26 2047) aj dW hHeld ?_ (hv := by intro w' hs_; have agH := (hs_.1.at (.head _) 6).trans rfl; go_simp; with_reducible rfl)
 refine au 11 18 (bA 26 4095) aj ?_
 refine au 12 19 (bA 26 8191) aj ?_
 refine dO 13 20 (bA 26 16383) aj dW hHeld ?_ (hv := by intro w' hs_; have xe0 := (show w'.cell? ⟨gr, i * 7, none⟩ = some (.int .u8 k.f0) from hs_.2 0 _ rfl); have xe1 := (show w'.cell? ⟨gr, i * 7 + 1, none⟩ = some (.int .i64 k.f1.f0) from hs_.2 1 _ rfl); have xe2 := (show w'.cell? ⟨gr, i * 7 + 2, none⟩ = some (.int .i64 k.f1.f1) from hs_.2 2 _ rfl); have xe3 := (show w'.cell? ⟨gr, i * 7 + 3, none⟩ = some (.int .i64 k.f1.f2) from hs_.2 3 _ rfl); have xe4 := (show w'.cell? ⟨gr, i * 7 + 4, none⟩ = some (.int .i64 k.f1.f3) from hs_.2 4 _ rfl); have xe5 := (show w'.cell? ⟨gr, i * 7 + 5, none⟩ = some (.int .i64 k.f2) from hs_.2 5 _ rfl); have xe6 := (show w'.cell? ⟨gr, i * 7 + 6, none⟩ = some (.slice ua k.f3.length uc) from hs_.2 6 _ rfl); go_simp; with_reducible rfl)
 refine au 15 22 (bA 26 49151) aj ?_
 refine au 16 23 (bA 26 114687) aj ?_
 refine au 17 24 (bA 26 245759) aj ?_
 refine dO 18 25 (bA 26 507903) aj dW hHeld ?_ (hv := by intro w' hs_; have akk := (hs_.1.at (.head _) 9).trans rfl; go_simp; with_reducible rfl)
 refine au 19 26 (bA 26 1032191) aj ?_
 refine jf 14 (some 21) (bA 26 1048575) aj (fun K hK => ?_)
 refine yF Try.func66 #[.agg #[.int .u8 k.f0, .int .i64 k.f1.f0, .int .i64 k.f1.f1, .int .i64 k.f1.f2, .int .i64 k.f1.f3, .int .i64 k.f2, .slice ua k.f3.length uc], .int .i64 0, .int .i64 0] ?_
 refine (JW k 0 0 lK.out (S.out.tree _ (.head _))).mono ?_
 rintro e eU ⟨A1, c1, rfl, h1, hb⟩
 refine ⟨_, rfl, ?_⟩
 replace Eo := ae.mk (wS Eo.out hb)
 replace S := ae.mk (S.out.res (Kd.qF (base' := 0) h1) hb)
 clear h1 hb
 refine hK.out _ _ ⟨S.out.dG, Eo.out⟩ (fun hHeld => ?_)
 clear hK K
 refine dK 21 ?_
 refine jf 20 (some 27) (bA 26 2097151) aj (fun K hK => ?_)
 refine yF Try.func183 #[.agg #[.int .u8 ((b_ k 0 0).f0), .int .i64 ((b_ k 0 0).f1.f0), .int .i64 ((b_ k 0 0).f1.f1), .int .i64 ((b_ k 0 0).f1.f2), .int .i64 ((b_ k 0 0).f1.f3), .int .i64 ((b_ k 0 0).f2), .slice A1 ((b_ k 0 0).f3.length) c1], .int .u8 ax, .int .i64 n] ?_
 refine (RU ax (b_ k 0 0) Oh.out n _ _ _ _ (gQ (S.out.tree _ (.head _)))).mono ?_
 rintro e gV ⟨A2, c2, rfl, h1, hb⟩
 refine ⟨_, rfl, ?_⟩
 replace Eo := ae.mk (wS Eo.out hb)
 replace S := ae.mk (S.out.res (Kd.qF (base' := 0) h1) hb)
 clear h1 hb
 refine hK.out _ _ ⟨S.out.dG.dG, Eo.out⟩ (fun hHeld => ?_)
 clear hK K
 refine dK 27 ?_
 refine au 21 6 (bA 26 4194303) aj ?_
 refine au 22 28 (bA 26 8388607) aj ?_
 refine au 23 29 (bA 26 16777215) aj ?_
 refine au 24 30 (bA 26 33554431) aj ?_
 refine nT 25 none (bA 26 67108863) aj (fun K hK => ?_)
 refine Pv (i : Int) (xZ ax n k) (.tmp 30) (.tmp 28) rfl S.out (by rfl) rfl (Int.natCast_nonneg _) HI1.out (by first | rfl | (go_simp; rfl)) rfl (by kernel_rfl) (.head _) ?_
 intro ji S1
 rw [Int.toNat_natCast] at S1
 replace S := ae.mk S1
 clear S1
 refine hK.out _ _ ?_
 clear hK K
 refine jG (gK aj.out (by kernel_rfl)) ?_
 clear hHeld
 go_wp2
 (try simp only [Exit.inBlock, Exit.then])
 refine bodyPost_end (results_none rfl _ _ _) rfl ?_
 exact ⟨rfl, S.out.dG.dG.dG⟩
end Go.Proofs.Ytfdmfgaiblfbhaa.P
namespace Go.Proofs.Ytfdmfgaiblfbhaa.P
open Go.RowKit Go.Proofs.ag.aQ Go.Proofs.ag.bu Go.Proofs.ag.bP
attribute [local go_sem] jo jU jC kH
def oO (b : Int) : Int := if 0 < b then b else if b < -2147483647 then 2147483647 else -b
theorem Ea {ax : Int} {q : Nat} {m : Bool} {L : List ai} {i : Nat} {args : Array Value} {W : World} (h : mJ ax q m L = some i) (hc : Calls Try.prog 185 args W fun e w' => e = .returned (.int .i64 (V7 (mJ ax q m L))) ∧ Below W.heap.size W w') : Calls Try.prog 185 args W fun e w' => e = .returned (.int .i64 (i : Int)) ∧ Below W.heap.size W w' := by
 rw [h] at hc
 exact hc
theorem OE {ax : Int} {q : Nat} {m : Bool} {L : List ai} {args : Array Value} {W : World} (h : mJ ax q m L = none) (hc : Calls Try.prog 185 args W fun e w' => e = .returned (.int .i64 (V7 (mJ ax q m L))) ∧ Below W.heap.size W w') : Calls Try.prog 185 args W fun e w' => e = .returned (.int .i64 (-1)) ∧ Below W.heap.size W w' := by
 rw [h] at hc
 exact hc
theorem aao {w W : World} {P : Nat → Prop} {bs : List (Option Nat × Obj)} {ts : List (Value × List ai)} {ro : List (Addr × Value)} {g gr cap : Nat} {fk fx fy fw fh zI ax s : Int} {VP : Value} {q : Nat} {L : List ai} (aW : Int) (hax : ax = 1 ∨ ax = 2) (hg : qR ax s L) (hq : q + 1 < L.length) (hz : dN L ≤ 1000000) (hb : -9223372036854775808 ≤ aW ∧ aW ≤ 9223372036854775807)
  (S0 : St w P ((some g, .cells #[.int .u8 fk, .int .i64 fx, .int .i64 fy, .int .i64 fw, .int .i64 fh, .int .i64 zI, .slice (some ⟨gr, 0, none⟩) L.length cap, VP, .int .i64 (q : Int), .int .u8 ax] 147 (0, 0)) :: bs) [(.slice (some ⟨gr, 0, none⟩) L.length cap, L)] (ts) (ro) W) :
  Calls Try.prog 158 #[.pointer (some ⟨g, 0, none⟩), .int .i64 aW] W fun e w' => e = .returned (.int .i64 (if decide (0 < aW) = true then (ig ax q (decide (0 < aW)) (oO aW) 10001 L 0).2 else -(ig ax q (decide (0 < aW)) (oO aW) 10001 L 0).2)) ∧ St w P ((some g, .cells #[.int .u8 fk, .int .i64 fx, .int .i64 fy, .int .i64 fw, .int .i64 fh, .int .i64 zI, .slice (some ⟨gr, 0, none⟩) (((ig ax q (decide (0 < aW)) (oO aW) 10001 L 0).1).length) cap, VP, .int .i64 (q : Int), .int .u8 ax] 147 (0, 0)) :: bs) [(.slice (some ⟨gr, 0, none⟩) (((ig ax q (decide (0 < aW)) (oO aW) 10001 L 0).1).length) cap, (ig ax q (decide (0 < aW)) (oO aW) 10001 L 0).1)] (ts) (ro) w' := by
 have S := ae.mk S0
 have pz := ae.mk hax
 have Rt := ae.mk (show L.length ≤ 1000000 by have := jJ L; omega)
 have hgp : 0 ≤ aU ax (kd L (place q (decide (0 < aW)))) := by
  have hp : place q (decide (0 < aW)) < L.length := by unfold place; split <;> omega
  have := Pure.jP hax (hg.qC _ (rP hp))
  omega
 have Ko := ae.mk hgp
 have HI0 := ae.mk (uC.start hg (p := place q (decide (0 < aW))) (by unfold place; split <;> omega))
 have HQQ := ae.mk hq
 have HZZ := ae.mk hz
 have zx := ae.mk hb
 have Xo := ae.mk (show wrap64 ((q : Int) + 1) = ((q + 1 : Nat) : Int) by have := Rt.out; unfold wrap64; omega)
 clear S0 hgp hax hg hq hz hb
 by_cases hp : 0 < aW
 case pos =>
  rw [decide_eq_true hp] at HI0 Ko ⊢
  obtain ⟨R, hR⟩ : ∃ R, R = ig ax q true (oO aW) 10001 L 0 := ⟨_, rfl⟩
  rw [← hR]
  obtain ⟨LF, MB⟩ : ∃ l, l = oO aW := ⟨_, rfl⟩
  rw [← MB] at hR
  have HI0 := ae.mk (show uC ax s q (dN L) L L 0 from HI0.out)
  have Ko := ae.mk (show 0 ≤ aU ax (kd L q) from Ko.out)
  have HR := ae.mk hR.symm
  have Kv := ae.mk (show q = place q true from rfl)
  have Kr := ae.mk (show LF = aW by rw [MB]; unfold oO; rw [if_pos hp])
  have HPB := ae.mk hp
  obtain ⟨hba, hbb⟩ := mZ (a := 0) (b := aW) (by omega)
  simp only [if_true]
  clear hp hR MB
  go_enter Try.func158, Try.ntmps158
  have Vx := (S.out.at (.head _) 8).trans rfl
  go_wp2
  clear Vx
  go_loopg [7, 8] 10001 (fun gg v7 v8 wr => ∃ (K : List ai) (d : Int) (f : Nat), v7 = .int .i64 (LF - d) ∧ v8 = .int .i64 d ∧ ae (ig ax q true LF f K d = R) ∧ ae (uC ax s q (dN L) L K d) ∧ ae (10001 ≤ (f : Int) + d) ∧ f ≤ gg ∧ ae (St w P ((some g, .cells #[.int .u8 fk, .int .i64 fx, .int .i64 fy, .int .i64 fw, .int .i64 fh, .int .i64 zI, .slice (some ⟨gr, 0, none⟩) K.length cap, VP, .int .i64 (q : Int), .int .u8 ax] 147 (0, 0)) :: bs) [(.slice (some ⟨gr, 0, none⟩) K.length cap, K)] (ts) (ro) wr))
  case atStart => exact ⟨L, 0, 10001, (by rw [Kr.out, Int.sub_zero]), rfl, HR, HI0, ⟨by omega⟩, Nat.le_refl _, S⟩
  case round =>
   clear S HR HI0
   obtain ⟨K, d, f, rfl, rfl, HR, HI, HF, hgg, S⟩ := hrel
   have HD := ae.mk (HI.out.small pz.out Ko.out)
   have HD0 := ae.mk HI.out.d0
   have F5 := ae.mk (show q + 1 < K.length by rw [HI.out.len]; exact HQQ.out)
   have Ep := ae.mk (show K.length ≤ 1000000 by rw [HI.out.len]; exact Rt.out)
   have lK := ae.mk (show dN K ≤ 1000000 by rw [HI.out.z]; exact HZZ.out)
   by_cases hl : LF ≤ d
   case pos =>
    have HRR := ae.mk ((uq hl).symm.trans HR.out).symm
    obtain ⟨hxa, hxb⟩ := lY (a := 0) (b := LF - d) (by omega)
    have hx2 : ¬ (d < LF) := by omega
    have hx3 : decide (d < LF) = false := decide_eq_false hx2
    clear hl hgg
    go_wp2
    have hrr := HRR.out
    subst hrr
    go_ret
    exact ⟨rfl, S.out⟩
   case neg =>
    have CG := ae.mk (show d < LF by omega)
    have mG := ae.mk hl
    obtain ⟨hxa, hxb⟩ := mZ (a := 0) (b := LF - d) (by omega)
    have hx2 : d < LF := CG.out
    have hx3 : decide (d < LF) = true := decide_eq_true hx2
    clear hl
    cases hgv : mJ ax q true K with
    | none =>
     have HG := ae.mk hgv
     have HRR := ae.mk ((zT hgv).symm.trans HR.out).symm
     clear hgv hgg
     have h34 : decide ((-1 : Int) < 0) = true := rfl
     go_wp2_with ((refine bT (some 32) Try.func185 S (OE HG.out (wI true F5.out Ep.out lK.out (S.out.blk _ (.head _) _ rfl) (Kd.qF (base' := 0) (S.out.own _ (.head _))))) ?_; clear S; intro dQ S))
     have hrr := HRR.out
     subst hrr
     go_ret
     exact ⟨rfl, S.out⟩
    | some i =>
     have hs := BF hgv F5.out
     have HG := ae.mk hgv
     have nU := ae.mk hs.1
     have CJ := ae.mk (show i ≠ q by rw [Kv.out]; exact hs.2.1)
     have Kq := ae.mk hs.2.2
     have hg2 := Pure.jP pz.out (HI.out.good.qC _ (rP hs.1))
     have z_ := ae.mk (show (aU ax (kd K i)) ≤ 10000 by omega)
     have iF := ae.mk hgg
     have hf : f ≠ 0 := by have := HF.out; have := HD.out; omega
     obtain ⟨f', rfl⟩ : ∃ f', f = f' + 1 := ⟨f - 1, by omega⟩
     have hstep := (wX mG.out hgv).symm.trans HR.out
     rw [show place q true = q from Kv.out.symm] at hstep
     have HST := ae.mk hstep
     have h34 : decide ((i : Int) < 0) = false := decide_eq_false (by omega)
     have agW : ¬ ((i : Int) < 0) := by omega
     clear hs hgv hgg hg2 hf hstep
     by_cases hmn : (aU ax (kd K i)) < LF - d
     case pos =>
      have hmv : mn (LF - d) (aU ax (kd K i)) = (aU ax (kd K i)) := by unfold mn; rw [if_pos hmn]
      have EP := ae.mk (show ig ax q true LF f' (dL ax q (aU ax (kd K i)) (dL ax i (-(aU ax (kd K i))) K)) (d + (aU ax (kd K i))) = R by have h := HST.out; rw [hmv] at h; exact h)
      have nC := ae.mk (show 0 < (aU ax (kd K i)) by have := Kq.out; have := CG.out; omega)
      have rC := ae.mk (show (aU ax (kd K i)) ≤ (aU ax (kd K i)) by omega)
      have Kw := ae.mk (HI.out.step pz.out nU.out CJ.out (Int.le_of_lt nC.out) rC.out)
      have EO := ae.mk (show q < (dL ax i (-(aU ax (kd K i))) K).length by rw [show (dL ax i (-(aU ax (kd K i))) K).length = K.length from List.length_set]; exact HI.out.Ns)
      have EN := ae.mk (show dN (dL ax i (-(aU ax (kd K i))) K) ≤ 1000000 by rw [(HI.out.good.move pz.out nU.out (n := -(aU ax (kd K i))) (by have := rC.out; omega) (by have := HI.out.good.small; have := nC.out; omega)).2.2.2.2.1]; exact lK.out)
      have hneg : wrap64 (-(aU ax (kd K i))) = -(aU ax (kd K i)) := by have := z_.out; have := rC.out; have := nC.out; unfold wrap64; omega
      have hw7 : wrap64 (LF - d - (aU ax (kd K i))) = LF - (d + (aU ax (kd K i))) := by have h1 := Kr.out; have h2 := zx.out; have := rC.out; have := nC.out; have := HD.out; have := HD0.out; have := CG.out; unfold wrap64; omega
      have hw8 : wrap64 (d + (aU ax (kd K i))) = d + (aU ax (kd K i)) := by have := z_.out; have := rC.out; have := nC.out; have := HD.out; have := HD0.out; unfold wrap64; omega
      have Rx := ae.mk hw7
      have Kz := ae.mk hw8
      have hm1 : (aU ax (kd K i)) < LF - d := hmn
      clear hmv hmn hw7 hw8
      go_wp2_with (first | (refine bT (some 32) Try.func185 S (Ea HG.out (wI true F5.out Ep.out lK.out (S.out.blk _ (.head _) _ rfl) (Kd.qF (base' := 0) (S.out.own _ (.head _))))) ?_; clear S; intro dQ S) | (refine bT (some 38) Try.func164 S (mr i nU.out lK.out (S.out.blk _ (.head _) _ rfl) (Kd.qF (base' := 0) (S.out.own _ (.head _)))) ?_; clear S; intro eU S) | (refine iw (some 44) Try.func186 (xq i (wrap64 (-(aU ax (kd K i)))) nU.out lK.out S.out) ?_; rintro e gV ⟨rfl, h1⟩; refine ⟨_, rfl, ?_⟩; rw [hneg] at h1; replace S := ae.mk h1; clear h1; rw [show K.length = (dL ax i (-(aU ax (kd K i))) K).length from (List.length_set).symm] at S) | (refine iw (some 48) Try.func186 (xq q (aU ax (kd K i)) EO.out EN.out S.out) ?_; rintro e ji ⟨rfl, h1⟩; refine ⟨_, rfl, ?_⟩; replace S := ae.mk h1; clear h1; rw [show (dL ax i (-(aU ax (kd K i))) K).length = (dL ax q (aU ax (kd K i)) (dL ax i (-(aU ax (kd K i))) K)).length from (List.length_set).symm] at S))
      go_roundg f'
      case measure => exact Nat.lt_of_lt_of_le (Nat.lt_succ_self _) iF.out
      case rel => exact ⟨_, d + (aU ax (kd K i)), f', (by rw [Rx.out]), (by rw [Kz.out]), EP, Kw, ⟨by have := HF.out; have := nC.out; omega⟩, Nat.le_refl _, S⟩
     case neg =>
      have hmv : mn (LF - d) (aU ax (kd K i)) = (LF - d) := by unfold mn; rw [if_neg hmn]
      have EP := ae.mk (show ig ax q true LF f' (dL ax q (LF - d) (dL ax i (-(LF - d)) K)) (d + (LF - d)) = R by have h := HST.out; rw [hmv] at h; exact h)
      have nC := ae.mk (show 0 < (LF - d) by have := Kq.out; have := CG.out; omega)
      have rC := ae.mk (show (LF - d) ≤ (aU ax (kd K i)) by omega)
      have Kw := ae.mk (HI.out.step pz.out nU.out CJ.out (Int.le_of_lt nC.out) rC.out)
      have EO := ae.mk (show q < (dL ax i (-(LF - d)) K).length by rw [show (dL ax i (-(LF - d)) K).length = K.length from List.length_set]; exact HI.out.Ns)
      have EN := ae.mk (show dN (dL ax i (-(LF - d)) K) ≤ 1000000 by rw [(HI.out.good.move pz.out nU.out (n := -(LF - d)) (by have := rC.out; omega) (by have := HI.out.good.small; have := nC.out; omega)).2.2.2.2.1]; exact lK.out)
      have hneg : wrap64 (-(LF - d)) = -(LF - d) := by have := z_.out; have := rC.out; have := nC.out; unfold wrap64; omega
      have hw7 : wrap64 (LF - d - (LF - d)) = LF - (d + (LF - d)) := by have h1 := Kr.out; have h2 := zx.out; have := rC.out; have := nC.out; have := HD.out; have := HD0.out; have := CG.out; unfold wrap64; omega
      have hw8 : wrap64 (d + (LF - d)) = d + (LF - d) := by have := z_.out; have := rC.out; have := nC.out; have := HD.out; have := HD0.out; unfold wrap64; omega
      have Rx := ae.mk hw7
      have Kz := ae.mk hw8
      have hm1 : ¬ ((aU ax (kd K i)) < LF - d) := hmn
      clear hmv hmn hw7 hw8
      go_wp2_with (first | (refine bT (some 32) Try.func185 S (Ea HG.out (wI true F5.out Ep.out lK.out (S.out.blk _ (.head _) _ rfl) (Kd.qF (base' := 0) (S.out.own _ (.head _))))) ?_; clear S; intro dQ S) | (refine bT (some 38) Try.func164 S (mr i nU.out lK.out (S.out.blk _ (.head _) _ rfl) (Kd.qF (base' := 0) (S.out.own _ (.head _)))) ?_; clear S; intro eU S) | (refine iw (some 44) Try.func186 (xq i (wrap64 (-(LF - d))) nU.out lK.out S.out) ?_; rintro e gV ⟨rfl, h1⟩; refine ⟨_, rfl, ?_⟩; rw [hneg] at h1; replace S := ae.mk h1; clear h1; rw [show K.length = (dL ax i (-(LF - d)) K).length from (List.length_set).symm] at S) | (refine iw (some 48) Try.func186 (xq q (LF - d) EO.out EN.out S.out) ?_; rintro e ji ⟨rfl, h1⟩; refine ⟨_, rfl, ?_⟩; replace S := ae.mk h1; clear h1; rw [show (dL ax i (-(LF - d)) K).length = (dL ax q (LF - d) (dL ax i (-(LF - d)) K)).length from (List.length_set).symm] at S))
      go_roundg f'
      case measure => exact Nat.lt_of_lt_of_le (Nat.lt_succ_self _) iF.out
      case rel => exact ⟨_, d + (LF - d), f', (by (congr 1; omega)), (by rw [Kz.out]), EP, Kw, ⟨by have := HF.out; have := nC.out; omega⟩, Nat.le_refl _, S⟩
 case neg =>
  rw [decide_eq_false hp] at HI0 Ko ⊢
  obtain ⟨R, hR⟩ : ∃ R, R = ig ax q false (oO aW) 10001 L 0 := ⟨_, rfl⟩
  rw [← hR]
  obtain ⟨LF, MB⟩ : ∃ l, l = oO aW := ⟨_, rfl⟩
  rw [← MB] at hR
  obtain ⟨pl, hpl⟩ : ∃ p, p = place q false := ⟨_, rfl⟩
  rw [← hpl] at HI0 Ko
  have hq1 : wrap64 ((q : Int) + 1) = (pl : Int) := by rw [Xo.out, hpl]; rfl
  have HR := ae.mk hR.symm
  have Kv := ae.mk (show pl = place q false from hpl)
  have Kr := ae.mk (show LF = if aW < -2147483647 then 2147483647 else -aW by rw [MB]; unfold oO; rw [if_neg hp])
  have HPB := ae.mk hp
  obtain ⟨hba, hbb⟩ := lY (a := 0) (b := aW) (by omega)
  simp only [Bool.false_eq_true, if_false]
  clear hp hR MB hpl
  go_enter Try.func158, Try.ntmps158
  have Vx := (S.out.at (.head _) 8).trans rfl
  go_wp2
  clear Vx
  all_goals
   go_loopg [7, 8] 10001 (fun gg v7 v8 wr => ∃ (K : List ai) (d : Int) (f : Nat), v7 = .int .i64 (LF - d) ∧ v8 = .int .i64 d ∧ ae (ig ax q false LF f K d = R) ∧ ae (uC ax s pl (dN L) L K d) ∧ ae (10001 ≤ (f : Int) + d) ∧ f ≤ gg ∧ ae (St w P ((some g, .cells #[.int .u8 fk, .int .i64 fx, .int .i64 fy, .int .i64 fw, .int .i64 fh, .int .i64 zI, .slice (some ⟨gr, 0, none⟩) K.length cap, VP, .int .i64 (q : Int), .int .u8 ax] 147 (0, 0)) :: bs) [(.slice (some ⟨gr, 0, none⟩) K.length cap, K)] (ts) (ro) wr))
   case atStart => exact ⟨L, 0, 10001, (by have h1 := Kr.out; have h2 := zx.out; have h3 := HPB.out; congr 1; rw [h1]; unfold wrap64; split <;> omega), rfl, HR, HI0, ⟨by omega⟩, Nat.le_refl _, S⟩
   case round =>
    clear S HR HI0
    obtain ⟨K, d, f, rfl, rfl, HR, HI, HF, hgg, S⟩ := hrel
    have HD := ae.mk (HI.out.small pz.out Ko.out)
    have HD0 := ae.mk HI.out.d0
    have F5 := ae.mk (show q + 1 < K.length by rw [HI.out.len]; exact HQQ.out)
    have Ep := ae.mk (show K.length ≤ 1000000 by rw [HI.out.len]; exact Rt.out)
    have lK := ae.mk (show dN K ≤ 1000000 by rw [HI.out.z]; exact HZZ.out)
    by_cases hl : LF ≤ d
    case pos =>
     have HRR := ae.mk ((uq hl).symm.trans HR.out).symm
     obtain ⟨hxa, hxb⟩ := lY (a := 0) (b := LF - d) (by omega)
     have hx2 : ¬ (d < LF) := by omega
     have hx3 : decide (d < LF) = false := decide_eq_false hx2
     clear hl hgg
     go_wp2
     have hrr := HRR.out
     subst hrr
     go_ret
     rw [show wrap64 (-d) = -d by have := HD.out; have := HD0.out; unfold wrap64; omega]
     exact ⟨rfl, S.out⟩
    case neg =>
     have CG := ae.mk (show d < LF by omega)
     have mG := ae.mk hl
     obtain ⟨hxa, hxb⟩ := mZ (a := 0) (b := LF - d) (by omega)
     have hx2 : d < LF := CG.out
     have hx3 : decide (d < LF) = true := decide_eq_true hx2
     clear hl
     cases hgv : mJ ax q false K with
     | none =>
      have HG := ae.mk hgv
      have HRR := ae.mk ((zT hgv).symm.trans HR.out).symm
      clear hgv hgg
      have h34 : decide ((-1 : Int) < 0) = true := rfl
      go_wp2_with ((refine bT (some 32) Try.func185 S (OE HG.out (wI false F5.out Ep.out lK.out (S.out.blk _ (.head _) _ rfl) (Kd.qF (base' := 0) (S.out.own _ (.head _))))) ?_; clear S; intro dQ S))
      have hrr := HRR.out
      subst hrr
      go_ret
      rw [show wrap64 (-d) = -d by have := HD.out; have := HD0.out; unfold wrap64; omega]
      exact ⟨rfl, S.out⟩
     | some i =>
      have hs := BF hgv F5.out
      have HG := ae.mk hgv
      have nU := ae.mk hs.1
      have CJ := ae.mk (show i ≠ pl by rw [Kv.out]; exact hs.2.1)
      have Kq := ae.mk hs.2.2
      have hg2 := Pure.jP pz.out (HI.out.good.qC _ (rP hs.1))
      have z_ := ae.mk (show (aU ax (kd K i)) ≤ 10000 by omega)
      have iF := ae.mk hgg
      have hf : f ≠ 0 := by have := HF.out; have := HD.out; omega
      obtain ⟨f', rfl⟩ : ∃ f', f = f' + 1 := ⟨f - 1, by omega⟩
      have hstep := (wX mG.out hgv).symm.trans HR.out
      rw [show place q false = pl from Kv.out.symm] at hstep
      have HST := ae.mk hstep
      have h34 : decide ((i : Int) < 0) = false := decide_eq_false (by omega)
      have agW : ¬ ((i : Int) < 0) := by omega
      clear hs hgv hgg hg2 hf hstep
      by_cases hmn : (aU ax (kd K i)) < LF - d
      case pos =>
       have hmv : mn (LF - d) (aU ax (kd K i)) = (aU ax (kd K i)) := by unfold mn; rw [if_pos hmn]
       have EP := ae.mk (show ig ax q false LF f' (dL ax pl (aU ax (kd K i)) (dL ax i (-(aU ax (kd K i))) K)) (d + (aU ax (kd K i))) = R by have h := HST.out; rw [hmv] at h; exact h)
       have nC := ae.mk (show 0 < (aU ax (kd K i)) by have := Kq.out; have := CG.out; omega)
       have rC := ae.mk (show (aU ax (kd K i)) ≤ (aU ax (kd K i)) by omega)
       have Kw := ae.mk (HI.out.step pz.out nU.out CJ.out (Int.le_of_lt nC.out) rC.out)
       have EO := ae.mk (show pl < (dL ax i (-(aU ax (kd K i))) K).length by rw [show (dL ax i (-(aU ax (kd K i))) K).length = K.length from List.length_set]; exact HI.out.Ns)
       have EN := ae.mk (show dN (dL ax i (-(aU ax (kd K i))) K) ≤ 1000000 by rw [(HI.out.good.move pz.out nU.out (n := -(aU ax (kd K i))) (by have := rC.out; omega) (by have := HI.out.good.small; have := nC.out; omega)).2.2.2.2.1]; exact lK.out)
       have hneg : wrap64 (-(aU ax (kd K i))) = -(aU ax (kd K i)) := by have := z_.out; have := rC.out; have := nC.out; unfold wrap64; omega
       have hw7 : wrap64 (LF - d - (aU ax (kd K i))) = LF - (d + (aU ax (kd K i))) := by have h1 := Kr.out; have h2 := zx.out; have := rC.out; have := nC.out; have := HD.out; have := HD0.out; have := CG.out; split at h1 <;> (unfold wrap64; omega)
       have hw8 : wrap64 (d + (aU ax (kd K i))) = d + (aU ax (kd K i)) := by have := z_.out; have := rC.out; have := nC.out; have := HD.out; have := HD0.out; unfold wrap64; omega
       have Rx := ae.mk hw7
       have Kz := ae.mk hw8
       have hm1 : (aU ax (kd K i)) < LF - d := hmn
       clear hmv hmn hw7 hw8
       go_wp2_with (first | (refine bT (some 32) Try.func185 S (Ea HG.out (wI false F5.out Ep.out lK.out (S.out.blk _ (.head _) _ rfl) (Kd.qF (base' := 0) (S.out.own _ (.head _))))) ?_; clear S; intro dQ S) | (refine bT (some 38) Try.func164 S (mr i nU.out lK.out (S.out.blk _ (.head _) _ rfl) (Kd.qF (base' := 0) (S.out.own _ (.head _)))) ?_; clear S; intro eU S) | (refine iw (some 44) Try.func186 (xq i (wrap64 (-(aU ax (kd K i)))) nU.out lK.out S.out) ?_; rintro e gV ⟨rfl, h1⟩; refine ⟨_, rfl, ?_⟩; rw [hneg] at h1; replace S := ae.mk h1; clear h1; rw [show K.length = (dL ax i (-(aU ax (kd K i))) K).length from (List.length_set).symm] at S) | (refine iw (some 48) Try.func186 (xq pl (aU ax (kd K i)) EO.out EN.out S.out) ?_; rintro e ji ⟨rfl, h1⟩; refine ⟨_, rfl, ?_⟩; replace S := ae.mk h1; clear h1; rw [show (dL ax i (-(aU ax (kd K i))) K).length = (dL ax pl (aU ax (kd K i)) (dL ax i (-(aU ax (kd K i))) K)).length from (List.length_set).symm] at S))
       go_roundg f'
       case measure => exact Nat.lt_of_lt_of_le (Nat.lt_succ_self _) iF.out
       case rel => exact ⟨_, d + (aU ax (kd K i)), f', (by rw [Rx.out]), (by rw [Kz.out]), EP, Kw, ⟨by have := HF.out; have := nC.out; omega⟩, Nat.le_refl _, S⟩
      case neg =>
       have hmv : mn (LF - d) (aU ax (kd K i)) = (LF - d) := by unfold mn; rw [if_neg hmn]
       have EP := ae.mk (show ig ax q false LF f' (dL ax pl (LF - d) (dL ax i (-(LF - d)) K)) (d + (LF - d)) = R by have h := HST.out; rw [hmv] at h; exact h)
       have nC := ae.mk (show 0 < (LF - d) by have := Kq.out; have := CG.out; omega)
       have rC := ae.mk (show (LF - d) ≤ (aU ax (kd K i)) by omega)
       have Kw := ae.mk (HI.out.step pz.out nU.out CJ.out (Int.le_of_lt nC.out) rC.out)
       have EO := ae.mk (show pl < (dL ax i (-(LF - d)) K).length by rw [show (dL ax i (-(LF - d)) K).length = K.length from List.length_set]; exact HI.out.Ns)
       have EN := ae.mk (show dN (dL ax i (-(LF - d)) K) ≤ 1000000 by rw [(HI.out.good.move pz.out nU.out (n := -(LF - d)) (by have := rC.out; omega) (by have := HI.out.good.small; have := nC.out; omega)).2.2.2.2.1]; exact lK.out)
       have hneg : wrap64 (-(LF - d)) = -(LF - d) := by have := z_.out; have := rC.out; have := nC.out; unfold wrap64; omega
       have hw7 : wrap64 (LF - d - (LF - d)) = LF - (d + (LF - d)) := by have h1 := Kr.out; have h2 := zx.out; have := rC.out; have := nC.out; have := HD.out; have := HD0.out; have := CG.out; split at h1 <;> (unfold wrap64; omega)
       have hw8 : wrap64 (d + (LF - d)) = d + (LF - d) := by have := z_.out; have := rC.out; have := nC.out; have := HD.out; have := HD0.out; unfold wrap64; omega
       have Rx := ae.mk hw7
       have Kz := ae.mk hw8
       have hm1 : ¬ ((aU ax (kd K i)) < LF - d) := hmn
       clear hmv hmn hw7 hw8
       go_wp2_with (first | (refine bT (some 32) Try.func185 S (Ea HG.out (wI false F5.out Ep.out lK.out (S.out.blk _ (.head _) _ rfl) (Kd.qF (base' := 0) (S.out.own _ (.head _))))) ?_; clear S; intro dQ S) | (refine bT (some 38) Try.func164 S (mr i nU.out lK.out (S.out.blk _ (.head _) _ rfl) (Kd.qF (base' := 0) (S.out.own _ (.head _)))) ?_; clear S; intro eU S) | (refine iw (some 44) Try.func186 (xq i (wrap64 (-(LF - d))) nU.out lK.out S.out) ?_; rintro e gV ⟨rfl, h1⟩; refine ⟨_, rfl, ?_⟩; rw [hneg] at h1; replace S := ae.mk h1; clear h1; rw [show K.length = (dL ax i (-(LF - d)) K).length from (List.length_set).symm] at S) | (refine iw (some 48) Try.func186 (xq pl (LF - d) EO.out EN.out S.out) ?_; rintro e ji ⟨rfl, h1⟩; refine ⟨_, rfl, ?_⟩; replace S := ae.mk h1; clear h1; rw [show (dL ax i (-(LF - d)) K).length = (dL ax pl (LF - d) (dL ax i (-(LF - d)) K)).length from (List.length_set).symm] at S))
       go_roundg f'
       case measure => exact Nat.lt_of_lt_of_le (Nat.lt_succ_self _) iF.out
       case rel => exact ⟨_, d + (LF - d), f', (by (congr 1; omega)), (by rw [Kz.out]), EP, Kw, ⟨by have := HF.out; have := nC.out; omega⟩, Nat.le_refl _, S⟩
end Go.Proofs.Ytfdmfgaiblfbhaa.P
namespace Go.Proofs.Ytfdmfgaiblfbhaa.P
open Go.RowKit Go.Proofs.ag.aQ Go.Proofs.ag.bu Go.Proofs.ag.bP
section
variable {c x z : ai} {path p L : _} {en id : Int}
end
noncomputable def kY (ax aW : Int) (q : Nat) (L : List ai) : List ai × Int :=
 ((ig ax q (decide (0 < aW)) (oO aW) 10001 L 0).1, if decide (0 < aW) = true then (ig ax q (decide (0 < aW)) (oO aW) 10001 L 0).2 else -(ig ax q (decide (0 < aW)) (oO aW) 10001 L 0).2)
noncomputable def GM (ax aW : Int) (c z : ai) (pq : List Int) (q : Nat) : ai × Int × Int :=
 if (kY ax aW q z.f3).2 = 0 ∧ aW ≠ 0 then (z26, 0, 7) else (b_ ((rV ⟨z.f0, z.f1, z.f2, (kY ax aW q z.f3).1⟩ pq c).getD z26) c.f1.f0 c.f1.f1, (kY ax aW q z.f3).2, 0)
def qI (p : List Int) (d : Nat) (z : ai) : Nat := (mn (rd p (d : Int)) ((z.f3.length : Int) - 2)).toNat
noncomputable def l7 (ax id aW : Int) (c : ai) : ai × Int × Int :=
 if yV ax id c ≠ 0 then (z26, 0, yV ax id c) else match gm id c with
 | none => (z26, 0, 0)
 | some p => match Ew ax c p with
  | none => (z26, 0, 0)
  | some d => match jE c (p.take d) with
   | none => (z26, 0, 0)
   | some z => GM ax aW c z (p.take d) (qI p d z)
structure mF (ax id : Int) (c : ai) (p : List Int) (d : Nat) (z : ai) (q : Nat) : Prop where
 qC : dB c = true
 hax : ax = 1 ∨ ax = 2
 find : gm id c = some p
 XF : Ew ax c p = some d
 fr : yK ax c p d z q
 zt : dB z = true
theorem SK {ax id : Int} {c : ai} (h : yV ax id c = 0) : ∃ p d z q, mF ax id c p d z q := by
 unfold yV at h
 split at h
 ·rename_i h1
  cases hf : gm id c with
  | none => rw [hf] at h; simp at h
  | some p =>
   rw [hf] at h
   simp only [] at h
   cases hd : Ew ax c p with
   | none => rw [hd] at h; simp at h
   | some d =>
    obtain ⟨x, hx, _⟩ := (AO id _).1 c (Nat.le_refl _) p hf
    obtain ⟨z, q, hF, ht⟩ := Qj h1.1 hx hd
    exact ⟨p, d, z, q, h1.1, h1.2, hf, hd, hF, ht⟩
 ·simp at h
theorem mF.n {ax id : Int} {c : ai} {p : List Int} {d : Nat} {z : ai} {q : Nat} (h : mF ax id c p d z q) : yV ax id c = 0 := by
 unfold yV
 rw [if_pos ⟨h.qC, h.hax⟩, h.find]
 simp only [h.XF]
theorem mF.q {ax id : Int} {c : ai} {p : List Int} {d : Nat} {z : ai} {q : Nat} (h : mF ax id c p d z q) : qI p d z = q := by
 unfold qI
 rw [← h.fr.hq]
 exact Int.toNat_natCast _
theorem mF.good {ax id : Int} {c : ai} {p : List Int} {d : Nat} {z : ai} {q : Nat} (h : mF ax id c p d z q) : qR ax (aV ax z.f1 - ((z.f3.length : Int) - 1)) z.f3 := Qi h.hax h.zt h.fr.al
theorem mF.zs {ax id : Int} {c : ai} {p : List Int} {d : Nat} {z : ai} {q : Nat} (h : mF ax id c p d z q) : 1 + dN z.f3 ≤ sz c ∧ sz c ≤ 20000 := by
 have h1 := Hr _ _ _ h.fr.at'
 have h2 := bZ z
 exact ⟨by omega, m_ (lG h.qC)⟩
theorem Nw {ax id aW n : Int} {c : ai} (h : yV ax id c = n) (h0 : n ≠ 0) : l7 ax id aW c = (z26, 0, n) := by
 unfold l7
 rw [h, if_pos h0]
theorem zU {ax id aW : Int} {c : ai} {p : List Int} {d : Nat} {z : ai} {q : Nat} (h : mF ax id c p d z q) : l7 ax id aW c = GM ax aW c z (p.take d) q := by
 unfold l7
 rw [h.n, if_neg (by simp), h.find]
 simp only [h.XF, h.fr.at', h.q]
theorem DC {ax aW s : Int} {q : Nat} {L : List ai} (hax : ax = 1 ∨ ax = 2) (h : qR ax s L) (hq : q + 1 < L.length) :
  uC ax s (place q (decide (0 < aW))) (dN L) L (kY ax aW q L).1 (ig ax q (decide (0 < aW)) (oO aW) 10001 L 0).2 :=
 (QM hax _ _ _ (uC.start h (by unfold place; split <;> omega)) hq).1
theorem Nv {ax aW s : Int} {q : Nat} {L : List ai} (hax : ax = 1 ∨ ax = 2) (h : qR ax s L) (hq : q + 1 < L.length) : dN (kY ax aW q L).1 = dN L ∧ (kY ax aW q L).1.length = L.length :=
 ⟨(DC hax h hq).z, (DC hax h hq).len⟩
abbrev KN (w : World) (P : Nat → Prop) (r : ai × Int × Int) (e : Ending) (w' : World) : Prop := ∃ A c, e = .returned (.tuple #[.agg #[.int .u8 r.1.f0, .int .i64 r.1.f1.f0, .int .i64 r.1.f1.f1, .int .i64 r.1.f1.f2, .int .i64 r.1.f1.f3, .int .i64 r.1.f2, .slice A r.1.f3.length c], .int .i64 r.2.1, .int .i64 r.2.2]) ∧ Kd.N k26 26 w' w.heap.size (fun k => P k ∨ w.heap.size ≤ k) (.slice A r.1.f3.length c) r.1.f3 ∧ Below w.heap.size w w'
abbrev aba (w : World) (P : Nat → Prop) (ax : Int) (p pq : List Int) (z : ai) (q : Nat) (e : Ending) (w' : World) : Prop := ∃ Az cz Ap cp op, e = .returned (.tuple #[.agg #[.int .u8 z.f0, .int .i64 z.f1.f0, .int .i64 z.f1.f1, .int .i64 z.f1.f2, .int .i64 z.f1.f3, .int .i64 z.f2, .slice Az z.f3.length cz, .slice Ap pq.length cp, .int .i64 (q : Int), .int .u8 ax], .int .i64 0]) ∧ IR w.heap.size (.slice Ap p.length cp) p op ∧ St w P [((Value.slice Ap p.length cp).ownBlock, op)] [(.slice Az z.f3.length cz, z.f3)] [] [] w'
theorem Md {ax id : Int} {c : ai} {p pq : List Int} {d : Nat} {z : ai} {q : Nat} {b : Nat} {P : Nat → Prop} {A : Option Addr} {cc : Nat} {w : World} (h : mF ax id c p d z q) (hpq : pq = p.take d) (hz : sz c ≤ 1000000) (hv : Kd.V k26 26 w b P (.slice A c.f3.length cc) c.f3) :
  Calls Try.prog 157 #[.agg #[.int .u8 c.f0, .int .i64 c.f1.f0, .int .i64 c.f1.f1, .int .i64 c.f1.f2, .int .i64 c.f1.f3, .int .i64 c.f2, .slice A c.f3.length cc], .int .i64 id, .int .u8 ax] w (aba w P ax p pq z q) := by
 subst hpq
 exact (OD c hz id ax b P A cc w hv).2 p d z q h.qC h.hax h.find h.XF h.fr
theorem Ny {w W : World} {P : Nat → Prop} {bs : List (Option Nat × Obj)} {ts : List (Value × List ai)} {ro : List (Addr × Value)} {g gr cap : Nat} {fk fx fy fw fh zI ax s : Int} {VP : Value} {q : Nat} {L L' : List ai} {n : Int} (aW : Int) (hax : ax = 1 ∨ ax = 2) (hg : qR ax s L) (hq : q + 1 < L.length) (hz : dN L ≤ 1000000) (hb : -9223372036854775808 ≤ aW ∧ aW ≤ 9223372036854775807) (hF : kY ax aW q L = (L', n))
  (S0 : St w P ((some g, .cells #[.int .u8 fk, .int .i64 fx, .int .i64 fy, .int .i64 fw, .int .i64 fh, .int .i64 zI, .slice (some ⟨gr, 0, none⟩) L.length cap, VP, .int .i64 (q : Int), .int .u8 ax] 147 (0, 0)) :: bs) [(.slice (some ⟨gr, 0, none⟩) L.length cap, L)] ts ro W) :
  Calls Try.prog 158 #[.pointer (some ⟨g, 0, none⟩), .int .i64 aW] W fun e w' => e = .returned (.int .i64 n) ∧ St w P ((some g, .cells #[.int .u8 fk, .int .i64 fx, .int .i64 fy, .int .i64 fw, .int .i64 fh, .int .i64 zI, .slice (some ⟨gr, 0, none⟩) L'.length cap, VP, .int .i64 (q : Int), .int .u8 ax] 147 (0, 0)) :: bs) [(.slice (some ⟨gr, 0, none⟩) L'.length cap, L')] ts ro w' := by
 have h := aao aW hax hg hq hz hb S0
 have e1 : L' = (kY ax aW q L).1 := by rw [hF]
 have e2 : n = (kY ax aW q L).2 := by rw [hF]
 subst e1 e2
 exact h
theorem Eh (c : ai) (hz : sz c ≤ 1000000) (id ax aW : Int) (hb : -9223372036854775808 ≤ aW ∧ aW ≤ 9223372036854775807) (P : Nat → Prop) (A : Option Addr) (cc : Nat) (w : World) (hv : Kd.V k26 26 w w.heap.size P (.slice A c.f3.length cc) c.f3) :
  Calls Try.prog 114 #[.agg #[.int .u8 c.f0, .int .i64 c.f1.f0, .int .i64 c.f1.f1, .int .i64 c.f1.f2, .int .i64 c.f1.f3, .int .i64 c.f2, .slice A c.f3.length cc], .int .i64 id, .int .u8 ax, .int .i64 aW] w (KN w P (l7 ax id aW c)) := by
 have S := ae.mk (St.start (ts := [(.slice A c.f3.length cc, c.f3)]) (b0 := w.heap.size) (w := w) (P := P) (fun t ht => by rw [List.mem_singleton.1 ht]; exact hv))
 have HZ := ae.mk hz
 have zx := ae.mk hb
 clear hz hv hb
 by_cases hn0 : yV ax id c = 0
 case pos =>
  obtain ⟨p, d, z, q, hF⟩ := SK hn0
  have hs := hF.zs
  have hps := fun y => WM ⟨z.f0, z.f1, z.f2, (kY ax aW q z.f3).1⟩ (p.take d) c y
  have hpz := (Nv (aW := aW) hF.hax hF.good hF.fr.next).1
  obtain ⟨y, hy⟩ := UC (kid := ⟨z.f0, z.f1, z.f2, (kY ax aW q z.f3).1⟩) (p.take d) c hF.fr.at'
  have hys := hps y hy
  have hk6 := bZ ⟨z.f0, z.f1, z.f2, (kY ax aW q z.f3).1⟩
  simp only [] at hk6
  rw [zU hF]
  unfold GM
  rw [hy]
  obtain ⟨pq, hpq⟩ : ∃ pq, pq = p.take d := ⟨_, rfl⟩
  rw [← hpq] at hy
  obtain ⟨⟨L', n⟩, hr⟩ : ∃ r, kY ax aW q z.f3 = r := ⟨_, rfl⟩
  rw [hr] at hy hpz hys hk6 ⊢
  simp only [Option.getD_some] at hy hpz hys hk6 ⊢
  have v_ := ae.mk hF
  have pz := ae.mk hF.hax
  have HGD := ae.mk hF.good
  have HQN := ae.mk hF.fr.next
  have HZ2 := ae.mk (show 0 < z.f3.length by have := hF.fr.next; omega)
  have Je := ae.mk (show dN z.f3 ≤ 1000000 by omega)
  have HPF := ae.mk hr
  have abw := ae.mk hy
  have jd := ae.mk (And.intro hpq (Nat.le_of_lt hF.fr.hd))
  have lK := ae.mk (show sz ⟨z.f0, z.f1, z.f2, L'⟩ ≤ 1000000 by omega)
  have HYZ := ae.mk (show sz y ≤ 1000000 by omega)
  clear hn0 hF hs hps hpz hys hk6 hr hy hpq
  obtain ⟨ck, ⟨cx, cy, cw, ch⟩, aT, l⟩ := c
  simp only [] at S ⊢
  by_cases hn : n = 0
  case pos =>
   by_cases hb0 : aW = 0
   case pos =>
    rw [if_neg (fun h => h.2 hb0)]
    obtain ⟨hna, hnb, hnd⟩ := yT (a := n) (b := 0) (by omega)
    obtain ⟨hba, hbb, hbd⟩ := yT (a := aW) (b := 0) (by omega)
    clear hn hb0
    go_enter Try.func114, Try.ntmps114
    go_wp2_with (first | (refine boxS 4 _ 26 S ?_; clear S; intro b4 dQ S) | (refine boxS 8 _ 26 S ?_; clear S; intro b8 eU S; obtain ⟨fF, d_, ed, fG, fH, fJ, eY⟩ := St.fA S bz) | (refine iw (some 20) Try.func157 (Md v_.out jd.out.1 HZ.out (S.out.tree _ (.head _))) ?_; rintro e gV ⟨Az, cz, Ap, cp, op, rfl, zJ, T⟩; refine ⟨_, rfl, ?_⟩; have S1 := S.out.join T; have iH := ae.mk zJ; obtain ⟨gr, ab5, ev, _⟩ := Kd.xm S1.yg HZ2.out; injection ev with e1 e2 e3; subst e1; clear e2 e3 T zJ; replace S := ae.mk S1; clear S1; clear fF d_ ed fG fH fJ eY) | (refine boxS 11 _ 147 S ?_; clear S; intro b11 ji S) | (refine ik 147 11 21 #[.int .u8 z.f0, .int .i64 z.f1.f0, .int .i64 z.f1.f1, .int .i64 z.f1.f2, .int .i64 z.f1.f3, .int .i64 z.f2, .slice (some ⟨gr, 0, none⟩) z.f3.length cz, .slice Ap pq.length cp, .int .i64 (q : Int), .int .u8 ax] 0 10 S ?_; clear S; intro mg S) | (refine iw (some 28) Try.func158 (Ny aW pz.out HGD.out HQN.out Je.out zx.out HPF.out S.out) ?_; rintro e zQ ⟨rfl, S1⟩; refine ⟨_, rfl, ?_⟩; replace S := ae.mk S1.free; clear S1; obtain ⟨fF, d_, ed, fG, fH, fJ, eY⟩ := St.fA S kX; have t_ := (S.out.at (.head _) 0).trans rfl; have uf := (S.out.at (.head _) 1).trans rfl; have ug := (S.out.at (.head _) 2).trans rfl; have uh := (S.out.at (.head _) 3).trans rfl; have ui := (S.out.at (.head _) 4).trans rfl; have uj := (S.out.at (.head _) 5).trans rfl; have rG := (S.out.at (.head _) 6).trans rfl; have LC := (S.out.at (.head _) 7).trans rfl) | (refine iw (some 42) Try.func102 (XV ⟨ck, ⟨cx, cy, cw, ch⟩, aT, l⟩ ⟨z.f0, z.f1, z.f2, L'⟩ pq y abw.out HZ.out lK.out (S.out.tree _ bz) (S.out.tree _ (.head _)) (eF iH.out S.out bz jd.out).1 (eF iH.out S.out bz jd.out).2) ?_; rintro e xO ⟨Ay, cy', rfl, h1, hb⟩; refine ⟨_, rfl, ?_⟩; replace S := ae.mk (S.out.res (Kd.qF (base' := 0) h1) hb); clear h1 hb; clear fF d_ ed fG fH fJ eY t_ uf ug uh ui uj rG LC) | (refine boxS 14 _ 26 S ?_; clear S; intro b14 xP S) | (refine ik 26 14 43 #[.int .u8 y.f0, .int .i64 y.f1.f0, .int .i64 y.f1.f1, .int .i64 y.f1.f2, .int .i64 y.f1.f3, .int .i64 y.f2, .slice Ay y.f3.length cy'] 0 7 S ?_; clear S; intro EI S; obtain ⟨LD, Gj, Gl, Gm, Gn, LG, LH⟩ := St.fA S (.head _); have d_ := (S.out.at qg 1).trans rfl; have ed := (S.out.at qg 2).trans rfl) | (refine Ql (some 52) Try.func66 S (JW y cx cy HYZ.out (S.out.tree _ (.head _))) ?_; clear S; intro As cs yl S; clear LD Gj Gl Gm Gn LG LH d_ ed) | (refine WL 26 8 52 #[.int .u8 ((b_ y cx cy).f0), .int .i64 ((b_ y cx cy).f1.f0), .int .i64 ((b_ y cx cy).f1.f1), .int .i64 ((b_ y cx cy).f1.f2), .int .i64 ((b_ y cx cy).f1.f3), .int .i64 ((b_ y cx cy).f2), .slice As ((b_ y cx cy).f3.length) cs] 0 7 S ?_; clear S; intro NQ S))
    refine bodyPost_ret (wZ rfl _ _ b8 26 _ (0, 0) _ rfl (S.out.blk _ kX _ rfl) Try.underlying26 rfl (by kernel_rfl)) rfl ?_
    exact ⟨_, _, rfl, S.out.yg, S.out.below⟩
   case neg =>
    rw [if_pos ⟨hn, hb0⟩]
    obtain ⟨hna, hnb, hnd⟩ := yT (a := n) (b := 0) (by omega)
    obtain ⟨hba, hbb, hbd⟩ := eqF (a := aW) (b := 0) (by omega)
    clear hn hb0
    go_enter Try.func114, Try.ntmps114
    go_wp2_with (first | (refine boxS 4 _ 26 S ?_; clear S; intro b4 dQ S) | (refine boxS 8 _ 26 S ?_; clear S; intro b8 eU S; obtain ⟨fF, d_, ed, fG, fH, fJ, eY⟩ := St.fA S bz) | (refine iw (some 20) Try.func157 (Md v_.out jd.out.1 HZ.out (S.out.tree _ (.head _))) ?_; rintro e gV ⟨Az, cz, Ap, cp, op, rfl, zJ, T⟩; refine ⟨_, rfl, ?_⟩; have S1 := S.out.join T; have iH := ae.mk zJ; obtain ⟨gr, ab5, ev, _⟩ := Kd.xm S1.yg HZ2.out; injection ev with e1 e2 e3; subst e1; clear e2 e3 T zJ; replace S := ae.mk S1; clear S1; clear fF d_ ed fG fH fJ eY) | (refine boxS 11 _ 147 S ?_; clear S; intro b11 ji S) | (refine ik 147 11 21 #[.int .u8 z.f0, .int .i64 z.f1.f0, .int .i64 z.f1.f1, .int .i64 z.f1.f2, .int .i64 z.f1.f3, .int .i64 z.f2, .slice (some ⟨gr, 0, none⟩) z.f3.length cz, .slice Ap pq.length cp, .int .i64 (q : Int), .int .u8 ax] 0 10 S ?_; clear S; intro mg S) | (refine iw (some 28) Try.func158 (Ny aW pz.out HGD.out HQN.out Je.out zx.out HPF.out S.out) ?_; rintro e zQ ⟨rfl, S1⟩; refine ⟨_, rfl, ?_⟩; replace S := ae.mk S1.free; clear S1) | (refine QN 26 8 35 #[.int .u8 0, .int .i64 0, .int .i64 0, .int .i64 0, .int .i64 0, .int .i64 0, .slice none 0 0] 0 7 S ?_; clear S; intro xO S))
    refine bodyPost_ret (wZ rfl _ _ b8 26 _ (0, 0) _ rfl (S.out.blk _ dR _ rfl) Try.underlying26 rfl (by kernel_rfl)) rfl ?_
    exact ⟨_, _, rfl, Kd.yB _ _ _ _ _, S.out.below⟩
  case neg =>
   rw [if_neg (fun h => hn h.1)]
   obtain ⟨hna, hnb, hnd⟩ := eqF (a := n) (b := 0) (by omega)
   clear hn
   go_enter Try.func114, Try.ntmps114
   go_wp2_with (first | (refine boxS 4 _ 26 S ?_; clear S; intro b4 dQ S) | (refine boxS 8 _ 26 S ?_; clear S; intro b8 eU S; obtain ⟨fF, d_, ed, fG, fH, fJ, eY⟩ := St.fA S bz) | (refine iw (some 20) Try.func157 (Md v_.out jd.out.1 HZ.out (S.out.tree _ (.head _))) ?_; rintro e gV ⟨Az, cz, Ap, cp, op, rfl, zJ, T⟩; refine ⟨_, rfl, ?_⟩; have S1 := S.out.join T; have iH := ae.mk zJ; obtain ⟨gr, ab5, ev, _⟩ := Kd.xm S1.yg HZ2.out; injection ev with e1 e2 e3; subst e1; clear e2 e3 T zJ; replace S := ae.mk S1; clear S1; clear fF d_ ed fG fH fJ eY) | (refine boxS 11 _ 147 S ?_; clear S; intro b11 ji S) | (refine ik 147 11 21 #[.int .u8 z.f0, .int .i64 z.f1.f0, .int .i64 z.f1.f1, .int .i64 z.f1.f2, .int .i64 z.f1.f3, .int .i64 z.f2, .slice (some ⟨gr, 0, none⟩) z.f3.length cz, .slice Ap pq.length cp, .int .i64 (q : Int), .int .u8 ax] 0 10 S ?_; clear S; intro mg S) | (refine iw (some 28) Try.func158 (Ny aW pz.out HGD.out HQN.out Je.out zx.out HPF.out S.out) ?_; rintro e zQ ⟨rfl, S1⟩; refine ⟨_, rfl, ?_⟩; replace S := ae.mk S1.free; clear S1; obtain ⟨fF, d_, ed, fG, fH, fJ, eY⟩ := St.fA S kX; have t_ := (S.out.at (.head _) 0).trans rfl; have uf := (S.out.at (.head _) 1).trans rfl; have ug := (S.out.at (.head _) 2).trans rfl; have uh := (S.out.at (.head _) 3).trans rfl; have ui := (S.out.at (.head _) 4).trans rfl; have uj := (S.out.at (.head _) 5).trans rfl; have rG := (S.out.at (.head _) 6).trans rfl; have LC := (S.out.at (.head _) 7).trans rfl) | (refine iw (some 42) Try.func102 (XV ⟨ck, ⟨cx, cy, cw, ch⟩, aT, l⟩ ⟨z.f0, z.f1, z.f2, L'⟩ pq y abw.out HZ.out lK.out (S.out.tree _ bz) (S.out.tree _ (.head _)) (eF iH.out S.out bz jd.out).1 (eF iH.out S.out bz jd.out).2) ?_; rintro e xO ⟨Ay, cy', rfl, h1, hb⟩; refine ⟨_, rfl, ?_⟩; replace S := ae.mk (S.out.res (Kd.qF (base' := 0) h1) hb); clear h1 hb; clear fF d_ ed fG fH fJ eY t_ uf ug uh ui uj rG LC) | (refine boxS 14 _ 26 S ?_; clear S; intro b14 xP S) | (refine ik 26 14 43 #[.int .u8 y.f0, .int .i64 y.f1.f0, .int .i64 y.f1.f1, .int .i64 y.f1.f2, .int .i64 y.f1.f3, .int .i64 y.f2, .slice Ay y.f3.length cy'] 0 7 S ?_; clear S; intro EI S; obtain ⟨LD, Gj, Gl, Gm, Gn, LG, LH⟩ := St.fA S (.head _); have d_ := (S.out.at qg 1).trans rfl; have ed := (S.out.at qg 2).trans rfl) | (refine Ql (some 52) Try.func66 S (JW y cx cy HYZ.out (S.out.tree _ (.head _))) ?_; clear S; intro As cs yl S; clear LD Gj Gl Gm Gn LG LH d_ ed) | (refine WL 26 8 52 #[.int .u8 ((b_ y cx cy).f0), .int .i64 ((b_ y cx cy).f1.f0), .int .i64 ((b_ y cx cy).f1.f1), .int .i64 ((b_ y cx cy).f1.f2), .int .i64 ((b_ y cx cy).f1.f3), .int .i64 ((b_ y cx cy).f2), .slice As ((b_ y cx cy).f3.length) cs] 0 7 S ?_; clear S; intro NQ S))
   refine bodyPost_ret (wZ rfl _ _ b8 26 _ (0, 0) _ rfl (S.out.blk _ kX _ rfl) Try.underlying26 rfl (by kernel_rfl)) rfl ?_
   exact ⟨_, _, rfl, S.out.yg, S.out.below⟩
 case neg =>
  obtain ⟨n, hn⟩ : ∃ n, yV ax id c = n := ⟨_, rfl⟩
  rw [hn] at hn0
  rw [Nw hn hn0]
  obtain ⟨hna, hnb, hnd⟩ := eqF (a := n) (b := 0) (by omega)
  have HN := ae.mk hn
  have nC := ae.mk hn0
  clear hn hn0
  obtain ⟨ck, ⟨cx, cy, cw, ch⟩, aT, l⟩ := c
  simp only [] at S ⊢
  go_enter Try.func114, Try.ntmps114
  go_wp2_with (first | (refine boxS 4 _ 26 S ?_; clear S; intro b4 dQ S) | (refine boxS 8 _ 26 S ?_; clear S; intro b8 eU S; obtain ⟨fF, d_, ed, fG, fH, fJ, eY⟩ := St.fA S bz) | (refine bT (some 20) Try.func157 S ((OD ⟨ck, ⟨cx, cy, cw, ch⟩, aT, l⟩ HZ.out id ax _ _ _ _ _ (S.out.tree _ (.head _))).1 n HN.out nC.out) ?_; clear S; intro gV S; clear fF d_ ed fG fH fJ eY) | (refine boxS 11 _ 147 S ?_; clear S; intro b11 ji S) | (refine ik 147 11 21 #[.int .u8 0, .int .i64 0, .int .i64 0, .int .i64 0, .int .i64 0, .int .i64 0, .slice none 0 0, .slice none 0 0, .int .i64 0, .int .u8 0] 0 10 S ?_; clear S; intro mg S) | (refine zV 26 8 25 #[.int .u8 0, .int .i64 0, .int .i64 0, .int .i64 0, .int .i64 0, .int .i64 0, .slice none 0 0] 0 7 S ?_; clear S; intro zQ S))
  refine bodyPost_ret (wZ rfl _ _ b8 26 _ (0, 0) _ rfl (S.out.blk _ bz _ rfl) Try.underlying26 rfl (by kernel_rfl)) rfl ?_
  exact ⟨_, _, rfl, Kd.yB _ _ _ _ _, S.out.below⟩
end Go.Proofs.Ytfdmfgaiblfbhaa.P
namespace Go.Proofs.Ytfdmfgaiblfbhaa.P
open Go.RowKit Go.Proofs.ag.aQ Go.Proofs.ag.bu Go.Proofs.ag.bP
attribute [local go_sem] jo jU jC kH
def oW.T9 : Bool × List (List Nat × List Nat) := (true, [([], []), ([], []), ([], []), ([1, 2], [1, 2]), ([0, 3], [0, 3]), ([4], [4]), ([5], [5]), ([5], [5]), ([], []), ([8, 6, 4, 0, 1, 2, 3, 4, 5, 6, 8], [6, 8]), ([7, 9, 0, 1, 2, 3, 4, 5, 6, 7, 8, 9], [7])])
def oW.B9 : List Nat := [0, 0, 0, 6, 15, 31, 63, 63, 0, 383, 1023]
theorem oW.zu : iD .any (opsOf Try.f116 9) = oW.T9 := by kernel_rfl
theorem oW.vF : iG oW.T9.2 oW.B9 = true := by kernel_rfl
abbrev abI (w : World) (p : List Int) (d : Nat) (q : Nat) (e : Ending) (w' : World) : Prop := ∃ Ap cp op, e = .returned (.agg #[.slice Ap (p.take d).length cp, .int .i64 (q : Int), .int .i64 0]) ∧ IR w.heap.size (.slice Ap p.length cp) p op ∧ (∀ g, (Value.slice Ap p.length cp).ownBlock = some g → w.heap.size ≤ g ∧ w'.heap[g]? = some op) ∧ Below w.heap.size w w'
theorem OC (c : ai) (hz : sz c ≤ 1000000) (id ax : Int) (b : Nat) (P : Nat → Prop) (A : Option Addr) (cc : Nat) (w : World) (hv : Kd.V k26 26 w b P (.slice A c.f3.length cc) c.f3) :
  (∀ n, yV ax id c = n → n ≠ 0 → Calls Try.prog 116 #[.agg #[.int .u8 c.f0, .int .i64 c.f1.f0, .int .i64 c.f1.f1, .int .i64 c.f1.f2, .int .i64 c.f1.f3, .int .i64 c.f2, .slice A c.f3.length cc], .int .i64 id, .int .u8 ax] w fun e w' => e = .returned (.agg #[.slice none 0 0, .int .i64 0, .int .i64 n]) ∧ Below w.heap.size w w') ∧
  (∀ p d z q, dB c = true → (ax = 1 ∨ ax = 2) → gm id c = some p → Ew ax c p = some d → yK ax c p d z q → Calls Try.prog 116 #[.agg #[.int .u8 c.f0, .int .i64 c.f1.f0, .int .i64 c.f1.f1, .int .i64 c.f1.f2, .int .i64 c.f1.f3, .int .i64 c.f2, .slice A c.f3.length cc], .int .i64 id, .int .u8 ax] w (abI w p d q)) := by
 have S := ae.mk (St.start (ts := [(.slice A c.f3.length cc, c.f3)]) (b0 := w.heap.size) (w := w) (P := P) (fun t ht => by rw [List.mem_singleton.1 ht]; exact gQ hv))
 have B_ := ae.mk (show sz c ≤ 1048576 by omega)
 have HZ := ae.mk hz
 have hpl := fun p (h : gm id c = some p) => (yU id (sz c)).1 c (Nat.le_refl _) p h
 clear hz hv
 obtain ⟨ck, ⟨cx, cy, cw, ch⟩, aT, l⟩ := c
 simp only [] at S ⊢
 constructor
 ·intro n hn hn0
  unfold yV at hn
  cases ht : dB ⟨ck, ⟨cx, cy, cw, ch⟩, aT, l⟩ with
  | false =>
   rw [if_neg (fun h => by rw [ht] at h; cases h.1)] at hn
   subst hn
   have HT := ae.mk ht
   clear ht hn0 hpl
   go_enter Try.func116, Try.ntmps116
   go_wp2_with (first | (refine boxS 3 _ 26 S ?_; clear S; intro b3 dQ S) | (refine boxS 6 _ 110 S ?_; clear S; intro b6 eU S; obtain ⟨bH, bC, bF, bD, dC, dD, bY⟩ := St.fA S bz) | (refine bT (some 14) Try.func84 S (ny HT.out (wO ⟨ck, ⟨cx, cy, cw, ch⟩, aT, l⟩ B_.out _ _ _ _ _ (S.out.tree _ (.head _)))) ?_; clear S; intro gV S; clear bH bC bF bD dC dD bY) | (refine ik 110 6 24 #[.slice none 0 0, .int .i64 0, .int .i64 1] 0 3 S ?_; clear S; intro ji S))
   refine bodyPost_ret (results_cell_row rfl _ _ b6 110 _ (0, 0) _ rfl (S.out.blk _ (.head _) _ rfl) Try.underlying110 rfl (by kernel_rfl)) rfl ?_
   exact ⟨rfl, S.out.below⟩
  | true =>
   have HT := ae.mk ht
   by_cases h1 : ax = 1 ∨ ax = 2
   case neg =>
    rw [if_neg (fun h => h1 h.2)] at hn
    subst hn
    clear ht hn0 hpl
    by_cases h2 : ax < 1
    case pos =>
     obtain ⟨hxa, hxb⟩ := mZ (a := ax) (b := 1) (by omega)
     clear h1 h2
     go_enter Try.func116, Try.ntmps116
     go_wp2_with (first | (refine boxS 3 _ 26 S ?_; clear S; intro b3 dQ S) | (refine boxS 6 _ 110 S ?_; clear S; intro b6 eU S; obtain ⟨bH, bC, bF, bD, dC, dD, bY⟩ := St.fA S bz) | (refine bT (some 14) Try.func84 S (ny HT.out (wO ⟨ck, ⟨cx, cy, cw, ch⟩, aT, l⟩ B_.out _ _ _ _ _ (S.out.tree _ (.head _)))) ?_; clear S; intro gV S; clear bH bC bF bD dC dD bY) | (refine ik 110 6 24 #[.slice none 0 0, .int .i64 0, .int .i64 1] 0 3 S ?_; clear S; intro ji S))
     refine bodyPost_ret (results_cell_row rfl _ _ b6 110 _ (0, 0) _ rfl (S.out.blk _ (.head _) _ rfl) Try.underlying110 rfl (by kernel_rfl)) rfl ?_
     exact ⟨rfl, S.out.below⟩
    case neg =>
     obtain ⟨hxa, hxb⟩ := lY (a := ax) (b := 1) (by omega)
     obtain ⟨hya, hyb⟩ := mZ (a := 2) (b := ax) (by omega)
     clear h1 h2
     go_enter Try.func116, Try.ntmps116
     go_wp2_with (first | (refine boxS 3 _ 26 S ?_; clear S; intro b3 dQ S) | (refine boxS 6 _ 110 S ?_; clear S; intro b6 eU S; obtain ⟨bH, bC, bF, bD, dC, dD, bY⟩ := St.fA S bz) | (refine bT (some 14) Try.func84 S (ny HT.out (wO ⟨ck, ⟨cx, cy, cw, ch⟩, aT, l⟩ B_.out _ _ _ _ _ (S.out.tree _ (.head _)))) ?_; clear S; intro gV S; clear bH bC bF bD dC dD bY) | (refine ik 110 6 24 #[.slice none 0 0, .int .i64 0, .int .i64 1] 0 3 S ?_; clear S; intro ji S))
     refine bodyPost_ret (results_cell_row rfl _ _ b6 110 _ (0, 0) _ rfl (S.out.blk _ (.head _) _ rfl) Try.underlying110 rfl (by kernel_rfl)) rfl ?_
     exact ⟨rfl, S.out.below⟩
   rw [if_pos ⟨ht, h1⟩] at hn
   cases hf : gm id ⟨ck, ⟨cx, cy, cw, ch⟩, aT, l⟩ with
   | none =>
    rw [hf] at hn
    simp only [] at hn
    subst hn
    have CE := ae.mk hf
    clear ht hn0 hpl hf
    obtain ⟨hxa, hxb⟩ := lY (a := ax) (b := 1) (by omega)
    obtain ⟨hya, hyb⟩ := lY (a := 2) (b := ax) (by omega)
    all_goals
     clear h1
     go_enter Try.func116, Try.ntmps116
     go_wp2_with (first | (refine boxS 3 _ 26 S ?_; clear S; intro b3 dQ S) | (refine boxS 6 _ 110 S ?_; clear S; intro b6 eU S; obtain ⟨bH, bC, bF, bD, dC, dD, bY⟩ := St.fA S bz) | (refine bT (some 14) Try.func84 S (ny HT.out (wO ⟨ck, ⟨cx, cy, cw, ch⟩, aT, l⟩ B_.out _ _ _ _ _ (S.out.tree _ (.head _)))) ?_; clear S; intro gV S; clear bH bC bF bD dC dD bY; obtain ⟨bH, bC, bF, bD, dC, dD, bY⟩ := St.fA S bz) | (refine Eb (some 28) Try.func90 S (WS id ⟨ck, ⟨cx, cy, cw, ch⟩, aT, l⟩ CE.out HZ.out (S.out.tree _ (.head _))) ?_; clear S; intro Ap cp op ji S iH; clear bH bC bF bD dC dD bY) | (refine zV 110 6 33 #[.slice none 0 0, .int .i64 0, .int .i64 6] 0 3 S ?_; clear S; intro mg S))
     refine bodyPost_ret (results_cell_row rfl _ _ b6 110 _ (0, 0) _ rfl (S.out.blk _ bz _ rfl) Try.underlying110 rfl (by kernel_rfl)) rfl ?_
     exact ⟨rfl, S.out.below⟩
   | some p =>
    rw [hf] at hn
    simp only [] at hn
    have uJ := ae.mk (show p.length ≤ 1000000 by have := hpl p hf; have := HZ.out; omega)
    have CE := ae.mk hf
    obtain ⟨x, hx, _⟩ := (AO id _).1 _ (Nat.le_refl _) p hf
    have HX := ae.mk hx
    cases hfr : Ew ax ⟨ck, ⟨cx, cy, cw, ch⟩, aT, l⟩ p with
    | some d => rw [hfr] at hn; exact absurd hn.symm hn0
    | none =>
     rw [hfr] at hn
     simp only [] at hn
     subst hn
     have HR := ae.mk (show oM (qP ax ⟨ck, ⟨cx, cy, cw, ch⟩, aT, l⟩ p) p.length = none from hfr)
     clear ht hn0 hpl hf hx hfr
     obtain ⟨hxa, hxb⟩ := lY (a := ax) (b := 1) (by omega)
     obtain ⟨hya, hyb⟩ := lY (a := 2) (b := ax) (by omega)
     all_goals
      clear h1
      go_enter Try.func116, Try.ntmps116
      go_wp2_with (first | (refine boxS 3 _ 26 S ?_; clear S; intro b3 dQ S) | (refine boxS 6 _ 110 S ?_; clear S; intro b6 eU S; obtain ⟨bH, bC, bF, bD, dC, dD, bY⟩ := St.fA S bz) | (refine bT (some 14) Try.func84 S (ny HT.out (wO ⟨ck, ⟨cx, cy, cw, ch⟩, aT, l⟩ B_.out _ _ _ _ _ (S.out.tree _ (.head _)))) ?_; clear S; intro gV S; clear bH bC bF bD dC dD bY; obtain ⟨bH, bC, bF, bD, dC, dD, bY⟩ := St.fA S bz) | (refine Eb (some 28) Try.func90 S (GY id ⟨ck, ⟨cx, cy, cw, ch⟩, aT, l⟩ p CE.out HZ.out (S.out.tree _ (.head _))) ?_; clear S; intro Ap cp op ji S iH; clear bH bC bF bD dC dD bY))
      go_loopg [9] (p.length + 1) (fun gg v9 wr => ∃ n : Nat, v9 = .int .i64 ((n : Int) - 1) ∧ ae (n ≤ p.length) ∧ n ≤ gg ∧ ae (oM (qP ax ⟨ck, ⟨cx, cy, cw, ch⟩, aT, l⟩ p) n = none) ∧ ae (St w P [((Value.slice Ap p.length cp).ownBlock, op), (some b6, .cells #[.slice none 0 0, .int .i64 0, .int .i64 0] 110 (0, 0)), (some b3, .cells #[.int .u8 ck, .int .i64 cx, .int .i64 cy, .int .i64 cw, .int .i64 ch, .int .i64 aT, .slice A l.length cc] 26 (0, 0))] [] [(.slice A l.length cc, l)] [] wr))
      case atStart => exact ⟨p.length, (by have := uJ.out; congr 1; unfold wrap64; omega), ⟨Nat.le_refl _⟩, Nat.le_succ _, HR, S⟩
      case round =>
       clear S HR
       obtain ⟨n, rfl, HN, hgg, HR, S⟩ := hrel
       cases n with
       | zero =>
        go_wp2_with ((refine zV 110 6 70 #[.slice none 0 0, .int .i64 0, .int .i64 10] 0 3 S ?_; clear S; intro dQ S))
        refine bodyPost_ret (results_cell_row rfl _ _ b6 110 _ (0, 0) _ rfl (S.out.blk _ bz _ rfl) Try.underlying110 rfl (by kernel_rfl)) rfl ?_
        exact ⟨rfl, S.out.below⟩
       | succ n =>
        have e1 : (((n + 1 : Nat) : Int) - 1) = (n : Int) := by omega
        rw [e1]
        have mG := ae.mk (show n < p.length from HN.out)
        have iF := ae.mk hgg
        have hw : wrap64 ((n : Int) - 1) = (n : Int) - 1 := by have := HN.out; have := uJ.out; unfold wrap64; omega
        have HW := ae.mk hw
        have h0 : decide ((n : Int) ≥ 0) = true := decide_eq_true (Int.natCast_nonneg _)
        have wo : (0 : Int) ≤ (n : Int) := Int.natCast_nonneg _
        obtain ⟨z, qo, hi0, hi1⟩ := CO p ⟨ck, ⟨cx, cy, cw, ch⟩, aT, l⟩ _ HX.out n mG.out
        obtain ⟨pq, hpq⟩ : ∃ pq, pq = p.take n := ⟨_, rfl⟩
        have hal : qP ax ⟨ck, ⟨cx, cy, cw, ch⟩, aT, l⟩ p n = fM ax z.f0 := by unfold qP; rw [qo]
        rw [← hpq] at qo
        have HAT := ae.mk qo
        have jd := ae.mk (And.intro hpq (Nat.le_of_lt mG.out))
        have hcut : ∀ W : World, (Instr.slice 41 (.slice Ap p.length cp) none (some (.int .i64 (n : Int))) none).run Try.prog W = .ok (.slice Ap pq.length cp) W := by
         intro W
         obtain ⟨i0, hi0, _, hsz, _⟩ := info_parts info3
         have h := Gq (P := Try.prog) 41 3 .i64 Try.underlying41 hi0 Ap p.length cp (n : Int) (Int.natCast_nonneg _) (by have := mG.out; omega) (xR iH.out S.out (.head _)).2 W
         rw [Int.toNat_natCast, show n = pq.length by rw [hpq, List.length_take]; have := mG.out; omega] at h
         rw [show n = pq.length by rw [hpq, List.length_take]; have := mG.out; omega]
         exact h
        have HI0 := ae.mk hi0
        have HI1 := ae.mk hi1
        have hr := HR.out
        rw [oM, hal] at hr
        clear hw hgg e1 hal hpq qo hi0 hi1
        cases ha : fM ax z.f0 with
        | false =>
         rw [ha, if_neg (by simp)] at hr
         replace HR := ae.mk hr
         have HA := ae.mk ha
         clear hr ha
         go_wp2
         refine iT (n := 11) (S := fun w' => St w _ _ _ _ _ w') (ds := [9]) (bA 11 0) (by kernel_rfl) rfl rfl (S.out.call (bg (Below.refl _ _))) (fun hHeld => ?_); refine eP oW.zu oW.vF (fun aj dW => ?_)
         replace S := ae.mk (S.out.call (bg (Below.refl _ _)))
         generalize wr.drew = Cj at S hHeld ⊢
         refine dO 0 42 (bA 11 1) aj dW hHeld ?_ (hv := by intro w' hs_; have bH := (hs_.at dR 0).trans rfl; have bC := (hs_.at dR 1).trans rfl; have bF := (hs_.at dR 2).trans rfl; have bD := (hs_.at dR 3).trans rfl; have dC := (hs_.at dR 4).trans rfl; have dD := (hs_.at dR 5).trans rfl; have bY := (hs_.at dR 6).trans rfl; go_simp; with_reducible rfl)
         refine au 1 43 (bA 11 3) aj ?_
         refine au 2 44 (bA 11 7) aj ?_
         refine au 3 45 (bA 11 15) aj ?_
         refine yG (σ := Option Addr × Nat × Nat) 2 (bA 11 511) (fun s_ => [(46, .tuple #[.agg #[.int .u8 z.f0, .int .i64 z.f1.f0, .int .i64 z.f1.f1, .int .i64 z.f1.f2, .int .i64 z.f1.f3, .int .i64 z.f2, .slice s_.1 z.f3.length s_.2.1], .bool true]), (41, .tuple #[.agg #[.int .u8 z.f0, .int .i64 z.f1.f0, .int .i64 z.f1.f1, .int .i64 z.f1.f2, .int .i64 z.f1.f3, .int .i64 z.f2, .slice s_.1 z.f3.length s_.2.1], .bool true]), (47, .agg #[.int .u8 z.f0, .int .i64 z.f1.f0, .int .i64 z.f1.f1, .int .i64 z.f1.f2, .int .i64 z.f1.f3, .int .i64 z.f2, .slice s_.1 z.f3.length s_.2.1]), (48, .bool true), (10, .pointer (some ⟨s_.2.2, 0, none⟩))]) (fun s_ w' => St w P [(some s_.2.2, .cells #[.int .u8 0, .int .i64 0, .int .i64 0, .int .i64 0, .int .i64 0, .int .i64 0, .slice none 0 0] 26 (0, 0)), ((Value.slice Ap p.length cp).ownBlock, op), (some b6, .cells #[.slice none 0 0, .int .i64 0, .int .i64 0] 110 (0, 0)), (some b3, .cells #[.int .u8 ck, .int .i64 cx, .int .i64 cy, .int .i64 cw, .int .i64 ch, .int .i64 aT, .slice A l.length cc] 26 (0, 0))] [] [(.slice s_.1 z.f3.length s_.2.1, z.f3), (.slice A l.length cc, l)] [] w') ?_ ?_
         rotate_left
         ·intro jI
          refine zX (i := 4) (j := 8) (Ni := some 46) (Nj := some 10) (bA 11 31) (bA 11 271) rfl rfl rfl rfl (uy aj.out (by kernel_rfl)) (by decide) (by decide) (fun K hK => ?_) (fun K hK => ?_)
          ·skip
           refine jH Try.func92 (by kernel_rfl) rfl #[.agg #[.int .u8 ck, .int .i64 cx, .int .i64 cy, .int .i64 cw, .int .i64 ch, .int .i64 aT, .slice A l.length cc], .slice Ap pq.length cp] (by rfl) rfl rfl (by (try simp only [List.map_toArray, List.map_cons, List.map_nil]); rfl) ?_
           refine (wY ⟨ck, ⟨cx, cy, cw, ch⟩, aT, l⟩ pq z HAT.out (S.out.tree _ (.head _)) (eF iH.out S.out (.head _) jd.out).1 (eF iH.out S.out (.head _) jd.out).2).mono ?_
           rintro e eU ⟨Az, cz, rfl, h1, hb⟩
           refine ⟨_, rfl, ?_⟩
           replace S := ae.mk (S.out.res h1 hb)
           clear h1 hb
           refine hK.out _ _ S.out.dG (fun hHeld => ?_)
           clear hK K
           refine dK 46 ?_
           refine au 5 41 (bA 11 63) aj ?_
           refine au 6 47 (bA 11 127) aj ?_
           refine au 7 48 (bA 11 255) aj ?_
           refine jf 8 (some 10) (bA 11 511) aj (fun K hK => ?_)
           refine jL ?hg (N := 10) ?hd (cs := #[.int .u8 0, .int .i64 0, .int .i64 0, .int .i64 0, .int .i64 0, .int .i64 0, .slice none 0 0]) (t := 26) ?hr ?_; (case hd => rfl); (case hg => rfl); (case hr => (go_simp; done))
           intro b10 hg gV hbox hb
           replace S := ae.mk (S.out.box hg hbox hb)
           clear hg hbox hb
           refine hK.out _ _ S.out.dA.dG (fun hHeld => ?_)
           clear hK K
           refine dK 10 ?_
           exact kM (by simp only [gW, Act.put, List.setIfInBounds_toArray, List.set_cons_zero, List.set_cons_succ] <;> rfl) (jI (Az, cz, b10) _ S.out)
          ·skip
           refine jL ?hg (N := 10) ?hd (cs := #[.int .u8 0, .int .i64 0, .int .i64 0, .int .i64 0, .int .i64 0, .int .i64 0, .slice none 0 0]) (t := 26) ?hr ?_; (case hd => rfl); (case hg => rfl); (case hr => (go_simp; done))
           intro b10 hg ji hbox hb
           replace S := ae.mk (S.out.box hg hbox hb)
           clear hg hbox hb
           refine hK.out _ _ S.out.dA (fun hHeld => ?_)
           clear hK K
           refine dK 10 ?_
           refine jf 4 (some 46) (bA 11 287) aj (fun K hK => ?_)
           refine jH Try.func92 (by kernel_rfl) rfl #[.agg #[.int .u8 ck, .int .i64 cx, .int .i64 cy, .int .i64 cw, .int .i64 ch, .int .i64 aT, .slice A l.length cc], .slice Ap pq.length cp] (by rfl) rfl rfl (by (try simp only [List.map_toArray, List.map_cons, List.map_nil]); rfl) ?_
           refine (wY ⟨ck, ⟨cx, cy, cw, ch⟩, aT, l⟩ pq z HAT.out (S.out.tree _ (.head _)) (eF iH.out S.out bz jd.out).1 (eF iH.out S.out bz jd.out).2).mono ?_
           rintro e mg ⟨Az, cz, rfl, h1, hb⟩
           refine ⟨_, rfl, ?_⟩
           replace S := ae.mk (S.out.res h1 hb)
           clear h1 hb
           refine hK.out _ _ S.out.dA.dG (fun hHeld => ?_)
           clear hK K
           refine dK 46 ?_
           refine au 5 41 (bA 11 319) aj ?_
           refine au 6 47 (bA 11 383) aj ?_
           refine au 7 48 (bA 11 511) aj ?_
           exact kM (by simp only [gW, Act.put, List.setIfInBounds_toArray, List.set_cons_zero, List.set_cons_succ] <;> rfl) (jI (Az, cz, b10) _ S.out)
         rintro ⟨Az, cz, b10⟩ PG S1
         simp only [gW, Act.put, List.setIfInBounds_toArray, List.set_cons_zero, List.set_cons_succ]
         replace S := ae.mk S1
         clear S1 hHeld
         have hHeld := S.out.dA.dG
         refine nT 9 none (bA 11 1023) aj (fun K hK => ?_)
         refine n_ 0 rfl 26 (.tmp 10) (.tmp 47) rfl #[.int .u8 z.f0, .int .i64 z.f1.f0, .int .i64 z.f1.f1, .int .i64 z.f1.f2, .int .i64 z.f1.f3, .int .i64 z.f2, .slice Az z.f3.length cz] (j := 0) (u := .agg #[.int .u8 z.f0, .int .i64 z.f1.f0, .int .i64 z.f1.f1, .int .i64 z.f1.f2, .int .i64 z.f1.f3, .int .i64 z.f2, .slice Az z.f3.length cz]) (bG := [.int .u8 z.f0, .int .i64 z.f1.f0, .int .i64 z.f1.f1, .int .i64 z.f1.f2, .int .i64 z.f1.f3, .int .i64 z.f2, .slice Az z.f3.length cz]) S.out (by rfl) rfl rfl rfl rfl (by kernel_rfl) (by simp [Value.oneCell']) (by simp) rfl ?_
         intro xO S1
         simp only [List.set_cons_zero, List.set_cons_succ] at S1
         replace S := ae.mk S1
         clear S1
         refine hK.out _ _ ?_
         clear hK K
         refine au 10 11 (bA 11 2047) aj ?_
         refine jG (gK aj.out (by kernel_rfl)) ?_
         clear hHeld
         obtain ⟨vG, vH, vI, vJ, vK, vM, pM⟩ := St.fA S (.head _)
         go_wp2_with ((refine bT (some 51) Try.func88 S (BQ (c := z) HA.out (S.out.tree _ (.head _))) ?_; clear S; intro xP S; clear vG vH vI vJ vK vM pM))
         have hw := HW.out
         go_wp2
         go_roundg n
         case measure => exact Nat.lt_of_lt_of_le (Nat.lt_succ_self _) iF.out
         case rel => exact ⟨n, (by rw [hw]), ⟨by have := HN.out; omega⟩, Nat.le_refl _, HR, ⟨S.out.dG.dA.uP.uP.uP⟩⟩
        | true =>
         rw [ha, if_pos rfl] at hr
         cases hr
 ·intro p d z q ht h1 hf hfr hF
  have uJ := ae.mk (show p.length ≤ 1000000 by have := hpl p hf; have := HZ.out; omega)
  have CE := ae.mk hf
  obtain ⟨x, hx, _⟩ := (AO id _).1 _ (Nat.le_refl _) p hf
  have HX := ae.mk hx
  have HT := ae.mk ht
  have v_ := ae.mk hF
  have Je := ae.mk (show z.f3.length ≤ 1000000 by have h2 := Hr _ _ _ hF.at'; have h3 := bZ z; have h4 := jJ z.f3; have := HZ.out; omega)
  have HR := ae.mk (show oM (qP ax ⟨ck, ⟨cx, cy, cw, ch⟩, aT, l⟩ p) p.length = some d from hfr)
  clear ht hpl hf hx hfr hF
  obtain ⟨hxa, hxb⟩ := lY (a := ax) (b := 1) (by omega)
  obtain ⟨hya, hyb⟩ := lY (a := 2) (b := ax) (by omega)
  all_goals
   clear h1
   go_enter Try.func116, Try.ntmps116
   go_wp2_with (first | (refine boxS 3 _ 26 S ?_; clear S; intro b3 dQ S) | (refine boxS 6 _ 110 S ?_; clear S; intro b6 eU S; obtain ⟨bH, bC, bF, bD, dC, dD, bY⟩ := St.fA S bz) | (refine bT (some 14) Try.func84 S (ny HT.out (wO ⟨ck, ⟨cx, cy, cw, ch⟩, aT, l⟩ B_.out _ _ _ _ _ (S.out.tree _ (.head _)))) ?_; clear S; intro gV S; clear bH bC bF bD dC dD bY; obtain ⟨bH, bC, bF, bD, dC, dD, bY⟩ := St.fA S bz) | (refine Eb (some 28) Try.func90 S (GY id ⟨ck, ⟨cx, cy, cw, ch⟩, aT, l⟩ p CE.out HZ.out (S.out.tree _ (.head _))) ?_; clear S; intro Ap cp op ji S iH; clear bH bC bF bD dC dD bY))
   go_loopg [9] (p.length + 1) (fun gg v9 wr => ∃ n : Nat, v9 = .int .i64 ((n : Int) - 1) ∧ ae (n ≤ p.length) ∧ n ≤ gg ∧ ae (oM (qP ax ⟨ck, ⟨cx, cy, cw, ch⟩, aT, l⟩ p) n = some d) ∧ ae (St w P [((Value.slice Ap p.length cp).ownBlock, op), (some b6, .cells #[.slice none 0 0, .int .i64 0, .int .i64 0] 110 (0, 0)), (some b3, .cells #[.int .u8 ck, .int .i64 cx, .int .i64 cy, .int .i64 cw, .int .i64 ch, .int .i64 aT, .slice A l.length cc] 26 (0, 0))] [] [(.slice A l.length cc, l)] [] wr))
   case atStart => exact ⟨p.length, (by have := uJ.out; congr 1; unfold wrap64; omega), ⟨Nat.le_refl _⟩, Nat.le_succ _, HR, S⟩
   case round =>
    clear S HR
    obtain ⟨n, rfl, HN, hgg, HR, S⟩ := hrel
    cases n with
    | zero =>
     have h := HR.out
     cases h
    | succ n =>
     have e1 : (((n + 1 : Nat) : Int) - 1) = (n : Int) := by omega
     rw [e1]
     have mG := ae.mk (show n < p.length from HN.out)
     have iF := ae.mk hgg
     have hw : wrap64 ((n : Int) - 1) = (n : Int) - 1 := by have := HN.out; have := uJ.out; unfold wrap64; omega
     have HW := ae.mk hw
     have h0 : decide ((n : Int) ≥ 0) = true := decide_eq_true (Int.natCast_nonneg _)
     have wo : (0 : Int) ≤ (n : Int) := Int.natCast_nonneg _
     obtain ⟨z, qo, hi0, hi1⟩ := CO p ⟨ck, ⟨cx, cy, cw, ch⟩, aT, l⟩ _ HX.out n mG.out
     obtain ⟨pq, hpq⟩ : ∃ pq, pq = p.take n := ⟨_, rfl⟩
     have hal : qP ax ⟨ck, ⟨cx, cy, cw, ch⟩, aT, l⟩ p n = fM ax z.f0 := by unfold qP; rw [qo]
     rw [← hpq] at qo
     have HAT := ae.mk qo
     have jd := ae.mk (And.intro hpq (Nat.le_of_lt mG.out))
     have hcut : ∀ W : World, (Instr.slice 41 (.slice Ap p.length cp) none (some (.int .i64 (n : Int))) none).run Try.prog W = .ok (.slice Ap pq.length cp) W := by
      intro W
      obtain ⟨i0, hi0, _, hsz, _⟩ := info_parts info3
      have h := Gq (P := Try.prog) 41 3 .i64 Try.underlying41 hi0 Ap p.length cp (n : Int) (Int.natCast_nonneg _) (by have := mG.out; omega) (xR iH.out S.out (.head _)).2 W
      rw [Int.toNat_natCast, show n = pq.length by rw [hpq, List.length_take]; have := mG.out; omega] at h
      rw [show n = pq.length by rw [hpq, List.length_take]; have := mG.out; omega]
      exact h
     have HI0 := ae.mk hi0
     have HI1 := ae.mk hi1
     have hr := HR.out
     rw [oM, hal] at hr
     clear hw hgg e1 hal hpq qo hi0 hi1
     cases ha : fM ax z.f0 with
     | false =>
      rw [ha, if_neg (by simp)] at hr
      replace HR := ae.mk hr
      have HA := ae.mk ha
      clear hr ha
      go_wp2
      refine iT (n := 11) (S := fun w' => St w _ _ _ _ _ w') (ds := [9]) (bA 11 0) (by kernel_rfl) rfl rfl (S.out.call (bg (Below.refl _ _))) (fun hHeld => ?_); refine eP oW.zu oW.vF (fun aj dW => ?_)
      replace S := ae.mk (S.out.call (bg (Below.refl _ _)))
      generalize wr.drew = Cj at S hHeld ⊢
      refine dO 0 42 (bA 11 1) aj dW hHeld ?_ (hv := by intro w' hs_; have bH := (hs_.at dR 0).trans rfl; have bC := (hs_.at dR 1).trans rfl; have bF := (hs_.at dR 2).trans rfl; have bD := (hs_.at dR 3).trans rfl; have dC := (hs_.at dR 4).trans rfl; have dD := (hs_.at dR 5).trans rfl; have bY := (hs_.at dR 6).trans rfl; go_simp; with_reducible rfl)
      refine au 1 43 (bA 11 3) aj ?_
      refine au 2 44 (bA 11 7) aj ?_
      refine au 3 45 (bA 11 15) aj ?_
      refine yG (σ := Option Addr × Nat × Nat) 2 (bA 11 511) (fun s_ => [(46, .tuple #[.agg #[.int .u8 z.f0, .int .i64 z.f1.f0, .int .i64 z.f1.f1, .int .i64 z.f1.f2, .int .i64 z.f1.f3, .int .i64 z.f2, .slice s_.1 z.f3.length s_.2.1], .bool true]), (41, .tuple #[.agg #[.int .u8 z.f0, .int .i64 z.f1.f0, .int .i64 z.f1.f1, .int .i64 z.f1.f2, .int .i64 z.f1.f3, .int .i64 z.f2, .slice s_.1 z.f3.length s_.2.1], .bool true]), (47, .agg #[.int .u8 z.f0, .int .i64 z.f1.f0, .int .i64 z.f1.f1, .int .i64 z.f1.f2, .int .i64 z.f1.f3, .int .i64 z.f2, .slice s_.1 z.f3.length s_.2.1]), (48, .bool true), (10, .pointer (some ⟨s_.2.2, 0, none⟩))]) (fun s_ w' => St w P [(some s_.2.2, .cells #[.int .u8 0, .int .i64 0, .int .i64 0, .int .i64 0, .int .i64 0, .int .i64 0, .slice none 0 0] 26 (0, 0)), ((Value.slice Ap p.length cp).ownBlock, op), (some b6, .cells #[.slice none 0 0, .int .i64 0, .int .i64 0] 110 (0, 0)), (some b3, .cells #[.int .u8 ck, .int .i64 cx, .int .i64 cy, .int .i64 cw, .int .i64 ch, .int .i64 aT, .slice A l.length cc] 26 (0, 0))] [] [(.slice s_.1 z.f3.length s_.2.1, z.f3), (.slice A l.length cc, l)] [] w') ?_ ?_
      rotate_left
      ·intro jI
       refine zX (i := 4) (j := 8) (Ni := some 46) (Nj := some 10) (bA 11 31) (bA 11 271) rfl rfl rfl rfl (uy aj.out (by kernel_rfl)) (by decide) (by decide) (fun K hK => ?_) (fun K hK => ?_)
       ·skip
        refine jH Try.func92 (by kernel_rfl) rfl #[.agg #[.int .u8 ck, .int .i64 cx, .int .i64 cy, .int .i64 cw, .int .i64 ch, .int .i64 aT, .slice A l.length cc], .slice Ap pq.length cp] (by rfl) rfl rfl (by (try simp only [List.map_toArray, List.map_cons, List.map_nil]); rfl) ?_
        refine (wY ⟨ck, ⟨cx, cy, cw, ch⟩, aT, l⟩ pq z HAT.out (S.out.tree _ (.head _)) (eF iH.out S.out (.head _) jd.out).1 (eF iH.out S.out (.head _) jd.out).2).mono ?_
        rintro e eU ⟨Az, cz, rfl, h1, hb⟩
        refine ⟨_, rfl, ?_⟩
        replace S := ae.mk (S.out.res h1 hb)
        clear h1 hb
        refine hK.out _ _ S.out.dG (fun hHeld => ?_)
        clear hK K
        refine dK 46 ?_
        refine au 5 41 (bA 11 63) aj ?_
        refine au 6 47 (bA 11 127) aj ?_
        refine au 7 48 (bA 11 255) aj ?_
        refine jf 8 (some 10) (bA 11 511) aj (fun K hK => ?_)
        refine jL ?hg (N := 10) ?hd (cs := #[.int .u8 0, .int .i64 0, .int .i64 0, .int .i64 0, .int .i64 0, .int .i64 0, .slice none 0 0]) (t := 26) ?hr ?_; (case hd => rfl); (case hg => rfl); (case hr => (go_simp; done))
        intro b10 hg gV hbox hb
        replace S := ae.mk (S.out.box hg hbox hb)
        clear hg hbox hb
        refine hK.out _ _ S.out.dA.dG (fun hHeld => ?_)
        clear hK K
        refine dK 10 ?_
        exact kM (by simp only [gW, Act.put, List.setIfInBounds_toArray, List.set_cons_zero, List.set_cons_succ] <;> rfl) (jI (Az, cz, b10) _ S.out)
       ·skip
        refine jL ?hg (N := 10) ?hd (cs := #[.int .u8 0, .int .i64 0, .int .i64 0, .int .i64 0, .int .i64 0, .int .i64 0, .slice none 0 0]) (t := 26) ?hr ?_; (case hd => rfl); (case hg => rfl); (case hr => (go_simp; done))
        intro b10 hg ji hbox hb
        replace S := ae.mk (S.out.box hg hbox hb)
        clear hg hbox hb
        refine hK.out _ _ S.out.dA (fun hHeld => ?_)
        clear hK K
        refine dK 10 ?_
        refine jf 4 (some 46) (bA 11 287) aj (fun K hK => ?_)
        refine jH Try.func92 (by kernel_rfl) rfl #[.agg #[.int .u8 ck, .int .i64 cx, .int .i64 cy, .int .i64 cw, .int .i64 ch, .int .i64 aT, .slice A l.length cc], .slice Ap pq.length cp] (by rfl) rfl rfl (by (try simp only [List.map_toArray, List.map_cons, List.map_nil]); rfl) ?_
        refine (wY ⟨ck, ⟨cx, cy, cw, ch⟩, aT, l⟩ pq z HAT.out (S.out.tree _ (.head _)) (eF iH.out S.out bz jd.out).1 (eF iH.out S.out bz jd.out).2).mono ?_
        rintro e mg ⟨Az, cz, rfl, h1, hb⟩
        refine ⟨_, rfl, ?_⟩
        replace S := ae.mk (S.out.res h1 hb)
        clear h1 hb
        refine hK.out _ _ S.out.dA.dG (fun hHeld => ?_)
        clear hK K
        refine dK 46 ?_
        refine au 5 41 (bA 11 319) aj ?_
        refine au 6 47 (bA 11 383) aj ?_
        refine au 7 48 (bA 11 511) aj ?_
        exact kM (by simp only [gW, Act.put, List.setIfInBounds_toArray, List.set_cons_zero, List.set_cons_succ] <;> rfl) (jI (Az, cz, b10) _ S.out)
      rintro ⟨Az, cz, b10⟩ PG S1
      simp only [gW, Act.put, List.setIfInBounds_toArray, List.set_cons_zero, List.set_cons_succ]
      replace S := ae.mk S1
      clear S1 hHeld
      have hHeld := S.out.dA.dG
      refine nT 9 none (bA 11 1023) aj (fun K hK => ?_)
      refine n_ 0 rfl 26 (.tmp 10) (.tmp 47) rfl #[.int .u8 z.f0, .int .i64 z.f1.f0, .int .i64 z.f1.f1, .int .i64 z.f1.f2, .int .i64 z.f1.f3, .int .i64 z.f2, .slice Az z.f3.length cz] (j := 0) (u := .agg #[.int .u8 z.f0, .int .i64 z.f1.f0, .int .i64 z.f1.f1, .int .i64 z.f1.f2, .int .i64 z.f1.f3, .int .i64 z.f2, .slice Az z.f3.length cz]) (bG := [.int .u8 z.f0, .int .i64 z.f1.f0, .int .i64 z.f1.f1, .int .i64 z.f1.f2, .int .i64 z.f1.f3, .int .i64 z.f2, .slice Az z.f3.length cz]) S.out (by rfl) rfl rfl rfl rfl (by kernel_rfl) (by simp [Value.oneCell']) (by simp) rfl ?_
      intro xO S1
      simp only [List.set_cons_zero, List.set_cons_succ] at S1
      replace S := ae.mk S1
      clear S1
      refine hK.out _ _ ?_
      clear hK K
      refine au 10 11 (bA 11 2047) aj ?_
      refine jG (gK aj.out (by kernel_rfl)) ?_
      clear hHeld
      obtain ⟨vG, vH, vI, vJ, vK, vM, pM⟩ := St.fA S (.head _)
      go_wp2_with ((refine bT (some 51) Try.func88 S (BQ (c := z) HA.out (S.out.tree _ (.head _))) ?_; clear S; intro xP S; clear vG vH vI vJ vK vM pM))
      have hw := HW.out
      go_wp2
      go_roundg n
      case measure => exact Nat.lt_of_lt_of_le (Nat.lt_succ_self _) iF.out
      case rel => exact ⟨n, (by rw [hw]), ⟨by have := HN.out; omega⟩, Nat.le_refl _, HR, ⟨S.out.dG.dA.uP.uP.uP⟩⟩
     | true =>
      rw [ha, if_pos rfl] at hr
      injection hr with hr
      subst hr
      have hzz := HAT.out
      rw [jd.out.1, v_.out.at'] at hzz
      injection hzz with hzz
      subst hzz
      have HA := ae.mk ha
      clear ha
      obtain ⟨yw, ek, _⟩ := Kd.iW (xR iH.out S.out (.head _)).1 (n : Int) (Int.natCast_nonneg _) (by have := mG.out; omega)
      subst ek
      have PV := ae.mk (show (n : Int) < (p.length : Int) by have := mG.out; omega)
      have hnn : n < p.length := mG.out
      have hw2 : wrap64 ((z.f3.length : Int) - 1) = (z.f3.length : Int) - 1 := by have := v_.out.len; have := Je.out; unfold wrap64; omega
      have HW3 := ae.mk (show wrap64 (rd p (n : Int) - 1) = rd p (n : Int) - 1 by have := HI0.out; have := HI1.out; have := Je.out; unfold wrap64; omega)
      by_cases hq : rd p (n : Int) = (z.f3.length : Int) - 1
      case pos =>
       obtain ⟨hqa, hqb, hqd⟩ := yT (a := rd p (n : Int)) (b := (z.f3.length : Int) - 1) (by omega)
       have HQV := ae.mk (show rd p (n : Int) - 1 = (q : Int) by have h := v_.out.hq; have := HI1.out; have := v_.out.len; rw [h]; unfold mn; split <;> omega)
       clear hq
       go_wp2
       refine iT (n := 11) (S := fun w' => St w _ _ _ _ _ w') (ds := [9]) (bA 11 0) (by kernel_rfl) rfl rfl (S.out.call (bg (Below.refl _ _))) (fun hHeld => ?_); refine eP oW.zu oW.vF (fun aj dW => ?_)
       replace S := ae.mk (S.out.call (bg (Below.refl _ _)))
       generalize wr.drew = Cj at S hHeld ⊢
       refine dO 0 42 (bA 11 1) aj dW hHeld ?_ (hv := by intro w' hs_; have bH := (hs_.at dR 0).trans rfl; have bC := (hs_.at dR 1).trans rfl; have bF := (hs_.at dR 2).trans rfl; have bD := (hs_.at dR 3).trans rfl; have dC := (hs_.at dR 4).trans rfl; have dD := (hs_.at dR 5).trans rfl; have bY := (hs_.at dR 6).trans rfl; go_simp; with_reducible rfl)
       refine au 1 43 (bA 11 3) aj ?_
       refine au 2 44 (bA 11 7) aj ?_
       refine au 3 45 (bA 11 15) aj ?_
       refine yG (σ := Option Addr × Nat × Nat) 2 (bA 11 511) (fun s_ => [(46, .tuple #[.agg #[.int .u8 z.f0, .int .i64 z.f1.f0, .int .i64 z.f1.f1, .int .i64 z.f1.f2, .int .i64 z.f1.f3, .int .i64 z.f2, .slice s_.1 z.f3.length s_.2.1], .bool true]), (41, .tuple #[.agg #[.int .u8 z.f0, .int .i64 z.f1.f0, .int .i64 z.f1.f1, .int .i64 z.f1.f2, .int .i64 z.f1.f3, .int .i64 z.f2, .slice s_.1 z.f3.length s_.2.1], .bool true]), (47, .agg #[.int .u8 z.f0, .int .i64 z.f1.f0, .int .i64 z.f1.f1, .int .i64 z.f1.f2, .int .i64 z.f1.f3, .int .i64 z.f2, .slice s_.1 z.f3.length s_.2.1]), (48, .bool true), (10, .pointer (some ⟨s_.2.2, 0, none⟩))]) (fun s_ w' => St w P [(some s_.2.2, .cells #[.int .u8 0, .int .i64 0, .int .i64 0, .int .i64 0, .int .i64 0, .int .i64 0, .slice none 0 0] 26 (0, 0)), ((Value.slice (some yw) p.length cp).ownBlock, op), (some b6, .cells #[.slice none 0 0, .int .i64 0, .int .i64 0] 110 (0, 0)), (some b3, .cells #[.int .u8 ck, .int .i64 cx, .int .i64 cy, .int .i64 cw, .int .i64 ch, .int .i64 aT, .slice A l.length cc] 26 (0, 0))] [] [(.slice s_.1 z.f3.length s_.2.1, z.f3), (.slice A l.length cc, l)] [] w') ?_ ?_
       rotate_left
       ·intro jI
        refine zX (i := 4) (j := 8) (Ni := some 46) (Nj := some 10) (bA 11 31) (bA 11 271) rfl rfl rfl rfl (uy aj.out (by kernel_rfl)) (by decide) (by decide) (fun K hK => ?_) (fun K hK => ?_)
        ·skip
         refine jH Try.func92 (by kernel_rfl) rfl #[.agg #[.int .u8 ck, .int .i64 cx, .int .i64 cy, .int .i64 cw, .int .i64 ch, .int .i64 aT, .slice A l.length cc], .slice (some yw) pq.length cp] (by rfl) rfl rfl (by (try simp only [List.map_toArray, List.map_cons, List.map_nil]); rfl) ?_
         refine (wY ⟨ck, ⟨cx, cy, cw, ch⟩, aT, l⟩ pq z HAT.out (S.out.tree _ (.head _)) (eF iH.out S.out (.head _) jd.out).1 (eF iH.out S.out (.head _) jd.out).2).mono ?_
         rintro e eU ⟨Az, cz, rfl, h1, hb⟩
         refine ⟨_, rfl, ?_⟩
         replace S := ae.mk (S.out.res h1 hb)
         clear h1 hb
         refine hK.out _ _ S.out.dG (fun hHeld => ?_)
         clear hK K
         refine dK 46 ?_
         refine au 5 41 (bA 11 63) aj ?_
         refine au 6 47 (bA 11 127) aj ?_
         refine au 7 48 (bA 11 255) aj ?_
         refine jf 8 (some 10) (bA 11 511) aj (fun K hK => ?_)
         refine jL ?hg (N := 10) ?hd (cs := #[.int .u8 0, .int .i64 0, .int .i64 0, .int .i64 0, .int .i64 0, .int .i64 0, .slice none 0 0]) (t := 26) ?hr ?_; (case hd => rfl); (case hg => rfl); (case hr => (go_simp; done))
         intro b10 hg gV hbox hb
         replace S := ae.mk (S.out.box hg hbox hb)
         clear hg hbox hb
         refine hK.out _ _ S.out.dA.dG (fun hHeld => ?_)
         clear hK K
         refine dK 10 ?_
         exact kM (by simp only [gW, Act.put, List.setIfInBounds_toArray, List.set_cons_zero, List.set_cons_succ] <;> rfl) (jI (Az, cz, b10) _ S.out)
        ·skip
         refine jL ?hg (N := 10) ?hd (cs := #[.int .u8 0, .int .i64 0, .int .i64 0, .int .i64 0, .int .i64 0, .int .i64 0, .slice none 0 0]) (t := 26) ?hr ?_; (case hd => rfl); (case hg => rfl); (case hr => (go_simp; done))
         intro b10 hg ji hbox hb
         replace S := ae.mk (S.out.box hg hbox hb)
         clear hg hbox hb
         refine hK.out _ _ S.out.dA (fun hHeld => ?_)
         clear hK K
         refine dK 10 ?_
         refine jf 4 (some 46) (bA 11 287) aj (fun K hK => ?_)
         refine jH Try.func92 (by kernel_rfl) rfl #[.agg #[.int .u8 ck, .int .i64 cx, .int .i64 cy, .int .i64 cw, .int .i64 ch, .int .i64 aT, .slice A l.length cc], .slice (some yw) pq.length cp] (by rfl) rfl rfl (by (try simp only [List.map_toArray, List.map_cons, List.map_nil]); rfl) ?_
         refine (wY ⟨ck, ⟨cx, cy, cw, ch⟩, aT, l⟩ pq z HAT.out (S.out.tree _ (.head _)) (eF iH.out S.out bz jd.out).1 (eF iH.out S.out bz jd.out).2).mono ?_
         rintro e mg ⟨Az, cz, rfl, h1, hb⟩
         refine ⟨_, rfl, ?_⟩
         replace S := ae.mk (S.out.res h1 hb)
         clear h1 hb
         refine hK.out _ _ S.out.dA.dG (fun hHeld => ?_)
         clear hK K
         refine dK 46 ?_
         refine au 5 41 (bA 11 319) aj ?_
         refine au 6 47 (bA 11 383) aj ?_
         refine au 7 48 (bA 11 511) aj ?_
         exact kM (by simp only [gW, Act.put, List.setIfInBounds_toArray, List.set_cons_zero, List.set_cons_succ] <;> rfl) (jI (Az, cz, b10) _ S.out)
       rintro ⟨Az, cz, b10⟩ PG S1
       simp only [gW, Act.put, List.setIfInBounds_toArray, List.set_cons_zero, List.set_cons_succ]
       replace S := ae.mk S1
       clear S1 hHeld
       have hHeld := S.out.dA.dG
       refine nT 9 none (bA 11 1023) aj (fun K hK => ?_)
       refine n_ 0 rfl 26 (.tmp 10) (.tmp 47) rfl #[.int .u8 z.f0, .int .i64 z.f1.f0, .int .i64 z.f1.f1, .int .i64 z.f1.f2, .int .i64 z.f1.f3, .int .i64 z.f2, .slice Az z.f3.length cz] (j := 0) (u := .agg #[.int .u8 z.f0, .int .i64 z.f1.f0, .int .i64 z.f1.f1, .int .i64 z.f1.f2, .int .i64 z.f1.f3, .int .i64 z.f2, .slice Az z.f3.length cz]) (bG := [.int .u8 z.f0, .int .i64 z.f1.f0, .int .i64 z.f1.f1, .int .i64 z.f1.f2, .int .i64 z.f1.f3, .int .i64 z.f2, .slice Az z.f3.length cz]) S.out (by rfl) rfl rfl rfl rfl (by kernel_rfl) (by simp [Value.oneCell']) (by simp) rfl ?_
       intro xO S1
       simp only [List.set_cons_zero, List.set_cons_succ] at S1
       replace S := ae.mk S1
       clear S1
       refine hK.out _ _ ?_
       clear hK K
       refine au 10 11 (bA 11 2047) aj ?_
       refine jG (gK aj.out (by kernel_rfl)) ?_
       clear hHeld
       obtain ⟨vG, vH, vI, vJ, vK, vM, pM⟩ := St.fA S (.head _)
       go_wp2_with (first | (refine bT (some 51) Try.func88 S (BQ (c := z) HA.out (S.out.tree _ (.head _))) ?_; clear S; intro xP S; clear vG vH vI vJ vK vM pM; have xp := Be iH.out (S.out.blk _ bz) n PV.out; have pM := (S.out.at (.head _) 6).trans rfl) | (refine QN 110 6 69 #[.slice (some yw) pq.length cp, .int .i64 (wrap64 ((rd p (n : Int)) - 1)), .int .i64 0] 0 3 S ?_; clear S; intro EI S; clear xp pM))
       refine bodyPost_ret (results_cell_row rfl _ _ b6 110 _ (0, 0) _ rfl (S.out.blk _ dR _ rfl) Try.underlying110 rfl (by kernel_rfl)) rfl ?_
       exact ⟨_, _, _, (by rw [jd.out.1, ← HQV.out]; (try rw [HW3.out])), iH.out, (fun g hg => ⟨(S.out.new g (mem_keys bz hg)).1, S.out.blk _ bz g hg⟩), S.out.below⟩
      case neg =>
       obtain ⟨hqa, hqb, hqd⟩ := eqF (a := rd p (n : Int)) (b := (z.f3.length : Int) - 1) (by omega)
       have HQV := ae.mk (show rd p (n : Int) = (q : Int) by have h := v_.out.hq; have := HI1.out; have := v_.out.len; rw [h]; unfold mn; split <;> omega)
       clear hq
       go_wp2
       refine iT (n := 11) (S := fun w' => St w _ _ _ _ _ w') (ds := [9]) (bA 11 0) (by kernel_rfl) rfl rfl (S.out.call (bg (Below.refl _ _))) (fun hHeld => ?_); refine eP oW.zu oW.vF (fun aj dW => ?_)
       replace S := ae.mk (S.out.call (bg (Below.refl _ _)))
       generalize wr.drew = Cj at S hHeld ⊢
       refine dO 0 42 (bA 11 1) aj dW hHeld ?_ (hv := by intro w' hs_; have bH := (hs_.at dR 0).trans rfl; have bC := (hs_.at dR 1).trans rfl; have bF := (hs_.at dR 2).trans rfl; have bD := (hs_.at dR 3).trans rfl; have dC := (hs_.at dR 4).trans rfl; have dD := (hs_.at dR 5).trans rfl; have bY := (hs_.at dR 6).trans rfl; go_simp; with_reducible rfl)
       refine au 1 43 (bA 11 3) aj ?_
       refine au 2 44 (bA 11 7) aj ?_
       refine au 3 45 (bA 11 15) aj ?_
       refine yG (σ := Option Addr × Nat × Nat) 2 (bA 11 511) (fun s_ => [(46, .tuple #[.agg #[.int .u8 z.f0, .int .i64 z.f1.f0, .int .i64 z.f1.f1, .int .i64 z.f1.f2, .int .i64 z.f1.f3, .int .i64 z.f2, .slice s_.1 z.f3.length s_.2.1], .bool true]), (41, .tuple #[.agg #[.int .u8 z.f0, .int .i64 z.f1.f0, .int .i64 z.f1.f1, .int .i64 z.f1.f2, .int .i64 z.f1.f3, .int .i64 z.f2, .slice s_.1 z.f3.length s_.2.1], .bool true]), (47, .agg #[.int .u8 z.f0, .int .i64 z.f1.f0, .int .i64 z.f1.f1, .int .i64 z.f1.f2, .int .i64 z.f1.f3, .int .i64 z.f2, .slice s_.1 z.f3.length s_.2.1]), (48, .bool true), (10, .pointer (some ⟨s_.2.2, 0, none⟩))]) (fun s_ w' => St w P [(some s_.2.2, .cells #[.int .u8 0, .int .i64 0, .int .i64 0, .int .i64 0, .int .i64 0, .int .i64 0, .slice none 0 0] 26 (0, 0)), ((Value.slice (some yw) p.length cp).ownBlock, op), (some b6, .cells #[.slice none 0 0, .int .i64 0, .int .i64 0] 110 (0, 0)), (some b3, .cells #[.int .u8 ck, .int .i64 cx, .int .i64 cy, .int .i64 cw, .int .i64 ch, .int .i64 aT, .slice A l.length cc] 26 (0, 0))] [] [(.slice s_.1 z.f3.length s_.2.1, z.f3), (.slice A l.length cc, l)] [] w') ?_ ?_
       rotate_left
       ·intro jI
        refine zX (i := 4) (j := 8) (Ni := some 46) (Nj := some 10) (bA 11 31) (bA 11 271) rfl rfl rfl rfl (uy aj.out (by kernel_rfl)) (by decide) (by decide) (fun K hK => ?_) (fun K hK => ?_)
        ·skip
         refine jH Try.func92 (by kernel_rfl) rfl #[.agg #[.int .u8 ck, .int .i64 cx, .int .i64 cy, .int .i64 cw, .int .i64 ch, .int .i64 aT, .slice A l.length cc], .slice (some yw) pq.length cp] (by rfl) rfl rfl (by (try simp only [List.map_toArray, List.map_cons, List.map_nil]); rfl) ?_
         refine (wY ⟨ck, ⟨cx, cy, cw, ch⟩, aT, l⟩ pq z HAT.out (S.out.tree _ (.head _)) (eF iH.out S.out (.head _) jd.out).1 (eF iH.out S.out (.head _) jd.out).2).mono ?_
         rintro e eU ⟨Az, cz, rfl, h1, hb⟩
         refine ⟨_, rfl, ?_⟩
         replace S := ae.mk (S.out.res h1 hb)
         clear h1 hb
         refine hK.out _ _ S.out.dG (fun hHeld => ?_)
         clear hK K
         refine dK 46 ?_
         refine au 5 41 (bA 11 63) aj ?_
         refine au 6 47 (bA 11 127) aj ?_
         refine au 7 48 (bA 11 255) aj ?_
         refine jf 8 (some 10) (bA 11 511) aj (fun K hK => ?_)
         refine jL ?hg (N := 10) ?hd (cs := #[.int .u8 0, .int .i64 0, .int .i64 0, .int .i64 0, .int .i64 0, .int .i64 0, .slice none 0 0]) (t := 26) ?hr ?_; (case hd => rfl); (case hg => rfl); (case hr => (go_simp; done))
         intro b10 hg gV hbox hb
         replace S := ae.mk (S.out.box hg hbox hb)
         clear hg hbox hb
         refine hK.out _ _ S.out.dA.dG (fun hHeld => ?_)
         clear hK K
         refine dK 10 ?_
         exact kM (by simp only [gW, Act.put, List.setIfInBounds_toArray, List.set_cons_zero, List.set_cons_succ] <;> rfl) (jI (Az, cz, b10) _ S.out)
        ·skip
         refine jL ?hg (N := 10) ?hd (cs := #[.int .u8 0, .int .i64 0, .int .i64 0, .int .i64 0, .int .i64 0, .int .i64 0, .slice none 0 0]) (t := 26) ?hr ?_; (case hd => rfl); (case hg => rfl); (case hr => (go_simp; done))
         intro b10 hg ji hbox hb
         replace S := ae.mk (S.out.box hg hbox hb)
         clear hg hbox hb
         refine hK.out _ _ S.out.dA (fun hHeld => ?_)
         clear hK K
         refine dK 10 ?_
         refine jf 4 (some 46) (bA 11 287) aj (fun K hK => ?_)
         refine jH Try.func92 (by kernel_rfl) rfl #[.agg #[.int .u8 ck, .int .i64 cx, .int .i64 cy, .int .i64 cw, .int .i64 ch, .int .i64 aT, .slice A l.length cc], .slice (some yw) pq.length cp] (by rfl) rfl rfl (by (try simp only [List.map_toArray, List.map_cons, List.map_nil]); rfl) ?_
         refine (wY ⟨ck, ⟨cx, cy, cw, ch⟩, aT, l⟩ pq z HAT.out (S.out.tree _ (.head _)) (eF iH.out S.out bz jd.out).1 (eF iH.out S.out bz jd.out).2).mono ?_
         rintro e mg ⟨Az, cz, rfl, h1, hb⟩
         refine ⟨_, rfl, ?_⟩
         replace S := ae.mk (S.out.res h1 hb)
         clear h1 hb
         refine hK.out _ _ S.out.dA.dG (fun hHeld => ?_)
         clear hK K
         refine dK 46 ?_
         refine au 5 41 (bA 11 319) aj ?_
         refine au 6 47 (bA 11 383) aj ?_
         refine au 7 48 (bA 11 511) aj ?_
         exact kM (by simp only [gW, Act.put, List.setIfInBounds_toArray, List.set_cons_zero, List.set_cons_succ] <;> rfl) (jI (Az, cz, b10) _ S.out)
       rintro ⟨Az, cz, b10⟩ PG S1
       simp only [gW, Act.put, List.setIfInBounds_toArray, List.set_cons_zero, List.set_cons_succ]
       replace S := ae.mk S1
       clear S1 hHeld
       have hHeld := S.out.dA.dG
       refine nT 9 none (bA 11 1023) aj (fun K hK => ?_)
       refine n_ 0 rfl 26 (.tmp 10) (.tmp 47) rfl #[.int .u8 z.f0, .int .i64 z.f1.f0, .int .i64 z.f1.f1, .int .i64 z.f1.f2, .int .i64 z.f1.f3, .int .i64 z.f2, .slice Az z.f3.length cz] (j := 0) (u := .agg #[.int .u8 z.f0, .int .i64 z.f1.f0, .int .i64 z.f1.f1, .int .i64 z.f1.f2, .int .i64 z.f1.f3, .int .i64 z.f2, .slice Az z.f3.length cz]) (bG := [.int .u8 z.f0, .int .i64 z.f1.f0, .int .i64 z.f1.f1, .int .i64 z.f1.f2, .int .i64 z.f1.f3, .int .i64 z.f2, .slice Az z.f3.length cz]) S.out (by rfl) rfl rfl rfl rfl (by kernel_rfl) (by simp [Value.oneCell']) (by simp) rfl ?_
       intro xO S1
       simp only [List.set_cons_zero, List.set_cons_succ] at S1
       replace S := ae.mk S1
       clear S1
       refine hK.out _ _ ?_
       clear hK K
       refine au 10 11 (bA 11 2047) aj ?_
       refine jG (gK aj.out (by kernel_rfl)) ?_
       clear hHeld
       obtain ⟨vG, vH, vI, vJ, vK, vM, pM⟩ := St.fA S (.head _)
       go_wp2_with (first | (refine bT (some 51) Try.func88 S (BQ (c := z) HA.out (S.out.tree _ (.head _))) ?_; clear S; intro xP S; clear vG vH vI vJ vK vM pM; have xp := Be iH.out (S.out.blk _ bz) n PV.out; have pM := (S.out.at (.head _) 6).trans rfl) | (refine QN 110 6 69 #[.slice (some yw) pq.length cp, .int .i64 (rd p (n : Int)), .int .i64 0] 0 3 S ?_; clear S; intro EI S; clear xp pM))
       refine bodyPost_ret (results_cell_row rfl _ _ b6 110 _ (0, 0) _ rfl (S.out.blk _ dR _ rfl) Try.underlying110 rfl (by kernel_rfl)) rfl ?_
       exact ⟨_, _, _, (by rw [jd.out.1, ← HQV.out]), iH.out, (fun g hg => ⟨(S.out.new g (mem_keys bz hg)).1, S.out.blk _ bz g hg⟩), S.out.below⟩
end Go.Proofs.Ytfdmfgaiblfbhaa.P
namespace Go.Proofs.Ytfdmfgaiblfbhaa.P
open Go.RowKit Go.Proofs.ag.aQ Go.Proofs.ag.bu Go.Proofs.ag.bP
end Go.Proofs.Ytfdmfgaiblfbhaa.P
namespace Go.Proofs.Ytfdmfgaiblfbhaa.Pure
open Go.RowKit Go.Proofs.Ytfdmfgaiblfbhaa.P Go.Proofs.ag.aQ Go.Proofs.ag.bu Go.Proofs.ag.bP
end Go.Proofs.Ytfdmfgaiblfbhaa.Pure
namespace Go.Proofs.Ytfdmfgaiblfbhaa.P
open Go.RowKit Go.Proofs.ag.aQ Go.Proofs.ag.bu Go.Proofs.ag.bP
section
variable {W : World} {b : Nat} {P : Nat → Prop} {A : Option Addr} {cc : Nat}
theorem Po (r : dw) (ax : Int) : Calls Try.prog 87 #[.agg #[.int .i64 r.f0, .int .i64 r.f1, .int .i64 r.f2, .int .i64 r.f3], .int .u8 ax] W fun e w' => e = .returned (.int .i64 (aV ax r)) ∧ Below W.heap.size W w' :=
 pY.calls r.f0 r.f1 r.f2 r.f3 ax _ W (QU r ax)
end
section
variable {Pr : Program} {ops : Array Oper} {rest : List Oper} {op : Oper} {a : Act} {Q : Exit → Act → World → Prop} {w W : World} {P : Nat → Prop} {bs : List (Option Nat × Obj)} {ow : List (Value × List ai)} {ts : List (Value × List ai)} {ro : List (Addr × Value)}
end
def aea.T1 : Bool × List (List Nat × List Nat) := (true, [([], []), ([0], [0]), ([], []), ([1, 2], [1, 2]), ([3], [3]), ([4], [4]), ([], []), ([5, 6], [5, 6]), ([], []), ([8], [8]), ([], []), ([9, 10], [9, 10]), ([11], [11]), ([], []), ([12, 13, 7], [12, 13]), ([7, 14], [7, 14]), ([15, 14, 0, 1, 2, 3, 4, 5, 6, 7, 8, 9, 10, 11, 12, 13, 14, 15], [15])])
def aea.B1 : List Nat := [0, 1, 0, 7, 15, 31, 0, 127, 0, 256, 0, 1792, 3840, 0, 16383, 32767, 65535]
def aeb.T9 : Bool × List (List Nat × List Nat) := (true, [([], []), ([], []), ([], []), ([0, 1, 2], [0, 1, 2]), ([], []), ([4], [4]), ([5], [5]), ([], []), ([7], [7]), ([8], [8]), ([3, 6, 9, 3], [3, 6, 9]), ([10, 10, 0, 1, 2, 3, 4, 5, 6, 7, 8, 9, 10], [10]), ([11, 0, 1, 2, 3, 4, 5, 6, 7, 8, 9, 10, 11], [])])
def aeb.B9 : List Nat := [0, 0, 0, 7, 0, 16, 48, 0, 128, 384, 1023, 2047, 4095]
def ad_.T3 : Bool × List (List Nat × List Nat) := (true, [([], []), ([], []), ([1], [1]), ([0, 0], [0]), ([3, 0, 3], []), ([2, 4, 0, 1, 2, 3, 4], [2])])
def ad_.B3 : List Nat := [0, 0, 2, 1, 9, 31]
theorem Pn {ax id : Int} {c : ai} {p pq : List Int} {d : Nat} {z : ai} {q : Nat} {b : Nat} {P : Nat → Prop} {A : Option Addr} {cc : Nat} {w : World} (h : mF ax id c p d z q) (hpq : pq = p.take d) (hz : sz c ≤ 1000000) (hv : Kd.V k26 26 w b P (.slice A c.f3.length cc) c.f3) :
  Calls Try.prog 116 #[.agg #[.int .u8 c.f0, .int .i64 c.f1.f0, .int .i64 c.f1.f1, .int .i64 c.f1.f2, .int .i64 c.f1.f3, .int .i64 c.f2, .slice A c.f3.length cc], .int .i64 id, .int .u8 ax] w (fun e w' => ∃ Ap cp op, e = .returned (.agg #[.slice Ap pq.length cp, .int .i64 (q : Int), .int .i64 0]) ∧ IR w.heap.size (.slice Ap p.length cp) p op ∧ (∀ g, (Value.slice Ap p.length cp).ownBlock = some g → w.heap.size ≤ g ∧ w'.heap[g]? = some op) ∧ Below w.heap.size w w') := by
 subst hpq
 exact (OC c hz id ax b P A cc w hv).2 p d z q h.qC h.hax h.find h.XF h.fr
theorem RX : ∀ (p r : List Int) (c z : ai), jE c p = some z → jE c (p ++ r) = jE z r := by
 intro p
 induction p with
 | nil => intro r c z h; simp only [jE] at h; injection h with h; rw [h]; rfl
 | cons i is ih =>
  intro r c z h
  simp only [jE] at h
  split at h
  ·cases h
  ·rename_i hi
   rw [List.cons_append]
   simp only [jE]
   rw [if_neg hi]
   exact ih r _ z h
theorem at_one {z : ai} {q : Nat} (h : q < z.f3.length) : jE z [(q : Int)] = some (kd z.f3 q) := by
 simp only [jE]
 rw [if_neg (by omega), Eg]
theorem IC (a : Int) : ∀ (l : List ai) (n : Nat) (x y : Int), n < l.length → ∃ x' y', kd (jg a l x y) n = b_ (kd l n) x' y' := by
 intro l
 induction l with
 | nil => intro n x y h; simp at h
 | cons k ks ih =>
  intro n x y h
  rw [ni]
  cases n with
  | zero => exact ⟨x, y, rfl⟩
  | succ n => exact ih n _ _ (by simpa using h)
theorem at_set : ∀ (p : List Int) (c z : ai), jE c p = some z → ∀ x y, ∃ x' y', jE (b_ c x y) p = some (b_ z x' y') := by
 intro p
 induction p with
 | nil => intro c z h x y; simp only [jE] at h; injection h with h; rw [← h]; exact ⟨x, y, rfl⟩
 | cons i is ih =>
  intro c z h x y
  simp only [jE] at h
  split at h
  ·cases h
  ·rename_i hi
   obtain ⟨n, rfl⟩ : ∃ n : Nat, i = (n : Int) := ⟨i.toNat, by omega⟩
   rw [Eg] at h
   obtain ⟨x', y', e⟩ := IC c.f0 c.f3 n x y (by omega)
   have e2 : (b_ c x y).f3 = jg c.f0 c.f3 x y := by rw [jV]
   simp only [jE]
   rw [e2, qy, if_neg hi, Eg, e]
   exact ih _ z h x' y'
theorem UI (ax : Int) (c : ai) (x y : Int) : aV ax (b_ c x y).f1 = aV ax c.f1 := by rw [jV]; rfl
theorem WJ {ax id aW : Int} {c : ai} {p : List Int} {d : Nat} {z : ai} {q : Nat} (h : mF ax id c p d z q) (h0 : 0 ≤ aW) (he : (l7 ax id aW c).2.2 = 0) :
  jE c (p.take d ++ [(q : Int)]) = some (kd z.f3 q) ∧ ∃ now, jE (l7 ax id aW c).1 (p.take d ++ [(q : Int)]) = some now ∧ wrap64 (aV ax (kd z.f3 q).f1 + (l7 ax id aW c).2.1) = aV ax now.f1 := by
 have hq := h.fr.next
 refine ⟨by rw [RX _ _ _ _ h.fr.at', at_one (by omega)], ?_⟩
 rw [zU h] at he ⊢
 unfold GM at he ⊢
 split at he
 ·simp at he
 ·rename_i hn
  rw [if_neg hn]
  obtain ⟨y, hy⟩ := UC (kid := ⟨z.f0, z.f1, z.f2, (kY ax aW q z.f3).1⟩) (p.take d) c h.fr.at'
  rw [hy]
  have h1 := adR _ _ _ _ hy
  have hl := (Nv (aW := aW) h.hax h.good hq).2
  have h2 := RX _ [(q : Int)] _ _ h1
  rw [at_one (by show q < (kY ax aW q z.f3).1.length; rw [hl]; omega)] at h2
  obtain ⟨x', y', h3⟩ := at_set _ _ _ h2 c.f1.f0 c.f1.f1
  refine ⟨_, h3, ?_⟩
  rw [UI]
  show wrap64 (aV ax (kd z.f3 q).f1 + (kY ax aW q z.f3).2) = aV ax (kd (kY ax aW q z.f3).1 q).f1
  have hs := h.good.size h.hax (rP (L := z.f3) (i := q) (by omega))
  have hs1 := h.good.small
  have hg0 := Pure.jP h.hax (h.good.qC _ (rP (L := z.f3) (i := q) (by omega)))
  by_cases hb : 0 < aW
  ·have hi := DC (aW := aW) h.hax h.good hq
   have hd := hi.ds
   have hsm := hi.small h.hax
   have hd0 := hi.d0
   unfold kY
   unfold kY at hd
   rw [decide_eq_true hb] at hd hsm hd0 ⊢
   simp only [place, if_true] at hd hsm hd0 ⊢
   have := hsm (by omega)
   rw [hd]
   unfold wrap64
   omega
  ·have e : aW = 0 := by omega
   subst e
   have e1 : kY ax 0 q z.f3 = (z.f3, 0) := by
    unfold kY
    have e2 : oO 0 = 0 := by decide
    rw [e2, uq (Int.le_refl _)]
    simp
   rw [e1]
   unfold wrap64
   simp only []
   omega
def Cc : ai := ⟨1, ⟨0, 0, 40, 24⟩, 1, []⟩
def Ce : ai := ⟨1, ⟨41, 0, 39, 24⟩, 2, []⟩
def um : ai := ⟨2, ⟨0, 0, 80, 24⟩, 0, [Cc, Ce]⟩
theorem Mc : dB um = true := by decide +kernel
theorem YA : gm 2 um = some [1] := by decide +kernel
theorem acw : Ew 1 um [1] = some 0 := by decide +kernel
theorem Ji : mF 1 2 um [1] 0 um 0 :=
 ⟨Mc, .inl rfl, YA, acw, ⟨by decide, rfl, by decide, by decide, by decide, by decide, by decide⟩, Mc⟩
theorem VO : mJ 1 0 true [Cc, Ce] = some 1 := by decide +kernel
theorem L_ : aU 1 (kd [Cc, Ce] 1) = 38 := by decide +kernel
theorem YB : kY 1 5 0 [Cc, Ce] = (dL 1 0 5 (dL 1 1 (-5) [Cc, Ce]), 5) := by
 have e : ig 1 0 true 5 10001 [Cc, Ce] 0 = (dL 1 0 5 (dL 1 1 (-5) [Cc, Ce]), 5) := by
  rw [wX (f := 10000) (by omega) VO, L_]
  have e1 : mn ((5 : Int) - 0) 38 = 5 := by decide
  have e2 : place 0 true = 0 := rfl
  rw [e1, e2, Int.zero_add, uq (Int.le_refl _)]
 unfold kY
 rw [show decide ((0 : Int) < 5) = true from rfl, show oO 5 = 5 from rfl, e]
 rfl
theorem acv : (l7 1 2 5 um).2 = (5, 0) ∧ (l7 1 2 5 um).1.f3.length = 2 ∧ (kd (l7 1 2 5 um).1.f3 0).f1.f2 = 45 ∧ (kd (l7 1 2 5 um).1.f3 1).f1.f2 = 34 := by
 have hg := Ji.good
 have hs : aV 1 um.f1 - ((um.f3.length : Int) - 1) = 79 := by decide
 rw [hs] at hg
 have hg : qR 1 79 [Cc, Ce] := hg
 obtain ⟨a1, a2, a3, a4, a5, a6⟩ := hg.move (.inl rfl) (i := 1) (n := -5) (by decide) (by rw [L_]; decide) (by decide)
 obtain ⟨b1, b2, b3, b4, b5, b6⟩ := a1.move (.inl rfl) (i := 0) (n := 5) (by rw [a4]; decide) (by
  have := Pure.jP (ax := 1) (.inl rfl) (a1.qC _ (rP (i := 0) (by rw [a4]; decide)))
  omega) (by decide)
 have e0 := b6
 rw [a3 0 (by decide)] at e0
 have e1 := a6
 rw [← b3 1 (by decide)] at e1
 have hr : l7 1 2 5 um = (b_ ⟨um.f0, um.f1, um.f2, dL 1 0 5 (dL 1 1 (-5) [Cc, Ce])⟩ 0 0, 5, 0) := by
  rw [zU Ji]
  unfold GM
  rw [show um.f3 = [Cc, Ce] from rfl, YB]
  rfl
 rw [hr]
 generalize dL 1 0 5 (dL 1 1 (-5) [Cc, Ce]) = L at *
 have hl : L.length = 2 := by rw [b4, a4]; rfl
 have hf : (b_ ⟨um.f0, um.f1, um.f2, L⟩ 0 0).f3 = jg 2 L 0 0 := by rw [jV]; rfl
 obtain ⟨x0, y0, h0⟩ := IC 2 L 0 0 0 (by omega)
 obtain ⟨x1, y1, h1⟩ := IC 2 L 1 0 0 (by omega)
 simp only []
 rw [hf, qy, h0, h1]
 have hw : ∀ k x y, (b_ k x y).f1.f2 = aV 1 k.f1 := fun k x y => by rw [jV]; rfl
 rw [hw, hw, e0, e1]
 refine ⟨?_, hl, ?_, ?_⟩ <;> first | trivial | rfl
theorem aae {Pr : Program} {ops : Array Oper} {rest : List Oper} {op : Oper} {a : Act} {Q : Exit → Act → World → Prop} {w W : World} {P : Nat → Prop} {bs : List (Option Nat × Obj)} {ts : List (Value × List ai)} {ro : List (Addr × Value)} {N : Tmp} (hd : op.dst = some N) (hgd : op.guard = none) (x y : ai) {A B : Option Addr} {c d b b' : Nat} (S : St w P bs [] ts ro W)
  (hV : Kd.V k26 26 W b (Ok w P (keys bs [])) (.slice A x.f3.length c) x.f3) (hV' : Kd.V k26 26 W b' (Ok w P (keys bs [])) (.slice B y.f3.length d) y.f3)
  (hrun : (execOp a.eval op).run Pr W = .ok (.value (.slice (some ⟨W.heap.size, 0, none⟩) 2 2)) (W.alloc (.cells (kT x A c ++ kT y B d).toArray 26)))
  (h : ∀ A1 c1 w1, St w P bs [(.slice A1 2 c1, [x, y])] ts ro w1 → wpList Pr ops Q rest (a.put op.dst (.slice A1 2 c1)) w1) : wpList Pr ops Q (op :: rest) a W := by
 obtain ⟨_, hl, hF⟩ := Kd.Bj hV
 obtain ⟨_, hl', hF'⟩ := Kd.Bj hV'
 refine Kd.yA k26 (w0 := W) W.heap.size 26 hgd hd (xs := [x, y]) (inner := kT x A c ++ kT y B d) (ok := fun k => Ok w P (keys bs []) k ∨ W.heap.size ≤ k) (fB := Ok w P (keys bs [])) hrun (bQ.c7 (nY W _ x hl hF) (bQ.c7 (nY W _ y hl' hF') (bQ.none _ _))) (fun _ h => .inl h) (.inr (Nat.le_refl _)) (Below.refl _ _) (Nat.le_refl _) (by simp) ?_
 intro v1 w1 hN _ hg _
 obtain ⟨A1, c1, rfl⟩ := Kd.jy hN
 exact h A1 c1 w1 (S.yj hN (pO hg))
theorem Gy {ax id aW : Int} {c : ai} {r : ai × Int × Int} {P : Nat → Prop} {W : World} {f : FuncId} {args : Array Value} (h : l7 ax id aW c = r) (hc : Calls Try.prog f args W (KN W P (l7 ax id aW c))) : Calls Try.prog f args W (KN W P r) := by
 rw [h] at hc
 exact hc
theorem xu {w : World} : Calls Try.prog 113 #[] w fun e w' => e = .returned (.bool true) ∧ Below w.heap.size w w' := by
 have S := ae.mk (St.start (ts := []) (b0 := w.heap.size) (w := w) (P := fun _ => True) (fun t ht => by cases ht))
 have hx := acv
 obtain ⟨⟨X, n, e⟩, hr⟩ : ∃ r, l7 1 2 5 um = r := ⟨_, rfl⟩
 rw [hr] at hx
 obtain ⟨h1, h2, h3, h4⟩ := hx
 injection h1 with h5 h6
 have h5 : n = 5 := h5
 have h6 : e = 0 := h6
 subst h5 h6
 have HR := ae.mk hr
 have HL := ae.mk (show X.f3.length = 2 from h2)
 have Rt := ae.mk (show ((0 : Nat) : Int) < (X.f3.length : Int) by rw [HL.out]; decide)
 have HL1 := ae.mk (show ((1 : Nat) : Int) < (X.f3.length : Int) by rw [HL.out]; decide)
 have HX0 := ae.mk (show (kd X.f3 0).f1.f2 = 45 from h3)
 have HX1 := ae.mk (show (kd X.f3 1).f1.f2 = 34 from h4)
 clear h2 h3 h4 hr
 go_enter Try.func113, Try.ntmps113
 go_wp2_with (first
  | (refine boxS 1 _ 26 S ?_; clear S; intro b1 dQ S)
  | (refine ik 26 1 8 #[.int .u8 1, .int .i64 0, .int .i64 0, .int .i64 40, .int .i64 24, .int .i64 1, .slice none 0 0] 0 7 S ?_; clear S; intro eU S)
  | (refine boxS 2 _ 26 S ?_; clear S; intro b2 gV S)
  | (refine ik 26 2 10 #[.int .u8 1, .int .i64 41, .int .i64 0, .int .i64 39, .int .i64 24, .int .i64 2, .slice none 0 0] 0 7 S ?_; clear S; intro ji S; obtain ⟨oI, vN, vO, vP, vS, su, jr⟩ := St.fA S (.head _); obtain ⟨fV, jZ, ku, kz, kC, lZ, iL⟩ := St.fA S bz)
  | ((with_reducible refine aC (N := 14) rfl ?_); refine aae (N := 14) rfl rfl Cc Ce S.out (Kd.JU k26 26 _ 0 _) (Kd.JU k26 26 _ 0 _) ?hr ?_; (case hr => first | (go_simp; done) | (go_simp; rfl)); intro Aq cq mg S1; replace S := ae.mk S1; clear S1; clear oI vN vO vP vS su jr fV jZ ku kz kC lZ iL)
  | (refine boxS 3 _ 26 S ?_; clear S; intro b3 zQ S)
  | (refine ik 26 3 15 #[.int .u8 2, .int .i64 0, .int .i64 0, .int .i64 80, .int .i64 24, .int .i64 0, .slice Aq 2 cq] 0 7 S ?_; clear S; intro xO S; obtain ⟨bH, bC, bF, bD, dC, dD, bY⟩ := St.fA S (.head _))
  | (refine iw (some 18) Try.func114 (Gy HR.out (Eh um (by decide) 2 1 5 (by decide) _ _ _ _ (gQ (S.out.free.tree _ (.head _))))) ?_; rintro e xP ⟨Ax, XE, rfl, h1, hb⟩; refine ⟨_, rfl, ?_⟩; replace S := ae.mk (S.out.free.res (Kd.qF (base' := 0) h1) hb); clear h1 hb; clear bH bC bF bD dC dD bY)
  | (refine boxS 4 _ 26 S ?_; clear S; intro b4 EI S)
  | (refine ik 26 4 19 #[.int .u8 X.f0, .int .i64 X.f1.f0, .int .i64 X.f1.f1, .int .i64 X.f1.f2, .int .i64 X.f1.f3, .int .i64 X.f2, .slice Ax X.f3.length XE] 0 7 S ?_; clear S; intro yl S; obtain ⟨ad, ua, uc, ek, S1⟩ := S.out.elem (.head _) ((0 : Nat) : Int) (by decide) Rt.out; subst ek; obtain ⟨ad2, ub, uc2, ek, S2⟩ := S1.elem bz ((1 : Nat) : Int) (by decide) HL1.out; injection ek with ek; subst ek; rw [Eg] at S1 S2; have f3 : yl.cell? ⟨ad.block, ad.off + 3, none⟩ = some (.int .i64 45) := (by have h := (S1.cell _ kX).1; rw [HX0.out] at h; exact h); have f10 : yl.cell? ⟨ad.block, ad.off + 10, none⟩ = some (.int .i64 34) := (by have h := (S2.cell _ kX).1; rw [HX1.out] at h; exact h); have akt : yl.cell? ⟨ad.block, ad.off + 7 + 3, none⟩ = some (.int .i64 34) := f10; have hl := HL.out; clear S1 S2; have eY := (S.out.at (.head _) 6).trans rfl)
  | fail)
 clear eY
 go_ret
 exact ⟨rfl, S.out.below⟩
theorem zG {W : World} {b : Nat} {P : Nat → Prop} {A : Option Addr} {cc : Nat} (c : ai) (hz : sz c ≤ 1048576) (hV : Kd.V k26 26 W b P (.slice A c.f3.length cc) c.f3) :
  Calls Try.prog 79 #[.agg #[.int .u8 c.f0, .int .i64 c.f1.f0, .int .i64 c.f1.f1, .int .i64 c.f1.f2, .int .i64 c.f1.f3, .int .i64 c.f2, .slice A c.f3.length cc]] W fun e w' => ∃ A' c', e = .returned (.slice A' (sz c) c') ∧ Below W.heap.size W w' := (Lc c hz hV).mono (fun _ _ ⟨A', c', he, _, hB⟩ => ⟨A', c', he, hB⟩)
section
variable {Pr : Program} {ops : Array Oper} {op : Oper} {a : Act} {Q : Exit → Act → World → Prop} {Kc : Act → World → Prop} {w W : World} {P : Nat → Prop} {bs : List (Option Nat × Obj)} {ow ts : List (Value × List ai)} {ro : List (Addr × Value)}
theorem XP (hw : Region.wanted op (yielded ops a.tmps) = true) {N : Tmp} (hd : op.dst = some N) (S : St w P bs ow ts ro W) (hrun : (execOp a.eval op).run Pr W = .ok (.value (.slice (some ⟨W.heap.size, 0, none⟩) 0 0)) (W.alloc (.cells #[] 3)))
  (h : ∀ A c o w1, St w P (((Value.slice A 0 c).ownBlock, o) :: bs) ow ts ro w1 → IR w.heap.size (.slice A 0 c) [] o → Kc (a.put op.dst (.slice A 0 c)) w1) : if Region.wanted op (yielded ops a.tmps) = true then Oper.wp Pr op a W Kc Q else Kc (a.put op.dst undef) W :=
 Kd.F_ (Kd.int .i64) (w0 := W) W.heap.size 3 hw hd (xs := ([] : List Int)) (inner := []) (ok := fun _ => True) (fB := fun _ => True) hrun (bQ.none _ _) (fun _ hk => hk) trivial (Below.refl _ _) (Nat.le_refl _) (by simp) (fun v1 w1 hR hb hg _ => by
  obtain ⟨A, c, rfl⟩ := Kd.fU hR
  obtain ⟨o, S1, HI⟩ := S.NH hR (pO hg)
  exact h A c o w1 S1 HI)
theorem QE (y : Int) (hw : Region.wanted op (yielded ops a.tmps) = true) {N : Tmp} (hd : op.dst = some N) (S : St w P bs ow ts ro W) (hrun : (execOp a.eval op).run Pr W = .ok (.value (.slice (some ⟨W.heap.size, 0, none⟩) 1 1)) (W.alloc (.cells #[.int .i64 y] 3)))
  (h : ∀ A c o w1, St w P (((Value.slice A 1 c).ownBlock, o) :: bs) ow ts ro w1 → IR w.heap.size (.slice A 1 c) [y] o → Kc (a.put op.dst (.slice A 1 c)) w1) : if Region.wanted op (yielded ops a.tmps) = true then Oper.wp Pr op a W Kc Q else Kc (a.put op.dst undef) W :=
 Kd.F_ (Kd.int .i64) (w0 := W) W.heap.size 3 hw hd (xs := [y]) (inner := [.int .i64 y]) (ok := fun _ => True) (fB := fun _ => True) hrun (bQ.one (show Kd.M (Kd.int .i64) _ _ _ y [.int .i64 y] from rfl) (bQ.none _ _)) (fun _ hk => hk) trivial (Below.refl _ _) (Nat.le_refl _) (by simp) (fun v1 w1 hR hb hg _ => by
  obtain ⟨A, c, rfl⟩ := Kd.fU hR
  obtain ⟨o, S1, HI⟩ := S.NH hR (pO hg)
  exact h A c o w1 S1 HI)
theorem P9 {v : Value} {xs : List Int} {o : Obj} (s x : Operand) (hw : Region.wanted op (yielded ops a.tmps) = true) (ho : op.op = .call { callee := .builtin .append, args := #[s, x], argTypes := #[41, 41] }) (ht : Pr.underlying 41 = some (.slice 3)) (hinfo : (Pr.info? 3).map (fun i => (i.zero, i.size, i.bytes)) = some (some (.int .i64 0), 1, 8))
  (S : St w P ((v.ownBlock, o) :: bs) ow ts ro W) (hI : IR w.heap.size v xs o) (ys : List Int) {A : Option Addr} {c : Nat} (hC : Kd.C (Kd.int .i64) W A ys.length ys) (hs : a.eval s = v) (hx : a.eval x = .slice A ys.length c) (hl : xs.length + ys.length ≤ 1000000000)
  (h : ∀ A1 c1 o1 w1, St w P (((Value.slice A1 (xs ++ ys).length c1).ownBlock, o1) :: bs) ow ts ro w1 → IR w.heap.size (.slice A1 (xs ++ ys).length c1) (xs ++ ys) o1 → Kc (a.put op.dst (.slice A1 (xs ++ ys).length c1)) w1) :
  if Region.wanted op (yielded ops a.tmps) = true then Oper.wp Pr op a W Kc Q else Kc (a.put op.dst undef) W := by
 have hR := hI W (S.blk _ List.mem_cons_self)
 refine Kd.xn (Kd.int .i64) (Rr := (Kd.int .i64).K W) (w0 := w) w.heap.size hw s x 41 3 (.int .i64 0) 8 ho ht hinfo rfl (by decide) (by omega) v xs ys A ys.length c (fun _ => True) (fun _ => False) hs hx (Kd.tN hR (fun _ _ => trivial)) hC (fun _ _ h => h) (fun _ hk => hk.elim) (fun _ _ => trivial) S.below S.below.size (by omega) ?_
 intro v1 w1 hr hb hg hat
 obtain ⟨A1, c1, rfl⟩ := Kd.fU hr
 obtain ⟨o1, h1, h2⟩ := PX hr (Nat.le_refl _)
 exact h A1 c1 o1 w1 (S.Bc hb hg hat h1) h2
end
def zN.T7 : Bool × List (List Nat × List Nat) := (true, [([], []), ([], []), ([1], [1]), ([0, 2], [0, 2]), ([], []), ([4], [4]), ([5], [5]), ([3, 6, 3], [3, 6]), ([7, 7, 0, 1, 2, 3, 4, 5, 6, 7], [7])])
def zN.B7 : List Nat := [0, 0, 2, 7, 0, 16, 48, 127, 255]
theorem zN.ahb : iD .any (opsOf Try.f29 7) = zN.T7 := by kernel_rfl
theorem zN.aeS : iG zN.T7.2 zN.B7 = true := by kernel_rfl
def xJ.T10 : Bool × List (List Nat × List Nat) := (true, [([], []), ([0], [0]), ([1], [1]), ([2, 1], [1, 2]), ([1], [1]), ([3, 4, 1, 1], [1, 3, 4]), ([1], [1]), ([6, 1], [1, 6]), ([1], [1]), ([7, 8, 5, 1], [1, 7, 8]), ([1], [1]), ([9, 10, 1], [1, 9, 10]), ([5, 11, 1], [1, 5, 11]), ([1, 12], [1, 12]), ([13, 9], [13]), ([14, 14], [14]), ([14, 15], [14, 15]), ([16, 15, 0, 1, 2, 3, 4, 5, 6, 7, 8, 9, 10, 11, 12, 13, 14, 15, 16], [16])])
def xJ.B10 : List Nat := [0, 1, 3, 7, 3, 31, 3, 67, 3, 511, 3, 2047, 4095, 8191, 16383, 32767, 65535, 131071]
theorem xJ.afy : iD .any (opsOf Try.f29 10) = xJ.T10 := by kernel_rfl
theorem xJ.abV : iG xJ.T10.2 xJ.B10 = true := by kernel_rfl
theorem QK (c : ai) (id ax aW : Int) (A : Option Addr) (cc : Nat) (w : World) (hr : Kd.C k26 w A c.f3.length c.f3) (hc : c.f3.length ≤ cc) (hz : sz c ≤ 1048576) (hby : 0 ≤ aW ∧ aW ≤ 65535) (h1 : ∃ k, iE.f k c.f0 c.f1.f0 c.f1.f1 c.f1.f2 c.f1.f3 c.f2 c.f3 = some true)  :
  Calls Try.prog 29 #[.agg #[.int .u8 c.f0, .int .i64 c.f1.f0, .int .i64 c.f1.f1, .int .i64 c.f1.f2, .int .i64 c.f1.f3, .int .i64 c.f2, .slice A c.f3.length cc], .int .i64 id, .int .u8 ax, .int .u16 aW] w fun e w' => e = .returned (.bool true) ∧ Below w.heap.size w w' := by
 have S := ae.mk (St.start (ts := [(.slice A c.f3.length cc, c.f3)]) (b0 := w.heap.size) (w := w) (P := fun k => k < w.heap.size) (fun t ht => by
  rw [List.mem_singleton.1 ht]; exact Kd.uD hc (Kd.CB nJ hr)))
 have G1 := ae.mk h1
 have Ah := ae.mk hz
 have zx := ae.mk (show -9223372036854775808 ≤ aW ∧ aW ≤ 9223372036854775807 by omega)
 clear hr hc h1 hz hby
 obtain ⟨ck, ⟨cx, cy, cw, ch⟩, aT, l⟩ := c
 simp only [] at S G1 Ah ⊢
 go_enter Try.func29, Try.ntmps29
 go_wp2_with (first
  | (refine boxS 4 _ 26 S ?_; clear S; intro b4 dQ S; obtain ⟨fF, d_, ed, fG, fH, fJ, eY⟩ := St.fA S (.head _))
  | (refine bT (some 19) Try.func34 S (AU ⟨ck, ⟨cx, cy, cw, ch⟩, aT, l⟩ true G1.out (S.out.tree _ (.head _))) ?_; clear S; intro eU S; clear fF d_ ed fG fH fJ eY)
  | (refine bT (some 26) Try.func113 S (xu) ?_; clear S; intro gV S)
  | fail)
 go_ret
 exact ⟨rfl, S.out.below⟩
theorem UA (c : ai) (id ax aW : Int) (A : Option Addr) (cc : Nat) (w : World) (hr : Kd.C k26 w A c.f3.length c.f3) (hc : c.f3.length ≤ cc) (hz : sz c ≤ 1048576) (hby : 0 ≤ aW ∧ aW ≤ 65535) (h1 : ∃ k, iE.f k c.f0 c.f1.f0 c.f1.f1 c.f1.f2 c.f1.f3 c.f2 c.f3 = some false) (h3 : 100 < sz c) :
  Calls Try.prog 29 #[.agg #[.int .u8 c.f0, .int .i64 c.f1.f0, .int .i64 c.f1.f1, .int .i64 c.f1.f2, .int .i64 c.f1.f3, .int .i64 c.f2, .slice A c.f3.length cc], .int .i64 id, .int .u8 ax, .int .u16 aW] w fun e w' => e = .returned (.bool true) ∧ Below w.heap.size w w' := by
 have S := ae.mk (St.start (ts := [(.slice A c.f3.length cc, c.f3)]) (b0 := w.heap.size) (w := w) (P := fun k => k < w.heap.size) (fun t ht => by
  rw [List.mem_singleton.1 ht]; exact Kd.uD hc (Kd.CB nJ hr)))
 have G1 := ae.mk h1
 have Ah := ae.mk hz
 have zx := ae.mk (show -9223372036854775808 ≤ aW ∧ aW ≤ 9223372036854775807 by omega)
 have h3b : decide ((sz c : Int) > 100) = true := decide_eq_true (by omega)
 have h3c : decide (100 < (sz c : Int)) = true := decide_eq_true (by omega)
 clear h3
 clear hr hc h1 hz hby
 obtain ⟨ck, ⟨cx, cy, cw, ch⟩, aT, l⟩ := c
 simp only [] at S G1 Ah ⊢
 go_enter Try.func29, Try.ntmps29
 go_wp2_with (first
  | (refine boxS 4 _ 26 S ?_; clear S; intro b4 dQ S; obtain ⟨fF, d_, ed, fG, fH, fJ, eY⟩ := St.fA S (.head _))
  | (refine bT (some 19) Try.func34 S (AU ⟨ck, ⟨cx, cy, cw, ch⟩, aT, l⟩ false G1.out (S.out.tree _ (.head _))) ?_; clear S; intro eU S; clear fF d_ ed fG fH fJ eY; obtain ⟨fF, d_, ed, fG, fH, fJ, eY⟩ := St.fA S (.head _))
  | (refine gX 22 rfl ?_; (refine gy (by rfl) ?_; dsimp only); refine iw (some 22) Try.func79 (zG ⟨ck, ⟨cx, cy, cw, ch⟩, aT, l⟩ Ah.out (S.out.tree _ (.head _))) ?_; rintro e gV ⟨Aa, ca, rfl, hb⟩; refine ⟨_, rfl, ?_⟩; replace S := ae.mk (S.out.call hb); clear hb; clear fF d_ ed fG fH fJ eY)
  | (refine bT (some 26) Try.func113 S (xu) ?_; clear S; intro ji S)
  | fail)
 go_ret
 exact ⟨rfl, S.out.below⟩
theorem aan (c : ai) (id ax aW : Int) (A : Option Addr) (cc : Nat) (w : World) (hr : Kd.C k26 w A c.f3.length c.f3) (hc : c.f3.length ≤ cc) (hz : sz c ≤ 1048576) (hby : 0 ≤ aW ∧ aW ≤ 65535) (h1 : ∃ k, iE.f k c.f0 c.f1.f0 c.f1.f1 c.f1.f2 c.f1.f3 c.f2 c.f3 = some false) (h3 : ¬ 100 < sz c) (n : Int) (hn : yV ax id c = n) (hn0 : n ≠ 0) :
  Calls Try.prog 29 #[.agg #[.int .u8 c.f0, .int .i64 c.f1.f0, .int .i64 c.f1.f1, .int .i64 c.f1.f2, .int .i64 c.f1.f3, .int .i64 c.f2, .slice A c.f3.length cc], .int .i64 id, .int .u8 ax, .int .u16 aW] w fun e w' => e = .returned (.bool true) ∧ Below w.heap.size w w' := by
 have S := ae.mk (St.start (ts := [(.slice A c.f3.length cc, c.f3)]) (b0 := w.heap.size) (w := w) (P := fun k => k < w.heap.size) (fun t ht => by
  rw [List.mem_singleton.1 ht]; exact Kd.uD hc (Kd.CB nJ hr)))
 have G1 := ae.mk h1
 have Ah := ae.mk hz
 have zx := ae.mk (show -9223372036854775808 ≤ aW ∧ aW ≤ 9223372036854775807 by omega)
 have h3b : decide ((sz c : Int) > 100) = false := decide_eq_false (by omega)
 have h3c : decide (100 < (sz c : Int)) = false := decide_eq_false (by omega)
 have Jd := ae.mk (show sz c ≤ 1000000 by omega)
 clear h3
 have hcv : wrap64 aW = aW := by unfold wrap64; omega
 have Rn := ae.mk (show -9223372036854775808 ≤ wrap64 aW ∧ wrap64 aW ≤ 9223372036854775807 by rw [hcv]; omega)
 have HR := ae.mk (Nw (aW := wrap64 aW) hn hn0)
 clear hcv
 obtain ⟨hna, hnb, hnd⟩ := eqF (a := n) (b := 0) (by omega)
 have HN := ae.mk hn
 have nC := ae.mk hn0
 clear hn hn0
 clear hr hc h1 hz hby
 obtain ⟨ck, ⟨cx, cy, cw, ch⟩, aT, l⟩ := c
 simp only [] at S G1 Ah ⊢
 go_enter Try.func29, Try.ntmps29
 go_wp2_with (first
  | (refine boxS 4 _ 26 S ?_; clear S; intro b4 dQ S; obtain ⟨fF, d_, ed, fG, fH, fJ, eY⟩ := St.fA S (.head _))
  | (refine bT (some 19) Try.func34 S (AU ⟨ck, ⟨cx, cy, cw, ch⟩, aT, l⟩ false G1.out (S.out.tree _ (.head _))) ?_; clear S; intro eU S; clear fF d_ ed fG fH fJ eY; obtain ⟨fF, d_, ed, fG, fH, fJ, eY⟩ := St.fA S (.head _))
  | (refine gX 22 rfl ?_; (refine gy (by rfl) ?_; dsimp only); refine iw (some 22) Try.func79 (zG ⟨ck, ⟨cx, cy, cw, ch⟩, aT, l⟩ Ah.out (S.out.tree _ (.head _))) ?_; rintro e gV ⟨Aa, ca, rfl, hb⟩; refine ⟨_, rfl, ?_⟩; replace S := ae.mk (S.out.call hb); clear hb; clear fF d_ ed fG fH fJ eY; obtain ⟨fF, d_, ed, fG, fH, fJ, eY⟩ := St.fA S (.head _))
  | (refine bT (some 30) Try.func116 S ((OC ⟨ck, ⟨cx, cy, cw, ch⟩, aT, l⟩ Jd.out id ax _ _ _ _ _ (S.out.tree _ (.head _))).1 n HN.out nC.out) ?_; clear S; intro ji S; clear fF d_ ed fG fH fJ eY)
  | (refine boxS 9 _ 110 S ?_; clear S; intro b9 mg S)
  | (refine ik 110 9 30 #[.slice none 0 0, .int .i64 0, .int .i64 n] 0 3 S ?_; clear S; intro zQ S; obtain ⟨fF, d_, ed, fG, fH, fJ, eY⟩ := St.fA S bz)
  | (refine BG (some 37) Try.func114 S (Gy HR.out (Eh ⟨ck, ⟨cx, cy, cw, ch⟩, aT, l⟩ Jd.out id ax (wrap64 aW) Rn.out _ A cc _ (gQ (S.out.tree _ (.head _))))) ?_; clear S; intro J4 c37 xO S; clear fF d_ ed fG fH fJ eY)
  | (refine boxS 10 _ 26 S ?_; clear S; intro b10 xP S)
  | (refine ik 26 10 38 #[.int .u8 z26.f0, .int .i64 z26.f1.f0, .int .i64 z26.f1.f1, .int .i64 z26.f1.f2, .int .i64 z26.f1.f3, .int .i64 z26.f2, .slice J4 z26.f3.length c37] 0 7 S ?_; clear S; intro EI S; have oJ := (S.out.at bz 2).trans rfl)
  | (refine gX 58 rfl ?_; (refine gy (by rfl) ?_; dsimp only); refine bT (some 58) Try.func113 S (xu) ?_; clear S; intro yl S; clear oJ)
  | fail)
 go_ret
 exact ⟨rfl, S.out.below⟩
theorem WI (c : ai) (id ax aW : Int) (A : Option Addr) (cc : Nat) (w : World) (hr : Kd.C k26 w A c.f3.length c.f3) (hc : c.f3.length ≤ cc) (hz : sz c ≤ 1048576) (hby : 0 ≤ aW ∧ aW ≤ 65535) (h1 : ∃ k, iE.f k c.f0 c.f1.f0 c.f1.f1 c.f1.f2 c.f1.f3 c.f2 c.f3 = some false) (h3 : ¬ 100 < sz c) (p : List Int) (d0 : Nat) (z : ai) (q : Nat) (hF : mF ax id c p d0 z q) (z1 : ai) (n1 e1 : Int) (hr1 : l7 ax id aW c = (z1, n1, e1)) (he : e1 ≠ 0) :
  Calls Try.prog 29 #[.agg #[.int .u8 c.f0, .int .i64 c.f1.f0, .int .i64 c.f1.f1, .int .i64 c.f1.f2, .int .i64 c.f1.f3, .int .i64 c.f2, .slice A c.f3.length cc], .int .i64 id, .int .u8 ax, .int .u16 aW] w fun e w' => e = .returned (.bool true) ∧ Below w.heap.size w w' := by
 have S := ae.mk (St.start (ts := [(.slice A c.f3.length cc, c.f3)]) (b0 := w.heap.size) (w := w) (P := fun k => k < w.heap.size) (fun t ht => by
  rw [List.mem_singleton.1 ht]; exact Kd.uD hc (Kd.CB nJ hr)))
 have G1 := ae.mk h1
 have Ah := ae.mk hz
 have zx := ae.mk (show -9223372036854775808 ≤ aW ∧ aW ≤ 9223372036854775807 by omega)
 have h3b : decide ((sz c : Int) > 100) = false := decide_eq_false (by omega)
 have h3c : decide (100 < (sz c : Int)) = false := decide_eq_false (by omega)
 have Jd := ae.mk (show sz c ≤ 1000000 by omega)
 clear h3
 have hcv : wrap64 aW = aW := by unfold wrap64; omega
 have Rn := ae.mk (show -9223372036854775808 ≤ wrap64 aW ∧ wrap64 aW ≤ 9223372036854775807 by rw [hcv]; omega)
 obtain ⟨pq, hpq⟩ : ∃ pq, pq = p.take d0 := ⟨_, rfl⟩
 have v_ := ae.mk hF
 have jd := ae.mk (And.intro hpq (Nat.le_of_lt hF.fr.hd))
 have HR := ae.mk (show l7 ax id (wrap64 aW) c = (z1, n1, e1) by rw [hcv, hr1])
 clear hcv
 obtain ⟨hea, heb, hed⟩ := eqF (a := e1) (b := 0) (by omega)
 clear hpq hF hr1 he
 clear hr hc h1 hz hby
 obtain ⟨ck, ⟨cx, cy, cw, ch⟩, aT, l⟩ := c
 simp only [] at S G1 Ah ⊢
 go_enter Try.func29, Try.ntmps29
 go_wp2_with (first
  | (refine boxS 4 _ 26 S ?_; clear S; intro b4 dQ S; obtain ⟨fF, d_, ed, fG, fH, fJ, eY⟩ := St.fA S (.head _))
  | (refine bT (some 19) Try.func34 S (AU ⟨ck, ⟨cx, cy, cw, ch⟩, aT, l⟩ false G1.out (S.out.tree _ (.head _))) ?_; clear S; intro eU S; clear fF d_ ed fG fH fJ eY; obtain ⟨fF, d_, ed, fG, fH, fJ, eY⟩ := St.fA S (.head _))
  | (refine gX 22 rfl ?_; (refine gy (by rfl) ?_; dsimp only); refine iw (some 22) Try.func79 (zG ⟨ck, ⟨cx, cy, cw, ch⟩, aT, l⟩ Ah.out (S.out.tree _ (.head _))) ?_; rintro e gV ⟨Aa, ca, rfl, hb⟩; refine ⟨_, rfl, ?_⟩; replace S := ae.mk (S.out.call hb); clear hb; clear fF d_ ed fG fH fJ eY; obtain ⟨fF, d_, ed, fG, fH, fJ, eY⟩ := St.fA S (.head _))
  | (refine iw (some 30) Try.func116 (Pn v_.out jd.out.1 Jd.out (S.out.tree _ (.head _))) ?_; rintro e ji ⟨Ap, cp, op, rfl, zJ, hk, hb⟩; refine ⟨_, rfl, ?_⟩; have iH := ae.mk zJ; replace S := ae.mk (S.out.Ll _ hk hb); clear zJ hk hb; clear fF d_ ed fG fH fJ eY)
  | (refine boxS 9 _ 110 S ?_; clear S; intro b9 mg S)
  | (refine ik 110 9 30 #[.slice Ap pq.length cp, .int .i64 (q : Int), .int .i64 0] 0 3 S ?_; clear S; intro zQ S; obtain ⟨fF, d_, ed, fG, fH, fJ, eY⟩ := St.fA S dR)
  | (refine BG (some 37) Try.func114 S (Gy HR.out (Eh ⟨ck, ⟨cx, cy, cw, ch⟩, aT, l⟩ Jd.out id ax (wrap64 aW) Rn.out _ A cc _ (gQ (S.out.tree _ (.head _))))) ?_; clear S; intro J4 c37 xO S; clear fF d_ ed fG fH fJ eY)
  | (refine boxS 10 _ 26 S ?_; clear S; intro b10 xP S)
  | (refine ik 26 10 38 #[.int .u8 z1.f0, .int .i64 z1.f1.f0, .int .i64 z1.f1.f1, .int .i64 z1.f1.f2, .int .i64 z1.f1.f3, .int .i64 z1.f2, .slice J4 z1.f3.length c37] 0 7 S ?_; clear S; intro EI S; have oJ := (S.out.at bz 2).trans rfl)
  | (refine gX 58 rfl ?_; (refine gy (by rfl) ?_; dsimp only); refine bT (some 58) Try.func113 S (xu) ?_; clear S; intro yl S; clear oJ)
  | fail)
 go_ret
 exact ⟨rfl, S.out.below⟩
theorem UB (c : ai) (id ax aW : Int) (A : Option Addr) (cc : Nat) (w : World) (hr : Kd.C k26 w A c.f3.length c.f3) (hc : c.f3.length ≤ cc) (hz : sz c ≤ 1048576) (hby : 0 ≤ aW ∧ aW ≤ 65535) (h1 : ∃ k, iE.f k c.f0 c.f1.f0 c.f1.f1 c.f1.f2 c.f1.f3 c.f2 c.f3 = some false) (h3 : ¬ 100 < sz c) (p : List Int) (d0 : Nat) (z : ai) (q : Nat) (hF : mF ax id c p d0 z q) (z1 : ai) (n1 : Int) (hr1 : l7 ax id aW c = (z1, n1, 0)) :
  Calls Try.prog 29 #[.agg #[.int .u8 c.f0, .int .i64 c.f1.f0, .int .i64 c.f1.f1, .int .i64 c.f1.f2, .int .i64 c.f1.f3, .int .i64 c.f2, .slice A c.f3.length cc], .int .i64 id, .int .u8 ax, .int .u16 aW] w fun e w' => e = .returned (.bool true) ∧ Below w.heap.size w w' := by
 have S := ae.mk (St.start (ts := [(.slice A c.f3.length cc, c.f3)]) (b0 := w.heap.size) (w := w) (P := fun k => k < w.heap.size) (fun t ht => by
  rw [List.mem_singleton.1 ht]; exact Kd.uD hc (Kd.CB nJ hr)))
 have G1 := ae.mk h1
 have Ah := ae.mk hz
 have zx := ae.mk (show -9223372036854775808 ≤ aW ∧ aW ≤ 9223372036854775807 by omega)
 have hzc : sz c ≤ 1000000 := by omega
 have h3b : decide ((sz c : Int) > 100) = false := decide_eq_false (by omega)
 have h3c : decide (100 < (sz c : Int)) = false := decide_eq_false (by omega)
 have Jd := ae.mk (show sz c ≤ 1000000 by omega)
 clear h3
 have hcv : wrap64 aW = aW := by unfold wrap64; omega
 have Rn := ae.mk (show -9223372036854775808 ≤ wrap64 aW ∧ wrap64 aW ≤ 9223372036854775807 by rw [hcv]; omega)
 obtain ⟨pq, hpq⟩ : ∃ pq, pq = p.take d0 := ⟨_, rfl⟩
 have v_ := ae.mk hF
 have jd := ae.mk (And.intro hpq (Nat.le_of_lt hF.fr.hd))
 have HR := ae.mk (show l7 ax id (wrap64 aW) c = (z1, n1, 0) by rw [hcv, hr1])
 clear hcv
 have hpl := (yU id (sz c)).1 c (Nat.le_refl _) p hF.find
 have hone := WJ hF hby.1 (by rw [hr1])
 rw [hr1, ← hpq] at hone
 obtain ⟨hw1, now, hw2, hw3⟩ := hone
 simp only [] at hw2 hw3
 obtain ⟨was, hws⟩ : ∃ x, x = kd z.f3 q := ⟨_, rfl⟩
 rw [← hws] at hw1 hw3
 obtain ⟨pr, hpr⟩ : ∃ pr, pr = pq ++ [(q : Int)] := ⟨_, rfl⟩
 rw [← hpr] at hw1 hw2
 have HPR := ae.mk hpr
 have HAW := ae.mk hw1
 have HAN := ae.mk hw2
 have xQ := ae.mk (show pq.length ≤ 1000000 by rw [hpq, List.length_take]; omega)
 clear hpq hF hr1 hpl hw1 hw2 hws hpr
 clear hr hc h1 hz hby
 obtain ⟨ck, ⟨cx, cy, cw, ch⟩, aT, l⟩ := c
 simp only [] at S G1 Ah ⊢
 go_enter Try.func29, Try.ntmps29
 go_wp2_with (first
  | (refine boxS 4 _ 26 S ?_; clear S; intro b4 dQ S; obtain ⟨fF, d_, ed, fG, fH, fJ, eY⟩ := St.fA S (.head _))
  | (refine bT (some 19) Try.func34 S (AU ⟨ck, ⟨cx, cy, cw, ch⟩, aT, l⟩ false G1.out (S.out.tree _ (.head _))) ?_; clear S; intro eU S; clear fF d_ ed fG fH fJ eY; obtain ⟨fF, d_, ed, fG, fH, fJ, eY⟩ := St.fA S (.head _))
  | (refine gX 22 rfl ?_; (refine gy (by rfl) ?_; dsimp only); refine iw (some 22) Try.func79 (zG ⟨ck, ⟨cx, cy, cw, ch⟩, aT, l⟩ Ah.out (S.out.tree _ (.head _))) ?_; rintro e gV ⟨Aa, ca, rfl, hb⟩; refine ⟨_, rfl, ?_⟩; replace S := ae.mk (S.out.call hb); clear hb; clear fF d_ ed fG fH fJ eY; obtain ⟨fF, d_, ed, fG, fH, fJ, eY⟩ := St.fA S (.head _))
  | (refine iw (some 30) Try.func116 (Pn v_.out jd.out.1 Jd.out (S.out.tree _ (.head _))) ?_; rintro e ji ⟨Ap, cp, op, rfl, zJ, hk, hb⟩; refine ⟨_, rfl, ?_⟩; have iH := ae.mk zJ; replace S := ae.mk (S.out.Ll _ hk hb); clear zJ hk hb; clear fF d_ ed fG fH fJ eY)
  | (refine boxS 9 _ 110 S ?_; clear S; intro b9 mg S)
  | (refine ik 110 9 30 #[.slice Ap pq.length cp, .int .i64 (q : Int), .int .i64 0] 0 3 S ?_; clear S; intro zQ S; obtain ⟨fF, d_, ed, fG, fH, fJ, eY⟩ := St.fA S dR)
  | (refine BG (some 37) Try.func114 S (Gy HR.out (Eh ⟨ck, ⟨cx, cy, cw, ch⟩, aT, l⟩ Jd.out id ax (wrap64 aW) Rn.out _ A cc _ (gQ (S.out.tree _ (.head _))))) ?_; clear S; intro J4 c37 xO S; clear fF d_ ed fG fH fJ eY)
  | (refine boxS 10 _ 26 S ?_; clear S; intro b10 xP S)
  | (refine ik 26 10 38 #[.int .u8 z1.f0, .int .i64 z1.f1.f0, .int .i64 z1.f1.f1, .int .i64 z1.f1.f2, .int .i64 z1.f1.f3, .int .i64 z1.f2, .slice J4 z1.f3.length c37] 0 7 S ?_; clear S; intro EI S; have oJ := (S.out.at bz 2).trans rfl)
  | fail)
 clear oJ
 refine iT (n := 9) (S := fun w' => St w _ _ _ _ _ w') (ds := [7]) (bA 9 0) (by kernel_rfl) rfl rfl (S.out.call (bg (Below.refl _ _))) (fun hHeld => ?_); refine eP zN.ahb zN.aeS (fun aj dW => ?_)
 replace S := ae.mk (S.out.call (bg (Below.refl _ _)))
 generalize EI.drew = wd at S hHeld ⊢
 refine au 1 61 (bA 9 2) aj ?_
 refine dO 2 62 (bA 9 6) aj dW hHeld ?_ (hv := by intro w' hs_; have c9 := (hs_.at bz 0).trans rfl; go_simp; with_reducible rfl)
 refine au 4 64 (bA 9 22) aj ?_
 refine dO 5 65 (bA 9 54) aj dW hHeld ?_ (hv := by intro w' hs_; have c9 := (hs_.at bz 1).trans rfl; go_simp; with_reducible rfl)
 refine yG (σ := Option Addr × Nat × Option Addr × Nat × Obj × Option Addr × Nat × Obj) 2 (bA 9 127) (fun s_ => [(60, .slice s_.1 0 s_.2.1), (63, .slice s_.2.2.1 pq.length s_.2.2.2.1), (66, .slice s_.2.2.2.2.2.1 1 s_.2.2.2.2.2.2.1)]) (fun s_ w' => St w (fun k => k < w.heap.size) [((Value.slice s_.2.2.1 pq.length s_.2.2.2.1).ownBlock, s_.2.2.2.2.1), ((Value.slice s_.2.2.2.2.2.1 1 s_.2.2.2.2.2.2.1).ownBlock, s_.2.2.2.2.2.2.2), (some b10, .cells #[.int .u8 z1.f0, .int .i64 z1.f1.f0, .int .i64 z1.f1.f1, .int .i64 z1.f1.f2, .int .i64 z1.f1.f3, .int .i64 z1.f2, .slice J4 z1.f3.length c37] 26 (0, 0)), (some b9, .cells #[.slice Ap pq.length cp, .int .i64 (q : Int), .int .i64 0] 110 (0, 0)), ((Value.slice Ap p.length cp).ownBlock, op), (some b4, .cells #[.int .u8 ck, .int .i64 cx, .int .i64 cy, .int .i64 cw, .int .i64 ch, .int .i64 aT, .slice A l.length cc] 26 (0, 0))] [] [(.slice J4 z1.f3.length c37, z1.f3), (.slice A l.length cc, l)] [] w' ∧ IR w.heap.size (.slice s_.2.2.1 pq.length s_.2.2.2.1) pq s_.2.2.2.2.1 ∧ IR w.heap.size (.slice s_.2.2.2.2.2.1 1 s_.2.2.2.2.2.2.1) [(q : Int)] s_.2.2.2.2.2.2.2) ?_ ?_
 rotate_left
 ·intro jI
  refine zX (i := 0) (j := 6) (Ni := some 60) (Nj := some 66) (bA 9 55) (bA 9 118) rfl rfl rfl rfl (uy aj.out (by kernel_rfl)) (by decide) (by decide) (fun K hK => ?_) (fun K hK => ?_)
  ·skip
   refine XP (N := 60) (by rfl) rfl S.out ?hr ?_
   case hr => first | (go_simp; done) | (go_simp; rfl)
   intro Ri RZ o60 w60 S1 I1
   replace S := ae.mk S1
   have HI0 := ae.mk I1
   clear S1 I1
   refine hK.out _ _ S.out.dA (fun hHeld => ?_)
   clear hK K
   refine dK 60 ?_
   refine zX (i := 3) (j := 6) (Ni := some 63) (Nj := some 66) (bA 9 63) (bA 9 119) rfl rfl rfl rfl (uy aj.out (by kernel_rfl)) (by decide) (by decide) (fun K hK => ?_) (fun K hK => ?_)
   ·skip
    go_loud (refine P9 (.tmp 60) (.tmp 62) (by rfl) rfl Try.underlying41 info3 S.out HI0.out pq (eF iH.out S.out kX jd.out).1 rfl rfl (by have := xQ.out; simp only [List.length_nil]; omega) ?_)
    intro Oa Ou O8 w63 S1 I1
    rw [List.nil_append] at S1 I1 ⊢
    replace S := ae.mk S1
    have HI3 := ae.mk I1
    clear S1 I1 HI0
    refine hK.out _ _ S.out.dA (fun hHeld => ?_)
    clear hK K
    refine dK 63 ?_
    refine jf 6 (some 66) (bA 9 127) aj (fun K hK => ?_)
    refine QE (N := 66) (q : Int) (by rfl) rfl S.out ?hr ?_
    case hr => first | (go_simp; done) | (go_simp; rfl)
    intro Ob Ov O9 w66 S1 I1
    replace S := ae.mk S1
    have Jb := ae.mk I1
    clear S1 I1
    refine hK.out _ _ S.out.dA.dA (fun hHeld => ?_)
    clear hK K
    refine dK 66 ?_
    exact kM (by simp only [gW, Act.put, List.setIfInBounds_toArray, List.set_cons_zero, List.set_cons_succ] <;> rfl) (jI (Ri, RZ, Oa, Ou, O8, Ob, Ov, O9) _ ⟨S.out.JX, HI3.out, Jb.out⟩)
   ·skip
    refine QE (N := 66) (q : Int) (by rfl) rfl S.out ?hr ?_
    case hr => first | (go_simp; done) | (go_simp; rfl)
    intro Ob Ov O9 w66 S1 I1
    replace S := ae.mk S1
    have Jb := ae.mk I1
    clear S1 I1
    refine hK.out _ _ S.out.dA.dA (fun hHeld => ?_)
    clear hK K
    refine dK 66 ?_
    refine jf 3 (some 63) (bA 9 127) aj (fun K hK => ?_)
    replace S := ae.mk S.out.JX
    go_loud (refine P9 (.tmp 60) (.tmp 62) (by rfl) rfl Try.underlying41 info3 S.out HI0.out pq (eF iH.out S.out qg jd.out).1 rfl rfl (by have := xQ.out; simp only [List.length_nil]; omega) ?_)
    intro Oa Ou O8 w63 S1 I1
    rw [List.nil_append] at S1 I1 ⊢
    replace S := ae.mk S1
    have HI3 := ae.mk I1
    clear S1 I1 HI0
    refine hK.out _ _ S.out.dA.dA (fun hHeld => ?_)
    clear hK K
    refine dK 63 ?_
    exact kM (by simp only [gW, Act.put, List.setIfInBounds_toArray, List.set_cons_zero, List.set_cons_succ] <;> rfl) (jI (Ri, RZ, Oa, Ou, O8, Ob, Ov, O9) _ ⟨S.out, HI3.out, Jb.out⟩)
  ·skip
   refine QE (N := 66) (q : Int) (by rfl) rfl S.out ?hr ?_
   case hr => first | (go_simp; done) | (go_simp; rfl)
   intro Ob Ov O9 w66 S1 I1
   replace S := ae.mk S1
   have Jb := ae.mk I1
   clear S1 I1
   refine hK.out _ _ S.out.dA (fun hHeld => ?_)
   clear hK K
   refine dK 66 ?_
   refine jf 0 (some 60) (bA 9 119) aj (fun K hK => ?_)
   refine XP (N := 60) (by rfl) rfl S.out ?hr ?_
   case hr => first | (go_simp; done) | (go_simp; rfl)
   intro Ri RZ o60 w60 S1 I1
   replace S := ae.mk S1
   have HI0 := ae.mk I1
   clear S1 I1
   refine hK.out _ _ S.out.dA.dA (fun hHeld => ?_)
   clear hK K
   refine dK 60 ?_
   refine jf 3 (some 63) (bA 9 127) aj (fun K hK => ?_)
   go_loud (refine P9 (.tmp 60) (.tmp 62) (by rfl) rfl Try.underlying41 info3 S.out HI0.out pq (eF iH.out S.out qg jd.out).1 rfl rfl (by have := xQ.out; simp only [List.length_nil]; omega) ?_)
   intro Oa Ou O8 w63 S1 I1
   rw [List.nil_append] at S1 I1 ⊢
   replace S := ae.mk S1
   have HI3 := ae.mk I1
   clear S1 I1 HI0
   refine hK.out _ _ S.out.dA.dA (fun hHeld => ?_)
   clear hK K
   refine dK 63 ?_
   exact kM (by simp only [gW, Act.put, List.setIfInBounds_toArray, List.set_cons_zero, List.set_cons_succ] <;> rfl) (jI (Ri, RZ, Oa, Ou, O8, Ob, Ov, O9) _ ⟨S.out, HI3.out, Jb.out⟩)
 rintro ⟨Ri, RZ, Oa, Ou, O8, Ob, Ov, O9⟩ wj ⟨S1, HI3, Jb⟩
 simp only [gW, Act.put, List.setIfInBounds_toArray, List.set_cons_zero, List.set_cons_succ]
 replace S := ae.mk S1
 clear S1 hHeld
 refine nT 7 (some 67) (bA 9 255) aj (fun K hK => ?_)
 go_loud (refine P9 (.tmp 63) (.tmp 66) (by rfl) rfl Try.underlying41 info3 S.out HI3 [(q : Int)] (xR Jb S.out bz).1 rfl rfl (by have := xQ.out; simp only [List.length_singleton]; omega) ?_)
 intro Ar cr or_ wr_ S1 I1
 rw [← HPR.out] at S1 I1 ⊢
 replace S := ae.mk S1
 have Xl := ae.mk I1
 clear S1 I1 HI3 Jb
 refine hK.out _ _ ?_
 clear hK K
 refine dK 67 ?_
 refine au 8 13 (bA 9 511) aj ?_
 refine jG (gK aj.out (by kernel_rfl)) ?_
 obtain ⟨fF, d_, ed, fG, fH, fJ, eY⟩ := St.fA S AZ
 go_wp2_with (first
  | (refine XG (some 71) Try.func92 S (wY ⟨ck, ⟨cx, cy, cw, ch⟩, aT, l⟩ pr was HAW.out (S.out.tree _ bz) (xR Xl.out S.out (.head _)).1 (xR Xl.out S.out (.head _)).2) ?_; clear S; intro A71 c71 yl S; clear fF d_ ed fG fH fJ eY)
  | (refine boxS 14 _ 26 S ?_; clear S; intro b14 NQ S)
  | (refine ik 26 14 72 #[.int .u8 was.f0, .int .i64 was.f1.f0, .int .i64 was.f1.f1, .int .i64 was.f1.f2, .int .i64 was.f1.f3, .int .i64 was.f2, .slice A71 was.f3.length c71] 0 7 S ?_; clear S; intro aee S; obtain ⟨vG, vH, vI, vJ, vK, vM, pM⟩ := St.fA S kX)
  | (refine XG (some 77) Try.func92 S (wY z1 pr now HAN.out (S.out.tree _ bz) (xR Xl.out S.out bz).1 (xR Xl.out S.out bz).2) ?_; clear S; intro A77 c77 Xc S; clear vG vH vI vJ vK vM pM)
  | (refine boxS 16 _ 26 S ?_; clear S; intro b16 Xd S)
  | (refine ik 26 16 78 #[.int .u8 now.f0, .int .i64 now.f1.f0, .int .i64 now.f1.f1, .int .i64 now.f1.f2, .int .i64 now.f1.f3, .int .i64 now.f2, .slice A77 now.f3.length c77] 0 7 S ?_; clear S; intro Xe S)
  | fail)
 refine iT (n := 18) (S := fun w' => St w _ _ _ _ _ w') (ds := []) (bA 18 0) (by kernel_rfl) rfl rfl (S.out.call (bg (Below.refl _ _))) (fun hHeld => ?_); refine eP xJ.afy xJ.abV (fun aj dW => ?_)
 replace S := ae.mk (S.out.call (bg (Below.refl _ _)))
 generalize Xe.drew = akK at S hHeld ⊢
 refine au 0 80 (bA 18 1) aj ?_
 refine au 1 81 (bA 18 3) aj ?_
 refine au 2 82 (bA 18 7) aj ?_
 refine dO 3 83 (bA 18 15) aj dW hHeld ?_ (hv := by intro w' hs_; have R_ := (hs_.at (.head _) 1).trans rfl; have Si := (hs_.at (.head _) 2).trans rfl; have Sj := (hs_.at (.head _) 3).trans rfl; have ai6 := (hs_.at (.head _) 4).trans rfl; go_simp; with_reducible rfl)
 refine au 4 84 (bA 18 31) aj ?_
 refine au 6 86 (bA 18 95) aj ?_
 refine dO 7 87 (bA 18 223) aj dW hHeld ?_ (hv := by intro w' hs_; have Gj := (hs_.at bz 1).trans rfl; have Gl := (hs_.at bz 2).trans rfl; have Gm := (hs_.at bz 3).trans rfl; have Gn := (hs_.at bz 4).trans rfl; go_simp; with_reducible rfl)
 refine au 8 88 (bA 18 479) aj ?_
 refine au 10 90 (bA 18 1503) aj ?_
 refine jf 5 (some 85) (bA 18 1535) aj (fun K hK => ?_)
 refine yF Try.func87 #[.agg #[.int .i64 now.f1.f0, .int .i64 now.f1.f1, .int .i64 now.f1.f2, .int .i64 now.f1.f3], .int .u8 ax] ?_
 refine (Po now.f1 ax).mono ?_
 rintro e ahd ⟨rfl, hb⟩
 refine ⟨_, rfl, ?_⟩
 replace S := ae.mk (S.out.call hb)
 clear hb
 refine hK.out _ _ S.out (fun hHeld => ?_)
 clear hK K
 refine dK 85 ?_
 refine jf 9 (some 89) (bA 18 2047) aj (fun K hK => ?_)
 refine yF Try.func87 #[.agg #[.int .i64 was.f1.f0, .int .i64 was.f1.f1, .int .i64 was.f1.f2, .int .i64 was.f1.f3], .int .u8 ax] ?_
 refine (Po was.f1 ax).mono ?_
 rintro e ahe ⟨rfl, hb⟩
 refine ⟨_, rfl, ?_⟩
 replace S := ae.mk (S.out.call hb)
 clear hb
 refine hK.out _ _ S.out (fun hHeld => ?_)
 clear hK K
 refine dK 89 ?_
 refine au 11 91 (bA 18 4095) aj ?_
 refine au 12 92 (bA 18 8191) aj ?_
 refine au 13 93 (bA 18 16383) aj ?_
 refine au 14 94 (bA 18 32767) aj ?_
 refine jf 15 (some 95) (bA 18 65535) aj (fun K hK => ?_)
 refine yF Try.func113 #[] ?_
 refine (xu).mono ?_
 rintro e akI ⟨rfl, hb⟩
 refine ⟨_, rfl, ?_⟩
 replace S := ae.mk (S.out.call hb)
 clear hb
 refine hK.out _ _ S.out (fun hHeld => ?_)
 clear hK K
 refine dK 95 ?_
 refine au 16 96 (bA 18 131071) aj ?_
 refine au 17 8 (bA 18 262143) aj ?_
 refine jG (gK aj.out (by kernel_rfl)) ?_
 clear hHeld
 go_wp2
 go_ret
 exact ⟨rfl, S.out.below⟩
def lD.f (a0 a1 a2 a3 a4 a5 : Int) (l : List ai) (_ : Int) (_ : Int) (b3 : Int) : Option Bool := if sz ⟨a0, ⟨a1, a2, a3, a4⟩, a5, l⟩ ≤ 1048576 ∧ (0 ≤ b3 ∧ b3 ≤ 65535) then some true else none
theorem Nz (c : ai) (id : Int) (ax : Int) (aW : Int) (A : Option Addr) (cc : Nat) (w : World) (hr : Kd.C k26 w A c.f3.length c.f3) (hc : c.f3.length ≤ cc) (hz : sz c ≤ 1048576) (Fh : 0 ≤ aW ∧ aW ≤ 65535) :
  Calls Try.prog 29 #[.agg #[.int .u8 c.f0, .int .i64 c.f1.f0, .int .i64 c.f1.f1, .int .i64 c.f1.f2, .int .i64 c.f1.f3, .int .i64 c.f2, .slice A c.f3.length cc], .int .i64 id, .int .u8 ax, .int .u16 aW] w fun e w' => e = .returned (.bool true) ∧ Below w.heap.size w w' := by
 obtain ⟨g, eg, hg⟩ := VU c hz
 cases g with
 | true => exact QK c id ax aW A cc w hr hc hz Fh eg.rounds
 | false =>
  by_cases h3 : 100 < sz c
  ·exact UA c id ax aW A cc w hr hc hz Fh eg.rounds h3
  ·by_cases hn : yV ax id c = 0
   ·obtain ⟨p, d0, z, q, hF⟩ := SK hn
    obtain ⟨⟨z1, n1, e1⟩, hr1⟩ : ∃ r, l7 ax id aW c = r := ⟨_, rfl⟩
    by_cases he : e1 = 0
    ·subst he; exact UB c id ax aW A cc w hr hc hz Fh eg.rounds h3 p d0 z q hF z1 n1 hr1
    ·exact WI c id ax aW A cc w hr hc hz Fh eg.rounds h3 p d0 z q hF z1 n1 e1 hr1 he
   ·exact aan c id ax aW A cc w hr hc hz Fh eg.rounds h3 _ rfl hn
theorem lD.calls (ay aH aA aG aY a_ : Int) (dE : Option Addr) (dF : Nat) (aJ : List ai) (a1 : Int) (a2 : Int) (a3 : Int) (r : Bool) (w : World) (qW : Kd.C k26 w dE aJ.length aJ) (sG : aJ.length ≤ dF) (h : lD.f ay aH aA aG aY a_ aJ a1 a2 a3 = some r) :
  Calls Try.prog 29 #[.agg #[.int .u8 ay, .int .i64 aH, .int .i64 aA, .int .i64 aG, .int .i64 aY, .int .i64 a_, .slice dE aJ.length dF], .int .i64 a1, .int .u8 a2, .int .u16 a3] w fun e w' => e = .returned (.bool r) ∧ Below w.heap.size w w' := by
 unfold lD.f at h
 split at h
 ·rename_i hz
  injection h with h
  subst h
  exact Nz ⟨ay, ⟨aH, aA, aG, aY⟩, a_, aJ⟩ a1 a2 a3 dE dF w qW sG hz.1 hz.2
 ·exact absurd h (by simp)
end Go.Proofs.Ytfdmfgaiblfbhaa.P
namespace Go.Proofs.Ytfdmfgaiblfbhaa.P
open Go.RowKit Go.Proofs.ag.aQ Go.Proofs.ag.bu Go.Proofs.ag.bP
open Go.ChangeShapes Go.WideShapes Go.ChangeAt Go.Joins Go.Deep
def I64 (n : Int) : Prop := -9223372036854775808 ≤ n ∧ n ≤ 9223372036854775807
def U8 (n : Int) : Prop := 0 ≤ n ∧ n ≤ 255
def U16 (n : Int) : Prop := 0 ≤ n ∧ n ≤ 65535
def aef (r : dw) : Prop := I64 r.f0 ∧ I64 r.f1 ∧ I64 r.f2 ∧ I64 r.f3
def Ej : Nat → ai → Prop
 | 0, _ => False
 | n + 1, c => U8 c.f0 ∧ aef c.f1 ∧ I64 c.f2 ∧ c.f3.length ≤ 9223372036854775807 ∧ ∀ k, k ∈ c.f3 → Ej n k
def aeg (c : ai) : Prop := ∃ n, Ej n c
theorem NR : ∀ {n m : Nat} (_ : n ≤ m) {c : ai}, Ej n c → Ej m c
 | 0, _, _, _, h => h.elim
 | n + 1, 0, hm, _, _ => absurd hm (by omega)
 | n + 1, m + 1, hm, _, h => ⟨h.1, h.2.1, h.2.2.1, h.2.2.2.1, fun k hk => NR (by omega) (h.2.2.2.2 k hk)⟩
section
variable {H : Type} {enc : TypeId × Value → H} {P : Program} {w : World} {base : Nat} {spare : Nat → Bool} {held : Bool}
theorem row_of {α : Type} {Q : Nat → α → Prop} : ∀ (n : Nat), (∀ i, i < n → ∃ p, Q i p) → ∃ l : List α, l.length = n ∧ ∀ i p, l[i]? = some p → Q i p
 | 0, _ => ⟨[], rfl, fun i p h => by simp at h⟩
 | n + 1, h => by
  obtain ⟨l, hl, hq⟩ := row_of n fun i hi => h i (by omega)
  obtain ⟨p, hp⟩ := h n (by omega)
  refine ⟨l ++ [p], by simp [hl], fun i q hi => ?_⟩
  rcases Nat.lt_trichotomy i n with h1 | h1 | h1
  ·rw [List.getElem?_append_left (by omega)] at hi
   exact hq i q hi
  ·subst h1
   rw [List.getElem?_append_right (by omega), hl, Nat.sub_self] at hi
   obtain rfl : p = q := by simpa using hi
   exact hp
  ·rw [List.getElem?_eq_none (by simp; omega)] at hi
   cases hi
theorem cells_at {a : Addr} {n : Nat} {cs : List Value} (h : w.cells? base a n = some cs) : cs.length = n ∧ ∀ i u, cs[i]? = some u → w.cell? (a.add i) = some u := by
 obtain ⟨_, h1, h2⟩ := World.cells?_some h
 exact ⟨h1, fun i u hi => by
  have hlt : i < n := by rw [← h1]; exact (List.getElem?_eq_some_iff.1 hi).1
  rw [h2 i hlt, hi]⟩
end
section
variable {H : Type} {enc : TypeId × Value → H} {w : World} {base : Nat} {spare : Nat → Bool} {held : Bool}
theorem AV {n : Int} (h : (Lit.int .i64 n).wf = true) : I64 n := by
 have := bounds_i64 h
 unfold I64
 omega
theorem X5 {n : Int} (h : (Lit.int .u8 n).wf = true) : U8 n := bounds_u8 h
theorem aec {n : Int} (h : (Lit.int .u16 n).wf = true) : U16 n := bounds_u16 h
theorem abR {a : Array Value} {l : List Value} (h : (Value.agg a).cells.toList = l) : a = l.toArray := by
 subst h
 simp [Value.cells]
theorem cells23 : Try.prog.cellsOf 23 = 4 := by kernel_rfl
theorem cells26 : Try.prog.cellsOf 26 = 7 := by kernel_rfl
theorem cells3 : Try.prog.cellsOf 3 = 1 := by kernel_rfl
theorem cells5 : Try.prog.cellsOf 5 = 1 := by kernel_rfl
theorem cells24 : Try.prog.cellsOf 24 = 1 := by kernel_rfl
theorem adW {fuel : Nat} {cs : List Value} {x : DataW H × List MemPlace} (h : DataW.trod enc Try.prog w base spare held fuel 23 cs = some x) : ∃ r : dw, k23.K w r cs ∧ aef r := by
 obtain ⟨y0, y1, y2, y3, n, _, hl, h0, h1, h2, h3⟩ := trod_struct4 Try.underlying23 h
 rw [cells23] at hl
 match cs, hl with
 | [c0, c1, c2, c3], _ =>
  simp only [cells3, List.drop_zero, List.take_succ_cons, List.take_zero, List.drop_succ_cons] at h0 h1 h2 h3
  obtain ⟨n0, e0, _, w0⟩ := DataW.trod_int Try.underlying3 h0
  obtain ⟨n1, e1, _, w1⟩ := DataW.trod_int Try.underlying3 h1
  obtain ⟨n2, e2, _, w2⟩ := DataW.trod_int Try.underlying3 h2
  obtain ⟨n3, e3, _, w3⟩ := DataW.trod_int Try.underlying3 h3
  simp only [List.cons.injEq, and_true] at e0 e1 e2 e3
  subst e0 e1 e2 e3
  exact ⟨⟨n0, n1, n2, n3⟩, M_ w ⟨n0, n1, n2, n3⟩, AV w0, AV w1, AV w2, AV w3⟩
end
end Go.Proofs.Ytfdmfgaiblfbhaa.P
namespace Go.Proofs.Ytfdmfgaiblfbhaa.Pure
open Go.RowKit Go.Proofs.Ytfdmfgaiblfbhaa.P Go.Proofs.ag.aQ Go.Proofs.ag.bu Go.Proofs.ag.bP
theorem PushOne : ∀ (a0 : ai) (a1 : Int) (a2 : Int) (a3 : Int), aeg a0 → sz a0 ≤ 1048576 → I64 a1 → U8 a2 → U16 a3 → lD.f a0.f0 a0.f1.f0 a0.f1.f1 a0.f1.f2 a0.f1.f3 a0.f2 a0.f3 a1 a2 a3 = some true := by
 intro c id ax aW _ hz _ _ Fh
 unfold lD.f
 rw [Gs, if_pos ⟨hz, Fh⟩]
end Go.Proofs.Ytfdmfgaiblfbhaa.Pure
namespace Go.Proofs.Ytfdmfgaiblfbhaa.P
open Go.RowKit
def Jn : List Char := [104, 97, 114, 110, 101, 115, 115, 32, 57, 48, 98, 52, 50, 100, 98, 100, 99, 50, 52, 54, 55, 51, 50, 51, 56, 57, 50, 48, 100, 50, 50, 98, 56, 57, 53, 102, 48, 48, 55, 48, 53, 101, 102, 48, 53, 53, 102, 54, 54, 55, 97, 57, 54, 56, 100, 50, 56, 97, 57, 52, 55, 52, 56, 57, 49, 49, 48, 97, 48, 101, 53, 55, 32, 99, 117, 116, 32, 97, 116, 32, 115, 97, 115, 104, 47, 115, 97, 115, 104, 108, 97, 119, 48, 55, 46, 70, 108, 97, 116, 78, 101, 120, 116, 115, 32, 115, 97, 115, 104, 47, 115, 97, 115, 104, 108, 97, 119, 48, 55, 46, 70, 108, 97, 116, 76, 105, 115, 116, 115, 32, 115, 97, 115, 104, 47, 115, 97, 115, 104, 108, 97, 119, 48, 52, 46, 82, 101, 99, 116, 67, 117, 116, 115, 32, 115, 97, 115, 104, 47, 115, 97, 115, 104, 108, 97, 119, 48, 57, 46, 65, 100, 106, 117, 115, 116, 83, 104, 97, 114, 101, 115, 32, 115, 97, 115, 104, 47, 115, 97, 115, 104, 108, 97, 119, 48, 57, 46, 65, 100, 106, 117, 115, 116, 69, 118, 101, 110, 115, 32, 115, 97, 115, 104, 47, 115, 97, 115, 104, 108, 97, 119, 49, 54, 46, 83, 112, 114, 101, 97, 100, 83, 105, 122, 101, 115, 32, 115, 97, 115, 104, 47, 115, 97, 115, 104, 108, 97, 119, 48, 55, 46, 70, 108, 97, 116, 67, 104, 97, 110, 103, 101, 115, 32, 115, 97, 115, 104, 47, 115, 97, 115, 104, 108, 97, 119, 48, 52, 46, 82, 101, 99, 116, 73, 110, 115, 105, 100, 101, 32, 115, 97, 115, 104, 47, 115, 97, 115, 104, 108, 97, 119, 48, 55, 46, 70, 108, 97, 116, 78, 97, 109, 101, 115, 32, 115, 97, 115, 104, 47, 115, 97, 115, 104, 108, 97, 119, 48, 57, 46, 65, 100, 106, 117, 115, 116, 83, 101, 116, 115, 32, 115, 97, 115, 104, 47, 115, 97, 115, 104, 108, 97, 119, 48, 52, 46, 82, 101, 99, 116, 77, 101, 101, 116, 115, 32, 115, 97, 115, 104, 47, 115, 97, 115, 104, 108, 97, 119, 48, 52, 46, 82, 101, 99, 116, 77, 97, 121, 115, 32, 115, 97, 115, 104, 47, 115, 97, 115, 104, 108, 97, 119, 48, 55, 46, 70, 108, 97, 116, 83, 116, 105, 108, 108, 32, 115, 97, 115, 104, 47, 115, 97, 115, 104, 108, 97, 119, 48, 53, 46, 67, 101, 108, 108, 77, 97, 121, 115, 32, 115, 97, 115, 104, 47, 115, 97, 115, 104, 108, 97, 119, 48, 53, 46, 67, 101, 108, 108, 83, 97, 109, 101, 32, 115, 97, 115, 104, 47, 115, 97, 115, 104, 108, 97, 119, 48, 53, 46, 67, 101, 108, 108, 67, 111, 117, 110, 116, 115, 32, 115, 97, 115, 104, 47, 115, 97, 115, 104, 108, 97, 119, 48, 56, 46, 76, 101, 97, 115, 116, 83, 117, 109, 115, 32, 115, 97, 115, 104, 47, 115, 97, 115, 104, 108, 97, 119, 48, 53, 46, 67, 101, 108, 108, 70, 105, 110, 100, 115, 32, 115, 97, 115, 104, 47, 115, 97, 115, 104, 108, 97, 119, 48, 56, 46, 76, 101, 97, 115, 116, 73, 115, 32, 115, 97, 115, 104, 47, 115, 97, 115, 104, 108, 97, 119, 48, 56, 46, 76, 101, 97, 115, 116, 70, 105, 116, 115, 32, 115, 97, 115, 104, 47, 115, 97, 115, 104, 108, 97, 119, 48, 56, 46, 76, 101, 97, 115, 116, 80, 97, 116, 104, 115, 32, 115, 97, 115, 104, 47, 115, 97, 115, 104, 108, 97, 119, 48, 53, 46, 67, 101, 108, 108, 80, 117, 116, 115, 32, 115, 97, 115, 104, 47, 115, 97, 115, 104, 108, 97, 119, 49, 50, 46, 83, 112, 108, 105, 116, 83, 105, 122, 101, 115, 32, 115, 97, 115, 104, 47, 115, 97, 115, 104, 108, 97, 119, 49, 54, 46, 83, 112, 114, 101, 97, 100, 65, 108, 108, 32, 115, 97, 115, 104, 47, 115, 97, 115, 104, 108, 97, 119, 49, 54, 46, 83, 112, 114, 101, 97, 100, 65, 116, 32, 115, 97, 115, 104, 47, 115, 97, 115, 104, 108, 97, 119, 49, 52, 46, 80, 117, 115, 104, 73, 115, 32, 115, 97, 115, 104, 47, 115, 97, 115, 104, 108, 97, 119, 49, 52, 46, 80, 117, 115, 104, 79, 110, 101, 32, 115, 97, 115, 104, 47, 115, 97, 115, 104, 108, 97, 119, 49, 52, 46, 80, 117, 115, 104, 70, 114, 97, 109, 101, 115, 32, 115, 97, 115, 104, 47, 115, 97, 115, 104, 108, 97, 119, 49, 52, 46, 80, 117, 115, 104, 67, 97, 110, 32, 115, 97, 115, 104, 47, 115, 97, 115, 104, 108, 97, 119, 49, 50, 46, 83, 112, 108, 105, 116, 73, 115, 32, 115, 97, 115, 104, 47, 115, 97, 115, 104, 108, 97, 119, 49, 50, 46, 83, 112, 108, 105, 116, 67, 97, 110].map Char.ofNat
def Jo : List (List Char) := [[104, 97, 114, 110, 101, 115, 115].map Char.ofNat,
 [57, 48, 98, 52, 50, 100, 98, 100, 99, 50, 52, 54, 55, 51, 50, 51, 56, 57, 50, 48, 100, 50, 50, 98, 56, 57, 53, 102, 48, 48, 55, 48, 53, 101, 102, 48, 53, 53, 102, 54, 54, 55, 97, 57, 54, 56, 100, 50, 56, 97, 57, 52, 55, 52, 56, 57, 49, 49, 48, 97, 48, 101, 53, 55].map Char.ofNat,
 [99, 117, 116].map Char.ofNat,
 [97, 116].map Char.ofNat,
 [115, 97, 115, 104, 47, 115, 97, 115, 104, 108, 97, 119, 48, 55, 46, 70, 108, 97, 116, 78, 101, 120, 116, 115].map Char.ofNat,
 [115, 97, 115, 104, 47, 115, 97, 115, 104, 108, 97, 119, 48, 55, 46, 70, 108, 97, 116, 76, 105, 115, 116, 115].map Char.ofNat,
 [115, 97, 115, 104, 47, 115, 97, 115, 104, 108, 97, 119, 48, 52, 46, 82, 101, 99, 116, 67, 117, 116, 115].map Char.ofNat,
 [115, 97, 115, 104, 47, 115, 97, 115, 104, 108, 97, 119, 48, 57, 46, 65, 100, 106, 117, 115, 116, 83, 104, 97, 114, 101, 115].map Char.ofNat,
 [115, 97, 115, 104, 47, 115, 97, 115, 104, 108, 97, 119, 48, 57, 46, 65, 100, 106, 117, 115, 116, 69, 118, 101, 110, 115].map Char.ofNat,
 [115, 97, 115, 104, 47, 115, 97, 115, 104, 108, 97, 119, 49, 54, 46, 83, 112, 114, 101, 97, 100, 83, 105, 122, 101, 115].map Char.ofNat,
 [115, 97, 115, 104, 47, 115, 97, 115, 104, 108, 97, 119, 48, 55, 46, 70, 108, 97, 116, 67, 104, 97, 110, 103, 101, 115].map Char.ofNat,
 [115, 97, 115, 104, 47, 115, 97, 115, 104, 108, 97, 119, 48, 52, 46, 82, 101, 99, 116, 73, 110, 115, 105, 100, 101].map Char.ofNat,
 [115, 97, 115, 104, 47, 115, 97, 115, 104, 108, 97, 119, 48, 55, 46, 70, 108, 97, 116, 78, 97, 109, 101, 115].map Char.ofNat,
 [115, 97, 115, 104, 47, 115, 97, 115, 104, 108, 97, 119, 48, 57, 46, 65, 100, 106, 117, 115, 116, 83, 101, 116, 115].map Char.ofNat,
 [115, 97, 115, 104, 47, 115, 97, 115, 104, 108, 97, 119, 48, 52, 46, 82, 101, 99, 116, 77, 101, 101, 116, 115].map Char.ofNat,
 [115, 97, 115, 104, 47, 115, 97, 115, 104, 108, 97, 119, 48, 52, 46, 82, 101, 99, 116, 77, 97, 121, 115].map Char.ofNat,
 [115, 97, 115, 104, 47, 115, 97, 115, 104, 108, 97, 119, 48, 55, 46, 70, 108, 97, 116, 83, 116, 105, 108, 108].map Char.ofNat,
 [115, 97, 115, 104, 47, 115, 97, 115, 104, 108, 97, 119, 48, 53, 46, 67, 101, 108, 108, 77, 97, 121, 115].map Char.ofNat,
 [115, 97, 115, 104, 47, 115, 97, 115, 104, 108, 97, 119, 48, 53, 46, 67, 101, 108, 108, 83, 97, 109, 101].map Char.ofNat,
 [115, 97, 115, 104, 47, 115, 97, 115, 104, 108, 97, 119, 48, 53, 46, 67, 101, 108, 108, 67, 111, 117, 110, 116, 115].map Char.ofNat,
 [115, 97, 115, 104, 47, 115, 97, 115, 104, 108, 97, 119, 48, 56, 46, 76, 101, 97, 115, 116, 83, 117, 109, 115].map Char.ofNat,
 [115, 97, 115, 104, 47, 115, 97, 115, 104, 108, 97, 119, 48, 53, 46, 67, 101, 108, 108, 70, 105, 110, 100, 115].map Char.ofNat,
 [115, 97, 115, 104, 47, 115, 97, 115, 104, 108, 97, 119, 48, 56, 46, 76, 101, 97, 115, 116, 73, 115].map Char.ofNat,
 [115, 97, 115, 104, 47, 115, 97, 115, 104, 108, 97, 119, 48, 56, 46, 76, 101, 97, 115, 116, 70, 105, 116, 115].map Char.ofNat,
 [115, 97, 115, 104, 47, 115, 97, 115, 104, 108, 97, 119, 48, 56, 46, 76, 101, 97, 115, 116, 80, 97, 116, 104, 115].map Char.ofNat,
 [115, 97, 115, 104, 47, 115, 97, 115, 104, 108, 97, 119, 48, 53, 46, 67, 101, 108, 108, 80, 117, 116, 115].map Char.ofNat,
 [115, 97, 115, 104, 47, 115, 97, 115, 104, 108, 97, 119, 49, 50, 46, 83, 112, 108, 105, 116, 83, 105, 122, 101, 115].map Char.ofNat,
 [115, 97, 115, 104, 47, 115, 97, 115, 104, 108, 97, 119, 49, 54, 46, 83, 112, 114, 101, 97, 100, 65, 108, 108].map Char.ofNat,
 [115, 97, 115, 104, 47, 115, 97, 115, 104, 108, 97, 119, 49, 54, 46, 83, 112, 114, 101, 97, 100, 65, 116].map Char.ofNat,
 [115, 97, 115, 104, 47, 115, 97, 115, 104, 108, 97, 119, 49, 52, 46, 80, 117, 115, 104, 73, 115].map Char.ofNat,
 [115, 97, 115, 104, 47, 115, 97, 115, 104, 108, 97, 119, 49, 52, 46, 80, 117, 115, 104, 79, 110, 101].map Char.ofNat,
 [115, 97, 115, 104, 47, 115, 97, 115, 104, 108, 97, 119, 49, 52, 46, 80, 117, 115, 104, 70, 114, 97, 109, 101, 115].map Char.ofNat,
 [115, 97, 115, 104, 47, 115, 97, 115, 104, 108, 97, 119, 49, 52, 46, 80, 117, 115, 104, 67, 97, 110].map Char.ofNat,
 [115, 97, 115, 104, 47, 115, 97, 115, 104, 108, 97, 119, 49, 50, 46, 83, 112, 108, 105, 116, 73, 115].map Char.ofNat,
 [115, 97, 115, 104, 47, 115, 97, 115, 104, 108, 97, 119, 49, 50, 46, 83, 112, 108, 105, 116, 67, 97, 110].map Char.ofNat]
theorem TE : Try.prog.initOrder.toList = Jn := by
 have e : Try.prog.initOrder = String.ofList Jn := by kernel_rfl
 rw [e, String.toList_ofList]
theorem Qr : wordsSigns Try.prog.initOrder.toList = Jo := by
 rw [TE]
 kernel_rfl
def wJ : List (List Char) := Jo.drop 3
theorem NU : behindMainWord (wordsSigns Try.prog.initOrder.toList) = ([99, 117, 116].map Char.ofNat) :: wJ := by
 rw [Qr]
 kernel_rfl
theorem aci : ([99, 117, 116].map Char.ofNat : List Char) = "cut".toList := by decide +kernel
theorem yY : behindMainWord (wordsSigns Try.prog.initOrder.toList) = "cut".toList :: wJ := NU.trans (congrArg (fun c => c :: wJ) aci)
theorem G5 (rest : List (List Char)) : stripLifts liftWords ("cut".toList :: rest) = ([], "cut".toList :: rest) := by
 have key : ∀ (l : List String), (l.all fun o => !("cut".toList == o.toList)) = true → stripLifts l ("cut".toList :: rest) = ([], "cut".toList :: rest) := by
  intro l
  induction l with
  | nil => intro _; rfl
  | cons o l ih =>
   intro h
   simp only [List.all_cons, Bool.and_eq_true] at h
   unfold stripLifts
   rw [if_neg (by simpa using h.1)]
   exact ih h.2
 exact key _ (by decide +kernel)
theorem aah (P : Program) (rest : List (List Char)) (h : behindMainWord (wordsSigns P.initOrder.toList) = "cut".toList :: rest) : P.make = some .cut := by
 unfold Program.make
 rw [h]
 simp only
 have h1 : ("cut".toList == "gc".toList) = false := by decide +kernel
 have h2 : ("cut".toList == "spec".toList) = false := by decide +kernel
 rw [h1, h2, if_neg (by simp), if_pos (by simp)]
theorem Wj (P : Program) (rest : List (List Char)) (h : behindMainWord (wordsSigns P.initOrder.toList) = "cut".toList :: rest) : P.headLifts = [] := by
 unfold Program.headLifts
 simp only [h, G5]
 simp
theorem VQ (P : Program) (rest : List (List Char)) (h : behindMainWord (wordsSigns P.initOrder.toList) = "cut".toList :: rest) : P.liftsFinal = false := by
 have h1 : (some "cut".toList == some "carried".toList) = false := by decide +kernel
 unfold Program.liftsFinal
 simp only [h, Wj P rest h, List.head?_cons, h1, Bool.false_and, List.contains_nil, Bool.or_false]
theorem VL (P : Program) (rest : List (List Char)) (h : behindMainWord (wordsSigns P.initOrder.toList) = "cut".toList :: rest) (h1 : P.laysLater = false) (h2 : P.bearsReflect = false) (h3 : P.doorFits [] = true) : P.mayEnter = true := by
 unfold Program.mayEnter
 rw [h]
 simp only [G5]
 rw [h1, h2, h3]
 simp
theorem TF : Try.prog.make = some .cut := aah Try.prog wJ yY
theorem Qo : Try.prog.liftsFinal = false := VQ Try.prog wJ yY
theorem Qq : Try.prog.laysLater = false := by kernel_rfl
theorem MM : Try.prog.bearsReflect = false := by kernel_rfl
theorem TC : Try.prog.doorFits [] = true := by kernel_rfl
theorem Qn : Try.prog.mayEnter = true := VL Try.prog wJ yY Qq MM TC
theorem TD : (true == Try.prog.plainKeys) = true := by kernel_rfl
theorem Qp : Try.prog.stopsHeard = true := by kernel_rfl
theorem Uc {P : Program} {f : FuncId} {fn : Func} {s : ChangeSpec} {c : OpenClaim}
  (h0 : (c.wf (OpenSpec.ofChange s)) = true)
  (h1 : (laidOutB P) = true)
  (h2 : (mapsRowed P) = true)
  (h3 : (fn.params.all (P.readableRec ·)) = true)
  (h4 : (namedTie P c.named s.vars) = true)
  (h5 : ((c.stops == [])) = true)
  (h6 : ((P.stops == [])) = true)
  (h7 : ((c.knobs == [])) = true)
  (h8 : ((P.stopKnobs == [])) = true)
  (h9 : ((c.inPlace == P.inPlace f)) = true)
  (h10 : ((c.unfollowed == P.unfollowed f)) = true)
  (h11 : ((c.recurses == P.recurses f)) = true)
  (h12 : ((c.named == P.varsNamed f)) = true)
  (h13 : ((c.maps == (fn.params.toList ++ s.plain.varTypes P).any (P.mapsRec ·))) = true)
  (h14 : ((c.ifaces == (fn.params.toList ++ s.plain.varTypes P).any (P.ifacesRec ·))) = true)
  (h15 : ((c.mapsOut == P.mapsAmong fn.resultTypes.toList)) = true)
  (h16 : ((c.loops == (fn.params.toList ++ s.plain.varTypes P).any (P.loopsFrom ·))) = true)
  (h17 : ((c.wideKeys == (fn.params.toList ++ s.plain.varTypes P ++ fn.resultTypes.toList).any (P.wideKeysFrom ·))) = true)
  (h18 : (s.vars.all (P.varReadable ·)) = true)
  (h19 : (fn.resultTypes.all (fun t => P.readableRec t && decide (t < P.types.size))) = true)
  (h20 : ((c.ifacesOut == fn.resultTypes.toList.any (P.ifacesRec ·))) = true)
  (h21 : ((c.loopsOut == fn.resultTypes.toList.any (P.loopsFrom ·))) = true)
  (h22 : ((c.plainKeys == P.plainKeys)) = true)
  (h23 : (c.shortTexts.isNone) = true)
  (h24 : (P.stopsHeard) = true)
  (h25 : (P.mayEnter) = true)
  (h26 : ((c.lifted == P.liftsFinal)) = true)
  (h27 : ((P.make == some c.make)) = true)
  (hd : c.domain.isEmpty = true) (hk : c.kinds = [])
  (h29 : ((c.pinned == c.pinnedBy)) = true)
  (h30 : ((c.veiled == (fn.params.toList ++ s.plain.varTypes P ++ fn.resultTypes.toList).any (P.veiledRec ·))) = true)
  (h31 : (c.veiledFits P fn.params.toList (fn.params.toList ++ s.plain.varTypes P ++ fn.resultTypes.toList)) = true)
  : joinedFacts P f fn s c = true := by
 unfold joinedFacts
 rw [h0, h1, h2, h3, h4, h5, h6, h7, h8, h9, h10, h11, h12, h13, h14, h15, h16, h17, h18, h19, h20, h21, h22, h23, h24, h25, h26, h27, if_pos hd, hk, h29, h30, h31]
 rfl
end Go.Proofs.Ytfdmfgaiblfbhaa.P
namespace Go.Proofs.Ytfdmfgaiblfbhaa.P
open Go.RowKit Go.Proofs.ag.aQ Go.Proofs.ag.bu Go.Proofs.ag.bP
open Go.ChangeShapes Go.WideShapes Go.ChangeAt Go.Joins Go.Deep
section
variable {H : Type} {enc : TypeId × Value → H} {P : Program} {w : World} {base : Nat} {spare : Nat → Bool} {held : Bool}
theorem Lp (d : DataW H) : 1 ≤ Rows.uptoBulk d := by
 cases d with
 | lit l => cases l <;> simp [Rows.uptoBulk]
 | _ => simp [Rows.uptoBulk]
theorem Vr (l : List (DataW H)) : l.length ≤ Rows.uptoBulkAll l := by
 induction l with
 | nil => simp
 | cons x xs ih =>
  have := Lp x
  simp only [Rows.uptoBulkAll, List.length_cons]
  omega
theorem Vs {α : Type} (m : α → Nat) : ∀ (l : List α) (es : List (DataW H)), l.length = es.length → (∀ (i : Nat) (p : α) (e : DataW H), l[i]? = some p → es[i]? = some e → m p ≤ Rows.uptoBulk e) → (l.map m).sum ≤ Rows.uptoBulkAll es := by
 intro l
 induction l with
 | nil => intro es _ _; simp
 | cons x xs ih =>
  intro es hl h
  cases es with
  | nil => simp at hl
  | cons e es =>
   have h0 := h 0 x e rfl rfl
   have h1 := ih es (by simpa using hl) (fun i p e hp he => h (i + 1) p e (by simpa using hp) (by simpa using he))
   simp only [List.map_cons, List.sum_cons, Rows.uptoBulkAll]
   omega
theorem JK {t : TypeId} {f0 f1 f2 f3 : Field} {fuel : Nat} {cs : List Value} {x : DataW H × List MemPlace} (ht : P.underlying t = some (.struct #[f0, f1, f2, f3])) (h : DataW.trod enc P w base spare held fuel t cs = some x) :
  ∃ y0 y1 y2 y3 n, fuel = n + 1 ∧ x.1 = .agg [y0.1, y1.1, y2.1, y3.1] ∧ cs.length = P.cellsOf t ∧ DataW.trod enc P w base spare held n f0.type ((cs.drop f0.offset).take (P.cellsOf f0.type)) = some y0 ∧
   DataW.trod enc P w base spare held n f1.type ((cs.drop f1.offset).take (P.cellsOf f1.type)) = some y1 ∧ DataW.trod enc P w base spare held n f2.type ((cs.drop f2.offset).take (P.cellsOf f2.type)) = some y2 ∧
   DataW.trod enc P w base spare held n f3.type ((cs.drop f3.offset).take (P.cellsOf f3.type)) = some y3 := by
 obtain ⟨xs, n, hn, rfl, hl, hlen, hf⟩ := DataW.trod_struct ht h
 match xs, hlen with
 | [y0, y1, y2, y3], _ => exact ⟨y0, y1, y2, y3, n, hn, rfl, hl, by simpa using hf 0 f0 rfl, by simpa using hf 1 f1 rfl, by simpa using hf 2 f2 rfl, by simpa using hf 3 f3 rfl⟩
theorem Ut {α : Type} {k : Kd α} {ok : α → Prop} (m : α → Nat) {t e : TypeId} {fuel : Nat} {cs : List Value} {x : DataW H × List MemPlace} (ht : P.underlying t = some (.slice e)) (hs : k.sz = P.cellsOf e)
  (hE : ∀ n, n < fuel → ∀ cs y, DataW.trod enc P w base spare held n e cs = some y → ∃ p, k.K w p cs ∧ ok p ∧ m p ≤ Rows.uptoBulk y.1) (h : DataW.trod enc P w base spare held fuel t cs = some x) :
  ∃ A c l, cs = [.slice A (l : List α).length c] ∧ l.length ≤ c ∧ k.C w A l.length l ∧ (∀ p, p ∈ l → ok p) ∧ (l.map m).sum < Rows.uptoBulk x.1 ∧ l.length < Rows.uptoBulk x.1 := by
 rcases DataW.trod_slice ht h with ⟨rfl, rfl⟩ | ⟨a, len, cap, elems, rest, n, hn, rfl, rfl, hb, hl, hm, hlen, hel, hsp, hns⟩
 ·exact ⟨none, 0, [], rfl, Nat.le_refl _, ⟨rfl, by simp, fun h => absurd h (by simp)⟩, (fun p hp => by cases hp), (by simp [Rows.uptoBulk]), (by simp [Rows.uptoBulk])⟩
 ·obtain ⟨l, hl2, hq⟩ := row_of (α := α) (Q := fun i p => ok p ∧ (∃ c, c.length = k.sz ∧ k.K w p c ∧ ∀ j u, c[j]? = some u → w.cell? (a.add (i * k.sz + j)) = some u) ∧ ∀ e, elems[i]? = some e → m p ≤ Rows.uptoBulk e.1) len (fun i hi => by
   have key := hel i hi
   rw [List.getElem?_eq_getElem (by omega)] at key
   obtain ⟨cs', h1, h2⟩ := Option.bind_eq_some_iff.1 key
   obtain ⟨p, hp, hok, hm⟩ := hE n (by omega) cs' _ h2
   obtain ⟨h3, h4⟩ := cells_at h1
   refine ⟨p, hok, ⟨cs', by rw [h3, hs], hp, fun j u hj => ?_⟩, fun e he => ?_⟩
   ·rw [hs, ← Deep.add_add]
    exact h4 j u hj
   ·rw [List.getElem?_eq_getElem (by omega)] at he
    cases he
    exact hm)
  subst hl2
  refine ⟨some a, cap, l, rfl, hl, ⟨rfl, by unfold maxLen at hm; omega, fun _ => ⟨a, rfl, fun j p hj => ?_⟩⟩, fun p hp => ?_, ?_, ?_⟩
  ·obtain ⟨_, ⟨c, h1, h2, h3⟩, _⟩ := hq j p hj
   exact ⟨c, h1, h2, h3⟩
  ·obtain ⟨i, hi, rfl⟩ := List.getElem_of_mem hp
   exact (hq i _ (List.getElem?_eq_getElem hi)).1
  ·have := Vs m l (elems.map (·.1)) (by simp [hlen]) (fun i p e hp he => by
    rw [List.getElem?_map] at he
    obtain ⟨e', he', rfl⟩ := Option.map_eq_some_iff.1 he
    exact (hq i p hp).2.2 e' he')
   simp only [Rows.uptoBulk]
   omega
  ·have := Vr (elems.map (·.1))
   simp only [List.length_map] at this
   simp only [Rows.uptoBulk]
   omega
end
section
variable {H : Type} {enc : TypeId × Value → H} {w : World} {base : Nat} {spare : Nat → Bool} {held : Bool}
theorem WR : ∀ (fuel : Nat) {cs : List Value} {x : DataW H × List MemPlace} (_ : DataW.trod enc Try.prog w base spare held fuel 26 cs = some x), ∃ r : ai, (Kd.upto Oc 7 [26] fuel).K w r cs ∧ Ej fuel r ∧ sz r ≤ Rows.uptoBulk x.1 := by
 intro fuel
 induction fuel using Nat.strongRecOn with
 | _ fuel ih =>
 intro cs x h
 cases fuel with
 | zero => simp [DataW.trod] at h
 | succ fuel =>
  obtain ⟨y0, y1, y2, y3, m, hm, hx, hl, h0, h1, h2, h3⟩ := JK Try.underlying26 h
  obtain rfl : fuel = m := by omega
  rw [cells26] at hl
  match cs, hl with
  | [c0, c1, c2, c3, c4, c5, c6], _ =>
    simp only [cells3, cells5, cells23, cells24, List.drop_zero, List.take_succ_cons, List.take_zero, List.drop_succ_cons] at h0 h1 h2 h3
    obtain ⟨n0, e0, _, w0⟩ := DataW.trod_int Try.underlying5 h0
    obtain ⟨n2, e2, _, w2⟩ := DataW.trod_int Try.underlying3 h2
    simp only [List.cons.injEq, and_true] at e0 e2
    subst e0 e2
    obtain ⟨r, hr, hw⟩ := adW h1
    obtain e1 := Fv hr
    simp only [List.cons.injEq, and_true] at e1
    obtain ⟨rfl, rfl, rfl, rfl⟩ := e1
    obtain ⟨A, c, l, e3, hlc, hC, hok, hsum, _⟩ := Ut (k := Kd.upto Oc 7 [26] fuel) (ok := Ej fuel) sz Try.underlying24 (by rw [QW, cells26]) (fun n hn cs y hy => by
     obtain ⟨p, hp, hok, hz⟩ := ih n (by omega) hy
     exact ⟨p, Kd.DX Nh QW (by omega) hp, NR (by omega) hok, hz⟩) h3
    simp only [List.cons.injEq, and_true] at e3
    subst e3
    have afg : l.length ≤ 9223372036854775807 := hC.2.1
    refine ⟨⟨n0, r, n2, l⟩, ?_, ⟨X5 w0, hw, AV w2, afg, hok⟩, ?_⟩
    ·exact ⟨[.int .u8 n0], [.int .i64 r.f0, .int .i64 r.f1, .int .i64 r.f2, .int .i64 r.f3, .int .i64 n2, .slice A l.length c], rfl, rfl, [.int .i64 r.f0, .int .i64 r.f1, .int .i64 r.f2, .int .i64 r.f3], [.int .i64 n2, .slice A l.length c], rfl, M_ w r, [.int .i64 n2], [.slice A l.length c], rfl, rfl, A, c, rfl, hlc, hC⟩
    ·rw [hx, bZ]
     have := aaB l
     simp only [Rows.uptoBulk, Rows.uptoBulkAll]
     have h3 := Lp y0.1
     omega
theorem aat {fuel : Nat} {cs : List Value} {x : DataW H × List MemPlace} (h : DataW.trod enc Try.prog w base spare held fuel 26 cs = some x) : ∃ r : ai, k26.K w r cs ∧ aeg r ∧ sz r ≤ Rows.uptoBulk x.1 := by
 obtain ⟨r, hr, hw, hz⟩ := WR fuel h
 exact ⟨r, ⟨fuel, hr⟩, ⟨fuel, hw⟩, hz⟩
end
end Go.Proofs.Ytfdmfgaiblfbhaa.P
namespace Go.Proofs.Ytfdmfgaiblfbhaa.EC
open Go.ChangeShapes Go.WideShapes Go.ChangeAt Go.RowKit Go.Proofs.Ytfdmfgaiblfbhaa.P Go.Proofs.ag.aQ
open Go.ChangeMaps (open_string shut_string)
theorem own : ownKnob Try.prog.godebug = none := by kernel_rfl
theorem laidOut : laidOutB Try.prog = true := by kernel_rfl
theorem lifted (os : Os) (started : os.Started) (H : Type) (enc : TypeId × Value → H) (F : Stop.Interp) :
  ReturnsInHanded {} Try.checked os 29 .any ((Rows.OpenSpec.upto Rows.pushOneSpec).pre6 enc Try.prog Try.f29 Rows.pushOneUptoRow.domain false) (((Rows.OpenSpec.upto Rows.pushOneSpec).at F).post enc Try.prog Try.f29 false true false false) := by
 refine returnsInHanded_of_cond (C := Try.checked) (s := Rows.OpenSpec.upto Rows.pushOneSpec) (k := Rows.uptoSmall) rfl own started (by kernel_rfl) Try.func29
  (OpenSpec.witness (enc := enc) (C := Try.checked) (s := Rows.OpenSpec.upto Rows.pushOneSpec) (k := Rows.uptoSmall) rfl false ⟨#[], #[.agg #[.int .u8 0, .int .i64 0, .int .i64 0, .int .i64 0, .int .i64 0, .int .i64 0, .slice none 0 0], .int .i64 0, .int .u8 0, .int .u16 0], []⟩ 8 (by kernel_rfl) (by kernel_rfl) (by kernel_rfl)
   (x := ([.agg [.lit (.int .u8 0), .agg [.lit (.int .i64 0), .lit (.int .i64 0), .lit (.int .i64 0), .lit (.int .i64 0)], .lit (.int .i64 0), .nil], .lit (.int .i64 0), .lit (.int .u8 0), .lit (.int .u16 0)], [], [])) (by kernel_rfl) rfl (by kernel_rfl)) ?_
 intro W base args ds gs before hval0 hW hcnd hk0 _
 have hval : ∀ (j : Nat) t v, Try.f29.params[j]? = some t → args[j]? = some v → Value.okWide Try.prog W .any base t v := hval0
 have hW' := hW
 obtain ⟨p, q, hA0, hV, rfl, hfz, hnd⟩ := hW
 have hA : DataW.TrodAll enc Try.prog W 0 (fun _ => true) true Try.f29.params.toList args.toList ds p := hA0
 rw [Try.params29] at hA hval
 obtain ⟨v0, vs0, d0, ds0, p0, q0, hargs, rfl, rfl, h0, r0⟩ := trodAll_cons hA
 obtain ⟨v1, vs1, d1, ds1, p1, q1, rfl, rfl, rfl, h1, r1⟩ := trodAll_cons r0
 obtain ⟨v2, vs2, d2, ds2, p2, q2, rfl, rfl, rfl, h2, r2⟩ := trodAll_cons r1
 obtain ⟨v3, vs3, d3, ds3, p3, q3, rfl, rfl, rfl, h3, r3⟩ := trodAll_cons r2
 obtain ⟨rfl, rfl, rfl⟩ := trodAll_nil r3
 obtain rfl : args = #[v0, v1, v2, v3] := by cases args; simp_all
 obtain ⟨rfl, rfl⟩ := trodVars_none hV
 have hB := of_decide_eq_true hk0
 simp only [List.cons_append, List.nil_append, List.append_nil, Rows.uptoBulkAll] at hB
 have z0 : Rows.uptoBulk d0 ≤ 1048576 := by omega
 have k0 := h0
 have lt0 : ∀ x ∈ p0, x.block < W.heap.size := by obtain ⟨m, hm⟩ := k0; exact DataW.trod_lt m _ _ _ hm
 obtain ⟨fuel0, hf0⟩ := h0
 obtain ⟨cs0, rfl, _⟩ := okWide_struct Try.underlying26 (hval 0 26 v0 rfl rfl)
 obtain ⟨a0, b0, w0, y0⟩ := aat hf0
 obtain ⟨A0, c0, e0, hc0, hr0⟩ := BI b0
 obtain rfl := abR e0
 obtain ⟨a1, rfl, rfl, rfl, w1⟩ := open_int Try.underlying3 (hval 1 3 v1 rfl rfl) h1
 obtain ⟨a2, rfl, rfl, rfl, w2⟩ := open_int Try.underlying5 (hval 2 5 v2 rfl rfl) h2
 obtain ⟨a3, rfl, rfl, rfl, w3⟩ := open_int Try.underlying108 (hval 3 108 v3 rfl rfl) h3
 have hP := Pure.PushOne a0 a1 a2 a3 w0 (Nat.le_trans y0 z0) (AV w1) (X5 w2) (aec w3)
 refine (lD.calls a0.f0 a0.f1.f0 a0.f1.f1 a0.f1.f2 a0.f1.f3 a0.f2 _ _ a0.f3 a1 a2 a3 true W hr0 hc0 hP).mono fun e W' ⟨he, agC⟩ => ?_
 have bel : Below W.heap.size W W' := agC
 subst he
 exact ⟨_, rfl, _, _, _, [], _, [], hW', trodAll_mk1 (shut_bool Try.underlying4 _), (trodAll_cons_mk (Below.trod laidOut (by kernel_rfl) (of_decide_eq_true (by kernel_rfl)) k0 bel lt0) (trodAll_cons_mk (shut_int Try.underlying3 w1) (trodAll_cons_mk (shut_int Try.underlying5 w2) (trodAll_cons_mk (shut_int Try.underlying108 w3) trodAll_mk0)))), rfl, bel.frame _, fun h => by cases h⟩
theorem j0 : (Rows.pushOneUptoRow.wf (OpenSpec.ofChange (Rows.OpenSpec.upto Rows.pushOneSpec).bare)) = true := by kernel_rfl
theorem j1 : (laidOutB Try.prog) = true := by kernel_rfl
theorem j2 : (mapsRowed Try.prog) = true := by kernel_rfl
theorem j3 : (Try.f29.params.all (Try.prog.readableRec ·)) = true := by kernel_rfl
theorem j4 : (namedTie Try.prog Rows.pushOneUptoRow.named (Rows.OpenSpec.upto Rows.pushOneSpec).bare.vars) = true := by kernel_rfl
theorem j5 : ((Rows.pushOneUptoRow.stops == [])) = true := by kernel_rfl
theorem j6 : ((Try.prog.stops == [])) = true := by kernel_rfl
theorem j7 : ((Rows.pushOneUptoRow.knobs == [])) = true := by kernel_rfl
theorem j8 : ((Try.prog.stopKnobs == [])) = true := by kernel_rfl
theorem j9 : ((Rows.pushOneUptoRow.inPlace == Try.prog.inPlace 29)) = true := by kernel_rfl
theorem j10 : ((Rows.pushOneUptoRow.unfollowed == Try.prog.unfollowed 29)) = true := by kernel_rfl
theorem j11 : ((Rows.pushOneUptoRow.recurses == Try.prog.recurses 29)) = true := by kernel_rfl
theorem j12 : ((Rows.pushOneUptoRow.named == Try.prog.varsNamed 29)) = true := by kernel_rfl
theorem j13 : ((Rows.pushOneUptoRow.maps == (Try.f29.params.toList ++ (Rows.OpenSpec.upto Rows.pushOneSpec).bare.plain.varTypes Try.prog).any (Try.prog.mapsRec ·))) = true := by kernel_rfl
theorem j14 : ((Rows.pushOneUptoRow.ifaces == (Try.f29.params.toList ++ (Rows.OpenSpec.upto Rows.pushOneSpec).bare.plain.varTypes Try.prog).any (Try.prog.ifacesRec ·))) = true := by kernel_rfl
theorem j15 : ((Rows.pushOneUptoRow.mapsOut == Try.prog.mapsAmong Try.f29.resultTypes.toList)) = true := by kernel_rfl
theorem j16 : ((Rows.pushOneUptoRow.loops == (Try.f29.params.toList ++ (Rows.OpenSpec.upto Rows.pushOneSpec).bare.plain.varTypes Try.prog).any (Try.prog.loopsFrom ·))) = true := by kernel_rfl
theorem j17 : ((Rows.pushOneUptoRow.wideKeys == (Try.f29.params.toList ++ (Rows.OpenSpec.upto Rows.pushOneSpec).bare.plain.varTypes Try.prog ++ Try.f29.resultTypes.toList).any (Try.prog.wideKeysFrom ·))) = true := by kernel_rfl
theorem j18 : ((Rows.OpenSpec.upto Rows.pushOneSpec).bare.vars.all (Try.prog.varReadable ·)) = true := by kernel_rfl
theorem j19 : (Try.f29.resultTypes.all (fun t => Try.prog.readableRec t && decide (t < Try.prog.types.size))) = true := by kernel_rfl
theorem j20 : ((Rows.pushOneUptoRow.ifacesOut == Try.f29.resultTypes.toList.any (Try.prog.ifacesRec ·))) = true := by kernel_rfl
theorem j21 : ((Rows.pushOneUptoRow.loopsOut == Try.f29.resultTypes.toList.any (Try.prog.loopsFrom ·))) = true := by kernel_rfl
theorem j23 : (Rows.pushOneUptoRow.shortTexts.isNone) = true := by kernel_rfl
theorem j29 : ((Rows.pushOneUptoRow.pinned == Rows.pushOneUptoRow.pinnedBy)) = true := by kernel_rfl
theorem j30 : ((Rows.pushOneUptoRow.veiled == (Try.f29.params.toList ++ (Rows.OpenSpec.upto Rows.pushOneSpec).bare.plain.varTypes Try.prog ++ Try.f29.resultTypes.toList).any (Try.prog.veiledRec ·))) = true := by kernel_rfl
theorem j31 : (Rows.pushOneUptoRow.veiledFits Try.prog Try.f29.params.toList (Try.f29.params.toList ++ (Rows.OpenSpec.upto Rows.pushOneSpec).bare.plain.varTypes Try.prog ++ Try.f29.resultTypes.toList)) = true := by kernel_rfl
theorem closed : joinedFacts Try.prog 29 Try.f29 (Rows.OpenSpec.upto Rows.pushOneSpec).bare Rows.pushOneUptoRow = true := P.Uc j0 j1 j2 j3 j4 j5 j6 j7 j8 j9 j10 j11 j12 j13 j14 j15 j16 j17 j18 j19 j20 j21 P.TD j23 P.Qp P.Qn (by rw [P.Qo]; rfl) (by rw [P.TF]; rfl) rfl rfl j29 j30 j31
theorem over : Rows.pushOneUptoRow.holds Try.pinned (Rows.OpenSpec.upto Rows.pushOneSpec) :=
 OpenClaim.holds_of_cond 29 Try.f29 rfl rfl rfl rfl rfl rfl rfl ⟨rfl, rfl, rfl, rfl, rfl⟩ rfl rfl rfl rfl rfl (by kernel_rfl) Try.func29 closed
  (of_decide_eq_true (by kernel_rfl)) (by unfold Func.isWrapper; first | (rw [if_pos (by decide +kernel)]; kernel_rfl) | (rw [if_neg (by decide +kernel)]; exact ⟨rfl, rfl⟩))
  (fun os started H enc _ F => lifted os started H enc F)
theorem proved : Rows.PushOneUptoSaid := over
#print axioms proved
end Go.Proofs.Ytfdmfgaiblfbhaa.EC
namespace Go.Proofs.Ytfdmfgaiblfbhaa
theorem pushOneUpto_holds : Rows.PushOneUptoSaid := EC.proved
end Go.Proofs.Ytfdmfgaiblfbhaa
