/- The row of the law SpreadAll, second form (what it reads is of bulk at most 1048576), out of its plain law and its walk. -/
import Derived.Test.YtfdmfgaiblfbhaaMSpreadAlle
import Derived.Test.YtfdmfgaiblfbhaaMSpreadAllc
import Derived.Shelf.Spec.SlicesInsert
import Derived.Shelf.Spec.SlicesInsertGrow
import Derived.Test.YtfdmfgaiblfbhaaMSpreadAlld
import Derived.ProofKit
import Derived.Deep.Slices
import Derived.Lib.SmallJoins
import Derived.OpenShut
import Derived.Test.YtfdmfgaiblfbhaaRows
import Derived.WalkKit
import Derived.ShutString
import Derived.ChangeOld
import Derived.Below
import Derived.SizedLaws
import Derived.JoinedCond
set_option maxHeartbeats 8000000
set_option maxRecDepth 100000
set_option linter.unusedVariables false
set_option linter.unusedSimpArgs false
namespace Go.Proofs.Ytfdmfgaiblfbhaa.P
open Go.RowKit Go.Proofs.ag.aV Go.Proofs.ag.bM Go.Proofs.ag.di
def wC.T9 : Bool × List (List Nat × List Nat) := (true, [([], []), ([], []), ([], []), ([0, 1, 2], [0, 1, 2]), ([], []), ([4], [4]), ([5], [5]), ([], []), ([7], [7]), ([8], [8]), ([3, 6, 9, 3], [3, 6, 9]), ([10, 10, 0, 1, 2, 3, 4, 5, 6, 7, 8, 9, 10], [10]), ([11, 0, 1, 2, 3, 4, 5, 6, 7, 8, 9, 10, 11], [])])
def wC.B9 : List Nat := [0, 0, 0, 7, 0, 16, 48, 0, 128, 384, 1023, 2047, 4095]
theorem wC.O3 : iP .any (opsOf Try.f184 9) = wC.T9 := by kernel_rfl
theorem wC.Iq : iL wC.T9.2 wC.B9 = true := by kernel_rfl
def atR (ax : Int) (r : dE) : Int := if ax = 1 then r.f0 else r.f1
theorem adZ {ax : Int} {c : ai} {b : Int} (ht : fB c = true) (hax : ax = 1 ∨ ax = 2) :
  wJ ax c b = (decide (b > 10000) || (decide (b < -10000) || (decide (wrap64 (wrap64 (atR ax c.f1 + bC ax c.f1) + b) > 10000) || decide (wrap64 (bC ax c.f1 + b) < dF ax c)))) := by
 have hm := qO ht
 have hr := zo (uX (vO hm))
 have r := vU hr hax
 have hg := Pure.Ho hax ht
 have hw1 : wrap64 (-(dX ax c)) = -(dX ax c) := by rw [hg.1]; unfold wrap64; omega
 have hq : 0 ≤ c.f1.f0 ∧ 0 ≤ c.f1.f1 ∧ c.f1.f0 + c.f1.f2 ≤ 10000 ∧ c.f1.f1 + c.f1.f3 ≤ 10000 ∧ 1 ≤ c.f1.f2 ∧ 1 ≤ c.f1.f3 := by
  unfold mY qL at hr
  simp only [Bool.and_eq_true, decide_eq_true_eq] at hr
  omega
 have he : bC ax ⟨0, 0, wrap64 (c.f1.f0 + c.f1.f2), wrap64 (c.f1.f1 + c.f1.f3)⟩ = atR ax c.f1 + bC ax c.f1 := by
  unfold bC atR
  rcases hax with rfl | rfl
  ·simp only [if_true]; unfold wrap64; omega
  ·simp only [show ¬ ((2 : Int) = 1) by decide, if_false, if_true]; unfold wrap64; omega
 have ha : 0 ≤ atR ax c.f1 ∧ atR ax c.f1 + bC ax c.f1 ≤ 10000 := by
  unfold bC atR
  rcases hax with rfl | rfl
  ·simp only [if_true]; omega
  ·simp only [show ¬ ((2 : Int) = 1) by decide, if_false, if_true]; omega
 generalize atR ax c.f1 = at_ at *
 generalize bC ax c.f1 = s at *
 generalize dF ax c = l at *
 unfold wJ
 rw [hw1, he, hg.1, show wrap64 (10000 - (at_ + s)) = 10000 - (at_ + s) by unfold wrap64; omega]
 by_cases h1 : b > 10000
 ·rw [decide_eq_true h1, decide_eq_true (show b > 10000 - (at_ + s) by omega)]; simp
 ·by_cases h2 : b < -10000
  ·rw [decide_eq_true h2, decide_eq_true (show b < -(s - l) by omega)]; simp
  ·rw [decide_eq_false h1, decide_eq_false h2, show wrap64 (wrap64 (at_ + s) + b) = at_ + s + b by unfold wrap64; omega, show wrap64 (s + b) = s + b by unfold wrap64; omega]
   simp only [Bool.false_or]
   rw [Bool.or_comm]
   congr 1
   ·exact decide_eq_decide.2 (by omega)
   ·exact decide_eq_decide.2 (by omega)
theorem wY (ax : Int) (c : ai) (hz : sz c ≤ 1048576) (bg : Int) (P : Nat → Prop) (A : Option Addr) (cc : Nat) (w : World) (hv : Kd.V k26 26 w w.heap.size P (.slice A c.f3.length cc) c.f3) :
  Calls Try.prog 184 #[.agg #[.int .u8 c.f0, .int .i64 c.f1.f0, .int .i64 c.f1.f1, .int .i64 c.f1.f2, .int .i64 c.f1.f3, .int .i64 c.f2, .slice A c.f3.length cc], .int .u8 ax, .int .i64 bg] w (yu w P (aZ ax c bg) (aN ax c bg)) := by
 have S := ae.mk (St.start (ts := [(.slice A c.f3.length cc, c.f3)]) (b0 := w.heap.size) (w := w) (P := P) (fun t ht => by rw [List.mem_singleton.1 ht]; exact hv))
 have HZ := ae.mk hz
 have hO := fun h1 h2 => @adZ ax c bg h1 h2
 obtain ⟨ck, ⟨cx, cy, cw, ch⟩, aj, l⟩ := c
 simp only [] at S hO
 clear hv hz
 cases ht : fB ⟨ck, ⟨cx, cy, cw, ch⟩, aj, l⟩ with
 | false =>
  have HT := ae.mk ht
  have HB := ae.mk (show qi ax ⟨ck, ⟨cx, cy, cw, ch⟩, aj, l⟩ = true by unfold qi; rw [ht]; rfl)
  clear ht hO
  go_enter Try.func184, Try.ntmps184
  go_wp2_with (first
   | ((with_reducible refine az 3 rfl ?_); refine boxS 3 #[.int .u8 ck, .int .i64 cx, .int .i64 cy, .int .i64 cw, .int .i64 ch, .int .i64 aj, .slice A l.length cc] 26 S ?_; clear S; intro b3 fF S)
   | ((with_reducible refine az 6 rfl ?_); refine boxS 6 #[.int .u8 0, .int .i64 0, .int .i64 0, .int .i64 0, .int .i64 0, .int .i64 0, .slice none 0 0] 26 S ?_; clear S; intro b6 iw S; obtain ⟨bT, bU, bV, bW, eG, fO, dH⟩ := St.iJ S (.tail _ (.head _)))
   | ((with_reducible refine az 11 rfl ?_); refine dN (some 11) Try.func84 S (qh HT.out (vk ⟨ck, ⟨cx, cy, cw, ch⟩, aj, l⟩ HZ.out (S.out.tree _ (.head _)))) ?_; clear S; intro jT S; clear bT bU bV bW eG fO dH)
   | ((with_reducible refine fP 26 (.tmp 6) (.tmp 21) rfl ?_); refine kD 26 6 21 #[.int .u8 0, .int .i64 0, .int .i64 0, .int .i64 0, .int .i64 0, .int .i64 0, .slice none 0 0] 0 7 S ?_; clear S; intro lQ S)
   | fail)
  refine bodyPost_ret (gJ rfl _ _ b6 26 #[.int .u8 0, .int .i64 0, .int .i64 0, .int .i64 0, .int .i64 0, .int .i64 0, .slice none 0 0] (0, 0) _ rfl (S.out.blk _ (.head _) _ rfl) Try.underlying26 rfl (by kernel_rfl)) rfl ?_
  rw [show aN ax ⟨ck, ⟨cx, cy, cw, ch⟩, aj, l⟩ bg = 1 by unfold aN; rw [if_pos HB.out], show aZ ax ⟨ck, ⟨cx, cy, cw, ch⟩, aj, l⟩ bg = z26 by unfold aZ; rw [if_pos HB.out]]
  exact ⟨_, _, rfl, Kd.qm _ _ _ _ _, S.out.below⟩
 | true =>
  have HT := ae.mk ht
  by_cases h1 : ax < 1
  ·have h1b : decide (ax < 1) = true := decide_eq_true h1
   have HB := ae.mk (show qi ax ⟨ck, ⟨cx, cy, cw, ch⟩, aj, l⟩ = true by unfold qi; rw [ht, show (ax != 1) = true from bne_iff_ne.mpr (by omega), show (ax != 2) = true from bne_iff_ne.mpr (by omega)]; rfl)
   clear ht hO h1
   go_enter Try.func184, Try.ntmps184
   go_wp2_with (first
    | ((with_reducible refine az 3 rfl ?_); refine boxS 3 #[.int .u8 ck, .int .i64 cx, .int .i64 cy, .int .i64 cw, .int .i64 ch, .int .i64 aj, .slice A l.length cc] 26 S ?_; clear S; intro b3 fF S)
    | ((with_reducible refine az 6 rfl ?_); refine boxS 6 #[.int .u8 0, .int .i64 0, .int .i64 0, .int .i64 0, .int .i64 0, .int .i64 0, .slice none 0 0] 26 S ?_; clear S; intro b6 iw S; obtain ⟨bT, bU, bV, bW, eG, fO, dH⟩ := St.iJ S (.tail _ (.head _)))
    | ((with_reducible refine az 11 rfl ?_); refine dN (some 11) Try.func84 S (qh HT.out (vk ⟨ck, ⟨cx, cy, cw, ch⟩, aj, l⟩ HZ.out (S.out.tree _ (.head _)))) ?_; clear S; intro jT S; clear bT bU bV bW eG fO dH)
    | ((with_reducible refine fP 26 (.tmp 6) (.tmp 21) rfl ?_); refine kD 26 6 21 #[.int .u8 0, .int .i64 0, .int .i64 0, .int .i64 0, .int .i64 0, .int .i64 0, .slice none 0 0] 0 7 S ?_; clear S; intro lQ S)
    | fail)
   refine bodyPost_ret (gJ rfl _ _ b6 26 #[.int .u8 0, .int .i64 0, .int .i64 0, .int .i64 0, .int .i64 0, .int .i64 0, .slice none 0 0] (0, 0) _ rfl (S.out.blk _ (.head _) _ rfl) Try.underlying26 rfl (by kernel_rfl)) rfl ?_
   rw [show aN ax ⟨ck, ⟨cx, cy, cw, ch⟩, aj, l⟩ bg = 1 by unfold aN; rw [if_pos HB.out], show aZ ax ⟨ck, ⟨cx, cy, cw, ch⟩, aj, l⟩ bg = z26 by unfold aZ; rw [if_pos HB.out]]
   exact ⟨_, _, rfl, Kd.qm _ _ _ _ _, S.out.below⟩
  ·by_cases h2 : ax > 2
   ·have h1b : decide (ax < 1) = false := decide_eq_false h1
    have h2b : decide (ax > 2) = true := decide_eq_true h2
    have h2c : decide (2 < ax) = true := decide_eq_true h2
    have HB := ae.mk (show qi ax ⟨ck, ⟨cx, cy, cw, ch⟩, aj, l⟩ = true by unfold qi; rw [ht, show (ax != 1) = true from bne_iff_ne.mpr (by omega), show (ax != 2) = true from bne_iff_ne.mpr (by omega)]; rfl)
    clear ht hO h1 h2
    go_enter Try.func184, Try.ntmps184
    go_wp2_with (first
     | ((with_reducible refine az 3 rfl ?_); refine boxS 3 #[.int .u8 ck, .int .i64 cx, .int .i64 cy, .int .i64 cw, .int .i64 ch, .int .i64 aj, .slice A l.length cc] 26 S ?_; clear S; intro b3 fF S)
     | ((with_reducible refine az 6 rfl ?_); refine boxS 6 #[.int .u8 0, .int .i64 0, .int .i64 0, .int .i64 0, .int .i64 0, .int .i64 0, .slice none 0 0] 26 S ?_; clear S; intro b6 iw S; obtain ⟨bT, bU, bV, bW, eG, fO, dH⟩ := St.iJ S (.tail _ (.head _)))
     | ((with_reducible refine az 11 rfl ?_); refine dN (some 11) Try.func84 S (qh HT.out (vk ⟨ck, ⟨cx, cy, cw, ch⟩, aj, l⟩ HZ.out (S.out.tree _ (.head _)))) ?_; clear S; intro jT S; clear bT bU bV bW eG fO dH)
     | ((with_reducible refine fP 26 (.tmp 6) (.tmp 21) rfl ?_); refine kD 26 6 21 #[.int .u8 0, .int .i64 0, .int .i64 0, .int .i64 0, .int .i64 0, .int .i64 0, .slice none 0 0] 0 7 S ?_; clear S; intro lQ S)
     | fail)
    refine bodyPost_ret (gJ rfl _ _ b6 26 #[.int .u8 0, .int .i64 0, .int .i64 0, .int .i64 0, .int .i64 0, .int .i64 0, .slice none 0 0] (0, 0) _ rfl (S.out.blk _ (.head _) _ rfl) Try.underlying26 rfl (by kernel_rfl)) rfl ?_
    rw [show aN ax ⟨ck, ⟨cx, cy, cw, ch⟩, aj, l⟩ bg = 1 by unfold aN; rw [if_pos HB.out], show aZ ax ⟨ck, ⟨cx, cy, cw, ch⟩, aj, l⟩ bg = z26 by unfold aZ; rw [if_pos HB.out]]
    exact ⟨_, _, rfl, Kd.qm _ _ _ _ _, S.out.below⟩
   ·have hax : ax = 1 ∨ ax = 2 := by omega
    have tH := ae.mk hax
    have hO2 := hO ht hax
    have HB := ae.mk (show qi ax ⟨ck, ⟨cx, cy, cw, ch⟩, aj, l⟩ = false by unfold qi; rw [ht]; rcases hax with rfl | rfl <;> rfl)
    have h1b : decide (ax < 1) = false := decide_eq_false h1
    have h2b : decide (ax > 2) = false := decide_eq_false h2
    have h2c : decide (2 < ax) = false := decide_eq_false h2
    have hfit := fun h => @ZQ ax ⟨ck, ⟨cx, cy, cw, ch⟩, aj, l⟩ bg HB.out h
    have tK := ae.mk hO2
    have Zr := ae.mk hfit
    clear ht hax h1 h2 hO hO2 hfit
    go_enter Try.func184, Try.ntmps184
    go_upto_if 30 with (first
     | ((with_reducible refine az 3 rfl ?_); refine boxS 3 #[.int .u8 ck, .int .i64 cx, .int .i64 cy, .int .i64 cw, .int .i64 ch, .int .i64 aj, .slice A l.length cc] 26 S ?_; clear S; intro b3 fF S)
     | ((with_reducible refine az 6 rfl ?_); refine boxS 6 #[.int .u8 0, .int .i64 0, .int .i64 0, .int .i64 0, .int .i64 0, .int .i64 0, .slice none 0 0] 26 S ?_; clear S; intro b6 iw S; obtain ⟨bT, bU, bV, bW, eG, fO, dH⟩ := St.iJ S (.tail _ (.head _)))
     | ((with_reducible refine az 11 rfl ?_); refine dN (some 11) Try.func84 S (qh HT.out (vk ⟨ck, ⟨cx, cy, cw, ch⟩, aj, l⟩ HZ.out (S.out.tree _ (.head _)))) ?_; clear S; intro jT S; clear bT bU bV bW eG fO dH; have bU := (S.out.at (.tail _ (.head _)) 1).trans rfl; have bV := (S.out.at (.tail _ (.head _)) 2).trans rfl; have bW := (S.out.at (.tail _ (.head _)) 3).trans rfl; have eG := (S.out.at (.tail _ (.head _)) 4).trans rfl)
     | ((with_reducible refine az 25 rfl ?_); refine dN (some 25) Try.func87 S (u_ ⟨cx, cy, cw, ch⟩ ax) ?_; clear S; intro lQ S; clear bU bV bW eG; have bU := (S.out.at (.tail _ (.head _)) 1).trans rfl)
     | fail)
    clear bU
    (try simp only [Act.put, List.setIfInBounds_toArray, List.set_cons_zero, List.set_cons_succ])
    go_cut [9] (fun v9 wc => v9 = .int .i64 (atR ax ⟨cx, cy, cw, ch⟩) ∧ ae (St w P [(some b6, .cells #[.int .u8 0, .int .i64 0, .int .i64 0, .int .i64 0, .int .i64 0, .int .i64 0, .slice none 0 0] 26 (0, 0)), (some b3, .cells #[.int .u8 ck, .int .i64 cx, .int .i64 cy, .int .i64 cw, .int .i64 ch, .int .i64 aj, .slice A l.length cc] 26 (0, 0))] [] [(.slice A l.length cc, l)] [] wc))
    case first =>
     by_cases hx : ax = 1
     ·have hxb : (ax == 2) = false := by rw [hx]; rfl
      have HX := ae.mk hx
      clear hx
      go_wp2
      go_meet
      case rel => exact ⟨by unfold atR; rw [if_pos HX.out], S⟩
     ·have hxb : (ax == 2) = true := by rw [show ax = 2 from tH.out.resolve_left hx]; rfl
      have HX := ae.mk hx
      clear hx
      have bV := (S.out.at (.tail _ (.head _)) 2).trans rfl
      go_wp2
      clear bV
      go_meet
      case rel => exact ⟨by unfold atR; rw [if_neg HX.out], S⟩
    case rest =>
     clear S
     obtain ⟨rfl, S⟩ := hcut
     rename World => wx
     have hO2 := tK.out
     have hfit := Zr.out
     clear tK Zr
     by_cases h4 : bg > 10000
     ·have hO3 := hO2
      rw [decide_eq_true h4, Bool.true_or] at hO3
      have Ba : decide (bg > 10000) = true := decide_eq_true h4
      have h4c : decide (10000 < bg) = true := decide_eq_true h4
      clear h4 hO2
      have HO := ae.mk hO3
      clear hO3 hfit
      go_wp2_with (first
       | ((with_reducible refine fP 26 (.tmp 6) (.tmp 57) rfl ?_); refine kD 26 6 57 #[.int .u8 0, .int .i64 0, .int .i64 0, .int .i64 0, .int .i64 0, .int .i64 0, .slice none 0 0] 0 7 S ?_; clear S; intro fF S)
       | fail)
      refine bodyPost_ret (gJ rfl _ _ b6 26 #[.int .u8 0, .int .i64 0, .int .i64 0, .int .i64 0, .int .i64 0, .int .i64 0, .slice none 0 0] (0, 0) _ rfl (S.out.blk _ (.head _) _ rfl) Try.underlying26 rfl (by kernel_rfl)) rfl ?_
      rw [show aN ax ⟨ck, ⟨cx, cy, cw, ch⟩, aj, l⟩ bg = 7 by unfold aN; rw [if_neg (by rw [HB.out]; simp), if_pos HO.out], show aZ ax ⟨ck, ⟨cx, cy, cw, ch⟩, aj, l⟩ bg = z26 by unfold aZ; rw [if_neg (by rw [HB.out]; simp), if_pos HO.out]]
      exact ⟨_, _, rfl, Kd.qm _ _ _ _ _, S.out.below⟩
     ·rw [decide_eq_false h4, Bool.false_or] at hO2
      have Ba : decide (bg > 10000) = false := decide_eq_false h4
      have h4c : decide (10000 < bg) = false := decide_eq_false h4
      by_cases h5 : bg < -10000
      ·have hO3 := hO2
       rw [decide_eq_true h5, Bool.true_or] at hO3
       have EK : decide (bg < -10000) = true := decide_eq_true h5
       clear h4 h5 hO2
       have HO := ae.mk hO3
       clear hO3 hfit
       go_wp2_with (first
        | ((with_reducible refine fP 26 (.tmp 6) (.tmp 57) rfl ?_); refine kD 26 6 57 #[.int .u8 0, .int .i64 0, .int .i64 0, .int .i64 0, .int .i64 0, .int .i64 0, .slice none 0 0] 0 7 S ?_; clear S; intro fF S)
        | fail)
       refine bodyPost_ret (gJ rfl _ _ b6 26 #[.int .u8 0, .int .i64 0, .int .i64 0, .int .i64 0, .int .i64 0, .int .i64 0, .slice none 0 0] (0, 0) _ rfl (S.out.blk _ (.head _) _ rfl) Try.underlying26 rfl (by kernel_rfl)) rfl ?_
       rw [show aN ax ⟨ck, ⟨cx, cy, cw, ch⟩, aj, l⟩ bg = 7 by unfold aN; rw [if_neg (by rw [HB.out]; simp), if_pos HO.out], show aZ ax ⟨ck, ⟨cx, cy, cw, ch⟩, aj, l⟩ bg = z26 by unfold aZ; rw [if_neg (by rw [HB.out]; simp), if_pos HO.out]]
       exact ⟨_, _, rfl, Kd.qm _ _ _ _ _, S.out.below⟩
      ·rw [decide_eq_false h5, Bool.false_or] at hO2
       have EK : decide (bg < -10000) = false := decide_eq_false h5
       by_cases h6 : wrap64 (wrap64 ((atR ax ⟨cx, cy, cw, ch⟩) + bC ax ⟨cx, cy, cw, ch⟩) + bg) > 10000
       ·have hO3 := hO2
        rw [decide_eq_true h6, Bool.true_or] at hO3
        have Qg : decide (wrap64 (wrap64 ((atR ax ⟨cx, cy, cw, ch⟩) + bC ax ⟨cx, cy, cw, ch⟩) + bg) > 10000) = true := decide_eq_true h6
        have h6c : decide (10000 < wrap64 (wrap64 ((atR ax ⟨cx, cy, cw, ch⟩) + bC ax ⟨cx, cy, cw, ch⟩) + bg)) = true := decide_eq_true h6
        clear h4 h5 h6 hO2
        have HO := ae.mk hO3
        clear hO3 hfit
        go_wp2_with (first
         | ((with_reducible refine fP 26 (.tmp 6) (.tmp 57) rfl ?_); refine kD 26 6 57 #[.int .u8 0, .int .i64 0, .int .i64 0, .int .i64 0, .int .i64 0, .int .i64 0, .slice none 0 0] 0 7 S ?_; clear S; intro fF S)
         | fail)
        refine bodyPost_ret (gJ rfl _ _ b6 26 #[.int .u8 0, .int .i64 0, .int .i64 0, .int .i64 0, .int .i64 0, .int .i64 0, .slice none 0 0] (0, 0) _ rfl (S.out.blk _ (.head _) _ rfl) Try.underlying26 rfl (by kernel_rfl)) rfl ?_
        rw [show aN ax ⟨ck, ⟨cx, cy, cw, ch⟩, aj, l⟩ bg = 7 by unfold aN; rw [if_neg (by rw [HB.out]; simp), if_pos HO.out], show aZ ax ⟨ck, ⟨cx, cy, cw, ch⟩, aj, l⟩ bg = z26 by unfold aZ; rw [if_neg (by rw [HB.out]; simp), if_pos HO.out]]
        exact ⟨_, _, rfl, Kd.qm _ _ _ _ _, S.out.below⟩
       ·rw [decide_eq_false h6, Bool.false_or] at hO2
        have Qg : decide (wrap64 (wrap64 ((atR ax ⟨cx, cy, cw, ch⟩) + bC ax ⟨cx, cy, cw, ch⟩) + bg) > 10000) = false := decide_eq_false h6
        have h6c : decide (10000 < wrap64 (wrap64 ((atR ax ⟨cx, cy, cw, ch⟩) + bC ax ⟨cx, cy, cw, ch⟩) + bg)) = false := decide_eq_false h6
        by_cases h7 : wrap64 (bC ax ⟨cx, cy, cw, ch⟩ + bg) < dF ax ⟨ck, ⟨cx, cy, cw, ch⟩, aj, l⟩
        ·have hO3 := hO2
         rw [decide_eq_true h7] at hO3
         have h7b : decide (wrap64 (bC ax ⟨cx, cy, cw, ch⟩ + bg) < dF ax ⟨ck, ⟨cx, cy, cw, ch⟩, aj, l⟩) = true := decide_eq_true h7
         clear h4 h5 h6 h7 hO2
         have HO := ae.mk hO3
         clear hO3 hfit
         obtain ⟨bT, bU, bV, bW, eG, fO, dH⟩ := St.iJ S (.tail _ (.head _))
         go_wp2_with (first
          | ((with_reducible refine az 54 rfl ?_); (refine fQ (by rfl) ?_; dsimp only); refine dN (some 54) Try.func152 S (OU ⟨ck, ⟨cx, cy, cw, ch⟩, aj, l⟩ ax HZ.out HT.out (S.out.tree _ (.head _))) ?_; clear S; intro fF S; clear bT bU bV bW eG fO dH)
          | ((with_reducible refine fP 26 (.tmp 6) (.tmp 57) rfl ?_); refine kD 26 6 57 #[.int .u8 0, .int .i64 0, .int .i64 0, .int .i64 0, .int .i64 0, .int .i64 0, .slice none 0 0] 0 7 S ?_; clear S; intro iw S)
          | fail)
         refine bodyPost_ret (gJ rfl _ _ b6 26 #[.int .u8 0, .int .i64 0, .int .i64 0, .int .i64 0, .int .i64 0, .int .i64 0, .slice none 0 0] (0, 0) _ rfl (S.out.blk _ (.head _) _ rfl) Try.underlying26 rfl (by kernel_rfl)) rfl ?_
         rw [show aN ax ⟨ck, ⟨cx, cy, cw, ch⟩, aj, l⟩ bg = 7 by unfold aN; rw [if_neg (by rw [HB.out]; simp), if_pos HO.out], show aZ ax ⟨ck, ⟨cx, cy, cw, ch⟩, aj, l⟩ bg = z26 by unfold aZ; rw [if_neg (by rw [HB.out]; simp), if_pos HO.out]]
         exact ⟨_, _, rfl, Kd.qm _ _ _ _ _, S.out.below⟩
        ·rw [decide_eq_false h7] at hO2
         have h7b : decide (wrap64 (bC ax ⟨cx, cy, cw, ch⟩ + bg) < dF ax ⟨ck, ⟨cx, cy, cw, ch⟩, aj, l⟩) = false := decide_eq_false h7
         have HO := ae.mk hO2
         have hf := hfit hO2
         have HZ2 := ae.mk (show sz ⟨ck, ⟨cx, cy, cw, ch⟩, aj, l⟩ ≤ 100000 by omega)
         have HZ3 := ae.mk (show sz (dD ax ⟨ck, ⟨cx, cy, cw, ch⟩, aj, l⟩ bg) ≤ 1000000 by rw [(Jh ax _).1 _ (Nat.le_refl _)]; omega)
         have Zo := ae.mk (show -100000 ≤ bg ∧ bg ≤ 100000 by omega)
         clear hf hfit h4 h5 h6 h7 hO2
         obtain ⟨bT, bU, bV, bW, eG, fO, dH⟩ := St.iJ S (.tail _ (.head _))
         go_wp2_with (first
          | ((with_reducible refine az 54 rfl ?_); (refine fQ (by rfl) ?_; dsimp only); refine dN (some 54) Try.func152 S (OU ⟨ck, ⟨cx, cy, cw, ch⟩, aj, l⟩ ax HZ.out HT.out (S.out.tree _ (.head _))) ?_; clear S; intro fF S; clear bT bU bV bW eG fO dH)
          | fail)
         refine jA (n := 13) (S := fun w' => St w _ _ _ _ _ w') (ds := [11]) (bA 13 0) (by kernel_rfl) rfl rfl (S.out.call (bF (Below.refl _ _))) (fun hHeld => ?_); refine f_ wC.O3 wC.Iq (fun au eF => ?_)
         replace S := ae.mk (S.out.call (bF (Below.refl _ _)))
         generalize fF.drew = wd2 at S hHeld ⊢
         refine dJ 0 58 (bA 13 1) au eF hHeld ?_ (hv := by intro w' hs_; have bT := (hs_.at (.tail _ (.head _)) 0).trans rfl; have bU := (hs_.at (.tail _ (.head _)) 1).trans rfl; have bV := (hs_.at (.tail _ (.head _)) 2).trans rfl; have bW := (hs_.at (.tail _ (.head _)) 3).trans rfl; have eG := (hs_.at (.tail _ (.head _)) 4).trans rfl; have fO := (hs_.at (.tail _ (.head _)) 5).trans rfl; have dH := (hs_.at (.tail _ (.head _)) 6).trans rfl; go_simp; with_reducible rfl)
         refine aG 1 59 (bA 13 3) au ?_
         refine aG 2 60 (bA 13 7) au ?_
         refine aG 4 62 (bA 13 23) au ?_
         refine aG 5 63 (bA 13 55) au ?_
         refine dJ 6 64 (bA 13 119) au eF hHeld ?_ (hv := by intro w' hs_; have bU := (hs_.at (.tail _ (.head _)) 1).trans rfl; go_simp; with_reducible rfl)
         refine aG 7 65 (bA 13 247) au ?_
         refine aG 8 66 (bA 13 503) au ?_
         refine dJ 9 67 (bA 13 1015) au eF hHeld ?_ (hv := by intro w' hs_; have bV := (hs_.at (.tail _ (.head _)) 2).trans rfl; go_simp; with_reducible rfl)
         refine gZ (i := 3) (N := some 61) (bA 13 1023) rfl rfl (dG au.out (by kernel_rfl)) (by decide) (fun K hK => ?_)
         refine fM Try.func200 (by kernel_rfl) rfl #[.agg #[.int .u8 ck, .int .i64 cx, .int .i64 cy, .int .i64 cw, .int .i64 ch, .int .i64 aj, .slice A l.length cc], .int .u8 ax, .int .i64 bg] (by rfl) rfl rfl (by (try simp only [List.map_toArray, List.map_cons, List.map_nil]); first | done | rfl) ?_
         refine (YF ax tH.out 100000 ⟨ck, ⟨cx, cy, cw, ch⟩, aj, l⟩ HZ2.out (Nat.le_refl _) HT.out bg Zo.out _ A cc _ (fK (S.out.tree _ (.head _)))).mono ?_
         rintro e jT ⟨A61, aeT, rfl, h1, hb⟩
         refine ⟨_, rfl, ?_⟩
         replace S := ae.mk (S.out.res (Kd.rG (base' := 0) h1) hb)
         clear h1 hb
         refine hK.out _ _ S.out.bH (fun hHeld => ?_)
         clear hK K
         refine ed 61 ?_
         refine gZ (i := 10) (N := some 68) (bA 13 2047) rfl rfl (dG au.out (by kernel_rfl)) (by decide) (fun K hK => ?_)
         refine fM Try.func67 (by kernel_rfl) rfl #[.agg #[.int .u8 ((dD ax ⟨ck, ⟨cx, cy, cw, ch⟩, aj, l⟩ bg).f0), .int .i64 ((dD ax ⟨ck, ⟨cx, cy, cw, ch⟩, aj, l⟩ bg).f1.f0), .int .i64 ((dD ax ⟨ck, ⟨cx, cy, cw, ch⟩, aj, l⟩ bg).f1.f1), .int .i64 ((dD ax ⟨ck, ⟨cx, cy, cw, ch⟩, aj, l⟩ bg).f1.f2), .int .i64 ((dD ax ⟨ck, ⟨cx, cy, cw, ch⟩, aj, l⟩ bg).f1.f3), .int .i64 ((dD ax ⟨ck, ⟨cx, cy, cw, ch⟩, aj, l⟩ bg).f2), .slice A61 ((dD ax ⟨ck, ⟨cx, cy, cw, ch⟩, aj, l⟩ bg).f3.length) aeT], .int .i64 cx, .int .i64 cy] (by rfl) rfl rfl (by (try simp only [List.map_toArray, List.map_cons, List.map_nil]); first | done | rfl) ?_
         refine (EW (dD ax ⟨ck, ⟨cx, cy, cw, ch⟩, aj, l⟩ bg) cx cy HZ3.out (S.out.tree _ (.head _))).mono ?_
         rintro e lQ ⟨Vj, NZ, rfl, h1, hb⟩
         refine ⟨_, rfl, ?_⟩
         replace S := ae.mk (S.out.Gq h1 hb)
         clear h1 hb
         refine hK.out _ _ S.out.free.bH.bH (fun hHeld => ?_)
         clear hK K
         refine ed 68 ?_
         refine qX (i := 11) (N := none) (bA 13 4095) rfl rfl (dG au.out (by kernel_rfl)) (by decide) (fun K hK => ?_)
         refine xk 0 rfl 26 (.tmp 6) (.tmp 68) rfl #[.int .u8 ((aQ (dD ax ⟨ck, ⟨cx, cy, cw, ch⟩, aj, l⟩ bg) cx cy).f0), .int .i64 ((aQ (dD ax ⟨ck, ⟨cx, cy, cw, ch⟩, aj, l⟩ bg) cx cy).f1.f0), .int .i64 ((aQ (dD ax ⟨ck, ⟨cx, cy, cw, ch⟩, aj, l⟩ bg) cx cy).f1.f1), .int .i64 ((aQ (dD ax ⟨ck, ⟨cx, cy, cw, ch⟩, aj, l⟩ bg) cx cy).f1.f2), .int .i64 ((aQ (dD ax ⟨ck, ⟨cx, cy, cw, ch⟩, aj, l⟩ bg) cx cy).f1.f3), .int .i64 ((aQ (dD ax ⟨ck, ⟨cx, cy, cw, ch⟩, aj, l⟩ bg) cx cy).f2), .slice Vj ((aQ (dD ax ⟨ck, ⟨cx, cy, cw, ch⟩, aj, l⟩ bg) cx cy).f3.length) NZ] (j := 0) (u := .agg #[.int .u8 ((aQ (dD ax ⟨ck, ⟨cx, cy, cw, ch⟩, aj, l⟩ bg) cx cy).f0), .int .i64 ((aQ (dD ax ⟨ck, ⟨cx, cy, cw, ch⟩, aj, l⟩ bg) cx cy).f1.f0), .int .i64 ((aQ (dD ax ⟨ck, ⟨cx, cy, cw, ch⟩, aj, l⟩ bg) cx cy).f1.f1), .int .i64 ((aQ (dD ax ⟨ck, ⟨cx, cy, cw, ch⟩, aj, l⟩ bg) cx cy).f1.f2), .int .i64 ((aQ (dD ax ⟨ck, ⟨cx, cy, cw, ch⟩, aj, l⟩ bg) cx cy).f1.f3), .int .i64 ((aQ (dD ax ⟨ck, ⟨cx, cy, cw, ch⟩, aj, l⟩ bg) cx cy).f2), .slice Vj ((aQ (dD ax ⟨ck, ⟨cx, cy, cw, ch⟩, aj, l⟩ bg) cx cy).f3.length) NZ]) (bI := [.int .u8 ((aQ (dD ax ⟨ck, ⟨cx, cy, cw, ch⟩, aj, l⟩ bg) cx cy).f0), .int .i64 ((aQ (dD ax ⟨ck, ⟨cx, cy, cw, ch⟩, aj, l⟩ bg) cx cy).f1.f0), .int .i64 ((aQ (dD ax ⟨ck, ⟨cx, cy, cw, ch⟩, aj, l⟩ bg) cx cy).f1.f1), .int .i64 ((aQ (dD ax ⟨ck, ⟨cx, cy, cw, ch⟩, aj, l⟩ bg) cx cy).f1.f2), .int .i64 ((aQ (dD ax ⟨ck, ⟨cx, cy, cw, ch⟩, aj, l⟩ bg) cx cy).f1.f3), .int .i64 ((aQ (dD ax ⟨ck, ⟨cx, cy, cw, ch⟩, aj, l⟩ bg) cx cy).f2), .slice Vj ((aQ (dD ax ⟨ck, ⟨cx, cy, cw, ch⟩, aj, l⟩ bg) cx cy).f3.length) NZ]) S.out (by rfl) rfl rfl rfl rfl (by kernel_rfl) (by simp [Value.oneCell']) (by first | decide | simp) rfl ?_
         intro tC S1
         simp only [List.set_cons_zero, List.set_cons_succ] at S1
         replace S := ae.mk S1
         clear S1
         refine hK.out _ _ ?_
         clear hK K
         refine aG 12 7 (bA 13 8191) au ?_
         refine kG (iK au.out (by kernel_rfl)) ?_
         clear hHeld
         go_wp2
         refine bodyPost_ret (gJ rfl _ _ b6 26 #[.int .u8 ((aQ (dD ax ⟨ck, ⟨cx, cy, cw, ch⟩, aj, l⟩ bg) cx cy).f0), .int .i64 ((aQ (dD ax ⟨ck, ⟨cx, cy, cw, ch⟩, aj, l⟩ bg) cx cy).f1.f0), .int .i64 ((aQ (dD ax ⟨ck, ⟨cx, cy, cw, ch⟩, aj, l⟩ bg) cx cy).f1.f1), .int .i64 ((aQ (dD ax ⟨ck, ⟨cx, cy, cw, ch⟩, aj, l⟩ bg) cx cy).f1.f2), .int .i64 ((aQ (dD ax ⟨ck, ⟨cx, cy, cw, ch⟩, aj, l⟩ bg) cx cy).f1.f3), .int .i64 ((aQ (dD ax ⟨ck, ⟨cx, cy, cw, ch⟩, aj, l⟩ bg) cx cy).f2), .slice Vj ((aQ (dD ax ⟨ck, ⟨cx, cy, cw, ch⟩, aj, l⟩ bg) cx cy).f3.length) NZ] (0, 0) _ rfl (S.out.blk _ (.head _) _ rfl) Try.underlying26 rfl (by kernel_rfl)) rfl ?_
         rw [show aN ax ⟨ck, ⟨cx, cy, cw, ch⟩, aj, l⟩ bg = 0 by unfold aN; rw [if_neg (by rw [HB.out]; simp), if_neg (by rw [HO.out]; simp)], show aZ ax ⟨ck, ⟨cx, cy, cw, ch⟩, aj, l⟩ bg = aQ (dD ax ⟨ck, ⟨cx, cy, cw, ch⟩, aj, l⟩ bg) cx cy by unfold aZ; rw [if_neg (by rw [HB.out]; simp), if_neg (by rw [HO.out]; simp)]]
         exact ⟨_, _, rfl, S.out.uY, S.out.below⟩
def rW.T5 : Bool × List (List Nat × List Nat) := (true, [([], []), ([0], [0]), ([], []), ([1, 2], [1, 2]), ([], []), ([4], [4]), ([5], [5]), ([3, 6, 3], [3, 6]), ([7], [7]), ([8], [8]), ([8], [8]), ([9, 7, 0, 1, 2, 3, 4, 5, 6, 7, 8, 9], [9]), ([10, 11, 0, 1, 2, 3, 4, 5, 6, 7, 8, 9, 10, 11], [10])])
def rW.B5 : List Nat := [0, 1, 0, 7, 0, 16, 48, 127, 255, 511, 511, 1023, 4095]
theorem rW.O1 : iP .any (opsOf Try.f156 5) = rW.T5 := by kernel_rfl
theorem rW.Ip : iL rW.T5.2 rW.B5 = true := by kernel_rfl
def sZ.T11 : Bool × List (List Nat × List Nat) := (true, [([], []), ([0], [0]), ([], []), ([1, 2], [1, 2]), ([3], [3]), ([4], [4]), ([], []), ([], []), ([], []), ([7, 8], [7, 8]), ([9], [9]), ([], []), ([11], [11]), ([], []), ([12, 13], [12, 13]), ([14], [14]), ([15], [15]), ([], []), ([16, 17, 5], [16, 17]), ([10, 18], [10, 18]), ([5, 6, 19, 18], [5, 6, 19]), ([20], [20]), ([21], [21]), ([21], [21]), ([], []), ([24, 22, 20, 0, 1, 2, 3, 4, 5, 6, 7, 8, 9, 10, 11, 12, 13, 14, 15, 16, 17, 18, 19, 20, 21, 22, 24], [22, 24]), ([23, 25, 0, 1, 2, 3, 4, 5, 6, 7, 8, 9, 10, 11, 12, 13, 14, 15, 16, 17, 18, 19, 20, 21, 22, 23, 24, 25], [23])])
def sZ.B11 : List Nat := [0, 1, 0, 7, 15, 31, 0, 0, 0, 384, 896, 0, 2048, 0, 14336, 30720, 63488, 0, 260159, 524223, 1048575, 2097151, 4194303, 4194303, 0, 25165823, 67108863]
theorem sZ.O0 : iP .any (opsOf Try.f156 11) = sZ.T11 := by kernel_rfl
theorem sZ.Jl : iL sZ.T11.2 sZ.B11 = true := by kernel_rfl
theorem Ac {ax n m : Int} {k : ai} {args : Array Value} {W : World} {P : Nat → Prop} (h : n = m) (hc : Calls Try.prog 184 args W (yu W P (aZ ax (aQ k 0 0) (wrap64 (n - bC ax k.f1))) (aN ax (aQ k 0 0) (wrap64 (n - bC ax k.f1))))) : Calls Try.prog 184 args W (yu W P (cO ax k m) (pF ax k m)) := by
 subst h
 exact hc
theorem QW (ax : Int) (ns : Nat → Int) (k : ai) (l : List ai) : jv ax ns 0 (l ++ [k]) = jv ax ns 0 l ++ [cO ax k (ns l.length)] := by rw [EM, Nat.zero_add]
theorem CG (k : Int) : (k - 1) % 256 = zg k := by unfold zg; omega
theorem UO (c : ai) (hz : sz c ≤ 100000) (P : Nat → Prop) (A : Option Addr) (cc : Nat) (w : World) (hv : Kd.V k26 26 w w.heap.size P (.slice A c.f3.length cc) c.f3) :
  Calls Try.prog 156 #[.agg #[.int .u8 c.f0, .int .i64 c.f1.f0, .int .i64 c.f1.f1, .int .i64 c.f1.f2, .int .i64 c.f1.f3, .int .i64 c.f2, .slice A c.f3.length cc]] w (SV w P (jI c).1 (jI c).2) := by
 have S := ae.mk (St.start (ts := [(.slice A c.f3.length cc, c.f3)]) (b0 := w.heap.size) (w := w) (P := P) (fun t ht => by rw [List.mem_singleton.1 ht]; exact hv))
 have hsz := dR c
 have hlen := jJ c.f3
 have gy := ae.mk (show c.f3.length ≤ 1000000 by omega)
 have DD := ae.mk fun (k : ai) (hk : k ∈ c.f3) => (show sz k ≤ 1000000 by have := qg hk; omega)
 obtain ⟨ck, ⟨cx, cy, cw, ch⟩, aj, l⟩ := c
 simp only [] at S gy DD
 clear hv hz hsz hlen
 by_cases hk : ck = 1
 ·have hkb : (ck == 1) = true := beq_iff_eq.mpr hk
  have HR := ae.mk (show jI ⟨ck, ⟨cx, cy, cw, ch⟩, aj, l⟩ = ([], 10) by unfold jI; rw [if_pos hk])
  clear hk
  go_enter Try.func156, Try.ntmps156
  go_wp2_with (first
   | ((with_reducible refine az 1 rfl ?_); refine boxS 1 #[.int .u8 ck, .int .i64 cx, .int .i64 cy, .int .i64 cw, .int .i64 ch, .int .i64 aj, .slice A l.length cc] 26 S ?_; clear S; intro b1 fF S)
   | ((with_reducible refine aC (N := 11) rfl ?_); refine xJ (N := 11) rfl rfl S.out ?hr ?_; (case hr => first | (go_simp; done) | (go_simp; rfl)); intro Nr N7 iw S1; replace S := ae.mk S1; clear S1; have bG := (S.out.at (.head _) 0).trans rfl)
   | fail)
  clear bG
  refine bodyPost_ret (results_tmp2 rfl _ _ _) rfl ?_
  rw [HR.out]
  exact ⟨_, _, rfl, S.out.free.J5 (b0 := w.heap.size) (.head _), S.out.below⟩
 ·have hkb : (ck == 1) = false := beq_eq_false_iff_ne.mpr hk
  have lD := ae.mk hk
  obtain ⟨ax, hax⟩ : ∃ ax, ax = zg ck := ⟨_, rfl⟩
  have hSZ := fun W => UR (W := W) (bC ax ⟨cx, cy, cw, ch⟩) (l.length : Int)
  have hR : jI ⟨ck, ⟨cx, cy, cw, ch⟩, aj, l⟩ = if (o5 (bC ax ⟨cx, cy, cw, ch⟩) (l.length : Int)).2 = false then ([], 7) else if pG ax (fun (i : Nat) => rd (o5 (bC ax ⟨cx, cy, cw, ch⟩) (l.length : Int)).1 (i : Int)) 0 l = true then ([], 7) else (jv ax (fun (i : Nat) => rd (o5 (bC ax ⟨cx, cy, cw, ch⟩) (l.length : Int)).1 (i : Int)) 0 l, 0) := by rw [hax]; unfold jI; rw [if_neg hk]
  have hsl := @Nb (bC ax ⟨cx, cy, cw, ch⟩) l.length
  generalize o5 (bC ax ⟨cx, cy, cw, ch⟩) (l.length : Int) = sp at hSZ hR hsl
  obtain ⟨sl, ok⟩ := sp
  simp only [] at hSZ hR hsl
  have yY := ae.mk hSZ
  have xw := ae.mk hsl
  have tH := ae.mk hax
  clear hk hSZ hsl hax
  cases ok with
  | false =>
   have HR := ae.mk (hR.trans (if_pos rfl))
   clear hR
   go_enter Try.func156, Try.ntmps156
   go_upto_region 4 with (first
    | ((with_reducible refine az 1 rfl ?_); refine boxS 1 #[.int .u8 ck, .int .i64 cx, .int .i64 cy, .int .i64 cw, .int .i64 ch, .int .i64 aj, .slice A l.length cc] 26 S ?_; clear S; intro b1 fF S)
    | ((with_reducible refine aC (N := 11) rfl ?_); refine xJ (N := 11) rfl rfl S.out ?hr ?_; (case hr => first | (go_simp; done) | (go_simp; rfl)); intro Nr N7 iw S1; replace S := ae.mk S1; clear S1; have bG := (S.out.at (.head _) 0).trans rfl)
    | fail)
   clear bG
   go_cut [5] (fun v5 wc => v5 = .int .u8 ax ∧ ae (St w P [(some b1, .cells #[.int .u8 ck, .int .i64 cx, .int .i64 cy, .int .i64 cw, .int .i64 ch, .int .i64 aj, .slice A l.length cc] 26 (0, 0))] [(.slice Nr 0 N7, [])] [(.slice A l.length cc, l)] [] wc))
   case first =>
    have bG := (S.out.at (.head _) 0).trans rfl
    go_wp2
    clear bG
    go_meet
    case rel => exact ⟨by rw [tH.out]; first | rfl | (simp [zg]; done) | (rw [← CG]; done) | (rw [← CG]; rfl), S⟩
   case rest =>
    clear S
    obtain ⟨rfl, S⟩ := hcut
    rename World => wx
    go_wp2
    refine jA (n := 13) (S := fun w' => St w _ _ _ _ _ w') (ds := []) (bA 13 0) (by kernel_rfl) rfl rfl (S.out.call (bF (Below.refl _ _))) (fun hHeld => ?_); refine f_ rW.O1 rW.Ip (fun au eF => ?_)
    replace S := ae.mk (S.out.call (bF (Below.refl _ _)))
    generalize wx.drew = wd3 at S hHeld ⊢
    refine aG 0 20 (bA 13 1) au ?_
    refine dJ 1 21 (bA 13 3) au eF hHeld ?_ (hv := by intro w' hs_; have dV := (hs_.at (.head _) 1).trans rfl; have dW := (hs_.at (.head _) 2).trans rfl; have dZ := (hs_.at (.head _) 3).trans rfl; have d_ := (hs_.at (.head _) 4).trans rfl; go_simp; with_reducible rfl)
    refine aG 2 22 (bA 13 7) au ?_
    refine aG 4 24 (bA 13 23) au ?_
    refine dJ 5 25 (bA 13 55) au eF hHeld ?_ (hv := by intro w' hs_; have b_ := (hs_.at (.head _) 6).trans rfl; go_simp; with_reducible rfl)
    refine aG 6 26 (bA 13 119) au ?_
    refine gZ (i := 3) (N := some 23) (bA 13 127) rfl rfl (dG au.out (by kernel_rfl)) (by decide) (fun K hK => ?_)
    refine fM Try.func87 (by kernel_rfl) rfl #[.agg #[.int .i64 cx, .int .i64 cy, .int .i64 cw, .int .i64 ch], .int .u8 ax] (by rfl) rfl rfl (by (try simp only [List.map_toArray, List.map_cons, List.map_nil]); first | done | rfl) ?_
    refine (u_ ⟨cx, cy, cw, ch⟩ ax).mono ?_
    rintro e lQ ⟨rfl, hb⟩
    refine ⟨_, rfl, ?_⟩
    replace S := ae.mk (S.out.call hb)
    clear hb
    refine hK.out _ _ S.out (fun hHeld => ?_)
    clear hK K
    refine ed 23 ?_
    refine gZ (i := 7) (N := some 27) (bA 13 255) rfl rfl (dG au.out (by kernel_rfl)) (by decide) (fun K hK => ?_)
    refine fM Try.func54 (by kernel_rfl) rfl #[.int .i64 (bC ax ⟨cx, cy, cw, ch⟩), .int .i64 (l.length : Int)] (by rfl) rfl rfl (by (try simp only [List.map_toArray, List.map_cons, List.map_nil]); first | done | rfl) ?_
    refine (yY.out _).mono ?_
    rintro e tC ⟨As, cs, rfl, h1, hb⟩
    refine ⟨_, rfl, ?_⟩
    obtain ⟨os, S1, HI1⟩ := S.out.BO h1 hb
    replace S := ae.mk S1
    have HIS := ae.mk HI1
    clear S1 HI1 h1 hb
    refine hK.out _ _ S.out.eH (fun hHeld => ?_)
    clear hK K
    refine ed 27 ?_
    refine aG 8 19 (bA 13 511) au ?_
    refine aG 9 28 (bA 13 1023) au ?_
    refine aG 10 29 (bA 13 2047) au ?_
    refine aG 11 6 (bA 13 4095) au ?_
    refine aG 12 7 (bA 13 8191) au ?_
    refine kG (iK au.out (by kernel_rfl)) ?_
    clear hHeld
    go_wp2
    refine bodyPost_ret (results_tmp2 rfl _ _ _) rfl ?_
    rw [HR.out]
    exact ⟨_, _, rfl, S.out.free.J5 (b0 := w.heap.size) (.head _), S.out.below⟩
  | true =>
   have hR2 := hR.trans (if_neg (by simp))
   obtain ⟨NS, rP⟩ : ∃ NS : Nat → Int, NS = fun (i : Nat) => rd sl (i : Int) := ⟨_, rfl⟩
   rw [← rP] at hR2
   have HR := ae.mk hR2
   have Dj := ae.mk rP
   clear hR hR2 rP
   go_enter Try.func156, Try.ntmps156
   go_upto_region 4 with (first
    | ((with_reducible refine az 1 rfl ?_); refine boxS 1 #[.int .u8 ck, .int .i64 cx, .int .i64 cy, .int .i64 cw, .int .i64 ch, .int .i64 aj, .slice A l.length cc] 26 S ?_; clear S; intro b1 fF S)
    | ((with_reducible refine aC (N := 11) rfl ?_); refine xJ (N := 11) rfl rfl S.out ?hr ?_; (case hr => first | (go_simp; done) | (go_simp; rfl)); intro Nr N7 iw S1; replace S := ae.mk S1; clear S1; have bG := (S.out.at (.head _) 0).trans rfl)
    | fail)
   clear bG
   go_cut [5] (fun v5 wc => v5 = .int .u8 ax ∧ ae (St w P [(some b1, .cells #[.int .u8 ck, .int .i64 cx, .int .i64 cy, .int .i64 cw, .int .i64 ch, .int .i64 aj, .slice A l.length cc] 26 (0, 0))] [(.slice Nr 0 N7, [])] [(.slice A l.length cc, l)] [] wc))
   case first =>
    have bG := (S.out.at (.head _) 0).trans rfl
    go_wp2
    clear bG
    go_meet
    case rel => exact ⟨by rw [tH.out]; first | rfl | (simp [zg]; done) | (rw [← CG]; done) | (rw [← CG]; rfl), S⟩
   case rest =>
    clear S
    obtain ⟨rfl, S⟩ := hcut
    rename World => wx
    go_wp2
    refine jA (n := 13) (S := fun w' => St w _ _ _ _ _ w') (ds := []) (bA 13 0) (by kernel_rfl) rfl rfl (S.out.call (bF (Below.refl _ _))) (fun hHeld => ?_); refine f_ rW.O1 rW.Ip (fun au eF => ?_)
    replace S := ae.mk (S.out.call (bF (Below.refl _ _)))
    generalize wx.drew = wd3 at S hHeld ⊢
    refine aG 0 20 (bA 13 1) au ?_
    refine dJ 1 21 (bA 13 3) au eF hHeld ?_ (hv := by intro w' hs_; have dV := (hs_.at (.head _) 1).trans rfl; have dW := (hs_.at (.head _) 2).trans rfl; have dZ := (hs_.at (.head _) 3).trans rfl; have d_ := (hs_.at (.head _) 4).trans rfl; go_simp; with_reducible rfl)
    refine aG 2 22 (bA 13 7) au ?_
    refine aG 4 24 (bA 13 23) au ?_
    refine dJ 5 25 (bA 13 55) au eF hHeld ?_ (hv := by intro w' hs_; have b_ := (hs_.at (.head _) 6).trans rfl; go_simp; with_reducible rfl)
    refine aG 6 26 (bA 13 119) au ?_
    refine gZ (i := 3) (N := some 23) (bA 13 127) rfl rfl (dG au.out (by kernel_rfl)) (by decide) (fun K hK => ?_)
    refine fM Try.func87 (by kernel_rfl) rfl #[.agg #[.int .i64 cx, .int .i64 cy, .int .i64 cw, .int .i64 ch], .int .u8 ax] (by rfl) rfl rfl (by (try simp only [List.map_toArray, List.map_cons, List.map_nil]); first | done | rfl) ?_
    refine (u_ ⟨cx, cy, cw, ch⟩ ax).mono ?_
    rintro e lQ ⟨rfl, hb⟩
    refine ⟨_, rfl, ?_⟩
    replace S := ae.mk (S.out.call hb)
    clear hb
    refine hK.out _ _ S.out (fun hHeld => ?_)
    clear hK K
    refine ed 23 ?_
    refine gZ (i := 7) (N := some 27) (bA 13 255) rfl rfl (dG au.out (by kernel_rfl)) (by decide) (fun K hK => ?_)
    refine fM Try.func54 (by kernel_rfl) rfl #[.int .i64 (bC ax ⟨cx, cy, cw, ch⟩), .int .i64 (l.length : Int)] (by rfl) rfl rfl (by (try simp only [List.map_toArray, List.map_cons, List.map_nil]); first | done | rfl) ?_
    refine (yY.out _).mono ?_
    rintro e tC ⟨As, cs, rfl, h1, hb⟩
    refine ⟨_, rfl, ?_⟩
    obtain ⟨os, S1, HI1⟩ := S.out.BO h1 hb
    replace S := ae.mk S1
    have HIS := ae.mk HI1
    clear S1 HI1 h1 hb
    refine hK.out _ _ S.out.eH (fun hHeld => ?_)
    clear hK K
    refine ed 27 ?_
    refine aG 8 19 (bA 13 511) au ?_
    refine aG 9 28 (bA 13 1023) au ?_
    refine aG 10 29 (bA 13 2047) au ?_
    refine aG 11 6 (bA 13 4095) au ?_
    refine aG 12 7 (bA 13 8191) au ?_
    refine kG (iK au.out (by kernel_rfl)) ?_
    clear hHeld
    have b_ := (S.out.at (.tail _ (.head _)) 6).trans rfl
    go_wp2
    clear b_
    go_loopg [4, 36] l.length (fun gg v4 v36 wr => ∃ (pre rest : List ai) (Ap : Option Addr) (cp : Nat), v4 = .slice Ap (jv ax NS 0 pre).length cp ∧ v36 = .int .i64 (pre.length : Int) ∧ ae (pre ++ rest = l) ∧ rest.length ≤ gg ∧ ae (pG ax NS 0 pre = false) ∧ ae (St w P [((Value.slice As sl.length cs).ownBlock, os), (some b1, .cells #[.int .u8 ck, .int .i64 cx, .int .i64 cy, .int .i64 cw, .int .i64 ch, .int .i64 aj, .slice A l.length cc] 26 (0, 0))] [(.slice Ap ((jv ax NS 0 pre).length) cp, (jv ax NS 0 pre))] [(.slice A l.length cc, l)] [] wr))
    case atStart => exact ⟨[], l, _, _, rfl, rfl, ⟨rfl⟩, Nat.le_refl _, ⟨rfl⟩, ⟨S.out⟩⟩
    case round =>
     clear S
     obtain ⟨pre, rest, Ap, cp, rfl, rfl, HE, hgg, Pv, S⟩ := hrel
     cases rest with
     | nil =>
      have hE := HE.out
      rw [List.append_nil] at hE
      have hE2 := hE.symm
      subst hE2
      clear hE HE hgg
      have hlt : ¬ ((l.length : Int) < (l.length : Int)) := by omega
      go_wp2
      refine bodyPost_ret (results_tmp2 rfl _ _ _) rfl ?_
      rw [HR.out, if_neg (by rw [Pv.out]; simp)]
      exact ⟨_, _, rfl, S.out.free.J5 (b0 := w.heap.size) (.head _), S.out.below⟩
     | cons k rest =>
      have hk : k ∈ l := by rw [← HE.out]; simp
      have hlt : (pre.length : Int) < (l.length : Int) := by rw [← HE.out, List.length_append, List.length_cons]; omega
      have hw1 : wrap64 ((pre.length : Int) + 1) = ((pre ++ [k]).length : Int) := by have := gy.out; rw [List.length_append, List.length_singleton]; unfold wrap64; omega
      have HW1 := ae.mk hw1
      have jd := ae.mk hgg
      have AP := ae.mk (DD.out k hk)
      have vJ := ae.mk (show sz (aQ k 0 0) ≤ 1048576 by rw [(BR _).1 _ (Nat.le_refl _)]; have := DD.out k hk; omega)
      have qB := ae.mk (show pre.length ≤ 1000000 by have := gy.out; omega)
      obtain ⟨iO, ua, uc, ek, S1⟩ := S.out.elem (.head _) (pre.length : Int) (Int.natCast_nonneg _) hlt
      subst ek
      have hrd : aI l (pre.length : Int) = k := by rw [← HE.out]; exact iZ pre k rest
      rw [hrd] at S1
      simp only [Int.toNat_natCast] at S1
      replace S := ae.mk S1
      clear S1 hrd hk hgg hw1
      have hlt2 : (pre.length : Int) < (sl.length : Int) := by rw [xw.out trivial]; exact hlt
      obtain ⟨PO, ea, _⟩ := Kd.iE (Kd.bQ (HIS.out _ (S.out.blk _ (.head _)))).2.2 (pre.length : Int) (Int.natCast_nonneg _) hlt2
      subst ea
      have SH := ae.mk hlt2
      have En := ae.mk (show rd sl (pre.length : Int) = NS pre.length by rw [Dj.out])
      go_wp2
      refine jA (n := 27) (S := fun w' => St w _ _ _ _ _ w') (ds := [25]) (bA 27 0) (by kernel_rfl) rfl rfl (S.out.call (bF (Below.refl _ _))) (fun hHeld => ?_); refine f_ sZ.O0 sZ.Jl (fun au eF => ?_)
      replace S := ae.mk (S.out.call (bF (Below.refl _ _)))
      generalize wr.drew = wd6 at S hHeld ⊢
      refine aG 0 40 (bA 27 1) au ?_
      refine dJ 1 41 (bA 27 3) au eF hHeld ?_ (hv := by intro w' hs_; have b_ := (hs_.at (.tail _ (.head _)) 6).trans rfl; go_simp; with_reducible rfl)
      refine aG 2 42 (bA 27 7) au ?_
      refine aG 3 43 (bA 27 15) au ?_
      refine dJ 4 44 (bA 27 31) au eF hHeld ?_ (hv := by intro w' hs_; have jB := (hs_.cell _ (.head _)).1; have jb := (hs_.cell _ (.tail _ (.head _))).1; have jc := (hs_.cell _ (.tail _ (.tail _ (.head _)))).1; have iG := (hs_.cell _ (.tail _ (.tail _ (.tail _ (.head _))))).1; have iH := (hs_.cell _ (.tail _ (.tail _ (.tail _ (.tail _ (.head _)))))).1; have jM := (hs_.cell _ (.tail _ (.tail _ (.tail _ (.tail _ (.tail _ (.head _))))))).1; have jO := (hs_.cell _ (.tail _ (.tail _ (.tail _ (.tail _ (.tail _ (.tail _ (.head _)))))))).1; go_simp; with_reducible rfl)
      refine aG 6 46 (bA 27 95) au ?_
      refine aG 7 47 (bA 27 223) au ?_
      refine aG 8 48 (bA 27 479) au ?_
      refine aG 9 49 (bA 27 991) au ?_
      refine dJ 10 50 (bA 27 2015) au eF hHeld ?_ (hv := by intro w' hs_; have xs := zC HIS.out (hs_.blk _ (.head _)) pre.length SH.out; go_simp; with_reducible rfl)
      refine aG 11 51 (bA 27 4063) au ?_
      refine dJ 12 52 (bA 27 8159) au eF hHeld ?_ (hv := by intro w' hs_; have b_ := (hs_.at (.tail _ (.head _)) 6).trans rfl; go_simp; with_reducible rfl)
      refine aG 13 53 (bA 27 16351) au ?_
      refine aG 14 54 (bA 27 32735) au ?_
      refine aG 15 55 (bA 27 65503) au ?_
      refine dJ 16 56 (bA 27 131039) au eF hHeld ?_ (hv := by intro w' hs_; have jb := (hs_.cell _ (.tail _ (.head _))).1; have jc := (hs_.cell _ (.tail _ (.tail _ (.head _)))).1; have iG := (hs_.cell _ (.tail _ (.tail _ (.tail _ (.head _))))).1; have iH := (hs_.cell _ (.tail _ (.tail _ (.tail _ (.tail _ (.head _)))))).1; go_simp; with_reducible rfl)
      refine aG 17 57 (bA 27 262111) au ?_
      refine VQ (σ := Option Addr × Nat × Option Addr × Nat × Nat) 2 (bA 27 33554431) (fun s_ => [(45, .agg #[.int .u8 ((aQ k 0 0).f0), .int .i64 ((aQ k 0 0).f1.f0), .int .i64 ((aQ k 0 0).f1.f1), .int .i64 ((aQ k 0 0).f1.f2), .int .i64 ((aQ k 0 0).f1.f3), .int .i64 ((aQ k 0 0).f2), .slice s_.1 ((aQ k 0 0).f3.length) s_.2.1]), (58, .int .i64 (bC ax k.f1)), (59, .int .i64 (wrap64 ((rd sl (pre.length : Int)) - (bC ax k.f1)))), (60, .tuple #[.agg #[.int .u8 ((cO ax k (NS pre.length)).f0), .int .i64 ((cO ax k (NS pre.length)).f1.f0), .int .i64 ((cO ax k (NS pre.length)).f1.f1), .int .i64 ((cO ax k (NS pre.length)).f1.f2), .int .i64 ((cO ax k (NS pre.length)).f1.f3), .int .i64 ((cO ax k (NS pre.length)).f2), .slice s_.2.2.1 ((cO ax k (NS pre.length)).f3.length) s_.2.2.2.1], .int .i64 (pF ax k (NS pre.length))]), (39, .tuple #[.agg #[.int .u8 ((cO ax k (NS pre.length)).f0), .int .i64 ((cO ax k (NS pre.length)).f1.f0), .int .i64 ((cO ax k (NS pre.length)).f1.f1), .int .i64 ((cO ax k (NS pre.length)).f1.f2), .int .i64 ((cO ax k (NS pre.length)).f1.f3), .int .i64 ((cO ax k (NS pre.length)).f2), .slice s_.2.2.1 ((cO ax k (NS pre.length)).f3.length) s_.2.2.2.1], .int .i64 (pF ax k (NS pre.length))]), (61, .agg #[.int .u8 ((cO ax k (NS pre.length)).f0), .int .i64 ((cO ax k (NS pre.length)).f1.f0), .int .i64 ((cO ax k (NS pre.length)).f1.f1), .int .i64 ((cO ax k (NS pre.length)).f1.f2), .int .i64 ((cO ax k (NS pre.length)).f1.f3), .int .i64 ((cO ax k (NS pre.length)).f2), .slice s_.2.2.1 ((cO ax k (NS pre.length)).f3.length) s_.2.2.2.1]), (62, .int .i64 (pF ax k (NS pre.length))), (9, .pointer (some ⟨s_.2.2.2.2, 0, none⟩))]) (fun s_ w' => St w P [(some s_.2.2.2.2, .cells #[.int .u8 0, .int .i64 0, .int .i64 0, .int .i64 0, .int .i64 0, .int .i64 0, .slice none 0 0] 26 (0, 0)), ((Value.slice (some PO) sl.length cs).ownBlock, os), (some b1, .cells #[.int .u8 ck, .int .i64 cx, .int .i64 cy, .int .i64 cw, .int .i64 ch, .int .i64 aj, .slice (some iO) l.length cc] 26 (0, 0))] [(.slice Ap ((jv ax NS 0 pre).length) cp, (jv ax NS 0 pre))] [(.slice s_.2.2.1 ((cO ax k (NS pre.length)).f3.length) s_.2.2.2.1, (cO ax k (NS pre.length)).f3), (.slice s_.1 ((aQ k 0 0).f3.length) s_.2.1, (aQ k 0 0).f3), (.slice ua k.f3.length uc, k.f3), (.slice (some iO) l.length cc, l)] [((iO.add (pre.length * 7)), .int .u8 k.f0), (⟨(iO.add (pre.length * 7)).block, (iO.add (pre.length * 7)).off + 1, none⟩, .int .i64 k.f1.f0), (⟨(iO.add (pre.length * 7)).block, (iO.add (pre.length * 7)).off + 2, none⟩, .int .i64 k.f1.f1), (⟨(iO.add (pre.length * 7)).block, (iO.add (pre.length * 7)).off + 3, none⟩, .int .i64 k.f1.f2), (⟨(iO.add (pre.length * 7)).block, (iO.add (pre.length * 7)).off + 4, none⟩, .int .i64 k.f1.f3), (⟨(iO.add (pre.length * 7)).block, (iO.add (pre.length * 7)).off + 5, none⟩, .int .i64 k.f2), (⟨(iO.add (pre.length * 7)).block, (iO.add (pre.length * 7)).off + 6, none⟩, .slice ua k.f3.length uc)] w') ?_ ?_
      rotate_left
      ·intro wX
       refine Gv (i := 5) (j := 24) (Ni := some 45) (Nj := some 9) (bA 27 262143) (bA 27 17039327) rfl rfl rfl rfl (zA au.out (by kernel_rfl)) (by decide) (by decide) (fun K hK => ?_) (fun K hK => ?_)
       ·skip
        refine fM Try.func67 (by kernel_rfl) rfl #[.agg #[.int .u8 k.f0, .int .i64 k.f1.f0, .int .i64 k.f1.f1, .int .i64 k.f1.f2, .int .i64 k.f1.f3, .int .i64 k.f2, .slice ua k.f3.length uc], .int .i64 0, .int .i64 0] (by rfl) rfl rfl (by (try simp only [List.map_toArray, List.map_cons, List.map_nil]); first | done | rfl) ?_
        refine (EW k 0 0 AP.out (S.out.tree _ (.head _))).mono ?_
        rintro e AB ⟨Df, yO, rfl, h1, hb⟩
        refine ⟨_, rfl, ?_⟩
        replace S := ae.mk (S.out.res (Kd.rG (base' := 0) h1) hb)
        clear h1 hb
        refine hK.out _ _ S.out.bH (fun hHeld => ?_)
        clear hK K
        refine ed 45 ?_
        refine Gv (i := 18) (j := 24) (Ni := some 58) (Nj := some 9) (bA 27 524287) (bA 27 17039359) rfl rfl rfl rfl (zA au.out (by kernel_rfl)) (by decide) (by decide) (fun K hK => ?_) (fun K hK => ?_)
        ·skip
         refine fM Try.func87 (by kernel_rfl) rfl #[.agg #[.int .i64 k.f1.f0, .int .i64 k.f1.f1, .int .i64 k.f1.f2, .int .i64 k.f1.f3], .int .u8 ax] (by rfl) rfl rfl (by (try simp only [List.map_toArray, List.map_cons, List.map_nil]); first | done | rfl) ?_
         refine (u_ ⟨k.f1.f0, k.f1.f1, k.f1.f2, k.f1.f3⟩ ax).mono ?_
         rintro e Fb ⟨rfl, hb⟩
         refine ⟨_, rfl, ?_⟩
         replace S := ae.mk (S.out.call hb)
         clear hb
         refine hK.out _ _ S.out.bH (fun hHeld => ?_)
         clear hK K
         refine ed 58 ?_
         refine aG 19 59 (bA 27 1048575) au ?_
         refine Gv (i := 20) (j := 24) (Ni := some 60) (Nj := some 9) (bA 27 2097151) (bA 27 17825791) rfl rfl rfl rfl (zA au.out (by kernel_rfl)) (by decide) (by decide) (fun K hK => ?_) (fun K hK => ?_)
         ·skip
          refine fM Try.func184 (by kernel_rfl) rfl #[.agg #[.int .u8 ((aQ k 0 0).f0), .int .i64 ((aQ k 0 0).f1.f0), .int .i64 ((aQ k 0 0).f1.f1), .int .i64 ((aQ k 0 0).f1.f2), .int .i64 ((aQ k 0 0).f1.f3), .int .i64 ((aQ k 0 0).f2), .slice Df ((aQ k 0 0).f3.length) yO], .int .u8 ax, .int .i64 (wrap64 ((rd sl (pre.length : Int)) - (bC ax k.f1)))] (by rfl) rfl rfl (by (try simp only [List.map_toArray, List.map_cons, List.map_nil]); first | done | rfl) ?_
          refine (Ac En.out (wY ax (aQ k 0 0) vJ.out _ _ _ _ _ (fK (S.out.tree _ (.head _))))).mono ?_
          rintro e H9 ⟨AO, xA, rfl, h1, hb⟩
          refine ⟨_, rfl, ?_⟩
          replace S := ae.mk (S.out.res (Kd.rG (base' := 0) h1) hb)
          clear h1 hb
          refine hK.out _ _ S.out.bH.bH (fun hHeld => ?_)
          clear hK K
          refine ed 60 ?_
          refine aG 21 39 (bA 27 4194303) au ?_
          refine aG 22 61 (bA 27 8388607) au ?_
          refine aG 23 62 (bA 27 16777215) au ?_
          refine gZ (i := 24) (N := some 9) (bA 27 33554431) rfl rfl (dG au.out (by kernel_rfl)) (by decide) (fun K hK => ?_)
          refine qG ?hg (N := 9) ?hd (cs := #[.int .u8 0, .int .i64 0, .int .i64 0, .int .i64 0, .int .i64 0, .int .i64 0, .slice none 0 0]) (t := 26) ?hr ?_; (case hd => rfl); (case hg => rfl); (case hr => first | (go_simp; done) | (go_simp; rfl))
          intro b9 hg Gy hbox hb
          replace S := ae.mk (S.out.box hg hbox hb)
          clear hg hbox hb
          refine hK.out _ _ S.out.eH.bH.bH (fun hHeld => ?_)
          clear hK K
          refine ed 9 ?_
          exact rZ (by simp only [oM, Act.put, List.setIfInBounds_toArray, List.set_cons_zero, List.set_cons_succ] <;> rfl) (wX (Df, yO, AO, xA, b9) _ S.out)
         ·skip
          refine qG ?hg (N := 9) ?hd (cs := #[.int .u8 0, .int .i64 0, .int .i64 0, .int .i64 0, .int .i64 0, .int .i64 0, .slice none 0 0]) (t := 26) ?hr ?_; (case hd => rfl); (case hg => rfl); (case hr => first | (go_simp; done) | (go_simp; rfl))
          intro b9 hg Ee hbox hb
          replace S := ae.mk (S.out.box hg hbox hb)
          clear hg hbox hb
          refine hK.out _ _ S.out.eH.bH (fun hHeld => ?_)
          clear hK K
          refine ed 9 ?_
          refine gZ (i := 20) (N := some 60) (bA 27 18874367) rfl rfl (dG au.out (by kernel_rfl)) (by decide) (fun K hK => ?_)
          refine fM Try.func184 (by kernel_rfl) rfl #[.agg #[.int .u8 ((aQ k 0 0).f0), .int .i64 ((aQ k 0 0).f1.f0), .int .i64 ((aQ k 0 0).f1.f1), .int .i64 ((aQ k 0 0).f1.f2), .int .i64 ((aQ k 0 0).f1.f3), .int .i64 ((aQ k 0 0).f2), .slice Df ((aQ k 0 0).f3.length) yO], .int .u8 ax, .int .i64 (wrap64 ((rd sl (pre.length : Int)) - (bC ax k.f1)))] (by rfl) rfl rfl (by (try simp only [List.map_toArray, List.map_cons, List.map_nil]); first | done | rfl) ?_
          refine (Ac En.out (wY ax (aQ k 0 0) vJ.out _ _ _ _ _ (fK (S.out.tree _ (.head _))))).mono ?_
          rintro e KF ⟨AO, xA, rfl, h1, hb⟩
          refine ⟨_, rfl, ?_⟩
          replace S := ae.mk (S.out.res (Kd.rG (base' := 0) h1) hb)
          clear h1 hb
          refine hK.out _ _ S.out.eH.bH.bH (fun hHeld => ?_)
          clear hK K
          refine ed 60 ?_
          refine aG 21 39 (bA 27 20971519) au ?_
          refine aG 22 61 (bA 27 25165823) au ?_
          refine aG 23 62 (bA 27 33554431) au ?_
          exact rZ (by simp only [oM, Act.put, List.setIfInBounds_toArray, List.set_cons_zero, List.set_cons_succ] <;> rfl) (wX (Df, yO, AO, xA, b9) _ S.out)
        ·skip
         refine qG ?hg (N := 9) ?hd (cs := #[.int .u8 0, .int .i64 0, .int .i64 0, .int .i64 0, .int .i64 0, .int .i64 0, .slice none 0 0]) (t := 26) ?hr ?_; (case hd => rfl); (case hg => rfl); (case hr => first | (go_simp; done) | (go_simp; rfl))
         intro b9 hg KG hbox hb
         replace S := ae.mk (S.out.box hg hbox hb)
         clear hg hbox hb
         refine hK.out _ _ S.out.eH.bH (fun hHeld => ?_)
         clear hK K
         refine ed 9 ?_
         refine gZ (i := 18) (N := some 58) (bA 27 17301503) rfl rfl (dG au.out (by kernel_rfl)) (by decide) (fun K hK => ?_)
         refine fM Try.func87 (by kernel_rfl) rfl #[.agg #[.int .i64 k.f1.f0, .int .i64 k.f1.f1, .int .i64 k.f1.f2, .int .i64 k.f1.f3], .int .u8 ax] (by rfl) rfl rfl (by (try simp only [List.map_toArray, List.map_cons, List.map_nil]); first | done | rfl) ?_
         refine (u_ ⟨k.f1.f0, k.f1.f1, k.f1.f2, k.f1.f3⟩ ax).mono ?_
         rintro e U9 ⟨rfl, hb⟩
         refine ⟨_, rfl, ?_⟩
         replace S := ae.mk (S.out.call hb)
         clear hb
         refine hK.out _ _ S.out.eH.bH (fun hHeld => ?_)
         clear hK K
         refine ed 58 ?_
         refine aG 19 59 (bA 27 17825791) au ?_
         refine gZ (i := 20) (N := some 60) (bA 27 18874367) rfl rfl (dG au.out (by kernel_rfl)) (by decide) (fun K hK => ?_)
         refine fM Try.func184 (by kernel_rfl) rfl #[.agg #[.int .u8 ((aQ k 0 0).f0), .int .i64 ((aQ k 0 0).f1.f0), .int .i64 ((aQ k 0 0).f1.f1), .int .i64 ((aQ k 0 0).f1.f2), .int .i64 ((aQ k 0 0).f1.f3), .int .i64 ((aQ k 0 0).f2), .slice Df ((aQ k 0 0).f3.length) yO], .int .u8 ax, .int .i64 (wrap64 ((rd sl (pre.length : Int)) - (bC ax k.f1)))] (by rfl) rfl rfl (by (try simp only [List.map_toArray, List.map_cons, List.map_nil]); first | done | rfl) ?_
         refine (Ac En.out (wY ax (aQ k 0 0) vJ.out _ _ _ _ _ (fK (S.out.tree _ (.head _))))).mono ?_
         rintro e O7 ⟨AO, xA, rfl, h1, hb⟩
         refine ⟨_, rfl, ?_⟩
         replace S := ae.mk (S.out.res (Kd.rG (base' := 0) h1) hb)
         clear h1 hb
         refine hK.out _ _ S.out.eH.bH.bH (fun hHeld => ?_)
         clear hK K
         refine ed 60 ?_
         refine aG 21 39 (bA 27 20971519) au ?_
         refine aG 22 61 (bA 27 25165823) au ?_
         refine aG 23 62 (bA 27 33554431) au ?_
         exact rZ (by simp only [oM, Act.put, List.setIfInBounds_toArray, List.set_cons_zero, List.set_cons_succ] <;> rfl) (wX (Df, yO, AO, xA, b9) _ S.out)
       ·skip
        refine qG ?hg (N := 9) ?hd (cs := #[.int .u8 0, .int .i64 0, .int .i64 0, .int .i64 0, .int .i64 0, .int .i64 0, .slice none 0 0]) (t := 26) ?hr ?_; (case hd => rfl); (case hg => rfl); (case hr => first | (go_simp; done) | (go_simp; rfl))
        intro b9 hg U_ hbox hb
        replace S := ae.mk (S.out.box hg hbox hb)
        clear hg hbox hb
        refine hK.out _ _ S.out.eH (fun hHeld => ?_)
        clear hK K
        refine ed 9 ?_
        refine gZ (i := 5) (N := some 45) (bA 27 17039359) rfl rfl (dG au.out (by kernel_rfl)) (by decide) (fun K hK => ?_)
        refine fM Try.func67 (by kernel_rfl) rfl #[.agg #[.int .u8 k.f0, .int .i64 k.f1.f0, .int .i64 k.f1.f1, .int .i64 k.f1.f2, .int .i64 k.f1.f3, .int .i64 k.f2, .slice ua k.f3.length uc], .int .i64 0, .int .i64 0] (by rfl) rfl rfl (by (try simp only [List.map_toArray, List.map_cons, List.map_nil]); first | done | rfl) ?_
        refine (EW k 0 0 AP.out (S.out.tree _ (.head _))).mono ?_
        rintro e acm ⟨Df, yO, rfl, h1, hb⟩
        refine ⟨_, rfl, ?_⟩
        replace S := ae.mk (S.out.res (Kd.rG (base' := 0) h1) hb)
        clear h1 hb
        refine hK.out _ _ S.out.eH.bH (fun hHeld => ?_)
        clear hK K
        refine ed 45 ?_
        refine gZ (i := 18) (N := some 58) (bA 27 17301503) rfl rfl (dG au.out (by kernel_rfl)) (by decide) (fun K hK => ?_)
        refine fM Try.func87 (by kernel_rfl) rfl #[.agg #[.int .i64 k.f1.f0, .int .i64 k.f1.f1, .int .i64 k.f1.f2, .int .i64 k.f1.f3], .int .u8 ax] (by rfl) rfl rfl (by (try simp only [List.map_toArray, List.map_cons, List.map_nil]); first | done | rfl) ?_
        refine (u_ ⟨k.f1.f0, k.f1.f1, k.f1.f2, k.f1.f3⟩ ax).mono ?_
        rintro e Va ⟨rfl, hb⟩
        refine ⟨_, rfl, ?_⟩
        replace S := ae.mk (S.out.call hb)
        clear hb
        refine hK.out _ _ S.out.eH.bH (fun hHeld => ?_)
        clear hK K
        refine ed 58 ?_
        refine aG 19 59 (bA 27 17825791) au ?_
        refine gZ (i := 20) (N := some 60) (bA 27 18874367) rfl rfl (dG au.out (by kernel_rfl)) (by decide) (fun K hK => ?_)
        refine fM Try.func184 (by kernel_rfl) rfl #[.agg #[.int .u8 ((aQ k 0 0).f0), .int .i64 ((aQ k 0 0).f1.f0), .int .i64 ((aQ k 0 0).f1.f1), .int .i64 ((aQ k 0 0).f1.f2), .int .i64 ((aQ k 0 0).f1.f3), .int .i64 ((aQ k 0 0).f2), .slice Df ((aQ k 0 0).f3.length) yO], .int .u8 ax, .int .i64 (wrap64 ((rd sl (pre.length : Int)) - (bC ax k.f1)))] (by rfl) rfl rfl (by (try simp only [List.map_toArray, List.map_cons, List.map_nil]); first | done | rfl) ?_
        refine (Ac En.out (wY ax (aQ k 0 0) vJ.out _ _ _ _ _ (fK (S.out.tree _ (.head _))))).mono ?_
        rintro e afv ⟨AO, xA, rfl, h1, hb⟩
        refine ⟨_, rfl, ?_⟩
        replace S := ae.mk (S.out.res (Kd.rG (base' := 0) h1) hb)
        clear h1 hb
        refine hK.out _ _ S.out.eH.bH.bH (fun hHeld => ?_)
        clear hK K
        refine ed 60 ?_
        refine aG 21 39 (bA 27 20971519) au ?_
        refine aG 22 61 (bA 27 25165823) au ?_
        refine aG 23 62 (bA 27 33554431) au ?_
        exact rZ (by simp only [oM, Act.put, List.setIfInBounds_toArray, List.set_cons_zero, List.set_cons_succ] <;> rfl) (wX (Df, yO, AO, xA, b9) _ S.out)
      rintro ⟨Df, yO, AO, xA, b9⟩ ajJ S1
      simp only [oM, Act.put, List.setIfInBounds_toArray, List.set_cons_zero, List.set_cons_succ]
      replace S := ae.mk S1
      clear S1 hHeld
      have hHeld := S.out.eH.bH.bH
      refine qX (i := 25) (N := none) (bA 27 67108863) rfl rfl (dG au.out (by kernel_rfl)) (by decide) (fun K hK => ?_)
      refine xk 0 rfl 26 (.tmp 9) (.tmp 61) rfl #[.int .u8 ((cO ax k (NS pre.length)).f0), .int .i64 ((cO ax k (NS pre.length)).f1.f0), .int .i64 ((cO ax k (NS pre.length)).f1.f1), .int .i64 ((cO ax k (NS pre.length)).f1.f2), .int .i64 ((cO ax k (NS pre.length)).f1.f3), .int .i64 ((cO ax k (NS pre.length)).f2), .slice AO ((cO ax k (NS pre.length)).f3.length) xA] (j := 0) (u := .agg #[.int .u8 ((cO ax k (NS pre.length)).f0), .int .i64 ((cO ax k (NS pre.length)).f1.f0), .int .i64 ((cO ax k (NS pre.length)).f1.f1), .int .i64 ((cO ax k (NS pre.length)).f1.f2), .int .i64 ((cO ax k (NS pre.length)).f1.f3), .int .i64 ((cO ax k (NS pre.length)).f2), .slice AO ((cO ax k (NS pre.length)).f3.length) xA]) (bI := [.int .u8 ((cO ax k (NS pre.length)).f0), .int .i64 ((cO ax k (NS pre.length)).f1.f0), .int .i64 ((cO ax k (NS pre.length)).f1.f1), .int .i64 ((cO ax k (NS pre.length)).f1.f2), .int .i64 ((cO ax k (NS pre.length)).f1.f3), .int .i64 ((cO ax k (NS pre.length)).f2), .slice AO ((cO ax k (NS pre.length)).f3.length) xA]) S.out (by rfl) rfl rfl rfl rfl (by kernel_rfl) (by simp [Value.oneCell']) (by first | decide | simp) rfl ?_
      intro afw S1
      simp only [List.set_cons_zero, List.set_cons_succ] at S1
      replace S := ae.mk S1
      clear S1
      refine hK.out _ _ ?_
      clear hK K
      refine aG 26 10 (bA 27 134217727) au ?_
      refine kG (iK au.out (by kernel_rfl)) ?_
      clear hHeld
      by_cases hkn : (pF ax k (NS pre.length)) = 0
      ·have hkb2 : ((pF ax k (NS pre.length)) != 0) = false := by rw [hkn]; rfl
       have IP := ae.mk hkn
       have hkd : decide ((pF ax k (NS pre.length)) = 0) = true := decide_eq_true hkn
       obtain ⟨qo, wV, qU, wW, EF, Ir, Iu⟩ := St.iJ S (.head _)
       go_wp2_with (first
        | ((with_reducible refine aC (N := 69) rfl ?_); at_builtin; go_loud (refine xe (.tmp 66) (.tmp 68) rfl rfl Try.underlying24 info26 S.out (cO ax k (NS pre.length)) (.head _) rfl (by first | (go_simp; done) | (go_simp; rfl)) (by have := qB.out; rw [sS]; omega) ?_); intro Aq cq ajD S1; rw [← QW] at S1 ⊢; replace S := ae.mk S1; clear S1; clear qo wV qU wW EF Ir Iu)
        | fail)
       have hw1 := HW1.out
       go_wp2
       go_roundg rest.length
       case measure => exact Nat.lt_of_lt_of_le (Nat.lt_succ_self _) jd.out
       case rel => exact ⟨pre ++ [k], rest, Aq, cq, (by simp), (by rw [hw1]), ⟨by rw [List.append_assoc]; exact HE.out⟩, Nat.le_refl _, ⟨by rw [yE, Pv.out]; simp only [pG, Nat.zero_add, Bool.false_or, Bool.or_false]; rw [IP.out]; rfl⟩, ⟨S.out.eH.bH.bH.bH.aU.aU.aU.aU.aU.aU.aU⟩⟩
      ·have hkb2 : ((pF ax k (NS pre.length)) != 0) = true := bne_iff_ne.mpr hkn
       have IP := ae.mk hkb2
       have hkd : decide ((pF ax k (NS pre.length)) = 0) = false := decide_eq_false hkn
       go_wp2_with (first
        | ((with_reducible refine aC (N := 65) rfl ?_); replace S := ae.mk S.out.free; refine xJ (N := 65) rfl rfl S.out ?hr ?_; (case hr => first | (go_simp; done) | (go_simp; rfl)); intro aiZ aje afx S1; replace S := ae.mk S1; clear S1)
        | fail)
       refine bodyPost_ret (results_tmp2 rfl _ _ _) rfl ?_
       rw [HR.out, if_pos (by rw [← HE.out, yE]; simp only [pG, Nat.zero_add]; rw [IP.out]; simp)]
       exact ⟨_, _, rfl, S.out.free.J5 (b0 := w.heap.size) (.head _), S.out.below⟩
theorem YH : ∀ (N : Nat) (c : ai), sz c ≤ N → N ≤ 100000 → ∀ (P : Nat → Prop) (A : Option Addr) (cc : Nat) (w : World), Kd.V k26 26 w w.heap.size P (.slice A c.f3.length cc) c.f3 →
  Calls Try.prog 154 #[.agg #[.int .u8 c.f0, .int .i64 c.f1.f0, .int .i64 c.f1.f1, .int .i64 c.f1.f2, .int .i64 c.f1.f3, .int .i64 c.f2, .slice A c.f3.length cc]] w (tY w P (cZ N c)) := by
 intro N
 induction N with
 | zero => intro c h; rw [dR] at h; omega
 | succ N ih =>
  intro c hc hN P A cc w hv
  have hsz := dR c
  have hks := DX c
  have EL := fun P W A cc (h : Kd.V k26 26 W W.heap.size P (.slice A c.f3.length cc) c.f3) => UO c (by omega) P A cc W h
  have S := ae.mk (St.start (ts := [(.slice A c.f3.length cc, c.f3)]) (b0 := w.heap.size) (w := w) (P := P) (fun t ht => by rw [List.mem_singleton.1 ht]; exact hv))
  simp only [cZ]
  obtain ⟨L0, hL0⟩ : ∃ L0, L0 = if (jI c).2 = 0 then (jI c).1 else c.f3 := ⟨_, rfl⟩
  rw [← hL0] at hks ⊢
  have hlen := jJ L0
  have gy := ae.mk (show L0.length ≤ 1000000 by omega)
  have IH := ae.mk fun (k : ai) (hk : k ∈ L0) P A cc w h => ih k (by have := qg hk; omega) (by omega) P A cc w h
  generalize jI c = kr at hL0 EL
  obtain ⟨L, en⟩ := kr
  obtain ⟨ck, ⟨cx, cy, cw, ch⟩, aj, l⟩ := c
  simp only [] at S hL0 EL ⊢
  have Px := ae.mk EL
  have IU := ae.mk hL0
  clear ih hc hN hv hsz hks EL hL0 hlen
  go_enter Try.func154, Try.ntmps154
  go_upto_if 13 with (first
   | ((with_reducible refine az 1 rfl ?_); refine boxS 1 #[.int .u8 ck, .int .i64 cx, .int .i64 cy, .int .i64 cw, .int .i64 ch, .int .i64 aj, .slice A l.length cc] 26 S ?_; clear S; intro b1 fF S)
   | ((with_reducible refine az 2 rfl ?_); refine boxS 2 #[.int .u8 0, .int .i64 0, .int .i64 0, .int .i64 0, .int .i64 0, .int .i64 0, .slice none 0 0] 26 S ?_; clear S; intro b2 iw S; obtain ⟨bG, dV, dW, dZ, d_, fC, b_⟩ := St.iJ S (.tail _ (.head _)))
   | ((with_reducible refine az 9 rfl ?_); refine uj (some 9) Try.func156 (Px.out _ _ A cc (fK (S.out.tree _ (.head _)))) ?_; rintro e jT ⟨Ak, ck', rfl, h1, hb⟩; refine ⟨_, rfl, ?_⟩; replace S := ae.mk (S.out.res h1 hb); clear h1 hb; clear bG dV dW dZ d_ fC b_)
   | fail)
  (try simp only [Act.put, List.setIfInBounds_toArray, List.set_cons_zero, List.set_cons_succ])
  go_cut [3] (fun v3 wc => ∃ A0 c0, v3 = .slice A0 L0.length c0 ∧ ae (St w P [(some b2, .cells #[.int .u8 0, .int .i64 0, .int .i64 0, .int .i64 0, .int .i64 0, .int .i64 0, .slice none 0 0] 26 (0, 0)), (some b1, .cells #[.int .u8 ck, .int .i64 cx, .int .i64 cy, .int .i64 cw, .int .i64 ch, .int .i64 aj, .slice A l.length cc] 26 (0, 0))] [] [(.slice A0 L0.length c0, L0)] [] wc))
  case first =>
   by_cases hen : en = 0
   ·have hl : L0 = L := by rw [IU.out, if_pos hen]
    have hed : decide (en = 0) = true := decide_eq_true hen
    have heb : (en == 0) = true := beq_iff_eq.mpr hen
    have hec : (en != 0) = false := by rw [hen]; rfl
    go_wp2
    go_meet
    case rel => rw [hl]; exact ⟨_, _, rfl, ⟨S.out.Iw (.head _)⟩⟩
   ·have hl : L0 = l := by rw [IU.out, if_neg hen]
    have hed : decide (en = 0) = false := decide_eq_false hen
    have heb : (en == 0) = false := beq_eq_false_iff_ne.mpr hen
    have hec : (en != 0) = true := bne_iff_ne.mpr hen
    have b_ := (S.out.at (.tail _ (.head _)) 6).trans rfl
    go_wp2
    clear b_
    go_meet
    case rel => rw [hl]; exact ⟨_, _, rfl, ⟨S.out.Iw (.tail _ (.head _))⟩⟩
  case rest =>
   clear S Px IU
   obtain ⟨A0, c0, rfl, S⟩ := hcut
   rename World => wx
   go_wp2_with (first
    | ((with_reducible refine aC (N := 16) rfl ?_); refine xJ (N := 16) rfl rfl S.out ?hr ?_; (case hr => first | (go_simp; done) | (go_simp; rfl)); intro aeG aeU lQ S1; replace S := ae.mk S1; clear S1)
    | fail)
   go_loopg [5, 19] L0.length (fun gg v5 v19 wr => ∃ (pre rest : List ai) (Ap : Option Addr) (cp : Nat), v5 = .slice Ap pre.length cp ∧ v19 = .int .i64 (pre.length : Int) ∧ ae (pre ++ rest = L0) ∧ rest.length ≤ gg ∧ ae (St w P [(some b2, .cells #[.int .u8 0, .int .i64 0, .int .i64 0, .int .i64 0, .int .i64 0, .int .i64 0, .slice none 0 0] 26 (0, 0)), (some b1, .cells #[.int .u8 ck, .int .i64 cx, .int .i64 cy, .int .i64 cw, .int .i64 ch, .int .i64 aj, .slice A l.length cc] 26 (0, 0))] [(.slice Ap pre.length cp, (pre.map (cZ N)))] [(.slice A0 L0.length c0, L0)] [] wr))
   case atStart => exact ⟨[], L0, _, _, rfl, rfl, ⟨rfl⟩, Nat.le_refl _, ⟨S.out⟩⟩
   case round =>
    clear S
    obtain ⟨pre, rest, Ap, cp, rfl, rfl, HE, hgg, S⟩ := hrel
    cases rest with
    | nil =>
     have hE := HE.out
     rw [List.append_nil] at hE
     have hE2 := hE.symm
     subst hE2
     clear hE HE hgg
     have hlt : ¬ ((L0.length : Int) < (L0.length : Int)) := by omega
     go_wp2_with (first
      | ((with_reducible refine fP 24 (.tmp 32) (.tmp 31) rfl ?_); refine wM 24 32 31 #[.int .u8 ck, .int .i64 cx, .int .i64 cy, .int .i64 cw, .int .i64 ch, .int .i64 aj, .slice Ap L0.length cp] 6 1 S ?_; clear S; intro tC S; obtain ⟨bG, dV, dW, dZ, d_, fC, b_⟩ := St.iJ S (.tail _ (.head _)))
      | ((with_reducible refine fP 26 (.tmp 2) (.tmp 33) rfl ?_); refine kD 26 2 33 #[.int .u8 ck, .int .i64 cx, .int .i64 cy, .int .i64 cw, .int .i64 ch, .int .i64 aj, .slice Ap L0.length cp] 0 7 S ?_; clear S; intro Cc S; clear bG dV dW dZ d_ fC b_)
      | fail)
     refine bodyPost_ret (results_cell_row rfl _ _ b2 26 #[.int .u8 ck, .int .i64 cx, .int .i64 cy, .int .i64 cw, .int .i64 ch, .int .i64 aj, .slice Ap L0.length cp] (0, 0) _ rfl (S.out.blk _ (.head _) _ rfl) Try.underlying26 rfl (by kernel_rfl)) rfl ?_
     have hN := S.out.uY
     simp only [tY, List.length_map]
     exact ⟨_, _, rfl, hN, S.out.below⟩
    | cons k rest =>
     have hk : k ∈ L0 := by rw [← HE.out]; simp
     have hlt : (pre.length : Int) < (L0.length : Int) := by rw [← HE.out, List.length_append, List.length_cons]; omega
     have hw1 : wrap64 ((pre.length : Int) + 1) = ((pre ++ [k]).length : Int) := by have := gy.out; rw [List.length_append, List.length_singleton]; unfold wrap64; omega
     have HW1 := ae.mk hw1
     have jd := ae.mk hgg
     have HK := ae.mk hk
     have qB := ae.mk (show pre.length ≤ 1000000 by have := gy.out; omega)
     obtain ⟨iO, ua, uc, ek, S1⟩ := S.out.elem (.head _) (pre.length : Int) (Int.natCast_nonneg _) hlt
     subst ek
     have hrd : aI L0 (pre.length : Int) = k := by rw [← HE.out]; exact iZ pre k rest
     rw [hrd] at S1
     simp only [Int.toNat_natCast] at S1
     replace S := ae.mk S1
     clear S1 hrd hk hgg hw1
     obtain ⟨jB, jb, jc, iG, iH, jM, jO⟩ := St.yD S
     go_wp2_with (first
      | ((with_reducible refine az 27 rfl ?_); refine uk (some 27) Try.func154 S (IH.out k HK.out _ ua uc _ (fK (S.out.tree _ (.head _)))) ?_; clear S; intro A27 ai1 AB S; clear jB jb jc iG iH jM jO)
      | ((with_reducible refine aC (N := 29) rfl ?_); at_builtin; go_loud (refine xe (.tmp 22) (.tmp 28) rfl rfl Try.underlying24 info26 S.out (cZ N k) (.head _) rfl (by first | (go_simp; done) | (go_simp; rfl)) (by have := qB.out; rw [List.length_map]; omega) ?_); intro Aq cq Fb S1; rw [show pre.map (cZ N) ++ [cZ N k] = (pre ++ [k]).map (cZ N) by simp] at S1 ⊢; rw [List.length_map] at S1 ⊢; replace S := ae.mk S1; clear S1)
      | fail)
     have hw1 := HW1.out
     go_wp2
     go_roundg rest.length
     case measure => exact Nat.lt_of_lt_of_le (Nat.lt_succ_self _) jd.out
     case rel => exact ⟨pre ++ [k], rest, Aq, cq, (by simp), (by rw [hw1]), ⟨by rw [List.append_assoc]; exact HE.out⟩, Nat.le_refl _, ⟨S.out.bH.bH.aU.aU.aU.aU.aU.aU.aU⟩⟩
def vY.T3 : Bool × List (List Nat × List Nat) := (true, [([], []), ([0], [0]), ([], []), ([2], [2]), ([3], [3]), ([], []), ([5], [5]), ([6], [6]), ([1, 4, 7, 1], [1, 4, 7]), ([8, 8, 0, 1, 2, 3, 4, 5, 6, 7, 8], [8]), ([9, 0, 1, 2, 3, 4, 5, 6, 7, 8, 9], [])])
def vY.B3 : List Nat := [0, 1, 0, 4, 12, 0, 32, 96, 255, 511, 1023]
theorem vY.BX : iP .any (opsOf Try.f108 3) = vY.T3 := by kernel_rfl
theorem vY.yA : iL vY.T3.2 vY.B3 = true := by kernel_rfl
theorem YG (c : ai) (hz : sz c ≤ 1048576) (P : Nat → Prop) (A : Option Addr) (cc : Nat) (w : World) (hv : Kd.V k26 26 w w.heap.size P (.slice A c.f3.length cc) c.f3) :
  Calls Try.prog 108 #[.agg #[.int .u8 c.f0, .int .i64 c.f1.f0, .int .i64 c.f1.f1, .int .i64 c.f1.f2, .int .i64 c.f1.f3, .int .i64 c.f2, .slice A c.f3.length cc]] w (yu w P (nX c) (NL c)) := by
 have S := ae.mk (St.start (ts := [(.slice A c.f3.length cc, c.f3)]) (b0 := w.heap.size) (w := w) (P := P) (fun t ht => by rw [List.mem_singleton.1 ht]; exact hv))
 have HZ := ae.mk hz
 have hs := fun h => oW (qO (c := c) h)
 unfold nX NL
 obtain ⟨ck, ⟨cx, cy, cw, ch⟩, aj, l⟩ := c
 simp only [] at S ⊢
 clear hv hz
 cases ht : fB ⟨ck, ⟨cx, cy, cw, ch⟩, aj, l⟩ with
 | false =>
  have HT := ae.mk ht
  clear ht hs
  go_enter Try.func108, Try.ntmps108
  go_wp2_with (first
   | ((with_reducible refine az 1 rfl ?_); refine boxS 1 #[.int .u8 ck, .int .i64 cx, .int .i64 cy, .int .i64 cw, .int .i64 ch, .int .i64 aj, .slice A l.length cc] 26 S ?_; clear S; intro b1 fF S)
   | ((with_reducible refine az 2 rfl ?_); refine boxS 2 #[.int .u8 0, .int .i64 0, .int .i64 0, .int .i64 0, .int .i64 0, .int .i64 0, .slice none 0 0] 26 S ?_; clear S; intro b2 iw S; obtain ⟨bG, dV, dW, dZ, d_, fC, b_⟩ := St.iJ S (.tail _ (.head _)))
   | ((with_reducible refine az 5 rfl ?_); refine dN (some 5) Try.func84 S (qh HT.out (vk ⟨ck, ⟨cx, cy, cw, ch⟩, aj, l⟩ HZ.out (S.out.tree _ (.head _)))) ?_; clear S; intro jT S; clear bG dV dW dZ d_ fC b_)
   | ((with_reducible refine fP 26 (.tmp 2) (.tmp 7) rfl ?_); refine kD 26 2 7 #[.int .u8 0, .int .i64 0, .int .i64 0, .int .i64 0, .int .i64 0, .int .i64 0, .slice none 0 0] 0 7 S ?_; clear S; intro lQ S)
   | fail)
  refine bodyPost_ret (gJ rfl _ _ b2 26 #[.int .u8 0, .int .i64 0, .int .i64 0, .int .i64 0, .int .i64 0, .int .i64 0, .slice none 0 0] (0, 0) _ rfl (S.out.blk _ (.head _) _ rfl) Try.underlying26 rfl (by kernel_rfl)) rfl ?_
  exact ⟨_, _, rfl, Kd.qm _ _ _ _ _, S.out.below⟩
 | true =>
  have hs2 := hs ht
  have HZ2 := ae.mk (show sz ⟨ck, ⟨cx, cy, cw, ch⟩, aj, l⟩ ≤ 100000 by omega)
  have HZ3 := ae.mk (show sz (cZ 100000 ⟨ck, ⟨cx, cy, cw, ch⟩, aj, l⟩) ≤ 1000000 by have := Ky 100000 ⟨ck, ⟨cx, cy, cw, ch⟩, aj, l⟩; omega)
  have HT := ae.mk ht
  clear ht hs hs2
  go_enter Try.func108, Try.ntmps108
  go_wp2_with (first
   | ((with_reducible refine az 1 rfl ?_); refine boxS 1 #[.int .u8 ck, .int .i64 cx, .int .i64 cy, .int .i64 cw, .int .i64 ch, .int .i64 aj, .slice A l.length cc] 26 S ?_; clear S; intro b1 fF S)
   | ((with_reducible refine az 2 rfl ?_); refine boxS 2 #[.int .u8 0, .int .i64 0, .int .i64 0, .int .i64 0, .int .i64 0, .int .i64 0, .slice none 0 0] 26 S ?_; clear S; intro b2 iw S; obtain ⟨bG, dV, dW, dZ, d_, fC, b_⟩ := St.iJ S (.tail _ (.head _)))
   | ((with_reducible refine az 5 rfl ?_); refine dN (some 5) Try.func84 S (qh HT.out (vk ⟨ck, ⟨cx, cy, cw, ch⟩, aj, l⟩ HZ.out (S.out.tree _ (.head _)))) ?_; clear S; intro jT S; clear bG dV dW dZ d_ fC b_)
   | fail)
  refine jA (n := 11) (S := fun w' => St w _ _ _ _ _ w') (ds := [9]) (bA 11 0) (by kernel_rfl) rfl rfl (S.out.call (bF (Below.refl _ _))) (fun hHeld => ?_); refine f_ vY.BX vY.yA (fun au eF => ?_)
  replace S := ae.mk (S.out.call (bF (Below.refl _ _)))
  generalize jT.drew = wd4 at S hHeld ⊢
  refine dJ 0 8 (bA 11 1) au eF hHeld ?_ (hv := by intro w' hs_; have bG := (hs_.at (.tail _ (.head _)) 0).trans rfl; have dV := (hs_.at (.tail _ (.head _)) 1).trans rfl; have dW := (hs_.at (.tail _ (.head _)) 2).trans rfl; have dZ := (hs_.at (.tail _ (.head _)) 3).trans rfl; have d_ := (hs_.at (.tail _ (.head _)) 4).trans rfl; have fC := (hs_.at (.tail _ (.head _)) 5).trans rfl; have b_ := (hs_.at (.tail _ (.head _)) 6).trans rfl; go_simp; with_reducible rfl)
  refine aG 2 10 (bA 11 5) au ?_
  refine aG 3 11 (bA 11 13) au ?_
  refine dJ 4 12 (bA 11 29) au eF hHeld ?_ (hv := by intro w' hs_; have dV := (hs_.at (.tail _ (.head _)) 1).trans rfl; go_simp; with_reducible rfl)
  refine aG 5 13 (bA 11 61) au ?_
  refine aG 6 14 (bA 11 125) au ?_
  refine dJ 7 15 (bA 11 253) au eF hHeld ?_ (hv := by intro w' hs_; have dW := (hs_.at (.tail _ (.head _)) 2).trans rfl; go_simp; with_reducible rfl)
  refine gZ (i := 1) (N := some 9) (bA 11 255) rfl rfl (dG au.out (by kernel_rfl)) (by decide) (fun K hK => ?_)
  refine fM Try.func154 (by kernel_rfl) rfl #[.agg #[.int .u8 ck, .int .i64 cx, .int .i64 cy, .int .i64 cw, .int .i64 ch, .int .i64 aj, .slice A l.length cc]] (by rfl) rfl rfl (by (try simp only [List.map_toArray, List.map_cons, List.map_nil]); first | done | rfl) ?_
  refine (YH 100000 ⟨ck, ⟨cx, cy, cw, ch⟩, aj, l⟩ HZ2.out (Nat.le_refl _) _ A cc _ (fK (S.out.tree _ (.head _)))).mono ?_
  rintro e tC ⟨A9, cA9, rfl, h1, hb⟩
  refine ⟨_, rfl, ?_⟩
  replace S := ae.mk (S.out.res (Kd.rG (base' := 0) h1) hb)
  clear h1 hb
  refine hK.out _ _ S.out.bH (fun hHeld => ?_)
  clear hK K
  refine ed 9 ?_
  refine gZ (i := 8) (N := some 16) (bA 11 511) rfl rfl (dG au.out (by kernel_rfl)) (by decide) (fun K hK => ?_)
  refine fM Try.func67 (by kernel_rfl) rfl #[.agg #[.int .u8 ((cZ 100000 ⟨ck, ⟨cx, cy, cw, ch⟩, aj, l⟩).f0), .int .i64 ((cZ 100000 ⟨ck, ⟨cx, cy, cw, ch⟩, aj, l⟩).f1.f0), .int .i64 ((cZ 100000 ⟨ck, ⟨cx, cy, cw, ch⟩, aj, l⟩).f1.f1), .int .i64 ((cZ 100000 ⟨ck, ⟨cx, cy, cw, ch⟩, aj, l⟩).f1.f2), .int .i64 ((cZ 100000 ⟨ck, ⟨cx, cy, cw, ch⟩, aj, l⟩).f1.f3), .int .i64 ((cZ 100000 ⟨ck, ⟨cx, cy, cw, ch⟩, aj, l⟩).f2), .slice A9 ((cZ 100000 ⟨ck, ⟨cx, cy, cw, ch⟩, aj, l⟩).f3.length) cA9], .int .i64 cx, .int .i64 cy] (by rfl) rfl rfl (by (try simp only [List.map_toArray, List.map_cons, List.map_nil]); first | done | rfl) ?_
  refine (EW (cZ 100000 ⟨ck, ⟨cx, cy, cw, ch⟩, aj, l⟩) cx cy HZ3.out (S.out.tree _ (.head _))).mono ?_
  rintro e Cc ⟨G7, NV, rfl, h1, hb⟩
  refine ⟨_, rfl, ?_⟩
  replace S := ae.mk (S.out.Gq h1 hb)
  clear h1 hb
  refine hK.out _ _ S.out.free.bH.bH (fun hHeld => ?_)
  clear hK K
  refine ed 16 ?_
  refine qX (i := 9) (N := none) (bA 11 1023) rfl rfl (dG au.out (by kernel_rfl)) (by decide) (fun K hK => ?_)
  refine xk 0 rfl 26 (.tmp 2) (.tmp 16) rfl #[.int .u8 ((aQ (cZ 100000 ⟨ck, ⟨cx, cy, cw, ch⟩, aj, l⟩) cx cy).f0), .int .i64 ((aQ (cZ 100000 ⟨ck, ⟨cx, cy, cw, ch⟩, aj, l⟩) cx cy).f1.f0), .int .i64 ((aQ (cZ 100000 ⟨ck, ⟨cx, cy, cw, ch⟩, aj, l⟩) cx cy).f1.f1), .int .i64 ((aQ (cZ 100000 ⟨ck, ⟨cx, cy, cw, ch⟩, aj, l⟩) cx cy).f1.f2), .int .i64 ((aQ (cZ 100000 ⟨ck, ⟨cx, cy, cw, ch⟩, aj, l⟩) cx cy).f1.f3), .int .i64 ((aQ (cZ 100000 ⟨ck, ⟨cx, cy, cw, ch⟩, aj, l⟩) cx cy).f2), .slice G7 ((aQ (cZ 100000 ⟨ck, ⟨cx, cy, cw, ch⟩, aj, l⟩) cx cy).f3.length) NV] (j := 0) (u := .agg #[.int .u8 ((aQ (cZ 100000 ⟨ck, ⟨cx, cy, cw, ch⟩, aj, l⟩) cx cy).f0), .int .i64 ((aQ (cZ 100000 ⟨ck, ⟨cx, cy, cw, ch⟩, aj, l⟩) cx cy).f1.f0), .int .i64 ((aQ (cZ 100000 ⟨ck, ⟨cx, cy, cw, ch⟩, aj, l⟩) cx cy).f1.f1), .int .i64 ((aQ (cZ 100000 ⟨ck, ⟨cx, cy, cw, ch⟩, aj, l⟩) cx cy).f1.f2), .int .i64 ((aQ (cZ 100000 ⟨ck, ⟨cx, cy, cw, ch⟩, aj, l⟩) cx cy).f1.f3), .int .i64 ((aQ (cZ 100000 ⟨ck, ⟨cx, cy, cw, ch⟩, aj, l⟩) cx cy).f2), .slice G7 ((aQ (cZ 100000 ⟨ck, ⟨cx, cy, cw, ch⟩, aj, l⟩) cx cy).f3.length) NV]) (bI := [.int .u8 ((aQ (cZ 100000 ⟨ck, ⟨cx, cy, cw, ch⟩, aj, l⟩) cx cy).f0), .int .i64 ((aQ (cZ 100000 ⟨ck, ⟨cx, cy, cw, ch⟩, aj, l⟩) cx cy).f1.f0), .int .i64 ((aQ (cZ 100000 ⟨ck, ⟨cx, cy, cw, ch⟩, aj, l⟩) cx cy).f1.f1), .int .i64 ((aQ (cZ 100000 ⟨ck, ⟨cx, cy, cw, ch⟩, aj, l⟩) cx cy).f1.f2), .int .i64 ((aQ (cZ 100000 ⟨ck, ⟨cx, cy, cw, ch⟩, aj, l⟩) cx cy).f1.f3), .int .i64 ((aQ (cZ 100000 ⟨ck, ⟨cx, cy, cw, ch⟩, aj, l⟩) cx cy).f2), .slice G7 ((aQ (cZ 100000 ⟨ck, ⟨cx, cy, cw, ch⟩, aj, l⟩) cx cy).f3.length) NV]) S.out (by rfl) rfl rfl rfl rfl (by kernel_rfl) (by simp [Value.oneCell']) (by first | decide | simp) rfl ?_
  intro AB S1
  simp only [List.set_cons_zero, List.set_cons_succ] at S1
  replace S := ae.mk S1
  clear S1
  refine hK.out _ _ ?_
  clear hK K
  refine aG 10 3 (bA 11 2047) au ?_
  refine kG (iK au.out (by kernel_rfl)) ?_
  clear hHeld
  go_wp2
  refine bodyPost_ret (gJ rfl _ _ b2 26 #[.int .u8 ((aQ (cZ 100000 ⟨ck, ⟨cx, cy, cw, ch⟩, aj, l⟩) cx cy).f0), .int .i64 ((aQ (cZ 100000 ⟨ck, ⟨cx, cy, cw, ch⟩, aj, l⟩) cx cy).f1.f0), .int .i64 ((aQ (cZ 100000 ⟨ck, ⟨cx, cy, cw, ch⟩, aj, l⟩) cx cy).f1.f1), .int .i64 ((aQ (cZ 100000 ⟨ck, ⟨cx, cy, cw, ch⟩, aj, l⟩) cx cy).f1.f2), .int .i64 ((aQ (cZ 100000 ⟨ck, ⟨cx, cy, cw, ch⟩, aj, l⟩) cx cy).f1.f3), .int .i64 ((aQ (cZ 100000 ⟨ck, ⟨cx, cy, cw, ch⟩, aj, l⟩) cx cy).f2), .slice G7 ((aQ (cZ 100000 ⟨ck, ⟨cx, cy, cw, ch⟩, aj, l⟩) cx cy).f3.length) NV] (0, 0) _ rfl (S.out.blk _ (.head _) _ rfl) Try.underlying26 rfl (by kernel_rfl)) rfl ?_
  exact ⟨_, _, rfl, S.out.uY, S.out.below⟩
end Go.Proofs.Ytfdmfgaiblfbhaa.P
namespace Go.Proofs.Ytfdmfgaiblfbhaa.P
open Go.Shelf
def aiM : Ren := ⟨fun f => match f with | 21 => 150 | 27 => 181 | 28 => 182 | 35 => 198 | 39 => 208 | n => n, fun t => match t with | 22 => 41 | n => n, fun g => g⟩
end Go.Proofs.Ytfdmfgaiblfbhaa.P
namespace Go.Proofs.Ytfdmfgaiblfbhaa.P
open Go.RowKit Go.Shelf Go.Proofs.ag.aV Go.Proofs.ag.bM Go.Proofs.ag.di
end Go.Proofs.Ytfdmfgaiblfbhaa.P
namespace Go.Proofs.Ytfdmfgaiblfbhaa.P
open Go.RowKit Go.Proofs.ag.aV Go.Proofs.ag.bM Go.Proofs.ag.di
section
variable {P : Program} {ops : Array Oper} {rest : List Oper} {o : Oper} {a : Act} {Q : Exit → Act → World → Prop}
end
mutual
def N_ (id : Int) : ai → Option (List Int)
 | ⟨a, _, d, l⟩ => if a = 1 ∧ d = id then some [] else VH id 0 l
def VH (id : Int) : Nat → List ai → Option (List Int)
 | _, [] => none
 | i, k :: ks => match N_ id k with
  | some p => some ((i : Int) :: p)
  | none => VH id (i + 1) ks
end
def ail (w : World) (r : Option (List Int)) (e : Ending) (w' : World) : Prop := ∃ v : Value, e = .returned (.tuple #[v, .bool r.isSome]) ∧ (Kd.int .i64).R 3 w' w.heap.size (fun _ => True) v (r.getD []) ∧ Below w.heap.size w w'
def aeq.f (a0 a1 a2 a3 a4 a5 : Int) (l : List ai) (id : Int) : Option (List Int × Bool) := if sz ⟨a0, ⟨a1, a2, a3, a4⟩, a5, l⟩ ≤ 1000000 then some ((N_ id ⟨a0, ⟨a1, a2, a3, a4⟩, a5, l⟩).getD [], (N_ id ⟨a0, ⟨a1, a2, a3, a4⟩, a5, l⟩).isSome) else none
end Go.Proofs.Ytfdmfgaiblfbhaa.P
namespace Go.Proofs.Ytfdmfgaiblfbhaa.P
open Go.RowKit Go.Proofs.ag.aV Go.Proofs.ag.bM Go.Proofs.ag.di
attribute [local go_sem] kC kP lh lU jR jS kN kQ
def aer.f (ay : Int) (aJ : Int) (aA : Int) (aH : Int) (a1 : Int) : Option (Int × Int × Int × Int × Int × Int × (List (ai))) := some (1, ay, aJ, aA, aH, a1, ([] : List (ai)))
mutual
def yC.l0 : Nat → Int → List (ai) → Int → Int → Option (Int)
 | 0, _, _, _, _ => none
 | k + 1, x3, x8, x9, x10 => if x10 < x9 then (if 0 ≤ x10 then (if x10 < (x8.length : Int) then ((yC.f k ((aI x8 x10).f3)).bind fun afr => (yC.l0 k (wrap64 (x3 + afr)) x8 x9 (wrap64 (x10 + 1)))) else (none)) else (none)) else (some x3)
def yC.f : Nat → List (ai) → Option (Int)
 | 0, _ => none
 | k + 1, l0 => yC.l0 k (l0.length : Int) l0 (l0.length : Int) 0
end
end Go.Proofs.Ytfdmfgaiblfbhaa.P
namespace Go.Proofs.Ytfdmfgaiblfbhaa.P
open Go.RowKit Go.Proofs.ag.aV Go.Proofs.ag.bM Go.Proofs.ag.di
def WB.T2 : Bool × List (List Nat × List Nat) := (true, [([], []), ([], []), ([1], [1]), ([], []), ([3, 2], [3]), ([2, 4], [2, 4]), ([0, 5], [0, 5]), ([], []), ([7, 6, 4, 0, 1, 2, 3, 4, 5, 6, 7], [6, 7])])
def WB.B2 : List Nat := [0, 0, 2, 0, 14, 30, 63, 0, 255]
def VW.f : Option Bool := some true
def vI.T6 : Bool × List (List Nat × List Nat) := (true, [([], []), ([0], [0]), ([], []), ([1, 2], [1, 2]), ([3], [3]), ([], []), ([5], [5]), ([], []), ([6, 7], [6, 7]), ([8], [8]), ([4, 9], [4, 9]), ([10], [10])])
def vI.B6 : List Nat := [0, 1, 0, 7, 15, 0, 32, 0, 224, 480, 1023, 2047]
theorem vI.tab6 : iP .any (opsOf Try.f64 6) = vI.T6 := by kernel_rfl
theorem vI.CJ : iL vI.T6.2 vI.B6 = true := by kernel_rfl
theorem RI {x y : ai} {v : Bool} {args : Array Value} {W : World} (h : r_ x y = v) (hc : Calls Try.prog 64 args W fun e w' => e = .returned (.bool (r_ x y)) ∧ Below W.heap.size W w') : Calls Try.prog 64 args W fun e w' => e = .returned (.bool v) ∧ Below W.heap.size W w' := by
 rw [h] at hc
 exact hc
theorem HY : ∀ (a a' b b' : List ai), a.length = a'.length → qY (a ++ b) (a' ++ b') = (qY a a' && qY b b') := by
 intro a
 induction a with
 | nil => intro a' b b' h; cases a' with
  | nil => rw [vV]; rfl
  | cons y ys => simp at h
 | cons x xs ih =>
  intro a' b b' h
  cases a' with
  | nil => simp at h
  | cons y ys => rw [List.cons_append, List.cons_append, uA, uA, ih ys b b' (by simpa using h), Bool.and_assoc]
theorem ab_ : ∀ (N : Nat) (c : ai), sz c ≤ N → N ≤ 1048576 → ∀ (d : ai) (P : Nat → Prop) (A : Option Addr) (cc : Nat) (A' : Option Addr) (cc' : Nat) (w : World), Kd.V k26 26 w w.heap.size P (.slice A c.f3.length cc) c.f3 → Kd.V k26 26 w w.heap.size P (.slice A' d.f3.length cc') d.f3 →
  Calls Try.prog 64 #[.agg #[.int .u8 c.f0, .int .i64 c.f1.f0, .int .i64 c.f1.f1, .int .i64 c.f1.f2, .int .i64 c.f1.f3, .int .i64 c.f2, .slice A c.f3.length cc], .agg #[.int .u8 d.f0, .int .i64 d.f1.f0, .int .i64 d.f1.f1, .int .i64 d.f1.f2, .int .i64 d.f1.f3, .int .i64 d.f2, .slice A' d.f3.length cc']] w fun e w' => e = .returned (.bool (r_ c d)) ∧ Below w.heap.size w w' := by
 intro N
 induction N with
 | zero => intro c h; rw [dR] at h; omega
 | succ N ih =>
  intro c hc hN d P A cc A' cc' w hv hv'
  have hsz := dR c
  have hlen := jJ c.f3
  have S := ae.mk (St.start (ts := [(.slice A c.f3.length cc, c.f3), (.slice A' d.f3.length cc', d.f3)]) (b0 := w.heap.size) (w := w) (P := P) (fun t ht => by
   rcases List.mem_cons.1 ht with rfl | ht
   ·exact hv
   ·rw [List.mem_singleton.1 ht]; exact hv'))
  have gy := ae.mk (show c.f3.length ≤ 1048576 by omega)
  have IH := ae.mk fun (k : ai) (hk : k ∈ c.f3) d P A cc A' cc' w h h' => ih k (by have := qg hk; omega) (by omega) d P A cc A' cc' w h h'
  have Em := ae.mk (Kv c d)
  obtain ⟨ck, ⟨cx, cy, cw, ch⟩, aj, l⟩ := c
  obtain ⟨dk, ⟨dx, dy, dw, dh⟩, did, m⟩ := d
  simp only [] at S IH gy Em ⊢
  clear ih hc hN hv hv' hsz hlen
  by_cases hk : ck = dk
  case neg =>
   have hkb : (ck == dk) = false := beq_eq_false_iff_ne.mpr hk
   have hkc : (ck != dk) = true := bne_iff_ne.mpr hk
   have hkd : decide (ck = dk) = false := decide_eq_false hk
   have HB := ae.mk hkb
   clear hk
   go_enter Try.func64, Try.ntmps64
   go_wp2_with (first
    | ((with_reducible refine az 2 rfl ?_); refine boxS 2 #[.int .u8 ck, .int .i64 cx, .int .i64 cy, .int .i64 cw, .int .i64 ch, .int .i64 aj, .slice A l.length cc] 26 S ?_; clear S; intro b2 fF S)
    | ((with_reducible refine az 3 rfl ?_); refine boxS 3 #[.int .u8 dk, .int .i64 dx, .int .i64 dy, .int .i64 dw, .int .i64 dh, .int .i64 did, .slice A' m.length cc'] 26 S ?_; clear S; intro b3 iw S; have jZ := (S.out.at (.tail _ (.head _)) 0).trans rfl; have bT := (S.out.at (.head _) 0).trans rfl)
    | fail)
   clear jZ bT
   go_ret
   refine ⟨?_, S.out.below⟩
   rw [Em.out]
   rw [HB.out, Bool.false_and]
   rfl
  subst hk
  have hkb : (ck != ck) = false := bne_self_eq_false _
  by_cases hr : mf ⟨cx, cy, cw, ch⟩ ⟨dx, dy, dw, dh⟩ = true
  case neg =>
   have HB := ae.mk (Bool.eq_false_iff.mpr hr)
   clear hr
   go_enter Try.func64, Try.ntmps64
   go_wp2_with (first
    | ((with_reducible refine az 2 rfl ?_); refine boxS 2 #[.int .u8 ck, .int .i64 cx, .int .i64 cy, .int .i64 cw, .int .i64 ch, .int .i64 aj, .slice A l.length cc] 26 S ?_; clear S; intro b2 fF S)
    | ((with_reducible refine az 3 rfl ?_); refine boxS 3 #[.int .u8 ck, .int .i64 dx, .int .i64 dy, .int .i64 dw, .int .i64 dh, .int .i64 did, .slice A' m.length cc'] 26 S ?_; clear S; intro b3 iw S; have jZ := (S.out.at (.tail _ (.head _)) 0).trans rfl; have bT := (S.out.at (.head _) 0).trans rfl; have lG := (S.out.at (.tail _ (.head _)) 1).trans rfl; have lH := (S.out.at (.tail _ (.head _)) 2).trans rfl; have lI := (S.out.at (.tail _ (.head _)) 3).trans rfl; have lJ := (S.out.at (.tail _ (.head _)) 4).trans rfl; have bU := (S.out.at (.head _) 1).trans rfl; have bV := (S.out.at (.head _) 2).trans rfl; have bW := (S.out.at (.head _) 3).trans rfl; have eG := (S.out.at (.head _) 4).trans rfl)
    | fail)
   clear jZ bT lG lH lI lJ bU bV bW eG
   all_goals (first | (exfalso; have h := HB.out; clear S; simp [mf, *] at h; done) | (go_ret; refine ⟨?_, S.out.below⟩; rw [Em.out, HB.out, Bool.false_and, Bool.and_false]; rfl))
  have HR := ae.mk hr
  unfold mf at hr
  simp only [Bool.and_eq_true, beq_iff_eq] at hr
  obtain ⟨rfl, rfl, rfl, rfl⟩ := hr
  by_cases hi : aj = did
  case neg =>
   have hib : (aj == did) = false := beq_eq_false_iff_ne.mpr hi
   have hic : (aj != did) = true := bne_iff_ne.mpr hi
   have hid : decide (aj = did) = false := decide_eq_false hi
   have HB := ae.mk hib
   clear hi
   go_enter Try.func64, Try.ntmps64
   go_wp2_with (first
    | ((with_reducible refine az 2 rfl ?_); refine boxS 2 #[.int .u8 ck, .int .i64 cx, .int .i64 cy, .int .i64 cw, .int .i64 ch, .int .i64 aj, .slice A l.length cc] 26 S ?_; clear S; intro b2 fF S)
    | ((with_reducible refine az 3 rfl ?_); refine boxS 3 #[.int .u8 ck, .int .i64 cx, .int .i64 cy, .int .i64 cw, .int .i64 ch, .int .i64 did, .slice A' m.length cc'] 26 S ?_; clear S; intro b3 iw S; have jZ := (S.out.at (.tail _ (.head _)) 0).trans rfl; have bT := (S.out.at (.head _) 0).trans rfl; have lG := (S.out.at (.tail _ (.head _)) 1).trans rfl; have lH := (S.out.at (.tail _ (.head _)) 2).trans rfl; have lI := (S.out.at (.tail _ (.head _)) 3).trans rfl; have lJ := (S.out.at (.tail _ (.head _)) 4).trans rfl; have bU := (S.out.at (.head _) 1).trans rfl; have bV := (S.out.at (.head _) 2).trans rfl; have bW := (S.out.at (.head _) 3).trans rfl; have eG := (S.out.at (.head _) 4).trans rfl; have nJ := (S.out.at (.tail _ (.head _)) 5).trans rfl; have fO := (S.out.at (.head _) 5).trans rfl)
    | fail)
   clear jZ bT lG lH lI lJ bU bV bW eG nJ fO
   go_ret
   refine ⟨?_, S.out.below⟩
   rw [Em.out]
   rw [HB.out, Bool.false_and, Bool.and_false, Bool.and_false]
   rfl
  subst hi
  have hib : (aj != aj) = false := bne_self_eq_false _
  by_cases hl : l.length = m.length
  case neg =>
   have hl2 : ¬ ((l.length : Int) = (m.length : Int)) := by omega
   have abx : ((l.length : Int) == (m.length : Int)) = false := beq_eq_false_iff_ne.mpr hl2
   have aby : ((l.length : Int) != (m.length : Int)) = true := bne_iff_ne.mpr hl2
   have abz : decide ((l.length : Int) = (m.length : Int)) = false := decide_eq_false hl2
   have hl3 : (l.length == m.length) = false := beq_eq_false_iff_ne.mpr hl
   have hl4 : decide (l.length = m.length) = false := decide_eq_false hl
   have hl5 : (l.length != m.length) = true := bne_iff_ne.mpr hl
   have HB := ae.mk hl3
   clear hl hl2
   go_enter Try.func64, Try.ntmps64
   go_wp2_with (first
    | ((with_reducible refine az 2 rfl ?_); refine boxS 2 #[.int .u8 ck, .int .i64 cx, .int .i64 cy, .int .i64 cw, .int .i64 ch, .int .i64 aj, .slice A l.length cc] 26 S ?_; clear S; intro b2 fF S)
    | ((with_reducible refine az 3 rfl ?_); refine boxS 3 #[.int .u8 ck, .int .i64 cx, .int .i64 cy, .int .i64 cw, .int .i64 ch, .int .i64 aj, .slice A' m.length cc'] 26 S ?_; clear S; intro b3 iw S; obtain ⟨bT, bU, bV, bW, eG, fO, dH⟩ := St.iJ S (.head _); obtain ⟨jZ, lG, lH, lI, lJ, nJ, jl⟩ := St.iJ S (.tail _ (.head _)))
    | fail)
   clear bT bU bV bW eG fO dH jZ lG lH lI lJ nJ jl
   go_ret
   refine ⟨?_, S.out.below⟩
   rw [Em.out]
   rw [HB.out, Bool.false_and, Bool.and_false, Bool.and_false, Bool.and_false]
   rfl
  have HL := ae.mk hl
  have hl2 : (l.length : Int) = (m.length : Int) := by omega
  have abx : ((l.length : Int) == (m.length : Int)) = true := beq_iff_eq.mpr hl2
  have aby : ((l.length : Int) != (m.length : Int)) = false := bne_eq_false_iff_eq.mpr hl2
  have abz : decide ((l.length : Int) = (m.length : Int)) = true := decide_eq_true hl2
  have hl4 : decide (l.length = m.length) = true := decide_eq_true hl
  have hl5 : (l.length != m.length) = false := bne_eq_false_iff_eq.mpr hl
  clear hl hl2
  go_enter Try.func64, Try.ntmps64
  go_wp2_with (first
   | ((with_reducible refine az 2 rfl ?_); refine boxS 2 #[.int .u8 ck, .int .i64 cx, .int .i64 cy, .int .i64 cw, .int .i64 ch, .int .i64 aj, .slice A l.length cc] 26 S ?_; clear S; intro b2 fF S)
   | ((with_reducible refine az 3 rfl ?_); refine boxS 3 #[.int .u8 ck, .int .i64 cx, .int .i64 cy, .int .i64 cw, .int .i64 ch, .int .i64 aj, .slice A' m.length cc'] 26 S ?_; clear S; intro b3 iw S; obtain ⟨bT, bU, bV, bW, eG, fO, dH⟩ := St.iJ S (.head _); obtain ⟨jZ, lG, lH, lI, lJ, nJ, jl⟩ := St.iJ S (.tail _ (.head _)))
   | fail)
  clear bT bU bV bW eG fO dH jZ lG lH lI lJ nJ jl
  clear hkb hib abx aby abz hl4 hl5
  go_loopg [37] l.length (fun gg v37 wr => ∃ (pre rest pb rb : List ai), v37 = .int .i64 (pre.length : Int) ∧ ae (pre ++ rest = l) ∧ ae (pb ++ rb = m) ∧ ae (pre.length = pb.length) ∧ ae (qY pre pb = true) ∧ rest.length ≤ gg ∧ ae (St w P [(some b3, .cells #[.int .u8 ck, .int .i64 cx, .int .i64 cy, .int .i64 cw, .int .i64 ch, .int .i64 aj, .slice A' m.length cc'] 26 (0, 0)), (some b2, .cells #[.int .u8 ck, .int .i64 cx, .int .i64 cy, .int .i64 cw, .int .i64 ch, .int .i64 aj, .slice A l.length cc] 26 (0, 0))] [] [(.slice A l.length cc, l), (.slice A' m.length cc', m)] [] wr))
  case atStart => exact ⟨[], l, [], m, rfl, ⟨rfl⟩, ⟨rfl⟩, ⟨rfl⟩, ⟨vV _⟩, Nat.le_refl _, ⟨S.out⟩⟩
  case round =>
   clear S
   obtain ⟨pre, rest, pb, rb, rfl, HE, HE2, yX, Lh, hgg, S⟩ := hrel
   have hlr : rest.length = rb.length := by have h1 := congrArg List.length HE.out; have h2 := congrArg List.length HE2.out; rw [List.length_append] at h1 h2; have := yX.out; have := HL.out; omega
   cases rest with
   | nil =>
    have hE := HE.out
    rw [List.append_nil] at hE
    have hE2 := hE.symm
    subst hE2
    have hrb := List.eq_nil_of_length_eq_zero hlr.symm
    subst hrb
    have LQ := HE2.out
    rw [List.append_nil] at LQ
    subst LQ
    clear hE HE HE2 hgg hlr
    have hlt : ¬ ((l.length : Int) < (l.length : Int)) := by omega
    go_wp2
    go_ret
    refine ⟨?_, S.out.below⟩
    rw [Em.out, HR.out, Lh.out, beq_iff_eq.mpr HL.out, beq_self_eq_true, beq_self_eq_true]
    rfl
   | cons k rest =>
    cases rb with
    | nil => simp at hlr
    | cons q rb =>
     have hk : k ∈ l := by rw [← HE.out]; simp
     have hlt : (pre.length : Int) < (l.length : Int) := by rw [← HE.out, List.length_append, List.length_cons]; omega
     have hlt2 : (pre.length : Int) < (m.length : Int) := by rw [← HE2.out, List.length_append, List.length_cons]; have := yX.out; omega
     have hlt3 : pre.length < m.length := by omega
     have hw1 : wrap64 ((pre.length : Int) + 1) = ((pre ++ [k]).length : Int) := by have := gy.out; rw [List.length_append, List.length_singleton]; unfold wrap64; omega
     have HW1 := ae.mk hw1
     have jd := ae.mk hgg
     have HK := ae.mk hk
     obtain ⟨iO, ua, uc, ek, S1⟩ := S.out.elem (.head _) (pre.length : Int) (Int.natCast_nonneg _) hlt
     subst ek
     have hrd : aI l (pre.length : Int) = k := by rw [← HE.out]; exact iZ pre k rest
     rw [hrd] at S1
     simp only [Int.toNat_natCast] at S1
     obtain ⟨adq, va, vc, P9, S2⟩ := S1.elem (.tail _ (.tail _ (.head _))) (pre.length : Int) (Int.natCast_nonneg _) hlt2
     subst P9
     have abG : aI m (pre.length : Int) = q := by rw [← HE2.out, yX.out]; exact iZ pb q rb
     rw [abG] at S2
     simp only [Int.toNat_natCast] at S2
     replace S := ae.mk S2
     clear S1 S2 hrd abG hk hgg hw1 hlr
     cases hsm : r_ k q with
     | false =>
      have HS := ae.mk hsm
      clear hsm
      go_wp2
      refine jA (n := 12) (S := fun w' => St w _ _ _ _ _ w') (ds := []) (bA 12 0) (by kernel_rfl) rfl rfl (S.out.call (bF (Below.refl _ _))) (fun hHeld => ?_); refine f_ vI.tab6 vI.CJ (fun au eF => ?_)
      replace S := ae.mk (S.out.call (bF (Below.refl _ _)))
      generalize wr.drew = wd3 at S hHeld ⊢
      refine aG 0 40 (bA 12 1) au ?_
      refine dJ 1 41 (bA 12 3) au eF hHeld ?_ (hv := by intro w' hs_; have jl := (hs_.at (.tail _ (.head _)) 6).trans rfl; go_simp; with_reducible rfl)
      refine aG 2 42 (bA 12 7) au ?_
      refine aG 3 43 (bA 12 15) au ?_
      refine dJ 4 44 (bA 12 31) au eF hHeld ?_ (hv := by intro w' hs_; have y7_ := (hs_.cell _ (.tail _ (.tail _ (.tail _ (.tail _ (.tail _ (.tail _ (.tail _ (.head _))))))))).1; have y8_ := (hs_.cell _ (.tail _ (.tail _ (.tail _ (.tail _ (.tail _ (.tail _ (.tail _ (.tail _ (.head _)))))))))).1; have y9_ := (hs_.cell _ (.tail _ (.tail _ (.tail _ (.tail _ (.tail _ (.tail _ (.tail _ (.tail _ (.tail _ (.head _))))))))))).1; have afz := (hs_.cell _ (.tail _ (.tail _ (.tail _ (.tail _ (.tail _ (.tail _ (.tail _ (.tail _ (.tail _ (.tail _ (.head _)))))))))))).1; have afA := (hs_.cell _ (.tail _ (.tail _ (.tail _ (.tail _ (.tail _ (.tail _ (.tail _ (.tail _ (.tail _ (.tail _ (.tail _ (.head _))))))))))))).1; have KI := (hs_.cell _ (.tail _ (.tail _ (.tail _ (.tail _ (.tail _ (.tail _ (.tail _ (.tail _ (.tail _ (.tail _ (.tail _ (.tail _ (.head _)))))))))))))).1; have afB := (hs_.cell _ (.tail _ (.tail _ (.tail _ (.tail _ (.tail _ (.tail _ (.tail _ (.tail _ (.tail _ (.tail _ (.tail _ (.tail _ (.tail _ (.head _))))))))))))))).1; go_simp; with_reducible rfl)
      refine aG 5 45 (bA 12 63) au ?_
      refine dJ 6 46 (bA 12 127) au eF hHeld ?_ (hv := by intro w' hs_; have dH := (hs_.at (.head _) 6).trans rfl; go_simp; with_reducible rfl)
      refine aG 7 47 (bA 12 255) au ?_
      refine aG 8 48 (bA 12 511) au ?_
      refine dJ 9 49 (bA 12 1023) au eF hHeld ?_ (hv := by intro w' hs_; have jB := (hs_.cell _ (.head _)).1; have jb := (hs_.cell _ (.tail _ (.head _))).1; have jc := (hs_.cell _ (.tail _ (.tail _ (.head _)))).1; have iG := (hs_.cell _ (.tail _ (.tail _ (.tail _ (.head _))))).1; have iH := (hs_.cell _ (.tail _ (.tail _ (.tail _ (.tail _ (.head _)))))).1; have jM := (hs_.cell _ (.tail _ (.tail _ (.tail _ (.tail _ (.tail _ (.head _))))))).1; have jO := (hs_.cell _ (.tail _ (.tail _ (.tail _ (.tail _ (.tail _ (.tail _ (.head _)))))))).1; go_simp; with_reducible rfl)
      refine gZ (i := 10) (N := some 50) (bA 12 2047) rfl rfl (dG au.out (by kernel_rfl)) (by decide) (fun K hK => ?_)
      refine fM Try.func64 (by kernel_rfl) rfl #[.agg #[.int .u8 k.f0, .int .i64 k.f1.f0, .int .i64 k.f1.f1, .int .i64 k.f1.f2, .int .i64 k.f1.f3, .int .i64 k.f2, .slice ua k.f3.length uc], .agg #[.int .u8 q.f0, .int .i64 q.f1.f0, .int .i64 q.f1.f1, .int .i64 q.f1.f2, .int .i64 q.f1.f3, .int .i64 q.f2, .slice va q.f3.length vc]] (by rfl) rfl rfl (by (try simp only [List.map_toArray, List.map_cons, List.map_nil]); first | done | rfl) ?_
      refine (RI HS.out (IH.out k HK.out q _ ua uc va vc _ (fK (S.out.tree _ (.tail _ (.head _)))) (fK (S.out.tree _ (.head _))))).mono ?_
      rintro e lQ ⟨rfl, hb⟩
      refine ⟨_, rfl, ?_⟩
      replace S := ae.mk (S.out.call hb)
      clear hb
      refine hK.out _ _ S.out (fun hHeld => ?_)
      clear hK K
      refine ed 50 ?_
      refine aG 11 51 (bA 12 4095) au ?_
      refine kG (iK au.out (by kernel_rfl)) ?_
      clear hHeld
      go_wp2
      go_ret
      refine ⟨?_, S.out.below⟩
      rw [Em.out, ← HE.out, ← HE2.out, HY _ _ _ _ yX.out, uA, HS.out, Bool.false_and, Bool.and_false, Bool.and_false, Bool.and_false, Bool.and_false, Bool.and_false]
      rfl
     | true =>
      have HS := ae.mk hsm
      clear hsm
      go_wp2
      refine jA (n := 12) (S := fun w' => St w _ _ _ _ _ w') (ds := []) (bA 12 0) (by kernel_rfl) rfl rfl (S.out.call (bF (Below.refl _ _))) (fun hHeld => ?_); refine f_ vI.tab6 vI.CJ (fun au eF => ?_)
      replace S := ae.mk (S.out.call (bF (Below.refl _ _)))
      generalize wr.drew = wd5 at S hHeld ⊢
      refine aG 0 40 (bA 12 1) au ?_
      refine dJ 1 41 (bA 12 3) au eF hHeld ?_ (hv := by intro w' hs_; have jl := (hs_.at (.tail _ (.head _)) 6).trans rfl; go_simp; with_reducible rfl)
      refine aG 2 42 (bA 12 7) au ?_
      refine aG 3 43 (bA 12 15) au ?_
      refine dJ 4 44 (bA 12 31) au eF hHeld ?_ (hv := by intro w' hs_; have y7_ := (hs_.cell _ (.tail _ (.tail _ (.tail _ (.tail _ (.tail _ (.tail _ (.tail _ (.head _))))))))).1; have y8_ := (hs_.cell _ (.tail _ (.tail _ (.tail _ (.tail _ (.tail _ (.tail _ (.tail _ (.tail _ (.head _)))))))))).1; have y9_ := (hs_.cell _ (.tail _ (.tail _ (.tail _ (.tail _ (.tail _ (.tail _ (.tail _ (.tail _ (.tail _ (.head _))))))))))).1; have afz := (hs_.cell _ (.tail _ (.tail _ (.tail _ (.tail _ (.tail _ (.tail _ (.tail _ (.tail _ (.tail _ (.tail _ (.head _)))))))))))).1; have afA := (hs_.cell _ (.tail _ (.tail _ (.tail _ (.tail _ (.tail _ (.tail _ (.tail _ (.tail _ (.tail _ (.tail _ (.tail _ (.head _))))))))))))).1; have KI := (hs_.cell _ (.tail _ (.tail _ (.tail _ (.tail _ (.tail _ (.tail _ (.tail _ (.tail _ (.tail _ (.tail _ (.tail _ (.tail _ (.head _)))))))))))))).1; have afB := (hs_.cell _ (.tail _ (.tail _ (.tail _ (.tail _ (.tail _ (.tail _ (.tail _ (.tail _ (.tail _ (.tail _ (.tail _ (.tail _ (.tail _ (.head _))))))))))))))).1; go_simp; with_reducible rfl)
      refine aG 5 45 (bA 12 63) au ?_
      refine dJ 6 46 (bA 12 127) au eF hHeld ?_ (hv := by intro w' hs_; have dH := (hs_.at (.head _) 6).trans rfl; go_simp; with_reducible rfl)
      refine aG 7 47 (bA 12 255) au ?_
      refine aG 8 48 (bA 12 511) au ?_
      refine dJ 9 49 (bA 12 1023) au eF hHeld ?_ (hv := by intro w' hs_; have jB := (hs_.cell _ (.head _)).1; have jb := (hs_.cell _ (.tail _ (.head _))).1; have jc := (hs_.cell _ (.tail _ (.tail _ (.head _)))).1; have iG := (hs_.cell _ (.tail _ (.tail _ (.tail _ (.head _))))).1; have iH := (hs_.cell _ (.tail _ (.tail _ (.tail _ (.tail _ (.head _)))))).1; have jM := (hs_.cell _ (.tail _ (.tail _ (.tail _ (.tail _ (.tail _ (.head _))))))).1; have jO := (hs_.cell _ (.tail _ (.tail _ (.tail _ (.tail _ (.tail _ (.tail _ (.head _)))))))).1; go_simp; with_reducible rfl)
      refine gZ (i := 10) (N := some 50) (bA 12 2047) rfl rfl (dG au.out (by kernel_rfl)) (by decide) (fun K hK => ?_)
      refine fM Try.func64 (by kernel_rfl) rfl #[.agg #[.int .u8 k.f0, .int .i64 k.f1.f0, .int .i64 k.f1.f1, .int .i64 k.f1.f2, .int .i64 k.f1.f3, .int .i64 k.f2, .slice ua k.f3.length uc], .agg #[.int .u8 q.f0, .int .i64 q.f1.f0, .int .i64 q.f1.f1, .int .i64 q.f1.f2, .int .i64 q.f1.f3, .int .i64 q.f2, .slice va q.f3.length vc]] (by rfl) rfl rfl (by (try simp only [List.map_toArray, List.map_cons, List.map_nil]); first | done | rfl) ?_
      refine (RI HS.out (IH.out k HK.out q _ ua uc va vc _ (fK (S.out.tree _ (.tail _ (.head _)))) (fK (S.out.tree _ (.head _))))).mono ?_
      rintro e Cc ⟨rfl, hb⟩
      refine ⟨_, rfl, ?_⟩
      replace S := ae.mk (S.out.call hb)
      clear hb
      refine hK.out _ _ S.out (fun hHeld => ?_)
      clear hK K
      refine ed 50 ?_
      refine aG 11 51 (bA 12 4095) au ?_
      refine kG (iK au.out (by kernel_rfl)) ?_
      clear hHeld
      go_wp2
      have hw1 := HW1.out
      go_wp2
      go_roundg rest.length
      case measure => exact Nat.lt_of_lt_of_le (Nat.lt_succ_self _) jd.out
      case rel => exact ⟨pre ++ [k], rest, pb ++ [q], rb, (by rw [hw1]), ⟨by rw [List.append_assoc]; exact HE.out⟩, ⟨by rw [List.append_assoc]; exact HE2.out⟩, ⟨by rw [List.length_append, List.length_append, yX.out]; rfl⟩, ⟨by rw [HY _ _ _ _ yX.out, Lh.out, uA, HS.out, vV]; rfl⟩, Nat.le_refl _, ⟨S.out.bH.bH.aU.aU.aU.aU.aU.aU.aU.aU.aU.aU.aU.aU.aU.aU⟩⟩
def EG.T5 : Bool × List (List Nat × List Nat) := (true, [([], []), ([0], [0]), ([], []), ([], []), ([3], [3]), ([1, 2, 0, 1, 2, 3, 4], [1, 2]), ([5, 4, 4, 0, 1, 2, 3, 4], [4, 5])])
def EG.B5 : List Nat := [0, 1, 0, 0, 8, 31, 63]
def EG.f (a0 a1 a2 a3 a4 a5 : Int) (l : List ai) : Option (Int × Int × Int × Int × Int × Int × List ai) := if sz ⟨a0, ⟨a1, a2, a3, a4⟩, a5, l⟩ ≤ 1000000 then some (a0, a1, a2, a3, a4, a5, l) else none
def AtN (w : World) (P : Nat → Prop) : Option ai → Ending → World → Prop
 | none, e, w' => ∃ A2 c2, e = .returned (.tuple #[.agg #[.int .u8 0, .int .i64 0, .int .i64 0, .int .i64 0, .int .i64 0, .int .i64 0, .slice A2 0 c2], .bool false]) ∧ Kd.N k26 26 w' w.heap.size (fun k => P k ∨ w.heap.size ≤ k) (.slice A2 0 c2) [] ∧ Below w.heap.size w w'
 | some z, e, w' => ∃ A2 c2, e = .returned (.tuple #[.agg #[.int .u8 z.f0, .int .i64 z.f1.f0, .int .i64 z.f1.f1, .int .i64 z.f1.f2, .int .i64 z.f1.f3, .int .i64 z.f2, .slice A2 z.f3.length c2], .bool true]) ∧ Kd.N k26 26 w' w.heap.size (fun k => P k ∨ w.heap.size ≤ k) (.slice A2 z.f3.length c2) z.f3 ∧ Below w.heap.size w w'
section
variable {W : World} {b : Nat} {P : Nat → Prop} {A : Option Addr} {cc cb : Nat}
end
section
variable {W : World} {b b' : Nat} {P P' : Nat → Prop} {A A' : Option Addr} {cc cc' : Nat}
theorem FM (c : ai) (g : Bool) (hg : ∃ k, jy.f k c.f0 c.f1.f0 c.f1.f1 c.f1.f2 c.f1.f3 c.f2 c.f3 = some g) (hV : Kd.V k26 26 W b P (.slice A c.f3.length cc) c.f3) :
  Calls Try.prog 34 #[.agg #[.int .u8 c.f0, .int .i64 c.f1.f0, .int .i64 c.f1.f1, .int .i64 c.f1.f2, .int .i64 c.f1.f3, .int .i64 c.f2, .slice A c.f3.length cc]] W fun e w' => e = .returned (.bool g) ∧ Below W.heap.size W w' := by
 obtain ⟨k, hk⟩ := hg
 have h := Kd.kz hV
 exact jy.calls k _ _ _ _ _ _ A cc c.f3 g W h.2.2 h.2.1 hk
theorem aca (x y : ai) (hx : sz x ≤ 1048576) (hV : Kd.V k26 26 W b P (.slice A x.f3.length cc) x.f3) (hV' : Kd.V k26 26 W b' P' (.slice A' y.f3.length cc') y.f3) :
  Calls Try.prog 64 #[.agg #[.int .u8 x.f0, .int .i64 x.f1.f0, .int .i64 x.f1.f1, .int .i64 x.f1.f2, .int .i64 x.f1.f3, .int .i64 x.f2, .slice A x.f3.length cc], .agg #[.int .u8 y.f0, .int .i64 y.f1.f0, .int .i64 y.f1.f1, .int .i64 y.f1.f2, .int .i64 y.f1.f3, .int .i64 y.f2, .slice A' y.f3.length cc']] W fun e w' => e = .returned (.bool (r_ x y)) ∧ Below W.heap.size W w' := by
 exact ab_ (sz x) x (Nat.le_refl _) hx y (fun _ => True) A cc A' cc' W (Kd.gG (fK hV) (fun _ _ => trivial)) (Kd.gG (fK hV') (fun _ _ => trivial))
theorem RH (x : ai) (_ : sz x ≤ 1048576) : r_ x x = true := (OW (sz x)).1 x (Nat.le_refl _)
theorem acb (x : ai) (hx : sz x ≤ 1048576) (hV : Kd.V k26 26 W b P (.slice A x.f3.length cc) x.f3) (hV' : Kd.V k26 26 W b' P' (.slice A' x.f3.length cc') x.f3) :
  Calls Try.prog 64 #[.agg #[.int .u8 x.f0, .int .i64 x.f1.f0, .int .i64 x.f1.f1, .int .i64 x.f1.f2, .int .i64 x.f1.f3, .int .i64 x.f2, .slice A x.f3.length cc], .agg #[.int .u8 x.f0, .int .i64 x.f1.f0, .int .i64 x.f1.f1, .int .i64 x.f1.f2, .int .i64 x.f1.f3, .int .i64 x.f2, .slice A' x.f3.length cc']] W fun e w' => e = .returned (.bool true) ∧ Below W.heap.size W w' := by
 have h := aca x x hx hV hV'
 rw [RH x hx] at h
 exact h
abbrev ai0 (w : World) (P : Nat → Prop) : Option ai → Ending → World → Prop
 | none, e, w' => e = .returned (.tuple #[.agg #[.int .u8 0, .int .i64 0, .int .i64 0, .int .i64 0, .int .i64 0, .int .i64 0, .slice none 0 0], .bool false]) ∧ Below w.heap.size w w'
 | some z, e, w' => ∃ A c, e = .returned (.tuple #[.agg #[.int .u8 z.f0, .int .i64 z.f1.f0, .int .i64 z.f1.f1, .int .i64 z.f1.f2, .int .i64 z.f1.f3, .int .i64 z.f2, .slice A z.f3.length c], .bool true]) ∧ Kd.N k26 26 w' w.heap.size (fun k => P k ∨ w.heap.size ≤ k) (.slice A z.f3.length c) z.f3 ∧ Below w.heap.size w w'
end
section
variable {Pr : Program} {ops : Array Oper} {rest : List Oper} {op : Oper} {a : Act} {Q : Exit → Act → World → Prop} {w W : World} {P : Nat → Prop} {bs : List (Option Nat × Obj)} {ts : List (Value × List ai)} {ro : List (Addr × Value)}
end
theorem AZ {W : World} : Calls Try.prog 52 #[] W fun e w' => e = .returned (.bool true) ∧ Below W.heap.size W w' := by
 obtain ⟨k, hk⟩ := Pure.WC.rounds
 exact jw.calls k _ W hk
theorem LD {W : World} {b : Nat} {P : Nat → Prop} {A : Option Addr} {cc : Nat} (c : ai) (hz : sz c ≤ 1048576) (hV : Kd.V k26 26 W b P (.slice A c.f3.length cc) c.f3) :
  Calls Try.prog 79 #[.agg #[.int .u8 c.f0, .int .i64 c.f1.f0, .int .i64 c.f1.f1, .int .i64 c.f1.f2, .int .i64 c.f1.f3, .int .i64 c.f2, .slice A c.f3.length cc]] W fun e w' => ∃ A' c', e = .returned (.slice A' (sz c) c') ∧ Below W.heap.size W w' := by
 obtain ⟨k, hk⟩ := (AY (sz c) c (Nat.le_refl _) hz).rounds
 exact (dn.calls k _ _ _ _ _ _ P A cc c.f3 _ W (fK hV) hk).mono (fun e w' ⟨v, he, hN, hB⟩ => by
  obtain ⟨A', c', rfl⟩ := Kd.jU hN
  exact ⟨A', c', he, hB⟩)
theorem Fv (c : ai) (h : sz c ≤ 1048576) : sz (nX c) ≤ 1048576 := by
 unfold nX
 split
 ·rw [(BR _).1 _ (Nat.le_refl _)]; have := Ky 100000 c; omega
 ·decide
theorem Kz (c : ai) (A : Option Addr) (cc : Nat) (w : World) (hr : Kd.C k26 w A c.f3.length c.f3) (hc : c.f3.length ≤ cc) (hz : sz c ≤ 1048576) (h1 : ∃ k, jy.f k c.f0 c.f1.f0 c.f1.f1 c.f1.f2 c.f1.f3 c.f2 c.f3 = some true)  :
  Calls Try.prog 26 #[.agg #[.int .u8 c.f0, .int .i64 c.f1.f0, .int .i64 c.f1.f1, .int .i64 c.f1.f2, .int .i64 c.f1.f3, .int .i64 c.f2, .slice A c.f3.length cc]] w fun e w' => e = .returned (.bool true) ∧ Below w.heap.size w w' := by
 have S := ae.mk (St.start (ts := [(.slice A c.f3.length cc, c.f3)]) (b0 := w.heap.size) (w := w) (P := fun k => k < w.heap.size) (fun t ht => by
  rw [List.mem_singleton.1 ht]; exact Kd.uN hc (Kd.Dh nZ hr)))
 have G1 := ae.mk h1
 have Es := ae.mk hz
 have Ll := ae.mk (Fv c hz)
 clear hr hc h1 hz
 obtain ⟨ck, ⟨cx, cy, cw, ch⟩, aj, l⟩ := c
 simp only [] at S G1 Es Ll ⊢
 go_enter Try.func26, Try.ntmps26
 go_wp2_with (first
  | ((with_reducible refine az 1 rfl ?_); refine boxS 1 #[.int .u8 ck, .int .i64 cx, .int .i64 cy, .int .i64 cw, .int .i64 ch, .int .i64 aj, .slice A l.length cc] 26 S ?_; clear S; intro b1 fF S; obtain ⟨bG, dV, dW, dZ, d_, fC, b_⟩ := St.iJ S (.head _))
  | ((with_reducible refine az 8 rfl ?_); refine dN (some 8) Try.func34 S (FM ⟨ck, ⟨cx, cy, cw, ch⟩, aj, l⟩ true G1.out (S.out.tree _ (.head _))) ?_; clear S; intro iw S; clear bG dV dW dZ d_ fC b_)
  | ((with_reducible refine az 15 rfl ?_); refine dN (some 15) Try.func52 S (AZ) ?_; clear S; intro jT S)
  | fail)
 go_ret
 exact ⟨rfl, S.out.below⟩
theorem KT (c : ai) (A : Option Addr) (cc : Nat) (w : World) (hr : Kd.C k26 w A c.f3.length c.f3) (hc : c.f3.length ≤ cc) (hz : sz c ≤ 1048576) (h1 : ∃ k, jy.f k c.f0 c.f1.f0 c.f1.f1 c.f1.f2 c.f1.f3 c.f2 c.f3 = some false) (h3 : 100 < sz c) :
  Calls Try.prog 26 #[.agg #[.int .u8 c.f0, .int .i64 c.f1.f0, .int .i64 c.f1.f1, .int .i64 c.f1.f2, .int .i64 c.f1.f3, .int .i64 c.f2, .slice A c.f3.length cc]] w fun e w' => e = .returned (.bool true) ∧ Below w.heap.size w w' := by
 have S := ae.mk (St.start (ts := [(.slice A c.f3.length cc, c.f3)]) (b0 := w.heap.size) (w := w) (P := fun k => k < w.heap.size) (fun t ht => by
  rw [List.mem_singleton.1 ht]; exact Kd.uN hc (Kd.Dh nZ hr)))
 have G1 := ae.mk h1
 have Es := ae.mk hz
 have Ll := ae.mk (Fv c hz)
 have h3b : decide ((sz c : Int) > 100) = true := decide_eq_true (by omega)
 have h3c : decide (100 < (sz c : Int)) = true := decide_eq_true (by omega)
 clear h3
 clear hr hc h1 hz
 obtain ⟨ck, ⟨cx, cy, cw, ch⟩, aj, l⟩ := c
 simp only [] at S G1 Es Ll ⊢
 go_enter Try.func26, Try.ntmps26
 go_wp2_with (first
  | ((with_reducible refine az 1 rfl ?_); refine boxS 1 #[.int .u8 ck, .int .i64 cx, .int .i64 cy, .int .i64 cw, .int .i64 ch, .int .i64 aj, .slice A l.length cc] 26 S ?_; clear S; intro b1 fF S; obtain ⟨bG, dV, dW, dZ, d_, fC, b_⟩ := St.iJ S (.head _))
  | ((with_reducible refine az 8 rfl ?_); refine dN (some 8) Try.func34 S (FM ⟨ck, ⟨cx, cy, cw, ch⟩, aj, l⟩ false G1.out (S.out.tree _ (.head _))) ?_; clear S; intro iw S; clear bG dV dW dZ d_ fC b_; obtain ⟨bG, dV, dW, dZ, d_, fC, b_⟩ := St.iJ S (.head _))
  | ((with_reducible refine az 11 rfl ?_); (refine fQ (by rfl) ?_; dsimp only); refine uj (some 11) Try.func79 (LD ⟨ck, ⟨cx, cy, cw, ch⟩, aj, l⟩ Es.out (S.out.tree _ (.head _))) ?_; rintro e jT ⟨Aa, ca, rfl, hb⟩; refine ⟨_, rfl, ?_⟩; replace S := ae.mk (S.out.call hb); clear hb; clear bG dV dW dZ d_ fC b_)
  | ((with_reducible refine az 15 rfl ?_); refine dN (some 15) Try.func52 S (AZ) ?_; clear S; intro lQ S)
  | fail)
 go_ret
 exact ⟨rfl, S.out.below⟩
theorem KU (c : ai) (A : Option Addr) (cc : Nat) (w : World) (hr : Kd.C k26 w A c.f3.length c.f3) (hc : c.f3.length ≤ cc) (hz : sz c ≤ 1048576) (h1 : ∃ k, jy.f k c.f0 c.f1.f0 c.f1.f1 c.f1.f2 c.f1.f3 c.f2 c.f3 = some false) (h3 : ¬ 100 < sz c) :
  Calls Try.prog 26 #[.agg #[.int .u8 c.f0, .int .i64 c.f1.f0, .int .i64 c.f1.f1, .int .i64 c.f1.f2, .int .i64 c.f1.f3, .int .i64 c.f2, .slice A c.f3.length cc]] w fun e w' => e = .returned (.bool true) ∧ Below w.heap.size w w' := by
 have S := ae.mk (St.start (ts := [(.slice A c.f3.length cc, c.f3)]) (b0 := w.heap.size) (w := w) (P := fun k => k < w.heap.size) (fun t ht => by
  rw [List.mem_singleton.1 ht]; exact Kd.uN hc (Kd.Dh nZ hr)))
 have G1 := ae.mk h1
 have Es := ae.mk hz
 have Ll := ae.mk (Fv c hz)
 have h3b : decide ((sz c : Int) > 100) = false := decide_eq_false (by omega)
 have h3c : decide (100 < (sz c : Int)) = false := decide_eq_false (by omega)
 clear h3
 clear hr hc h1 hz
 obtain ⟨ck, ⟨cx, cy, cw, ch⟩, aj, l⟩ := c
 simp only [] at S G1 Es Ll ⊢
 go_enter Try.func26, Try.ntmps26
 go_wp2_with (first
  | ((with_reducible refine az 1 rfl ?_); refine boxS 1 #[.int .u8 ck, .int .i64 cx, .int .i64 cy, .int .i64 cw, .int .i64 ch, .int .i64 aj, .slice A l.length cc] 26 S ?_; clear S; intro b1 fF S; obtain ⟨bG, dV, dW, dZ, d_, fC, b_⟩ := St.iJ S (.head _))
  | ((with_reducible refine az 8 rfl ?_); refine dN (some 8) Try.func34 S (FM ⟨ck, ⟨cx, cy, cw, ch⟩, aj, l⟩ false G1.out (S.out.tree _ (.head _))) ?_; clear S; intro iw S; clear bG dV dW dZ d_ fC b_; obtain ⟨bG, dV, dW, dZ, d_, fC, b_⟩ := St.iJ S (.head _))
  | ((with_reducible refine az 11 rfl ?_); (refine fQ (by rfl) ?_; dsimp only); refine uj (some 11) Try.func79 (LD ⟨ck, ⟨cx, cy, cw, ch⟩, aj, l⟩ Es.out (S.out.tree _ (.head _))) ?_; rintro e jT ⟨Aa, ca, rfl, hb⟩; refine ⟨_, rfl, ?_⟩; replace S := ae.mk (S.out.call hb); clear hb; clear bG dV dW dZ d_ fC b_; obtain ⟨bG, dV, dW, dZ, d_, fC, b_⟩ := St.iJ S (.head _))
  | ((with_reducible refine az 18 rfl ?_); refine uk (some 18) Try.func107 S (ZV ⟨ck, ⟨cx, cy, cw, ch⟩, aj, l⟩ Es.out _ A cc _ (fK (S.out.tree _ (.head _)))) ?_; clear S; intro A18 aeR lQ S; clear bG dV dW dZ d_ fC b_)
  | ((with_reducible refine az 3 rfl ?_); refine boxS 3 #[.int .u8 0, .int .i64 0, .int .i64 0, .int .i64 0, .int .i64 0, .int .i64 0, .slice none 0 0] 26 S ?_; clear S; intro b3 tC S)
  | ((with_reducible refine fP 26 (.tmp 3) (.tmp 19) rfl ?_); refine kD 26 3 19 #[.int .u8 ((nX ⟨ck, ⟨cx, cy, cw, ch⟩, aj, l⟩).f0), .int .i64 ((nX ⟨ck, ⟨cx, cy, cw, ch⟩, aj, l⟩).f1.f0), .int .i64 ((nX ⟨ck, ⟨cx, cy, cw, ch⟩, aj, l⟩).f1.f1), .int .i64 ((nX ⟨ck, ⟨cx, cy, cw, ch⟩, aj, l⟩).f1.f2), .int .i64 ((nX ⟨ck, ⟨cx, cy, cw, ch⟩, aj, l⟩).f1.f3), .int .i64 ((nX ⟨ck, ⟨cx, cy, cw, ch⟩, aj, l⟩).f2), .slice A18 ((nX ⟨ck, ⟨cx, cy, cw, ch⟩, aj, l⟩).f3.length) aeR] 0 7 S ?_; clear S; intro Cc S; obtain ⟨bG, dV, dW, dZ, d_, fC, b_⟩ := St.iJ S (.tail _ (.head _)))
  | ((with_reducible refine az 23 rfl ?_); refine uk (some 23) Try.func108 S (YG ⟨ck, ⟨cx, cy, cw, ch⟩, aj, l⟩ Es.out _ A cc _ (fK (S.out.tree _ (.tail _ (.head _))))) ?_; clear S; intro A23 aeS AB S; clear bG dV dW dZ d_ fC b_)
  | ((with_reducible refine az 5 rfl ?_); refine boxS 5 #[.int .u8 0, .int .i64 0, .int .i64 0, .int .i64 0, .int .i64 0, .int .i64 0, .slice none 0 0] 26 S ?_; clear S; intro b5 Fb S)
  | ((with_reducible refine fP 26 (.tmp 5) (.tmp 24) rfl ?_); refine kD 26 5 24 #[.int .u8 ((nX ⟨ck, ⟨cx, cy, cw, ch⟩, aj, l⟩).f0), .int .i64 ((nX ⟨ck, ⟨cx, cy, cw, ch⟩, aj, l⟩).f1.f0), .int .i64 ((nX ⟨ck, ⟨cx, cy, cw, ch⟩, aj, l⟩).f1.f1), .int .i64 ((nX ⟨ck, ⟨cx, cy, cw, ch⟩, aj, l⟩).f1.f2), .int .i64 ((nX ⟨ck, ⟨cx, cy, cw, ch⟩, aj, l⟩).f1.f3), .int .i64 ((nX ⟨ck, ⟨cx, cy, cw, ch⟩, aj, l⟩).f2), .slice A23 ((nX ⟨ck, ⟨cx, cy, cw, ch⟩, aj, l⟩).f3.length) aeS] 0 7 S ?_; clear S; intro H9 S; obtain ⟨adn, ado, adr, adt, adu, adv, adw⟩ := St.iJ S (.head _); obtain ⟨bT, bU, bV, bW, eG, fO, dH⟩ := St.iJ S (.tail _ (.head _)))
  | ((with_reducible refine az 32 rfl ?_); (refine fQ (by rfl) ?_; dsimp only); refine dN (some 32) Try.func64 S (acb (nX ⟨ck, ⟨cx, cy, cw, ch⟩, aj, l⟩) Ll.out (S.out.tree _ (.tail _ (.head _))) (S.out.tree _ (.head _))) ?_; clear S; intro Gy S; clear adn ado adr adt adu adv adw bT bU bV bW eG fO dH)
  | ((with_reducible refine az 35 rfl ?_); (refine fQ (by rfl) ?_; dsimp only); refine dN (some 35) Try.func52 S (AZ) ?_; clear S; intro Ee S)
  | fail)
 go_ret
 exact ⟨rfl, S.out.below⟩
def jV.f (a0 a1 a2 a3 a4 a5 : Int) (l : List ai) : Option Bool := if sz ⟨a0, ⟨a1, a2, a3, a4⟩, a5, l⟩ ≤ 1048576 then some true else none
theorem KX (c : ai) (A : Option Addr) (cc : Nat) (w : World) (hr : Kd.C k26 w A c.f3.length c.f3) (hc : c.f3.length ≤ cc) (hz : sz c ≤ 1048576) :
  Calls Try.prog 26 #[.agg #[.int .u8 c.f0, .int .i64 c.f1.f0, .int .i64 c.f1.f1, .int .i64 c.f1.f2, .int .i64 c.f1.f3, .int .i64 c.f2, .slice A c.f3.length cc]] w fun e w' => e = .returned (.bool true) ∧ Below w.heap.size w w' := by
 obtain ⟨g, eg, hg⟩ := TY c hz
 cases g with
 | true => exact Kz c A cc w hr hc hz eg.rounds
 | false =>
  by_cases h3 : 100 < sz c
  ·exact KT c A cc w hr hc hz eg.rounds h3
  ·exact KU c A cc w hr hc hz eg.rounds h3
theorem jV.calls (ay aJ aA aH bu bz : Int) (dK : Option Addr) (dL : Nat) (aK : List ai) (r : Bool) (w : World) (oC : Kd.C k26 w dK aK.length aK) (pz : aK.length ≤ dL) (h : jV.f ay aJ aA aH bu bz aK = some r) :
  Calls Try.prog 26 #[.agg #[.int .u8 ay, .int .i64 aJ, .int .i64 aA, .int .i64 aH, .int .i64 bu, .int .i64 bz, .slice dK aK.length dL]] w fun e w' => e = .returned (.bool r) ∧ Below w.heap.size w w' := by
 unfold jV.f at h
 split at h
 ·rename_i hz
  injection h with h
  subst h
  exact KX ⟨ay, ⟨aJ, aA, aH, bu⟩, bz, aK⟩ dK dL w oC pz hz
 ·exact absurd h (by simp)
end Go.Proofs.Ytfdmfgaiblfbhaa.P
namespace Go.Proofs.Ytfdmfgaiblfbhaa.P
open Go.RowKit Go.Proofs.ag.aV Go.Proofs.ag.bM Go.Proofs.ag.di
open Go.ChangeShapes Go.WideShapes Go.ChangeAt Go.Joins Go.Deep
def I64 (n : Int) : Prop := -9223372036854775808 ≤ n ∧ n ≤ 9223372036854775807
def U8 (n : Int) : Prop := 0 ≤ n ∧ n ≤ 255
def U16 (n : Int) : Prop := 0 ≤ n ∧ n ≤ 65535
def Vb (r : dE) : Prop := I64 r.f0 ∧ I64 r.f1 ∧ I64 r.f2 ∧ I64 r.f3
def ajI (p : Ey) : Prop := I64 p.f0 ∧ Vb p.f1
def C9 : Nat → ai → Prop
 | 0, _ => False
 | n + 1, c => U8 c.f0 ∧ Vb c.f1 ∧ I64 c.f2 ∧ c.f3.length ≤ 9223372036854775807 ∧ ∀ k, k ∈ c.f3 → C9 n k
def aco (c : ai) : Prop := ∃ n, C9 n c
theorem KH : ∀ {n m : Nat} (_ : n ≤ m) {c : ai}, C9 n c → C9 m c
 | 0, _, _, _, h => h.elim
 | n + 1, 0, hm, _, _ => absurd hm (by omega)
 | n + 1, m + 1, hm, _, h => ⟨h.1, h.2.1, h.2.2.1, h.2.2.2.1, fun k hk => KH (by omega) (h.2.2.2.2 k hk)⟩
section
variable {H : Type} {enc : TypeId × Value → H} {P : Program} {w : World} {base : Nat} {spare : Nat → Bool} {held : Bool}
theorem row_of {α : Type} {Q : Nat → α → Prop} : ∀ (n : Nat), (∀ i, i < n → ∃ p, Q i p) → ∃ l : List α, l.length = n ∧ ∀ i p, l[i]? = some p → Q i p
 | 0, _ => ⟨[], rfl, fun i p h => by simp at h⟩
 | n + 1, h => by
  obtain ⟨l, hl, hq⟩ := row_of n fun i hi => h i (by omega)
  obtain ⟨p, hp⟩ := h n (by omega)
  refine ⟨l ++ [p], by simp [hl], fun i q hi => ?_⟩
  rcases Nat.lt_trichotomy i n with h1 | h1 | h1
  ·rw [List.getElem?_append_left (by omega)] at hi
   exact hq i q hi
  ·subst h1
   rw [List.getElem?_append_right (by omega), hl, Nat.sub_self] at hi
   obtain rfl : p = q := by simpa using hi
   exact hp
  ·rw [List.getElem?_eq_none (by simp; omega)] at hi
   cases hi
theorem cells_at {a : Addr} {n : Nat} {cs : List Value} (h : w.cells? base a n = some cs) : cs.length = n ∧ ∀ i u, cs[i]? = some u → w.cell? (a.add i) = some u := by
 obtain ⟨_, h1, h2⟩ := World.cells?_some h
 exact ⟨h1, fun i u hi => by
  have hlt : i < n := by rw [← h1]; exact (List.getElem?_eq_some_iff.1 hi).1
  rw [h2 i hlt, hi]⟩
end
section
variable {H : Type} {enc : TypeId × Value → H} {w : World} {base : Nat} {spare : Nat → Bool} {held : Bool}
theorem BD {n : Int} (h : (Lit.int .i64 n).wf = true) : I64 n := by
 have := bounds_i64 h
 unfold I64
 omega
theorem ad9 {n : Int} (h : (Lit.int .u8 n).wf = true) : U8 n := bounds_u8 h
theorem ZU {a : Array Value} {l : List Value} (h : (Value.agg a).cells.toList = l) : a = l.toArray := by
 subst h
 simp [Value.cells]
theorem cells23 : Try.prog.cellsOf 23 = 4 := by kernel_rfl
theorem cells26 : Try.prog.cellsOf 26 = 7 := by kernel_rfl
theorem cells3 : Try.prog.cellsOf 3 = 1 := by kernel_rfl
theorem cells5 : Try.prog.cellsOf 5 = 1 := by kernel_rfl
theorem cells24 : Try.prog.cellsOf 24 = 1 := by kernel_rfl
theorem ab3 {fuel : Nat} {cs : List Value} {x : DataW H × List MemPlace} (h : DataW.trod enc Try.prog w base spare held fuel 23 cs = some x) : ∃ r : dE, k23.K w r cs ∧ Vb r := by
 obtain ⟨y0, y1, y2, y3, n, _, hl, h0, h1, h2, h3⟩ := trod_struct4 Try.underlying23 h
 rw [cells23] at hl
 match cs, hl with
 | [c0, c1, c2, c3], _ =>
  simp only [cells3, List.drop_zero, List.take_succ_cons, List.take_zero, List.drop_succ_cons] at h0 h1 h2 h3
  obtain ⟨n0, e0, _, w0⟩ := DataW.trod_int Try.underlying3 h0
  obtain ⟨n1, e1, _, w1⟩ := DataW.trod_int Try.underlying3 h1
  obtain ⟨n2, e2, _, w2⟩ := DataW.trod_int Try.underlying3 h2
  obtain ⟨n3, e3, _, w3⟩ := DataW.trod_int Try.underlying3 h3
  simp only [List.cons.injEq, and_true] at e0 e1 e2 e3
  subst e0 e1 e2 e3
  exact ⟨⟨n0, n1, n2, n3⟩, JV w ⟨n0, n1, n2, n3⟩, BD w0, BD w1, BD w2, BD w3⟩
end
end Go.Proofs.Ytfdmfgaiblfbhaa.P
namespace Go.Proofs.Ytfdmfgaiblfbhaa.Pure
open Go.RowKit Go.Proofs.Ytfdmfgaiblfbhaa.P Go.Proofs.ag.aV Go.Proofs.ag.bM Go.Proofs.ag.di
theorem SpreadAll : ∀ (a0 : ai), aco a0 → sz a0 ≤ 1048576 → jV.f a0.f0 a0.f1.f0 a0.f1.f1 a0.f1.f2 a0.f1.f3 a0.f2 a0.f3 = some true := by
 intro c _ hz
 unfold jV.f
 rw [CS, if_pos hz]
end Go.Proofs.Ytfdmfgaiblfbhaa.Pure
namespace Go.Proofs.Ytfdmfgaiblfbhaa.P
open Go.RowKit
def Hr : List Char := [104, 97, 114, 110, 101, 115, 115, 32, 57, 48, 98, 52, 50, 100, 98, 100, 99, 50, 52, 54, 55, 51, 50, 51, 56, 57, 50, 48, 100, 50, 50, 98, 56, 57, 53, 102, 48, 48, 55, 48, 53, 101, 102, 48, 53, 53, 102, 54, 54, 55, 97, 57, 54, 56, 100, 50, 56, 97, 57, 52, 55, 52, 56, 57, 49, 49, 48, 97, 48, 101, 53, 55, 32, 99, 117, 116, 32, 97, 116, 32, 115, 97, 115, 104, 47, 115, 97, 115, 104, 108, 97, 119, 48, 55, 46, 70, 108, 97, 116, 78, 101, 120, 116, 115, 32, 115, 97, 115, 104, 47, 115, 97, 115, 104, 108, 97, 119, 48, 55, 46, 70, 108, 97, 116, 76, 105, 115, 116, 115, 32, 115, 97, 115, 104, 47, 115, 97, 115, 104, 108, 97, 119, 48, 52, 46, 82, 101, 99, 116, 67, 117, 116, 115, 32, 115, 97, 115, 104, 47, 115, 97, 115, 104, 108, 97, 119, 48, 57, 46, 65, 100, 106, 117, 115, 116, 83, 104, 97, 114, 101, 115, 32, 115, 97, 115, 104, 47, 115, 97, 115, 104, 108, 97, 119, 48, 57, 46, 65, 100, 106, 117, 115, 116, 69, 118, 101, 110, 115, 32, 115, 97, 115, 104, 47, 115, 97, 115, 104, 108, 97, 119, 49, 54, 46, 83, 112, 114, 101, 97, 100, 83, 105, 122, 101, 115, 32, 115, 97, 115, 104, 47, 115, 97, 115, 104, 108, 97, 119, 48, 55, 46, 70, 108, 97, 116, 67, 104, 97, 110, 103, 101, 115, 32, 115, 97, 115, 104, 47, 115, 97, 115, 104, 108, 97, 119, 48, 52, 46, 82, 101, 99, 116, 73, 110, 115, 105, 100, 101, 32, 115, 97, 115, 104, 47, 115, 97, 115, 104, 108, 97, 119, 48, 55, 46, 70, 108, 97, 116, 78, 97, 109, 101, 115, 32, 115, 97, 115, 104, 47, 115, 97, 115, 104, 108, 97, 119, 48, 57, 46, 65, 100, 106, 117, 115, 116, 83, 101, 116, 115, 32, 115, 97, 115, 104, 47, 115, 97, 115, 104, 108, 97, 119, 48, 52, 46, 82, 101, 99, 116, 77, 101, 101, 116, 115, 32, 115, 97, 115, 104, 47, 115, 97, 115, 104, 108, 97, 119, 48, 52, 46, 82, 101, 99, 116, 77, 97, 121, 115, 32, 115, 97, 115, 104, 47, 115, 97, 115, 104, 108, 97, 119, 48, 55, 46, 70, 108, 97, 116, 83, 116, 105, 108, 108, 32, 115, 97, 115, 104, 47, 115, 97, 115, 104, 108, 97, 119, 48, 53, 46, 67, 101, 108, 108, 77, 97, 121, 115, 32, 115, 97, 115, 104, 47, 115, 97, 115, 104, 108, 97, 119, 48, 53, 46, 67, 101, 108, 108, 83, 97, 109, 101, 32, 115, 97, 115, 104, 47, 115, 97, 115, 104, 108, 97, 119, 48, 53, 46, 67, 101, 108, 108, 67, 111, 117, 110, 116, 115, 32, 115, 97, 115, 104, 47, 115, 97, 115, 104, 108, 97, 119, 48, 56, 46, 76, 101, 97, 115, 116, 83, 117, 109, 115, 32, 115, 97, 115, 104, 47, 115, 97, 115, 104, 108, 97, 119, 48, 53, 46, 67, 101, 108, 108, 70, 105, 110, 100, 115, 32, 115, 97, 115, 104, 47, 115, 97, 115, 104, 108, 97, 119, 48, 56, 46, 76, 101, 97, 115, 116, 73, 115, 32, 115, 97, 115, 104, 47, 115, 97, 115, 104, 108, 97, 119, 48, 56, 46, 76, 101, 97, 115, 116, 70, 105, 116, 115, 32, 115, 97, 115, 104, 47, 115, 97, 115, 104, 108, 97, 119, 48, 56, 46, 76, 101, 97, 115, 116, 80, 97, 116, 104, 115, 32, 115, 97, 115, 104, 47, 115, 97, 115, 104, 108, 97, 119, 48, 53, 46, 67, 101, 108, 108, 80, 117, 116, 115, 32, 115, 97, 115, 104, 47, 115, 97, 115, 104, 108, 97, 119, 49, 50, 46, 83, 112, 108, 105, 116, 83, 105, 122, 101, 115, 32, 115, 97, 115, 104, 47, 115, 97, 115, 104, 108, 97, 119, 49, 54, 46, 83, 112, 114, 101, 97, 100, 65, 108, 108, 32, 115, 97, 115, 104, 47, 115, 97, 115, 104, 108, 97, 119, 49, 54, 46, 83, 112, 114, 101, 97, 100, 65, 116, 32, 115, 97, 115, 104, 47, 115, 97, 115, 104, 108, 97, 119, 49, 52, 46, 80, 117, 115, 104, 73, 115, 32, 115, 97, 115, 104, 47, 115, 97, 115, 104, 108, 97, 119, 49, 52, 46, 80, 117, 115, 104, 79, 110, 101, 32, 115, 97, 115, 104, 47, 115, 97, 115, 104, 108, 97, 119, 49, 52, 46, 80, 117, 115, 104, 70, 114, 97, 109, 101, 115, 32, 115, 97, 115, 104, 47, 115, 97, 115, 104, 108, 97, 119, 49, 52, 46, 80, 117, 115, 104, 67, 97, 110, 32, 115, 97, 115, 104, 47, 115, 97, 115, 104, 108, 97, 119, 49, 50, 46, 83, 112, 108, 105, 116, 73, 115, 32, 115, 97, 115, 104, 47, 115, 97, 115, 104, 108, 97, 119, 49, 50, 46, 83, 112, 108, 105, 116, 67, 97, 110].map Char.ofNat
def Ht : List (List Char) := [[104, 97, 114, 110, 101, 115, 115].map Char.ofNat,
 [57, 48, 98, 52, 50, 100, 98, 100, 99, 50, 52, 54, 55, 51, 50, 51, 56, 57, 50, 48, 100, 50, 50, 98, 56, 57, 53, 102, 48, 48, 55, 48, 53, 101, 102, 48, 53, 53, 102, 54, 54, 55, 97, 57, 54, 56, 100, 50, 56, 97, 57, 52, 55, 52, 56, 57, 49, 49, 48, 97, 48, 101, 53, 55].map Char.ofNat,
 [99, 117, 116].map Char.ofNat,
 [97, 116].map Char.ofNat,
 [115, 97, 115, 104, 47, 115, 97, 115, 104, 108, 97, 119, 48, 55, 46, 70, 108, 97, 116, 78, 101, 120, 116, 115].map Char.ofNat,
 [115, 97, 115, 104, 47, 115, 97, 115, 104, 108, 97, 119, 48, 55, 46, 70, 108, 97, 116, 76, 105, 115, 116, 115].map Char.ofNat,
 [115, 97, 115, 104, 47, 115, 97, 115, 104, 108, 97, 119, 48, 52, 46, 82, 101, 99, 116, 67, 117, 116, 115].map Char.ofNat,
 [115, 97, 115, 104, 47, 115, 97, 115, 104, 108, 97, 119, 48, 57, 46, 65, 100, 106, 117, 115, 116, 83, 104, 97, 114, 101, 115].map Char.ofNat,
 [115, 97, 115, 104, 47, 115, 97, 115, 104, 108, 97, 119, 48, 57, 46, 65, 100, 106, 117, 115, 116, 69, 118, 101, 110, 115].map Char.ofNat,
 [115, 97, 115, 104, 47, 115, 97, 115, 104, 108, 97, 119, 49, 54, 46, 83, 112, 114, 101, 97, 100, 83, 105, 122, 101, 115].map Char.ofNat,
 [115, 97, 115, 104, 47, 115, 97, 115, 104, 108, 97, 119, 48, 55, 46, 70, 108, 97, 116, 67, 104, 97, 110, 103, 101, 115].map Char.ofNat,
 [115, 97, 115, 104, 47, 115, 97, 115, 104, 108, 97, 119, 48, 52, 46, 82, 101, 99, 116, 73, 110, 115, 105, 100, 101].map Char.ofNat,
 [115, 97, 115, 104, 47, 115, 97, 115, 104, 108, 97, 119, 48, 55, 46, 70, 108, 97, 116, 78, 97, 109, 101, 115].map Char.ofNat,
 [115, 97, 115, 104, 47, 115, 97, 115, 104, 108, 97, 119, 48, 57, 46, 65, 100, 106, 117, 115, 116, 83, 101, 116, 115].map Char.ofNat,
 [115, 97, 115, 104, 47, 115, 97, 115, 104, 108, 97, 119, 48, 52, 46, 82, 101, 99, 116, 77, 101, 101, 116, 115].map Char.ofNat,
 [115, 97, 115, 104, 47, 115, 97, 115, 104, 108, 97, 119, 48, 52, 46, 82, 101, 99, 116, 77, 97, 121, 115].map Char.ofNat,
 [115, 97, 115, 104, 47, 115, 97, 115, 104, 108, 97, 119, 48, 55, 46, 70, 108, 97, 116, 83, 116, 105, 108, 108].map Char.ofNat,
 [115, 97, 115, 104, 47, 115, 97, 115, 104, 108, 97, 119, 48, 53, 46, 67, 101, 108, 108, 77, 97, 121, 115].map Char.ofNat,
 [115, 97, 115, 104, 47, 115, 97, 115, 104, 108, 97, 119, 48, 53, 46, 67, 101, 108, 108, 83, 97, 109, 101].map Char.ofNat,
 [115, 97, 115, 104, 47, 115, 97, 115, 104, 108, 97, 119, 48, 53, 46, 67, 101, 108, 108, 67, 111, 117, 110, 116, 115].map Char.ofNat,
 [115, 97, 115, 104, 47, 115, 97, 115, 104, 108, 97, 119, 48, 56, 46, 76, 101, 97, 115, 116, 83, 117, 109, 115].map Char.ofNat,
 [115, 97, 115, 104, 47, 115, 97, 115, 104, 108, 97, 119, 48, 53, 46, 67, 101, 108, 108, 70, 105, 110, 100, 115].map Char.ofNat,
 [115, 97, 115, 104, 47, 115, 97, 115, 104, 108, 97, 119, 48, 56, 46, 76, 101, 97, 115, 116, 73, 115].map Char.ofNat,
 [115, 97, 115, 104, 47, 115, 97, 115, 104, 108, 97, 119, 48, 56, 46, 76, 101, 97, 115, 116, 70, 105, 116, 115].map Char.ofNat,
 [115, 97, 115, 104, 47, 115, 97, 115, 104, 108, 97, 119, 48, 56, 46, 76, 101, 97, 115, 116, 80, 97, 116, 104, 115].map Char.ofNat,
 [115, 97, 115, 104, 47, 115, 97, 115, 104, 108, 97, 119, 48, 53, 46, 67, 101, 108, 108, 80, 117, 116, 115].map Char.ofNat,
 [115, 97, 115, 104, 47, 115, 97, 115, 104, 108, 97, 119, 49, 50, 46, 83, 112, 108, 105, 116, 83, 105, 122, 101, 115].map Char.ofNat,
 [115, 97, 115, 104, 47, 115, 97, 115, 104, 108, 97, 119, 49, 54, 46, 83, 112, 114, 101, 97, 100, 65, 108, 108].map Char.ofNat,
 [115, 97, 115, 104, 47, 115, 97, 115, 104, 108, 97, 119, 49, 54, 46, 83, 112, 114, 101, 97, 100, 65, 116].map Char.ofNat,
 [115, 97, 115, 104, 47, 115, 97, 115, 104, 108, 97, 119, 49, 52, 46, 80, 117, 115, 104, 73, 115].map Char.ofNat,
 [115, 97, 115, 104, 47, 115, 97, 115, 104, 108, 97, 119, 49, 52, 46, 80, 117, 115, 104, 79, 110, 101].map Char.ofNat,
 [115, 97, 115, 104, 47, 115, 97, 115, 104, 108, 97, 119, 49, 52, 46, 80, 117, 115, 104, 70, 114, 97, 109, 101, 115].map Char.ofNat,
 [115, 97, 115, 104, 47, 115, 97, 115, 104, 108, 97, 119, 49, 52, 46, 80, 117, 115, 104, 67, 97, 110].map Char.ofNat,
 [115, 97, 115, 104, 47, 115, 97, 115, 104, 108, 97, 119, 49, 50, 46, 83, 112, 108, 105, 116, 73, 115].map Char.ofNat,
 [115, 97, 115, 104, 47, 115, 97, 115, 104, 108, 97, 119, 49, 50, 46, 83, 112, 108, 105, 116, 67, 97, 110].map Char.ofNat]
theorem QB : Try.prog.initOrder.toList = Hr := by
 have e : Try.prog.initOrder = String.ofList Hr := by kernel_rfl
 rw [e, String.toList_ofList]
theorem Oj : wordsSigns Try.prog.initOrder.toList = Ht := by
 rw [QB]
 kernel_rfl
def uT : List (List Char) := Ht.drop 3
theorem KL : behindMainWord (wordsSigns Try.prog.initOrder.toList) = ([99, 117, 116].map Char.ofNat) :: uT := by
 rw [Oj]
 kernel_rfl
theorem aaC : ([99, 117, 116].map Char.ofNat : List Char) = "cut".toList := by decide +kernel
theorem xG : behindMainWord (wordsSigns Try.prog.initOrder.toList) = "cut".toList :: uT := KL.trans (congrArg (fun c => c :: uT) aaC)
theorem EZ (rest : List (List Char)) : stripLifts liftWords ("cut".toList :: rest) = ([], "cut".toList :: rest) := by
 have key : ∀ (l : List String), (l.all fun o => !("cut".toList == o.toList)) = true → stripLifts l ("cut".toList :: rest) = ([], "cut".toList :: rest) := by
  intro l
  induction l with
  | nil => intro _; rfl
  | cons o l ih =>
   intro h
   simp only [List.all_cons, Bool.and_eq_true] at h
   unfold stripLifts
   rw [if_neg (by simpa using h.1)]
   exact ih h.2
 exact key _ (by decide +kernel)
theorem Yw (P : Program) (rest : List (List Char)) (h : behindMainWord (wordsSigns P.initOrder.toList) = "cut".toList :: rest) : P.make = some .cut := by
 unfold Program.make
 rw [h]
 simp only
 have h1 : ("cut".toList == "gc".toList) = false := by decide +kernel
 have h2 : ("cut".toList == "spec".toList) = false := by decide +kernel
 rw [h1, h2, if_neg (by simp), if_pos (by simp)]
theorem Uo (P : Program) (rest : List (List Char)) (h : behindMainWord (wordsSigns P.initOrder.toList) = "cut".toList :: rest) : P.headLifts = [] := by
 unfold Program.headLifts
 simp only [h, EZ]
 simp
theorem TU (P : Program) (rest : List (List Char)) (h : behindMainWord (wordsSigns P.initOrder.toList) = "cut".toList :: rest) : P.liftsFinal = false := by
 have h1 : (some "cut".toList == some "carried".toList) = false := by decide +kernel
 unfold Program.liftsFinal
 simp only [h, Uo P rest h, List.head?_cons, h1, Bool.false_and, List.contains_nil, Bool.or_false]
theorem TR (P : Program) (rest : List (List Char)) (h : behindMainWord (wordsSigns P.initOrder.toList) = "cut".toList :: rest) (h1 : P.laysLater = false) (h2 : P.bearsReflect = false) (h3 : P.doorFits [] = true) : P.mayEnter = true := by
 unfold Program.mayEnter
 rw [h]
 simp only [EZ]
 rw [h1, h2, h3]
 simp
theorem QC : Try.prog.make = some .cut := Yw Try.prog uT xG
theorem Og : Try.prog.liftsFinal = false := TU Try.prog uT xG
theorem Oi : Try.prog.laysLater = false := by kernel_rfl
theorem JH : Try.prog.bearsReflect = false := by kernel_rfl
theorem Qz : Try.prog.doorFits [] = true := by kernel_rfl
theorem Oe : Try.prog.mayEnter = true := TR Try.prog uT xG Oi JH Qz
theorem QA : (true == Try.prog.plainKeys) = true := by kernel_rfl
theorem Oh : Try.prog.stopsHeard = true := by kernel_rfl
theorem QV {P : Program} {f : FuncId} {fn : Func} {s : ChangeSpec} {c : OpenClaim}
  (h0 : (c.wf (OpenSpec.ofChange s)) = true)
  (h1 : (laidOutB P) = true)
  (h2 : (mapsRowed P) = true)
  (h3 : (fn.params.all (P.readableRec ·)) = true)
  (h4 : (namedTie P c.named s.vars) = true)
  (h5 : ((c.stops == [])) = true)
  (h6 : ((P.stops == [])) = true)
  (h7 : ((c.knobs == [])) = true)
  (h8 : ((P.stopKnobs == [])) = true)
  (h9 : ((c.inPlace == P.inPlace f)) = true)
  (h10 : ((c.unfollowed == P.unfollowed f)) = true)
  (h11 : ((c.recurses == P.recurses f)) = true)
  (h12 : ((c.named == P.varsNamed f)) = true)
  (h13 : ((c.maps == (fn.params.toList ++ s.plain.varTypes P).any (P.mapsRec ·))) = true)
  (h14 : ((c.ifaces == (fn.params.toList ++ s.plain.varTypes P).any (P.ifacesRec ·))) = true)
  (h15 : ((c.mapsOut == P.mapsAmong fn.resultTypes.toList)) = true)
  (h16 : ((c.loops == (fn.params.toList ++ s.plain.varTypes P).any (P.loopsFrom ·))) = true)
  (h17 : ((c.wideKeys == (fn.params.toList ++ s.plain.varTypes P ++ fn.resultTypes.toList).any (P.wideKeysFrom ·))) = true)
  (h18 : (s.vars.all (P.varReadable ·)) = true)
  (h19 : (fn.resultTypes.all (fun t => P.readableRec t && decide (t < P.types.size))) = true)
  (h20 : ((c.ifacesOut == fn.resultTypes.toList.any (P.ifacesRec ·))) = true)
  (h21 : ((c.loopsOut == fn.resultTypes.toList.any (P.loopsFrom ·))) = true)
  (h22 : ((c.plainKeys == P.plainKeys)) = true)
  (h23 : (c.shortTexts.isNone) = true)
  (h24 : (P.stopsHeard) = true)
  (h25 : (P.mayEnter) = true)
  (h26 : ((c.lifted == P.liftsFinal)) = true)
  (h27 : ((P.make == some c.make)) = true)
  (hd : c.domain.isEmpty = true) (hk : c.kinds = [])
  (h29 : ((c.pinned == c.pinnedBy)) = true)
  (h30 : ((c.veiled == (fn.params.toList ++ s.plain.varTypes P ++ fn.resultTypes.toList).any (P.veiledRec ·))) = true)
  (h31 : (c.veiledFits P fn.params.toList (fn.params.toList ++ s.plain.varTypes P ++ fn.resultTypes.toList)) = true)
  : joinedFacts P f fn s c = true := by
 unfold joinedFacts
 rw [h0, h1, h2, h3, h4, h5, h6, h7, h8, h9, h10, h11, h12, h13, h14, h15, h16, h17, h18, h19, h20, h21, h22, h23, h24, h25, h26, h27, if_pos hd, hk, h29, h30, h31]
 rfl
end Go.Proofs.Ytfdmfgaiblfbhaa.P
namespace Go.Proofs.Ytfdmfgaiblfbhaa.P
open Go.RowKit Go.Proofs.ag.aV Go.Proofs.ag.bM Go.Proofs.ag.di
open Go.ChangeShapes Go.WideShapes Go.ChangeAt Go.Joins Go.Deep
section
variable {H : Type} {enc : TypeId × Value → H} {P : Program} {w : World} {base : Nat} {spare : Nat → Bool} {held : Bool}
theorem Jm (d : DataW H) : 1 ≤ Rows.uptoBulk d := by
 cases d with
 | lit l => cases l <;> simp [Rows.uptoBulk]
 | _ => simp [Rows.uptoBulk]
theorem Tt (l : List (DataW H)) : l.length ≤ Rows.uptoBulkAll l := by
 induction l with
 | nil => simp
 | cons x xs ih =>
  have := Jm x
  simp only [Rows.uptoBulkAll, List.length_cons]
  omega
theorem Tu {α : Type} (m : α → Nat) : ∀ (l : List α) (es : List (DataW H)), l.length = es.length → (∀ (i : Nat) (p : α) (e : DataW H), l[i]? = some p → es[i]? = some e → m p ≤ Rows.uptoBulk e) → (l.map m).sum ≤ Rows.uptoBulkAll es := by
 intro l
 induction l with
 | nil => intro es _ _; simp
 | cons x xs ih =>
  intro es hl h
  cases es with
  | nil => simp at hl
  | cons e es =>
   have h0 := h 0 x e rfl rfl
   have h1 := ih es (by simpa using hl) (fun i p e hp he => h (i + 1) p e (by simpa using hp) (by simpa using he))
   simp only [List.map_cons, List.sum_cons, Rows.uptoBulkAll]
   omega
theorem Ic {t : TypeId} {f0 f1 f2 f3 : Field} {fuel : Nat} {cs : List Value} {x : DataW H × List MemPlace} (ht : P.underlying t = some (.struct #[f0, f1, f2, f3])) (h : DataW.trod enc P w base spare held fuel t cs = some x) :
  ∃ y0 y1 y2 y3 n, fuel = n + 1 ∧ x.1 = .agg [y0.1, y1.1, y2.1, y3.1] ∧ cs.length = P.cellsOf t ∧ DataW.trod enc P w base spare held n f0.type ((cs.drop f0.offset).take (P.cellsOf f0.type)) = some y0 ∧
   DataW.trod enc P w base spare held n f1.type ((cs.drop f1.offset).take (P.cellsOf f1.type)) = some y1 ∧ DataW.trod enc P w base spare held n f2.type ((cs.drop f2.offset).take (P.cellsOf f2.type)) = some y2 ∧
   DataW.trod enc P w base spare held n f3.type ((cs.drop f3.offset).take (P.cellsOf f3.type)) = some y3 := by
 obtain ⟨xs, n, hn, rfl, hl, hlen, hf⟩ := DataW.trod_struct ht h
 match xs, hlen with
 | [y0, y1, y2, y3], _ => exact ⟨y0, y1, y2, y3, n, hn, rfl, hl, by simpa using hf 0 f0 rfl, by simpa using hf 1 f1 rfl, by simpa using hf 2 f2 rfl, by simpa using hf 3 f3 rfl⟩
theorem Ri {α : Type} {k : Kd α} {ok : α → Prop} (m : α → Nat) {t e : TypeId} {fuel : Nat} {cs : List Value} {x : DataW H × List MemPlace} (ht : P.underlying t = some (.slice e)) (hs : k.sz = P.cellsOf e)
  (hE : ∀ n, n < fuel → ∀ cs y, DataW.trod enc P w base spare held n e cs = some y → ∃ p, k.K w p cs ∧ ok p ∧ m p ≤ Rows.uptoBulk y.1) (h : DataW.trod enc P w base spare held fuel t cs = some x) :
  ∃ A c l, cs = [.slice A (l : List α).length c] ∧ l.length ≤ c ∧ k.C w A l.length l ∧ (∀ p, p ∈ l → ok p) ∧ (l.map m).sum < Rows.uptoBulk x.1 ∧ l.length < Rows.uptoBulk x.1 := by
 rcases DataW.trod_slice ht h with ⟨rfl, rfl⟩ | ⟨a, len, cap, elems, rest, n, hn, rfl, rfl, hb, hl, hm, hlen, hel, hsp, hns⟩
 ·exact ⟨none, 0, [], rfl, Nat.le_refl _, ⟨rfl, by simp, fun h => absurd h (by simp)⟩, (fun p hp => by cases hp), (by simp [Rows.uptoBulk]), (by simp [Rows.uptoBulk])⟩
 ·obtain ⟨l, hl2, hq⟩ := row_of (α := α) (Q := fun i p => ok p ∧ (∃ c, c.length = k.sz ∧ k.K w p c ∧ ∀ j u, c[j]? = some u → w.cell? (a.add (i * k.sz + j)) = some u) ∧ ∀ e, elems[i]? = some e → m p ≤ Rows.uptoBulk e.1) len (fun i hi => by
   have key := hel i hi
   rw [List.getElem?_eq_getElem (by omega)] at key
   obtain ⟨cs', h1, h2⟩ := Option.bind_eq_some_iff.1 key
   obtain ⟨p, hp, hok, hm⟩ := hE n (by omega) cs' _ h2
   obtain ⟨h3, h4⟩ := cells_at h1
   refine ⟨p, hok, ⟨cs', by rw [h3, hs], hp, fun j u hj => ?_⟩, fun e he => ?_⟩
   ·rw [hs, ← Deep.add_add]
    exact h4 j u hj
   ·rw [List.getElem?_eq_getElem (by omega)] at he
    cases he
    exact hm)
  subst hl2
  refine ⟨some a, cap, l, rfl, hl, ⟨rfl, by unfold maxLen at hm; omega, fun _ => ⟨a, rfl, fun j p hj => ?_⟩⟩, fun p hp => ?_, ?_, ?_⟩
  ·obtain ⟨_, ⟨c, h1, h2, h3⟩, _⟩ := hq j p hj
   exact ⟨c, h1, h2, h3⟩
  ·obtain ⟨i, hi, rfl⟩ := List.getElem_of_mem hp
   exact (hq i _ (List.getElem?_eq_getElem hi)).1
  ·have := Tu m l (elems.map (·.1)) (by simp [hlen]) (fun i p e hp he => by
    rw [List.getElem?_map] at he
    obtain ⟨e', he', rfl⟩ := Option.map_eq_some_iff.1 he
    exact (hq i p hp).2.2 e' he')
   simp only [Rows.uptoBulk]
   omega
  ·have := Tt (elems.map (·.1))
   simp only [List.length_map] at this
   simp only [Rows.uptoBulk]
   omega
end
section
variable {H : Type} {enc : TypeId × Value → H} {w : World} {base : Nat} {spare : Nat → Bool} {held : Bool}
theorem UL : ∀ (fuel : Nat) {cs : List Value} {x : DataW H × List MemPlace} (_ : DataW.trod enc Try.prog w base spare held fuel 26 cs = some x), ∃ r : ai, (Kd.upto Lc 7 [26] fuel).K w r cs ∧ C9 fuel r ∧ sz r ≤ Rows.uptoBulk x.1 := by
 intro fuel
 induction fuel using Nat.strongRecOn with
 | _ fuel ih =>
 intro cs x h
 cases fuel with
 | zero => simp [DataW.trod] at h
 | succ fuel =>
  obtain ⟨y0, y1, y2, y3, m, hm, hx, hl, h0, h1, h2, h3⟩ := Ic Try.underlying26 h
  obtain rfl : fuel = m := by omega
  rw [cells26] at hl
  match cs, hl with
  | [c0, c1, c2, c3, c4, c5, c6], _ =>
    simp only [cells3, cells5, cells23, cells24, List.drop_zero, List.take_succ_cons, List.take_zero, List.drop_succ_cons] at h0 h1 h2 h3
    obtain ⟨n0, e0, _, w0⟩ := DataW.trod_int Try.underlying5 h0
    obtain ⟨n2, e2, _, w2⟩ := DataW.trod_int Try.underlying3 h2
    simp only [List.cons.injEq, and_true] at e0 e2
    subst e0 e2
    obtain ⟨r, hr, hw⟩ := ab3 h1
    obtain e1 := DW hr
    simp only [List.cons.injEq, and_true] at e1
    obtain ⟨rfl, rfl, rfl, rfl⟩ := e1
    obtain ⟨A, c, l, e3, hlc, hC, hok, hsum, _⟩ := Ri (k := Kd.upto Lc 7 [26] fuel) (ok := C9 fuel) sz Try.underlying24 (by rw [OY, cells26]) (fun n hn cs y hy => by
     obtain ⟨p, hp, hok, hz⟩ := ih n (by omega) hy
     exact ⟨p, Kd.B_ JZ OY (by omega) hp, KH (by omega) hok, hz⟩) h3
    simp only [List.cons.injEq, and_true] at e3
    subst e3
    have adM : l.length ≤ 9223372036854775807 := hC.2.1
    refine ⟨⟨n0, r, n2, l⟩, ?_, ⟨ad9 w0, hw, BD w2, adM, hok⟩, ?_⟩
    ·exact ⟨[.int .u8 n0], [.int .i64 r.f0, .int .i64 r.f1, .int .i64 r.f2, .int .i64 r.f3, .int .i64 n2, .slice A l.length c], rfl, rfl, [.int .i64 r.f0, .int .i64 r.f1, .int .i64 r.f2, .int .i64 r.f3], [.int .i64 n2, .slice A l.length c], rfl, JV w r, [.int .i64 n2], [.slice A l.length c], rfl, rfl, A, c, rfl, hlc, hC⟩
    ·rw [hx, dR]
     have := YO l
     simp only [Rows.uptoBulk, Rows.uptoBulkAll]
     have h3 := Jm y0.1
     omega
theorem YI {fuel : Nat} {cs : List Value} {x : DataW H × List MemPlace} (h : DataW.trod enc Try.prog w base spare held fuel 26 cs = some x) : ∃ r : ai, k26.K w r cs ∧ aco r ∧ sz r ≤ Rows.uptoBulk x.1 := by
 obtain ⟨r, hr, hw, hz⟩ := UL fuel h
 exact ⟨r, ⟨fuel, hr⟩, ⟨fuel, hw⟩, hz⟩
end
end Go.Proofs.Ytfdmfgaiblfbhaa.P
namespace Go.Proofs.Ytfdmfgaiblfbhaa.AA
open Go.ChangeShapes Go.WideShapes Go.ChangeAt Go.RowKit Go.Proofs.Ytfdmfgaiblfbhaa.P Go.Proofs.ag.aV
open Go.ChangeMaps (open_string shut_string)
theorem own : ownKnob Try.prog.godebug = none := by kernel_rfl
theorem laidOut : laidOutB Try.prog = true := by kernel_rfl
theorem lifted (os : Os) (started : os.Started) (H : Type) (enc : TypeId × Value → H) (F : Stop.Interp) :
  ReturnsInHanded {} Try.checked os 26 .any ((Rows.OpenSpec.upto Rows.spreadAllSpec).pre6 enc Try.prog Try.f26 Rows.spreadAllUptoRow.domain false) (((Rows.OpenSpec.upto Rows.spreadAllSpec).at F).post enc Try.prog Try.f26 false true false false) := by
 refine returnsInHanded_of_cond (C := Try.checked) (s := Rows.OpenSpec.upto Rows.spreadAllSpec) (k := Rows.uptoSmall) rfl own started (by kernel_rfl) Try.func26
  (OpenSpec.witness (enc := enc) (C := Try.checked) (s := Rows.OpenSpec.upto Rows.spreadAllSpec) (k := Rows.uptoSmall) rfl false ⟨#[], #[.agg #[.int .u8 0, .int .i64 0, .int .i64 0, .int .i64 0, .int .i64 0, .int .i64 0, .slice none 0 0]], []⟩ 8 (by kernel_rfl) (by kernel_rfl) (by kernel_rfl)
   (x := ([.agg [.lit (.int .u8 0), .agg [.lit (.int .i64 0), .lit (.int .i64 0), .lit (.int .i64 0), .lit (.int .i64 0)], .lit (.int .i64 0), .nil]], [], [])) (by kernel_rfl) rfl (by kernel_rfl)) ?_
 intro W base args ds gs before hval0 hW hcnd hk0 _
 have hval : ∀ (j : Nat) t v, Try.f26.params[j]? = some t → args[j]? = some v → Value.okWide Try.prog W .any base t v := hval0
 have hW' := hW
 obtain ⟨p, q, hA0, hV, rfl, hfz, hnd⟩ := hW
 have hA : DataW.TrodAll enc Try.prog W 0 (fun _ => true) true Try.f26.params.toList args.toList ds p := hA0
 rw [Try.params26] at hA hval
 obtain ⟨v0, vs0, d0, ds0, p0, q0, hargs, rfl, rfl, h0, r0⟩ := trodAll_cons hA
 obtain ⟨rfl, rfl, rfl⟩ := trodAll_nil r0
 obtain rfl : args = #[v0] := by cases args; simp_all
 obtain ⟨rfl, rfl⟩ := trodVars_none hV
 have hB := of_decide_eq_true hk0
 simp only [List.cons_append, List.nil_append, List.append_nil, Rows.uptoBulkAll] at hB
 have z0 : Rows.uptoBulk d0 ≤ 1048576 := by omega
 have k0 := h0
 have lt0 : ∀ x ∈ p0, x.block < W.heap.size := by obtain ⟨m, hm⟩ := k0; exact DataW.trod_lt m _ _ _ hm
 obtain ⟨fuel0, hf0⟩ := h0
 obtain ⟨cs0, rfl, _⟩ := okWide_struct Try.underlying26 (hval 0 26 v0 rfl rfl)
 obtain ⟨a0, b0, w0, y0⟩ := YI hf0
 obtain ⟨A0, c0, e0, hc0, hr0⟩ := zU b0
 obtain rfl := ZU e0
 have hP := Pure.SpreadAll a0 w0 (Nat.le_trans y0 z0)
 refine (jV.calls a0.f0 a0.f1.f0 a0.f1.f1 a0.f1.f2 a0.f1.f3 a0.f2 _ _ a0.f3 true W hr0 hc0 hP).mono fun e W' ⟨he, aeN⟩ => ?_
 have bel : Below W.heap.size W W' := aeN
 subst he
 exact ⟨_, rfl, _, _, _, [], _, [], hW', trodAll_mk1 (shut_bool Try.underlying4 _), (trodAll_cons_mk (Below.trod laidOut (by kernel_rfl) (of_decide_eq_true (by kernel_rfl)) k0 bel lt0) trodAll_mk0), rfl, bel.frame _, fun h => by cases h⟩
theorem j0 : (Rows.spreadAllUptoRow.wf (OpenSpec.ofChange (Rows.OpenSpec.upto Rows.spreadAllSpec).bare)) = true := by kernel_rfl
theorem j1 : (laidOutB Try.prog) = true := by kernel_rfl
theorem j2 : (mapsRowed Try.prog) = true := by kernel_rfl
theorem j3 : (Try.f26.params.all (Try.prog.readableRec ·)) = true := by kernel_rfl
theorem j4 : (namedTie Try.prog Rows.spreadAllUptoRow.named (Rows.OpenSpec.upto Rows.spreadAllSpec).bare.vars) = true := by kernel_rfl
theorem j5 : ((Rows.spreadAllUptoRow.stops == [])) = true := by kernel_rfl
theorem j6 : ((Try.prog.stops == [])) = true := by kernel_rfl
theorem j7 : ((Rows.spreadAllUptoRow.knobs == [])) = true := by kernel_rfl
theorem j8 : ((Try.prog.stopKnobs == [])) = true := by kernel_rfl
theorem j9 : ((Rows.spreadAllUptoRow.inPlace == Try.prog.inPlace 26)) = true := by kernel_rfl
theorem j10 : ((Rows.spreadAllUptoRow.unfollowed == Try.prog.unfollowed 26)) = true := by kernel_rfl
theorem j11 : ((Rows.spreadAllUptoRow.recurses == Try.prog.recurses 26)) = true := by kernel_rfl
theorem j12 : ((Rows.spreadAllUptoRow.named == Try.prog.varsNamed 26)) = true := by kernel_rfl
theorem j13 : ((Rows.spreadAllUptoRow.maps == (Try.f26.params.toList ++ (Rows.OpenSpec.upto Rows.spreadAllSpec).bare.plain.varTypes Try.prog).any (Try.prog.mapsRec ·))) = true := by kernel_rfl
theorem j14 : ((Rows.spreadAllUptoRow.ifaces == (Try.f26.params.toList ++ (Rows.OpenSpec.upto Rows.spreadAllSpec).bare.plain.varTypes Try.prog).any (Try.prog.ifacesRec ·))) = true := by kernel_rfl
theorem j15 : ((Rows.spreadAllUptoRow.mapsOut == Try.prog.mapsAmong Try.f26.resultTypes.toList)) = true := by kernel_rfl
theorem j16 : ((Rows.spreadAllUptoRow.loops == (Try.f26.params.toList ++ (Rows.OpenSpec.upto Rows.spreadAllSpec).bare.plain.varTypes Try.prog).any (Try.prog.loopsFrom ·))) = true := by kernel_rfl
theorem j17 : ((Rows.spreadAllUptoRow.wideKeys == (Try.f26.params.toList ++ (Rows.OpenSpec.upto Rows.spreadAllSpec).bare.plain.varTypes Try.prog ++ Try.f26.resultTypes.toList).any (Try.prog.wideKeysFrom ·))) = true := by kernel_rfl
theorem j18 : ((Rows.OpenSpec.upto Rows.spreadAllSpec).bare.vars.all (Try.prog.varReadable ·)) = true := by kernel_rfl
theorem j19 : (Try.f26.resultTypes.all (fun t => Try.prog.readableRec t && decide (t < Try.prog.types.size))) = true := by kernel_rfl
theorem j20 : ((Rows.spreadAllUptoRow.ifacesOut == Try.f26.resultTypes.toList.any (Try.prog.ifacesRec ·))) = true := by kernel_rfl
theorem j21 : ((Rows.spreadAllUptoRow.loopsOut == Try.f26.resultTypes.toList.any (Try.prog.loopsFrom ·))) = true := by kernel_rfl
theorem j23 : (Rows.spreadAllUptoRow.shortTexts.isNone) = true := by kernel_rfl
theorem j29 : ((Rows.spreadAllUptoRow.pinned == Rows.spreadAllUptoRow.pinnedBy)) = true := by kernel_rfl
theorem j30 : ((Rows.spreadAllUptoRow.veiled == (Try.f26.params.toList ++ (Rows.OpenSpec.upto Rows.spreadAllSpec).bare.plain.varTypes Try.prog ++ Try.f26.resultTypes.toList).any (Try.prog.veiledRec ·))) = true := by kernel_rfl
theorem j31 : (Rows.spreadAllUptoRow.veiledFits Try.prog Try.f26.params.toList (Try.f26.params.toList ++ (Rows.OpenSpec.upto Rows.spreadAllSpec).bare.plain.varTypes Try.prog ++ Try.f26.resultTypes.toList)) = true := by kernel_rfl
theorem closed : joinedFacts Try.prog 26 Try.f26 (Rows.OpenSpec.upto Rows.spreadAllSpec).bare Rows.spreadAllUptoRow = true := P.QV j0 j1 j2 j3 j4 j5 j6 j7 j8 j9 j10 j11 j12 j13 j14 j15 j16 j17 j18 j19 j20 j21 P.QA j23 P.Oh P.Oe (by rw [P.Og]; rfl) (by rw [P.QC]; rfl) rfl rfl j29 j30 j31
theorem over : Rows.spreadAllUptoRow.holds Try.pinned (Rows.OpenSpec.upto Rows.spreadAllSpec) :=
 OpenClaim.holds_of_cond 26 Try.f26 rfl rfl rfl rfl rfl rfl rfl ⟨rfl, rfl, rfl, rfl, rfl⟩ rfl rfl rfl rfl rfl (by kernel_rfl) Try.func26 closed
  (of_decide_eq_true (by kernel_rfl)) (by unfold Func.isWrapper; first | (rw [if_pos (by decide +kernel)]; kernel_rfl) | (rw [if_neg (by decide +kernel)]; exact ⟨rfl, rfl⟩))
  (fun os started H enc _ F => lifted os started H enc F)
theorem proved : Rows.SpreadAllUptoSaid := over
#print axioms proved
end Go.Proofs.Ytfdmfgaiblfbhaa.AA
namespace Go.Proofs.Ytfdmfgaiblfbhaa
theorem spreadAllUpto_holds : Rows.SpreadAllUptoSaid := AA.proved
end Go.Proofs.Ytfdmfgaiblfbhaa
