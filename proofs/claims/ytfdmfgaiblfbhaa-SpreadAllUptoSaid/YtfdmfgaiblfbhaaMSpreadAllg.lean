/- The row of the law SpreadAll, second form (what it reads is of bulk at most 1048576), out of its plain law and its walk. -/
import Derived.Test.YtfdmfgaiblfbhaaMSpreadAllf
import Derived.Test.YtfdmfgaiblfbhaaMSpreadAlle
import Derived.Test.YtfdmfgaiblfbhaaMSpreadAllc
import Derived.Shelf.Spec.SlicesInsert
import Derived.Shelf.Spec.SlicesInsertGrow
import Derived.Test.YtfdmfgaiblfbhaaMSpreadAlld
import Derived.Test.YtfdmfgaiblfbhaaRows
import Derived.ProofKit
import Derived.WalkKit
import Derived.OpenShut
import Derived.ShutString
import Derived.ChangeOld
import Derived.Below
import Derived.SizedLaws
import Derived.JoinedCond
set_option maxHeartbeats 8000000
set_option maxRecDepth 100000
set_option linter.unusedVariables false
set_option linter.unusedSimpArgs false
namespace Go.Proofs.Ytfdmfgaiblfbhaa.P
open Go.RowKit Go.Proofs.ai.bg Go.Proofs.ai.di Go.Proofs.ai.dG
def xY.T5 : Bool × List (List Nat × List Nat) := (true, [([], []), ([0], [0]), ([], []), ([1, 2], [1, 2]), ([], []), ([4], [4]), ([5], [5]), ([3, 6, 3], [3, 6]), ([7], [7]), ([8], [8]), ([8], [8]), ([9, 7, 0, 1, 2, 3, 4, 5, 6, 7, 8, 9], [9]), ([10, 11, 0, 1, 2, 3, 4, 5, 6, 7, 8, 9, 10, 11], [10])])
def xY.B5 : List Nat := [0, 1, 0, 7, 0, 16, 48, 127, 255, 511, 511, 1023, 4095]
theorem xY.ZH : lC .any (opsOf Try.f156 5) = xY.T5 := by kernel_rfl
theorem xY.RJ : lu xY.T5.2 xY.B5 = true := by kernel_rfl
def yZ.T11 : Bool × List (List Nat × List Nat) := (true, [([], []), ([0], [0]), ([], []), ([1, 2], [1, 2]), ([3], [3]), ([4], [4]), ([], []), ([], []), ([], []), ([7, 8], [7, 8]), ([9], [9]), ([], []), ([11], [11]), ([], []), ([12, 13], [12, 13]), ([14], [14]), ([15], [15]), ([], []), ([16, 17, 5], [16, 17]), ([10, 18], [10, 18]), ([5, 6, 19, 18], [5, 6, 19]), ([20], [20]), ([21], [21]), ([21], [21]), ([], []), ([24, 22, 20, 0, 1, 2, 3, 4, 5, 6, 7, 8, 9, 10, 11, 12, 13, 14, 15, 16, 17, 18, 19, 20, 21, 22, 24], [22, 24]), ([23, 25, 0, 1, 2, 3, 4, 5, 6, 7, 8, 9, 10, 11, 12, 13, 14, 15, 16, 17, 18, 19, 20, 21, 22, 23, 24, 25], [23])])
def yZ.B11 : List Nat := [0, 1, 0, 7, 15, 31, 0, 0, 0, 384, 896, 0, 2048, 0, 14336, 30720, 63488, 0, 260159, 524223, 1048575, 2097151, 4194303, 4194303, 0, 25165823, 67108863]
theorem yZ.ZG : lC .any (opsOf Try.f156 11) = yZ.T11 := by kernel_rfl
theorem yZ.Tv : lu yZ.T11.2 yZ.B11 = true := by kernel_rfl
theorem H8 {ax n m : Int} {k : aI} {args : Array Value} {W : World} {P : Nat → Prop} (h : n = m) (hc : Calls Try.prog 184 args W (En W P (aZ ax (bu k 0 0) (wrap64 (n - dA ax k.f1))) (aN ax (bu k 0 0) (wrap64 (n - dA ax k.f1))))) : Calls Try.prog 184 args W (En W P (dX ax k m) (vw ax k m)) := by
 subst h
 exact hc
theorem aa8 (ax : Int) (ns : Nat → Int) (k : aI) (l : List aI) : mW ax ns 0 (l ++ [k]) = mW ax ns 0 l ++ [dX ax k (ns l.length)] := by rw [Oe, Nat.zero_add]
theorem JO (k : Int) : (k - 1) % 256 = FB k := by unfold FB; omega
theorem adM (c : aI) (hz : sz c ≤ 100000) (P : Nat → Prop) (A : Option Addr) (cc : Nat) (w : World) (hv : Kd.V k26 26 w w.heap.size P (.slice A c.f3.length cc) c.f3) :
  Calls Try.prog 156 #[.agg #[.int .u8 c.f0, .int .i64 c.f1.f0, .int .i64 c.f1.f1, .int .i64 c.f1.f2, .int .i64 c.f1.f3, .int .i64 c.f2, .slice A c.f3.length cc]] w (ab7 w P (nK c).1 (nK c).2) := by
 have S := ae.mk (St.start (ts := [(.slice A c.f3.length cc, c.f3)]) (b0 := w.heap.size) (w := w) (P := P) (fun t ht => by rw [List.mem_singleton.1 ht]; exact hv))
 have hsz := gm c
 have hlen := nN c.f3
 have pG := ae.mk (show c.f3.length ≤ 1000000 by omega)
 have La := ae.mk fun (k : aI) (hk : k ∈ c.f3) => (show sz k ≤ 1000000 by have := vV hk; omega)
 obtain ⟨ck, ⟨cx, cy, cw, ch⟩, aV, l⟩ := c
 simp only [] at S pG La
 clear hv hz hsz hlen
 by_cases hk : ck = 1
 ·have hkb : (ck == 1) = true := beq_iff_eq.mpr hk
  have HR := ae.mk (show nK ⟨ck, ⟨cx, cy, cw, ch⟩, aV, l⟩ = ([], 10) by unfold nK; rw [if_pos hk])
  clear hk
  go_enter Try.func156, Try.ntmps156
  go_wp2_with (first
   | ((with_reducible refine bV 1 rfl ?_); refine boxS 1 #[.int .u8 ck, .int .i64 cx, .int .i64 cy, .int .i64 cw, .int .i64 ch, .int .i64 aV, .slice A l.length cc] 26 S ?_; clear S; intro b1 oC S)
   | ((with_reducible refine aQ (N := 11) rfl ?_); refine Dy (N := 11) rfl rfl S.out ?hr ?_; (case hr => first | (go_simp; done) | (go_simp; rfl)); intro XZ YD qU S1; replace S := ae.mk S1; clear S1; have gW := (S.out.at (.head _) 0).trans rfl)
   | fail)
  clear gW
  refine bodyPost_ret (results_tmp2 rfl _ _ _) rfl ?_
  rw [HR.out]
  exact ⟨_, _, rfl, S.out.free.UY (b0 := w.heap.size) (.head _), S.out.below⟩
 ·have hkb : (ck == 1) = false := beq_eq_false_iff_ne.mpr hk
  have jI := ae.mk hk
  obtain ⟨ax, hax⟩ : ∃ ax, ax = FB ck := ⟨_, rfl⟩
  have hSZ := fun W => adO (W := W) (dA ax ⟨cx, cy, cw, ch⟩) (l.length : Int)
  have hR : nK ⟨ck, ⟨cx, cy, cw, ch⟩, aV, l⟩ = if (uT (dA ax ⟨cx, cy, cw, ch⟩) (l.length : Int)).2 = false then ([], 7) else if vz ax (fun (i : Nat) => rd (uT (dA ax ⟨cx, cy, cw, ch⟩) (l.length : Int)).1 (i : Int)) 0 l = true then ([], 7) else (mW ax (fun (i : Nat) => rd (uT (dA ax ⟨cx, cy, cw, ch⟩) (l.length : Int)).1 (i : Int)) 0 l, 0) := by rw [hax]; unfold nK; rw [if_neg hk]
  have hsl := @XG (dA ax ⟨cx, cy, cw, ch⟩) l.length
  generalize uT (dA ax ⟨cx, cy, cw, ch⟩) (l.length : Int) = sp at hSZ hR hsl
  obtain ⟨sl, ok⟩ := sp
  simp only [] at hSZ hR hsl
  have HSZ := ae.mk hSZ
  have MW := ae.mk hsl
  have KE := ae.mk hax
  clear hk hSZ hsl hax
  cases ok with
  | false =>
   have HR := ae.mk (hR.trans (if_pos rfl))
   clear hR
   go_enter Try.func156, Try.ntmps156
   go_upto_region 4 with (first
    | ((with_reducible refine bV 1 rfl ?_); refine boxS 1 #[.int .u8 ck, .int .i64 cx, .int .i64 cy, .int .i64 cw, .int .i64 ch, .int .i64 aV, .slice A l.length cc] 26 S ?_; clear S; intro b1 oC S)
    | ((with_reducible refine aQ (N := 11) rfl ?_); refine Dy (N := 11) rfl rfl S.out ?hr ?_; (case hr => first | (go_simp; done) | (go_simp; rfl)); intro XZ YD qU S1; replace S := ae.mk S1; clear S1; have gW := (S.out.at (.head _) 0).trans rfl)
    | fail)
   clear gW
   go_cut [5] (fun v5 wc => v5 = .int .u8 ax ∧ ae (St w P [(some b1, .cells #[.int .u8 ck, .int .i64 cx, .int .i64 cy, .int .i64 cw, .int .i64 ch, .int .i64 aV, .slice A l.length cc] 26 (0, 0))] [(.slice XZ 0 YD, [])] [(.slice A l.length cc, l)] [] wc))
   case first =>
    have gW := (S.out.at (.head _) 0).trans rfl
    go_wp2
    clear gW
    go_meet
    case rel => exact ⟨by rw [KE.out]; first | rfl | (simp [FB]; done) | (rw [← JO]; done) | (rw [← JO]; rfl), S⟩
   case rest =>
    clear S
    obtain ⟨rfl, S⟩ := hcut
    rename World => wx
    go_wp2
    refine m_ (n := 13) (S := fun w' => St w _ _ _ _ _ w') (ds := []) (bA 13 0) (by kernel_rfl) rfl rfl (S.out.call (fF (Below.refl _ _))) (fun hHeld => ?_); refine jr xY.ZH xY.RJ (fun aW gX => ?_)
    replace S := ae.mk (S.out.call (fF (Below.refl _ _)))
    generalize wx.drew = wd3 at S hHeld ⊢
    refine bH 0 20 (bA 13 1) aW ?_
    refine jq 1 21 (bA 13 3) aW gX hHeld ?_ (hv := by intro w' hs_; have jA := (hs_.at (.head _) 1).trans rfl; have jB := (hs_.at (.head _) 2).trans rfl; have jK := (hs_.at (.head _) 3).trans rfl; have jL := (hs_.at (.head _) 4).trans rfl; go_simp; with_reducible rfl)
    refine bH 2 22 (bA 13 7) aW ?_
    refine bH 4 24 (bA 13 23) aW ?_
    refine jq 5 25 (bA 13 55) aW gX hHeld ?_ (hv := by intro w' hs_; have iI := (hs_.at (.head _) 6).trans rfl; go_simp; with_reducible rfl)
    refine bH 6 26 (bA 13 119) aW ?_
    refine jY (i := 3) (N := some 23) (bA 13 127) rfl rfl (eX aW.out (by kernel_rfl)) (by decide) (fun K hK => ?_)
    refine jc Try.func87 (by kernel_rfl) rfl #[.agg #[.int .i64 cx, .int .i64 cy, .int .i64 cw, .int .i64 ch], .int .u8 ax] (by rfl) rfl rfl (by (try simp only [List.map_toArray, List.map_cons, List.map_nil]); first | done | rfl) ?_
    refine (Aw ⟨cx, cy, cw, ch⟩ ax).mono ?_
    rintro e wJ ⟨rfl, hb⟩
    refine ⟨_, rfl, ?_⟩
    replace S := ae.mk (S.out.call hb)
    clear hb
    refine hK.out _ _ S.out (fun hHeld => ?_)
    clear hK K
    refine iW 23 ?_
    refine jY (i := 7) (N := some 27) (bA 13 255) rfl rfl (eX aW.out (by kernel_rfl)) (by decide) (fun K hK => ?_)
    refine jc Try.func54 (by kernel_rfl) rfl #[.int .i64 (dA ax ⟨cx, cy, cw, ch⟩), .int .i64 (l.length : Int)] (by rfl) rfl rfl (by (try simp only [List.map_toArray, List.map_cons, List.map_nil]); first | done | rfl) ?_
    refine (HSZ.out _).mono ?_
    rintro e D9 ⟨As, cs, rfl, h1, hb⟩
    refine ⟨_, rfl, ?_⟩
    obtain ⟨os, S1, HI1⟩ := S.out.Ju h1 hb
    replace S := ae.mk S1
    have HIS := ae.mk HI1
    clear S1 HI1 h1 hb
    refine hK.out _ _ S.out.jT (fun hHeld => ?_)
    clear hK K
    refine iW 27 ?_
    refine bH 8 19 (bA 13 511) aW ?_
    refine bH 9 28 (bA 13 1023) aW ?_
    refine bH 10 29 (bA 13 2047) aW ?_
    refine bH 11 6 (bA 13 4095) aW ?_
    refine bH 12 7 (bA 13 8191) aW ?_
    refine oV (lh aW.out (by kernel_rfl)) ?_
    clear hHeld
    go_wp2
    refine bodyPost_ret (results_tmp2 rfl _ _ _) rfl ?_
    rw [HR.out]
    exact ⟨_, _, rfl, S.out.free.UY (b0 := w.heap.size) (.head _), S.out.below⟩
  | true =>
   have hR2 := hR.trans (if_neg (by simp))
   obtain ⟨NS, xU⟩ : ∃ NS : Nat → Int, NS = fun (i : Nat) => rd sl (i : Int) := ⟨_, rfl⟩
   rw [← xU] at hR2
   have HR := ae.mk hR2
   have KG := ae.mk xU
   clear hR hR2 xU
   go_enter Try.func156, Try.ntmps156
   go_upto_region 4 with (first
    | ((with_reducible refine bV 1 rfl ?_); refine boxS 1 #[.int .u8 ck, .int .i64 cx, .int .i64 cy, .int .i64 cw, .int .i64 ch, .int .i64 aV, .slice A l.length cc] 26 S ?_; clear S; intro b1 oC S)
    | ((with_reducible refine aQ (N := 11) rfl ?_); refine Dy (N := 11) rfl rfl S.out ?hr ?_; (case hr => first | (go_simp; done) | (go_simp; rfl)); intro XZ YD qU S1; replace S := ae.mk S1; clear S1; have gW := (S.out.at (.head _) 0).trans rfl)
    | fail)
   clear gW
   go_cut [5] (fun v5 wc => v5 = .int .u8 ax ∧ ae (St w P [(some b1, .cells #[.int .u8 ck, .int .i64 cx, .int .i64 cy, .int .i64 cw, .int .i64 ch, .int .i64 aV, .slice A l.length cc] 26 (0, 0))] [(.slice XZ 0 YD, [])] [(.slice A l.length cc, l)] [] wc))
   case first =>
    have gW := (S.out.at (.head _) 0).trans rfl
    go_wp2
    clear gW
    go_meet
    case rel => exact ⟨by rw [KE.out]; first | rfl | (simp [FB]; done) | (rw [← JO]; done) | (rw [← JO]; rfl), S⟩
   case rest =>
    clear S
    obtain ⟨rfl, S⟩ := hcut
    rename World => wx
    go_wp2
    refine m_ (n := 13) (S := fun w' => St w _ _ _ _ _ w') (ds := []) (bA 13 0) (by kernel_rfl) rfl rfl (S.out.call (fF (Below.refl _ _))) (fun hHeld => ?_); refine jr xY.ZH xY.RJ (fun aW gX => ?_)
    replace S := ae.mk (S.out.call (fF (Below.refl _ _)))
    generalize wx.drew = wd3 at S hHeld ⊢
    refine bH 0 20 (bA 13 1) aW ?_
    refine jq 1 21 (bA 13 3) aW gX hHeld ?_ (hv := by intro w' hs_; have jA := (hs_.at (.head _) 1).trans rfl; have jB := (hs_.at (.head _) 2).trans rfl; have jK := (hs_.at (.head _) 3).trans rfl; have jL := (hs_.at (.head _) 4).trans rfl; go_simp; with_reducible rfl)
    refine bH 2 22 (bA 13 7) aW ?_
    refine bH 4 24 (bA 13 23) aW ?_
    refine jq 5 25 (bA 13 55) aW gX hHeld ?_ (hv := by intro w' hs_; have iI := (hs_.at (.head _) 6).trans rfl; go_simp; with_reducible rfl)
    refine bH 6 26 (bA 13 119) aW ?_
    refine jY (i := 3) (N := some 23) (bA 13 127) rfl rfl (eX aW.out (by kernel_rfl)) (by decide) (fun K hK => ?_)
    refine jc Try.func87 (by kernel_rfl) rfl #[.agg #[.int .i64 cx, .int .i64 cy, .int .i64 cw, .int .i64 ch], .int .u8 ax] (by rfl) rfl rfl (by (try simp only [List.map_toArray, List.map_cons, List.map_nil]); first | done | rfl) ?_
    refine (Aw ⟨cx, cy, cw, ch⟩ ax).mono ?_
    rintro e wJ ⟨rfl, hb⟩
    refine ⟨_, rfl, ?_⟩
    replace S := ae.mk (S.out.call hb)
    clear hb
    refine hK.out _ _ S.out (fun hHeld => ?_)
    clear hK K
    refine iW 23 ?_
    refine jY (i := 7) (N := some 27) (bA 13 255) rfl rfl (eX aW.out (by kernel_rfl)) (by decide) (fun K hK => ?_)
    refine jc Try.func54 (by kernel_rfl) rfl #[.int .i64 (dA ax ⟨cx, cy, cw, ch⟩), .int .i64 (l.length : Int)] (by rfl) rfl rfl (by (try simp only [List.map_toArray, List.map_cons, List.map_nil]); first | done | rfl) ?_
    refine (HSZ.out _).mono ?_
    rintro e D9 ⟨As, cs, rfl, h1, hb⟩
    refine ⟨_, rfl, ?_⟩
    obtain ⟨os, S1, HI1⟩ := S.out.Ju h1 hb
    replace S := ae.mk S1
    have HIS := ae.mk HI1
    clear S1 HI1 h1 hb
    refine hK.out _ _ S.out.jT (fun hHeld => ?_)
    clear hK K
    refine iW 27 ?_
    refine bH 8 19 (bA 13 511) aW ?_
    refine bH 9 28 (bA 13 1023) aW ?_
    refine bH 10 29 (bA 13 2047) aW ?_
    refine bH 11 6 (bA 13 4095) aW ?_
    refine bH 12 7 (bA 13 8191) aW ?_
    refine oV (lh aW.out (by kernel_rfl)) ?_
    clear hHeld
    have iI := (S.out.at (.tail _ (.head _)) 6).trans rfl
    go_wp2
    clear iI
    go_loopg [4, 36] l.length (fun gg v4 v36 wr => ∃ (pre rest : List aI) (Ap : Option Addr) (cp : Nat), v4 = .slice Ap (mW ax NS 0 pre).length cp ∧ v36 = .int .i64 (pre.length : Int) ∧ ae (pre ++ rest = l) ∧ rest.length ≤ gg ∧ ae (vz ax NS 0 pre = false) ∧ ae (St w P [((Value.slice As sl.length cs).ownBlock, os), (some b1, .cells #[.int .u8 ck, .int .i64 cx, .int .i64 cy, .int .i64 cw, .int .i64 ch, .int .i64 aV, .slice A l.length cc] 26 (0, 0))] [(.slice Ap ((mW ax NS 0 pre).length) cp, (mW ax NS 0 pre))] [(.slice A l.length cc, l)] [] wr))
    case atStart => exact ⟨[], l, _, _, rfl, rfl, ⟨rfl⟩, Nat.le_refl _, ⟨rfl⟩, ⟨S.out⟩⟩
    case round =>
     clear S
     obtain ⟨pre, rest, Ap, cp, rfl, rfl, HE, hgg, Z7, S⟩ := hrel
     cases rest with
     | nil =>
      have hE := HE.out
      rw [List.append_nil] at hE
      have hE2 := hE.symm
      subst hE2
      clear hE HE hgg
      have hlt : ¬ ((l.length : Int) < (l.length : Int)) := by omega
      go_wp2
      refine bodyPost_ret (results_tmp2 rfl _ _ _) rfl ?_
      rw [HR.out, if_neg (by rw [Z7.out]; simp)]
      exact ⟨_, _, rfl, S.out.free.UY (b0 := w.heap.size) (.head _), S.out.below⟩
     | cons k rest =>
      have hk : k ∈ l := by rw [← HE.out]; simp
      have hlt : (pre.length : Int) < (l.length : Int) := by rw [← HE.out, List.length_append, List.length_cons]; omega
      have hw1 : wrap64 ((pre.length : Int) + 1) = ((pre ++ [k]).length : Int) := by have := pG.out; rw [List.length_append, List.length_singleton]; unfold wrap64; omega
      have HW1 := ae.mk hw1
      have qO := ae.mk hgg
      have Il := ae.mk (La.out k hk)
      have Bf := ae.mk (show sz (bu k 0 0) ≤ 1048576 by rw [(Jw _).1 _ (Nat.le_refl _)]; have := La.out k hk; omega)
      have Em := ae.mk (show pre.length ≤ 1000000 by have := pG.out; omega)
      obtain ⟨mf, ua, uc, ek, S1⟩ := S.out.elem (.head _) (pre.length : Int) (Int.natCast_nonneg _) hlt
      subst ek
      have hrd : au l (pre.length : Int) = k := by rw [← HE.out]; exact lS pre k rest
      rw [hrd] at S1
      simp only [Int.toNat_natCast] at S1
      replace S := ae.mk S1
      clear S1 hrd hk hgg hw1
      have hlt2 : (pre.length : Int) < (sl.length : Int) := by rw [MW.out trivial]; exact hlt
      obtain ⟨ads, ea, _⟩ := Kd.iU (Kd.dH (HIS.out _ (S.out.blk _ (.head _)))).2.2 (pre.length : Int) (Int.natCast_nonneg _) hlt2
      subst ea
      have ab1 := ae.mk hlt2
      have MR := ae.mk (show rd sl (pre.length : Int) = NS pre.length by rw [KG.out])
      go_wp2
      refine m_ (n := 27) (S := fun w' => St w _ _ _ _ _ w') (ds := [25]) (bA 27 0) (by kernel_rfl) rfl rfl (S.out.call (fF (Below.refl _ _))) (fun hHeld => ?_); refine jr yZ.ZG yZ.Tv (fun aW gX => ?_)
      replace S := ae.mk (S.out.call (fF (Below.refl _ _)))
      generalize wr.drew = wd6 at S hHeld ⊢
      refine bH 0 40 (bA 27 1) aW ?_
      refine jq 1 41 (bA 27 3) aW gX hHeld ?_ (hv := by intro w' hs_; have iI := (hs_.at (.tail _ (.head _)) 6).trans rfl; go_simp; with_reducible rfl)
      refine bH 2 42 (bA 27 7) aW ?_
      refine bH 3 43 (bA 27 15) aW ?_
      refine jq 4 44 (bA 27 31) aW gX hHeld ?_ (hv := by intro w' hs_; have rG := (hs_.cell _ (.head _)).1; have qw := (hs_.cell _ (.tail _ (.head _))).1; have qx := (hs_.cell _ (.tail _ (.tail _ (.head _)))).1; have pR := (hs_.cell _ (.tail _ (.tail _ (.tail _ (.head _))))).1; have pU := (hs_.cell _ (.tail _ (.tail _ (.tail _ (.tail _ (.head _)))))).1; have uK := (hs_.cell _ (.tail _ (.tail _ (.tail _ (.tail _ (.tail _ (.head _))))))).1; have uM := (hs_.cell _ (.tail _ (.tail _ (.tail _ (.tail _ (.tail _ (.tail _ (.head _)))))))).1; go_simp; with_reducible rfl)
      refine bH 6 46 (bA 27 95) aW ?_
      refine bH 7 47 (bA 27 223) aW ?_
      refine bH 8 48 (bA 27 479) aW ?_
      refine bH 9 49 (bA 27 991) aW ?_
      refine jq 10 50 (bA 27 2015) aW gX hHeld ?_ (hv := by intro w' hs_; have xs := GM HIS.out (hs_.blk _ (.head _)) pre.length ab1.out; go_simp; with_reducible rfl)
      refine bH 11 51 (bA 27 4063) aW ?_
      refine jq 12 52 (bA 27 8159) aW gX hHeld ?_ (hv := by intro w' hs_; have iI := (hs_.at (.tail _ (.head _)) 6).trans rfl; go_simp; with_reducible rfl)
      refine bH 13 53 (bA 27 16351) aW ?_
      refine bH 14 54 (bA 27 32735) aW ?_
      refine bH 15 55 (bA 27 65503) aW ?_
      refine jq 16 56 (bA 27 131039) aW gX hHeld ?_ (hv := by intro w' hs_; have qw := (hs_.cell _ (.tail _ (.head _))).1; have qx := (hs_.cell _ (.tail _ (.tail _ (.head _)))).1; have pR := (hs_.cell _ (.tail _ (.tail _ (.tail _ (.head _))))).1; have pU := (hs_.cell _ (.tail _ (.tail _ (.tail _ (.tail _ (.head _)))))).1; go_simp; with_reducible rfl)
      refine bH 17 57 (bA 27 262111) aW ?_
      refine ae_ (σ := Option Addr × Nat × Option Addr × Nat × Nat) 2 (bA 27 33554431) (fun s_ => [(45, .agg #[.int .u8 ((bu k 0 0).f0), .int .i64 ((bu k 0 0).f1.f0), .int .i64 ((bu k 0 0).f1.f1), .int .i64 ((bu k 0 0).f1.f2), .int .i64 ((bu k 0 0).f1.f3), .int .i64 ((bu k 0 0).f2), .slice s_.1 ((bu k 0 0).f3.length) s_.2.1]), (58, .int .i64 (dA ax k.f1)), (59, .int .i64 (wrap64 ((rd sl (pre.length : Int)) - (dA ax k.f1)))), (60, .tuple #[.agg #[.int .u8 ((dX ax k (NS pre.length)).f0), .int .i64 ((dX ax k (NS pre.length)).f1.f0), .int .i64 ((dX ax k (NS pre.length)).f1.f1), .int .i64 ((dX ax k (NS pre.length)).f1.f2), .int .i64 ((dX ax k (NS pre.length)).f1.f3), .int .i64 ((dX ax k (NS pre.length)).f2), .slice s_.2.2.1 ((dX ax k (NS pre.length)).f3.length) s_.2.2.2.1], .int .i64 (vw ax k (NS pre.length))]), (39, .tuple #[.agg #[.int .u8 ((dX ax k (NS pre.length)).f0), .int .i64 ((dX ax k (NS pre.length)).f1.f0), .int .i64 ((dX ax k (NS pre.length)).f1.f1), .int .i64 ((dX ax k (NS pre.length)).f1.f2), .int .i64 ((dX ax k (NS pre.length)).f1.f3), .int .i64 ((dX ax k (NS pre.length)).f2), .slice s_.2.2.1 ((dX ax k (NS pre.length)).f3.length) s_.2.2.2.1], .int .i64 (vw ax k (NS pre.length))]), (61, .agg #[.int .u8 ((dX ax k (NS pre.length)).f0), .int .i64 ((dX ax k (NS pre.length)).f1.f0), .int .i64 ((dX ax k (NS pre.length)).f1.f1), .int .i64 ((dX ax k (NS pre.length)).f1.f2), .int .i64 ((dX ax k (NS pre.length)).f1.f3), .int .i64 ((dX ax k (NS pre.length)).f2), .slice s_.2.2.1 ((dX ax k (NS pre.length)).f3.length) s_.2.2.2.1]), (62, .int .i64 (vw ax k (NS pre.length))), (9, .pointer (some ⟨s_.2.2.2.2, 0, none⟩))]) (fun s_ w' => St w P [(some s_.2.2.2.2, .cells #[.int .u8 0, .int .i64 0, .int .i64 0, .int .i64 0, .int .i64 0, .int .i64 0, .slice none 0 0] 26 (0, 0)), ((Value.slice (some ads) sl.length cs).ownBlock, os), (some b1, .cells #[.int .u8 ck, .int .i64 cx, .int .i64 cy, .int .i64 cw, .int .i64 ch, .int .i64 aV, .slice (some mf) l.length cc] 26 (0, 0))] [(.slice Ap ((mW ax NS 0 pre).length) cp, (mW ax NS 0 pre))] [(.slice s_.2.2.1 ((dX ax k (NS pre.length)).f3.length) s_.2.2.2.1, (dX ax k (NS pre.length)).f3), (.slice s_.1 ((bu k 0 0).f3.length) s_.2.1, (bu k 0 0).f3), (.slice ua k.f3.length uc, k.f3), (.slice (some mf) l.length cc, l)] [((mf.add (pre.length * 7)), .int .u8 k.f0), (⟨(mf.add (pre.length * 7)).block, (mf.add (pre.length * 7)).off + 1, none⟩, .int .i64 k.f1.f0), (⟨(mf.add (pre.length * 7)).block, (mf.add (pre.length * 7)).off + 2, none⟩, .int .i64 k.f1.f1), (⟨(mf.add (pre.length * 7)).block, (mf.add (pre.length * 7)).off + 3, none⟩, .int .i64 k.f1.f2), (⟨(mf.add (pre.length * 7)).block, (mf.add (pre.length * 7)).off + 4, none⟩, .int .i64 k.f1.f3), (⟨(mf.add (pre.length * 7)).block, (mf.add (pre.length * 7)).off + 5, none⟩, .int .i64 k.f2), (⟨(mf.add (pre.length * 7)).block, (mf.add (pre.length * 7)).off + 6, none⟩, .slice ua k.f3.length uc)] w') ?_ ?_
      rotate_left
      ·intro Cf
       refine Qz (i := 5) (j := 24) (Ni := some 45) (Nj := some 9) (bA 27 262143) (bA 27 17039327) rfl rfl rfl rfl (GH aW.out (by kernel_rfl)) (by decide) (by decide) (fun K hK => ?_) (fun K hK => ?_)
       ·skip
        refine jc Try.func67 (by kernel_rfl) rfl #[.agg #[.int .u8 k.f0, .int .i64 k.f1.f0, .int .i64 k.f1.f1, .int .i64 k.f1.f2, .int .i64 k.f1.f3, .int .i64 k.f2, .slice ua k.f3.length uc], .int .i64 0, .int .i64 0] (by rfl) rfl rfl (by (try simp only [List.map_toArray, List.map_cons, List.map_nil]); first | done | rfl) ?_
        refine (Oq k 0 0 Il.out (S.out.tree _ (.head _))).mono ?_
        rintro e JH ⟨KD, EW, rfl, h1, hb⟩
        refine ⟨_, rfl, ?_⟩
        replace S := ae.mk (S.out.res (Kd.xO (base' := 0) h1) hb)
        clear h1 hb
        refine hK.out _ _ S.out.dW (fun hHeld => ?_)
        clear hK K
        refine iW 45 ?_
        refine Qz (i := 18) (j := 24) (Ni := some 58) (Nj := some 9) (bA 27 524287) (bA 27 17039359) rfl rfl rfl rfl (GH aW.out (by kernel_rfl)) (by decide) (by decide) (fun K hK => ?_) (fun K hK => ?_)
        ·skip
         refine jc Try.func87 (by kernel_rfl) rfl #[.agg #[.int .i64 k.f1.f0, .int .i64 k.f1.f1, .int .i64 k.f1.f2, .int .i64 k.f1.f3], .int .u8 ax] (by rfl) rfl rfl (by (try simp only [List.map_toArray, List.map_cons, List.map_nil]); first | done | rfl) ?_
         refine (Aw ⟨k.f1.f0, k.f1.f1, k.f1.f2, k.f1.f3⟩ ax).mono ?_
         rintro e Rk ⟨rfl, hb⟩
         refine ⟨_, rfl, ?_⟩
         replace S := ae.mk (S.out.call hb)
         clear hb
         refine hK.out _ _ S.out.dW (fun hHeld => ?_)
         clear hK K
         refine iW 58 ?_
         refine bH 19 59 (bA 27 1048575) aW ?_
         refine Qz (i := 20) (j := 24) (Ni := some 60) (Nj := some 9) (bA 27 2097151) (bA 27 17825791) rfl rfl rfl rfl (GH aW.out (by kernel_rfl)) (by decide) (by decide) (fun K hK => ?_) (fun K hK => ?_)
         ·skip
          refine jc Try.func184 (by kernel_rfl) rfl #[.agg #[.int .u8 ((bu k 0 0).f0), .int .i64 ((bu k 0 0).f1.f0), .int .i64 ((bu k 0 0).f1.f1), .int .i64 ((bu k 0 0).f1.f2), .int .i64 ((bu k 0 0).f1.f3), .int .i64 ((bu k 0 0).f2), .slice KD ((bu k 0 0).f3.length) EW], .int .u8 ax, .int .i64 (wrap64 ((rd sl (pre.length : Int)) - (dA ax k.f1)))] (by rfl) rfl rfl (by (try simp only [List.map_toArray, List.map_cons, List.map_nil]); first | done | rfl) ?_
          refine (H8 MR.out (Ci ax (bu k 0 0) Bf.out _ _ _ _ _ (jS (S.out.tree _ (.head _))))).mono ?_
          rintro e Rl ⟨Ij, Dc, rfl, h1, hb⟩
          refine ⟨_, rfl, ?_⟩
          replace S := ae.mk (S.out.res (Kd.xO (base' := 0) h1) hb)
          clear h1 hb
          refine hK.out _ _ S.out.dW.dW (fun hHeld => ?_)
          clear hK K
          refine iW 60 ?_
          refine bH 21 39 (bA 27 4194303) aW ?_
          refine bH 22 61 (bA 27 8388607) aW ?_
          refine bH 23 62 (bA 27 16777215) aW ?_
          refine jY (i := 24) (N := some 9) (bA 27 33554431) rfl rfl (eX aW.out (by kernel_rfl)) (by decide) (fun K hK => ?_)
          refine wR ?hg (N := 9) ?hd (cs := #[.int .u8 0, .int .i64 0, .int .i64 0, .int .i64 0, .int .i64 0, .int .i64 0, .slice none 0 0]) (t := 26) ?hr ?_; (case hd => rfl); (case hg => rfl); (case hr => first | (go_simp; done) | (go_simp; rfl))
          intro b9 hg QC hbox hb
          replace S := ae.mk (S.out.box hg hbox hb)
          clear hg hbox hb
          refine hK.out _ _ S.out.jT.dW.dW (fun hHeld => ?_)
          clear hK K
          refine iW 9 ?_
          exact qi (by simp only [uH, Act.put, List.setIfInBounds_toArray, List.set_cons_zero, List.set_cons_succ] <;> rfl) (Cf (KD, EW, Ij, Dc, b9) _ S.out)
         ·skip
          refine wR ?hg (N := 9) ?hd (cs := #[.int .u8 0, .int .i64 0, .int .i64 0, .int .i64 0, .int .i64 0, .int .i64 0, .slice none 0 0]) (t := 26) ?hr ?_; (case hd => rfl); (case hg => rfl); (case hr => first | (go_simp; done) | (go_simp; rfl))
          intro b9 hg Me hbox hb
          replace S := ae.mk (S.out.box hg hbox hb)
          clear hg hbox hb
          refine hK.out _ _ S.out.jT.dW (fun hHeld => ?_)
          clear hK K
          refine iW 9 ?_
          refine jY (i := 20) (N := some 60) (bA 27 18874367) rfl rfl (eX aW.out (by kernel_rfl)) (by decide) (fun K hK => ?_)
          refine jc Try.func184 (by kernel_rfl) rfl #[.agg #[.int .u8 ((bu k 0 0).f0), .int .i64 ((bu k 0 0).f1.f0), .int .i64 ((bu k 0 0).f1.f1), .int .i64 ((bu k 0 0).f1.f2), .int .i64 ((bu k 0 0).f1.f3), .int .i64 ((bu k 0 0).f2), .slice KD ((bu k 0 0).f3.length) EW], .int .u8 ax, .int .i64 (wrap64 ((rd sl (pre.length : Int)) - (dA ax k.f1)))] (by rfl) rfl rfl (by (try simp only [List.map_toArray, List.map_cons, List.map_nil]); first | done | rfl) ?_
          refine (H8 MR.out (Ci ax (bu k 0 0) Bf.out _ _ _ _ _ (jS (S.out.tree _ (.head _))))).mono ?_
          rintro e Vj ⟨Ij, Dc, rfl, h1, hb⟩
          refine ⟨_, rfl, ?_⟩
          replace S := ae.mk (S.out.res (Kd.xO (base' := 0) h1) hb)
          clear h1 hb
          refine hK.out _ _ S.out.jT.dW.dW (fun hHeld => ?_)
          clear hK K
          refine iW 60 ?_
          refine bH 21 39 (bA 27 20971519) aW ?_
          refine bH 22 61 (bA 27 25165823) aW ?_
          refine bH 23 62 (bA 27 33554431) aW ?_
          exact qi (by simp only [uH, Act.put, List.setIfInBounds_toArray, List.set_cons_zero, List.set_cons_succ] <;> rfl) (Cf (KD, EW, Ij, Dc, b9) _ S.out)
        ·skip
         refine wR ?hg (N := 9) ?hd (cs := #[.int .u8 0, .int .i64 0, .int .i64 0, .int .i64 0, .int .i64 0, .int .i64 0, .slice none 0 0]) (t := 26) ?hr ?_; (case hd => rfl); (case hg => rfl); (case hr => first | (go_simp; done) | (go_simp; rfl))
         intro b9 hg Vk hbox hb
         replace S := ae.mk (S.out.box hg hbox hb)
         clear hg hbox hb
         refine hK.out _ _ S.out.jT.dW (fun hHeld => ?_)
         clear hK K
         refine iW 9 ?_
         refine jY (i := 18) (N := some 58) (bA 27 17301503) rfl rfl (eX aW.out (by kernel_rfl)) (by decide) (fun K hK => ?_)
         refine jc Try.func87 (by kernel_rfl) rfl #[.agg #[.int .i64 k.f1.f0, .int .i64 k.f1.f1, .int .i64 k.f1.f2, .int .i64 k.f1.f3], .int .u8 ax] (by rfl) rfl rfl (by (try simp only [List.map_toArray, List.map_cons, List.map_nil]); first | done | rfl) ?_
         refine (Aw ⟨k.f1.f0, k.f1.f1, k.f1.f2, k.f1.f3⟩ ax).mono ?_
         rintro e ad6 ⟨rfl, hb⟩
         refine ⟨_, rfl, ?_⟩
         replace S := ae.mk (S.out.call hb)
         clear hb
         refine hK.out _ _ S.out.jT.dW (fun hHeld => ?_)
         clear hK K
         refine iW 58 ?_
         refine bH 19 59 (bA 27 17825791) aW ?_
         refine jY (i := 20) (N := some 60) (bA 27 18874367) rfl rfl (eX aW.out (by kernel_rfl)) (by decide) (fun K hK => ?_)
         refine jc Try.func184 (by kernel_rfl) rfl #[.agg #[.int .u8 ((bu k 0 0).f0), .int .i64 ((bu k 0 0).f1.f0), .int .i64 ((bu k 0 0).f1.f1), .int .i64 ((bu k 0 0).f1.f2), .int .i64 ((bu k 0 0).f1.f3), .int .i64 ((bu k 0 0).f2), .slice KD ((bu k 0 0).f3.length) EW], .int .u8 ax, .int .i64 (wrap64 ((rd sl (pre.length : Int)) - (dA ax k.f1)))] (by rfl) rfl rfl (by (try simp only [List.map_toArray, List.map_cons, List.map_nil]); first | done | rfl) ?_
         refine (H8 MR.out (Ci ax (bu k 0 0) Bf.out _ _ _ _ _ (jS (S.out.tree _ (.head _))))).mono ?_
         rintro e ZL ⟨Ij, Dc, rfl, h1, hb⟩
         refine ⟨_, rfl, ?_⟩
         replace S := ae.mk (S.out.res (Kd.xO (base' := 0) h1) hb)
         clear h1 hb
         refine hK.out _ _ S.out.jT.dW.dW (fun hHeld => ?_)
         clear hK K
         refine iW 60 ?_
         refine bH 21 39 (bA 27 20971519) aW ?_
         refine bH 22 61 (bA 27 25165823) aW ?_
         refine bH 23 62 (bA 27 33554431) aW ?_
         exact qi (by simp only [uH, Act.put, List.setIfInBounds_toArray, List.set_cons_zero, List.set_cons_succ] <;> rfl) (Cf (KD, EW, Ij, Dc, b9) _ S.out)
       ·skip
        refine wR ?hg (N := 9) ?hd (cs := #[.int .u8 0, .int .i64 0, .int .i64 0, .int .i64 0, .int .i64 0, .int .i64 0, .slice none 0 0]) (t := 26) ?hr ?_; (case hd => rfl); (case hg => rfl); (case hr => first | (go_simp; done) | (go_simp; rfl))
        intro b9 hg ad7 hbox hb
        replace S := ae.mk (S.out.box hg hbox hb)
        clear hg hbox hb
        refine hK.out _ _ S.out.jT (fun hHeld => ?_)
        clear hK K
        refine iW 9 ?_
        refine jY (i := 5) (N := some 45) (bA 27 17039359) rfl rfl (eX aW.out (by kernel_rfl)) (by decide) (fun K hK => ?_)
        refine jc Try.func67 (by kernel_rfl) rfl #[.agg #[.int .u8 k.f0, .int .i64 k.f1.f0, .int .i64 k.f1.f1, .int .i64 k.f1.f2, .int .i64 k.f1.f3, .int .i64 k.f2, .slice ua k.f3.length uc], .int .i64 0, .int .i64 0] (by rfl) rfl rfl (by (try simp only [List.map_toArray, List.map_cons, List.map_nil]); first | done | rfl) ?_
        refine (Oq k 0 0 Il.out (S.out.tree _ (.head _))).mono ?_
        rintro e alr ⟨KD, EW, rfl, h1, hb⟩
        refine ⟨_, rfl, ?_⟩
        replace S := ae.mk (S.out.res (Kd.xO (base' := 0) h1) hb)
        clear h1 hb
        refine hK.out _ _ S.out.jT.dW (fun hHeld => ?_)
        clear hK K
        refine iW 45 ?_
        refine jY (i := 18) (N := some 58) (bA 27 17301503) rfl rfl (eX aW.out (by kernel_rfl)) (by decide) (fun K hK => ?_)
        refine jc Try.func87 (by kernel_rfl) rfl #[.agg #[.int .i64 k.f1.f0, .int .i64 k.f1.f1, .int .i64 k.f1.f2, .int .i64 k.f1.f3], .int .u8 ax] (by rfl) rfl rfl (by (try simp only [List.map_toArray, List.map_cons, List.map_nil]); first | done | rfl) ?_
        refine (Aw ⟨k.f1.f0, k.f1.f1, k.f1.f2, k.f1.f3⟩ ax).mono ?_
        rintro e ad8 ⟨rfl, hb⟩
        refine ⟨_, rfl, ?_⟩
        replace S := ae.mk (S.out.call hb)
        clear hb
        refine hK.out _ _ S.out.jT.dW (fun hHeld => ?_)
        clear hK K
        refine iW 58 ?_
        refine bH 19 59 (bA 27 17825791) aW ?_
        refine jY (i := 20) (N := some 60) (bA 27 18874367) rfl rfl (eX aW.out (by kernel_rfl)) (by decide) (fun K hK => ?_)
        refine jc Try.func184 (by kernel_rfl) rfl #[.agg #[.int .u8 ((bu k 0 0).f0), .int .i64 ((bu k 0 0).f1.f0), .int .i64 ((bu k 0 0).f1.f1), .int .i64 ((bu k 0 0).f1.f2), .int .i64 ((bu k 0 0).f1.f3), .int .i64 ((bu k 0 0).f2), .slice KD ((bu k 0 0).f3.length) EW], .int .u8 ax, .int .i64 (wrap64 ((rd sl (pre.length : Int)) - (dA ax k.f1)))] (by rfl) rfl rfl (by (try simp only [List.map_toArray, List.map_cons, List.map_nil]); first | done | rfl) ?_
        refine (H8 MR.out (Ci ax (bu k 0 0) Bf.out _ _ _ _ _ (jS (S.out.tree _ (.head _))))).mono ?_
        rintro e apH ⟨Ij, Dc, rfl, h1, hb⟩
        refine ⟨_, rfl, ?_⟩
        replace S := ae.mk (S.out.res (Kd.xO (base' := 0) h1) hb)
        clear h1 hb
        refine hK.out _ _ S.out.jT.dW.dW (fun hHeld => ?_)
        clear hK K
        refine iW 60 ?_
        refine bH 21 39 (bA 27 20971519) aW ?_
        refine bH 22 61 (bA 27 25165823) aW ?_
        refine bH 23 62 (bA 27 33554431) aW ?_
        exact qi (by simp only [uH, Act.put, List.setIfInBounds_toArray, List.set_cons_zero, List.set_cons_succ] <;> rfl) (Cf (KD, EW, Ij, Dc, b9) _ S.out)
      rintro ⟨KD, EW, Ij, Dc, b9⟩ axb S1
      simp only [uH, Act.put, List.setIfInBounds_toArray, List.set_cons_zero, List.set_cons_succ]
      replace S := ae.mk S1
      clear S1 hHeld
      have hHeld := S.out.jT.dW.dW
      refine zD (i := 25) (N := none) (bA 27 67108863) rfl rfl (eX aW.out (by kernel_rfl)) (by decide) (fun K hK => ?_)
      refine CP 0 rfl 26 (.tmp 9) (.tmp 61) rfl #[.int .u8 ((dX ax k (NS pre.length)).f0), .int .i64 ((dX ax k (NS pre.length)).f1.f0), .int .i64 ((dX ax k (NS pre.length)).f1.f1), .int .i64 ((dX ax k (NS pre.length)).f1.f2), .int .i64 ((dX ax k (NS pre.length)).f1.f3), .int .i64 ((dX ax k (NS pre.length)).f2), .slice Ij ((dX ax k (NS pre.length)).f3.length) Dc] (j := 0) (u := .agg #[.int .u8 ((dX ax k (NS pre.length)).f0), .int .i64 ((dX ax k (NS pre.length)).f1.f0), .int .i64 ((dX ax k (NS pre.length)).f1.f1), .int .i64 ((dX ax k (NS pre.length)).f1.f2), .int .i64 ((dX ax k (NS pre.length)).f1.f3), .int .i64 ((dX ax k (NS pre.length)).f2), .slice Ij ((dX ax k (NS pre.length)).f3.length) Dc]) (dL := [.int .u8 ((dX ax k (NS pre.length)).f0), .int .i64 ((dX ax k (NS pre.length)).f1.f0), .int .i64 ((dX ax k (NS pre.length)).f1.f1), .int .i64 ((dX ax k (NS pre.length)).f1.f2), .int .i64 ((dX ax k (NS pre.length)).f1.f3), .int .i64 ((dX ax k (NS pre.length)).f2), .slice Ij ((dX ax k (NS pre.length)).f3.length) Dc]) S.out (by rfl) rfl rfl rfl rfl (by kernel_rfl) (by simp [Value.oneCell']) (by first | decide | simp) rfl ?_
      intro apI S1
      simp only [List.set_cons_zero, List.set_cons_succ] at S1
      replace S := ae.mk S1
      clear S1
      refine hK.out _ _ ?_
      clear hK K
      refine bH 26 10 (bA 27 134217727) aW ?_
      refine oV (lh aW.out (by kernel_rfl)) ?_
      clear hHeld
      by_cases hkn : (vw ax k (NS pre.length)) = 0
      ·have hkb2 : ((vw ax k (NS pre.length)) != 0) = false := by rw [hkn]; rfl
       have SS := ae.mk hkn
       have hkd : decide ((vw ax k (NS pre.length)) = 0) = true := decide_eq_true hkn
       obtain ⟨RZ, Nz, NC, ND, NF, R_, Si⟩ := St.nU S (.head _)
       go_wp2_with (first
        | ((with_reducible refine aQ (N := 69) rfl ?_); at_builtin; go_loud (refine CG (.tmp 66) (.tmp 68) rfl rfl Try.underlying24 info26 S.out (dX ax k (NS pre.length)) (.head _) rfl (by first | (go_simp; done) | (go_simp; rfl)) (by have := Em.out; rw [yU]; omega) ?_); intro Aq cq aw7 S1; rw [← aa8] at S1 ⊢; replace S := ae.mk S1; clear S1; clear RZ Nz NC ND NF R_ Si)
        | fail)
       have hw1 := HW1.out
       go_wp2
       go_roundg rest.length
       case measure => exact Nat.lt_of_lt_of_le (Nat.lt_succ_self _) qO.out
       case rel => exact ⟨pre ++ [k], rest, Aq, cq, (by simp), (by rw [hw1]), ⟨by rw [List.append_assoc]; exact HE.out⟩, Nat.le_refl _, ⟨by rw [ED, Z7.out]; simp only [vz, Nat.zero_add, Bool.false_or, Bool.or_false]; rw [SS.out]; rfl⟩, ⟨S.out.jT.dW.dW.dW.dK.dK.dK.dK.dK.dK.dK⟩⟩
      ·have hkb2 : ((vw ax k (NS pre.length)) != 0) = true := bne_iff_ne.mpr hkn
       have SS := ae.mk hkb2
       have hkd : decide ((vw ax k (NS pre.length)) = 0) = false := decide_eq_false hkn
       go_wp2_with (first
        | ((with_reducible refine aQ (N := 65) rfl ?_); replace S := ae.mk S.out.free; refine Dy (N := 65) rfl rfl S.out ?hr ?_; (case hr => first | (go_simp; done) | (go_simp; rfl)); intro awf awq apJ S1; replace S := ae.mk S1; clear S1)
        | fail)
       refine bodyPost_ret (results_tmp2 rfl _ _ _) rfl ?_
       rw [HR.out, if_pos (by rw [← HE.out, ED]; simp only [vz, Nat.zero_add]; rw [SS.out]; simp)]
       exact ⟨_, _, rfl, S.out.free.UY (b0 := w.heap.size) (.head _), S.out.below⟩
theorem aih : ∀ (N : Nat) (c : aI), sz c ≤ N → N ≤ 100000 → ∀ (P : Nat → Prop) (A : Option Addr) (cc : Nat) (w : World), Kd.V k26 26 w w.heap.size P (.slice A c.f3.length cc) c.f3 →
  Calls Try.prog 154 #[.agg #[.int .u8 c.f0, .int .i64 c.f1.f0, .int .i64 c.f1.f1, .int .i64 c.f1.f2, .int .i64 c.f1.f3, .int .i64 c.f2, .slice A c.f3.length cc]] w (zt w P (dY N c)) := by
 intro N
 induction N with
 | zero => intro c h; rw [gm] at h; omega
 | succ N ih =>
  intro c hc hN P A cc w hv
  have hsz := gm c
  have hks := LG c
  have NP := fun P W A cc (h : Kd.V k26 26 W W.heap.size P (.slice A c.f3.length cc) c.f3) => adM c (by omega) P A cc W h
  have S := ae.mk (St.start (ts := [(.slice A c.f3.length cc, c.f3)]) (b0 := w.heap.size) (w := w) (P := P) (fun t ht => by rw [List.mem_singleton.1 ht]; exact hv))
  simp only [dY]
  obtain ⟨L0, hL0⟩ : ∃ L0, L0 = if (nK c).2 = 0 then (nK c).1 else c.f3 := ⟨_, rfl⟩
  rw [← hL0] at hks ⊢
  have hlen := nN L0
  have pG := ae.mk (show L0.length ≤ 1000000 by omega)
  have IH := ae.mk fun (k : aI) (hk : k ∈ L0) P A cc w h => ih k (by have := vV hk; omega) (by omega) P A cc w h
  generalize nK c = kr at hL0 NP
  obtain ⟨L, en⟩ := kr
  obtain ⟨ck, ⟨cx, cy, cw, ch⟩, aV, l⟩ := c
  simp only [] at S hL0 NP ⊢
  have Z8 := ae.mk NP
  have SV := ae.mk hL0
  clear ih hc hN hv hsz hks NP hL0 hlen
  go_enter Try.func154, Try.ntmps154
  go_upto_if 13 with (first
   | ((with_reducible refine bV 1 rfl ?_); refine boxS 1 #[.int .u8 ck, .int .i64 cx, .int .i64 cy, .int .i64 cw, .int .i64 ch, .int .i64 aV, .slice A l.length cc] 26 S ?_; clear S; intro b1 oC S)
   | ((with_reducible refine bV 2 rfl ?_); refine boxS 2 #[.int .u8 0, .int .i64 0, .int .i64 0, .int .i64 0, .int .i64 0, .int .i64 0, .slice none 0 0] 26 S ?_; clear S; intro b2 qU S; obtain ⟨gW, jA, jB, jK, jL, kH, iI⟩ := St.nU S (.tail _ (.head _)))
   | ((with_reducible refine bV 9 rfl ?_); refine NK (some 9) Try.func156 (Z8.out _ _ A cc (jS (S.out.tree _ (.head _)))) ?_; rintro e xm ⟨Ak, ck', rfl, h1, hb⟩; refine ⟨_, rfl, ?_⟩; replace S := ae.mk (S.out.res h1 hb); clear h1 hb; clear gW jA jB jK jL kH iI)
   | fail)
  (try simp only [Act.put, List.setIfInBounds_toArray, List.set_cons_zero, List.set_cons_succ])
  go_cut [3] (fun v3 wc => ∃ A0 c0, v3 = .slice A0 L0.length c0 ∧ ae (St w P [(some b2, .cells #[.int .u8 0, .int .i64 0, .int .i64 0, .int .i64 0, .int .i64 0, .int .i64 0, .slice none 0 0] 26 (0, 0)), (some b1, .cells #[.int .u8 ck, .int .i64 cx, .int .i64 cy, .int .i64 cw, .int .i64 ch, .int .i64 aV, .slice A l.length cc] 26 (0, 0))] [] [(.slice A0 L0.length c0, L0)] [] wc))
  case first =>
   by_cases hen : en = 0
   ·have hl : L0 = L := by rw [SV.out, if_pos hen]
    have hed : decide (en = 0) = true := decide_eq_true hen
    have heb : (en == 0) = true := beq_iff_eq.mpr hen
    have hec : (en != 0) = false := by rw [hen]; rfl
    go_wp2
    go_meet
    case rel => rw [hl]; exact ⟨_, _, rfl, ⟨S.out.Sl (.head _)⟩⟩
   ·have hl : L0 = l := by rw [SV.out, if_neg hen]
    have hed : decide (en = 0) = false := decide_eq_false hen
    have heb : (en == 0) = false := beq_eq_false_iff_ne.mpr hen
    have hec : (en != 0) = true := bne_iff_ne.mpr hen
    have iI := (S.out.at (.tail _ (.head _)) 6).trans rfl
    go_wp2
    clear iI
    go_meet
    case rel => rw [hl]; exact ⟨_, _, rfl, ⟨S.out.Sl (.tail _ (.head _))⟩⟩
  case rest =>
   clear S Z8 SV
   obtain ⟨A0, c0, rfl, S⟩ := hcut
   rename World => wx
   go_wp2_with (first
    | ((with_reducible refine aQ (N := 16) rfl ?_); refine Dy (N := 16) rfl rfl S.out ?hr ?_; (case hr => first | (go_simp; done) | (go_simp; rfl)); intro abT acp wJ S1; replace S := ae.mk S1; clear S1)
    | fail)
   go_loopg [5, 19] L0.length (fun gg v5 v19 wr => ∃ (pre rest : List aI) (Ap : Option Addr) (cp : Nat), v5 = .slice Ap pre.length cp ∧ v19 = .int .i64 (pre.length : Int) ∧ ae (pre ++ rest = L0) ∧ rest.length ≤ gg ∧ ae (St w P [(some b2, .cells #[.int .u8 0, .int .i64 0, .int .i64 0, .int .i64 0, .int .i64 0, .int .i64 0, .slice none 0 0] 26 (0, 0)), (some b1, .cells #[.int .u8 ck, .int .i64 cx, .int .i64 cy, .int .i64 cw, .int .i64 ch, .int .i64 aV, .slice A l.length cc] 26 (0, 0))] [(.slice Ap pre.length cp, (pre.map (dY N)))] [(.slice A0 L0.length c0, L0)] [] wr))
   case atStart => exact ⟨[], L0, _, _, rfl, rfl, ⟨rfl⟩, Nat.le_refl _, ⟨S.out⟩⟩
   case round =>
    clear S
    obtain ⟨pre, rest, Ap, cp, rfl, rfl, HE, hgg, S⟩ := hrel
    cases rest with
    | nil =>
     have hE := HE.out
     rw [List.append_nil] at hE
     have hE2 := hE.symm
     subst hE2
     clear hE HE hgg
     have hlt : ¬ ((L0.length : Int) < (L0.length : Int)) := by omega
     go_wp2_with (first
      | ((with_reducible refine kR 24 (.tmp 32) (.tmp 31) rfl ?_); refine BP 24 32 31 #[.int .u8 ck, .int .i64 cx, .int .i64 cy, .int .i64 cw, .int .i64 ch, .int .i64 aV, .slice Ap L0.length cp] 6 1 S ?_; clear S; intro D9 S; obtain ⟨gW, jA, jB, jK, jL, kH, iI⟩ := St.nU S (.tail _ (.head _)))
      | ((with_reducible refine kR 26 (.tmp 2) (.tmp 33) rfl ?_); refine rU 26 2 33 #[.int .u8 ck, .int .i64 cx, .int .i64 cy, .int .i64 cw, .int .i64 ch, .int .i64 aV, .slice Ap L0.length cp] 0 7 S ?_; clear S; intro KY S; clear gW jA jB jK jL kH iI)
      | fail)
     refine bodyPost_ret (results_cell_row rfl _ _ b2 26 #[.int .u8 ck, .int .i64 cx, .int .i64 cy, .int .i64 cw, .int .i64 ch, .int .i64 aV, .slice Ap L0.length cp] (0, 0) _ rfl (S.out.blk _ (.head _) _ rfl) Try.underlying26 rfl (by kernel_rfl)) rfl ?_
     have hN := S.out.Aj
     simp only [zt, List.length_map]
     exact ⟨_, _, rfl, hN, S.out.below⟩
    | cons k rest =>
     have hk : k ∈ L0 := by rw [← HE.out]; simp
     have hlt : (pre.length : Int) < (L0.length : Int) := by rw [← HE.out, List.length_append, List.length_cons]; omega
     have hw1 : wrap64 ((pre.length : Int) + 1) = ((pre ++ [k]).length : Int) := by have := pG.out; rw [List.length_append, List.length_singleton]; unfold wrap64; omega
     have HW1 := ae.mk hw1
     have qO := ae.mk hgg
     have HK := ae.mk hk
     have Em := ae.mk (show pre.length ≤ 1000000 by have := pG.out; omega)
     obtain ⟨mf, ua, uc, ek, S1⟩ := S.out.elem (.head _) (pre.length : Int) (Int.natCast_nonneg _) hlt
     subst ek
     have hrd : au L0 (pre.length : Int) = k := by rw [← HE.out]; exact lS pre k rest
     rw [hrd] at S1
     simp only [Int.toNat_natCast] at S1
     replace S := ae.mk S1
     clear S1 hrd hk hgg hw1
     obtain ⟨rG, qw, qx, pR, pU, uK, uM⟩ := St.el7 S
     go_wp2_with (first
      | ((with_reducible refine bV 27 rfl ?_); refine AZ (some 27) Try.func154 S (IH.out k HK.out _ ua uc _ (jS (S.out.tree _ (.head _)))) ?_; clear S; intro A27 awh JH S; clear rG qw qx pR pU uK uM)
      | ((with_reducible refine aQ (N := 29) rfl ?_); at_builtin; go_loud (refine CG (.tmp 22) (.tmp 28) rfl rfl Try.underlying24 info26 S.out (dY N k) (.head _) rfl (by first | (go_simp; done) | (go_simp; rfl)) (by have := Em.out; rw [List.length_map]; omega) ?_); intro Aq cq Rk S1; rw [show pre.map (dY N) ++ [dY N k] = (pre ++ [k]).map (dY N) by simp] at S1 ⊢; rw [List.length_map] at S1 ⊢; replace S := ae.mk S1; clear S1)
      | fail)
     have hw1 := HW1.out
     go_wp2
     go_roundg rest.length
     case measure => exact Nat.lt_of_lt_of_le (Nat.lt_succ_self _) qO.out
     case rel => exact ⟨pre ++ [k], rest, Aq, cq, (by simp), (by rw [hw1]), ⟨by rw [List.append_assoc]; exact HE.out⟩, Nat.le_refl _, ⟨S.out.dW.dW.dK.dK.dK.dK.dK.dK.dK⟩⟩
def BD.T3 : Bool × List (List Nat × List Nat) := (true, [([], []), ([0], [0]), ([], []), ([2], [2]), ([3], [3]), ([], []), ([5], [5]), ([6], [6]), ([1, 4, 7, 1], [1, 4, 7]), ([8, 8, 0, 1, 2, 3, 4, 5, 6, 7, 8], [8]), ([9, 0, 1, 2, 3, 4, 5, 6, 7, 8, 9], [])])
def BD.B3 : List Nat := [0, 1, 0, 4, 12, 0, 32, 96, 255, 511, 1023]
theorem BD.JC : lC .any (opsOf Try.f108 3) = BD.T3 := by kernel_rfl
theorem BD.Eu : lu BD.T3.2 BD.B3 = true := by kernel_rfl
theorem aif (c : aI) (hz : sz c ≤ 1048576) (P : Nat → Prop) (A : Option Addr) (cc : Nat) (w : World) (hv : Kd.V k26 26 w w.heap.size P (.slice A c.f3.length cc) c.f3) :
  Calls Try.prog 108 #[.agg #[.int .u8 c.f0, .int .i64 c.f1.f0, .int .i64 c.f1.f1, .int .i64 c.f1.f2, .int .i64 c.f1.f3, .int .i64 c.f2, .slice A c.f3.length cc]] w (En w P (tY c) (Yl c)) := by
 have S := ae.mk (St.start (ts := [(.slice A c.f3.length cc, c.f3)]) (b0 := w.heap.size) (w := w) (P := P) (fun t ht => by rw [List.mem_singleton.1 ht]; exact hv))
 have HZ := ae.mk hz
 have hs := fun h => uP (xk (c := c) h)
 unfold tY Yl
 obtain ⟨ck, ⟨cx, cy, cw, ch⟩, aV, l⟩ := c
 simp only [] at S ⊢
 clear hv hz
 cases ht : jy ⟨ck, ⟨cx, cy, cw, ch⟩, aV, l⟩ with
 | false =>
  have HT := ae.mk ht
  clear ht hs
  go_enter Try.func108, Try.ntmps108
  go_wp2_with (first
   | ((with_reducible refine bV 1 rfl ?_); refine boxS 1 #[.int .u8 ck, .int .i64 cx, .int .i64 cy, .int .i64 cw, .int .i64 ch, .int .i64 aV, .slice A l.length cc] 26 S ?_; clear S; intro b1 oC S)
   | ((with_reducible refine bV 2 rfl ?_); refine boxS 2 #[.int .u8 0, .int .i64 0, .int .i64 0, .int .i64 0, .int .i64 0, .int .i64 0, .slice none 0 0] 26 S ?_; clear S; intro b2 qU S; obtain ⟨gW, jA, jB, jK, jL, kH, iI⟩ := St.nU S (.tail _ (.head _)))
   | ((with_reducible refine bV 5 rfl ?_); refine jX (some 5) Try.func84 S (vW HT.out (Az ⟨ck, ⟨cx, cy, cw, ch⟩, aV, l⟩ HZ.out (S.out.tree _ (.head _)))) ?_; clear S; intro xm S; clear gW jA jB jK jL kH iI)
   | ((with_reducible refine kR 26 (.tmp 2) (.tmp 7) rfl ?_); refine rU 26 2 7 #[.int .u8 0, .int .i64 0, .int .i64 0, .int .i64 0, .int .i64 0, .int .i64 0, .slice none 0 0] 0 7 S ?_; clear S; intro wJ S)
   | fail)
  refine bodyPost_ret (jP rfl _ _ b2 26 #[.int .u8 0, .int .i64 0, .int .i64 0, .int .i64 0, .int .i64 0, .int .i64 0, .slice none 0 0] (0, 0) _ rfl (S.out.blk _ (.head _) _ rfl) Try.underlying26 rfl (by kernel_rfl)) rfl ?_
  exact ⟨_, _, rfl, Kd.wE _ _ _ _ _, S.out.below⟩
 | true =>
  have hs2 := hs ht
  have HZ2 := ae.mk (show sz ⟨ck, ⟨cx, cy, cw, ch⟩, aV, l⟩ ≤ 100000 by omega)
  have HZ3 := ae.mk (show sz (dY 100000 ⟨ck, ⟨cx, cy, cw, ch⟩, aV, l⟩) ≤ 1000000 by have := Vb 100000 ⟨ck, ⟨cx, cy, cw, ch⟩, aV, l⟩; omega)
  have HT := ae.mk ht
  clear ht hs hs2
  go_enter Try.func108, Try.ntmps108
  go_wp2_with (first
   | ((with_reducible refine bV 1 rfl ?_); refine boxS 1 #[.int .u8 ck, .int .i64 cx, .int .i64 cy, .int .i64 cw, .int .i64 ch, .int .i64 aV, .slice A l.length cc] 26 S ?_; clear S; intro b1 oC S)
   | ((with_reducible refine bV 2 rfl ?_); refine boxS 2 #[.int .u8 0, .int .i64 0, .int .i64 0, .int .i64 0, .int .i64 0, .int .i64 0, .slice none 0 0] 26 S ?_; clear S; intro b2 qU S; obtain ⟨gW, jA, jB, jK, jL, kH, iI⟩ := St.nU S (.tail _ (.head _)))
   | ((with_reducible refine bV 5 rfl ?_); refine jX (some 5) Try.func84 S (vW HT.out (Az ⟨ck, ⟨cx, cy, cw, ch⟩, aV, l⟩ HZ.out (S.out.tree _ (.head _)))) ?_; clear S; intro xm S; clear gW jA jB jK jL kH iI)
   | fail)
  refine m_ (n := 11) (S := fun w' => St w _ _ _ _ _ w') (ds := [9]) (bA 11 0) (by kernel_rfl) rfl rfl (S.out.call (fF (Below.refl _ _))) (fun hHeld => ?_); refine jr BD.JC BD.Eu (fun aW gX => ?_)
  replace S := ae.mk (S.out.call (fF (Below.refl _ _)))
  generalize xm.drew = wd4 at S hHeld ⊢
  refine jq 0 8 (bA 11 1) aW gX hHeld ?_ (hv := by intro w' hs_; have gW := (hs_.at (.tail _ (.head _)) 0).trans rfl; have jA := (hs_.at (.tail _ (.head _)) 1).trans rfl; have jB := (hs_.at (.tail _ (.head _)) 2).trans rfl; have jK := (hs_.at (.tail _ (.head _)) 3).trans rfl; have jL := (hs_.at (.tail _ (.head _)) 4).trans rfl; have kH := (hs_.at (.tail _ (.head _)) 5).trans rfl; have iI := (hs_.at (.tail _ (.head _)) 6).trans rfl; go_simp; with_reducible rfl)
  refine bH 2 10 (bA 11 5) aW ?_
  refine bH 3 11 (bA 11 13) aW ?_
  refine jq 4 12 (bA 11 29) aW gX hHeld ?_ (hv := by intro w' hs_; have jA := (hs_.at (.tail _ (.head _)) 1).trans rfl; go_simp; with_reducible rfl)
  refine bH 5 13 (bA 11 61) aW ?_
  refine bH 6 14 (bA 11 125) aW ?_
  refine jq 7 15 (bA 11 253) aW gX hHeld ?_ (hv := by intro w' hs_; have jB := (hs_.at (.tail _ (.head _)) 2).trans rfl; go_simp; with_reducible rfl)
  refine jY (i := 1) (N := some 9) (bA 11 255) rfl rfl (eX aW.out (by kernel_rfl)) (by decide) (fun K hK => ?_)
  refine jc Try.func154 (by kernel_rfl) rfl #[.agg #[.int .u8 ck, .int .i64 cx, .int .i64 cy, .int .i64 cw, .int .i64 ch, .int .i64 aV, .slice A l.length cc]] (by rfl) rfl rfl (by (try simp only [List.map_toArray, List.map_cons, List.map_nil]); first | done | rfl) ?_
  refine (aih 100000 ⟨ck, ⟨cx, cy, cw, ch⟩, aV, l⟩ HZ2.out (Nat.le_refl _) _ A cc _ (jS (S.out.tree _ (.head _)))).mono ?_
  rintro e D9 ⟨A9, cA9, rfl, h1, hb⟩
  refine ⟨_, rfl, ?_⟩
  replace S := ae.mk (S.out.res (Kd.xO (base' := 0) h1) hb)
  clear h1 hb
  refine hK.out _ _ S.out.dW (fun hHeld => ?_)
  clear hK K
  refine iW 9 ?_
  refine jY (i := 8) (N := some 16) (bA 11 511) rfl rfl (eX aW.out (by kernel_rfl)) (by decide) (fun K hK => ?_)
  refine jc Try.func67 (by kernel_rfl) rfl #[.agg #[.int .u8 ((dY 100000 ⟨ck, ⟨cx, cy, cw, ch⟩, aV, l⟩).f0), .int .i64 ((dY 100000 ⟨ck, ⟨cx, cy, cw, ch⟩, aV, l⟩).f1.f0), .int .i64 ((dY 100000 ⟨ck, ⟨cx, cy, cw, ch⟩, aV, l⟩).f1.f1), .int .i64 ((dY 100000 ⟨ck, ⟨cx, cy, cw, ch⟩, aV, l⟩).f1.f2), .int .i64 ((dY 100000 ⟨ck, ⟨cx, cy, cw, ch⟩, aV, l⟩).f1.f3), .int .i64 ((dY 100000 ⟨ck, ⟨cx, cy, cw, ch⟩, aV, l⟩).f2), .slice A9 ((dY 100000 ⟨ck, ⟨cx, cy, cw, ch⟩, aV, l⟩).f3.length) cA9], .int .i64 cx, .int .i64 cy] (by rfl) rfl rfl (by (try simp only [List.map_toArray, List.map_cons, List.map_nil]); first | done | rfl) ?_
  refine (Oq (dY 100000 ⟨ck, ⟨cx, cy, cw, ch⟩, aV, l⟩) cx cy HZ3.out (S.out.tree _ (.head _))).mono ?_
  rintro e KY ⟨QT, Yz, rfl, h1, hb⟩
  refine ⟨_, rfl, ?_⟩
  replace S := ae.mk (S.out.Qv h1 hb)
  clear h1 hb
  refine hK.out _ _ S.out.free.dW.dW (fun hHeld => ?_)
  clear hK K
  refine iW 16 ?_
  refine zD (i := 9) (N := none) (bA 11 1023) rfl rfl (eX aW.out (by kernel_rfl)) (by decide) (fun K hK => ?_)
  refine CP 0 rfl 26 (.tmp 2) (.tmp 16) rfl #[.int .u8 ((bu (dY 100000 ⟨ck, ⟨cx, cy, cw, ch⟩, aV, l⟩) cx cy).f0), .int .i64 ((bu (dY 100000 ⟨ck, ⟨cx, cy, cw, ch⟩, aV, l⟩) cx cy).f1.f0), .int .i64 ((bu (dY 100000 ⟨ck, ⟨cx, cy, cw, ch⟩, aV, l⟩) cx cy).f1.f1), .int .i64 ((bu (dY 100000 ⟨ck, ⟨cx, cy, cw, ch⟩, aV, l⟩) cx cy).f1.f2), .int .i64 ((bu (dY 100000 ⟨ck, ⟨cx, cy, cw, ch⟩, aV, l⟩) cx cy).f1.f3), .int .i64 ((bu (dY 100000 ⟨ck, ⟨cx, cy, cw, ch⟩, aV, l⟩) cx cy).f2), .slice QT ((bu (dY 100000 ⟨ck, ⟨cx, cy, cw, ch⟩, aV, l⟩) cx cy).f3.length) Yz] (j := 0) (u := .agg #[.int .u8 ((bu (dY 100000 ⟨ck, ⟨cx, cy, cw, ch⟩, aV, l⟩) cx cy).f0), .int .i64 ((bu (dY 100000 ⟨ck, ⟨cx, cy, cw, ch⟩, aV, l⟩) cx cy).f1.f0), .int .i64 ((bu (dY 100000 ⟨ck, ⟨cx, cy, cw, ch⟩, aV, l⟩) cx cy).f1.f1), .int .i64 ((bu (dY 100000 ⟨ck, ⟨cx, cy, cw, ch⟩, aV, l⟩) cx cy).f1.f2), .int .i64 ((bu (dY 100000 ⟨ck, ⟨cx, cy, cw, ch⟩, aV, l⟩) cx cy).f1.f3), .int .i64 ((bu (dY 100000 ⟨ck, ⟨cx, cy, cw, ch⟩, aV, l⟩) cx cy).f2), .slice QT ((bu (dY 100000 ⟨ck, ⟨cx, cy, cw, ch⟩, aV, l⟩) cx cy).f3.length) Yz]) (dL := [.int .u8 ((bu (dY 100000 ⟨ck, ⟨cx, cy, cw, ch⟩, aV, l⟩) cx cy).f0), .int .i64 ((bu (dY 100000 ⟨ck, ⟨cx, cy, cw, ch⟩, aV, l⟩) cx cy).f1.f0), .int .i64 ((bu (dY 100000 ⟨ck, ⟨cx, cy, cw, ch⟩, aV, l⟩) cx cy).f1.f1), .int .i64 ((bu (dY 100000 ⟨ck, ⟨cx, cy, cw, ch⟩, aV, l⟩) cx cy).f1.f2), .int .i64 ((bu (dY 100000 ⟨ck, ⟨cx, cy, cw, ch⟩, aV, l⟩) cx cy).f1.f3), .int .i64 ((bu (dY 100000 ⟨ck, ⟨cx, cy, cw, ch⟩, aV, l⟩) cx cy).f2), .slice QT ((bu (dY 100000 ⟨ck, ⟨cx, cy, cw, ch⟩, aV, l⟩) cx cy).f3.length) Yz]) S.out (by rfl) rfl rfl rfl rfl (by kernel_rfl) (by simp [Value.oneCell']) (by first | decide | simp) rfl ?_
  intro JH S1
  simp only [List.set_cons_zero, List.set_cons_succ] at S1
  replace S := ae.mk S1
  clear S1
  refine hK.out _ _ ?_
  clear hK K
  refine bH 10 3 (bA 11 2047) aW ?_
  refine oV (lh aW.out (by kernel_rfl)) ?_
  clear hHeld
  go_wp2
  refine bodyPost_ret (jP rfl _ _ b2 26 #[.int .u8 ((bu (dY 100000 ⟨ck, ⟨cx, cy, cw, ch⟩, aV, l⟩) cx cy).f0), .int .i64 ((bu (dY 100000 ⟨ck, ⟨cx, cy, cw, ch⟩, aV, l⟩) cx cy).f1.f0), .int .i64 ((bu (dY 100000 ⟨ck, ⟨cx, cy, cw, ch⟩, aV, l⟩) cx cy).f1.f1), .int .i64 ((bu (dY 100000 ⟨ck, ⟨cx, cy, cw, ch⟩, aV, l⟩) cx cy).f1.f2), .int .i64 ((bu (dY 100000 ⟨ck, ⟨cx, cy, cw, ch⟩, aV, l⟩) cx cy).f1.f3), .int .i64 ((bu (dY 100000 ⟨ck, ⟨cx, cy, cw, ch⟩, aV, l⟩) cx cy).f2), .slice QT ((bu (dY 100000 ⟨ck, ⟨cx, cy, cw, ch⟩, aV, l⟩) cx cy).f3.length) Yz] (0, 0) _ rfl (S.out.blk _ (.head _) _ rfl) Try.underlying26 rfl (by kernel_rfl)) rfl ?_
  exact ⟨_, _, rfl, S.out.Aj, S.out.below⟩
end Go.Proofs.Ytfdmfgaiblfbhaa.P
namespace Go.Proofs.Ytfdmfgaiblfbhaa.P
open Go.Shelf
def av4 : Ren := ⟨fun f => match f with | 21 => 150 | 27 => 181 | 28 => 182 | 35 => 198 | 39 => 208 | n => n, fun t => match t with | 22 => 41 | n => n, fun g => g⟩
end Go.Proofs.Ytfdmfgaiblfbhaa.P
namespace Go.Proofs.Ytfdmfgaiblfbhaa.P
open Go.RowKit Go.Shelf Go.Proofs.ai.bg Go.Proofs.ai.di Go.Proofs.ai.dG
end Go.Proofs.Ytfdmfgaiblfbhaa.P
namespace Go.Proofs.Ytfdmfgaiblfbhaa.P
open Go.RowKit Go.Proofs.ai.bg Go.Proofs.ai.di Go.Proofs.ai.dG
section
variable {P : Program} {ops : Array Oper} {rest : List Oper} {o : Oper} {a : Act} {Q : Exit → Act → World → Prop}
end
mutual
def YI (id : Int) : aI → Option (List Int)
 | ⟨a, _, d, l⟩ => if a = 1 ∧ d = id then some [] else ae0 id 0 l
def ae0 (id : Int) : Nat → List aI → Option (List Int)
 | _, [] => none
 | i, k :: ks => match YI id k with
  | some p => some ((i : Int) :: p)
  | none => ae0 id (i + 1) ks
end
def auK (w : World) (r : Option (List Int)) (e : Ending) (w' : World) : Prop := ∃ v : Value, e = .returned (.tuple #[v, .bool r.isSome]) ∧ (Kd.int .i64).R 3 w' w.heap.size (fun _ => True) v (r.getD []) ∧ Below w.heap.size w w'
def aor.f (a0 a1 a2 a3 a4 a5 : Int) (l : List aI) (id : Int) : Option (List Int × Bool) := if sz ⟨a0, ⟨a1, a2, a3, a4⟩, a5, l⟩ ≤ 1000000 then some ((YI id ⟨a0, ⟨a1, a2, a3, a4⟩, a5, l⟩).getD [], (YI id ⟨a0, ⟨a1, a2, a3, a4⟩, a5, l⟩).isSome) else none
end Go.Proofs.Ytfdmfgaiblfbhaa.P
namespace Go.Proofs.Ytfdmfgaiblfbhaa.P
open Go.RowKit Go.Proofs.ai.bg Go.Proofs.ai.di Go.Proofs.ai.dG
attribute [local go_sem] kD kF lN lQ jF jG kE kG
def aos.f (az : Int) (aC : Int) (aA : Int) (aG : Int) (a1 : Int) : Option (Int × Int × Int × Int × Int × Int × (List (aI))) := some (1, az, aC, aA, aG, a1, ([] : List (aI)))
mutual
def Ey.l0 : Nat → Int → List (aI) → Int → Int → Option (Int)
 | 0, _, _, _, _ => none
 | k + 1, x3, x8, x9, x10 => if x10 < x9 then (if 0 ≤ x10 then (if x10 < (x8.length : Int) then ((Ey.f k ((au x8 x10).f3)).bind fun apv => (Ey.l0 k (wrap64 (x3 + apv)) x8 x9 (wrap64 (x10 + 1)))) else (none)) else (none)) else (some x3)
def Ey.f : Nat → List (aI) → Option (Int)
 | 0, _ => none
 | k + 1, l0 => Ey.l0 k (l0.length : Int) l0 (l0.length : Int) 0
end
end Go.Proofs.Ytfdmfgaiblfbhaa.P
namespace Go.Proofs.Ytfdmfgaiblfbhaa.P
open Go.RowKit Go.Proofs.ai.bg Go.Proofs.ai.di Go.Proofs.ai.dG
def afT.T2 : Bool × List (List Nat × List Nat) := (true, [([], []), ([], []), ([1], [1]), ([], []), ([3, 2], [3]), ([2, 4], [2, 4]), ([0, 5], [0, 5]), ([], []), ([7, 6, 4, 0, 1, 2, 3, 4, 5, 6, 7], [6, 7])])
def afT.B2 : List Nat := [0, 0, 2, 0, 14, 30, 63, 0, 255]
def afd.f : Option Bool := some true
def Bc.T6 : Bool × List (List Nat × List Nat) := (true, [([], []), ([0], [0]), ([], []), ([1, 2], [1, 2]), ([3], [3]), ([], []), ([5], [5]), ([], []), ([6, 7], [6, 7]), ([8], [8]), ([4, 9], [4, 9]), ([10], [10])])
def Bc.B6 : List Nat := [0, 1, 0, 7, 15, 0, 32, 0, 224, 480, 1023, 2047]
theorem Bc.tab6 : lC .any (opsOf Try.f64 6) = Bc.T6 := by kernel_rfl
theorem Bc.JP : lu Bc.T6.2 Bc.B6 = true := by kernel_rfl
theorem abD {x y : aI} {v : Bool} {args : Array Value} {W : World} (h : yc x y = v) (hc : Calls Try.prog 64 args W fun e w' => e = .returned (.bool (yc x y)) ∧ Below W.heap.size W w') : Calls Try.prog 64 args W fun e w' => e = .returned (.bool v) ∧ Below W.heap.size W w' := by
 rw [h] at hc
 exact hc
theorem Q_ : ∀ (a a' b b' : List aI), a.length = a'.length → xC (a ++ b) (a' ++ b') = (xC a a' && xC b b') := by
 intro a
 induction a with
 | nil => intro a' b b' h; cases a' with
  | nil => rw [BA]; rfl
  | cons y ys => simp at h
 | cons x xs ih =>
  intro a' b b' h
  cases a' with
  | nil => simp at h
  | cons y ys => rw [List.cons_append, List.cons_append, zK, zK, ih ys b b' (by simpa using h), Bool.and_assoc]
theorem alb : ∀ (N : Nat) (c : aI), sz c ≤ N → N ≤ 1048576 → ∀ (d : aI) (P : Nat → Prop) (A : Option Addr) (cc : Nat) (A' : Option Addr) (cc' : Nat) (w : World), Kd.V k26 26 w w.heap.size P (.slice A c.f3.length cc) c.f3 → Kd.V k26 26 w w.heap.size P (.slice A' d.f3.length cc') d.f3 →
  Calls Try.prog 64 #[.agg #[.int .u8 c.f0, .int .i64 c.f1.f0, .int .i64 c.f1.f1, .int .i64 c.f1.f2, .int .i64 c.f1.f3, .int .i64 c.f2, .slice A c.f3.length cc], .agg #[.int .u8 d.f0, .int .i64 d.f1.f0, .int .i64 d.f1.f1, .int .i64 d.f1.f2, .int .i64 d.f1.f3, .int .i64 d.f2, .slice A' d.f3.length cc']] w fun e w' => e = .returned (.bool (yc c d)) ∧ Below w.heap.size w w' := by
 intro N
 induction N with
 | zero => intro c h; rw [gm] at h; omega
 | succ N ih =>
  intro c hc hN d P A cc A' cc' w hv hv'
  have hsz := gm c
  have hlen := nN c.f3
  have S := ae.mk (St.start (ts := [(.slice A c.f3.length cc, c.f3), (.slice A' d.f3.length cc', d.f3)]) (b0 := w.heap.size) (w := w) (P := P) (fun t ht => by
   rcases List.mem_cons.1 ht with rfl | ht
   ·exact hv
   ·rw [List.mem_singleton.1 ht]; exact hv'))
  have pG := ae.mk (show c.f3.length ≤ 1048576 by omega)
  have IH := ae.mk fun (k : aI) (hk : k ∈ c.f3) d P A cc A' cc' w h h' => ih k (by have := vV hk; omega) (by omega) d P A cc A' cc' w h h'
  have SN := ae.mk (U_ c d)
  obtain ⟨ck, ⟨cx, cy, cw, ch⟩, aV, l⟩ := c
  obtain ⟨dk, ⟨dx, dy, dw, dh⟩, did, m⟩ := d
  simp only [] at S IH pG SN ⊢
  clear ih hc hN hv hv' hsz hlen
  by_cases hk : ck = dk
  case neg =>
   have hkb : (ck == dk) = false := beq_eq_false_iff_ne.mpr hk
   have hkc : (ck != dk) = true := bne_iff_ne.mpr hk
   have hkd : decide (ck = dk) = false := decide_eq_false hk
   have HB := ae.mk hkb
   clear hk
   go_enter Try.func64, Try.ntmps64
   go_wp2_with (first
    | ((with_reducible refine bV 2 rfl ?_); refine boxS 2 #[.int .u8 ck, .int .i64 cx, .int .i64 cy, .int .i64 cw, .int .i64 ch, .int .i64 aV, .slice A l.length cc] 26 S ?_; clear S; intro b2 oC S)
    | ((with_reducible refine bV 3 rfl ?_); refine boxS 3 #[.int .u8 dk, .int .i64 dx, .int .i64 dy, .int .i64 dw, .int .i64 dh, .int .i64 did, .slice A' m.length cc'] 26 S ?_; clear S; intro b3 qU S; have Ce := (S.out.at (.tail _ (.head _)) 0).trans rfl; have gY := (S.out.at (.head _) 0).trans rfl)
    | fail)
   clear Ce gY
   go_ret
   refine ⟨?_, S.out.below⟩
   rw [SN.out]
   rw [HB.out, Bool.false_and]
   rfl
  subst hk
  have hkb : (ck != ck) = false := bne_self_eq_false _
  by_cases hr : tC ⟨cx, cy, cw, ch⟩ ⟨dx, dy, dw, dh⟩ = true
  case neg =>
   have HB := ae.mk (Bool.eq_false_iff.mpr hr)
   clear hr
   go_enter Try.func64, Try.ntmps64
   go_wp2_with (first
    | ((with_reducible refine bV 2 rfl ?_); refine boxS 2 #[.int .u8 ck, .int .i64 cx, .int .i64 cy, .int .i64 cw, .int .i64 ch, .int .i64 aV, .slice A l.length cc] 26 S ?_; clear S; intro b2 oC S)
    | ((with_reducible refine bV 3 rfl ?_); refine boxS 3 #[.int .u8 ck, .int .i64 dx, .int .i64 dy, .int .i64 dw, .int .i64 dh, .int .i64 did, .slice A' m.length cc'] 26 S ?_; clear S; intro b3 qU S; have Ce := (S.out.at (.tail _ (.head _)) 0).trans rfl; have gY := (S.out.at (.head _) 0).trans rfl; have G6 := (S.out.at (.tail _ (.head _)) 1).trans rfl; have G7 := (S.out.at (.tail _ (.head _)) 2).trans rfl; have G_ := (S.out.at (.tail _ (.head _)) 3).trans rfl; have Ha := (S.out.at (.tail _ (.head _)) 4).trans rfl; have gZ := (S.out.at (.head _) 1).trans rfl; have g_ := (S.out.at (.head _) 2).trans rfl; have ig := (S.out.at (.head _) 3).trans rfl; have ik := (S.out.at (.head _) 4).trans rfl)
    | fail)
   clear Ce gY G6 G7 G_ Ha gZ g_ ig ik
   all_goals (first | (exfalso; have h := HB.out; clear S; simp [tC, *] at h; done) | (go_ret; refine ⟨?_, S.out.below⟩; rw [SN.out, HB.out, Bool.false_and, Bool.and_false]; rfl))
  have HR := ae.mk hr
  unfold tC at hr
  simp only [Bool.and_eq_true, beq_iff_eq] at hr
  obtain ⟨rfl, rfl, rfl, rfl⟩ := hr
  by_cases hi : aV = did
  case neg =>
   have hib : (aV == did) = false := beq_eq_false_iff_ne.mpr hi
   have hic : (aV != did) = true := bne_iff_ne.mpr hi
   have hid : decide (aV = did) = false := decide_eq_false hi
   have HB := ae.mk hib
   clear hi
   go_enter Try.func64, Try.ntmps64
   go_wp2_with (first
    | ((with_reducible refine bV 2 rfl ?_); refine boxS 2 #[.int .u8 ck, .int .i64 cx, .int .i64 cy, .int .i64 cw, .int .i64 ch, .int .i64 aV, .slice A l.length cc] 26 S ?_; clear S; intro b2 oC S)
    | ((with_reducible refine bV 3 rfl ?_); refine boxS 3 #[.int .u8 ck, .int .i64 cx, .int .i64 cy, .int .i64 cw, .int .i64 ch, .int .i64 did, .slice A' m.length cc'] 26 S ?_; clear S; intro b3 qU S; have Ce := (S.out.at (.tail _ (.head _)) 0).trans rfl; have gY := (S.out.at (.head _) 0).trans rfl; have G6 := (S.out.at (.tail _ (.head _)) 1).trans rfl; have G7 := (S.out.at (.tail _ (.head _)) 2).trans rfl; have G_ := (S.out.at (.tail _ (.head _)) 3).trans rfl; have Ha := (S.out.at (.tail _ (.head _)) 4).trans rfl; have gZ := (S.out.at (.head _) 1).trans rfl; have g_ := (S.out.at (.head _) 2).trans rfl; have ig := (S.out.at (.head _) 3).trans rfl; have ik := (S.out.at (.head _) 4).trans rfl; have Nw := (S.out.at (.tail _ (.head _)) 5).trans rfl; have je := (S.out.at (.head _) 5).trans rfl)
    | fail)
   clear Ce gY G6 G7 G_ Ha gZ g_ ig ik Nw je
   go_ret
   refine ⟨?_, S.out.below⟩
   rw [SN.out]
   rw [HB.out, Bool.false_and, Bool.and_false, Bool.and_false]
   rfl
  subst hi
  have hib : (aV != aV) = false := bne_self_eq_false _
  by_cases hl : l.length = m.length
  case neg =>
   have hl2 : ¬ ((l.length : Int) = (m.length : Int)) := by omega
   have akE : ((l.length : Int) == (m.length : Int)) = false := beq_eq_false_iff_ne.mpr hl2
   have akF : ((l.length : Int) != (m.length : Int)) = true := bne_iff_ne.mpr hl2
   have akG : decide ((l.length : Int) = (m.length : Int)) = false := decide_eq_false hl2
   have hl3 : (l.length == m.length) = false := beq_eq_false_iff_ne.mpr hl
   have hl4 : decide (l.length = m.length) = false := decide_eq_false hl
   have hl5 : (l.length != m.length) = true := bne_iff_ne.mpr hl
   have HB := ae.mk hl3
   clear hl hl2
   go_enter Try.func64, Try.ntmps64
   go_wp2_with (first
    | ((with_reducible refine bV 2 rfl ?_); refine boxS 2 #[.int .u8 ck, .int .i64 cx, .int .i64 cy, .int .i64 cw, .int .i64 ch, .int .i64 aV, .slice A l.length cc] 26 S ?_; clear S; intro b2 oC S)
    | ((with_reducible refine bV 3 rfl ?_); refine boxS 3 #[.int .u8 ck, .int .i64 cx, .int .i64 cy, .int .i64 cw, .int .i64 ch, .int .i64 aV, .slice A' m.length cc'] 26 S ?_; clear S; intro b3 qU S; obtain ⟨gY, gZ, g_, ig, ik, je, eY⟩ := St.nU S (.head _); obtain ⟨Ce, G6, G7, G_, Ha, Nw, Ny⟩ := St.nU S (.tail _ (.head _)))
    | fail)
   clear gY gZ g_ ig ik je eY Ce G6 G7 G_ Ha Nw Ny
   go_ret
   refine ⟨?_, S.out.below⟩
   rw [SN.out]
   rw [HB.out, Bool.false_and, Bool.and_false, Bool.and_false, Bool.and_false]
   rfl
  have HL := ae.mk hl
  have hl2 : (l.length : Int) = (m.length : Int) := by omega
  have akE : ((l.length : Int) == (m.length : Int)) = true := beq_iff_eq.mpr hl2
  have akF : ((l.length : Int) != (m.length : Int)) = false := bne_eq_false_iff_eq.mpr hl2
  have akG : decide ((l.length : Int) = (m.length : Int)) = true := decide_eq_true hl2
  have hl4 : decide (l.length = m.length) = true := decide_eq_true hl
  have hl5 : (l.length != m.length) = false := bne_eq_false_iff_eq.mpr hl
  clear hl hl2
  go_enter Try.func64, Try.ntmps64
  go_wp2_with (first
   | ((with_reducible refine bV 2 rfl ?_); refine boxS 2 #[.int .u8 ck, .int .i64 cx, .int .i64 cy, .int .i64 cw, .int .i64 ch, .int .i64 aV, .slice A l.length cc] 26 S ?_; clear S; intro b2 oC S)
   | ((with_reducible refine bV 3 rfl ?_); refine boxS 3 #[.int .u8 ck, .int .i64 cx, .int .i64 cy, .int .i64 cw, .int .i64 ch, .int .i64 aV, .slice A' m.length cc'] 26 S ?_; clear S; intro b3 qU S; obtain ⟨gY, gZ, g_, ig, ik, je, eY⟩ := St.nU S (.head _); obtain ⟨Ce, G6, G7, G_, Ha, Nw, Ny⟩ := St.nU S (.tail _ (.head _)))
   | fail)
  clear gY gZ g_ ig ik je eY Ce G6 G7 G_ Ha Nw Ny
  clear hkb hib akE akF akG hl4 hl5
  go_loopg [37] l.length (fun gg v37 wr => ∃ (pre rest pb rb : List aI), v37 = .int .i64 (pre.length : Int) ∧ ae (pre ++ rest = l) ∧ ae (pb ++ rb = m) ∧ ae (pre.length = pb.length) ∧ ae (xC pre pb = true) ∧ rest.length ≤ gg ∧ ae (St w P [(some b3, .cells #[.int .u8 ck, .int .i64 cx, .int .i64 cy, .int .i64 cw, .int .i64 ch, .int .i64 aV, .slice A' m.length cc'] 26 (0, 0)), (some b2, .cells #[.int .u8 ck, .int .i64 cx, .int .i64 cy, .int .i64 cw, .int .i64 ch, .int .i64 aV, .slice A l.length cc] 26 (0, 0))] [] [(.slice A l.length cc, l), (.slice A' m.length cc', m)] [] wr))
  case atStart => exact ⟨[], l, [], m, rfl, ⟨rfl⟩, ⟨rfl⟩, ⟨rfl⟩, ⟨BA _⟩, Nat.le_refl _, ⟨S.out⟩⟩
  case round =>
   clear S
   obtain ⟨pre, rest, pb, rb, rfl, HE, HE2, VK, HSM, hgg, S⟩ := hrel
   have hlr : rest.length = rb.length := by have h1 := congrArg List.length HE.out; have h2 := congrArg List.length HE2.out; rw [List.length_append] at h1 h2; have := VK.out; have := HL.out; omega
   cases rest with
   | nil =>
    have hE := HE.out
    rw [List.append_nil] at hE
    have hE2 := hE.symm
    subst hE2
    have hrb := List.eq_nil_of_length_eq_zero hlr.symm
    subst hrb
    have hE3 := HE2.out
    rw [List.append_nil] at hE3
    subst hE3
    clear hE HE HE2 hgg hlr
    have hlt : ¬ ((l.length : Int) < (l.length : Int)) := by omega
    go_wp2
    go_ret
    refine ⟨?_, S.out.below⟩
    rw [SN.out, HR.out, HSM.out, beq_iff_eq.mpr HL.out, beq_self_eq_true, beq_self_eq_true]
    rfl
   | cons k rest =>
    cases rb with
    | nil => simp at hlr
    | cons q rb =>
     have hk : k ∈ l := by rw [← HE.out]; simp
     have hlt : (pre.length : Int) < (l.length : Int) := by rw [← HE.out, List.length_append, List.length_cons]; omega
     have hlt2 : (pre.length : Int) < (m.length : Int) := by rw [← HE2.out, List.length_append, List.length_cons]; have := VK.out; omega
     have hlt3 : pre.length < m.length := by omega
     have hw1 : wrap64 ((pre.length : Int) + 1) = ((pre ++ [k]).length : Int) := by have := pG.out; rw [List.length_append, List.length_singleton]; unfold wrap64; omega
     have HW1 := ae.mk hw1
     have qO := ae.mk hgg
     have HK := ae.mk hk
     obtain ⟨mf, ua, uc, ek, S1⟩ := S.out.elem (.head _) (pre.length : Int) (Int.natCast_nonneg _) hlt
     subst ek
     have hrd : au l (pre.length : Int) = k := by rw [← HE.out]; exact lS pre k rest
     rw [hrd] at S1
     simp only [Int.toNat_natCast] at S1
     obtain ⟨adq, va, vc, eq_, S2⟩ := S1.elem (.tail _ (.tail _ (.head _))) (pre.length : Int) (Int.natCast_nonneg _) hlt2
     subst eq_
     have akK : au m (pre.length : Int) = q := by rw [← HE2.out, VK.out]; exact lS pb q rb
     rw [akK] at S2
     simp only [Int.toNat_natCast] at S2
     replace S := ae.mk S2
     clear S1 S2 hrd akK hk hgg hw1 hlr
     cases hsm : yc k q with
     | false =>
      have HS := ae.mk hsm
      clear hsm
      go_wp2
      refine m_ (n := 12) (S := fun w' => St w _ _ _ _ _ w') (ds := []) (bA 12 0) (by kernel_rfl) rfl rfl (S.out.call (fF (Below.refl _ _))) (fun hHeld => ?_); refine jr Bc.tab6 Bc.JP (fun aW gX => ?_)
      replace S := ae.mk (S.out.call (fF (Below.refl _ _)))
      generalize wr.drew = wd3 at S hHeld ⊢
      refine bH 0 40 (bA 12 1) aW ?_
      refine jq 1 41 (bA 12 3) aW gX hHeld ?_ (hv := by intro w' hs_; have Ny := (hs_.at (.tail _ (.head _)) 6).trans rfl; go_simp; with_reducible rfl)
      refine bH 2 42 (bA 12 7) aW ?_
      refine bH 3 43 (bA 12 15) aW ?_
      refine jq 4 44 (bA 12 31) aW gX hHeld ?_ (hv := by intro w' hs_; have y7_ := (hs_.cell _ (.tail _ (.tail _ (.tail _ (.tail _ (.tail _ (.tail _ (.tail _ (.head _))))))))).1; have y8_ := (hs_.cell _ (.tail _ (.tail _ (.tail _ (.tail _ (.tail _ (.tail _ (.tail _ (.tail _ (.head _)))))))))).1; have y9_ := (hs_.cell _ (.tail _ (.tail _ (.tail _ (.tail _ (.tail _ (.tail _ (.tail _ (.tail _ (.tail _ (.head _))))))))))).1; have apL := (hs_.cell _ (.tail _ (.tail _ (.tail _ (.tail _ (.tail _ (.tail _ (.tail _ (.tail _ (.tail _ (.tail _ (.head _)))))))))))).1; have apM := (hs_.cell _ (.tail _ (.tail _ (.tail _ (.tail _ (.tail _ (.tail _ (.tail _ (.tail _ (.tail _ (.tail _ (.tail _ (.head _))))))))))))).1; have Vu := (hs_.cell _ (.tail _ (.tail _ (.tail _ (.tail _ (.tail _ (.tail _ (.tail _ (.tail _ (.tail _ (.tail _ (.tail _ (.tail _ (.head _)))))))))))))).1; have apN := (hs_.cell _ (.tail _ (.tail _ (.tail _ (.tail _ (.tail _ (.tail _ (.tail _ (.tail _ (.tail _ (.tail _ (.tail _ (.tail _ (.tail _ (.head _))))))))))))))).1; go_simp; with_reducible rfl)
      refine bH 5 45 (bA 12 63) aW ?_
      refine jq 6 46 (bA 12 127) aW gX hHeld ?_ (hv := by intro w' hs_; have eY := (hs_.at (.head _) 6).trans rfl; go_simp; with_reducible rfl)
      refine bH 7 47 (bA 12 255) aW ?_
      refine bH 8 48 (bA 12 511) aW ?_
      refine jq 9 49 (bA 12 1023) aW gX hHeld ?_ (hv := by intro w' hs_; have rG := (hs_.cell _ (.head _)).1; have qw := (hs_.cell _ (.tail _ (.head _))).1; have qx := (hs_.cell _ (.tail _ (.tail _ (.head _)))).1; have pR := (hs_.cell _ (.tail _ (.tail _ (.tail _ (.head _))))).1; have pU := (hs_.cell _ (.tail _ (.tail _ (.tail _ (.tail _ (.head _)))))).1; have uK := (hs_.cell _ (.tail _ (.tail _ (.tail _ (.tail _ (.tail _ (.head _))))))).1; have uM := (hs_.cell _ (.tail _ (.tail _ (.tail _ (.tail _ (.tail _ (.tail _ (.head _)))))))).1; go_simp; with_reducible rfl)
      refine jY (i := 10) (N := some 50) (bA 12 2047) rfl rfl (eX aW.out (by kernel_rfl)) (by decide) (fun K hK => ?_)
      refine jc Try.func64 (by kernel_rfl) rfl #[.agg #[.int .u8 k.f0, .int .i64 k.f1.f0, .int .i64 k.f1.f1, .int .i64 k.f1.f2, .int .i64 k.f1.f3, .int .i64 k.f2, .slice ua k.f3.length uc], .agg #[.int .u8 q.f0, .int .i64 q.f1.f0, .int .i64 q.f1.f1, .int .i64 q.f1.f2, .int .i64 q.f1.f3, .int .i64 q.f2, .slice va q.f3.length vc]] (by rfl) rfl rfl (by (try simp only [List.map_toArray, List.map_cons, List.map_nil]); first | done | rfl) ?_
      refine (abD HS.out (IH.out k HK.out q _ ua uc va vc _ (jS (S.out.tree _ (.tail _ (.head _)))) (jS (S.out.tree _ (.head _))))).mono ?_
      rintro e wJ ⟨rfl, hb⟩
      refine ⟨_, rfl, ?_⟩
      replace S := ae.mk (S.out.call hb)
      clear hb
      refine hK.out _ _ S.out (fun hHeld => ?_)
      clear hK K
      refine iW 50 ?_
      refine bH 11 51 (bA 12 4095) aW ?_
      refine oV (lh aW.out (by kernel_rfl)) ?_
      clear hHeld
      go_wp2
      go_ret
      refine ⟨?_, S.out.below⟩
      rw [SN.out, ← HE.out, ← HE2.out, Q_ _ _ _ _ VK.out, zK, HS.out, Bool.false_and, Bool.and_false, Bool.and_false, Bool.and_false, Bool.and_false, Bool.and_false]
      rfl
     | true =>
      have HS := ae.mk hsm
      clear hsm
      go_wp2
      refine m_ (n := 12) (S := fun w' => St w _ _ _ _ _ w') (ds := []) (bA 12 0) (by kernel_rfl) rfl rfl (S.out.call (fF (Below.refl _ _))) (fun hHeld => ?_); refine jr Bc.tab6 Bc.JP (fun aW gX => ?_)
      replace S := ae.mk (S.out.call (fF (Below.refl _ _)))
      generalize wr.drew = wd5 at S hHeld ⊢
      refine bH 0 40 (bA 12 1) aW ?_
      refine jq 1 41 (bA 12 3) aW gX hHeld ?_ (hv := by intro w' hs_; have Ny := (hs_.at (.tail _ (.head _)) 6).trans rfl; go_simp; with_reducible rfl)
      refine bH 2 42 (bA 12 7) aW ?_
      refine bH 3 43 (bA 12 15) aW ?_
      refine jq 4 44 (bA 12 31) aW gX hHeld ?_ (hv := by intro w' hs_; have y7_ := (hs_.cell _ (.tail _ (.tail _ (.tail _ (.tail _ (.tail _ (.tail _ (.tail _ (.head _))))))))).1; have y8_ := (hs_.cell _ (.tail _ (.tail _ (.tail _ (.tail _ (.tail _ (.tail _ (.tail _ (.tail _ (.head _)))))))))).1; have y9_ := (hs_.cell _ (.tail _ (.tail _ (.tail _ (.tail _ (.tail _ (.tail _ (.tail _ (.tail _ (.tail _ (.head _))))))))))).1; have apL := (hs_.cell _ (.tail _ (.tail _ (.tail _ (.tail _ (.tail _ (.tail _ (.tail _ (.tail _ (.tail _ (.tail _ (.head _)))))))))))).1; have apM := (hs_.cell _ (.tail _ (.tail _ (.tail _ (.tail _ (.tail _ (.tail _ (.tail _ (.tail _ (.tail _ (.tail _ (.tail _ (.head _))))))))))))).1; have Vu := (hs_.cell _ (.tail _ (.tail _ (.tail _ (.tail _ (.tail _ (.tail _ (.tail _ (.tail _ (.tail _ (.tail _ (.tail _ (.tail _ (.head _)))))))))))))).1; have apN := (hs_.cell _ (.tail _ (.tail _ (.tail _ (.tail _ (.tail _ (.tail _ (.tail _ (.tail _ (.tail _ (.tail _ (.tail _ (.tail _ (.tail _ (.head _))))))))))))))).1; go_simp; with_reducible rfl)
      refine bH 5 45 (bA 12 63) aW ?_
      refine jq 6 46 (bA 12 127) aW gX hHeld ?_ (hv := by intro w' hs_; have eY := (hs_.at (.head _) 6).trans rfl; go_simp; with_reducible rfl)
      refine bH 7 47 (bA 12 255) aW ?_
      refine bH 8 48 (bA 12 511) aW ?_
      refine jq 9 49 (bA 12 1023) aW gX hHeld ?_ (hv := by intro w' hs_; have rG := (hs_.cell _ (.head _)).1; have qw := (hs_.cell _ (.tail _ (.head _))).1; have qx := (hs_.cell _ (.tail _ (.tail _ (.head _)))).1; have pR := (hs_.cell _ (.tail _ (.tail _ (.tail _ (.head _))))).1; have pU := (hs_.cell _ (.tail _ (.tail _ (.tail _ (.tail _ (.head _)))))).1; have uK := (hs_.cell _ (.tail _ (.tail _ (.tail _ (.tail _ (.tail _ (.head _))))))).1; have uM := (hs_.cell _ (.tail _ (.tail _ (.tail _ (.tail _ (.tail _ (.tail _ (.head _)))))))).1; go_simp; with_reducible rfl)
      refine jY (i := 10) (N := some 50) (bA 12 2047) rfl rfl (eX aW.out (by kernel_rfl)) (by decide) (fun K hK => ?_)
      refine jc Try.func64 (by kernel_rfl) rfl #[.agg #[.int .u8 k.f0, .int .i64 k.f1.f0, .int .i64 k.f1.f1, .int .i64 k.f1.f2, .int .i64 k.f1.f3, .int .i64 k.f2, .slice ua k.f3.length uc], .agg #[.int .u8 q.f0, .int .i64 q.f1.f0, .int .i64 q.f1.f1, .int .i64 q.f1.f2, .int .i64 q.f1.f3, .int .i64 q.f2, .slice va q.f3.length vc]] (by rfl) rfl rfl (by (try simp only [List.map_toArray, List.map_cons, List.map_nil]); first | done | rfl) ?_
      refine (abD HS.out (IH.out k HK.out q _ ua uc va vc _ (jS (S.out.tree _ (.tail _ (.head _)))) (jS (S.out.tree _ (.head _))))).mono ?_
      rintro e KY ⟨rfl, hb⟩
      refine ⟨_, rfl, ?_⟩
      replace S := ae.mk (S.out.call hb)
      clear hb
      refine hK.out _ _ S.out (fun hHeld => ?_)
      clear hK K
      refine iW 50 ?_
      refine bH 11 51 (bA 12 4095) aW ?_
      refine oV (lh aW.out (by kernel_rfl)) ?_
      clear hHeld
      go_wp2
      have hw1 := HW1.out
      go_wp2
      go_roundg rest.length
      case measure => exact Nat.lt_of_lt_of_le (Nat.lt_succ_self _) qO.out
      case rel => exact ⟨pre ++ [k], rest, pb ++ [q], rb, (by rw [hw1]), ⟨by rw [List.append_assoc]; exact HE.out⟩, ⟨by rw [List.append_assoc]; exact HE2.out⟩, ⟨by rw [List.length_append, List.length_append, VK.out]; rfl⟩, ⟨by rw [Q_ _ _ _ _ VK.out, HSM.out, zK, HS.out, BA]; rfl⟩, Nat.le_refl _, ⟨S.out.dW.dW.dK.dK.dK.dK.dK.dK.dK.dK.dK.dK.dK.dK.dK.dK⟩⟩
end Go.Proofs.Ytfdmfgaiblfbhaa.P
namespace Go.Proofs.Ytfdmfgaiblfbhaa.P
open Go.RowKit Go.Proofs.ai.bg Go.Proofs.ai.di Go.Proofs.ai.dG
attribute [local go_sem] kD kF lN lQ jF jG kE kG
mutual
def p_.j0 : Nat → Int → Bool → Int → Int → Int → Int → Int → Int → List (aI) → Option (List Int × Bool)
 | 0, _, _, _, _, _, _, _, _, _ => none
 | k + 1, x1, x17, MB, MC, MF, MG, MH, MI, qF => if x17 = true then (some ((([] : List Int)), true)) else (p_.l0 k x1 (qF.length : Int) 0 MB MC MF MG MH MI qF)
def p_.l0 : Nat → Int → Int → Int → Int → Int → Int → Int → Int → Int → List (aI) → Option (List Int × Bool)
 | 0, _, _, _, _, _, _, _, _, _, _ => none
 | k + 1, x1, zN, xq, MB, MC, MF, MG, MH, MI, qF => if xq < zN then (if 0 ≤ xq then (if xq < (qF.length : Int) then ((p_.f k ((au qF xq).f0) ((au qF xq).f1.f0) ((au qF xq).f1.f1) ((au qF xq).f1.f2) ((au qF xq).f1.f3) ((au qF xq).f2) ((au qF xq).f3) x1).bind fun Tz => (if Tz.2 = true then ((some (([xq] : List Int) : List Int)).bind fun afw => (if afw.length + Tz.1.length < 17592186044416 then (some ((afw ++ Tz.1), true)) else (none))) else (p_.l0 k x1 zN (wrap64 (xq + 1)) MB MC MF MG MH MI qF))) else (none)) else (none)) else (some ((([] : List Int)), false))
def p_.f : Nat → Int → Int → Int → Int → Int → Int → List (aI) → Int → Option (List Int × Bool)
 | 0, _, _, _, _, _, _, _, _ => none
 | k + 1, az, aC, aA, aG, aT, aU, aj, a1 => if az = 1 then (p_.j0 k a1 (aU == a1) az aC aA aG aT aU aj) else (p_.j0 k a1 false az aC aA aG aT aU aj)
end
end Go.Proofs.Ytfdmfgaiblfbhaa.P
namespace Go.Proofs.Ytfdmfgaiblfbhaa.P
open Go.RowKit Go.Proofs.ai.bg Go.Proofs.ai.di Go.Proofs.ai.dG
def He.T5 : Bool × List (List Nat × List Nat) := (true, [([], []), ([0], [0]), ([], []), ([], []), ([3], [3]), ([1, 2, 0, 1, 2, 3, 4], [1, 2]), ([5, 4, 4, 0, 1, 2, 3, 4], [4, 5])])
def He.B5 : List Nat := [0, 1, 0, 0, 8, 31, 63]
def He.f (a0 a1 a2 a3 a4 a5 : Int) (l : List aI) : Option (Int × Int × Int × Int × Int × Int × List aI) := if sz ⟨a0, ⟨a1, a2, a3, a4⟩, a5, l⟩ ≤ 1000000 then some (a0, a1, a2, a3, a4, a5, l) else none
end Go.Proofs.Ytfdmfgaiblfbhaa.P
namespace Go.Proofs.Ytfdmfgaiblfbhaa.P
open Go.RowKit Go.Proofs.ai.bg Go.Proofs.ai.di Go.Proofs.ai.dG
attribute [local go_sem] kD kF lN lQ jF jG kE kG
def OT.l0 : Nat → List Int → Int → Int → Int → Int → Int → Int → Int → Int → List (aI) → Option (Int × Int × Int × Int × Int × Int × (List (aI)) × Bool)
 | 0, _, _, _, _, _, _, _, _, _, _ => none
 | k + 1, x8, x9, x10, ad9, ad_, aea, aeb, aec, aed, ug => if x10 < x9 then (if 0 ≤ x10 then (if x10 < (x8.length : Int) then (if (rd x8 x10) < 0 then (some (0, 0, 0, 0, 0, 0, ([] : List (aI)), false)) else (if (rd x8 x10) ≥ (ug.length : Int) then (some (0, 0, 0, 0, 0, 0, ([] : List (aI)), false)) else (if 0 ≤ (rd x8 x10) then (if (rd x8 x10) < (ug.length : Int) then (OT.l0 k x8 x9 (wrap64 (x10 + 1)) ((au ug (rd x8 x10)).f0) ((au ug (rd x8 x10)).f1.f0) ((au ug (rd x8 x10)).f1.f1) ((au ug (rd x8 x10)).f1.f2) ((au ug (rd x8 x10)).f1.f3) ((au ug (rd x8 x10)).f2) ((au ug (rd x8 x10)).f3)) else (none)) else (none)))) else (none)) else (none)) else ((He.f ad9 ad_ aea aeb aec aed ug).bind fun C_ => (some (C_.1, C_.2.1, C_.2.2.1, C_.2.2.2.1, C_.2.2.2.2.1, C_.2.2.2.2.2.1, C_.2.2.2.2.2.2, true)))
def OT.f (k : Nat) (az : Int) (aC : Int) (aA : Int) (aG : Int) (aT : Int) (aU : Int) (aj : List (aI)) (l1 : List Int) : Option (Int × Int × Int × Int × Int × Int × (List (aI)) × Bool) := OT.l0 k l1 (l1.length : Int) 0 az aC aA aG aT aU aj
end Go.Proofs.Ytfdmfgaiblfbhaa.P
namespace Go.Proofs.Ytfdmfgaiblfbhaa.P
open Go.RowKit Go.Proofs.ai.bg Go.Proofs.ai.di Go.Proofs.ai.dG
def atC (c : aI) : List Int → Option aI
 | [] => some c
 | i :: is => if i < 0 ∨ i ≥ (c.f3.length : Int) then none else atC (au c.f3 i) is
def AtP (w : World) (P : Nat → Prop) (r : Option aI) (e : Ending) (w' : World) : Prop := ∃ v : Value, e = .returned (.tuple #[.agg #[.int .u8 (r.getD z26).f0, .int .i64 (r.getD z26).f1.f0, .int .i64 (r.getD z26).f1.f1, .int .i64 (r.getD z26).f1.f2, .int .i64 (r.getD z26).f1.f3, .int .i64 (r.getD z26).f2, v], .bool r.isSome]) ∧ Kd.V k26 26 w' w.heap.size (fun k => P k ∨ w.heap.size ≤ k) v (r.getD z26).f3 ∧ Below w.heap.size w w'
def ak6.T5 : Bool × List (List Nat × List Nat) := (true, [([], []), ([0], [0]), ([], []), ([2], [2]), ([3], [3]), ([1, 4], [1, 4]), ([5], [5]), ([], []), ([7], [7]), ([6, 8], [6, 8]), ([9], [9]), ([9], [9]), ([10, 9, 0, 1, 2, 3, 4, 5, 6, 7, 8, 9, 10, 11], [10]), ([11, 12, 0, 1, 2, 3, 4, 5, 6, 7, 8, 9, 10, 11, 12], [11])])
def ak6.B5 : List Nat := [0, 1, 0, 4, 12, 31, 63, 0, 128, 511, 1023, 1023, 4095, 8191]
def atT (r : Option aI) : Int × Int × Int × Int × Int × Int × List aI × Bool := ((r.getD z26).f0, (r.getD z26).f1.f0, (r.getD z26).f1.f1, (r.getD z26).f1.f2, (r.getD z26).f1.f3, (r.getD z26).f2, (r.getD z26).f3, r.isSome)
def ale.f (a0 a1 a2 a3 a4 a5 : Int) (l : List aI) (l1 : List Int) : Option (Int × Int × Int × Int × Int × Int × (List (aI)) × Bool) := some (atT (atC ⟨a0, ⟨a1, a2, a3, a4⟩, a5, l⟩ l1))
section
variable {W : World} {b b' : Nat} {P P' : Nat → Prop} {A A' : Option Addr} {cc cc' : Nat}
theorem OY (c : aI) (g : Bool) (hg : ∃ k, mZ.f k c.f0 c.f1.f0 c.f1.f1 c.f1.f2 c.f1.f3 c.f2 c.f3 = some g) (hV : Kd.V k26 26 W b P (.slice A c.f3.length cc) c.f3) :
  Calls Try.prog 34 #[.agg #[.int .u8 c.f0, .int .i64 c.f1.f0, .int .i64 c.f1.f1, .int .i64 c.f1.f2, .int .i64 c.f1.f3, .int .i64 c.f2, .slice A c.f3.length cc]] W fun e w' => e = .returned (.bool g) ∧ Below W.heap.size W w' := by
 obtain ⟨k, hk⟩ := hg
 have h := Kd.oH hV
 exact mZ.calls k _ _ _ _ _ _ A cc c.f3 g W h.2.2 h.2.1 hk
theorem alc (x y : aI) (hx : sz x ≤ 1048576) (hV : Kd.V k26 26 W b P (.slice A x.f3.length cc) x.f3) (hV' : Kd.V k26 26 W b' P' (.slice A' y.f3.length cc') y.f3) :
  Calls Try.prog 64 #[.agg #[.int .u8 x.f0, .int .i64 x.f1.f0, .int .i64 x.f1.f1, .int .i64 x.f1.f2, .int .i64 x.f1.f3, .int .i64 x.f2, .slice A x.f3.length cc], .agg #[.int .u8 y.f0, .int .i64 y.f1.f0, .int .i64 y.f1.f1, .int .i64 y.f1.f2, .int .i64 y.f1.f3, .int .i64 y.f2, .slice A' y.f3.length cc']] W fun e w' => e = .returned (.bool (yc x y)) ∧ Below W.heap.size W w' := by
 exact alb (sz x) x (Nat.le_refl _) hx y (fun _ => True) A cc A' cc' W (Kd.iT (jS hV) (fun _ _ => trivial)) (Kd.iT (jS hV') (fun _ _ => trivial))
theorem abC (x : aI) (_ : sz x ≤ 1048576) : yc x x = true := (ZA (sz x)).1 x (Nat.le_refl _)
theorem ald (x : aI) (hx : sz x ≤ 1048576) (hV : Kd.V k26 26 W b P (.slice A x.f3.length cc) x.f3) (hV' : Kd.V k26 26 W b' P' (.slice A' x.f3.length cc') x.f3) :
  Calls Try.prog 64 #[.agg #[.int .u8 x.f0, .int .i64 x.f1.f0, .int .i64 x.f1.f1, .int .i64 x.f1.f2, .int .i64 x.f1.f3, .int .i64 x.f2, .slice A x.f3.length cc], .agg #[.int .u8 x.f0, .int .i64 x.f1.f0, .int .i64 x.f1.f1, .int .i64 x.f1.f2, .int .i64 x.f1.f3, .int .i64 x.f2, .slice A' x.f3.length cc']] W fun e w' => e = .returned (.bool true) ∧ Below W.heap.size W w' := by
 have h := alc x x hx hV hV'
 rw [abC x hx] at h
 exact h
abbrev awg (w : World) (P : Nat → Prop) : Option aI → Ending → World → Prop
 | none, e, w' => e = .returned (.tuple #[.agg #[.int .u8 0, .int .i64 0, .int .i64 0, .int .i64 0, .int .i64 0, .int .i64 0, .slice none 0 0], .bool false]) ∧ Below w.heap.size w w'
 | some z, e, w' => ∃ A c, e = .returned (.tuple #[.agg #[.int .u8 z.f0, .int .i64 z.f1.f0, .int .i64 z.f1.f1, .int .i64 z.f1.f2, .int .i64 z.f1.f3, .int .i64 z.f2, .slice A z.f3.length c], .bool true]) ∧ Kd.N k26 26 w' w.heap.size (fun k => P k ∨ w.heap.size ≤ k) (.slice A z.f3.length c) z.f3 ∧ Below w.heap.size w w'
end
section
variable {Pr : Program} {ops : Array Oper} {rest : List Oper} {op : Oper} {a : Act} {Q : Exit → Act → World → Prop} {w W : World} {P : Nat → Prop} {bs : List (Option Nat × Obj)} {ts : List (Value × List aI)} {ro : List (Addr × Value)}
end
theorem Iu {W : World} : Calls Try.prog 52 #[] W fun e w' => e = .returned (.bool true) ∧ Below W.heap.size W w' := by
 obtain ⟨k, hk⟩ := Pure.afU.rounds
 exact mY.calls k _ W hk
theorem V4 {W : World} {b : Nat} {P : Nat → Prop} {A : Option Addr} {cc : Nat} (c : aI) (hz : sz c ≤ 1048576) (hV : Kd.V k26 26 W b P (.slice A c.f3.length cc) c.f3) :
  Calls Try.prog 79 #[.agg #[.int .u8 c.f0, .int .i64 c.f1.f0, .int .i64 c.f1.f1, .int .i64 c.f1.f2, .int .i64 c.f1.f3, .int .i64 c.f2, .slice A c.f3.length cc]] W fun e w' => ∃ A' c', e = .returned (.slice A' (sz c) c') ∧ Below W.heap.size W w' := by
 obtain ⟨k, hk⟩ := (Et (sz c) c (Nat.le_refl _) hz).rounds
 exact (dM.calls k _ _ _ _ _ _ P A cc c.f3 _ W (jS hV) hk).mono (fun e w' ⟨v, he, hN, hB⟩ => by
  obtain ⟨A', c', rfl⟩ := Kd.nH hN
  exact ⟨A', c', he, hB⟩)
theorem OO (c : aI) (h : sz c ≤ 1048576) : sz (tY c) ≤ 1048576 := by
 unfold tY
 split
 ·rw [(Jw _).1 _ (Nat.le_refl _)]; have := Vb 100000 c; omega
 ·decide
theorem Vd (c : aI) (A : Option Addr) (cc : Nat) (w : World) (hr : Kd.C k26 w A c.f3.length c.f3) (hc : c.f3.length ≤ cc) (hz : sz c ≤ 1048576) (h1 : ∃ k, mZ.f k c.f0 c.f1.f0 c.f1.f1 c.f1.f2 c.f1.f3 c.f2 c.f3 = some true)  :
  Calls Try.prog 26 #[.agg #[.int .u8 c.f0, .int .i64 c.f1.f0, .int .i64 c.f1.f1, .int .i64 c.f1.f2, .int .i64 c.f1.f3, .int .i64 c.f2, .slice A c.f3.length cc]] w fun e w' => e = .returned (.bool true) ∧ Below w.heap.size w w' := by
 have S := ae.mk (St.start (ts := [(.slice A c.f3.length cc, c.f3)]) (b0 := w.heap.size) (w := w) (P := fun k => k < w.heap.size) (fun t ht => by
  rw [List.mem_singleton.1 ht]; exact Kd.C9 hc (Kd.QV wX hr)))
 have G1 := ae.mk h1
 have MX := ae.mk hz
 have VM := ae.mk (OO c hz)
 clear hr hc h1 hz
 obtain ⟨ck, ⟨cx, cy, cw, ch⟩, aV, l⟩ := c
 simp only [] at S G1 MX VM ⊢
 go_enter Try.func26, Try.ntmps26
 go_wp2_with (first
  | ((with_reducible refine bV 1 rfl ?_); refine boxS 1 #[.int .u8 ck, .int .i64 cx, .int .i64 cy, .int .i64 cw, .int .i64 ch, .int .i64 aV, .slice A l.length cc] 26 S ?_; clear S; intro b1 oC S; obtain ⟨gW, jA, jB, jK, jL, kH, iI⟩ := St.nU S (.head _))
  | ((with_reducible refine bV 8 rfl ?_); refine jX (some 8) Try.func34 S (OY ⟨ck, ⟨cx, cy, cw, ch⟩, aV, l⟩ true G1.out (S.out.tree _ (.head _))) ?_; clear S; intro qU S; clear gW jA jB jK jL kH iI)
  | ((with_reducible refine bV 15 rfl ?_); refine jX (some 15) Try.func52 S (Iu) ?_; clear S; intro xm S)
  | fail)
 go_ret
 exact ⟨rfl, S.out.below⟩
theorem VC (c : aI) (A : Option Addr) (cc : Nat) (w : World) (hr : Kd.C k26 w A c.f3.length c.f3) (hc : c.f3.length ≤ cc) (hz : sz c ≤ 1048576) (h1 : ∃ k, mZ.f k c.f0 c.f1.f0 c.f1.f1 c.f1.f2 c.f1.f3 c.f2 c.f3 = some false) (h3 : 100 < sz c) :
  Calls Try.prog 26 #[.agg #[.int .u8 c.f0, .int .i64 c.f1.f0, .int .i64 c.f1.f1, .int .i64 c.f1.f2, .int .i64 c.f1.f3, .int .i64 c.f2, .slice A c.f3.length cc]] w fun e w' => e = .returned (.bool true) ∧ Below w.heap.size w w' := by
 have S := ae.mk (St.start (ts := [(.slice A c.f3.length cc, c.f3)]) (b0 := w.heap.size) (w := w) (P := fun k => k < w.heap.size) (fun t ht => by
  rw [List.mem_singleton.1 ht]; exact Kd.C9 hc (Kd.QV wX hr)))
 have G1 := ae.mk h1
 have MX := ae.mk hz
 have VM := ae.mk (OO c hz)
 have h3b : decide ((sz c : Int) > 100) = true := decide_eq_true (by omega)
 have h3c : decide (100 < (sz c : Int)) = true := decide_eq_true (by omega)
 clear h3
 clear hr hc h1 hz
 obtain ⟨ck, ⟨cx, cy, cw, ch⟩, aV, l⟩ := c
 simp only [] at S G1 MX VM ⊢
 go_enter Try.func26, Try.ntmps26
 go_wp2_with (first
  | ((with_reducible refine bV 1 rfl ?_); refine boxS 1 #[.int .u8 ck, .int .i64 cx, .int .i64 cy, .int .i64 cw, .int .i64 ch, .int .i64 aV, .slice A l.length cc] 26 S ?_; clear S; intro b1 oC S; obtain ⟨gW, jA, jB, jK, jL, kH, iI⟩ := St.nU S (.head _))
  | ((with_reducible refine bV 8 rfl ?_); refine jX (some 8) Try.func34 S (OY ⟨ck, ⟨cx, cy, cw, ch⟩, aV, l⟩ false G1.out (S.out.tree _ (.head _))) ?_; clear S; intro qU S; clear gW jA jB jK jL kH iI; obtain ⟨gW, jA, jB, jK, jL, kH, iI⟩ := St.nU S (.head _))
  | ((with_reducible refine bV 11 rfl ?_); (refine eQ (by rfl) ?_; dsimp only); refine NK (some 11) Try.func79 (V4 ⟨ck, ⟨cx, cy, cw, ch⟩, aV, l⟩ MX.out (S.out.tree _ (.head _))) ?_; rintro e xm ⟨Aa, ca, rfl, hb⟩; refine ⟨_, rfl, ?_⟩; replace S := ae.mk (S.out.call hb); clear hb; clear gW jA jB jK jL kH iI)
  | ((with_reducible refine bV 15 rfl ?_); refine jX (some 15) Try.func52 S (Iu) ?_; clear S; intro wJ S)
  | fail)
 go_ret
 exact ⟨rfl, S.out.below⟩
theorem VD (c : aI) (A : Option Addr) (cc : Nat) (w : World) (hr : Kd.C k26 w A c.f3.length c.f3) (hc : c.f3.length ≤ cc) (hz : sz c ≤ 1048576) (h1 : ∃ k, mZ.f k c.f0 c.f1.f0 c.f1.f1 c.f1.f2 c.f1.f3 c.f2 c.f3 = some false) (h3 : ¬ 100 < sz c) :
  Calls Try.prog 26 #[.agg #[.int .u8 c.f0, .int .i64 c.f1.f0, .int .i64 c.f1.f1, .int .i64 c.f1.f2, .int .i64 c.f1.f3, .int .i64 c.f2, .slice A c.f3.length cc]] w fun e w' => e = .returned (.bool true) ∧ Below w.heap.size w w' := by
 have S := ae.mk (St.start (ts := [(.slice A c.f3.length cc, c.f3)]) (b0 := w.heap.size) (w := w) (P := fun k => k < w.heap.size) (fun t ht => by
  rw [List.mem_singleton.1 ht]; exact Kd.C9 hc (Kd.QV wX hr)))
 have G1 := ae.mk h1
 have MX := ae.mk hz
 have VM := ae.mk (OO c hz)
 have h3b : decide ((sz c : Int) > 100) = false := decide_eq_false (by omega)
 have h3c : decide (100 < (sz c : Int)) = false := decide_eq_false (by omega)
 clear h3
 clear hr hc h1 hz
 obtain ⟨ck, ⟨cx, cy, cw, ch⟩, aV, l⟩ := c
 simp only [] at S G1 MX VM ⊢
 go_enter Try.func26, Try.ntmps26
 go_wp2_with (first
  | ((with_reducible refine bV 1 rfl ?_); refine boxS 1 #[.int .u8 ck, .int .i64 cx, .int .i64 cy, .int .i64 cw, .int .i64 ch, .int .i64 aV, .slice A l.length cc] 26 S ?_; clear S; intro b1 oC S; obtain ⟨gW, jA, jB, jK, jL, kH, iI⟩ := St.nU S (.head _))
  | ((with_reducible refine bV 8 rfl ?_); refine jX (some 8) Try.func34 S (OY ⟨ck, ⟨cx, cy, cw, ch⟩, aV, l⟩ false G1.out (S.out.tree _ (.head _))) ?_; clear S; intro qU S; clear gW jA jB jK jL kH iI; obtain ⟨gW, jA, jB, jK, jL, kH, iI⟩ := St.nU S (.head _))
  | ((with_reducible refine bV 11 rfl ?_); (refine eQ (by rfl) ?_; dsimp only); refine NK (some 11) Try.func79 (V4 ⟨ck, ⟨cx, cy, cw, ch⟩, aV, l⟩ MX.out (S.out.tree _ (.head _))) ?_; rintro e xm ⟨Aa, ca, rfl, hb⟩; refine ⟨_, rfl, ?_⟩; replace S := ae.mk (S.out.call hb); clear hb; clear gW jA jB jK jL kH iI; obtain ⟨gW, jA, jB, jK, jL, kH, iI⟩ := St.nU S (.head _))
  | ((with_reducible refine bV 18 rfl ?_); refine AZ (some 18) Try.func107 S (ajI ⟨ck, ⟨cx, cy, cw, ch⟩, aV, l⟩ MX.out _ A cc _ (jS (S.out.tree _ (.head _)))) ?_; clear S; intro A18 aoO wJ S; clear gW jA jB jK jL kH iI)
  | ((with_reducible refine bV 3 rfl ?_); refine boxS 3 #[.int .u8 0, .int .i64 0, .int .i64 0, .int .i64 0, .int .i64 0, .int .i64 0, .slice none 0 0] 26 S ?_; clear S; intro b3 D9 S)
  | ((with_reducible refine kR 26 (.tmp 3) (.tmp 19) rfl ?_); refine rU 26 3 19 #[.int .u8 ((tY ⟨ck, ⟨cx, cy, cw, ch⟩, aV, l⟩).f0), .int .i64 ((tY ⟨ck, ⟨cx, cy, cw, ch⟩, aV, l⟩).f1.f0), .int .i64 ((tY ⟨ck, ⟨cx, cy, cw, ch⟩, aV, l⟩).f1.f1), .int .i64 ((tY ⟨ck, ⟨cx, cy, cw, ch⟩, aV, l⟩).f1.f2), .int .i64 ((tY ⟨ck, ⟨cx, cy, cw, ch⟩, aV, l⟩).f1.f3), .int .i64 ((tY ⟨ck, ⟨cx, cy, cw, ch⟩, aV, l⟩).f2), .slice A18 ((tY ⟨ck, ⟨cx, cy, cw, ch⟩, aV, l⟩).f3.length) aoO] 0 7 S ?_; clear S; intro KY S; obtain ⟨gW, jA, jB, jK, jL, kH, iI⟩ := St.nU S (.tail _ (.head _)))
  | ((with_reducible refine bV 23 rfl ?_); refine AZ (some 23) Try.func108 S (aif ⟨ck, ⟨cx, cy, cw, ch⟩, aV, l⟩ MX.out _ A cc _ (jS (S.out.tree _ (.tail _ (.head _))))) ?_; clear S; intro A23 aoP JH S; clear gW jA jB jK jL kH iI)
  | ((with_reducible refine bV 5 rfl ?_); refine boxS 5 #[.int .u8 0, .int .i64 0, .int .i64 0, .int .i64 0, .int .i64 0, .int .i64 0, .slice none 0 0] 26 S ?_; clear S; intro b5 Rk S)
  | ((with_reducible refine kR 26 (.tmp 5) (.tmp 24) rfl ?_); refine rU 26 5 24 #[.int .u8 ((tY ⟨ck, ⟨cx, cy, cw, ch⟩, aV, l⟩).f0), .int .i64 ((tY ⟨ck, ⟨cx, cy, cw, ch⟩, aV, l⟩).f1.f0), .int .i64 ((tY ⟨ck, ⟨cx, cy, cw, ch⟩, aV, l⟩).f1.f1), .int .i64 ((tY ⟨ck, ⟨cx, cy, cw, ch⟩, aV, l⟩).f1.f2), .int .i64 ((tY ⟨ck, ⟨cx, cy, cw, ch⟩, aV, l⟩).f1.f3), .int .i64 ((tY ⟨ck, ⟨cx, cy, cw, ch⟩, aV, l⟩).f2), .slice A23 ((tY ⟨ck, ⟨cx, cy, cw, ch⟩, aV, l⟩).f3.length) aoP] 0 7 S ?_; clear S; intro Rl S; obtain ⟨anr, ant, anu, anv, anw, anx, anz⟩ := St.nU S (.head _); obtain ⟨gY, gZ, g_, ig, ik, je, eY⟩ := St.nU S (.tail _ (.head _)))
  | ((with_reducible refine bV 32 rfl ?_); (refine eQ (by rfl) ?_; dsimp only); refine jX (some 32) Try.func64 S (ald (tY ⟨ck, ⟨cx, cy, cw, ch⟩, aV, l⟩) VM.out (S.out.tree _ (.tail _ (.head _))) (S.out.tree _ (.head _))) ?_; clear S; intro QC S; clear anr ant anu anv anw anx anz gY gZ g_ ig ik je eY)
  | ((with_reducible refine bV 35 rfl ?_); (refine eQ (by rfl) ?_; dsimp only); refine jX (some 35) Try.func52 S (Iu) ?_; clear S; intro Me S)
  | fail)
 go_ret
 exact ⟨rfl, S.out.below⟩
def n_.f (a0 a1 a2 a3 a4 a5 : Int) (l : List aI) : Option Bool := if sz ⟨a0, ⟨a1, a2, a3, a4⟩, a5, l⟩ ≤ 1048576 then some true else none
theorem VE (c : aI) (A : Option Addr) (cc : Nat) (w : World) (hr : Kd.C k26 w A c.f3.length c.f3) (hc : c.f3.length ≤ cc) (hz : sz c ≤ 1048576) :
  Calls Try.prog 26 #[.agg #[.int .u8 c.f0, .int .i64 c.f1.f0, .int .i64 c.f1.f1, .int .i64 c.f1.f2, .int .i64 c.f1.f3, .int .i64 c.f2, .slice A c.f3.length cc]] w fun e w' => e = .returned (.bool true) ∧ Below w.heap.size w w' := by
 obtain ⟨g, eg, hg⟩ := acP c hz
 cases g with
 | true => exact Vd c A cc w hr hc hz eg.rounds
 | false =>
  by_cases h3 : 100 < sz c
  ·exact VC c A cc w hr hc hz eg.rounds h3
  ·exact VD c A cc w hr hc hz eg.rounds h3
theorem n_.calls (az aC aA aG aT aU : Int) (bT : Option Addr) (bJ : Nat) (aj : List aI) (r : Bool) (w : World) (kJ : Kd.C k26 w bT aj.length aj) (lq : aj.length ≤ bJ) (h : n_.f az aC aA aG aT aU aj = some r) :
  Calls Try.prog 26 #[.agg #[.int .u8 az, .int .i64 aC, .int .i64 aA, .int .i64 aG, .int .i64 aT, .int .i64 aU, .slice bT aj.length bJ]] w fun e w' => e = .returned (.bool r) ∧ Below w.heap.size w w' := by
 unfold n_.f at h
 split at h
 ·rename_i hz
  injection h with h
  subst h
  exact VE ⟨az, ⟨aC, aA, aG, aT⟩, aU, aj⟩ bT bJ w kJ lq hz
 ·exact absurd h (by simp)
end Go.Proofs.Ytfdmfgaiblfbhaa.P
namespace Go.Proofs.Ytfdmfgaiblfbhaa.Pure
open Go.RowKit Go.Proofs.Ytfdmfgaiblfbhaa.P Go.Proofs.ai.bg Go.Proofs.ai.di Go.Proofs.ai.dG
theorem SpreadAll : ∀ (a0 : aI), alv a0 → sz a0 ≤ 1048576 → n_.f a0.f0 a0.f1.f0 a0.f1.f1 a0.f1.f2 a0.f1.f3 a0.f2 a0.f3 = some true := by
 intro c _ hz
 unfold n_.f
 rw [NI, if_pos hz]
end Go.Proofs.Ytfdmfgaiblfbhaa.Pure
namespace Go.Proofs.Ytfdmfgaiblfbhaa.P
open Go.RowKit
def Q4 : List Char := [104, 97, 114, 110, 101, 115, 115, 32, 57, 48, 98, 52, 50, 100, 98, 100, 99, 50, 52, 54, 55, 51, 50, 51, 56, 57, 50, 48, 100, 50, 50, 98, 56, 57, 53, 102, 48, 48, 55, 48, 53, 101, 102, 48, 53, 53, 102, 54, 54, 55, 97, 57, 54, 56, 100, 50, 56, 97, 57, 52, 55, 52, 56, 57, 49, 49, 48, 97, 48, 101, 53, 55, 32, 99, 117, 116, 32, 97, 116, 32, 115, 97, 115, 104, 47, 115, 97, 115, 104, 108, 97, 119, 48, 55, 46, 70, 108, 97, 116, 78, 101, 120, 116, 115, 32, 115, 97, 115, 104, 47, 115, 97, 115, 104, 108, 97, 119, 48, 55, 46, 70, 108, 97, 116, 76, 105, 115, 116, 115, 32, 115, 97, 115, 104, 47, 115, 97, 115, 104, 108, 97, 119, 48, 52, 46, 82, 101, 99, 116, 67, 117, 116, 115, 32, 115, 97, 115, 104, 47, 115, 97, 115, 104, 108, 97, 119, 48, 57, 46, 65, 100, 106, 117, 115, 116, 83, 104, 97, 114, 101, 115, 32, 115, 97, 115, 104, 47, 115, 97, 115, 104, 108, 97, 119, 48, 57, 46, 65, 100, 106, 117, 115, 116, 69, 118, 101, 110, 115, 32, 115, 97, 115, 104, 47, 115, 97, 115, 104, 108, 97, 119, 49, 54, 46, 83, 112, 114, 101, 97, 100, 83, 105, 122, 101, 115, 32, 115, 97, 115, 104, 47, 115, 97, 115, 104, 108, 97, 119, 48, 55, 46, 70, 108, 97, 116, 67, 104, 97, 110, 103, 101, 115, 32, 115, 97, 115, 104, 47, 115, 97, 115, 104, 108, 97, 119, 48, 52, 46, 82, 101, 99, 116, 73, 110, 115, 105, 100, 101, 32, 115, 97, 115, 104, 47, 115, 97, 115, 104, 108, 97, 119, 48, 55, 46, 70, 108, 97, 116, 78, 97, 109, 101, 115, 32, 115, 97, 115, 104, 47, 115, 97, 115, 104, 108, 97, 119, 48, 57, 46, 65, 100, 106, 117, 115, 116, 83, 101, 116, 115, 32, 115, 97, 115, 104, 47, 115, 97, 115, 104, 108, 97, 119, 48, 52, 46, 82, 101, 99, 116, 77, 101, 101, 116, 115, 32, 115, 97, 115, 104, 47, 115, 97, 115, 104, 108, 97, 119, 48, 52, 46, 82, 101, 99, 116, 77, 97, 121, 115, 32, 115, 97, 115, 104, 47, 115, 97, 115, 104, 108, 97, 119, 48, 55, 46, 70, 108, 97, 116, 83, 116, 105, 108, 108, 32, 115, 97, 115, 104, 47, 115, 97, 115, 104, 108, 97, 119, 48, 53, 46, 67, 101, 108, 108, 77, 97, 121, 115, 32, 115, 97, 115, 104, 47, 115, 97, 115, 104, 108, 97, 119, 48, 53, 46, 67, 101, 108, 108, 83, 97, 109, 101, 32, 115, 97, 115, 104, 47, 115, 97, 115, 104, 108, 97, 119, 48, 53, 46, 67, 101, 108, 108, 67, 111, 117, 110, 116, 115, 32, 115, 97, 115, 104, 47, 115, 97, 115, 104, 108, 97, 119, 48, 56, 46, 76, 101, 97, 115, 116, 83, 117, 109, 115, 32, 115, 97, 115, 104, 47, 115, 97, 115, 104, 108, 97, 119, 48, 53, 46, 67, 101, 108, 108, 70, 105, 110, 100, 115, 32, 115, 97, 115, 104, 47, 115, 97, 115, 104, 108, 97, 119, 48, 56, 46, 76, 101, 97, 115, 116, 73, 115, 32, 115, 97, 115, 104, 47, 115, 97, 115, 104, 108, 97, 119, 48, 56, 46, 76, 101, 97, 115, 116, 70, 105, 116, 115, 32, 115, 97, 115, 104, 47, 115, 97, 115, 104, 108, 97, 119, 48, 56, 46, 76, 101, 97, 115, 116, 80, 97, 116, 104, 115, 32, 115, 97, 115, 104, 47, 115, 97, 115, 104, 108, 97, 119, 48, 53, 46, 67, 101, 108, 108, 80, 117, 116, 115, 32, 115, 97, 115, 104, 47, 115, 97, 115, 104, 108, 97, 119, 49, 50, 46, 83, 112, 108, 105, 116, 83, 105, 122, 101, 115, 32, 115, 97, 115, 104, 47, 115, 97, 115, 104, 108, 97, 119, 49, 54, 46, 83, 112, 114, 101, 97, 100, 65, 108, 108, 32, 115, 97, 115, 104, 47, 115, 97, 115, 104, 108, 97, 119, 49, 54, 46, 83, 112, 114, 101, 97, 100, 65, 116, 32, 115, 97, 115, 104, 47, 115, 97, 115, 104, 108, 97, 119, 49, 52, 46, 80, 117, 115, 104, 73, 115, 32, 115, 97, 115, 104, 47, 115, 97, 115, 104, 108, 97, 119, 49, 52, 46, 80, 117, 115, 104, 79, 110, 101, 32, 115, 97, 115, 104, 47, 115, 97, 115, 104, 108, 97, 119, 49, 52, 46, 80, 117, 115, 104, 70, 114, 97, 109, 101, 115, 32, 115, 97, 115, 104, 47, 115, 97, 115, 104, 108, 97, 119, 49, 52, 46, 80, 117, 115, 104, 67, 97, 110, 32, 115, 97, 115, 104, 47, 115, 97, 115, 104, 108, 97, 119, 49, 50, 46, 83, 112, 108, 105, 116, 73, 115, 32, 115, 97, 115, 104, 47, 115, 97, 115, 104, 108, 97, 119, 49, 50, 46, 83, 112, 108, 105, 116, 67, 97, 110].map Char.ofNat
def Q5 : List (List Char) := [[104, 97, 114, 110, 101, 115, 115].map Char.ofNat,
 [57, 48, 98, 52, 50, 100, 98, 100, 99, 50, 52, 54, 55, 51, 50, 51, 56, 57, 50, 48, 100, 50, 50, 98, 56, 57, 53, 102, 48, 48, 55, 48, 53, 101, 102, 48, 53, 53, 102, 54, 54, 55, 97, 57, 54, 56, 100, 50, 56, 97, 57, 52, 55, 52, 56, 57, 49, 49, 48, 97, 48, 101, 53, 55].map Char.ofNat,
 [99, 117, 116].map Char.ofNat,
 [97, 116].map Char.ofNat,
 [115, 97, 115, 104, 47, 115, 97, 115, 104, 108, 97, 119, 48, 55, 46, 70, 108, 97, 116, 78, 101, 120, 116, 115].map Char.ofNat,
 [115, 97, 115, 104, 47, 115, 97, 115, 104, 108, 97, 119, 48, 55, 46, 70, 108, 97, 116, 76, 105, 115, 116, 115].map Char.ofNat,
 [115, 97, 115, 104, 47, 115, 97, 115, 104, 108, 97, 119, 48, 52, 46, 82, 101, 99, 116, 67, 117, 116, 115].map Char.ofNat,
 [115, 97, 115, 104, 47, 115, 97, 115, 104, 108, 97, 119, 48, 57, 46, 65, 100, 106, 117, 115, 116, 83, 104, 97, 114, 101, 115].map Char.ofNat,
 [115, 97, 115, 104, 47, 115, 97, 115, 104, 108, 97, 119, 48, 57, 46, 65, 100, 106, 117, 115, 116, 69, 118, 101, 110, 115].map Char.ofNat,
 [115, 97, 115, 104, 47, 115, 97, 115, 104, 108, 97, 119, 49, 54, 46, 83, 112, 114, 101, 97, 100, 83, 105, 122, 101, 115].map Char.ofNat,
 [115, 97, 115, 104, 47, 115, 97, 115, 104, 108, 97, 119, 48, 55, 46, 70, 108, 97, 116, 67, 104, 97, 110, 103, 101, 115].map Char.ofNat,
 [115, 97, 115, 104, 47, 115, 97, 115, 104, 108, 97, 119, 48, 52, 46, 82, 101, 99, 116, 73, 110, 115, 105, 100, 101].map Char.ofNat,
 [115, 97, 115, 104, 47, 115, 97, 115, 104, 108, 97, 119, 48, 55, 46, 70, 108, 97, 116, 78, 97, 109, 101, 115].map Char.ofNat,
 [115, 97, 115, 104, 47, 115, 97, 115, 104, 108, 97, 119, 48, 57, 46, 65, 100, 106, 117, 115, 116, 83, 101, 116, 115].map Char.ofNat,
 [115, 97, 115, 104, 47, 115, 97, 115, 104, 108, 97, 119, 48, 52, 46, 82, 101, 99, 116, 77, 101, 101, 116, 115].map Char.ofNat,
 [115, 97, 115, 104, 47, 115, 97, 115, 104, 108, 97, 119, 48, 52, 46, 82, 101, 99, 116, 77, 97, 121, 115].map Char.ofNat,
 [115, 97, 115, 104, 47, 115, 97, 115, 104, 108, 97, 119, 48, 55, 46, 70, 108, 97, 116, 83, 116, 105, 108, 108].map Char.ofNat,
 [115, 97, 115, 104, 47, 115, 97, 115, 104, 108, 97, 119, 48, 53, 46, 67, 101, 108, 108, 77, 97, 121, 115].map Char.ofNat,
 [115, 97, 115, 104, 47, 115, 97, 115, 104, 108, 97, 119, 48, 53, 46, 67, 101, 108, 108, 83, 97, 109, 101].map Char.ofNat,
 [115, 97, 115, 104, 47, 115, 97, 115, 104, 108, 97, 119, 48, 53, 46, 67, 101, 108, 108, 67, 111, 117, 110, 116, 115].map Char.ofNat,
 [115, 97, 115, 104, 47, 115, 97, 115, 104, 108, 97, 119, 48, 56, 46, 76, 101, 97, 115, 116, 83, 117, 109, 115].map Char.ofNat,
 [115, 97, 115, 104, 47, 115, 97, 115, 104, 108, 97, 119, 48, 53, 46, 67, 101, 108, 108, 70, 105, 110, 100, 115].map Char.ofNat,
 [115, 97, 115, 104, 47, 115, 97, 115, 104, 108, 97, 119, 48, 56, 46, 76, 101, 97, 115, 116, 73, 115].map Char.ofNat,
 [115, 97, 115, 104, 47, 115, 97, 115, 104, 108, 97, 119, 48, 56, 46, 76, 101, 97, 115, 116, 70, 105, 116, 115].map Char.ofNat,
 [115, 97, 115, 104, 47, 115, 97, 115, 104, 108, 97, 119, 48, 56, 46, 76, 101, 97, 115, 116, 80, 97, 116, 104, 115].map Char.ofNat,
 [115, 97, 115, 104, 47, 115, 97, 115, 104, 108, 97, 119, 48, 53, 46, 67, 101, 108, 108, 80, 117, 116, 115].map Char.ofNat,
 [115, 97, 115, 104, 47, 115, 97, 115, 104, 108, 97, 119, 49, 50, 46, 83, 112, 108, 105, 116, 83, 105, 122, 101, 115].map Char.ofNat,
 [115, 97, 115, 104, 47, 115, 97, 115, 104, 108, 97, 119, 49, 54, 46, 83, 112, 114, 101, 97, 100, 65, 108, 108].map Char.ofNat,
 [115, 97, 115, 104, 47, 115, 97, 115, 104, 108, 97, 119, 49, 54, 46, 83, 112, 114, 101, 97, 100, 65, 116].map Char.ofNat,
 [115, 97, 115, 104, 47, 115, 97, 115, 104, 108, 97, 119, 49, 52, 46, 80, 117, 115, 104, 73, 115].map Char.ofNat,
 [115, 97, 115, 104, 47, 115, 97, 115, 104, 108, 97, 119, 49, 52, 46, 80, 117, 115, 104, 79, 110, 101].map Char.ofNat,
 [115, 97, 115, 104, 47, 115, 97, 115, 104, 108, 97, 119, 49, 52, 46, 80, 117, 115, 104, 70, 114, 97, 109, 101, 115].map Char.ofNat,
 [115, 97, 115, 104, 47, 115, 97, 115, 104, 108, 97, 119, 49, 52, 46, 80, 117, 115, 104, 67, 97, 110].map Char.ofNat,
 [115, 97, 115, 104, 47, 115, 97, 115, 104, 108, 97, 119, 49, 50, 46, 83, 112, 108, 105, 116, 73, 115].map Char.ofNat,
 [115, 97, 115, 104, 47, 115, 97, 115, 104, 108, 97, 119, 49, 50, 46, 83, 112, 108, 105, 116, 67, 97, 110].map Char.ofNat]
theorem aaT : Try.prog.initOrder.toList = Q4 := by
 have e : Try.prog.initOrder = String.ofList Q4 := by kernel_rfl
 rw [e, String.toList_ofList]
theorem YQ : wordsSigns Try.prog.initOrder.toList = Q5 := by
 rw [aaT]
 kernel_rfl
def Ac : List (List Char) := Q5.drop 3
theorem Vx : behindMainWord (wordsSigns Try.prog.initOrder.toList) = ([99, 117, 116].map Char.ofNat) :: Ac := by
 rw [YQ]
 kernel_rfl
theorem akb : ([99, 117, 116].map Char.ofNat : List Char) = "cut".toList := by decide +kernel
theorem Dp : behindMainWord (wordsSigns Try.prog.initOrder.toList) = "cut".toList :: Ac := Vx.trans (congrArg (fun c => c :: Ac) akb)
theorem Ov (rest : List (List Char)) : stripLifts liftWords ("cut".toList :: rest) = ([], "cut".toList :: rest) := by
 have key : ∀ (l : List String), (l.all fun o => !("cut".toList == o.toList)) = true → stripLifts l ("cut".toList :: rest) = ([], "cut".toList :: rest) := by
  intro l
  induction l with
  | nil => intro _; rfl
  | cons o l ih =>
   intro h
   simp only [List.all_cons, Bool.and_eq_true] at h
   unfold stripLifts
   rw [if_neg (by simpa using h.1)]
   exact ih h.2
 exact key _ (by decide +kernel)
theorem ah7 (P : Program) (rest : List (List Char)) (h : behindMainWord (wordsSigns P.initOrder.toList) = "cut".toList :: rest) : P.make = some .cut := by
 unfold Program.make
 rw [h]
 simp only
 have h1 : ("cut".toList == "gc".toList) = false := by decide +kernel
 have h2 : ("cut".toList == "spec".toList) = false := by decide +kernel
 rw [h1, h2, if_neg (by simp), if_pos (by simp)]
theorem ac7 (P : Program) (rest : List (List Char)) (h : behindMainWord (wordsSigns P.initOrder.toList) = "cut".toList :: rest) : P.headLifts = [] := by
 unfold Program.headLifts
 simp only [h, Ov]
 simp
theorem acM (P : Program) (rest : List (List Char)) (h : behindMainWord (wordsSigns P.initOrder.toList) = "cut".toList :: rest) : P.liftsFinal = false := by
 have h1 : (some "cut".toList == some "carried".toList) = false := by decide +kernel
 unfold Program.liftsFinal
 simp only [h, ac7 P rest h, List.head?_cons, h1, Bool.false_and, List.contains_nil, Bool.or_false]
theorem acF (P : Program) (rest : List (List Char)) (h : behindMainWord (wordsSigns P.initOrder.toList) = "cut".toList :: rest) (h1 : P.laysLater = false) (h2 : P.bearsReflect = false) (h3 : P.doorFits [] = true) : P.mayEnter = true := by
 unfold Program.mayEnter
 rw [h]
 simp only [Ov]
 rw [h1, h2, h3]
 simp
theorem aaU : Try.prog.make = some .cut := ah7 Try.prog Ac Dp
theorem YN : Try.prog.liftsFinal = false := acM Try.prog Ac Dp
theorem YP : Try.prog.laysLater = false := by kernel_rfl
theorem Uk : Try.prog.bearsReflect = false := by kernel_rfl
theorem aaR : Try.prog.doorFits [] = true := by kernel_rfl
theorem YM : Try.prog.mayEnter = true := acF Try.prog Ac Dp YP Uk aaR
theorem aaS : (true == Try.prog.plainKeys) = true := by kernel_rfl
theorem YO : Try.prog.stopsHeard = true := by kernel_rfl
theorem aa6 {P : Program} {f : FuncId} {fn : Func} {s : ChangeSpec} {c : OpenClaim}
  (h0 : (c.wf (OpenSpec.ofChange s)) = true)
  (h1 : (laidOutB P) = true)
  (h2 : (mapsRowed P) = true)
  (h3 : (fn.params.all (P.readableRec ·)) = true)
  (h4 : (namedTie P c.named s.vars) = true)
  (h5 : ((c.stops == [])) = true)
  (h6 : ((P.stops == [])) = true)
  (h7 : ((c.knobs == [])) = true)
  (h8 : ((P.stopKnobs == [])) = true)
  (h9 : ((c.inPlace == P.inPlace f)) = true)
  (h10 : ((c.unfollowed == P.unfollowed f)) = true)
  (h11 : ((c.recurses == P.recurses f)) = true)
  (h12 : ((c.named == P.varsNamed f)) = true)
  (h13 : ((c.maps == (fn.params.toList ++ s.plain.varTypes P).any (P.mapsRec ·))) = true)
  (h14 : ((c.ifaces == (fn.params.toList ++ s.plain.varTypes P).any (P.ifacesRec ·))) = true)
  (h15 : ((c.mapsOut == P.mapsAmong fn.resultTypes.toList)) = true)
  (h16 : ((c.loops == (fn.params.toList ++ s.plain.varTypes P).any (P.loopsFrom ·))) = true)
  (h17 : ((c.wideKeys == (fn.params.toList ++ s.plain.varTypes P ++ fn.resultTypes.toList).any (P.wideKeysFrom ·))) = true)
  (h18 : (s.vars.all (P.varReadable ·)) = true)
  (h19 : (fn.resultTypes.all (fun t => P.readableRec t && decide (t < P.types.size))) = true)
  (h20 : ((c.ifacesOut == fn.resultTypes.toList.any (P.ifacesRec ·))) = true)
  (h21 : ((c.loopsOut == fn.resultTypes.toList.any (P.loopsFrom ·))) = true)
  (h22 : ((c.plainKeys == P.plainKeys)) = true)
  (h23 : (c.shortTexts.isNone) = true)
  (h24 : (P.stopsHeard) = true)
  (h25 : (P.mayEnter) = true)
  (h26 : ((c.lifted == P.liftsFinal)) = true)
  (h27 : ((P.make == some c.make)) = true)
  (hd : c.domain.isEmpty = true) (hk : c.kinds = [])
  (h29 : ((c.pinned == c.pinnedBy)) = true)
  (h30 : ((c.veiled == (fn.params.toList ++ s.plain.varTypes P ++ fn.resultTypes.toList).any (P.veiledRec ·))) = true)
  (h31 : (c.veiledFits P fn.params.toList (fn.params.toList ++ s.plain.varTypes P ++ fn.resultTypes.toList)) = true)
  : joinedFacts P f fn s c = true := by
 unfold joinedFacts
 rw [h0, h1, h2, h3, h4, h5, h6, h7, h8, h9, h10, h11, h12, h13, h14, h15, h16, h17, h18, h19, h20, h21, h22, h23, h24, h25, h26, h27, if_pos hd, hk, h29, h30, h31]
 rfl
end Go.Proofs.Ytfdmfgaiblfbhaa.P
namespace Go.Proofs.Ytfdmfgaiblfbhaa.P
open Go.RowKit Go.Proofs.ai.bg Go.Proofs.ai.di Go.Proofs.ai.dG
open Go.ChangeShapes Go.WideShapes Go.ChangeAt Go.Joins Go.Deep
section
variable {H : Type} {enc : TypeId × Value → H} {P : Program} {w : World} {base : Nat} {spare : Nat → Bool} {held : Bool}
theorem TB (d : DataW H) : 1 ≤ Rows.uptoBulk d := by
 cases d with
 | lit l => cases l <;> simp [Rows.uptoBulk]
 | _ => simp [Rows.uptoBulk]
theorem ach (l : List (DataW H)) : l.length ≤ Rows.uptoBulkAll l := by
 induction l with
 | nil => simp
 | cons x xs ih =>
  have := TB x
  simp only [Rows.uptoBulkAll, List.length_cons]
  omega
theorem aci {α : Type} (m : α → Nat) : ∀ (l : List α) (es : List (DataW H)), l.length = es.length → (∀ (i : Nat) (p : α) (e : DataW H), l[i]? = some p → es[i]? = some e → m p ≤ Rows.uptoBulk e) → (l.map m).sum ≤ Rows.uptoBulkAll es := by
 intro l
 induction l with
 | nil => intro es _ _; simp
 | cons x xs ih =>
  intro es hl h
  cases es with
  | nil => simp at hl
  | cons e es =>
   have h0 := h 0 x e rfl rfl
   have h1 := ih es (by simpa using hl) (fun i p e hp he => h (i + 1) p e (by simpa using hp) (by simpa using he))
   simp only [List.map_cons, List.sum_cons, Rows.uptoBulkAll]
   omega
theorem Rt {t : TypeId} {f0 f1 f2 f3 : Field} {fuel : Nat} {cs : List Value} {x : DataW H × List MemPlace} (ht : P.underlying t = some (.struct #[f0, f1, f2, f3])) (h : DataW.trod enc P w base spare held fuel t cs = some x) :
  ∃ y0 y1 y2 y3 n, fuel = n + 1 ∧ x.1 = .agg [y0.1, y1.1, y2.1, y3.1] ∧ cs.length = P.cellsOf t ∧ DataW.trod enc P w base spare held n f0.type ((cs.drop f0.offset).take (P.cellsOf f0.type)) = some y0 ∧
   DataW.trod enc P w base spare held n f1.type ((cs.drop f1.offset).take (P.cellsOf f1.type)) = some y1 ∧ DataW.trod enc P w base spare held n f2.type ((cs.drop f2.offset).take (P.cellsOf f2.type)) = some y2 ∧
   DataW.trod enc P w base spare held n f3.type ((cs.drop f3.offset).take (P.cellsOf f3.type)) = some y3 := by
 obtain ⟨xs, n, hn, rfl, hl, hlen, hf⟩ := DataW.trod_struct ht h
 match xs, hlen with
 | [y0, y1, y2, y3], _ => exact ⟨y0, y1, y2, y3, n, hn, rfl, hl, by simpa using hf 0 f0 rfl, by simpa using hf 1 f1 rfl, by simpa using hf 2 f2 rfl, by simpa using hf 3 f3 rfl⟩
theorem abl {α : Type} {k : Kd α} {ok : α → Prop} (m : α → Nat) {t e : TypeId} {fuel : Nat} {cs : List Value} {x : DataW H × List MemPlace} (ht : P.underlying t = some (.slice e)) (hs : k.sz = P.cellsOf e)
  (hE : ∀ n, n < fuel → ∀ cs y, DataW.trod enc P w base spare held n e cs = some y → ∃ p, k.K w p cs ∧ ok p ∧ m p ≤ Rows.uptoBulk y.1) (h : DataW.trod enc P w base spare held fuel t cs = some x) :
  ∃ A c l, cs = [.slice A (l : List α).length c] ∧ l.length ≤ c ∧ k.C w A l.length l ∧ (∀ p, p ∈ l → ok p) ∧ (l.map m).sum < Rows.uptoBulk x.1 ∧ l.length < Rows.uptoBulk x.1 := by
 rcases DataW.trod_slice ht h with ⟨rfl, rfl⟩ | ⟨a, len, cap, elems, rest, n, hn, rfl, rfl, hb, hl, hm, hlen, hel, hsp, hns⟩
 ·exact ⟨none, 0, [], rfl, Nat.le_refl _, ⟨rfl, by simp, fun h => absurd h (by simp)⟩, (fun p hp => by cases hp), (by simp [Rows.uptoBulk]), (by simp [Rows.uptoBulk])⟩
 ·obtain ⟨l, hl2, hq⟩ := row_of (α := α) (Q := fun i p => ok p ∧ (∃ c, c.length = k.sz ∧ k.K w p c ∧ ∀ j u, c[j]? = some u → w.cell? (a.add (i * k.sz + j)) = some u) ∧ ∀ e, elems[i]? = some e → m p ≤ Rows.uptoBulk e.1) len (fun i hi => by
   have key := hel i hi
   rw [List.getElem?_eq_getElem (by omega)] at key
   obtain ⟨cs', h1, h2⟩ := Option.bind_eq_some_iff.1 key
   obtain ⟨p, hp, hok, hm⟩ := hE n (by omega) cs' _ h2
   obtain ⟨h3, h4⟩ := cells_at h1
   refine ⟨p, hok, ⟨cs', by rw [h3, hs], hp, fun j u hj => ?_⟩, fun e he => ?_⟩
   ·rw [hs, ← Deep.add_add]
    exact h4 j u hj
   ·rw [List.getElem?_eq_getElem (by omega)] at he
    cases he
    exact hm)
  subst hl2
  refine ⟨some a, cap, l, rfl, hl, ⟨rfl, by unfold maxLen at hm; omega, fun _ => ⟨a, rfl, fun j p hj => ?_⟩⟩, fun p hp => ?_, ?_, ?_⟩
  ·obtain ⟨_, ⟨c, h1, h2, h3⟩, _⟩ := hq j p hj
   exact ⟨c, h1, h2, h3⟩
  ·obtain ⟨i, hi, rfl⟩ := List.getElem_of_mem hp
   exact (hq i _ (List.getElem?_eq_getElem hi)).1
  ·have := aci m l (elems.map (·.1)) (by simp [hlen]) (fun i p e hp he => by
    rw [List.getElem?_map] at he
    obtain ⟨e', he', rfl⟩ := Option.map_eq_some_iff.1 he
    exact (hq i p hp).2.2 e' he')
   simp only [Rows.uptoBulk]
   omega
  ·have := ach (elems.map (·.1))
   simp only [List.length_map] at this
   simp only [Rows.uptoBulk]
   omega
end
section
variable {H : Type} {enc : TypeId × Value → H} {w : World} {base : Nat} {spare : Nat → Bool} {held : Bool}
theorem adJ : ∀ (fuel : Nat) {cs : List Value} {x : DataW H × List MemPlace} (_ : DataW.trod enc Try.prog w base spare held fuel 26 cs = some x), ∃ r : aI, (Kd.upto VJ 7 [26] fuel).K w r cs ∧ Kz fuel r ∧ sz r ≤ Rows.uptoBulk x.1 := by
 intro fuel
 induction fuel using Nat.strongRecOn with
 | _ fuel ih =>
 intro cs x h
 cases fuel with
 | zero => simp [DataW.trod] at h
 | succ fuel =>
  obtain ⟨y0, y1, y2, y3, m, hm, hx, hl, h0, h1, h2, h3⟩ := Rt Try.underlying26 h
  obtain rfl : fuel = m := by omega
  rw [cells26] at hl
  match cs, hl with
  | [c0, c1, c2, c3, c4, c5, c6], _ =>
    simp only [cells3, cells5, cells23, cells24, List.drop_zero, List.take_succ_cons, List.take_zero, List.drop_succ_cons] at h0 h1 h2 h3
    obtain ⟨n0, e0, _, w0⟩ := DataW.trod_int Try.underlying5 h0
    obtain ⟨n2, e2, _, w2⟩ := DataW.trod_int Try.underlying3 h2
    simp only [List.cons.injEq, and_true] at e0 e2
    subst e0 e2
    obtain ⟨r, hr, hw⟩ := ak5 h1
    obtain e1 := LD hr
    simp only [List.cons.injEq, and_true] at e1
    obtain ⟨rfl, rfl, rfl, rfl⟩ := e1
    obtain ⟨A, c, l, e3, hlc, hC, hok, hsum, _⟩ := abl (k := Kd.upto VJ 7 [26] fuel) (ok := Kz fuel) sz Try.underlying24 (by rw [ZC, cells26]) (fun n hn cs y hy => by
     obtain ⟨p, hp, hok, hz⟩ := ih n (by omega) hy
     exact ⟨p, Kd.JE UU ZC (by omega) hp, Vm (by omega) hok, hz⟩) h3
    simp only [List.cons.injEq, and_true] at e3
    subst e3
    have anE : l.length ≤ 9223372036854775807 := hC.2.1
    refine ⟨⟨n0, r, n2, l⟩, ?_, ⟨aoc w0, hw, Jl w2, anE, hok⟩, ?_⟩
    ·exact ⟨[.int .u8 n0], [.int .i64 r.f0, .int .i64 r.f1, .int .i64 r.f2, .int .i64 r.f3, .int .i64 n2, .slice A l.length c], rfl, rfl, [.int .i64 r.f0, .int .i64 r.f1, .int .i64 r.f2, .int .i64 r.f3], [.int .i64 n2, .slice A l.length c], rfl, UN w r, [.int .i64 n2], [.slice A l.length c], rfl, rfl, A, c, rfl, hlc, hC⟩
    ·rw [hx, gm]
     have := aip l
     simp only [Rows.uptoBulk, Rows.uptoBulkAll]
     have h3 := TB y0.1
     omega
theorem aii {fuel : Nat} {cs : List Value} {x : DataW H × List MemPlace} (h : DataW.trod enc Try.prog w base spare held fuel 26 cs = some x) : ∃ r : aI, k26.K w r cs ∧ alv r ∧ sz r ≤ Rows.uptoBulk x.1 := by
 obtain ⟨r, hr, hw, hz⟩ := adJ fuel h
 exact ⟨r, ⟨fuel, hr⟩, ⟨fuel, hw⟩, hz⟩
end
end Go.Proofs.Ytfdmfgaiblfbhaa.P
namespace Go.Proofs.Ytfdmfgaiblfbhaa.Ih
open Go.ChangeShapes Go.WideShapes Go.ChangeAt Go.RowKit Go.Proofs.Ytfdmfgaiblfbhaa.P Go.Proofs.ai.bg
open Go.ChangeMaps (open_string shut_string)
theorem own : ownKnob Try.prog.godebug = none := by kernel_rfl
theorem laidOut : laidOutB Try.prog = true := by kernel_rfl
theorem lifted (os : Os) (started : os.Started) (H : Type) (enc : TypeId × Value → H) (F : Stop.Interp) :
  ReturnsInHanded {} Try.checked os 26 .any ((Rows.OpenSpec.upto Rows.spreadAllSpec).pre6 enc Try.prog Try.f26 Rows.spreadAllUptoRow.domain false) (((Rows.OpenSpec.upto Rows.spreadAllSpec).at F).post enc Try.prog Try.f26 false true false false) := by
 refine returnsInHanded_of_cond (C := Try.checked) (s := Rows.OpenSpec.upto Rows.spreadAllSpec) (k := Rows.uptoSmall) rfl own started (by kernel_rfl) Try.func26
  (OpenSpec.witness (enc := enc) (C := Try.checked) (s := Rows.OpenSpec.upto Rows.spreadAllSpec) (k := Rows.uptoSmall) rfl false ⟨#[], #[.agg #[.int .u8 0, .int .i64 0, .int .i64 0, .int .i64 0, .int .i64 0, .int .i64 0, .slice none 0 0]], []⟩ 8 (by kernel_rfl) (by kernel_rfl) (by kernel_rfl)
   (x := ([.agg [.lit (.int .u8 0), .agg [.lit (.int .i64 0), .lit (.int .i64 0), .lit (.int .i64 0), .lit (.int .i64 0)], .lit (.int .i64 0), .nil]], [], [])) (by kernel_rfl) rfl (by kernel_rfl)) ?_
 intro W base args ds gs before hval0 hW hcnd hk0 _
 have hval : ∀ (j : Nat) t v, Try.f26.params[j]? = some t → args[j]? = some v → Value.okWide Try.prog W .any base t v := hval0
 have hW' := hW
 obtain ⟨p, q, hA0, hV, rfl, hfz, hnd⟩ := hW
 have hA : DataW.TrodAll enc Try.prog W 0 (fun _ => true) true Try.f26.params.toList args.toList ds p := hA0
 rw [Try.params26] at hA hval
 obtain ⟨v0, vs0, d0, ds0, p0, q0, hargs, rfl, rfl, h0, r0⟩ := trodAll_cons hA
 obtain ⟨rfl, rfl, rfl⟩ := trodAll_nil r0
 obtain rfl : args = #[v0] := by cases args; simp_all
 obtain ⟨rfl, rfl⟩ := trodVars_none hV
 have hB := of_decide_eq_true hk0
 simp only [List.cons_append, List.nil_append, List.append_nil, Rows.uptoBulkAll] at hB
 have z0 : Rows.uptoBulk d0 ≤ 1048576 := by omega
 have k0 := h0
 have lt0 : ∀ x ∈ p0, x.block < W.heap.size := by obtain ⟨m, hm⟩ := k0; exact DataW.trod_lt m _ _ _ hm
 obtain ⟨fuel0, hf0⟩ := h0
 obtain ⟨cs0, rfl, _⟩ := okWide_struct Try.underlying26 (hval 0 26 v0 rfl rfl)
 obtain ⟨a0, b0, w0, y0⟩ := aii hf0
 obtain ⟨A0, c0, e0, hc0, hr0⟩ := Ht b0
 obtain rfl := ajH e0
 have hP := Pure.SpreadAll a0 w0 (Nat.le_trans y0 z0)
 refine (n_.calls a0.f0 a0.f1.f0 a0.f1.f1 a0.f1.f2 a0.f1.f3 a0.f2 _ _ a0.f3 true W hr0 hc0 hP).mono fun e W' ⟨he, aoK⟩ => ?_
 have bel : Below W.heap.size W W' := aoK
 subst he
 exact ⟨_, rfl, _, _, _, [], _, [], hW', trodAll_mk1 (shut_bool Try.underlying4 _), (trodAll_cons_mk (Below.trod laidOut (by kernel_rfl) (of_decide_eq_true (by kernel_rfl)) k0 bel lt0) trodAll_mk0), rfl, bel.frame _, fun h => by cases h⟩
theorem j0 : (Rows.spreadAllUptoRow.wf (OpenSpec.ofChange (Rows.OpenSpec.upto Rows.spreadAllSpec).bare)) = true := by kernel_rfl
theorem j1 : (laidOutB Try.prog) = true := by kernel_rfl
theorem j2 : (mapsRowed Try.prog) = true := by kernel_rfl
theorem j3 : (Try.f26.params.all (Try.prog.readableRec ·)) = true := by kernel_rfl
theorem j4 : (namedTie Try.prog Rows.spreadAllUptoRow.named (Rows.OpenSpec.upto Rows.spreadAllSpec).bare.vars) = true := by kernel_rfl
theorem j5 : ((Rows.spreadAllUptoRow.stops == [])) = true := by kernel_rfl
theorem j6 : ((Try.prog.stops == [])) = true := by kernel_rfl
theorem j7 : ((Rows.spreadAllUptoRow.knobs == [])) = true := by kernel_rfl
theorem j8 : ((Try.prog.stopKnobs == [])) = true := by kernel_rfl
theorem j9 : ((Rows.spreadAllUptoRow.inPlace == Try.prog.inPlace 26)) = true := by kernel_rfl
theorem j10 : ((Rows.spreadAllUptoRow.unfollowed == Try.prog.unfollowed 26)) = true := by kernel_rfl
theorem j11 : ((Rows.spreadAllUptoRow.recurses == Try.prog.recurses 26)) = true := by kernel_rfl
theorem j12 : ((Rows.spreadAllUptoRow.named == Try.prog.varsNamed 26)) = true := by kernel_rfl
theorem j13 : ((Rows.spreadAllUptoRow.maps == (Try.f26.params.toList ++ (Rows.OpenSpec.upto Rows.spreadAllSpec).bare.plain.varTypes Try.prog).any (Try.prog.mapsRec ·))) = true := by kernel_rfl
theorem j14 : ((Rows.spreadAllUptoRow.ifaces == (Try.f26.params.toList ++ (Rows.OpenSpec.upto Rows.spreadAllSpec).bare.plain.varTypes Try.prog).any (Try.prog.ifacesRec ·))) = true := by kernel_rfl
theorem j15 : ((Rows.spreadAllUptoRow.mapsOut == Try.prog.mapsAmong Try.f26.resultTypes.toList)) = true := by kernel_rfl
theorem j16 : ((Rows.spreadAllUptoRow.loops == (Try.f26.params.toList ++ (Rows.OpenSpec.upto Rows.spreadAllSpec).bare.plain.varTypes Try.prog).any (Try.prog.loopsFrom ·))) = true := by kernel_rfl
theorem j17 : ((Rows.spreadAllUptoRow.wideKeys == (Try.f26.params.toList ++ (Rows.OpenSpec.upto Rows.spreadAllSpec).bare.plain.varTypes Try.prog ++ Try.f26.resultTypes.toList).any (Try.prog.wideKeysFrom ·))) = true := by kernel_rfl
theorem j18 : ((Rows.OpenSpec.upto Rows.spreadAllSpec).bare.vars.all (Try.prog.varReadable ·)) = true := by kernel_rfl
theorem j19 : (Try.f26.resultTypes.all (fun t => Try.prog.readableRec t && decide (t < Try.prog.types.size))) = true := by kernel_rfl
theorem j20 : ((Rows.spreadAllUptoRow.ifacesOut == Try.f26.resultTypes.toList.any (Try.prog.ifacesRec ·))) = true := by kernel_rfl
theorem j21 : ((Rows.spreadAllUptoRow.loopsOut == Try.f26.resultTypes.toList.any (Try.prog.loopsFrom ·))) = true := by kernel_rfl
theorem j23 : (Rows.spreadAllUptoRow.shortTexts.isNone) = true := by kernel_rfl
theorem j29 : ((Rows.spreadAllUptoRow.pinned == Rows.spreadAllUptoRow.pinnedBy)) = true := by kernel_rfl
theorem j30 : ((Rows.spreadAllUptoRow.veiled == (Try.f26.params.toList ++ (Rows.OpenSpec.upto Rows.spreadAllSpec).bare.plain.varTypes Try.prog ++ Try.f26.resultTypes.toList).any (Try.prog.veiledRec ·))) = true := by kernel_rfl
theorem j31 : (Rows.spreadAllUptoRow.veiledFits Try.prog Try.f26.params.toList (Try.f26.params.toList ++ (Rows.OpenSpec.upto Rows.spreadAllSpec).bare.plain.varTypes Try.prog ++ Try.f26.resultTypes.toList)) = true := by kernel_rfl
theorem closed : joinedFacts Try.prog 26 Try.f26 (Rows.OpenSpec.upto Rows.spreadAllSpec).bare Rows.spreadAllUptoRow = true := P.aa6 j0 j1 j2 j3 j4 j5 j6 j7 j8 j9 j10 j11 j12 j13 j14 j15 j16 j17 j18 j19 j20 j21 P.aaS j23 P.YO P.YM (by rw [P.YN]; rfl) (by rw [P.aaU]; rfl) rfl rfl j29 j30 j31
theorem over : Rows.spreadAllUptoRow.holds Try.pinned (Rows.OpenSpec.upto Rows.spreadAllSpec) :=
 OpenClaim.holds_of_cond 26 Try.f26 rfl rfl rfl rfl rfl rfl rfl ⟨rfl, rfl, rfl, rfl, rfl⟩ rfl rfl rfl rfl rfl (by kernel_rfl) Try.func26 closed
  (of_decide_eq_true (by kernel_rfl)) (by unfold Func.isWrapper; first | (rw [if_pos (by decide +kernel)]; kernel_rfl) | (rw [if_neg (by decide +kernel)]; exact ⟨rfl, rfl⟩))
  (fun os started H enc _ F => lifted os started H enc F)
theorem proved : Rows.SpreadAllUptoSaid := over
#print axioms proved
end Go.Proofs.Ytfdmfgaiblfbhaa.Ih
namespace Go.Proofs.Ytfdmfgaiblfbhaa
theorem spreadAllUpto_holds : Rows.SpreadAllUptoSaid := Ih.proved
end Go.Proofs.Ytfdmfgaiblfbhaa
