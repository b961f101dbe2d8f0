/- The row of the law SplitIs, second form (what it reads is of bulk at most 1048576), out of its plain law and its walk. -/
import Derived.Test.YtfdmfgaiblfbhaaMSplitIsd
import Derived.Test.YtfdmfgaiblfbhaaMSplitIse
import Derived.Test.YtfdmfgaiblfbhaaMSplitIsc
import Derived.Test.YtfdmfgaiblfbhaaRows
import Derived.ProofKit
import Derived.WalkKit
import Derived.OpenShut
import Derived.ShutString
import Derived.ChangeOld
import Derived.Below
import Derived.SizedLaws
import Derived.JoinedCond
set_option maxHeartbeats 8000000
set_option maxRecDepth 100000
set_option linter.unusedVariables false
set_option linter.unusedSimpArgs false
namespace Go.Proofs.Ytfdmfgaiblfbhaa.P
open Go.RowKit Go.Proofs.ag.aA Go.Proofs.ag.bg Go.Proofs.ag.bG
def yJ.T3 : Bool × List (List Nat × List Nat) := (true, [([], []), ([], []), ([], []), ([], []), ([], []), ([], []), ([4, 5], [4, 5]), ([6], [6]), ([], []), ([], []), ([8, 9], [8, 9]), ([10], [10]), ([0, 1, 0, 1, 4, 5, 6, 7, 11], [0, 1]), ([12, 7, 0, 1, 4, 5, 6, 7, 11], [7, 12]), ([2, 3, 0, 1, 2, 3, 4, 5, 6, 7, 8, 9, 10, 11, 12, 13], [2, 3]), ([14, 11, 13, 0, 1, 2, 3, 4, 5, 6, 7, 8, 9, 10, 11, 12, 13], [11, 14])])
def yJ.B3 : List Nat := [0, 0, 0, 0, 0, 0, 48, 112, 0, 0, 768, 1792, 4083, 8179, 16383, 32767]
theorem yJ.Hr : iY .any (opsOf Try.f191 3) = yJ.T3 := by kernel_rfl
theorem yJ.Cj : jA yJ.T3.2 yJ.B3 = true := by kernel_rfl
theorem ae9 {w W : World} {P : Nat → Prop} {bs : List (Option Nat × Obj)} {ts : List (Value × List ai)} {ro : List (Addr × Value)} {gr cap : Nat} (x y : ai) (S0 : St w P (bs) [(.slice (some ⟨gr, 0, none⟩) 2 cap, [x, y])] (ts) (ro) W) :
  Calls Try.prog 191 #[.slice (some ⟨gr, 0, none⟩) 2 cap] W fun e w' => e = .returned (.tuple #[]) ∧ St w P (bs) [(.slice (some ⟨gr, 0, none⟩) 2 cap, [y, x])] (ts) (ro) w' := by
 have S := ae.mk S0
 clear S0
 go_enter Try.func191, Try.ntmps191
 go_wp2
 go_loopg [2, 3] 1 (fun gg v2 v3 wr => (gg = 1 ∧ v2 = .int .i64 0 ∧ v3 = .int .i64 1 ∧ ae (St w P (bs) [(.slice (some ⟨gr, 0, none⟩) 2 cap, [x, y])] (ts) (ro) wr)) ∨ (v2 = .int .i64 1 ∧ v3 = .int .i64 0 ∧ ae (St w P (bs) [(.slice (some ⟨gr, 0, none⟩) 2 cap, [y, x])] (ts) (ro) wr)))
 case atStart => exact .inl ⟨rfl, rfl, rfl, S⟩
 case round =>
  clear S
  rcases hrel with ⟨hgg, rfl, rfl, S⟩ | ⟨rfl, rfl, S⟩
  case inl =>
   obtain ⟨ua, uc, S1, h1⟩ := S.out.QC (0 : Int) (by decide) (by simp)
   obtain ⟨va, vc, S2, h2⟩ := S1.QC (1 : Int) (by decide) (by simp)
   have e0 : aj [x, y] 0 = x := rfl
   have e1 : aj [x, y] 1 = y := rfl
   rw [e0] at h1 S2
   rw [e1] at h2 S2
   have hcell : ∀ (j : Nat) (u : Value), (iI x ua uc ++ iI y va vc)[j]? = some u → wr.cell? ⟨gr, j, none⟩ = some u := by
    intro j u hj
    by_cases hlt : j < 7
    ·rw [List.getElem?_append_left (by simpa [iI] using hlt)] at hj
     have := h1 j u hj
     simpa using this
    ·rw [List.getElem?_append_right (by simp [iI]; omega)] at hj
     have := h2 (j - 7) u (by simpa [iI] using hj)
     have e : (1 : Int).toNat * 7 + (j - 7) = j := by simp; omega
     rw [e] at this
     exact this
   replace S := ae.mk S2
   have YB := ae.mk hcell
   clear S1 S2 h1 h2 hcell e0 e1
   go_wp2
   refine kX (n := 16) (S := fun w' => St w _ _ _ _ _ w' ∧ ∀ (j : Nat) (u : Value), (iI x ua uc ++ iI y va vc)[j]? = some u → w'.cell? ⟨gr, j, none⟩ = some u) (ds := [13, 15]) (bA 16 0) (by kernel_rfl) rfl rfl ⟨S.out.call (bz (Below.refl _ _)), F5 YB.out (bz (Below.refl _ _))⟩ (fun hHeld => ?_); refine ik yJ.Hr yJ.Cj (fun az fZ => ?_)
   replace S := ae.mk (S.out.call (bz (Below.refl _ _)))
   replace YB := ae.mk (F5 YB.out (bz (Below.refl _ _)))
   generalize wr.drew = Zh at S YB hHeld ⊢
   refine aJ 0 14 (bA 16 1) az ?_
   refine aJ 1 15 (bA 16 3) az ?_
   refine aJ 2 16 (bA 16 7) az ?_
   refine aJ 3 17 (bA 16 15) az ?_
   refine aJ 4 18 (bA 16 31) az ?_
   refine aJ 5 19 (bA 16 63) az ?_
   refine aJ 6 20 (bA 16 127) az ?_
   refine eQ 7 21 (bA 16 255) az fZ hHeld ?_ (hv := by intro w' hs_; have xe7 := (show w'.cell? ⟨gr, 7, none⟩ = some (.int .u8 y.f0) from hs_.2 7 _ rfl); have xe8 := (show w'.cell? ⟨gr, 8, none⟩ = some (.int .i64 y.f1.f0) from hs_.2 8 _ rfl); have xe9 := (show w'.cell? ⟨gr, 9, none⟩ = some (.int .i64 y.f1.f1) from hs_.2 9 _ rfl); have alQ := (show w'.cell? ⟨gr, 10, none⟩ = some (.int .i64 y.f1.f2) from hs_.2 10 _ rfl); have alR := (show w'.cell? ⟨gr, 11, none⟩ = some (.int .i64 y.f1.f3) from hs_.2 11 _ rfl); have alS := (show w'.cell? ⟨gr, 12, none⟩ = some (.int .i64 y.f2) from hs_.2 12 _ rfl); have alT := (show w'.cell? ⟨gr, 13, none⟩ = some (.slice va y.f3.length vc) from hs_.2 13 _ rfl); go_simp; with_reducible rfl)
   refine aJ 8 22 (bA 16 511) az ?_
   refine aJ 9 23 (bA 16 1023) az ?_
   refine aJ 10 24 (bA 16 2047) az ?_
   refine eQ 11 25 (bA 16 4095) az fZ hHeld ?_ (hv := by intro w' hs_; have xe0 := (show w'.cell? ⟨gr, 0, none⟩ = some (.int .u8 x.f0) from hs_.2 0 _ rfl); have xe1 := (show w'.cell? ⟨gr, 1, none⟩ = some (.int .i64 x.f1.f0) from hs_.2 1 _ rfl); have xe2 := (show w'.cell? ⟨gr, 2, none⟩ = some (.int .i64 x.f1.f1) from hs_.2 2 _ rfl); have xe3 := (show w'.cell? ⟨gr, 3, none⟩ = some (.int .i64 x.f1.f2) from hs_.2 3 _ rfl); have xe4 := (show w'.cell? ⟨gr, 4, none⟩ = some (.int .i64 x.f1.f3) from hs_.2 4 _ rfl); have xe5 := (show w'.cell? ⟨gr, 5, none⟩ = some (.int .i64 x.f2) from hs_.2 5 _ rfl); have xe6 := (show w'.cell? ⟨gr, 6, none⟩ = some (.slice ua x.f3.length uc) from hs_.2 6 _ rfl); go_simp; with_reducible rfl)
   refine aJ 12 26 (bA 16 8191) az ?_
   refine uZ 13 none (bA 16 16383) az (fun K hK => ?_)
   refine Rj (0 : Int) y (.tmp 26) (.tmp 21) rfl S.out (by rfl) rfl (by decide) (by simp) (by first | rfl | (go_simp; rfl)) rfl (by kernel_rfl) (.head _) ?_
   intro fV S1
   have S1 : St w P (bs) [(.slice (some ⟨gr, 0, none⟩) 2 cap, [y, y])] ((.slice va y.f3.length vc, y.f3) :: (.slice ua x.f3.length uc, x.f3) :: ts) (ro) fV := S1
   replace S := ae.mk S1
   clear S1
   refine hK.out _ _ ?_
   clear hK K
   refine aJ 14 27 (bA 16 32767) az ?_
   refine uZ 15 none (bA 16 65535) az (fun K hK => ?_)
   refine Rj (1 : Int) x (.tmp 27) (.tmp 25) rfl S.out (by rfl) rfl (by decide) (by simp) (by first | rfl | (go_simp; rfl)) rfl (by kernel_rfl) bf ?_
   intro gz S1
   have S1 : St w P (bs) [(.slice (some ⟨gr, 0, none⟩) 2 cap, [y, x])] ((.slice va y.f3.length vc, y.f3) :: (.slice ua x.f3.length uc, x.f3) :: ts) (ro) gz := S1
   replace S := ae.mk S1
   clear S1
   refine hK.out _ _ ?_
   clear hK K
   refine nz (jK az.out (by kernel_rfl)) ?_
   clear hHeld
   go_wp2
   go_wp2
   go_roundg 0
   case measure => omega
   case rel => exact .inr ⟨rfl, rfl, ⟨S.out.dC.dC⟩⟩
  case inr =>
   go_wp2
   (try simp only [Exit.inBlock, Exit.then])
   refine bodyPost_end (results_none rfl _ _ _) rfl ?_
   exact ⟨rfl, S.out⟩
def uQ.T2 : Bool × List (List Nat × List Nat) := (true, [([], []), ([0], [0]), ([], []), ([], []), ([], []), ([4], [4]), ([1, 2, 3, 5], [1, 2, 3, 5]), ([], []), ([7], [7]), ([], []), ([], []), ([], []), ([8, 9, 10, 11, 6], [8, 9, 10, 11]), ([6, 12], [6, 12]), ([13, 12, 0, 1, 2, 3, 4, 5, 6, 7, 8, 9, 10, 11, 12, 13], [13])])
def uQ.B2 : List Nat := [0, 1, 0, 0, 0, 16, 63, 0, 128, 0, 0, 0, 4095, 8191, 16383]
theorem uQ.Yr : iY .any (opsOf Try.f167 2) = uQ.T2 := by kernel_rfl
theorem uQ.Sj : jA uQ.T2.2 uQ.B2 = true := by kernel_rfl
theorem I8 {r : dK} {ax v : Int} {args : Array Value} {W : World} (h : aK ax r = v) (hc : Calls Try.prog 98 args W fun e w' => e = .returned (.int .i64 (aK ax r)) ∧ Below W.heap.size W w') : Calls Try.prog 98 args W fun e w' => e = .returned (.int .i64 v) ∧ Below W.heap.size W w' := by
 rw [h] at hc
 exact hc
theorem Hl {s size e n : Int} {ok : Bool} (hs : I64 s) (hz : I64 size) (h : tV s size = (e, n, ok)) (W : World) : Calls Try.prog 104 #[.int .i64 s, .int .i64 size] W fun e' w' => e' = .returned (.tuple #[.int .i64 e, .int .i64 n, .bool ok]) ∧ Below W.heap.size W w' := by
 obtain ⟨k, hk⟩ := (TM s size hs hz).rounds
 rw [h] at hk
 exact iM.calls k s size e n ok W hk
theorem WJ (leaf : ai) (ax size fresh : Int) (ahead : Bool) (hs : -1000000 ≤ aK ax leaf.f1 ∧ aK ax leaf.f1 ≤ 1000000) (hz : I64 size) (P : Nat → Prop) (A : Option Addr) (cc : Nat) (w : World) (hv : Kd.V k26 26 w w.heap.size P (.slice A leaf.f3.length cc) leaf.f3) :
  Calls Try.prog 167 #[.agg #[.int .u8 leaf.f0, .int .i64 leaf.f1.f0, .int .i64 leaf.f1.f1, .int .i64 leaf.f1.f2, .int .i64 leaf.f1.f3, .int .i64 leaf.f2, .slice A leaf.f3.length cc], .int .u8 ax, .int .i64 size, .int .i64 fresh, .bool ahead] w (R_ w P (w_ ax size fresh ahead leaf)) := by
 have S := ae.mk (St.start (ts := [(.slice A leaf.f3.length cc, leaf.f3)]) (b0 := w.heap.size) (w := w) (P := P) (fun t ht => by rw [List.mem_singleton.1 ht]; exact hv))
 obtain ⟨ck, ⟨cx, cy, cw, ch⟩, aQ, l⟩ := leaf
 simp only [] at S hs ⊢
 unfold w_
 obtain ⟨sv, hsv⟩ : ∃ s, aK ax ⟨cx, cy, cw, ch⟩ = s := ⟨_, rfl⟩
 simp only [hsv] at hs ⊢
 obtain ⟨⟨e1, n1, ok⟩, hbs⟩ : ∃ r, tV sv size = r := ⟨_, rfl⟩
 simp only [hbs]
 have Bv := ae.mk hsv
 have Nu := ae.mk (show I64 sv by unfold I64; omega)
 have Nw := ae.mk hz
 have Na := ae.mk hbs
 unfold AA
 obtain ⟨W1, hw1⟩ : ∃ x, x = if ax = 1 then e1 else cw := ⟨_, rfl⟩
 obtain ⟨H1, hh1⟩ : ∃ x, x = if ax = 1 then ch else e1 := ⟨_, rfl⟩
 obtain ⟨W2, hw2⟩ : ∃ x, x = if ax = 1 then n1 else cw := ⟨_, rfl⟩
 obtain ⟨H2, hh2⟩ : ∃ x, x = if ax = 1 then ch else n1 := ⟨_, rfl⟩
 simp only [← hw1, ← hh1, ← hw2, ← hh2]
 have HW1 := ae.mk hw1
 have Nh := ae.mk hh1
 have HW2 := ae.mk hw2
 have Nl := ae.mk hh2
 clear hv hs hz hsv hbs hw1 hh1 hw2 hh2
 cases ahead with
 | false =>
  simp only [Bool.false_eq_true, if_false]
  go_enter Try.func167, Try.ntmps167
  go_wp2_with (first
   | (refine boxS 5 _ 26 S ?_; clear S; intro b5 eU S; have iy := (S.out.at (.head _) 1).trans rfl; have iC := (S.out.at (.head _) 2).trans rfl; have iD := (S.out.at (.head _) 3).trans rfl; have iE := (S.out.at (.head _) 4).trans rfl)
   | (refine bI (some 19) Try.func98 S (I8 Bv.out (I7 ⟨cx, cy, cw, ch⟩ ax)) ?_; clear S; intro fV S; clear iy iC iD iE)
   | (refine bI (some 21) Try.func104 S (Hl Nu.out Nw.out Na.out _) ?_; clear S; intro gz S)
   | fail)
  refine kX (n := 15) (S := fun w' => St w _ _ _ _ _ w') (ds := []) (bA 15 0) (by kernel_rfl) rfl rfl (S.out.call (bz (Below.refl _ _))) (fun hHeld => ?_); refine ik uQ.Yr uQ.Sj (fun az fZ => ?_)
  replace S := ae.mk (S.out.call (bz (Below.refl _ _)))
  generalize gz.drew = wd4 at S hHeld ⊢
  refine aJ 0 25 (bA 15 1) az ?_
  refine eQ 1 26 (bA 15 3) az fZ hHeld ?_ (hv := by intro w' hs_; have iy := (hs_.at (.head _) 1).trans rfl; have iC := (hs_.at (.head _) 2).trans rfl; have iD := (hs_.at (.head _) 3).trans rfl; have iE := (hs_.at (.head _) 4).trans rfl; go_simp; with_reducible rfl)
  refine aJ 2 27 (bA 15 7) az ?_
  refine aJ 3 28 (bA 15 15) az ?_
  refine aJ 4 29 (bA 15 31) az ?_
  refine eQ 5 30 (bA 15 63) az fZ hHeld ?_ (hv := by intro w' hs_; have qp := (hs_.at (.head _) 5).trans rfl; go_simp; with_reducible rfl)
  refine aJ 7 32 (bA 15 191) az ?_
  refine eQ 8 33 (bA 15 447) az fZ hHeld ?_ (hv := by intro w' hs_; have iy := (hs_.at (.head _) 1).trans rfl; have iC := (hs_.at (.head _) 2).trans rfl; have iD := (hs_.at (.head _) 3).trans rfl; have iE := (hs_.at (.head _) 4).trans rfl; go_simp; with_reducible rfl)
  refine aJ 9 34 (bA 15 959) az ?_
  refine aJ 10 35 (bA 15 1983) az ?_
  refine aJ 11 36 (bA 15 4031) az ?_
  refine kW 6 (some 31) (bA 15 4095) az (fun K hK => ?_)
  refine lU Try.func190 #[.agg #[.int .i64 cx, .int .i64 cy, .int .i64 cw, .int .i64 ch], .int .u8 ax, .int .i64 e1, .int .i64 aQ] ?_
  refine (Dj cx cy cw ch ax e1 aQ W1 H1 HW1.out Nh.out _).mono ?_
  rintro e mQ ⟨rfl, hb⟩
  refine ⟨_, rfl, ?_⟩
  replace S := ae.mk (S.out.call hb)
  clear hb
  refine hK.out _ _ S.out (fun hHeld => ?_)
  clear hK K
  refine fJ 31 ?_
  refine kW 12 (some 37) (bA 15 8191) az (fun K hK => ?_)
  refine lU Try.func190 #[.agg #[.int .i64 cx, .int .i64 cy, .int .i64 cw, .int .i64 ch], .int .u8 ax, .int .i64 n1, .int .i64 fresh] ?_
  refine (Dj cx cy cw ch ax n1 fresh W2 H2 HW2.out Nl.out _).mono ?_
  rintro e o6 ⟨rfl, hb⟩
  refine ⟨_, rfl, ?_⟩
  replace S := ae.mk (S.out.call hb)
  clear hb
  refine hK.out _ _ S.out (fun hHeld => ?_)
  clear hK K
  refine fJ 37 ?_
  refine kW 13 (some 38) (bA 15 16383) az (fun K hK => ?_)
  refine Y0 (N := 38) (by rfl) rfl ⟨1, ⟨cx, cy, W1, H1⟩, aQ, []⟩ ⟨1, ⟨cx, cy, W2, H2⟩, fresh, []⟩ S.out (Kd.rX k26 26 _ 0 _) (Kd.rX k26 26 _ 0 _) ?hr ?_
  case hr => first | (go_simp; done) | (go_simp; rfl)
  intro gq cq uy S1
  replace S := ae.mk S1
  clear S1
  refine hK.out _ _ S.out.free.dC (fun hHeld => ?_)
  clear hK K
  refine fJ 38 ?_
  refine aJ 14 14 (bA 15 32767) az ?_
  refine nz (jK az.out (by kernel_rfl)) ?_
  clear hHeld
  go_wp2
  go_ret
  exact ⟨_, _, rfl, S.out.yY, S.out.below⟩
 | true =>
  simp only [if_true]
  go_enter Try.func167, Try.ntmps167
  go_wp2_with (first
   | (refine boxS 5 _ 26 S ?_; clear S; intro b5 eU S; have iy := (S.out.at (.head _) 1).trans rfl; have iC := (S.out.at (.head _) 2).trans rfl; have iD := (S.out.at (.head _) 3).trans rfl; have iE := (S.out.at (.head _) 4).trans rfl)
   | (refine bI (some 19) Try.func98 S (I8 Bv.out (I7 ⟨cx, cy, cw, ch⟩ ax)) ?_; clear S; intro fV S; clear iy iC iD iE)
   | (refine bI (some 21) Try.func104 S (Hl Nu.out Nw.out Na.out _) ?_; clear S; intro gz S)
   | fail)
  refine kX (n := 15) (S := fun w' => St w _ _ _ _ _ w') (ds := []) (bA 15 0) (by kernel_rfl) rfl rfl (S.out.call (bz (Below.refl _ _))) (fun hHeld => ?_); refine ik uQ.Yr uQ.Sj (fun az fZ => ?_)
  replace S := ae.mk (S.out.call (bz (Below.refl _ _)))
  generalize gz.drew = wd4 at S hHeld ⊢
  refine aJ 0 25 (bA 15 1) az ?_
  refine eQ 1 26 (bA 15 3) az fZ hHeld ?_ (hv := by intro w' hs_; have iy := (hs_.at (.head _) 1).trans rfl; have iC := (hs_.at (.head _) 2).trans rfl; have iD := (hs_.at (.head _) 3).trans rfl; have iE := (hs_.at (.head _) 4).trans rfl; go_simp; with_reducible rfl)
  refine aJ 2 27 (bA 15 7) az ?_
  refine aJ 3 28 (bA 15 15) az ?_
  refine aJ 4 29 (bA 15 31) az ?_
  refine eQ 5 30 (bA 15 63) az fZ hHeld ?_ (hv := by intro w' hs_; have qp := (hs_.at (.head _) 5).trans rfl; go_simp; with_reducible rfl)
  refine aJ 7 32 (bA 15 191) az ?_
  refine eQ 8 33 (bA 15 447) az fZ hHeld ?_ (hv := by intro w' hs_; have iy := (hs_.at (.head _) 1).trans rfl; have iC := (hs_.at (.head _) 2).trans rfl; have iD := (hs_.at (.head _) 3).trans rfl; have iE := (hs_.at (.head _) 4).trans rfl; go_simp; with_reducible rfl)
  refine aJ 9 34 (bA 15 959) az ?_
  refine aJ 10 35 (bA 15 1983) az ?_
  refine aJ 11 36 (bA 15 4031) az ?_
  refine kW 6 (some 31) (bA 15 4095) az (fun K hK => ?_)
  refine lU Try.func190 #[.agg #[.int .i64 cx, .int .i64 cy, .int .i64 cw, .int .i64 ch], .int .u8 ax, .int .i64 e1, .int .i64 aQ] ?_
  refine (Dj cx cy cw ch ax e1 aQ W1 H1 HW1.out Nh.out _).mono ?_
  rintro e mQ ⟨rfl, hb⟩
  refine ⟨_, rfl, ?_⟩
  replace S := ae.mk (S.out.call hb)
  clear hb
  refine hK.out _ _ S.out (fun hHeld => ?_)
  clear hK K
  refine fJ 31 ?_
  refine kW 12 (some 37) (bA 15 8191) az (fun K hK => ?_)
  refine lU Try.func190 #[.agg #[.int .i64 cx, .int .i64 cy, .int .i64 cw, .int .i64 ch], .int .u8 ax, .int .i64 n1, .int .i64 fresh] ?_
  refine (Dj cx cy cw ch ax n1 fresh W2 H2 HW2.out Nl.out _).mono ?_
  rintro e o6 ⟨rfl, hb⟩
  refine ⟨_, rfl, ?_⟩
  replace S := ae.mk (S.out.call hb)
  clear hb
  refine hK.out _ _ S.out (fun hHeld => ?_)
  clear hK K
  refine fJ 37 ?_
  refine kW 13 (some 38) (bA 15 16383) az (fun K hK => ?_)
  refine Y0 (N := 38) (by rfl) rfl ⟨1, ⟨cx, cy, W1, H1⟩, aQ, []⟩ ⟨1, ⟨cx, cy, W2, H2⟩, fresh, []⟩ S.out (Kd.rX k26 26 _ 0 _) (Kd.rX k26 26 _ 0 _) ?hr ?_
  case hr => first | (go_simp; done) | (go_simp; rfl)
  intro gq cq uy S1
  replace S := ae.mk S1
  clear S1
  refine hK.out _ _ S.out.free.dC (fun hHeld => ?_)
  clear hK K
  refine fJ 38 ?_
  refine aJ 14 14 (bA 15 32767) az ?_
  refine nz (jK az.out (by kernel_rfl)) ?_
  clear hHeld
  go_wp2_with (first
   | (refine nG (some 41) Try.func191 (ae9 _ _ S.out) ?_; rintro e xe ⟨rfl, S1⟩; refine ⟨_, rfl, ?_⟩; replace S := ae.mk S1; clear S1)
   | fail)
  go_ret
  exact ⟨_, _, rfl, S.out.yY, S.out.below⟩
def xJ (id : Int) (c : ai) : Option ai := (jy c).find? fun x => decide (x.f2 = id)
def EH (id : Int) (l : List ai) : Option ai := ((allL l).filter fun x => decide (x.f0 = 1)).find? fun x => decide (x.f2 = id)
theorem Ye (id : Int) : EH id [] = none := by unfold EH; rw [lh]; rfl
theorem Wj (id : Int) (k : ai) (ks : List ai) : EH id (k :: ks) = (xJ id k).or (EH id ks) := by
 unfold EH xJ jy
 rw [iK, List.filter_append, List.find?_append]
theorem abC (id : Int) (c : ai) : xJ id c = if c.f0 = 1 ∧ c.f2 = id then some c else EH id c.f3 := by
 unfold xJ EH jy
 rw [lC, List.filter_cons]
 by_cases h0 : c.f0 = 1
 ·rw [if_pos (decide_eq_true h0), List.find?_cons]
  by_cases h1 : c.f2 = id
  ·rw [if_pos ⟨h0, h1⟩, decide_eq_true h1]
  ·rw [if_neg (fun h => h1 h.2), decide_eq_false h1]
 ·rw [if_neg (by simpa using h0), if_neg (fun h => h0 h.1)]
theorem PE (id : Int) : ∀ (N : Nat) (c : ai), sz c ≤ N → xJ id c = match dQ id c with
 | some p => jT c p
 | none => none := by
 intro N
 induction N with
 | zero => intro c h; rw [bP] at h; omega
 | succ N ih =>
  intro c hc
  have hcs := bP c
  rw [abC, qY]
  by_cases h : c.f0 = 1 ∧ c.f2 = id
  ·rw [if_pos h, if_pos h]; rfl
  ·rw [if_neg h, if_neg h]
   have key : ∀ (l pre : List ai), pre ++ l = c.f3 → EH id l = match oZ id pre.length l with
    | some p => jT c p
    | none => none := by
    intro l
    induction l with
    | nil => intro pre _; rw [Ye, ou]
    | cons k ks ihl =>
     intro pre hp
     have O3 : k ∈ c.f3 := by rw [← hp]; simp
     have hks : sz k ≤ N := by have := yF O3; omega
     rw [Wj, nX, ih k hks]
     cases hk : dQ id k with
     | some q =>
      simp only []
      have e : jT c (((pre.length : Nat) : Int) :: q) = jT k q := by
       have hl : pre.length < c.f3.length := by rw [← hp]; simp
       simp only [jT]
       rw [if_neg (by omega), IM, ← hp, YY]
      rw [e]
      obtain ⟨z, hz, _⟩ := (xn id _).1 k (Nat.le_refl _) q hk
      rw [hz]
      rfl
     | none =>
      simp only []
      have h2 := ihl (pre ++ [k]) (by rw [List.append_assoc]; exact hp)
      rw [List.length_append, List.length_singleton] at h2
      rw [Option.none_or, h2]
   exact key c.f3 [] rfl
theorem Ha {id : Int} {c : ai} {p : List Int} {leaf : ai} (h : dQ id c = some p) (h2 : jT c p = some leaf) : xJ id c = some leaf := by rw [PE id _ c (Nat.le_refl _), h]; exact h2
theorem G_ {id : Int} {c : ai} (h : dQ id c = none) : xJ id c = none := by rw [PE id _ c (Nat.le_refl _), h]
abbrev WY (w : World) (P : Nat → Prop) : Option ai → Ending → World → Prop
 | none, e, w' => e = .returned (.tuple #[.agg #[.int .u8 0, .int .i64 0, .int .i64 0, .int .i64 0, .int .i64 0, .int .i64 0, .slice none 0 0], .bool false]) ∧ Below w.heap.size w w'
 | some z, e, w' => ∃ A c, e = .returned (.tuple #[.agg #[.int .u8 z.f0, .int .i64 z.f1.f0, .int .i64 z.f1.f1, .int .i64 z.f1.f2, .int .i64 z.f1.f3, .int .i64 z.f2, .slice A z.f3.length c], .bool true]) ∧ Kd.V k26 26 w' w.heap.size (fun k => P k ∨ w.heap.size ≤ k) (.slice A z.f3.length c) z.f3 ∧ Below w.heap.size w w'
theorem Tm {c : ai} {L : List ai} {P : Nat → Prop} {A : Option Addr} {cc : Nat} {W : World} (h : jy c = L) (hz : sz c ≤ 1048576) (hV : Kd.V k26 26 W W.heap.size P (.slice A c.f3.length cc) c.f3) :
  Calls Try.prog 126 #[.agg #[.int .u8 c.f0, .int .i64 c.f1.f0, .int .i64 c.f1.f1, .int .i64 c.f1.f2, .int .i64 c.f1.f3, .int .i64 c.f2, .slice A c.f3.length cc]] W fun e w' => ∃ A' c', e = .returned (.slice A' L.length c') ∧ Kd.N k26 26 w' W.heap.size (fun k => P k ∨ W.heap.size ≤ k) (.slice A' L.length c') L ∧ Below W.heap.size W w' := by
 obtain ⟨k, hk⟩ := (LC c hz).rounds
 rw [h] at hk
 exact (dN.calls k _ _ _ _ _ _ P A cc c.f3 L W hV hk).mono (fun e w' ⟨v, he, hN, hB⟩ => by
  obtain ⟨A', c', rfl⟩ := Kd.jJ hN
  exact ⟨A', c', he, hN, hB⟩)
theorem xm (id : Int) (c : ai) (hz : sz c ≤ 1048576) (P : Nat → Prop) (A : Option Addr) (cc : Nat) (w : World) (hv : Kd.V k26 26 w w.heap.size P (.slice A c.f3.length cc) c.f3) :
  Calls Try.prog 122 #[.agg #[.int .u8 c.f0, .int .i64 c.f1.f0, .int .i64 c.f1.f1, .int .i64 c.f1.f2, .int .i64 c.f1.f3, .int .i64 c.f2, .slice A c.f3.length cc], .int .i64 id] w (WY w P (xJ id c)) := by
 have S := ae.mk (St.start (ts := [(.slice A c.f3.length cc, c.f3)]) (b0 := w.heap.size) (w := w) (P := P) (fun t ht => by rw [List.mem_singleton.1 ht]; exact hv))
 obtain ⟨L, hL⟩ : ∃ L, jy c = L := ⟨_, rfl⟩
 have hll := Tn c
 unfold xJ
 rw [hL] at hll ⊢
 obtain ⟨R, hR⟩ : ∃ r, (L.find? fun x => decide (x.f2 = id)) = r := ⟨_, rfl⟩
 rw [hR]
 have HZ := ae.mk hz
 have HLV := ae.mk hL
 have kF := ae.mk (show L.length ≤ 1048576 by omega)
 have HR := ae.mk (show ((L.drop 0).find? fun x => decide (x.f2 = id)) = R from hR)
 clear hz hv hL hll hR
 obtain ⟨ck, ⟨cx, cy, cw, ch⟩, aQ, l⟩ := c
 simp only [] at S ⊢
 go_enter Try.func122, Try.ntmps122
 go_wp2_with (first
  | (refine boxS 2 _ 26 S ?_; clear S; intro b2 eU S)
  | (refine boxS 4 _ 26 S ?_; clear S; intro b4 fV S; obtain ⟨qR, qU, qV, qW, tY, zo, tZ⟩ := St.dS S bf)
  | (refine qw (some 9) Try.func126 S (Tm (c := ⟨ck, ⟨cx, cy, cw, ch⟩, aQ, l⟩) HLV.out HZ.out (dX (S.out.tree _ (.head _)))) ?_; clear S; intro Al cl gz S; clear qR qU qV qW tY zo tZ)
  | fail)
 go_loopg [12] L.length (fun gg v12 wr => ∃ n : Nat, v12 = .int .i64 (n : Int) ∧ ae (n ≤ L.length) ∧ L.length - n ≤ gg ∧ ae (((L.drop n).find? fun x => decide (x.f2 = id)) = R) ∧ ae (St w P [(some b4, .cells #[.int .u8 0, .int .i64 0, .int .i64 0, .int .i64 0, .int .i64 0, .int .i64 0, .slice none 0 0] 26 (0, 0)), (some b2, .cells #[.int .u8 ck, .int .i64 cx, .int .i64 cy, .int .i64 cw, .int .i64 ch, .int .i64 aQ, .slice A l.length cc] 26 (0, 0))] [] [(.slice Al L.length cl, L), (.slice A l.length cc, l)] [] wr))
 case atStart => exact ⟨0, rfl, ⟨Nat.zero_le _⟩, Nat.le_refl _, HR, S⟩
 case round =>
  clear S HR
  obtain ⟨n, rfl, HN, hgg, HR, S⟩ := hrel
  by_cases hlt : n < L.length
  case pos =>
   have HIX := ae.mk hlt
   have hlz : (n : Int) < (L.length : Int) := by omega
   have kY := ae.mk hgg
   have hw : wrap64 ((n : Int) + 1) = ((n + 1 : Nat) : Int) := by have := kF.out; unfold wrap64; omega
   have HW := ae.mk hw
   have hdr : L.drop n = kd L n :: L.drop (n + 1) := by
    rw [List.drop_eq_getElem_cons hlt]
    unfold kd
    rw [List.getD_eq_getElem?_getD, List.getElem?_eq_getElem hlt, Option.getD_some]
   have hr := HR.out
   rw [hdr, List.find?_cons] at hr
   obtain ⟨lu, ua, uc, ek, S1⟩ := S.out.elem (.head _) (n : Int) (Int.natCast_nonneg _) hlz
   subst ek
   rw [IM] at S1
   simp only [Int.toNat_natCast] at S1
   generalize kd L n = k at S1 hr
   replace S := ae.mk S1
   clear S1 hw hgg hdr
   by_cases hid : k.f2 = id
   case pos =>
    rw [decide_eq_true hid] at hr
    simp only [] at hr
    subst hr
    obtain ⟨ahY, ahZ, ah0⟩ := vN (a := k.f2) (b := id) (by omega)
    clear hid HR
    obtain ⟨jZ, ku, kz, jE, jF, kG, lJ⟩ := St.Dv S
    go_wp2_with (first
     | (refine fC 26 4 25 #[.int .u8 k.f0, .int .i64 k.f1.f0, .int .i64 k.f1.f1, .int .i64 k.f1.f2, .int .i64 k.f1.f3, .int .i64 k.f2, .slice ua k.f3.length uc] 0 7 S ?_; clear S; intro eU S; clear jZ ku kz jE jF kG lJ)
     | fail)
    refine bodyPost_ret (dY rfl _ _ b4 26 _ (0, 0) _ rfl (S.out.blk _ (.head _) _ rfl) Try.underlying26 rfl (by kernel_rfl)) rfl ?_
    exact ⟨_, _, rfl, S.out.GY (b0 := w.heap.size) (.head _), S.out.below⟩
   case neg =>
    rw [decide_eq_false hid] at hr
    simp only [] at hr
    have HR2 := ae.mk hr
    obtain ⟨ahY, ahZ, ah0⟩ := eqF (a := k.f2) (b := id) (by omega)
    clear hid hr HR
    have kG := (S.out.cell _ zh).1
    go_wp2
    clear kG
    have hw := HW.out
    go_wp2
    go_roundg (L.length - (n + 1))
    case measure => have := kY.out; have := HIX.out; omega
    case rel => exact ⟨n + 1, (by rw [hw]), ⟨HIX.out⟩, Nat.le_refl _, HR2, ⟨S.out.dC.aU.aU.aU.aU.aU.aU.aU⟩⟩
  case neg =>
   have hlz : ¬ ((n : Int) < (L.length : Int)) := by omega
   have hr := HR.out
   rw [List.drop_eq_nil_of_le (by omega)] at hr
   have hr : none = R := hr
   subst hr
   clear hlt hgg
   go_wp2_with (first
    | (refine fC 26 4 27 #[.int .u8 0, .int .i64 0, .int .i64 0, .int .i64 0, .int .i64 0, .int .i64 0, .slice none 0 0] 0 7 S ?_; clear S; intro eU S)
    | fail)
   refine bodyPost_ret (dY rfl _ _ b4 26 _ (0, 0) _ rfl (S.out.blk _ (.head _) _ rfl) Try.underlying26 rfl (by kernel_rfl)) rfl ?_
   exact ⟨rfl, S.out.below⟩
theorem zJ {r : dK} {ax v : Int} {args : Array Value} {W : World} (h : aK ax r = v) (hc : Calls Try.prog 87 args W fun e w' => e = .returned (.int .i64 (aK ax r)) ∧ Below W.heap.size W w') : Calls Try.prog 87 args W fun e w' => e = .returned (.int .i64 v) ∧ Below W.heap.size W w' := by
 rw [h] at hc
 exact hc
theorem Dk {s size e n : Int} {ok : Bool} (hs : I64 s) (hz : I64 size) (h : tV s size = (e, n, ok)) (W : World) : Calls Try.prog 105 #[.int .i64 s, .int .i64 size] W fun e' w' => e' = .returned (.tuple #[.int .i64 e, .int .i64 n, .bool ok]) ∧ Below W.heap.size W w' := by
 obtain ⟨k, hk⟩ := (P9 s size hs hz).rounds
 rw [h] at hk
 exact (bD.calls k s size e n ok W hk).mono (fun _ _ ⟨he, hd⟩ => ⟨he, hd.below⟩)
theorem Qx (leaf : ai) (ax size fresh : Int) (ahead : Bool) (hs : -1000000 ≤ aK ax leaf.f1 ∧ aK ax leaf.f1 ≤ 1000000) (hz : I64 size) (P : Nat → Prop) (A : Option Addr) (cc : Nat) (w : World) (hv : Kd.V k26 26 w w.heap.size P (.slice A leaf.f3.length cc) leaf.f3) :
  Calls Try.prog 169 #[.agg #[.int .u8 leaf.f0, .int .i64 leaf.f1.f0, .int .i64 leaf.f1.f1, .int .i64 leaf.f1.f2, .int .i64 leaf.f1.f3, .int .i64 leaf.f2, .slice A leaf.f3.length cc], .int .u8 ax, .int .i64 size, .int .i64 fresh, .bool ahead] w (R_ w P (w_ ax size fresh ahead leaf)) := by
 have S := ae.mk (St.start (ts := [(.slice A leaf.f3.length cc, leaf.f3)]) (b0 := w.heap.size) (w := w) (P := P) (fun t ht => by rw [List.mem_singleton.1 ht]; exact hv))
 obtain ⟨ck, ⟨cx, cy, cw, ch⟩, aQ, l⟩ := leaf
 simp only [] at S hs ⊢
 unfold w_
 obtain ⟨sv, hsv⟩ : ∃ s, aK ax ⟨cx, cy, cw, ch⟩ = s := ⟨_, rfl⟩
 simp only [hsv] at hs ⊢
 obtain ⟨⟨e1, n1, ok⟩, hbs⟩ : ∃ r, tV sv size = r := ⟨_, rfl⟩
 simp only [hbs]
 have Bv := ae.mk hsv
 have Nu := ae.mk (show I64 sv by unfold I64; omega)
 have Nw := ae.mk hz
 have Na := ae.mk hbs
 unfold AA
 obtain ⟨W1, hw1⟩ : ∃ x, x = if ax = 1 then e1 else cw := ⟨_, rfl⟩
 obtain ⟨H1, hh1⟩ : ∃ x, x = if ax = 1 then ch else e1 := ⟨_, rfl⟩
 obtain ⟨W2, hw2⟩ : ∃ x, x = if ax = 1 then n1 else cw := ⟨_, rfl⟩
 obtain ⟨H2, hh2⟩ : ∃ x, x = if ax = 1 then ch else n1 := ⟨_, rfl⟩
 simp only [← hw1, ← hh1, ← hw2, ← hh2]
 have HW1 := ae.mk hw1
 have Nh := ae.mk hh1
 have HW2 := ae.mk hw2
 have Nl := ae.mk hh2
 clear hv hs hz hsv hbs hw1 hh1 hw2 hh2
 by_cases hx : ax = 1
 case pos =>
  have h1 := HW1.out
  have h2 := Nh.out
  have h3 := HW2.out
  have h4 := Nl.out
  rw [if_pos hx] at h1 h2 h3 h4
  rw [h1, h2, h3, h4]
  clear h1 h2 h3 h4
  obtain ⟨hxa, hxb, hxd⟩ := vN (a := ax) (b := 1) (by omega)
  clear hx HW1 Nh HW2 Nl
  cases ahead with
  | false =>
   simp only [Bool.false_eq_true, if_false]
   go_enter Try.func169, Try.ntmps169
   go_wp2_with (first
    | (refine boxS 5 _ 26 S ?_; clear S; intro b5 eU S; have iy := (S.out.at (.head _) 1).trans rfl; have iC := (S.out.at (.head _) 2).trans rfl; have iD := (S.out.at (.head _) 3).trans rfl; have iE := (S.out.at (.head _) 4).trans rfl)
    | (refine bI (some 20) Try.func87 S (zJ Bv.out (zI ⟨cx, cy, cw, ch⟩ ax)) ?_; clear S; intro fV S; clear iy iC iD iE)
    | (refine bI (some 22) Try.func105 S (Dk Nu.out Nw.out Na.out _) ?_; clear S; intro gz S; have iy := (S.out.at (.head _) 1).trans rfl; have iC := (S.out.at (.head _) 2).trans rfl; have iD := (S.out.at (.head _) 3).trans rfl; have iE := (S.out.at (.head _) 4).trans rfl; have qp := (S.out.at (.head _) 5).trans rfl)
    | (refine boxS 14 _ 26 S ?_; clear S; intro b14 lI S; clear iy iC iD iE qp)
    | (refine fC 26 14 30 #[.int .u8 1, .int .i64 cx, .int .i64 cy, .int .i64 cw, .int .i64 ch, .int .i64 aQ, .slice none 0 0] 0 7 S ?_; clear S; intro mQ S; have iy := (S.out.at bf 1).trans rfl; have iC := (S.out.at bf 2).trans rfl; have iD := (S.out.at bf 3).trans rfl; have iE := (S.out.at bf 4).trans rfl)
    | (refine boxS 15 _ 26 S ?_; clear S; intro b15 o6 S; clear iy iC iD iE)
    | (refine fC 26 15 34 #[.int .u8 1, .int .i64 cx, .int .i64 cy, .int .i64 cw, .int .i64 ch, .int .i64 fresh, .slice none 0 0] 0 7 S ?_; clear S; intro uy S)
    | (refine ru 3 39 37 #[.int .u8 1, .int .i64 cx, .int .i64 cy, .int .i64 e1, .int .i64 ch, .int .i64 aQ, .slice none 0 0] 3 1 S ?_; clear S; intro xe S)
    | (refine fC 3 42 40 #[.int .u8 1, .int .i64 cx, .int .i64 cy, .int .i64 n1, .int .i64 ch, .int .i64 fresh, .slice none 0 0] 3 1 S ?_; clear S; intro BU S; obtain ⟨wH, wI, wJ, wK, wL, wM, wO⟩ := St.dS S (.head _); obtain ⟨jd, je, jf, jg, jh, ji, jk⟩ := St.dS S bf)
    | ((with_reducible refine au (N := 55) rfl ?_); refine MN (N := 55) rfl rfl ⟨1, ⟨cx, cy, e1, ch⟩, aQ, []⟩ ⟨1, ⟨cx, cy, n1, ch⟩, fresh, []⟩ S.out (Kd.rX k26 26 _ 0 _) (Kd.rX k26 26 _ 0 _) ?hr ?_; (case hr => first | (go_simp; done) | (go_simp; rfl)); intro gq cq uB S1; replace S := ae.mk S1; clear S1; clear wH wI wJ wK wL wM wO jd je jf jg jh ji jk)
    | fail)
   go_ret
   exact ⟨_, _, rfl, S.out.yY, S.out.below⟩
  | true =>
   simp only [if_true]
   go_enter Try.func169, Try.ntmps169
   go_wp2_with (first
    | (refine boxS 5 _ 26 S ?_; clear S; intro b5 eU S; have iy := (S.out.at (.head _) 1).trans rfl; have iC := (S.out.at (.head _) 2).trans rfl; have iD := (S.out.at (.head _) 3).trans rfl; have iE := (S.out.at (.head _) 4).trans rfl)
    | (refine bI (some 20) Try.func87 S (zJ Bv.out (zI ⟨cx, cy, cw, ch⟩ ax)) ?_; clear S; intro fV S; clear iy iC iD iE)
    | (refine bI (some 22) Try.func105 S (Dk Nu.out Nw.out Na.out _) ?_; clear S; intro gz S; have iy := (S.out.at (.head _) 1).trans rfl; have iC := (S.out.at (.head _) 2).trans rfl; have iD := (S.out.at (.head _) 3).trans rfl; have iE := (S.out.at (.head _) 4).trans rfl; have qp := (S.out.at (.head _) 5).trans rfl)
    | (refine boxS 14 _ 26 S ?_; clear S; intro b14 lI S; clear iy iC iD iE qp)
    | (refine fC 26 14 30 #[.int .u8 1, .int .i64 cx, .int .i64 cy, .int .i64 cw, .int .i64 ch, .int .i64 aQ, .slice none 0 0] 0 7 S ?_; clear S; intro mQ S; have iy := (S.out.at bf 1).trans rfl; have iC := (S.out.at bf 2).trans rfl; have iD := (S.out.at bf 3).trans rfl; have iE := (S.out.at bf 4).trans rfl)
    | (refine boxS 15 _ 26 S ?_; clear S; intro b15 o6 S; clear iy iC iD iE)
    | (refine fC 26 15 34 #[.int .u8 1, .int .i64 cx, .int .i64 cy, .int .i64 cw, .int .i64 ch, .int .i64 fresh, .slice none 0 0] 0 7 S ?_; clear S; intro uy S)
    | (refine ru 3 39 37 #[.int .u8 1, .int .i64 cx, .int .i64 cy, .int .i64 e1, .int .i64 ch, .int .i64 aQ, .slice none 0 0] 3 1 S ?_; clear S; intro xe S)
    | (refine fC 3 42 40 #[.int .u8 1, .int .i64 cx, .int .i64 cy, .int .i64 n1, .int .i64 ch, .int .i64 fresh, .slice none 0 0] 3 1 S ?_; clear S; intro BU S; obtain ⟨wH, wI, wJ, wK, wL, wM, wO⟩ := St.dS S (.head _); obtain ⟨jd, je, jf, jg, jh, ji, jk⟩ := St.dS S bf)
    | ((with_reducible refine au (N := 52) rfl ?_); refine MN (N := 52) rfl rfl ⟨1, ⟨cx, cy, n1, ch⟩, fresh, []⟩ ⟨1, ⟨cx, cy, e1, ch⟩, aQ, []⟩ S.out (Kd.rX k26 26 _ 0 _) (Kd.rX k26 26 _ 0 _) ?hr ?_; (case hr => first | (go_simp; done) | (go_simp; rfl)); intro gq cq uB S1; replace S := ae.mk S1; clear S1; clear wH wI wJ wK wL wM wO jd je jf jg jh ji jk)
    | fail)
   go_ret
   exact ⟨_, _, rfl, S.out.yY, S.out.below⟩
 case neg =>
  have h1 := HW1.out
  have h2 := Nh.out
  have h3 := HW2.out
  have h4 := Nl.out
  rw [if_neg hx] at h1 h2 h3 h4
  rw [h1, h2, h3, h4]
  clear h1 h2 h3 h4
  obtain ⟨hxa, hxb, hxd⟩ := eqF (a := ax) (b := 1) (by omega)
  clear hx HW1 Nh HW2 Nl
  cases ahead with
  | false =>
   simp only [Bool.false_eq_true, if_false]
   go_enter Try.func169, Try.ntmps169
   go_wp2_with (first
    | (refine boxS 5 _ 26 S ?_; clear S; intro b5 eU S; have iy := (S.out.at (.head _) 1).trans rfl; have iC := (S.out.at (.head _) 2).trans rfl; have iD := (S.out.at (.head _) 3).trans rfl; have iE := (S.out.at (.head _) 4).trans rfl)
    | (refine bI (some 20) Try.func87 S (zJ Bv.out (zI ⟨cx, cy, cw, ch⟩ ax)) ?_; clear S; intro fV S; clear iy iC iD iE)
    | (refine bI (some 22) Try.func105 S (Dk Nu.out Nw.out Na.out _) ?_; clear S; intro gz S; have iy := (S.out.at (.head _) 1).trans rfl; have iC := (S.out.at (.head _) 2).trans rfl; have iD := (S.out.at (.head _) 3).trans rfl; have iE := (S.out.at (.head _) 4).trans rfl; have qp := (S.out.at (.head _) 5).trans rfl)
    | (refine boxS 14 _ 26 S ?_; clear S; intro b14 lI S; clear iy iC iD iE qp)
    | (refine fC 26 14 30 #[.int .u8 1, .int .i64 cx, .int .i64 cy, .int .i64 cw, .int .i64 ch, .int .i64 aQ, .slice none 0 0] 0 7 S ?_; clear S; intro mQ S; have iy := (S.out.at bf 1).trans rfl; have iC := (S.out.at bf 2).trans rfl; have iD := (S.out.at bf 3).trans rfl; have iE := (S.out.at bf 4).trans rfl)
    | (refine boxS 15 _ 26 S ?_; clear S; intro b15 o6 S; clear iy iC iD iE)
    | (refine fC 26 15 34 #[.int .u8 1, .int .i64 cx, .int .i64 cy, .int .i64 cw, .int .i64 ch, .int .i64 fresh, .slice none 0 0] 0 7 S ?_; clear S; intro uy S)
    | (refine ru 3 45 43 #[.int .u8 1, .int .i64 cx, .int .i64 cy, .int .i64 cw, .int .i64 e1, .int .i64 aQ, .slice none 0 0] 4 1 S ?_; clear S; intro xe S)
    | (refine fC 3 48 46 #[.int .u8 1, .int .i64 cx, .int .i64 cy, .int .i64 cw, .int .i64 n1, .int .i64 fresh, .slice none 0 0] 4 1 S ?_; clear S; intro BU S; obtain ⟨wH, wI, wJ, wK, wL, wM, wO⟩ := St.dS S (.head _); obtain ⟨jd, je, jf, jg, jh, ji, jk⟩ := St.dS S bf)
    | ((with_reducible refine au (N := 55) rfl ?_); refine MN (N := 55) rfl rfl ⟨1, ⟨cx, cy, cw, e1⟩, aQ, []⟩ ⟨1, ⟨cx, cy, cw, n1⟩, fresh, []⟩ S.out (Kd.rX k26 26 _ 0 _) (Kd.rX k26 26 _ 0 _) ?hr ?_; (case hr => first | (go_simp; done) | (go_simp; rfl)); intro gq cq uB S1; replace S := ae.mk S1; clear S1; clear wH wI wJ wK wL wM wO jd je jf jg jh ji jk)
    | fail)
   go_ret
   exact ⟨_, _, rfl, S.out.yY, S.out.below⟩
  | true =>
   simp only [if_true]
   go_enter Try.func169, Try.ntmps169
   go_wp2_with (first
    | (refine boxS 5 _ 26 S ?_; clear S; intro b5 eU S; have iy := (S.out.at (.head _) 1).trans rfl; have iC := (S.out.at (.head _) 2).trans rfl; have iD := (S.out.at (.head _) 3).trans rfl; have iE := (S.out.at (.head _) 4).trans rfl)
    | (refine bI (some 20) Try.func87 S (zJ Bv.out (zI ⟨cx, cy, cw, ch⟩ ax)) ?_; clear S; intro fV S; clear iy iC iD iE)
    | (refine bI (some 22) Try.func105 S (Dk Nu.out Nw.out Na.out _) ?_; clear S; intro gz S; have iy := (S.out.at (.head _) 1).trans rfl; have iC := (S.out.at (.head _) 2).trans rfl; have iD := (S.out.at (.head _) 3).trans rfl; have iE := (S.out.at (.head _) 4).trans rfl; have qp := (S.out.at (.head _) 5).trans rfl)
    | (refine boxS 14 _ 26 S ?_; clear S; intro b14 lI S; clear iy iC iD iE qp)
    | (refine fC 26 14 30 #[.int .u8 1, .int .i64 cx, .int .i64 cy, .int .i64 cw, .int .i64 ch, .int .i64 aQ, .slice none 0 0] 0 7 S ?_; clear S; intro mQ S; have iy := (S.out.at bf 1).trans rfl; have iC := (S.out.at bf 2).trans rfl; have iD := (S.out.at bf 3).trans rfl; have iE := (S.out.at bf 4).trans rfl)
    | (refine boxS 15 _ 26 S ?_; clear S; intro b15 o6 S; clear iy iC iD iE)
    | (refine fC 26 15 34 #[.int .u8 1, .int .i64 cx, .int .i64 cy, .int .i64 cw, .int .i64 ch, .int .i64 fresh, .slice none 0 0] 0 7 S ?_; clear S; intro uy S)
    | (refine ru 3 45 43 #[.int .u8 1, .int .i64 cx, .int .i64 cy, .int .i64 cw, .int .i64 e1, .int .i64 aQ, .slice none 0 0] 4 1 S ?_; clear S; intro xe S)
    | (refine fC 3 48 46 #[.int .u8 1, .int .i64 cx, .int .i64 cy, .int .i64 cw, .int .i64 n1, .int .i64 fresh, .slice none 0 0] 4 1 S ?_; clear S; intro BU S; obtain ⟨wH, wI, wJ, wK, wL, wM, wO⟩ := St.dS S (.head _); obtain ⟨jd, je, jf, jg, jh, ji, jk⟩ := St.dS S bf)
    | ((with_reducible refine au (N := 52) rfl ?_); refine MN (N := 52) rfl rfl ⟨1, ⟨cx, cy, cw, n1⟩, fresh, []⟩ ⟨1, ⟨cx, cy, cw, e1⟩, aQ, []⟩ S.out (Kd.rX k26 26 _ 0 _) (Kd.rX k26 26 _ 0 _) ?hr ?_; (case hr => first | (go_simp; done) | (go_simp; rfl)); intro gq cq uB S1; replace S := ae.mk S1; clear S1; clear wH wI wJ wK wL wM wO jd je jf jg jh ji jk)
    | fail)
   go_ret
   exact ⟨_, _, rfl, S.out.yY, S.out.below⟩
def vY.T12 : Bool × List (List Nat × List Nat) := (true, [([], []), ([], []), ([], []), ([], []), ([], []), ([], []), ([], []), ([], []), ([3, 4, 5, 6, 7], [3, 4, 5, 6, 7]), ([0, 1, 2, 8, 8], [0, 1, 2, 8]), ([], []), ([10, 9, 9, 0, 1, 2, 3, 4, 5, 6, 7, 8, 9, 10], [9, 10])])
def vY.B12 : List Nat := [0, 0, 0, 0, 0, 0, 0, 0, 248, 511, 0, 2047]
theorem vY.agN : iY .any (opsOf Try.f121 12) = vY.T12 := by kernel_rfl
theorem vY.ac1 : jA vY.T12.2 vY.B12 = true := by kernel_rfl
theorem vF {id : Int} {c : ai} {R : Option ai} {P : Nat → Prop} {args : Array Value} {W : World} (h : xJ id c = R) (hc : Calls Try.prog 122 args W (WY W P (xJ id c))) : Calls Try.prog 122 args W (WY W P R) := by
 rw [h] at hc
 exact hc
theorem FQ {f : FuncId} {L M : List ai} {P : Nat → Prop} {args : Array Value} {W : World} (h : M = L) (hc : Calls Try.prog f args W (R_ W P M)) : Calls Try.prog f args W (R_ W P L) := by
 rw [h] at hc
 exact hc
theorem O6 {f : FuncId} {z y : ai} {P : Nat → Prop} {args : Array Value} {W : World} (h : y = z) (hc : Calls Try.prog f args W (Ur W P y)) : Calls Try.prog f args W (Ur W P z) := by
 rw [h] at hc
 exact hc
theorem UM {W : World} {b : Nat} {P : Nat → Prop} {A : Option Addr} {cc : Nat} (c : ai) (hz : sz c ≤ 1048576) (hV : Kd.V k26 26 W b P (.slice A c.f3.length cc) c.f3) :
  Calls Try.prog 79 #[.agg #[.int .u8 c.f0, .int .i64 c.f1.f0, .int .i64 c.f1.f1, .int .i64 c.f1.f2, .int .i64 c.f1.f3, .int .i64 c.f2, .slice A c.f3.length cc]] W fun e w' => ∃ A' c', e = .returned (.slice A' (sz c) c') ∧ Below W.heap.size W w' := (N7 c hz hV).mono (fun _ _ ⟨A', c', he, _, hB⟩ => ⟨A', c', he, hB⟩)
theorem Lu {ax : Int} {c leaf : ai} {p : List Int} (hax : ax = 1 ∨ ax = 2) (ht : dF c = true) (h : jT c p = some leaf) : 1 ≤ aK ax leaf.f1 ∧ aK ax leaf.f1 ≤ 10000 := by
 have := Pure.oz hax (Xg p c leaf ht h)
 omega
theorem Wq (c : ai) (hz : sz c ≤ 1000) (id ax size fresh : Int) (ahead : Bool) (O5 : I64 size) (P : Nat → Prop) (A : Option Addr) (cc : Nat) (w : World) (hv : Kd.V k26 26 w w.heap.size P (.slice A c.f3.length cc) c.f3) :
  Calls Try.prog 121 #[.agg #[.int .u8 c.f0, .int .i64 c.f1.f0, .int .i64 c.f1.f1, .int .i64 c.f1.f2, .int .i64 c.f1.f3, .int .i64 c.f2, .slice A c.f3.length cc], .int .i64 id, .int .u8 ax, .int .i64 size, .int .i64 fresh, .bool ahead] w (MH w P (Dl id ax size fresh ahead c) (iq id ax size fresh c)) := by
 have S := ae.mk (St.start (ts := [(.slice A c.f3.length cc, c.f3)]) (b0 := w.heap.size) (w := w) (P := P) (fun t ht => by rw [List.mem_singleton.1 ht]; exact hv))
 have mG := ae.mk (show sz c ≤ 1048576 by omega)
 have HZ5 := ae.mk (show sz c ≤ 100000 by omega)
 have HZ1 := ae.mk hz
 have KY := ae.mk O5
 clear hv hz O5
 cases ht : dF c with
 | false =>
  have hN : iq id ax size fresh c = 1 := by unfold iq; rw [if_pos (.inl ht)]
  rw [jR hN (by decide), hN]
  clear hN
  have HT := ae.mk ht
  clear ht
  obtain ⟨ck, ⟨cx, cy, cw, ch⟩, aQ, l⟩ := c
  simp only [] at S ⊢
  go_enter Try.func121, Try.ntmps121
  go_wp2_with (first
   | (refine boxS 6 _ 26 S ?_; clear S; intro b6 eU S)
   | (refine boxS 12 _ 26 S ?_; clear S; intro b12 fV S)
   | (refine boxS 14 _ 26 S ?_; clear S; intro b14 gz S)
   | (refine fC 26 14 20 #[.int .u8 0, .int .i64 0, .int .i64 0, .int .i64 0, .int .i64 0, .int .i64 0, .slice none 0 0] 0 7 S ?_; clear S; intro lI S; obtain ⟨bW, bK, bM, bY, bZ, b_, cO⟩ := St.dS S eF)
   | (refine bI (some 22) Try.func84 S (jL HT.out (qc ⟨ck, ⟨cx, cy, cw, ch⟩, aQ, l⟩ mG.out (S.out.tree _ (.head _)))) ?_; clear S; intro mQ S; clear bW bK bM bY bZ b_ cO; obtain ⟨jd, je, jf, jg, jh, ji, jk⟩ := St.dS S (.head _))
   | (refine ru 26 12 44 #[.int .u8 0, .int .i64 0, .int .i64 0, .int .i64 0, .int .i64 0, .int .i64 0, .slice none 0 0] 0 7 S ?_; clear S; intro o6 S; clear jd je jf jg jh ji jk)
   | fail)
  refine bodyPost_ret (dY rfl _ _ b12 26 _ (0, 0) _ rfl (S.out.blk _ bf _ rfl) Try.underlying26 rfl (by kernel_rfl)) rfl ?_
  exact ⟨_, _, rfl, Kd.ni _ _ _ _ _, S.out.below⟩
 | true =>
  by_cases h1 : ax < 1
  case pos =>
   have hN : iq id ax size fresh c = 1 := by unfold iq; rw [if_pos (.inr (.inl (by omega)))]
   rw [jR hN (by decide), hN]
   clear hN
   have HT := ae.mk ht
   obtain ⟨hxa, hxb⟩ := o5 (a := ax) (b := 1) (by omega)
   clear ht h1
   obtain ⟨ck, ⟨cx, cy, cw, ch⟩, aQ, l⟩ := c
   simp only [] at S ⊢
   go_enter Try.func121, Try.ntmps121
   go_wp2_with (first
    | (refine boxS 6 _ 26 S ?_; clear S; intro b6 eU S)
    | (refine boxS 12 _ 26 S ?_; clear S; intro b12 fV S)
    | (refine boxS 14 _ 26 S ?_; clear S; intro b14 gz S)
    | (refine fC 26 14 20 #[.int .u8 0, .int .i64 0, .int .i64 0, .int .i64 0, .int .i64 0, .int .i64 0, .slice none 0 0] 0 7 S ?_; clear S; intro lI S; obtain ⟨bW, bK, bM, bY, bZ, b_, cO⟩ := St.dS S eF)
    | (refine bI (some 22) Try.func84 S (jL HT.out (qc ⟨ck, ⟨cx, cy, cw, ch⟩, aQ, l⟩ mG.out (S.out.tree _ (.head _)))) ?_; clear S; intro mQ S; clear bW bK bM bY bZ b_ cO; obtain ⟨jd, je, jf, jg, jh, ji, jk⟩ := St.dS S (.head _))
    | (refine ru 26 12 44 #[.int .u8 0, .int .i64 0, .int .i64 0, .int .i64 0, .int .i64 0, .int .i64 0, .slice none 0 0] 0 7 S ?_; clear S; intro o6 S; clear jd je jf jg jh ji jk)
    | fail)
   refine bodyPost_ret (dY rfl _ _ b12 26 _ (0, 0) _ rfl (S.out.blk _ bf _ rfl) Try.underlying26 rfl (by kernel_rfl)) rfl ?_
   exact ⟨_, _, rfl, Kd.ni _ _ _ _ _, S.out.below⟩
  case neg =>
   by_cases h2 : 2 < ax
   case pos =>
    have hN : iq id ax size fresh c = 1 := by unfold iq; rw [if_pos (.inr (.inl (by omega)))]
    rw [jR hN (by decide), hN]
    clear hN
    have HT := ae.mk ht
    obtain ⟨hxa, hxb⟩ := gU (a := ax) (b := 1) (by omega)
    obtain ⟨hya, hyb⟩ := o5 (a := 2) (b := ax) (by omega)
    clear ht h1 h2
    obtain ⟨ck, ⟨cx, cy, cw, ch⟩, aQ, l⟩ := c
    simp only [] at S ⊢
    go_enter Try.func121, Try.ntmps121
    go_wp2_with (first
     | (refine boxS 6 _ 26 S ?_; clear S; intro b6 eU S)
     | (refine boxS 12 _ 26 S ?_; clear S; intro b12 fV S)
     | (refine boxS 14 _ 26 S ?_; clear S; intro b14 gz S)
     | (refine fC 26 14 20 #[.int .u8 0, .int .i64 0, .int .i64 0, .int .i64 0, .int .i64 0, .int .i64 0, .slice none 0 0] 0 7 S ?_; clear S; intro lI S; obtain ⟨bW, bK, bM, bY, bZ, b_, cO⟩ := St.dS S eF)
     | (refine bI (some 22) Try.func84 S (jL HT.out (qc ⟨ck, ⟨cx, cy, cw, ch⟩, aQ, l⟩ mG.out (S.out.tree _ (.head _)))) ?_; clear S; intro mQ S; clear bW bK bM bY bZ b_ cO; obtain ⟨jd, je, jf, jg, jh, ji, jk⟩ := St.dS S (.head _))
     | (refine ru 26 12 44 #[.int .u8 0, .int .i64 0, .int .i64 0, .int .i64 0, .int .i64 0, .int .i64 0, .slice none 0 0] 0 7 S ?_; clear S; intro o6 S; clear jd je jf jg jh ji jk)
     | fail)
    refine bodyPost_ret (dY rfl _ _ b12 26 _ (0, 0) _ rfl (S.out.blk _ bf _ rfl) Try.underlying26 rfl (by kernel_rfl)) rfl ?_
    exact ⟨_, _, rfl, Kd.ni _ _ _ _ _, S.out.below⟩
   case neg =>
    by_cases h3 : size < 0
    case pos =>
     have hN : iq id ax size fresh c = 1 := by unfold iq; rw [if_pos (.inr (.inr (.inl (by omega))))]
     rw [jR hN (by decide), hN]
     clear hN
     have HT := ae.mk ht
     obtain ⟨hxa, hxb⟩ := gU (a := ax) (b := 1) (by omega)
     obtain ⟨hya, hyb⟩ := gU (a := 2) (b := ax) (by omega)
     obtain ⟨hsa, hsb⟩ := o5 (a := size) (b := 0) (by omega)
     clear ht h1 h2 h3
     obtain ⟨ck, ⟨cx, cy, cw, ch⟩, aQ, l⟩ := c
     simp only [] at S ⊢
     go_enter Try.func121, Try.ntmps121
     go_wp2_with (first
      | (refine boxS 6 _ 26 S ?_; clear S; intro b6 eU S)
      | (refine boxS 12 _ 26 S ?_; clear S; intro b12 fV S)
      | (refine boxS 14 _ 26 S ?_; clear S; intro b14 gz S)
      | (refine fC 26 14 20 #[.int .u8 0, .int .i64 0, .int .i64 0, .int .i64 0, .int .i64 0, .int .i64 0, .slice none 0 0] 0 7 S ?_; clear S; intro lI S; obtain ⟨bW, bK, bM, bY, bZ, b_, cO⟩ := St.dS S eF)
      | (refine bI (some 22) Try.func84 S (jL HT.out (qc ⟨ck, ⟨cx, cy, cw, ch⟩, aQ, l⟩ mG.out (S.out.tree _ (.head _)))) ?_; clear S; intro mQ S; clear bW bK bM bY bZ b_ cO; obtain ⟨jd, je, jf, jg, jh, ji, jk⟩ := St.dS S (.head _))
      | (refine ru 26 12 44 #[.int .u8 0, .int .i64 0, .int .i64 0, .int .i64 0, .int .i64 0, .int .i64 0, .slice none 0 0] 0 7 S ?_; clear S; intro o6 S; clear jd je jf jg jh ji jk)
      | fail)
     refine bodyPost_ret (dY rfl _ _ b12 26 _ (0, 0) _ rfl (S.out.blk _ bf _ rfl) Try.underlying26 rfl (by kernel_rfl)) rfl ?_
     exact ⟨_, _, rfl, Kd.ni _ _ _ _ _, S.out.below⟩
    case neg =>
     by_cases h4 : fresh < 0
     case pos =>
      have hN : iq id ax size fresh c = 1 := by unfold iq; rw [if_pos (.inr (.inr (.inr (.inl (by omega)))))]
      rw [jR hN (by decide), hN]
      clear hN
      have HT := ae.mk ht
      obtain ⟨hxa, hxb⟩ := gU (a := ax) (b := 1) (by omega)
      obtain ⟨hya, hyb⟩ := gU (a := 2) (b := ax) (by omega)
      obtain ⟨hsa, hsb⟩ := gU (a := size) (b := 0) (by omega)
      obtain ⟨hfa, hfb⟩ := o5 (a := fresh) (b := 0) (by omega)
      clear ht h1 h2 h3 h4
      obtain ⟨ck, ⟨cx, cy, cw, ch⟩, aQ, l⟩ := c
      simp only [] at S ⊢
      go_enter Try.func121, Try.ntmps121
      go_wp2_with (first
       | (refine boxS 6 _ 26 S ?_; clear S; intro b6 eU S)
       | (refine boxS 12 _ 26 S ?_; clear S; intro b12 fV S)
       | (refine boxS 14 _ 26 S ?_; clear S; intro b14 gz S)
       | (refine fC 26 14 20 #[.int .u8 0, .int .i64 0, .int .i64 0, .int .i64 0, .int .i64 0, .int .i64 0, .slice none 0 0] 0 7 S ?_; clear S; intro lI S; obtain ⟨bW, bK, bM, bY, bZ, b_, cO⟩ := St.dS S eF)
       | (refine bI (some 22) Try.func84 S (jL HT.out (qc ⟨ck, ⟨cx, cy, cw, ch⟩, aQ, l⟩ mG.out (S.out.tree _ (.head _)))) ?_; clear S; intro mQ S; clear bW bK bM bY bZ b_ cO; obtain ⟨jd, je, jf, jg, jh, ji, jk⟩ := St.dS S (.head _))
       | (refine ru 26 12 44 #[.int .u8 0, .int .i64 0, .int .i64 0, .int .i64 0, .int .i64 0, .int .i64 0, .slice none 0 0] 0 7 S ?_; clear S; intro o6 S; clear jd je jf jg jh ji jk)
       | fail)
      refine bodyPost_ret (dY rfl _ _ b12 26 _ (0, 0) _ rfl (S.out.blk _ bf _ rfl) Try.underlying26 rfl (by kernel_rfl)) rfl ?_
      exact ⟨_, _, rfl, Kd.ni _ _ _ _ _, S.out.below⟩
     case neg =>
      by_cases h5 : 2147483647 < fresh
      case pos =>
       have hN : iq id ax size fresh c = 1 := by unfold iq; rw [if_pos (.inr (.inr (.inr (.inr (.inl (by omega))))))]
       rw [jR hN (by decide), hN]
       clear hN
       have HT := ae.mk ht
       obtain ⟨hxa, hxb⟩ := gU (a := ax) (b := 1) (by omega)
       obtain ⟨hya, hyb⟩ := gU (a := 2) (b := ax) (by omega)
       obtain ⟨hsa, hsb⟩ := gU (a := size) (b := 0) (by omega)
       obtain ⟨hfa, hfb⟩ := gU (a := fresh) (b := 0) (by omega)
       obtain ⟨hga, hgb⟩ := o5 (a := 2147483647) (b := fresh) (by omega)
       clear ht h1 h2 h3 h4 h5
       obtain ⟨ck, ⟨cx, cy, cw, ch⟩, aQ, l⟩ := c
       simp only [] at S ⊢
       go_enter Try.func121, Try.ntmps121
       go_wp2_with (first
        | (refine boxS 6 _ 26 S ?_; clear S; intro b6 eU S)
        | (refine boxS 12 _ 26 S ?_; clear S; intro b12 fV S)
        | (refine boxS 14 _ 26 S ?_; clear S; intro b14 gz S)
        | (refine fC 26 14 20 #[.int .u8 0, .int .i64 0, .int .i64 0, .int .i64 0, .int .i64 0, .int .i64 0, .slice none 0 0] 0 7 S ?_; clear S; intro lI S; obtain ⟨bW, bK, bM, bY, bZ, b_, cO⟩ := St.dS S eF)
        | (refine bI (some 22) Try.func84 S (jL HT.out (qc ⟨ck, ⟨cx, cy, cw, ch⟩, aQ, l⟩ mG.out (S.out.tree _ (.head _)))) ?_; clear S; intro mQ S; clear bW bK bM bY bZ b_ cO; obtain ⟨jd, je, jf, jg, jh, ji, jk⟩ := St.dS S (.head _))
        | (refine ru 26 12 44 #[.int .u8 0, .int .i64 0, .int .i64 0, .int .i64 0, .int .i64 0, .int .i64 0, .slice none 0 0] 0 7 S ?_; clear S; intro o6 S; clear jd je jf jg jh ji jk)
        | fail)
       refine bodyPost_ret (dY rfl _ _ b12 26 _ (0, 0) _ rfl (S.out.blk _ bf _ rfl) Try.underlying26 rfl (by kernel_rfl)) rfl ?_
       exact ⟨_, _, rfl, Kd.ni _ _ _ _ _, S.out.below⟩
      case neg =>
       have hax : ax = 1 ∨ ax = 2 := by omega
       have HT := ae.mk ht
       cases hnf : dQ fresh c with
       | some pf =>
        have hN : iq id ax size fresh c = 1 := by unfold iq; rw [if_pos (.inr (.inr (.inr (.inr (.inr (by rw [hnf]; rfl))))))]
        rw [jR hN (by decide), hN]
        clear hN
        obtain ⟨zf, hzf, hzq⟩ := (xn fresh _).1 c (Nat.le_refl _) pf hnf
        have Uj := ae.mk (Ha hnf hzf)
        obtain ⟨hxa, hxb⟩ := gU (a := ax) (b := 1) (by omega)
        obtain ⟨hya, hyb⟩ := gU (a := 2) (b := ax) (by omega)
        obtain ⟨hsa, hsb⟩ := gU (a := size) (b := 0) (by omega)
        obtain ⟨hfa, hfb⟩ := gU (a := fresh) (b := 0) (by omega)
        obtain ⟨hga, hgb⟩ := gU (a := 2147483647) (b := fresh) (by omega)
        clear ht hax h1 h2 h3 h4 h5 hnf hzf hzq
        obtain ⟨ck, ⟨cx, cy, cw, ch⟩, aQ, l⟩ := c
        simp only [] at S ⊢
        go_enter Try.func121, Try.ntmps121
        go_wp2_with (first
         | (refine boxS 6 _ 26 S ?_; clear S; intro b6 eU S)
         | (refine boxS 12 _ 26 S ?_; clear S; intro b12 fV S)
         | (refine boxS 14 _ 26 S ?_; clear S; intro b14 gz S)
         | (refine fC 26 14 20 #[.int .u8 0, .int .i64 0, .int .i64 0, .int .i64 0, .int .i64 0, .int .i64 0, .slice none 0 0] 0 7 S ?_; clear S; intro lI S; obtain ⟨bW, bK, bM, bY, bZ, b_, cO⟩ := St.dS S eF)
         | (refine bI (some 22) Try.func84 S (jL HT.out (qc ⟨ck, ⟨cx, cy, cw, ch⟩, aQ, l⟩ mG.out (S.out.tree _ (.head _)))) ?_; clear S; intro mQ S; clear bW bK bM bY bZ b_ cO; obtain ⟨bW, bK, bM, bY, bZ, b_, cO⟩ := St.dS S eF)
         | (refine nG (some 48) Try.func122 (vF Uj.out (xm fresh ⟨ck, ⟨cx, cy, cw, ch⟩, aQ, l⟩ mG.out _ _ _ _ (dX (S.out.tree _ (.head _))))) ?_; rintro e o6 ⟨A48, c48, rfl, h1, hb⟩; refine ⟨_, rfl, ?_⟩; skip; replace S := ae.mk (S.out.res h1 hb); clear h1 hb; clear bW bK bM bY bZ b_ cO)
         | (refine boxS 15 _ 26 S ?_; clear S; intro b15 uy S)
         | (refine fC 26 15 49 #[.int .u8 zf.f0, .int .i64 zf.f1.f0, .int .i64 zf.f1.f1, .int .i64 zf.f1.f2, .int .i64 zf.f1.f3, .int .i64 zf.f2, .slice A48 zf.f3.length c48] 0 7 S ?_; clear S; intro xe S; obtain ⟨jd, je, jf, jg, jh, ji, jk⟩ := St.dS S bf)
         | (refine Pv 26 12 52 #[.int .u8 0, .int .i64 0, .int .i64 0, .int .i64 0, .int .i64 0, .int .i64 0, .slice none 0 0] 0 7 S ?_; clear S; intro BU S; clear jd je jf jg jh ji jk)
         | fail)
        refine bodyPost_ret (dY rfl _ _ b12 26 _ (0, 0) _ rfl (S.out.blk _ eF _ rfl) Try.underlying26 rfl (by kernel_rfl)) rfl ?_
        exact ⟨_, _, rfl, Kd.ni _ _ _ _ _, S.out.below⟩
       | none =>
        have Uj := ae.mk (G_ hnf)
        have hno : ¬ (dF c = false ∨ ¬ (ax = 1 ∨ ax = 2) ∨ size < 0 ∨ fresh < 0 ∨ fresh > 2147483647 ∨ (dQ fresh c).isSome = true) := by
         rw [ht, hnf]
         rintro (h | h | h | h | h | h)
         ·cases h
         ·exact h hax
         ·exact h3 h
         ·exact h4 h
         ·exact h5 h
         ·cases h
        cases hni : dQ id c with
        | none =>
         have hN : iq id ax size fresh c = 6 := by unfold iq; rw [if_neg hno, hni]
         rw [jR hN (by decide), hN]
         clear hN
         have YG := ae.mk (G_ hni)
         obtain ⟨hxa, hxb⟩ := gU (a := ax) (b := 1) (by omega)
         obtain ⟨hya, hyb⟩ := gU (a := 2) (b := ax) (by omega)
         obtain ⟨hsa, hsb⟩ := gU (a := size) (b := 0) (by omega)
         obtain ⟨hfa, hfb⟩ := gU (a := fresh) (b := 0) (by omega)
         obtain ⟨hga, hgb⟩ := gU (a := 2147483647) (b := fresh) (by omega)
         clear ht hax h1 h2 h3 h4 h5 hnf hno hni
         obtain ⟨ck, ⟨cx, cy, cw, ch⟩, aQ, l⟩ := c
         simp only [] at S ⊢
         go_enter Try.func121, Try.ntmps121
         go_wp2_with (first
          | (refine boxS 6 _ 26 S ?_; clear S; intro b6 eU S)
          | (refine boxS 12 _ 26 S ?_; clear S; intro b12 fV S)
          | (refine boxS 14 _ 26 S ?_; clear S; intro b14 gz S)
          | (refine fC 26 14 20 #[.int .u8 0, .int .i64 0, .int .i64 0, .int .i64 0, .int .i64 0, .int .i64 0, .slice none 0 0] 0 7 S ?_; clear S; intro lI S; obtain ⟨bW, bK, bM, bY, bZ, b_, cO⟩ := St.dS S eF)
          | (refine bI (some 22) Try.func84 S (jL HT.out (qc ⟨ck, ⟨cx, cy, cw, ch⟩, aQ, l⟩ mG.out (S.out.tree _ (.head _)))) ?_; clear S; intro mQ S; clear bW bK bM bY bZ b_ cO; obtain ⟨bW, bK, bM, bY, bZ, b_, cO⟩ := St.dS S eF)
          | (refine bI (some 48) Try.func122 S (vF Uj.out (xm fresh ⟨ck, ⟨cx, cy, cw, ch⟩, aQ, l⟩ mG.out _ _ _ _ (dX (S.out.tree _ (.head _))))) ?_; clear S; intro o6 S; clear bW bK bM bY bZ b_ cO)
          | (refine boxS 15 _ 26 S ?_; clear S; intro b15 uy S)
          | (refine fC 26 15 49 #[.int .u8 0, .int .i64 0, .int .i64 0, .int .i64 0, .int .i64 0, .int .i64 0, .slice none 0 0] 0 7 S ?_; clear S; intro xe S; obtain ⟨bW, bK, bM, bY, bZ, b_, cO⟩ := St.dS S jM)
          | (refine bI (some 56) Try.func122 S (vF YG.out (xm id ⟨ck, ⟨cx, cy, cw, ch⟩, aQ, l⟩ mG.out _ _ _ _ (dX (S.out.tree _ (.head _))))) ?_; clear S; intro BU S; clear bW bK bM bY bZ b_ cO)
          | (refine boxS 17 _ 26 S ?_; clear S; intro b17 uB S)
          | (refine fC 26 17 57 #[.int .u8 0, .int .i64 0, .int .i64 0, .int .i64 0, .int .i64 0, .int .i64 0, .slice none 0 0] 0 7 S ?_; clear S; intro Dq S; obtain ⟨jd, je, jf, jg, jh, ji, jk⟩ := St.dS S eF)
          | (refine TB 26 12 61 #[.int .u8 0, .int .i64 0, .int .i64 0, .int .i64 0, .int .i64 0, .int .i64 0, .slice none 0 0] 0 7 S ?_; clear S; intro EW S; clear jd je jf jg jh ji jk)
          | fail)
         refine bodyPost_ret (dY rfl _ _ b12 26 _ (0, 0) _ rfl (S.out.blk _ jM _ rfl) Try.underlying26 rfl (by kernel_rfl)) rfl ?_
         exact ⟨_, _, rfl, Kd.ni _ _ _ _ _, S.out.below⟩
        | some p =>
         obtain ⟨leaf, hlf, hlq⟩ := (xn id _).1 c (Nat.le_refl _) p hni
         clear hlq
         have YG := ae.mk (Ha hni hlf)
         have hsb := Lu hax ht hlf
         obtain ⟨sv, hsv⟩ : ∃ s, aK ax leaf.f1 = s := ⟨_, rfl⟩
         have Bv := ae.mk hsv
         have Uk := ae.mk (show -1000000 ≤ aK ax leaf.f1 ∧ aK ax leaf.f1 ≤ 1000000 by omega)
         by_cases h7 : sv < 3
         case pos =>
          have hN : iq id ax size fresh c = 7 := by unfold iq; rw [if_neg hno, hni]; simp only [hlf]; rw [if_pos (by omega)]
          rw [jR hN (by decide), hN]
          clear hN
          obtain ⟨U_, Va⟩ := o5 (a := sv) (b := 3) (by omega)
          obtain ⟨hxa, hxb⟩ := gU (a := ax) (b := 1) (by omega)
          obtain ⟨hya, hyb⟩ := gU (a := 2) (b := ax) (by omega)
          obtain ⟨hsa, hsb⟩ := gU (a := size) (b := 0) (by omega)
          obtain ⟨hfa, hfb⟩ := gU (a := fresh) (b := 0) (by omega)
          obtain ⟨hga, hgb⟩ := gU (a := 2147483647) (b := fresh) (by omega)
          clear ht hax h1 h2 h3 h4 h5 hnf hno hni hlf hsb hsv h7
          obtain ⟨ck, ⟨cx, cy, cw, ch⟩, aQ, l⟩ := c
          simp only [] at S ⊢
          go_enter Try.func121, Try.ntmps121
          go_wp2_with (first
           | (refine boxS 6 _ 26 S ?_; clear S; intro b6 eU S)
           | (refine boxS 12 _ 26 S ?_; clear S; intro b12 fV S)
           | (refine boxS 14 _ 26 S ?_; clear S; intro b14 gz S)
           | (refine fC 26 14 20 #[.int .u8 0, .int .i64 0, .int .i64 0, .int .i64 0, .int .i64 0, .int .i64 0, .slice none 0 0] 0 7 S ?_; clear S; intro lI S; obtain ⟨bW, bK, bM, bY, bZ, b_, cO⟩ := St.dS S eF)
           | (refine bI (some 22) Try.func84 S (jL HT.out (qc ⟨ck, ⟨cx, cy, cw, ch⟩, aQ, l⟩ mG.out (S.out.tree _ (.head _)))) ?_; clear S; intro mQ S; clear bW bK bM bY bZ b_ cO; obtain ⟨bW, bK, bM, bY, bZ, b_, cO⟩ := St.dS S eF)
           | (refine bI (some 48) Try.func122 S (vF Uj.out (xm fresh ⟨ck, ⟨cx, cy, cw, ch⟩, aQ, l⟩ mG.out _ _ _ _ (dX (S.out.tree _ (.head _))))) ?_; clear S; intro o6 S; clear bW bK bM bY bZ b_ cO)
           | (refine boxS 15 _ 26 S ?_; clear S; intro b15 uy S)
           | (refine fC 26 15 49 #[.int .u8 0, .int .i64 0, .int .i64 0, .int .i64 0, .int .i64 0, .int .i64 0, .slice none 0 0] 0 7 S ?_; clear S; intro xe S; obtain ⟨bW, bK, bM, bY, bZ, b_, cO⟩ := St.dS S jM)
           | (refine nG (some 56) Try.func122 (vF YG.out (xm id ⟨ck, ⟨cx, cy, cw, ch⟩, aQ, l⟩ mG.out _ _ _ _ (dX (S.out.tree _ (.head _))))) ?_; rintro e BU ⟨MP, Ob, rfl, h1, hb⟩; refine ⟨_, rfl, ?_⟩; skip; replace S := ae.mk (S.out.res h1 hb); clear h1 hb; clear bW bK bM bY bZ b_ cO)
           | (refine boxS 17 _ 26 S ?_; clear S; intro b17 uB S)
           | (refine fC 26 17 57 #[.int .u8 leaf.f0, .int .i64 leaf.f1.f0, .int .i64 leaf.f1.f1, .int .i64 leaf.f1.f2, .int .i64 leaf.f1.f3, .int .i64 leaf.f2, .slice MP leaf.f3.length Ob] 0 7 S ?_; clear S; intro Dq S; have uF := (S.out.at (.head _) 1).trans rfl; have uG := (S.out.at (.head _) 2).trans rfl; have uH := (S.out.at (.head _) 3).trans rfl; have uI := (S.out.at (.head _) 4).trans rfl)
           | (refine bI (some 65) Try.func87 S (zJ Bv.out (zI leaf.f1 ax)) ?_; clear S; intro EW S; clear uF uG uH uI; obtain ⟨jd, je, jf, jg, jh, ji, jk⟩ := St.dS S eF)
           | (refine TB 26 12 67 #[.int .u8 0, .int .i64 0, .int .i64 0, .int .i64 0, .int .i64 0, .int .i64 0, .slice none 0 0] 0 7 S ?_; clear S; intro Kz S; clear jd je jf jg jh ji jk)
           | fail)
          refine bodyPost_ret (dY rfl _ _ b12 26 _ (0, 0) _ rfl (S.out.blk _ jM _ rfl) Try.underlying26 rfl (by kernel_rfl)) rfl ?_
          exact ⟨_, _, rfl, Kd.ni _ _ _ _ _, S.out.below⟩
         case neg =>
          have hN : iq id ax size fresh c = 0 := by unfold iq; rw [if_neg hno, hni]; simp only [hlf]; rw [if_neg (by omega)]
          obtain ⟨p', Tf, hSp⟩ := splits hN
          have e1 : p = p' := by have h := hSp.find; rw [hni] at h; exact Option.some.inj h
          subst e1
          have e2 : leaf = Tf := by have h := hSp.at'; rw [hlf] at h; exact Option.some.inj h
          subst e2
          rw [hSp.z hN, hN]
          have hd := zA ht
          obtain ⟨L, hL⟩ : ∃ L, w_ ax size fresh ahead leaf = L := ⟨_, rfl⟩
          rw [hL]
          have hzs := Tc id ax L _ c (Nat.le_refl _) p hni hd.1 hd.2
          have h2s : dO L = 2 := by rw [← hL]; exact PS ..
          have YS : L.length = 2 := by rw [← hL]; exact Rq ..
          obtain ⟨z, hzz⟩ : ∃ z, yw id ax L c = z := ⟨_, rfl⟩
          rw [hzz] at hzs ⊢
          have Ul := ae.mk hL
          have HIN := ae.mk hzz
          have y7 := ae.mk hax
          have kF := ae.mk (show L.length ≤ 1000 by omega)
          have Uo := ae.mk (show sz z ≤ 1048576 by have := HZ1.out; omega)
          have HZ6 := ae.mk (show sz z ≤ 1000000 by have := HZ1.out; omega)
          have hza : decide ((sz z : Int) > 20000) = false := decide_eq_false (by have := HZ1.out; omega)
          have hzb : decide (20000 < (sz z : Int)) = false := hza
          have hzc : decide (20000 < sz z) = false := decide_eq_false (by have := HZ1.out; omega)
          have hzd : ¬ (20000 < sz z) := by have := HZ1.out; omega
          obtain ⟨U_, Va⟩ := gU (a := sv) (b := 3) (by omega)
          obtain ⟨hxa, hxb⟩ := gU (a := ax) (b := 1) (by omega)
          obtain ⟨hya, hyb⟩ := gU (a := 2) (b := ax) (by omega)
          obtain ⟨hsa, hsb⟩ := gU (a := size) (b := 0) (by omega)
          obtain ⟨hfa, hfb⟩ := gU (a := fresh) (b := 0) (by omega)
          obtain ⟨hga, hgb⟩ := gU (a := 2147483647) (b := fresh) (by omega)
          clear ht hax h1 h2 h3 h4 h5 hnf hno hni hlf hsb hsv h7 hN hSp hd hL hzs h2s YS hzz
          obtain ⟨ck, ⟨cx, cy, cw, ch⟩, aQ, l⟩ := c
          simp only [] at S ⊢
          go_enter Try.func121, Try.ntmps121
          go_wp2_with (first
           | (refine boxS 6 _ 26 S ?_; clear S; intro b6 eU S)
           | (refine boxS 12 _ 26 S ?_; clear S; intro b12 fV S)
           | (refine boxS 14 _ 26 S ?_; clear S; intro b14 gz S)
           | (refine fC 26 14 20 #[.int .u8 0, .int .i64 0, .int .i64 0, .int .i64 0, .int .i64 0, .int .i64 0, .slice none 0 0] 0 7 S ?_; clear S; intro lI S; obtain ⟨bW, bK, bM, bY, bZ, b_, cO⟩ := St.dS S eF)
           | (refine bI (some 22) Try.func84 S (jL HT.out (qc ⟨ck, ⟨cx, cy, cw, ch⟩, aQ, l⟩ mG.out (S.out.tree _ (.head _)))) ?_; clear S; intro mQ S; clear bW bK bM bY bZ b_ cO; obtain ⟨bW, bK, bM, bY, bZ, b_, cO⟩ := St.dS S eF)
           | (refine bI (some 48) Try.func122 S (vF Uj.out (xm fresh ⟨ck, ⟨cx, cy, cw, ch⟩, aQ, l⟩ mG.out _ _ _ _ (dX (S.out.tree _ (.head _))))) ?_; clear S; intro o6 S; clear bW bK bM bY bZ b_ cO)
           | (refine boxS 15 _ 26 S ?_; clear S; intro b15 uy S)
           | (refine fC 26 15 49 #[.int .u8 0, .int .i64 0, .int .i64 0, .int .i64 0, .int .i64 0, .int .i64 0, .slice none 0 0] 0 7 S ?_; clear S; intro xe S; obtain ⟨bW, bK, bM, bY, bZ, b_, cO⟩ := St.dS S jM)
           | (refine nG (some 56) Try.func122 (vF YG.out (xm id ⟨ck, ⟨cx, cy, cw, ch⟩, aQ, l⟩ mG.out _ _ _ _ (dX (S.out.tree _ (.head _))))) ?_; rintro e BU ⟨MP, Ob, rfl, h1, hb⟩; refine ⟨_, rfl, ?_⟩; skip; replace S := ae.mk (S.out.res h1 hb); clear h1 hb; clear bW bK bM bY bZ b_ cO)
           | (refine boxS 17 _ 26 S ?_; clear S; intro b17 uB S)
           | (refine fC 26 17 57 #[.int .u8 leaf.f0, .int .i64 leaf.f1.f0, .int .i64 leaf.f1.f1, .int .i64 leaf.f1.f2, .int .i64 leaf.f1.f3, .int .i64 leaf.f2, .slice MP leaf.f3.length Ob] 0 7 S ?_; clear S; intro Dq S; have uF := (S.out.at (.head _) 1).trans rfl; have uG := (S.out.at (.head _) 2).trans rfl; have uH := (S.out.at (.head _) 3).trans rfl; have uI := (S.out.at (.head _) 4).trans rfl)
           | (refine bI (some 65) Try.func87 S (zJ Bv.out (zI leaf.f1 ax)) ?_; clear S; intro EW S; clear uF uG uH uI)
           | fail)
          refine kX (n := 12) (S := fun w' => St w _ _ _ _ _ w') (ds := [11]) (bA 12 0) (by kernel_rfl) rfl rfl (S.out.call (bz (Below.refl _ _))) (fun hHeld => ?_); refine ik vY.agN vY.ac1 (fun az fZ => ?_)
          replace S := ae.mk (S.out.call (bz (Below.refl _ _)))
          generalize EW.drew = alJ at S hHeld ⊢
          refine eQ 0 68 (bA 12 1) az fZ hHeld ?_ (hv := by intro w' hs_; have bW := (hs_.at qg 0).trans rfl; have bK := (hs_.at qg 1).trans rfl; have bM := (hs_.at qg 2).trans rfl; have bY := (hs_.at qg 3).trans rfl; have bZ := (hs_.at qg 4).trans rfl; have b_ := (hs_.at qg 5).trans rfl; have cO := (hs_.at qg 6).trans rfl; go_simp; with_reducible rfl)
          refine aJ 1 69 (bA 12 3) az ?_
          refine aJ 2 70 (bA 12 7) az ?_
          refine eQ 3 71 (bA 12 15) az fZ hHeld ?_ (hv := by intro w' hs_; have UI := (hs_.at (.head _) 0).trans rfl; have uF := (hs_.at (.head _) 1).trans rfl; have uG := (hs_.at (.head _) 2).trans rfl; have uH := (hs_.at (.head _) 3).trans rfl; have uI := (hs_.at (.head _) 4).trans rfl; have UJ := (hs_.at (.head _) 5).trans rfl; have UK := (hs_.at (.head _) 6).trans rfl; go_simp; with_reducible rfl)
          refine aJ 4 72 (bA 12 31) az ?_
          refine aJ 5 73 (bA 12 63) az ?_
          refine aJ 6 74 (bA 12 127) az ?_
          refine aJ 7 75 (bA 12 255) az ?_
          refine FI (σ := Option Addr × Nat × Option Addr × Nat × Nat) 1 (bA 12 2047) (fun s_ => [(76, .slice s_.1 L.length s_.2.1), (77, .agg #[.int .u8 z.f0, .int .i64 z.f1.f0, .int .i64 z.f1.f1, .int .i64 z.f1.f2, .int .i64 z.f1.f3, .int .i64 z.f2, .slice s_.2.2.1 z.f3.length s_.2.2.2.1]), (19, .pointer (some ⟨s_.2.2.2.2, 0, none⟩))]) (fun s_ w' => St w P [(some s_.2.2.2.2, .cells #[.int .u8 0, .int .i64 0, .int .i64 0, .int .i64 0, .int .i64 0, .int .i64 0, .slice none 0 0] 26 (0, 0)), (some b17, .cells #[.int .u8 leaf.f0, .int .i64 leaf.f1.f0, .int .i64 leaf.f1.f1, .int .i64 leaf.f1.f2, .int .i64 leaf.f1.f3, .int .i64 leaf.f2, .slice MP leaf.f3.length Ob] 26 (0, 0)), (some b15, .cells #[.int .u8 0, .int .i64 0, .int .i64 0, .int .i64 0, .int .i64 0, .int .i64 0, .slice none 0 0] 26 (0, 0)), (some b14, .cells #[.int .u8 0, .int .i64 0, .int .i64 0, .int .i64 0, .int .i64 0, .int .i64 0, .slice none 0 0] 26 (0, 0)), (some b12, .cells #[.int .u8 0, .int .i64 0, .int .i64 0, .int .i64 0, .int .i64 0, .int .i64 0, .slice none 0 0] 26 (0, 0)), (some b6, .cells #[.int .u8 ck, .int .i64 cx, .int .i64 cy, .int .i64 cw, .int .i64 ch, .int .i64 aQ, .slice A l.length cc] 26 (0, 0))] [] [(.slice s_.2.2.1 z.f3.length s_.2.2.2.1, z.f3), (.slice s_.1 L.length s_.2.1, L), (.slice MP leaf.f3.length Ob, leaf.f3), (.slice A l.length cc, l)] [] w') ?_ ?_
          rotate_left
          ·intro nZ
           refine ER (i := 8) (j := 10) (Ni := some 76) (Nj := some 19) (bA 12 511) (bA 12 1279) rfl rfl rfl rfl (yN az.out (by kernel_rfl)) (by decide) (by decide) (fun K hK => ?_) (fun K hK => ?_)
           ·skip
            refine lU Try.func169 #[.agg #[.int .u8 leaf.f0, .int .i64 leaf.f1.f0, .int .i64 leaf.f1.f1, .int .i64 leaf.f1.f2, .int .i64 leaf.f1.f3, .int .i64 leaf.f2, .slice MP leaf.f3.length Ob], .int .u8 ax, .int .i64 size, .int .i64 fresh, .bool ahead] ?_
            refine (FQ Ul.out (Qx leaf ax size fresh ahead Uk.out KY.out _ _ _ _ (dX (S.out.tree _ (.head _))))).mono ?_
            rintro e KA ⟨A9, c9, rfl, h1, hb⟩
            refine ⟨_, rfl, ?_⟩
            skip
            replace S := ae.mk (S.out.res (Kd.Du (base' := 0) h1) hb)
            clear h1 hb
            refine hK.out _ _ S.out.dC (fun hHeld => ?_)
            clear hK K
            refine fJ 76 ?_
            refine ER (i := 9) (j := 10) (Ni := some 77) (Nj := some 19) (bA 12 1023) (bA 12 1535) rfl rfl rfl rfl (yN az.out (by kernel_rfl)) (by decide) (by decide) (fun K hK => ?_) (fun K hK => ?_)
            ·skip
             refine lU Try.func168 #[.agg #[.int .u8 ck, .int .i64 cx, .int .i64 cy, .int .i64 cw, .int .i64 ch, .int .i64 aQ, .slice A l.length cc], .int .i64 id, .int .u8 ax, .slice A9 L.length c9] ?_
             refine (O6 HIN.out (S_ id ax y7.out L kF.out 100000 ⟨ck, ⟨cx, cy, cw, ch⟩, aQ, l⟩ HZ5.out (Nat.le_refl _) _ _ _ _ _ _ (dX (S.out.tree _ eF)) (dX (S.out.tree _ (.head _))))).mono ?_
             rintro e Yu ⟨Az, cz, rfl, h1, hb⟩
             refine ⟨_, rfl, ?_⟩
             replace S := ae.mk (S.out.res h1 hb)
             clear h1 hb
             refine hK.out _ _ S.out.dC.dC (fun hHeld => ?_)
             clear hK K
             refine fJ 77 ?_
             refine kW 10 (some 19) (bA 12 2047) az (fun K hK => ?_)
             refine lM ?hg (N := 19) ?hd (cs := #[.int .u8 0, .int .i64 0, .int .i64 0, .int .i64 0, .int .i64 0, .int .i64 0, .slice none 0 0]) (t := 26) ?hr ?_; (case hd => rfl); (case hg => rfl); (case hr => first | (go_simp; done) | (go_simp; rfl))
             intro b19 hg afs hbox hb
             replace S := ae.mk (S.out.box hg hbox hb)
             clear hg hbox hb
             refine hK.out _ _ S.out.f_.dC.dC (fun hHeld => ?_)
             clear hK K
             refine fJ 19 ?_
             exact pM (by simp only [kE, Act.put, List.setIfInBounds_toArray, List.set_cons_zero, List.set_cons_succ] <;> rfl) (nZ (A9, c9, Az, cz, b19) _ S.out)
            ·skip
             refine lM ?hg (N := 19) ?hd (cs := #[.int .u8 0, .int .i64 0, .int .i64 0, .int .i64 0, .int .i64 0, .int .i64 0, .slice none 0 0]) (t := 26) ?hr ?_; (case hd => rfl); (case hg => rfl); (case hr => first | (go_simp; done) | (go_simp; rfl))
             intro b19 hg aft hbox hb
             replace S := ae.mk (S.out.box hg hbox hb)
             clear hg hbox hb
             refine hK.out _ _ S.out.f_.dC (fun hHeld => ?_)
             clear hK K
             refine fJ 19 ?_
             refine kW 9 (some 77) (bA 12 2047) az (fun K hK => ?_)
             refine lU Try.func168 #[.agg #[.int .u8 ck, .int .i64 cx, .int .i64 cy, .int .i64 cw, .int .i64 ch, .int .i64 aQ, .slice A l.length cc], .int .i64 id, .int .u8 ax, .slice A9 L.length c9] ?_
             refine (O6 HIN.out (S_ id ax y7.out L kF.out 100000 ⟨ck, ⟨cx, cy, cw, ch⟩, aQ, l⟩ HZ5.out (Nat.le_refl _) _ _ _ _ _ _ (dX (S.out.tree _ eF)) (dX (S.out.tree _ (.head _))))).mono ?_
             rintro e afu ⟨Az, cz, rfl, h1, hb⟩
             refine ⟨_, rfl, ?_⟩
             replace S := ae.mk (S.out.res h1 hb)
             clear h1 hb
             refine hK.out _ _ S.out.f_.dC.dC (fun hHeld => ?_)
             clear hK K
             refine fJ 77 ?_
             exact pM (by simp only [kE, Act.put, List.setIfInBounds_toArray, List.set_cons_zero, List.set_cons_succ] <;> rfl) (nZ (A9, c9, Az, cz, b19) _ S.out)
           ·skip
            refine lM ?hg (N := 19) ?hd (cs := #[.int .u8 0, .int .i64 0, .int .i64 0, .int .i64 0, .int .i64 0, .int .i64 0, .slice none 0 0]) (t := 26) ?hr ?_; (case hd => rfl); (case hg => rfl); (case hr => first | (go_simp; done) | (go_simp; rfl))
            intro b19 hg afv hbox hb
            replace S := ae.mk (S.out.box hg hbox hb)
            clear hg hbox hb
            refine hK.out _ _ S.out.f_ (fun hHeld => ?_)
            clear hK K
            refine fJ 19 ?_
            refine kW 8 (some 76) (bA 12 1535) az (fun K hK => ?_)
            refine lU Try.func169 #[.agg #[.int .u8 leaf.f0, .int .i64 leaf.f1.f0, .int .i64 leaf.f1.f1, .int .i64 leaf.f1.f2, .int .i64 leaf.f1.f3, .int .i64 leaf.f2, .slice MP leaf.f3.length Ob], .int .u8 ax, .int .i64 size, .int .i64 fresh, .bool ahead] ?_
            refine (FQ Ul.out (Qx leaf ax size fresh ahead Uk.out KY.out _ _ _ _ (dX (S.out.tree _ (.head _))))).mono ?_
            rintro e alF ⟨A9, c9, rfl, h1, hb⟩
            refine ⟨_, rfl, ?_⟩
            skip
            replace S := ae.mk (S.out.res (Kd.Du (base' := 0) h1) hb)
            clear h1 hb
            refine hK.out _ _ S.out.f_.dC (fun hHeld => ?_)
            clear hK K
            refine fJ 76 ?_
            refine kW 9 (some 77) (bA 12 2047) az (fun K hK => ?_)
            refine lU Try.func168 #[.agg #[.int .u8 ck, .int .i64 cx, .int .i64 cy, .int .i64 cw, .int .i64 ch, .int .i64 aQ, .slice A l.length cc], .int .i64 id, .int .u8 ax, .slice A9 L.length c9] ?_
            refine (O6 HIN.out (S_ id ax y7.out L kF.out 100000 ⟨ck, ⟨cx, cy, cw, ch⟩, aQ, l⟩ HZ5.out (Nat.le_refl _) _ _ _ _ _ _ (dX (S.out.tree _ eF)) (dX (S.out.tree _ (.head _))))).mono ?_
            rintro e afw ⟨Az, cz, rfl, h1, hb⟩
            refine ⟨_, rfl, ?_⟩
            replace S := ae.mk (S.out.res h1 hb)
            clear h1 hb
            refine hK.out _ _ S.out.f_.dC.dC (fun hHeld => ?_)
            clear hK K
            refine fJ 77 ?_
            exact pM (by simp only [kE, Act.put, List.setIfInBounds_toArray, List.set_cons_zero, List.set_cons_succ] <;> rfl) (nZ (A9, c9, Az, cz, b19) _ S.out)
          rintro ⟨A9, c9, Az, cz, b19⟩ alL S1
          simp only [kE, Act.put, List.setIfInBounds_toArray, List.set_cons_zero, List.set_cons_succ]
          replace S := ae.mk S1
          clear S1 hHeld
          have hHeld := S.out.f_.dC.dC
          refine uZ 11 none (bA 12 4095) az (fun K hK => ?_)
          refine xH 0 rfl 26 (.tmp 19) (.tmp 77) rfl #[.int .u8 z.f0, .int .i64 z.f1.f0, .int .i64 z.f1.f1, .int .i64 z.f1.f2, .int .i64 z.f1.f3, .int .i64 z.f2, .slice Az z.f3.length cz] (j := 0) (u := .agg #[.int .u8 z.f0, .int .i64 z.f1.f0, .int .i64 z.f1.f1, .int .i64 z.f1.f2, .int .i64 z.f1.f3, .int .i64 z.f2, .slice Az z.f3.length cz]) (bu := [.int .u8 z.f0, .int .i64 z.f1.f0, .int .i64 z.f1.f1, .int .i64 z.f1.f2, .int .i64 z.f1.f3, .int .i64 z.f2, .slice Az z.f3.length cz]) S.out (by rfl) rfl rfl rfl rfl (by kernel_rfl) (by simp [Value.oneCell']) (by first | decide | simp) rfl ?_
          intro ain S1
          simp only [List.set_cons_zero, List.set_cons_succ] at S1
          replace S := ae.mk S1
          clear S1
          refine hK.out _ _ ?_
          clear hK K
          refine nz (jK az.out (by kernel_rfl)) ?_
          clear hHeld
          obtain ⟨zO, zQ, zS, zT, zU, zV, zW⟩ := St.dS S (.head _)
          go_wp2_with (first
           | (refine nG (some 79) Try.func79 (UM z Uo.out (S.out.tree _ (.head _))) ?_; rintro e aio ⟨Aa, ca, rfl, hb⟩; refine ⟨_, rfl, ?_⟩; replace S := ae.mk (S.out.call hb); clear hb; clear zO zQ zS zT zU zV zW; obtain ⟨zO, zQ, zS, zT, zU, zV, zW⟩ := St.dS S (.head _); have bK := (S.out.at zh 1).trans rfl; have bM := (S.out.at zh 2).trans rfl)
           | (refine YR (some 90) Try.func67 S (ae' z cx cy HZ6.out (S.out.tree _ (.head _))) ?_; clear S; intro As cs aip S; clear zO zQ zS zT zU zV zW bK bM)
           | (refine ah7 26 12 90 #[.int .u8 ((fH z cx cy).f0), .int .i64 ((fH z cx cy).f1.f0), .int .i64 ((fH z cx cy).f1.f1), .int .i64 ((fH z cx cy).f1.f2), .int .i64 ((fH z cx cy).f1.f3), .int .i64 ((fH z cx cy).f2), .slice As ((fH z cx cy).f3.length) cs] 0 7 S ?_; clear S; intro alG S)
           | fail)
          refine bodyPost_ret (dY rfl _ _ b12 26 _ (0, 0) _ rfl (S.out.blk _ qg _ rfl) Try.underlying26 rfl (by kernel_rfl)) rfl ?_
          exact ⟨_, _, rfl, S.out.yY, S.out.below⟩
end Go.Proofs.Ytfdmfgaiblfbhaa.P
namespace Go.Proofs.Ytfdmfgaiblfbhaa.P
open Go.RowKit Go.Proofs.ag.aA Go.Proofs.ag.bg Go.Proofs.ag.bG
attribute [local go_sem] jD jQ kM kV jo jq kC kD
mutual
def dE.l0 : Nat → List Int → List (ai) → Int → Int → Option (List Int)
 | 0, _, _, _, _ => none
 | k + 1, x3, x6, x7, x8 => if x8 < x7 then (if 0 ≤ x8 then (if x8 < (x6.length : Int) then (if ((aj x6 x8).f0) = 1 then (if x3.length < 17592186044416 then ((some (x3 ++ [(aj x6 x8).f2] : List Int)).bind fun Bo => ((dE.f k ((aj x6 x8).f3)).bind fun xN => (if Bo.length + xN.length < 17592186044416 then (dE.l0 k (Bo ++ xN) x6 x7 (wrap64 (x8 + 1))) else (none)))) else (none)) else ((dE.f k ((aj x6 x8).f3)).bind fun Bj => (if x3.length + Bj.length < 17592186044416 then (dE.l0 k (x3 ++ Bj) x6 x7 (wrap64 (x8 + 1))) else (none)))) else (none)) else (none)) else (some x3)
def dE.f : Nat → List (ai) → Option (List Int)
 | 0, _ => none
 | k + 1, l0 => dE.l0 k ([] : List Int) l0 (l0.length : Int) 0
end
theorem dE.calls (k : Nat) : ∀ (A0 : Option Addr) (c0 : Nat) (l0 : List (ai)) (r : List Int) (w : World) (hr0 : Kd.C k26 w A0 l0.length l0) (hc0 : l0.length ≤ c0) (h : dE.f k l0 = some r),
  Calls Try.prog 83 #[.slice A0 l0.length c0] w fun e w' => ∃ EU : Value, e = .returned (EU) ∧ Kd.R (Kd.int .i64) 3 w' w.heap.size (fun _ => True) EU r ∧ Below w.heap.size w w' := by
 induction k using Nat.strongRecOn with
 | _ k ih =>
 intro A0 c0 l0 r w hr0 hc0 h
 cases k with
 | zero => exact absurd h (by simp [dE.f])
 | succ k =>
 simp only [dE.f] at h
 have GN := Try.underlying26
 have HR0 := ae.mk hr0
 have Yz := ae.mk hc0
 clear hr0 hc0
 have HB := ae.mk (Below.refl w.heap.size w)
 have H : (dE.l0 k ([] : List Int) l0 (l0.length : Int) 0) = some r := h
 clear h
 have H' := ae.mk H
 clear H
 go_enter Try.func83, Try.ntmps83
 go_wp2
 go_loopg [3, 8] k (fun kq v3 v8 w' => ∃ (kN : List Int) (aW : Int), v8 = .int .i64 aW ∧ ae (dE.l0 kq kN l0 (l0.length : Int) aW = some r) ∧ ae (kq ≤ k) ∧ ae (Kd.R (Kd.int .i64) 3 w' w.heap.size (fun _ => True) v3 kN) ∧ ae (Below w.heap.size w w'))
 case atStart => exact ⟨(([] : List Int)), (0), (by first | rfl | (simp; done) | (simp [*]; done)), H', ⟨Nat.le_refl _⟩, ⟨by first | exact Kd.wC _ _ _ _ _ | exact Kd.ni _ _ _ _ _ | exact Kd.rX _ _ _ _ _ | exact Kd.af0 _ _ _ _ _ | exact Kd.af5 _ _ _ _ _⟩, ⟨by repeat (first | (with_reducible first | exact HB.out | apply aX | apply aV | apply bQ) | exact HB.out)⟩⟩
 case round =>
  clear H'
  obtain ⟨kN, aW, rfl, HA, qJ, lg, HB⟩ := hrel
  cases gk with
  | zero => exact absurd HA.out (by simp [dE.l0])
  | succ k1 =>
   have H := HA.out
   clear HA
   simp only [dE.l0] at H
   by_cases c2 : aW < (l0.length : Int)
   ·rw [if_pos c2] at H
    have Gw : decide (aW < (l0.length : Int)) = true := decide_eq_true c2
    clear c2
    by_cases c3 : 0 ≤ aW
    ·rw [if_pos c3] at H
     have vz : decide (0 ≤ aW) = true := decide_eq_true c3
     clear c3
     by_cases c4 : aW < (l0.length : Int)
     ·rw [if_pos c4] at H
      have oJ : decide (aW < (l0.length : Int)) = true := decide_eq_true c4
      clear c4
      by_cases c5 : ((aj l0 aW).f0) = 1
      ·rw [if_pos c5] at H
       have DN : (((aj l0 aW).f0) == 1) = true := beq_iff_eq.mpr c5
       have ahK : (((aj l0 aW).f0) != 1) = false := bne_eq_false_iff_eq.mpr c5
       clear c5
       by_cases c6 : kN.length < 17592186044416
       ·rw [if_pos c6] at H
        have ahE := ae.mk c6
        clear c6
        obtain ⟨Bo, II⟩ : ∃ y_ : List Int, y_ = (kN ++ [(aj l0 aW).f2]) := ⟨_, rfl⟩
        replace H : ((dE.f k1 ((aj l0 aW).f3)).bind fun xN => (if Bo.length + xN.length < 17592186044416 then (dE.l0 k1 (Bo ++ xN) l0 (l0.length : Int) (wrap64 (aW + 1))) else (none))) = some r := by first | (rw [II]; with_reducible exact H) | (have DC := (Option.bind_some _ _).symm.trans H; rw [II]; with_reducible exact DC) | (have DC := (Option.bind_some _ _).symm.trans H; with_reducible exact DC) | with_reducible exact H | (rw [II]; exact H) | exact H
        have afX := ae.mk II
        clear II
        replace H := Option.bind_eq_some_iff.mp H
        obtain ⟨xN, A70, H⟩ := H
        replace H : (if Bo.length + xN.length < 17592186044416 then (dE.l0 k1 (Bo ++ xN) l0 (l0.length : Int) (wrap64 (aW + 1))) else (none)) = some r := H
        have A7 := ae.mk A70
        clear A70
        by_cases c8 : Bo.length + xN.length < 17592186044416
        ·rw [if_pos c8] at H
         have ahF := ae.mk c8
         clear c8
         obtain ⟨afC, IJ⟩ : ∃ y_ : List Int, y_ = (Bo ++ xN) := ⟨_, rfl⟩
         replace H : (dE.l0 k1 afC l0 (l0.length : Int) (wrap64 (aW + 1))) = some r := by first | (rw [IJ]; with_reducible exact H) | (have DC := (Option.bind_some _ _).symm.trans H; rw [IJ]; with_reducible exact DC) | (have DC := (Option.bind_some _ _).symm.trans H; with_reducible exact DC) | with_reducible exact H | (rw [IJ]; exact H) | exact H
         have afY := ae.mk IJ
         clear IJ
         have H' := ae.mk H
         clear H
         have GZ : 0 ≤ (aW : Int) := of_decide_eq_true (by first | (with_reducible assumption) | assumption)
         have G6 : aW < (l0.length : Int) := of_decide_eq_true (by first | (with_reducible assumption) | assumption)
         obtain ⟨af8, rD, rF, Xz, xw, xx, xy, xA, xB, xC, xE, BK, BJ⟩ := pG HR0.out aW GZ G6
         cases Xz
         replace xw := (HB.out.cell (World.block_lt_of_cell? w _ xw)).trans xw
         replace xx := (HB.out.cell (World.block_lt_of_cell? w _ xx)).trans xx
         replace xy := (HB.out.cell (World.block_lt_of_cell? w _ xy)).trans xy
         replace xA := (HB.out.cell (World.block_lt_of_cell? w _ xA)).trans xA
         replace xB := (HB.out.cell (World.block_lt_of_cell? w _ xB)).trans xB
         replace xC := (HB.out.cell (World.block_lt_of_cell? w _ xC)).trans xC
         replace xE := (HB.out.cell (World.block_lt_of_cell? w _ xE)).trans xE
         have Jh := ae.mk BJ
         have Jg := ae.mk BK
         clear BJ BK
         replace GZ := eq_true GZ
         replace G6 := eq_true G6
         go_wp2_with (first | ((with_reducible refine au (N := 5) rfl ?_); refine aG ?hg (N := 5) ?hd (cs := #[.int .u8 0, .int .i64 0, .int .i64 0, .int .i64 0, .int .i64 0, .int .i64 0, .slice none 0 0]) (t := 26) ?hr ?_; (case hd => rfl); (case hg => rfl); (case hr => first | (go_simp; done) | (go_simp; rfl)); intro fE hg w9 hbox hb; have qN := ae.mk (Kd.mi (by (with_reducible repeat (first | apply Kd.mg | apply Kd.mr | apply Kd.nP)); exact lg.out) hb); have qO := ae.mk (ak (by repeat (first | (with_reducible first | exact HB.out | apply aX | apply aV | apply bQ) | exact HB.out)) hb); have tq := ae.mk (hbox); have vU := ae.mk ((by rw [hg]; exact (dI (by repeat (first | (with_reducible first | exact HB.out | apply aX | apply aV | apply bQ) | exact HB.out))) : w.heap.size ≤ fE)); have V3 := ae.mk ((by rw [hg]; exact (dI (by repeat (first | (with_reducible first | exact HB.out | apply aX | apply aV | apply bQ) | exact HB.out))) : w.heap.size ≤ fE)); clear lg; clear HB; have lg := qN; have HB := qO; have dP := tq; have afI := vU; have rV := V3; clear qN qO tq vU V3; clear hb hbox hg; have Jz : w9.cell? ⟨fE, 0, none⟩ = some (.int .u8 0) := (af dP.out 0).trans rfl; have JA : w9.cell? ⟨fE, 1, none⟩ = some (.int .i64 0) := (af dP.out 1).trans rfl; have JB : w9.cell? ⟨fE, 2, none⟩ = some (.int .i64 0) := (af dP.out 2).trans rfl; have JC : w9.cell? ⟨fE, 3, none⟩ = some (.int .i64 0) := (af dP.out 3).trans rfl; have ZE : w9.cell? ⟨fE, 4, none⟩ = some (.int .i64 0) := (af dP.out 4).trans rfl; have ZF : w9.cell? ⟨fE, 5, none⟩ = some (.int .i64 0) := (af dP.out 5).trans rfl; have ZG : w9.cell? ⟨fE, 6, none⟩ = some (.slice none 0 0) := (af dP.out 6).trans rfl; have JH := ah dP.out 0; have JI := ah dP.out 1; have JJ := ah dP.out 2; have JK := ah dP.out 3; have aao := ah dP.out 4; have aap := ah dP.out 5; have aaq := ah dP.out 6) | ((with_reducible refine oL (b := .append) (xs := #[.tmp 15, .tmp 18]) rfl ?_); at_builtin; refine Kd.Gs (Kd.int .i64) (w0 := w) w.heap.size rfl (.tmp 15) (.tmp 18) 41 3 (.int .i64 0) 8 rfl Try.underlying41 info3 rfl (by decide) (by omega) u3 kN ((aj l0 aW).f2) [.int .i64 ((aj l0 aW).f2)] (fun _ => True) (fun _ => False) rfl (by first | (go_simp; done) | (go_simp; rfl)) ?aP (fun _ hk => hk.elim) ?aF ?aO ?aB ?aS ?aL ?_; (case aP => exact rfl); (case aB => exact (by repeat (first | (with_reducible first | exact HB.out | apply aX | apply aV | apply bQ | refine ig ?_ rV.out) | exact HB.out))); (case aF => exact (fun _ _ => trivial)); (case aO => exact (by (with_reducible repeat (first | apply Kd.mg | apply Kd.mr | apply Kd.nP)); exact Kd.lL (Kd.ny (p := ⟨fE, 6, none⟩) (Kd.ny (p := ⟨fE, 5, none⟩) (Kd.ny (p := ⟨fE, 4, none⟩) (Kd.ny (p := ⟨fE, 3, none⟩) (Kd.ny (p := ⟨fE, 2, none⟩) (Kd.ny (p := ⟨fE, 1, none⟩) (Kd.ny (p := ⟨fE, 0, none⟩) (Kd.Jl lg.out dP.out (by decide)) (fun _ hk => hk.2) (.int .u8 ((aj l0 aW).f0))) (fun _ hk => hk.2) (.int .i64 ((aj l0 aW).f1.f0))) (fun _ hk => hk.2) (.int .i64 ((aj l0 aW).f1.f1))) (fun _ hk => hk.2) (.int .i64 ((aj l0 aW).f1.f2))) (fun _ hk => hk.2) (.int .i64 ((aj l0 aW).f1.f3))) (fun _ hk => hk.2) (.int .i64 ((aj l0 aW).f2))) (fun _ hk => hk.2) (.slice rD ((aj l0 aW).f3).length rF)) (fun _ hk => trivial))); (case aS => exact (dI (by repeat (first | (with_reducible first | exact HB.out | apply aX | apply aV | apply bQ | refine ig ?_ rV.out) | exact HB.out)))); (case aL => have := ahE.out; omega); intro ail uu ho hb hg hat; rw [← afX.out] at ho; have qN := ae.mk (bT (g := fE) (o := .cells #[.int .u8 ((aj l0 aW).f0), .int .i64 ((aj l0 aW).f1.f0), .int .i64 ((aj l0 aW).f1.f1), .int .i64 ((aj l0 aW).f1.f2), .int .i64 ((aj l0 aW).f1.f3), .int .i64 ((aj l0 aW).f2), .slice rD ((aj l0 aW).f3).length rF] 26 (0, 0)) (by (with_reducible repeat (first | refine fO ?_ _ | refine fA ?_ | refine fM ?_ _)); refine d_ (cs := #[.int .u8 ((aj l0 aW).f0), .int .i64 ((aj l0 aW).f1.f0), .int .i64 ((aj l0 aW).f1.f1), .int .i64 ((aj l0 aW).f1.f2), .int .i64 ((aj l0 aW).f1.f3), .int .i64 ((aj l0 aW).f2), .slice none 0 0]) ?_ 6 _ rfl; (with_reducible repeat (first | refine fO ?_ _ | refine fA ?_ | refine fM ?_ _)); refine d_ (cs := #[.int .u8 ((aj l0 aW).f0), .int .i64 ((aj l0 aW).f1.f0), .int .i64 ((aj l0 aW).f1.f1), .int .i64 ((aj l0 aW).f1.f2), .int .i64 ((aj l0 aW).f1.f3), .int .i64 0, .slice none 0 0]) ?_ 5 _ rfl; (with_reducible repeat (first | refine fO ?_ _ | refine fA ?_ | refine fM ?_ _)); refine d_ (cs := #[.int .u8 ((aj l0 aW).f0), .int .i64 ((aj l0 aW).f1.f0), .int .i64 ((aj l0 aW).f1.f1), .int .i64 ((aj l0 aW).f1.f2), .int .i64 0, .int .i64 0, .slice none 0 0]) ?_ 4 _ rfl; (with_reducible repeat (first | refine fO ?_ _ | refine fA ?_ | refine fM ?_ _)); refine d_ (cs := #[.int .u8 ((aj l0 aW).f0), .int .i64 ((aj l0 aW).f1.f0), .int .i64 ((aj l0 aW).f1.f1), .int .i64 0, .int .i64 0, .int .i64 0, .slice none 0 0]) ?_ 3 _ rfl; (with_reducible repeat (first | refine fO ?_ _ | refine fA ?_ | refine fM ?_ _)); refine d_ (cs := #[.int .u8 ((aj l0 aW).f0), .int .i64 ((aj l0 aW).f1.f0), .int .i64 0, .int .i64 0, .int .i64 0, .int .i64 0, .slice none 0 0]) ?_ 2 _ rfl; (with_reducible repeat (first | refine fO ?_ _ | refine fA ?_ | refine fM ?_ _)); refine d_ (cs := #[.int .u8 ((aj l0 aW).f0), .int .i64 0, .int .i64 0, .int .i64 0, .int .i64 0, .int .i64 0, .slice none 0 0]) ?_ 1 _ rfl; (with_reducible repeat (first | refine fO ?_ _ | refine fA ?_ | refine fM ?_ _)); refine d_ (cs := #[.int .u8 0, .int .i64 0, .int .i64 0, .int .i64 0, .int .i64 0, .int .i64 0, .slice none 0 0]) ?_ 0 _ rfl; (with_reducible repeat (first | refine fO ?_ _ | refine fA ?_ | refine fM ?_ _)); exact dP.out) hg (Kd.Be lg.out dP.out (by decide))); have qO := ae.mk (hb); have tq := ae.mk (ho); clear dP; clear HB; clear lg; have dP := qN; have HB := qO; have BZ := tq; clear qN qO tq; clear ho hb hg hat; have QI : uu.cell? ⟨fE, 0, none⟩ = some (.int .u8 ((aj l0 aW).f0)) := (af dP.out 0).trans rfl; have QJ : uu.cell? ⟨fE, 1, none⟩ = some (.int .i64 ((aj l0 aW).f1.f0)) := (af dP.out 1).trans rfl; have QK : uu.cell? ⟨fE, 2, none⟩ = some (.int .i64 ((aj l0 aW).f1.f1)) := (af dP.out 2).trans rfl; have QL : uu.cell? ⟨fE, 3, none⟩ = some (.int .i64 ((aj l0 aW).f1.f2)) := (af dP.out 3).trans rfl; have ZO : uu.cell? ⟨fE, 4, none⟩ = some (.int .i64 ((aj l0 aW).f1.f3)) := (af dP.out 4).trans rfl; have ZP : uu.cell? ⟨fE, 5, none⟩ = some (.int .i64 ((aj l0 aW).f2)) := (af dP.out 5).trans rfl; have ZQ : uu.cell? ⟨fE, 6, none⟩ = some (.slice rD ((aj l0 aW).f3).length rF) := (af dP.out 6).trans rfl; have QQ := ah dP.out 0; have QR := ah dP.out 1; have QS := ah dP.out 2; have QT := ah dP.out 3; have aay := ah dP.out 4; have aaz := ah dP.out 5; have aaA := ah dP.out 6) | ((with_reducible refine lK (f := 83) rfl ?_); refine nR (some 23) rfl rfl Try.func83 (by kernel_rfl) rfl #[.slice rD ((aj l0 aW).f3).length rF] rfl (by (try simp only [List.map_toArray, List.map_cons, List.map_nil]); first | done | rfl | (simp only [List.length_drop, List.length_take]; rfl)) ?_; (with_reducible refine (ih k1 (by have := qJ.out; omega) _ _ ((aj l0 aW).f3) xN _ ?rC ?wY A7.out).mono ?_); (case rC => repeat (first | exact (Kd.eY Jh.out HB.out) | (with_reducible refine Kd.EZ ?_ _) | (with_reducible refine Kd.E5 ?_ _) | (with_reducible refine Kd.Hy ?_))); (case wY => exact Jg.out); rintro e uw ⟨alB, rfl, ho0, hb⟩; refine ⟨_, rfl, ?_⟩; have qN := ae.mk (Kd.NJ (by (with_reducible repeat (first | apply Kd.mg | apply Kd.mr | apply Kd.nP)); exact BZ.out) (Kd.DK ho0) hb); have qO := ae.mk (Kd.rM (Kd.UB ho0 (Kd.Gu (by (with_reducible repeat (first | apply Kd.mg | apply Kd.mr | apply Kd.nP)); exact BZ.out))) (dI (by repeat (first | (with_reducible first | exact HB.out | apply aX | apply aV | apply bQ | refine ig ?_ rV.out) | exact HB.out)))); have tq := ae.mk (aN (g := fE) (o := .cells #[.int .u8 ((aj l0 aW).f0), .int .i64 ((aj l0 aW).f1.f0), .int .i64 ((aj l0 aW).f1.f1), .int .i64 ((aj l0 aW).f1.f2), .int .i64 ((aj l0 aW).f1.f3), .int .i64 ((aj l0 aW).f2), .slice rD ((aj l0 aW).f3).length rF] 26 (0, 0)) (by (with_reducible repeat (first | refine fO ?_ _ | refine fA ?_ | refine fM ?_ _)); exact dP.out) hb); have vU := ae.mk (ak (by repeat (first | (with_reducible first | exact HB.out | apply aX | apply aV | apply bQ | refine ig ?_ rV.out) | exact HB.out)) hb); clear BZ; clear dP; clear HB; have BZ := qN; have Fb := qO; have dP := tq; have HB := vU; clear qN qO tq vU; (try clear hb); (try clear hb2); (try clear hk); (try clear hi); (try clear ho0); obtain ⟨MQ, Oq, XB⟩ := Kd.jw Fb.out; subst XB) | ((with_reducible refine oL (b := .append) (xs := #[.tmp 20, .tmp 23]) rfl ?_); at_builtin; refine Kd.rE (Kd.int .i64) (w0 := w) w.heap.size rfl (.tmp 20) (.tmp 23) 41 3 (.int .i64 0) 8 rfl Try.underlying41 info3 rfl (by decide) (by omega) ail Bo xN _ _ _ (fun k_ => some k_ ≠ (.slice MQ xN.length Oq : Value).ownBlock) (fun _ => False) rfl rfl ?aO ?aR (fun _ _ h => h) (fun _ h => h.elim) ?aF ?aB ?aS ?aL ?_; (case aR => repeat (first | exact (Kd.gy Fb.out).2.2 | (with_reducible refine Kd.EZ ?_ _) | (with_reducible refine Kd.E5 ?_ _) | (with_reducible refine Kd.Hy ?_))); (case aB => exact (by repeat (first | (with_reducible first | exact HB.out | apply aX | apply aV | apply bQ | refine ig ?_ rV.out) | exact HB.out))); (case aF => exact (fun k_ hk => Kd.fresh' (Kd.Gu (by (with_reducible repeat (first | apply Kd.mg | apply Kd.mr | apply Kd.nP)); exact Fb.out)) k_ hk)); (case aO => exact (by (with_reducible repeat (first | apply Kd.mg | apply Kd.mr | apply Kd.nP)); exact Kd.lL BZ.out (fun _ hk => hk.2))); (case aS => exact (dI (by repeat (first | (with_reducible first | exact HB.out | apply aX | apply aV | apply bQ | refine ig ?_ rV.out) | exact HB.out)))); (case aL => have := ahF.out; omega); intro alC w14 ho hb hg hat; rw [← afY.out] at ho; have qN := ae.mk (bT (g := fE) (o := .cells #[.int .u8 ((aj l0 aW).f0), .int .i64 ((aj l0 aW).f1.f0), .int .i64 ((aj l0 aW).f1.f1), .int .i64 ((aj l0 aW).f1.f2), .int .i64 ((aj l0 aW).f1.f3), .int .i64 ((aj l0 aW).f2), .slice rD ((aj l0 aW).f3).length rF] 26 (0, 0)) (by (with_reducible repeat (first | refine fO ?_ _ | refine fA ?_ | refine fM ?_ _)); exact dP.out) hg (Kd.Be BZ.out dP.out (by decide))); have qO := ae.mk (Kd.Qr (ok := (fun _ => True)) (by (with_reducible repeat (first | apply Kd.mg | apply Kd.mr | apply Kd.nP)); exact Fb.out) hg hat); have tq := ae.mk (hb); have vU := ae.mk (ho); clear dP; clear Fb; clear HB; clear BZ; have dP := qN; have Fb := qO; have HB := tq; have afN := vU; clear qN qO tq vU; clear ho hb hg hat))
         go_roundg k1
         case measure => have := qJ.out; omega
         case rel => exact ⟨(afC), (wrap64 (aW + 1)), (by first | rfl | (simp; done) | (simp [*]; done)), H', ⟨by have := qJ.out; omega⟩, ⟨by (with_reducible repeat (first | apply Kd.mg | apply Kd.mr | apply Kd.nP)); exact Kd.lL afN.out (fun _ hk => trivial)⟩, ⟨by repeat (first | (with_reducible first | exact HB.out | apply aX | apply aV | apply bQ | refine ig ?_ rV.out) | exact HB.out)⟩⟩
        ·rw [if_neg c8] at H
         exact absurd H (by simp)
       ·rw [if_neg c6] at H
        exact absurd H (by simp)
      ·rw [if_neg c5] at H
       have DN : (((aj l0 aW).f0) == 1) = false := beq_eq_false_iff_ne.mpr c5
       have ahK : (((aj l0 aW).f0) != 1) = true := bne_iff_ne.mpr c5
       replace H := Option.bind_eq_some_iff.mp H
       obtain ⟨Bj, acd, H⟩ := H
       replace H : (if kN.length + Bj.length < 17592186044416 then (dE.l0 k1 (kN ++ Bj) l0 (l0.length : Int) (wrap64 (aW + 1))) else (none)) = some r := H
       have A16 := ae.mk acd
       clear acd
       by_cases c17 : kN.length + Bj.length < 17592186044416
       ·rw [if_pos c17] at H
        have afS := ae.mk c17
        clear c17
        obtain ⟨afD, IK⟩ : ∃ y_ : List Int, y_ = (kN ++ Bj) := ⟨_, rfl⟩
        replace H : (dE.l0 k1 afD l0 (l0.length : Int) (wrap64 (aW + 1))) = some r := by first | (rw [IK]; with_reducible exact H) | (have DC := (Option.bind_some _ _).symm.trans H; rw [IK]; with_reducible exact DC) | (have DC := (Option.bind_some _ _).symm.trans H; with_reducible exact DC) | with_reducible exact H | (rw [IK]; exact H) | exact H
        have afZ := ae.mk IK
        clear IK
        have H' := ae.mk H
        clear H
        have GZ : 0 ≤ (aW : Int) := of_decide_eq_true (by first | (with_reducible assumption) | assumption)
        have G6 : aW < (l0.length : Int) := of_decide_eq_true (by first | (with_reducible assumption) | assumption)
        obtain ⟨af8, rD, rF, Xz, xw, xx, xy, xA, xB, xC, xE, BK, BJ⟩ := pG HR0.out aW GZ G6
        cases Xz
        replace xw := (HB.out.cell (World.block_lt_of_cell? w _ xw)).trans xw
        replace xx := (HB.out.cell (World.block_lt_of_cell? w _ xx)).trans xx
        replace xy := (HB.out.cell (World.block_lt_of_cell? w _ xy)).trans xy
        replace xA := (HB.out.cell (World.block_lt_of_cell? w _ xA)).trans xA
        replace xB := (HB.out.cell (World.block_lt_of_cell? w _ xB)).trans xB
        replace xC := (HB.out.cell (World.block_lt_of_cell? w _ xC)).trans xC
        replace xE := (HB.out.cell (World.block_lt_of_cell? w _ xE)).trans xE
        have Jh := ae.mk BJ
        have Jg := ae.mk BK
        clear BJ BK
        replace GZ := eq_true GZ
        replace G6 := eq_true G6
        go_wp2_with (first | ((with_reducible refine au (N := 5) rfl ?_); refine aG ?hg (N := 5) ?hd (cs := #[.int .u8 0, .int .i64 0, .int .i64 0, .int .i64 0, .int .i64 0, .int .i64 0, .slice none 0 0]) (t := 26) ?hr ?_; (case hd => rfl); (case hg => rfl); (case hr => first | (go_simp; done) | (go_simp; rfl)); intro fE hg PU hbox hb; have qN := ae.mk (Kd.mi (by (with_reducible repeat (first | apply Kd.mg | apply Kd.mr | apply Kd.nP)); exact lg.out) hb); have qO := ae.mk (ak (by repeat (first | (with_reducible first | exact HB.out | apply aX | apply aV | apply bQ) | exact HB.out)) hb); have tq := ae.mk (hbox); have vU := ae.mk ((by rw [hg]; exact (dI (by repeat (first | (with_reducible first | exact HB.out | apply aX | apply aV | apply bQ) | exact HB.out))) : w.heap.size ≤ fE)); have V3 := ae.mk ((by rw [hg]; exact (dI (by repeat (first | (with_reducible first | exact HB.out | apply aX | apply aV | apply bQ) | exact HB.out))) : w.heap.size ≤ fE)); clear lg; clear HB; have lg := qN; have HB := qO; have dP := tq; have afI := vU; have rV := V3; clear qN qO tq vU V3; clear hb hbox hg; have aiv : PU.cell? ⟨fE, 0, none⟩ = some (.int .u8 0) := (af dP.out 0).trans rfl; have aiw : PU.cell? ⟨fE, 1, none⟩ = some (.int .i64 0) := (af dP.out 1).trans rfl; have aix : PU.cell? ⟨fE, 2, none⟩ = some (.int .i64 0) := (af dP.out 2).trans rfl; have aiy : PU.cell? ⟨fE, 3, none⟩ = some (.int .i64 0) := (af dP.out 3).trans rfl; have aiz : PU.cell? ⟨fE, 4, none⟩ = some (.int .i64 0) := (af dP.out 4).trans rfl; have aiA : PU.cell? ⟨fE, 5, none⟩ = some (.int .i64 0) := (af dP.out 5).trans rfl; have aiB : PU.cell? ⟨fE, 6, none⟩ = some (.slice none 0 0) := (af dP.out 6).trans rfl; have aiO := ah dP.out 0; have aiP := ah dP.out 1; have aiQ := ah dP.out 2; have aiR := ah dP.out 3; have aiS := ah dP.out 4; have aiT := ah dP.out 5; have aiU := ah dP.out 6) | ((with_reducible refine lK (f := 83) rfl ?_); refine nR (some 23) rfl rfl Try.func83 (by kernel_rfl) rfl #[.slice rD ((aj l0 aW).f3).length rF] rfl (by (try simp only [List.map_toArray, List.map_cons, List.map_nil]); first | done | rfl | (simp only [List.length_drop, List.length_take]; rfl)) ?_; (with_reducible refine (ih k1 (by have := qJ.out; omega) _ _ ((aj l0 aW).f3) Bj _ ?rC ?wY A16.out).mono ?_); (case rC => exact Kd.eY Jh.out (by repeat (first | (with_reducible first | exact HB.out | apply aX | apply aV | apply bQ | refine ig ?_ rV.out) | exact HB.out))); (case wY => exact Jg.out); rintro e w20 ⟨alD, rfl, ho0, hb⟩; refine ⟨_, rfl, ?_⟩; have qN := ae.mk (Kd.NJ (by (with_reducible repeat (first | apply Kd.mg | apply Kd.mr | apply Kd.nP)); exact (Kd.lL (Kd.ny (p := ⟨fE, 6, none⟩) (Kd.ny (p := ⟨fE, 5, none⟩) (Kd.ny (p := ⟨fE, 4, none⟩) (Kd.ny (p := ⟨fE, 3, none⟩) (Kd.ny (p := ⟨fE, 2, none⟩) (Kd.ny (p := ⟨fE, 1, none⟩) (Kd.ny (p := ⟨fE, 0, none⟩) (Kd.Jl lg.out dP.out (by decide)) (fun _ hk => hk.2) (.int .u8 ((aj l0 aW).f0))) (fun _ hk => hk.2) (.int .i64 ((aj l0 aW).f1.f0))) (fun _ hk => hk.2) (.int .i64 ((aj l0 aW).f1.f1))) (fun _ hk => hk.2) (.int .i64 ((aj l0 aW).f1.f2))) (fun _ hk => hk.2) (.int .i64 ((aj l0 aW).f1.f3))) (fun _ hk => hk.2) (.int .i64 ((aj l0 aW).f2))) (fun _ hk => hk.2) (.slice rD ((aj l0 aW).f3).length rF)) (fun _ h_ => h_.1))) (Kd.DK ho0) hb); have qO := ae.mk (Kd.rM (Kd.UB ho0 (Kd.Gu (by (with_reducible repeat (first | apply Kd.mg | apply Kd.mr | apply Kd.nP)); exact (Kd.lL (Kd.ny (p := ⟨fE, 6, none⟩) (Kd.ny (p := ⟨fE, 5, none⟩) (Kd.ny (p := ⟨fE, 4, none⟩) (Kd.ny (p := ⟨fE, 3, none⟩) (Kd.ny (p := ⟨fE, 2, none⟩) (Kd.ny (p := ⟨fE, 1, none⟩) (Kd.ny (p := ⟨fE, 0, none⟩) (Kd.Jl lg.out dP.out (by decide)) (fun _ hk => hk.2) (.int .u8 ((aj l0 aW).f0))) (fun _ hk => hk.2) (.int .i64 ((aj l0 aW).f1.f0))) (fun _ hk => hk.2) (.int .i64 ((aj l0 aW).f1.f1))) (fun _ hk => hk.2) (.int .i64 ((aj l0 aW).f1.f2))) (fun _ hk => hk.2) (.int .i64 ((aj l0 aW).f1.f3))) (fun _ hk => hk.2) (.int .i64 ((aj l0 aW).f2))) (fun _ hk => hk.2) (.slice rD ((aj l0 aW).f3).length rF)) (fun _ h_ => h_.1))))) (dI (by repeat (first | (with_reducible first | exact HB.out | apply aX | apply aV | apply bQ | refine ig ?_ rV.out) | exact HB.out)))); have tq := ae.mk (aN (g := fE) (o := .cells #[.int .u8 ((aj l0 aW).f0), .int .i64 ((aj l0 aW).f1.f0), .int .i64 ((aj l0 aW).f1.f1), .int .i64 ((aj l0 aW).f1.f2), .int .i64 ((aj l0 aW).f1.f3), .int .i64 ((aj l0 aW).f2), .slice rD ((aj l0 aW).f3).length rF] 26 (0, 0)) (by (with_reducible repeat (first | refine fO ?_ _ | refine fA ?_ | refine fM ?_ _)); refine d_ (cs := #[.int .u8 ((aj l0 aW).f0), .int .i64 ((aj l0 aW).f1.f0), .int .i64 ((aj l0 aW).f1.f1), .int .i64 ((aj l0 aW).f1.f2), .int .i64 ((aj l0 aW).f1.f3), .int .i64 ((aj l0 aW).f2), .slice none 0 0]) ?_ 6 _ rfl; (with_reducible repeat (first | refine fO ?_ _ | refine fA ?_ | refine fM ?_ _)); refine d_ (cs := #[.int .u8 ((aj l0 aW).f0), .int .i64 ((aj l0 aW).f1.f0), .int .i64 ((aj l0 aW).f1.f1), .int .i64 ((aj l0 aW).f1.f2), .int .i64 ((aj l0 aW).f1.f3), .int .i64 0, .slice none 0 0]) ?_ 5 _ rfl; (with_reducible repeat (first | refine fO ?_ _ | refine fA ?_ | refine fM ?_ _)); refine d_ (cs := #[.int .u8 ((aj l0 aW).f0), .int .i64 ((aj l0 aW).f1.f0), .int .i64 ((aj l0 aW).f1.f1), .int .i64 ((aj l0 aW).f1.f2), .int .i64 0, .int .i64 0, .slice none 0 0]) ?_ 4 _ rfl; (with_reducible repeat (first | refine fO ?_ _ | refine fA ?_ | refine fM ?_ _)); refine d_ (cs := #[.int .u8 ((aj l0 aW).f0), .int .i64 ((aj l0 aW).f1.f0), .int .i64 ((aj l0 aW).f1.f1), .int .i64 0, .int .i64 0, .int .i64 0, .slice none 0 0]) ?_ 3 _ rfl; (with_reducible repeat (first | refine fO ?_ _ | refine fA ?_ | refine fM ?_ _)); refine d_ (cs := #[.int .u8 ((aj l0 aW).f0), .int .i64 ((aj l0 aW).f1.f0), .int .i64 0, .int .i64 0, .int .i64 0, .int .i64 0, .slice none 0 0]) ?_ 2 _ rfl; (with_reducible repeat (first | refine fO ?_ _ | refine fA ?_ | refine fM ?_ _)); refine d_ (cs := #[.int .u8 ((aj l0 aW).f0), .int .i64 0, .int .i64 0, .int .i64 0, .int .i64 0, .int .i64 0, .slice none 0 0]) ?_ 1 _ rfl; (with_reducible repeat (first | refine fO ?_ _ | refine fA ?_ | refine fM ?_ _)); refine d_ (cs := #[.int .u8 0, .int .i64 0, .int .i64 0, .int .i64 0, .int .i64 0, .int .i64 0, .slice none 0 0]) ?_ 0 _ rfl; (with_reducible repeat (first | refine fO ?_ _ | refine fA ?_ | refine fM ?_ _)); exact dP.out) hb); have vU := ae.mk (ak (by repeat (first | (with_reducible first | exact HB.out | apply aX | apply aV | apply bQ | refine ig ?_ rV.out) | exact HB.out)) hb); clear lg; clear dP; clear HB; have lg := qN; have Fe := qO; have dP := tq; have HB := vU; clear qN qO tq vU; (try clear hb); (try clear hb2); (try clear hk); (try clear hi); (try clear ho0); obtain ⟨ahz, ahO, ahT⟩ := Kd.jw Fe.out; subst ahT) | ((with_reducible refine oL (b := .append) (xs := #[.tmp 20, .tmp 23]) rfl ?_); at_builtin; refine Kd.rE (Kd.int .i64) (w0 := w) w.heap.size rfl (.tmp 20) (.tmp 23) 41 3 (.int .i64 0) 8 rfl Try.underlying41 info3 rfl (by decide) (by omega) u3 kN Bj _ _ _ (fun k_ => some k_ ≠ (.slice ahz Bj.length ahO : Value).ownBlock) (fun _ => False) rfl rfl ?aO ?aR (fun _ _ h => h) (fun _ h => h.elim) ?aF ?aB ?aS ?aL ?_; (case aR => repeat (first | exact (Kd.gy Fe.out).2.2 | (with_reducible refine Kd.EZ ?_ _) | (with_reducible refine Kd.E5 ?_ _) | (with_reducible refine Kd.Hy ?_))); (case aB => exact (by repeat (first | (with_reducible first | exact HB.out | apply aX | apply aV | apply bQ | refine ig ?_ rV.out) | exact HB.out))); (case aF => exact (fun k_ hk => Kd.fresh' (Kd.Gu (by (with_reducible repeat (first | apply Kd.mg | apply Kd.mr | apply Kd.nP)); exact Fe.out)) k_ hk)); (case aO => exact (by (with_reducible repeat (first | apply Kd.mg | apply Kd.mr | apply Kd.nP)); exact Kd.lL lg.out (fun _ hk => hk.2))); (case aS => exact (dI (by repeat (first | (with_reducible first | exact HB.out | apply aX | apply aV | apply bQ | refine ig ?_ rV.out) | exact HB.out)))); (case aL => have := afS.out; omega); intro alE Gg ho hb hg hat; rw [← afZ.out] at ho; have qN := ae.mk (bT (g := fE) (o := .cells #[.int .u8 ((aj l0 aW).f0), .int .i64 ((aj l0 aW).f1.f0), .int .i64 ((aj l0 aW).f1.f1), .int .i64 ((aj l0 aW).f1.f2), .int .i64 ((aj l0 aW).f1.f3), .int .i64 ((aj l0 aW).f2), .slice rD ((aj l0 aW).f3).length rF] 26 (0, 0)) (by (with_reducible repeat (first | refine fO ?_ _ | refine fA ?_ | refine fM ?_ _)); exact dP.out) hg (Kd.Be lg.out dP.out (by decide))); have qO := ae.mk (Kd.Qr (ok := (fun _ => True)) (by (with_reducible repeat (first | apply Kd.mg | apply Kd.mr | apply Kd.nP)); exact Fe.out) hg hat); have tq := ae.mk (hb); have vU := ae.mk (ho); clear dP; clear Fe; clear HB; clear lg; have dP := qN; have Fe := qO; have HB := tq; have afO := vU; clear qN qO tq vU; clear ho hb hg hat))
        go_roundg k1
        case measure => have := qJ.out; omega
        case rel => exact ⟨(afD), (wrap64 (aW + 1)), (by first | rfl | (simp; done) | (simp [*]; done)), H', ⟨by have := qJ.out; omega⟩, ⟨by (with_reducible repeat (first | apply Kd.mg | apply Kd.mr | apply Kd.nP)); exact Kd.lL afO.out (fun _ hk => trivial)⟩, ⟨by repeat (first | (with_reducible first | exact HB.out | apply aX | apply aV | apply bQ | refine ig ?_ rV.out) | exact HB.out)⟩⟩
       ·rw [if_neg c17] at H
        exact absurd H (by simp)
     ·rw [if_neg c4] at H
      exact absurd H (by simp)
    ·rw [if_neg c3] at H
     exact absurd H (by simp)
   ·rw [if_neg c2] at H
    have Gw : decide (aW < (l0.length : Int)) = false := decide_eq_false c2
    clear c2
    obtain rfl := Option.some.inj H
    go_wp2
    go_ret
    exact ⟨_, by first | rfl | (simp [mJ, mM] <;> rfl) | (simp [*, mJ, mM] <;> rfl), by (with_reducible repeat (first | apply Kd.mg | apply Kd.mr | apply Kd.nP)); exact lg.out, by repeat (first | (with_reducible first | exact HB.out | apply aX | apply aV | apply bQ) | exact HB.out)⟩
end Go.Proofs.Ytfdmfgaiblfbhaa.P
namespace Go.Proofs.Ytfdmfgaiblfbhaa.P
open Go.RowKit Go.Proofs.ag.aA Go.Proofs.ag.bg Go.Proofs.ag.bG
def kL (l : List ai) : List Int := ((allL l).filter fun x => decide (x.f0 = 1)).map (·.f2)
theorem XP (a b : List ai) : kL (a ++ b) = kL a ++ kL b := by
 unfold kL
 rw [pX, List.filter_append, List.map_append]
theorem XQ (x : ai) : kL [x] = (if x.f0 = 1 then [x.f2] else []) ++ kL x.f3 := by
 unfold kL
 rw [iK, lh, List.append_nil, lC]
 by_cases h : x.f0 = 1
 ·rw [if_pos h, List.filter_cons_of_pos (by simpa using h)]
  rfl
 ·rw [if_neg h, List.filter_cons_of_neg (by simpa using h)]
  rfl
theorem GU (l : List ai) : (kL l).length ≤ dO l := by unfold kL; rw [List.length_map]; exact List.length_filter_le _ _
theorem Jq : ∀ (N : Nat) (l : List ai), dO l ≤ N → N ≤ 1048576 → Ev (fun k => dE.f k l) (kL l) := by
 intro N
 induction N with
 | zero =>
  intro l h _
  cases l with
  | nil =>
   refine ⟨2, fun k hk => ?_⟩
   obtain ⟨m, rfl⟩ : ∃ m, k = m + 2 := ⟨k - 2, by omega⟩
   simp [dE.f, dE.l0, kL, lh]
  | cons x xs => rw [bJ, bP] at h; omega
 | succ N ih =>
  intro l hl hN
  have hlen := jY l
  have key : ∀ (rest pre : List ai), pre ++ rest = l → Ev (fun k => dE.l0 k (kL pre) l (l.length : Int) (pre.length : Int)) (kL l) := by
   intro rest
   induction rest with
   | nil =>
    intro pre hp
    rw [List.append_nil] at hp
    refine Ev.step (f := fun _ => some (kL l)) (fun k => ?_) (Ev.now _)
    simp only [dE.l0]
    rw [if_neg (by rw [hp]; omega), hp]
   | cons x xs ihr =>
    intro pre hp
    have hs := bP x
    have hlt : (pre.length : Int) < (l.length : Int) := by rw [← hp, List.length_append, List.length_cons]; omega
    have hsum : dO l = dO pre + (sz x + dO xs) := by rw [← hp, jX, bJ]
    have e2 := ihr (pre ++ [x]) (by rw [List.append_assoc]; exact hp)
    have hr : aj l (pre.length : Int) = x := by rw [← hp]; exact lD pre x xs
    have hu : wrap64 ((pre.length : Int) + 1) = ((pre ++ [x]).length : Int) := FU pre x xs (by rw [hp]; omega)
    have h1 := GU pre
    have h2 := GU x.f3
    rw [XP, XQ] at e2
    have hx := ih x.f3 (by omega) (by omega)
    by_cases hk : x.f0 = 1
    ·rw [if_pos hk, ← List.append_assoc] at e2
     have hb : (kL pre ++ [x.f2]).length + (kL x.f3).length < 17592186044416 := by rw [List.length_append, List.length_singleton]; omega
     refine Ev.step (f := fun k => (dE.f k x.f3).bind fun t => (if (kL pre ++ [x.f2]).length + t.length < 17592186044416 then (dE.l0 k ((kL pre ++ [x.f2]) ++ t) l (l.length : Int) ((pre ++ [x]).length : Int)) else none)) (fun k => ?_) (Ev.bind hx (DZ hb e2))
     simp only [dE.l0]
     rw [if_pos hlt, if_pos (by omega), if_pos hlt, hr, if_pos hk, if_pos (by omega), Option.bind_some, hu]
    ·rw [if_neg hk, List.nil_append] at e2
     refine Ev.step (f := fun k => (dE.f k x.f3).bind fun t => (if (kL pre).length + t.length < 17592186044416 then (dE.l0 k (kL pre ++ t) l (l.length : Int) ((pre ++ [x]).length : Int)) else none)) (fun k => ?_) (Ev.bind hx (DZ (by omega) e2))
     simp only [dE.l0]
     rw [if_pos hlt, if_pos (by omega), if_pos hlt, hr, if_neg hk, hu]
  refine Ev.step (fun k => ?_) (key l [] rfl)
  simp only [dE.f]
  unfold kL
  rw [lh]
  rfl
end Go.Proofs.Ytfdmfgaiblfbhaa.P
namespace Go.Proofs.Ytfdmfgaiblfbhaa.P
open Go.RowKit Go.Proofs.ag.aA Go.Proofs.ag.bg Go.Proofs.ag.bG
attribute [local go_sem] jD jQ kM kV jo jq kC kD
def dn.l0 : Nat → List Int → Int → Int → Int → Option (Int)
 | 0, _, _, _, _ => none
 | k + 1, x0, x1, x7, x8 => if x8 < x7 then (if 0 ≤ x8 then (if x8 < (x0.length : Int) then (if x1 = (rd x0 x8) then (some x8) else (dn.l0 k x0 x1 x7 (wrap64 (x8 + 1)))) else (none)) else (none)) else (some (-1))
def dn.f (k : Nat) (l0 : List Int) (a1 : Int) : Option (Int) := dn.l0 k l0 a1 (l0.length : Int) 0
theorem dn.calls (k : Nat) (A0 : Option Addr) (c0 : Nat) (l0 : List Int) (a1 : Int) (r : Int) (w : World) (hr0 : Kd.C (Kd.int .i64) w A0 l0.length l0) (hc0 : l0.length ≤ c0) (h : dn.f k l0 a1 = some r) :
  Calls Try.prog 188 #[.slice A0 l0.length c0, .int .i64 a1] w fun e w' => e = .returned (.int .i64 r) ∧ eG w w' := by
 have HR0 := ae.mk hr0
 have Yz := ae.mk hc0
 clear hr0 hc0
 have H : (dn.l0 k l0 a1 (l0.length : Int) 0) = some r := h
 clear h
 have H' := ae.mk H
 clear H
 go_enter Try.func188, Try.ntmps188
 go_wp2
 go_loopg [8] k (fun kq v8 w' => ∃ (aW : Int), v8 = .int .i64 aW ∧ ae (dn.l0 kq l0 a1 (l0.length : Int) aW = some r) ∧ ae (kq ≤ k) ∧ eG w w')
 case atStart => exact ⟨(0), (by first | rfl | (simp; done) | (simp [*]; done)), H', ⟨Nat.le_refl _⟩, by repeat (first | exact eG.refl _ | apply eG.step)⟩
 case round =>
  clear H'
  try clear c1
  try clear p2
  obtain ⟨aW, rfl, HA, qJ, ⟨m1, rfl⟩⟩ := hrel
  cases gk with
  | zero => exact absurd HA.out (by simp [dn.l0])
  | succ k1 =>
   have H := HA.out
   clear HA
   simp only [dn.l0] at H
   by_cases c3 : aW < (l0.length : Int)
   ·rw [if_pos c3] at H
    have vz : decide (aW < (l0.length : Int)) = true := decide_eq_true c3
    clear c3
    by_cases c4 : 0 ≤ aW
    ·rw [if_pos c4] at H
     have oJ : decide (0 ≤ aW) = true := decide_eq_true c4
     clear c4
     by_cases c5 : aW < (l0.length : Int)
     ·rw [if_pos c5] at H
      have DN : decide (aW < (l0.length : Int)) = true := decide_eq_true c5
      clear c5
      by_cases c6 : a1 = (rd l0 aW)
      ·rw [if_pos c6] at H
       have CB : (a1 == (rd l0 aW)) = true := beq_iff_eq.mpr c6
       have Oc : (a1 != (rd l0 aW)) = false := bne_eq_false_iff_eq.mpr c6
       clear c6
       obtain rfl := Option.some.inj H
       have Dc : 0 ≤ (aW : Int) := of_decide_eq_true (by first | (with_reducible assumption) | assumption)
       have Dh : aW < (l0.length : Int) := of_decide_eq_true (by first | (with_reducible assumption) | assumption)
       obtain ⟨acU, Sv, XO⟩ := Kd.sS HR0.out aW Dc Dh
       cases Sv
       replace Dc := eq_true Dc
       replace Dh := eq_true Dh
       go_wp2
       go_ret
       exact ⟨by first | rfl | (simp; done) | (simp [*]; done), by repeat (first | exact eG.refl _ | apply eG.step)⟩
      ·rw [if_neg c6] at H
       have CB : (a1 == (rd l0 aW)) = false := beq_eq_false_iff_ne.mpr c6
       have Oc : (a1 != (rd l0 aW)) = true := bne_iff_ne.mpr c6
       have H' := ae.mk H
       clear H
       have Dc : 0 ≤ (aW : Int) := of_decide_eq_true (by first | (with_reducible assumption) | assumption)
       have Dh : aW < (l0.length : Int) := of_decide_eq_true (by first | (with_reducible assumption) | assumption)
       obtain ⟨acU, Sv, XO⟩ := Kd.sS HR0.out aW Dc Dh
       cases Sv
       replace Dc := eq_true Dc
       replace Dh := eq_true Dh
       go_wp2
       go_roundg k1
       case measure => have := qJ.out; omega
       case rel => exact ⟨(wrap64 (aW + 1)), (by first | rfl | (simp; done) | (simp [*]; done)), H', ⟨by have := qJ.out; omega⟩, by repeat (first | exact eG.refl _ | apply eG.step)⟩
     ·rw [if_neg c5] at H
      exact absurd H (by simp)
    ·rw [if_neg c4] at H
     exact absurd H (by simp)
   ·rw [if_neg c3] at H
    have vz : decide (aW < (l0.length : Int)) = false := decide_eq_false c3
    clear c3
    obtain rfl := Option.some.inj H
    go_wp2
    go_ret
    exact ⟨by first | rfl | (simp; done) | (simp [*]; done), by repeat (first | exact eG.refl _ | apply eG.step)⟩
def kQ.f (k : Nat) (l0 : List Int) (a1 : Int) : Option (Bool) := (dn.f k l0 a1).bind fun FT => (some (decide (FT ≥ 0)))
theorem kQ.calls (k : Nat) (A0 : Option Addr) (c0 : Nat) (l0 : List Int) (a1 : Int) (r : Bool) (w : World) (hr0 : Kd.C (Kd.int .i64) w A0 l0.length l0) (hc0 : l0.length ≤ c0) (h : kQ.f k l0 a1 = some r) :
  Calls Try.prog 165 #[.slice A0 l0.length c0, .int .i64 a1] w fun e w' => e = .returned (.bool r) ∧ eG w w' := by
 have HR0 := ae.mk hr0
 have Yz := ae.mk hc0
 clear hr0 hc0
 have H : ((dn.f k l0 a1).bind fun FT => (some (decide (FT ≥ 0)))) = some r := h
 clear h
 replace H := Option.bind_eq_some_iff.mp H
 obtain ⟨FT, Ua, H⟩ := H
 replace H : (some (decide (FT ≥ 0))) = some r := H
 have A3 := ae.mk Ua
 clear Ua
 obtain rfl := Option.some.inj H
 go_enter Try.func165, Try.ntmps165
 go_wp2_with (first | ((with_reducible refine lK (f := 188) rfl ?_); refine nR (some 7) rfl rfl Try.func188 (by kernel_rfl) rfl #[.slice A0 l0.length c0, .int .i64 a1] rfl (by (try simp only [List.map_toArray, List.map_cons, List.map_nil]); first | done | rfl | (simp only [List.length_drop, List.length_take]; rfl)) ?_; (with_reducible refine (dn.calls k _ _ l0 a1 FT _ ?rC ?wY A3.out).mono ?_); (case rC => repeat (first | exact HR0.out | (with_reducible refine Kd.EZ ?_ _) | (with_reducible refine Kd.E5 ?_ _) | (with_reducible refine Kd.Hy ?_))); (case wY => exact Yz.out); rintro e w' ⟨rfl, ⟨nd, rfl⟩⟩; refine ⟨_, rfl, ?_⟩))
 go_ret
 exact ⟨by first | rfl | (simp; done) | (simp [*]; done), by repeat (first | exact eG.refl _ | apply eG.step)⟩
end Go.Proofs.Ytfdmfgaiblfbhaa.P
namespace Go.Proofs.Ytfdmfgaiblfbhaa.P
open Go.RowKit Go.Proofs.ag.aA Go.Proofs.ag.bg Go.Proofs.ag.bG
theorem UF {α : Type} (q : α → Bool) : ∀ l : List α, l.any q = (l.find? q).isSome := by
 intro l
 induction l with
 | nil => rfl
 | cons x xs ih =>
  rw [List.any_cons, List.find?_cons, ih]
  cases q x <;> rfl
theorem aba (id : Int) (c : ai) : ((kL [c]).any fun x => decide (id = x)) = (dQ id c).isSome := by
 have e : ((kL [c]).any fun x => decide (id = x)) = (xJ id c).isSome := by
  unfold kL xJ jy
  rw [iK, lh, List.append_nil, List.any_map, UF]
  congr 2
  funext x
  simp only [Function.comp, eq_comm]
 rw [e]
 cases hf : dQ id c with
 | none => rw [G_ hf]; rfl
 | some p =>
  obtain ⟨z, hz, _⟩ := (xn id _).1 c (Nat.le_refl _) p hf
  rw [Ha hf hz]
  rfl
theorem XR (l : List Int) (x : Int) (h : l.length ≤ 1048576) : ∃ j : Int, Ev (fun k => dn.f k l x) j ∧ decide (j ≥ 0) = l.any fun y => decide (x = y) := by
 unfold dn.f
 have key : ∀ (rest pre : List Int), pre ++ rest = l → ∃ j : Int, Ev (fun k => dn.l0 k l x (l.length : Int) (pre.length : Int)) j ∧ decide (j ≥ 0) = rest.any fun y => decide (x = y) := by
  intro rest
  induction rest with
  | nil =>
   intro pre hp
   rw [List.append_nil] at hp
   refine ⟨-1, Ev.step (f := fun _ => some (-1)) (fun k => ?_) (Ev.now _), rfl⟩
   simp only [dn.l0]
   rw [if_neg (by rw [hp]; omega)]
  | cons y ys ih =>
   intro pre hp
   have hl : (pre.length : Int) < (l.length : Int) := by rw [← hp, List.length_append, List.length_cons]; omega
   have hr : rd l (pre.length : Int) = y := by rw [← hp]; unfold rd; simp
   by_cases hx : x = y
   ·refine ⟨(pre.length : Int), Ev.step (f := fun _ => some (pre.length : Int)) (fun k => ?_) (Ev.now _), ?_⟩
    ·simp only [dn.l0]
     rw [if_pos hl, if_pos (by omega), if_pos hl, if_pos (by rw [hr]; exact hx)]
    ·rw [List.any_cons, decide_eq_true hx, Bool.true_or]
     exact decide_eq_true (by omega)
   ·obtain ⟨j, e, hj⟩ := ih (pre ++ [y]) (by rw [List.append_assoc]; exact hp)
    refine ⟨j, Ev.step (fun k => ?_) e, by rw [List.any_cons, decide_eq_false hx, Bool.false_or]; exact hj⟩
    simp only [dn.l0]
    rw [if_pos hl, if_pos (by omega), if_pos hl, if_neg (by rw [hr]; exact hx)]
    rw [show wrap64 ((pre.length : Int) + 1) = ((pre ++ [y]).length : Int) from FU pre y ys (by rw [hp]; omega)]
 exact key l [] rfl
theorem PX (id : Int) (c : ai) (h : sz c ≤ 1048576) : Ev (fun k => kQ.f k (kL [c]) id) (dQ id c).isSome := by
 have hl := GU [c]
 rw [bJ, nK] at hl
 obtain ⟨j, e, hj⟩ := XR (kL [c]) id (by omega)
 unfold kQ.f
 refine Ev.bind e ?_
 rw [← aba, ← hj]
 exact Ev.now _
theorem IL {id : Int} {c : ai} {v : Bool} {A : Option Addr} {cc : Nat} {W : World} (hz : sz c ≤ 1048576) (h : (dQ id c).isSome = v) (hC : Kd.C (Kd.int .i64) W A (kL [c]).length (kL [c])) (hc : (kL [c]).length ≤ cc) :
  Calls Try.prog 165 #[.slice A (kL [c]).length cc, .int .i64 id] W fun e w' => e = .returned (.bool v) ∧ eG W w' := by
 obtain ⟨k, hk⟩ := (PX id c hz).rounds
 rw [h] at hk
 exact kQ.calls k A cc _ id v W hC hc hk
def vX.T10 : Bool × List (List Nat × List Nat) := (true, [([], []), ([], []), ([], []), ([], []), ([], []), ([], []), ([], []), ([], []), ([], []), ([4, 5, 6, 7, 8], [4, 5, 6, 7, 8]), ([0, 1, 2, 3, 9, 9], [0, 1, 2, 3, 9]), ([], []), ([11, 10, 10, 0, 1, 2, 3, 4, 5, 6, 7, 8, 9, 10, 11], [10, 11])])
def vX.B10 : List Nat := [0, 0, 0, 0, 0, 0, 0, 0, 0, 496, 1023, 0, 4095]
theorem vX.agM : iY .any (opsOf Try.f120 10) = vX.T10 := by kernel_rfl
theorem vX.ac0 : jA vX.T10.2 vX.B10 = true := by kernel_rfl
theorem CX (c : ai) {W : World} {A : Option Addr} {cc : Nat} (hz : sz c ≤ 1048576) (h1 : Kd.C k26 W A 1 [c]) (h2 : 1 ≤ cc) : Calls Try.prog 83 #[.slice A 1 cc] W fun e w' => ∃ A' c', e = .returned (.slice A' (kL [c]).length c') ∧ Kd.C (Kd.int .i64) w' A' (kL [c]).length (kL [c]) ∧ (kL [c]).length ≤ c' ∧ Below W.heap.size W w' := by
 obtain ⟨k, hk⟩ := (Jq (dO [c]) [c] (Nat.le_refl _) (by rw [bJ, nK]; omega)).rounds
 refine (dE.calls k A cc [c] _ W h1 h2 hk).mono ?_
 rintro e w1 ⟨v, rfl, hR, hb⟩
 obtain ⟨A', c', rfl⟩ := Kd.jw hR
 have h := Kd.gy hR
 exact ⟨A', c', rfl, h.2.2, h.2.1, hb⟩
theorem afj (c : ai) {W : World} {A : Option Addr} {cc : Nat} (hz : sz c ≤ 1048576) (h1 : Kd.C k26 W A 1 [c]) (h2 : 1 ≤ cc) : Calls Try.prog 82 #[.slice A 1 cc] W fun e w' => e = .returned (.int .i64 (sz c : Int)) ∧ Below W.heap.size W w' := by
 have he : dO [c] = sz c := by rw [bJ, nK]; rfl
 obtain ⟨k, hk⟩ := (Om (dO [c]) [c] (Nat.le_refl _) (by omega)).rounds
 rw [he] at hk
 exact gG.calls k A cc [c] _ W h1 h2 hk
theorem Kq {ax : Int} (hax : ax = 1 ∨ ax = 2) (c leaf : ai) (p : List Int) (L : List ai) (z : ai) (hj : CU ax L c p leaf = some z) (hat : jT c p = some leaf) (hz : sz c ≤ 800000) (hp : p.length ≤ 1000000) (hL : L.length = 2) (hLz : dO L ≤ 1000) {base : Nat} {B : Option Addr} {cb : Nat} {o : Obj} (HI : IR base (.slice B p.length cb) p o)
  {w W : World} {P : Nat → Prop} {bs : List (Option Nat × Obj)} {ts : List (Value × List ai)} {ro : List (Addr × Value)} {ga cL cc cl : Nat} {A Al : Option Addr} (S : St w P bs [(.slice (some ⟨ga, 0, none⟩) L.length cL, L)] ts ro W) (hm : (.slice A c.f3.length cc, c.f3) ∈ ts) (hmb : ((Value.slice B p.length cb).ownBlock, o) ∈ bs) :
  Calls Try.prog 166 #[.agg #[.int .u8 c.f0, .int .i64 c.f1.f0, .int .i64 c.f1.f1, .int .i64 c.f1.f2, .int .i64 c.f1.f3, .int .i64 c.f2, .slice A c.f3.length cc], .slice B p.length cb, .agg #[.int .u8 leaf.f0, .int .i64 leaf.f1.f0, .int .i64 leaf.f1.f1, .int .i64 leaf.f1.f2, .int .i64 leaf.f1.f3, .int .i64 leaf.f2, .slice Al leaf.f3.length cl], .int .u8 ax, .slice (some ⟨ga, 0, none⟩) L.length cL] W (Ur W (Ok w P (keys bs [])) z) := by
 obtain ⟨cur, hga, hle, _, hsz⟩ := YJ S.AZ
 have hi := xk HI S hmb
 exact abh ax hax c leaf p L z hj hat hz hp hL hLz (Ok w P (keys bs [])) A cc Al cl B cb ga cL cur W (dX (S.free.tree _ (.tail _ hm))) hi.1 hi.2 (dX (S.free.tree _ (.head _))) hga (by omega)
theorem Yp (c : ai) (hz : sz c ≤ 1000) (id ax size fresh : Int) (ahead : Bool) (O5 : I64 size) (P : Nat → Prop) (A : Option Addr) (cc : Nat) (w : World) (hv : Kd.V k26 26 w w.heap.size P (.slice A c.f3.length cc) c.f3) :
  Calls Try.prog 120 #[.agg #[.int .u8 c.f0, .int .i64 c.f1.f0, .int .i64 c.f1.f1, .int .i64 c.f1.f2, .int .i64 c.f1.f3, .int .i64 c.f2, .slice A c.f3.length cc], .int .i64 id, .int .u8 ax, .int .i64 size, .int .i64 fresh, .bool ahead] w (MH w P (Dl id ax size fresh ahead c) (iq id ax size fresh c)) := by
 have S := ae.mk (St.start (ts := [(.slice A c.f3.length cc, c.f3)]) (b0 := w.heap.size) (w := w) (P := P) (fun t ht => by rw [List.mem_singleton.1 ht]; exact hv))
 have HZ := ae.mk (show sz c ≤ 1000000 by omega)
 have mG := ae.mk (show sz c ≤ 1048576 by omega)
 have WW := ae.mk (show sz c ≤ 800000 by omega)
 have HZ1 := ae.mk hz
 have KY := ae.mk O5
 obtain ⟨ab, hab⟩ : ∃ ab : Bool, decide (ax = 1 ∨ ax = 2) = ab := ⟨_, rfl⟩
 have HAB := ae.mk hab
 have hpl := fun p (h : dQ id c = some p) => (GH id (sz c)).1 c (Nat.le_refl _) p h
 obtain ⟨zz, hzz⟩ : ∃ z, Dl id ax size fresh ahead c = z := ⟨_, rfl⟩
 obtain ⟨nn, hnn⟩ : ∃ n, iq id ax size fresh c = n := ⟨_, rfl⟩
 rw [hzz, hnn]
 have B_ := ae.mk hzz
 have BX := ae.mk hnn
 have ahD := ae.mk hpl
 clear hv hz O5 hab hzz hnn hpl
 obtain ⟨ck, ⟨cx, cy, cw, ch⟩, aQ, l⟩ := c
 simp only [] at S ⊢
 go_enter Try.func120, Try.ntmps120
 go_upto_region 1 with (first
  | (refine boxS 6 _ 26 S ?_; clear S; intro b6 eU S)
  | (refine boxS 12 _ 26 S ?_; clear S; intro b12 fV S)
  | fail)
 (try simp only [Act.put, List.setIfInBounds_toArray, List.set_cons_zero, List.set_cons_succ])
 go_cut [14] (fun v14 wc => v14 = .bool ab ∧ ae (St w P [(some b12, .cells #[.int .u8 0, .int .i64 0, .int .i64 0, .int .i64 0, .int .i64 0, .int .i64 0, .slice none 0 0] 26 (0, 0)), (some b6, .cells #[.int .u8 ck, .int .i64 cx, .int .i64 cy, .int .i64 cw, .int .i64 ch, .int .i64 aQ, .slice A l.length cc] 26 (0, 0))] [] [(.slice A l.length cc, l)] [] wc))
 case first =>
  by_cases h1 : ax = 1
  case pos =>
   have e := HAB.out
   rw [decide_eq_true (show ax = 1 ∨ ax = 2 from .inl h1) ] at e
   subst e
   obtain ⟨h1a, h1b, h1d⟩ := vN (a := ax) (b := 1) (by omega)
   clear h1
   go_wp2
   go_meet
   case rel => exact ⟨by first | rfl | simp, S⟩
  case neg =>
   by_cases h2 : ax = 2
   case pos =>
    have e := HAB.out
    rw [decide_eq_true (show ax = 1 ∨ ax = 2 from .inr h2) ] at e
    subst e
    obtain ⟨h1a, h1b, h1d⟩ := eqF (a := ax) (b := 1) (by omega)
    obtain ⟨D7, h2b, h2d⟩ := vN (a := ax) (b := 2) (by omega)
    clear h1 h2
    go_wp2
    go_meet
    case rel => exact ⟨by first | rfl | simp, S⟩
   case neg =>
    have e := HAB.out
    rw [decide_eq_false (show ¬ (ax = 1 ∨ ax = 2) from fun h => h.elim h1 h2) ] at e
    subst e
    obtain ⟨h1a, h1b, h1d⟩ := eqF (a := ax) (b := 1) (by omega)
    obtain ⟨D7, h2b, h2d⟩ := eqF (a := ax) (b := 2) (by omega)
    clear h1 h2
    go_wp2
    go_meet
    case rel => exact ⟨by first | rfl | simp, S⟩
 case rest =>
  clear S
  obtain ⟨rfl, S⟩ := hcut
  rename World => wx
  cases ht : dF ⟨ck, ⟨cx, cy, cw, ch⟩, aQ, l⟩ with
  | false =>
   have HT := ae.mk ht
   have hN : iq id ax size fresh ⟨ck, ⟨cx, cy, cw, ch⟩, aQ, l⟩ = 1 := by unfold iq; rw [if_pos (.inl ht)]
   have hz0 := jR (ahead := ahead) hN (by decide)
   rw [B_.out] at hz0
   rw [BX.out] at hN
   subst hz0 hN
   clear ht
   obtain ⟨bW, bK, bM, bY, bZ, b_, cO⟩ := St.dS S bf
   go_wp2_with (first
    | ((with_reducible refine au (N := 27) rfl ?_); refine mD (N := 27) rfl rfl ⟨ck, ⟨cx, cy, cw, ch⟩, aQ, l⟩ S.out (S.out.tree _ (.head _)) ?hr ?_; (case hr => first | (go_simp; done) | (go_simp; rfl)); intro Dz DX eU S1 h1 h2; replace S := ae.mk S1; have kZ := ae.mk h1; have nC := ae.mk h2; clear S1 h1 h2; clear bW bK bM bY bZ b_ cO)
    | (refine bI (some 28) Try.func148 S (jL HT.out (qG ⟨ck, ⟨cx, cy, cw, ch⟩, aQ, l⟩ mG.out nC.out kZ.out)) ?_; clear S; intro fV S)
    | (refine fC 26 12 53 #[.int .u8 0, .int .i64 0, .int .i64 0, .int .i64 0, .int .i64 0, .int .i64 0, .slice none 0 0] 0 7 S ?_; clear S; intro gz S)
    | fail)
   refine bodyPost_ret (dY rfl _ _ b12 26 _ (0, 0) _ rfl (S.out.blk _ (.head _) _ rfl) Try.underlying26 rfl (by kernel_rfl)) rfl ?_
   exact ⟨_, _, rfl, Kd.ni _ _ _ _ _, S.out.below⟩
  | true =>
   cases ab with
   | false =>
    have HT := ae.mk ht
    have hN : iq id ax size fresh ⟨ck, ⟨cx, cy, cw, ch⟩, aQ, l⟩ = 1 := by unfold iq; rw [if_pos (.inr (.inl (of_decide_eq_false HAB.out)))]
    have hz0 := jR (ahead := ahead) hN (by decide)
    rw [B_.out] at hz0
    rw [BX.out] at hN
    subst hz0 hN
    clear ht
    obtain ⟨bW, bK, bM, bY, bZ, b_, cO⟩ := St.dS S bf
    go_wp2_with (first
     | ((with_reducible refine au (N := 27) rfl ?_); refine mD (N := 27) rfl rfl ⟨ck, ⟨cx, cy, cw, ch⟩, aQ, l⟩ S.out (S.out.tree _ (.head _)) ?hr ?_; (case hr => first | (go_simp; done) | (go_simp; rfl)); intro Dz DX eU S1 h1 h2; replace S := ae.mk S1; have kZ := ae.mk h1; have nC := ae.mk h2; clear S1 h1 h2; clear bW bK bM bY bZ b_ cO)
     | (refine bI (some 28) Try.func148 S (jL HT.out (qG ⟨ck, ⟨cx, cy, cw, ch⟩, aQ, l⟩ mG.out nC.out kZ.out)) ?_; clear S; intro fV S)
     | (refine fC 26 12 53 #[.int .u8 0, .int .i64 0, .int .i64 0, .int .i64 0, .int .i64 0, .int .i64 0, .slice none 0 0] 0 7 S ?_; clear S; intro gz S)
     | fail)
    refine bodyPost_ret (dY rfl _ _ b12 26 _ (0, 0) _ rfl (S.out.blk _ (.head _) _ rfl) Try.underlying26 rfl (by kernel_rfl)) rfl ?_
    exact ⟨_, _, rfl, Kd.ni _ _ _ _ _, S.out.below⟩
   | true =>
    by_cases h2 : size < 0
    case pos =>
     have HT := ae.mk ht
     have hN : iq id ax size fresh ⟨ck, ⟨cx, cy, cw, ch⟩, aQ, l⟩ = 1 := by unfold iq; rw [if_pos (.inr (.inr (.inl h2)))]
     have hz0 := jR (ahead := ahead) hN (by decide)
     rw [B_.out] at hz0
     rw [BX.out] at hN
     subst hz0 hN
     obtain ⟨D7, h2b⟩ := o5 (a := size) (b := 0) (by omega)
     clear ht h2
     obtain ⟨bW, bK, bM, bY, bZ, b_, cO⟩ := St.dS S bf
     go_wp2_with (first
      | ((with_reducible refine au (N := 27) rfl ?_); refine mD (N := 27) rfl rfl ⟨ck, ⟨cx, cy, cw, ch⟩, aQ, l⟩ S.out (S.out.tree _ (.head _)) ?hr ?_; (case hr => first | (go_simp; done) | (go_simp; rfl)); intro Dz DX eU S1 h1 h2; replace S := ae.mk S1; have kZ := ae.mk h1; have nC := ae.mk h2; clear S1 h1 h2; clear bW bK bM bY bZ b_ cO)
      | (refine bI (some 28) Try.func148 S (jL HT.out (qG ⟨ck, ⟨cx, cy, cw, ch⟩, aQ, l⟩ mG.out nC.out kZ.out)) ?_; clear S; intro fV S)
      | (refine fC 26 12 53 #[.int .u8 0, .int .i64 0, .int .i64 0, .int .i64 0, .int .i64 0, .int .i64 0, .slice none 0 0] 0 7 S ?_; clear S; intro gz S)
      | fail)
     refine bodyPost_ret (dY rfl _ _ b12 26 _ (0, 0) _ rfl (S.out.blk _ (.head _) _ rfl) Try.underlying26 rfl (by kernel_rfl)) rfl ?_
     exact ⟨_, _, rfl, Kd.ni _ _ _ _ _, S.out.below⟩
    case neg =>
     by_cases h3 : fresh < 0
     case pos =>
      have HT := ae.mk ht
      have hN : iq id ax size fresh ⟨ck, ⟨cx, cy, cw, ch⟩, aQ, l⟩ = 1 := by unfold iq; rw [if_pos (.inr (.inr (.inr (.inl h3))))]
      have hz0 := jR (ahead := ahead) hN (by decide)
      rw [B_.out] at hz0
      rw [BX.out] at hN
      subst hz0 hN
      obtain ⟨D7, h2b⟩ := gU (a := size) (b := 0) (by omega)
      obtain ⟨OC, h3b⟩ := o5 (a := fresh) (b := 0) (by omega)
      clear ht h2 h3
      obtain ⟨bW, bK, bM, bY, bZ, b_, cO⟩ := St.dS S bf
      go_wp2_with (first
       | ((with_reducible refine au (N := 27) rfl ?_); refine mD (N := 27) rfl rfl ⟨ck, ⟨cx, cy, cw, ch⟩, aQ, l⟩ S.out (S.out.tree _ (.head _)) ?hr ?_; (case hr => first | (go_simp; done) | (go_simp; rfl)); intro Dz DX eU S1 h1 h2; replace S := ae.mk S1; have kZ := ae.mk h1; have nC := ae.mk h2; clear S1 h1 h2; clear bW bK bM bY bZ b_ cO)
       | (refine bI (some 28) Try.func148 S (jL HT.out (qG ⟨ck, ⟨cx, cy, cw, ch⟩, aQ, l⟩ mG.out nC.out kZ.out)) ?_; clear S; intro fV S)
       | (refine fC 26 12 53 #[.int .u8 0, .int .i64 0, .int .i64 0, .int .i64 0, .int .i64 0, .int .i64 0, .slice none 0 0] 0 7 S ?_; clear S; intro gz S)
       | fail)
      refine bodyPost_ret (dY rfl _ _ b12 26 _ (0, 0) _ rfl (S.out.blk _ (.head _) _ rfl) Try.underlying26 rfl (by kernel_rfl)) rfl ?_
      exact ⟨_, _, rfl, Kd.ni _ _ _ _ _, S.out.below⟩
     case neg =>
      by_cases h4 : 2147483647 < fresh
      case pos =>
       have HT := ae.mk ht
       have hN : iq id ax size fresh ⟨ck, ⟨cx, cy, cw, ch⟩, aQ, l⟩ = 1 := by unfold iq; rw [if_pos (.inr (.inr (.inr (.inr (.inl h4)))))]
       have hz0 := jR (ahead := ahead) hN (by decide)
       rw [B_.out] at hz0
       rw [BX.out] at hN
       subst hz0 hN
       obtain ⟨D7, h2b⟩ := gU (a := size) (b := 0) (by omega)
       obtain ⟨OC, h3b⟩ := gU (a := fresh) (b := 0) (by omega)
       obtain ⟨YT, IE⟩ := o5 (a := 2147483647) (b := fresh) (by omega)
       clear ht h2 h3 h4
       obtain ⟨bW, bK, bM, bY, bZ, b_, cO⟩ := St.dS S bf
       go_wp2_with (first
        | ((with_reducible refine au (N := 27) rfl ?_); refine mD (N := 27) rfl rfl ⟨ck, ⟨cx, cy, cw, ch⟩, aQ, l⟩ S.out (S.out.tree _ (.head _)) ?hr ?_; (case hr => first | (go_simp; done) | (go_simp; rfl)); intro Dz DX eU S1 h1 h2; replace S := ae.mk S1; have kZ := ae.mk h1; have nC := ae.mk h2; clear S1 h1 h2; clear bW bK bM bY bZ b_ cO)
        | (refine bI (some 28) Try.func148 S (jL HT.out (qG ⟨ck, ⟨cx, cy, cw, ch⟩, aQ, l⟩ mG.out nC.out kZ.out)) ?_; clear S; intro fV S)
        | (refine fC 26 12 53 #[.int .u8 0, .int .i64 0, .int .i64 0, .int .i64 0, .int .i64 0, .int .i64 0, .slice none 0 0] 0 7 S ?_; clear S; intro gz S)
        | fail)
       refine bodyPost_ret (dY rfl _ _ b12 26 _ (0, 0) _ rfl (S.out.blk _ (.head _) _ rfl) Try.underlying26 rfl (by kernel_rfl)) rfl ?_
       exact ⟨_, _, rfl, Kd.ni _ _ _ _ _, S.out.below⟩
      case neg =>
       have hax : ax = 1 ∨ ax = 2 := of_decide_eq_true HAB.out
       have HT := ae.mk ht
       cases hnf : dQ fresh ⟨ck, ⟨cx, cy, cw, ch⟩, aQ, l⟩ with
       | some pf =>
        have hN : iq id ax size fresh ⟨ck, ⟨cx, cy, cw, ch⟩, aQ, l⟩ = 1 := by unfold iq; rw [if_pos (.inr (.inr (.inr (.inr (.inr (by rw [hnf]; rfl))))))]
        have hz0 := jR (ahead := ahead) hN (by decide)
        rw [B_.out] at hz0
        rw [BX.out] at hN
        subst hz0 hN
        have Ue := ae.mk (show (dQ fresh ⟨ck, ⟨cx, cy, cw, ch⟩, aQ, l⟩).isSome = true by rw [hnf]; rfl)
        obtain ⟨D7, h2b⟩ := gU (a := size) (b := 0) (by omega)
        obtain ⟨OC, h3b⟩ := gU (a := fresh) (b := 0) (by omega)
        obtain ⟨YT, IE⟩ := gU (a := 2147483647) (b := fresh) (by omega)
        clear ht hax h2 h3 h4 hnf
        obtain ⟨bW, bK, bM, bY, bZ, b_, cO⟩ := St.dS S bf
        go_wp2_with (first
         | ((with_reducible refine au (N := 27) rfl ?_); refine mD (N := 27) rfl rfl ⟨ck, ⟨cx, cy, cw, ch⟩, aQ, l⟩ S.out (S.out.tree _ (.head _)) ?hr ?_; (case hr => first | (go_simp; done) | (go_simp; rfl)); intro Dz DX eU S1 h1 h2; replace S := ae.mk S1; have kZ := ae.mk h1; have nC := ae.mk h2; clear S1 h1 h2; clear bW bK bM bY bZ b_ cO)
         | (refine bI (some 28) Try.func148 S (jL HT.out (qG ⟨ck, ⟨cx, cy, cw, ch⟩, aQ, l⟩ mG.out nC.out kZ.out)) ?_; clear S; intro fV S; obtain ⟨bW, bK, bM, bY, bZ, b_, cO⟩ := St.dS S bf)
         | ((with_reducible refine au (N := 48) rfl ?_); (refine dM (by rfl) ?_; dsimp only); refine mD (N := 48) rfl rfl ⟨ck, ⟨cx, cy, cw, ch⟩, aQ, l⟩ S.out (S.out.tree _ (.head _)) ?hr ?_; (case hr => first | (go_simp; done) | (go_simp; rfl)); intro WS Xq gz S1 h1 h2; replace S := ae.mk S1; have kZ := ae.mk h1; have nC := ae.mk h2; clear S1 h1 h2; clear bW bK bM bY bZ b_ cO)
         | (refine fD 49 rfl ?_; (refine dM (by rfl) ?_; dsimp only); refine nG (some 49) Try.func83 (CX ⟨ck, ⟨cx, cy, cw, ch⟩, aQ, l⟩ mG.out nC.out kZ.out) ?_; rintro e lI ⟨Ai, ci, rfl, hci, hcl, hb⟩; refine ⟨_, rfl, ?_⟩; have Nb := ae.mk hci; have Nc := ae.mk hcl; replace S := ae.mk (S.out.call hb); clear hb; clear hci hcl)
         | (refine fD 51 rfl ?_; (refine dM (by rfl) ?_; dsimp only); refine bI (some 51) Try.func165 S ((IL mG.out Ue.out Nb.out Nc.out).mono (fun _ _ ⟨he, hd⟩ => ⟨he, hd.below⟩)) ?_; clear S; intro mQ S)
         | (refine fC 26 12 53 #[.int .u8 0, .int .i64 0, .int .i64 0, .int .i64 0, .int .i64 0, .int .i64 0, .slice none 0 0] 0 7 S ?_; clear S; intro o6 S)
         | fail)
        refine bodyPost_ret (dY rfl _ _ b12 26 _ (0, 0) _ rfl (S.out.blk _ (.head _) _ rfl) Try.underlying26 rfl (by kernel_rfl)) rfl ?_
        exact ⟨_, _, rfl, Kd.ni _ _ _ _ _, S.out.below⟩
       | none =>
        have Ue := ae.mk (show (dQ fresh ⟨ck, ⟨cx, cy, cw, ch⟩, aQ, l⟩).isSome = false by rw [hnf]; rfl)
        have hno : ¬ (dF ⟨ck, ⟨cx, cy, cw, ch⟩, aQ, l⟩ = false ∨ ¬ (ax = 1 ∨ ax = 2) ∨ size < 0 ∨ fresh < 0 ∨ fresh > 2147483647 ∨ (dQ fresh ⟨ck, ⟨cx, cy, cw, ch⟩, aQ, l⟩).isSome = true) := by
         rw [ht, hnf]
         rintro (h | h | h | h | h | h)
         ·cases h
         ·exact h hax
         ·exact h2 h
         ·exact h3 h
         ·exact h4 h
         ·cases h
        cases hni : dQ id ⟨ck, ⟨cx, cy, cw, ch⟩, aQ, l⟩ with
        | none =>
         have hN : iq id ax size fresh ⟨ck, ⟨cx, cy, cw, ch⟩, aQ, l⟩ = 6 := by unfold iq; rw [if_neg hno, hni]
         have hz0 := jR (ahead := ahead) hN (by decide)
         rw [B_.out] at hz0
         rw [BX.out] at hN
         subst hz0 hN
         have H9 := ae.mk hni
         obtain ⟨D7, h2b⟩ := gU (a := size) (b := 0) (by omega)
         obtain ⟨OC, h3b⟩ := gU (a := fresh) (b := 0) (by omega)
         obtain ⟨YT, IE⟩ := gU (a := 2147483647) (b := fresh) (by omega)
         clear ht hax h2 h3 h4 hnf hno hni
         obtain ⟨bW, bK, bM, bY, bZ, b_, cO⟩ := St.dS S bf
         go_wp2_with (first
          | ((with_reducible refine au (N := 27) rfl ?_); refine mD (N := 27) rfl rfl ⟨ck, ⟨cx, cy, cw, ch⟩, aQ, l⟩ S.out (S.out.tree _ (.head _)) ?hr ?_; (case hr => first | (go_simp; done) | (go_simp; rfl)); intro Dz DX eU S1 h1 h2; replace S := ae.mk S1; have kZ := ae.mk h1; have nC := ae.mk h2; clear S1 h1 h2; clear bW bK bM bY bZ b_ cO)
          | (refine bI (some 28) Try.func148 S (jL HT.out (qG ⟨ck, ⟨cx, cy, cw, ch⟩, aQ, l⟩ mG.out nC.out kZ.out)) ?_; clear S; intro fV S; obtain ⟨bW, bK, bM, bY, bZ, b_, cO⟩ := St.dS S bf)
          | ((with_reducible refine au (N := 48) rfl ?_); (refine dM (by rfl) ?_; dsimp only); refine mD (N := 48) rfl rfl ⟨ck, ⟨cx, cy, cw, ch⟩, aQ, l⟩ S.out (S.out.tree _ (.head _)) ?hr ?_; (case hr => first | (go_simp; done) | (go_simp; rfl)); intro WS Xq gz S1 h1 h2; replace S := ae.mk S1; have kZ := ae.mk h1; have nC := ae.mk h2; clear S1 h1 h2; clear bW bK bM bY bZ b_ cO)
          | (refine fD 49 rfl ?_; (refine dM (by rfl) ?_; dsimp only); refine nG (some 49) Try.func83 (CX ⟨ck, ⟨cx, cy, cw, ch⟩, aQ, l⟩ mG.out nC.out kZ.out) ?_; rintro e lI ⟨Ai, ci, rfl, hci, hcl, hb⟩; refine ⟨_, rfl, ?_⟩; have Nb := ae.mk hci; have Nc := ae.mk hcl; replace S := ae.mk (S.out.call hb); clear hb; clear hci hcl)
          | (refine fD 51 rfl ?_; (refine dM (by rfl) ?_; dsimp only); refine bI (some 51) Try.func165 S ((IL mG.out Ue.out Nb.out Nc.out).mono (fun _ _ ⟨he, hd⟩ => ⟨he, hd.below⟩)) ?_; clear S; intro mQ S; obtain ⟨bW, bK, bM, bY, bZ, b_, cO⟩ := St.dS S bf)
          | (refine Fz (some 57) Try.func89 S (QF id ⟨ck, ⟨cx, cy, cw, ch⟩, aQ, l⟩ H9.out HZ.out (S.out.tree _ (.head _))) ?_; clear S; intro Ap cp op o6 S vI; clear bW bK bM bY bZ b_ cO; obtain ⟨bW, bK, bM, bY, bZ, b_, cO⟩ := St.dS S eF)
          | (refine qw (some 63) Try.func91 S (Bf ⟨ck, ⟨cx, cy, cw, ch⟩, aQ, l⟩ [] ⟨ck, ⟨cx, cy, cw, ch⟩, aQ, l⟩ (by rfl) (by simp) HZ.out (S.out.tree _ (.head _)) (xk vI.out S.out (.head _)).1 (xk vI.out S.out (.head _)).2) ?_; clear S; intro Az cz uy S; clear bW bK bM bY bZ b_ cO)
          | (refine boxS 17 _ 26 S ?_; clear S; intro b17 xe S)
          | (refine fC 26 17 64 #[.int .u8 ck, .int .i64 cx, .int .i64 cy, .int .i64 cw, .int .i64 ch, .int .i64 aQ, .slice Az l.length cz] 0 7 S ?_; clear S; intro BU S)
          | (refine Pv 26 12 68 #[.int .u8 0, .int .i64 0, .int .i64 0, .int .i64 0, .int .i64 0, .int .i64 0, .slice none 0 0] 0 7 S ?_; clear S; intro uB S)
          | fail)
         refine bodyPost_ret (dY rfl _ _ b12 26 _ (0, 0) _ rfl (S.out.blk _ eF _ rfl) Try.underlying26 rfl (by kernel_rfl)) rfl ?_
         exact ⟨_, _, rfl, Kd.ni _ _ _ _ _, S.out.below⟩
        | some p =>
         obtain ⟨leaf, hlf, hlq⟩ := (xn id _).1 _ (Nat.le_refl _) p hni
         clear hlq
         have H9 := ae.mk hni
         have HAT := ae.mk hlf
         have hpl := ahD.out p hni
         have Ql := ae.mk (show p.length ≤ 1000000 by have := HZ1.out; omega)
         have acD := ae.mk (show p.length ≤ 1048576 by have := HZ1.out; omega)
         have hsb := Lu hax ht hlf
         obtain ⟨sv, hsv⟩ : ∃ s, aK ax leaf.f1 = s := ⟨_, rfl⟩
         have Bv := ae.mk hsv
         have Uk := ae.mk (show -1000000 ≤ aK ax leaf.f1 ∧ aK ax leaf.f1 ≤ 1000000 by omega)
         clear hpl
         by_cases h7 : sv < 3
         case pos =>
          have hN : iq id ax size fresh ⟨ck, ⟨cx, cy, cw, ch⟩, aQ, l⟩ = 7 := by unfold iq; rw [if_neg hno, hni]; simp only [hlf]; rw [if_pos (by omega)]
          have hz0 := jR (ahead := ahead) hN (by decide)
          rw [B_.out] at hz0
          rw [BX.out] at hN
          subst hz0 hN
          obtain ⟨U_, Va⟩ := o5 (a := sv) (b := 3) (by omega)
          obtain ⟨D7, h2b⟩ := gU (a := size) (b := 0) (by omega)
          obtain ⟨OC, h3b⟩ := gU (a := fresh) (b := 0) (by omega)
          obtain ⟨YT, IE⟩ := gU (a := 2147483647) (b := fresh) (by omega)
          clear ht hax h2 h3 h4 hnf hno hni hlf hsb hsv h7
          obtain ⟨bW, bK, bM, bY, bZ, b_, cO⟩ := St.dS S bf
          go_wp2_with (first
           | ((with_reducible refine au (N := 27) rfl ?_); refine mD (N := 27) rfl rfl ⟨ck, ⟨cx, cy, cw, ch⟩, aQ, l⟩ S.out (S.out.tree _ (.head _)) ?hr ?_; (case hr => first | (go_simp; done) | (go_simp; rfl)); intro Dz DX eU S1 h1 h2; replace S := ae.mk S1; have kZ := ae.mk h1; have nC := ae.mk h2; clear S1 h1 h2; clear bW bK bM bY bZ b_ cO)
           | (refine bI (some 28) Try.func148 S (jL HT.out (qG ⟨ck, ⟨cx, cy, cw, ch⟩, aQ, l⟩ mG.out nC.out kZ.out)) ?_; clear S; intro fV S; obtain ⟨bW, bK, bM, bY, bZ, b_, cO⟩ := St.dS S bf)
           | ((with_reducible refine au (N := 48) rfl ?_); (refine dM (by rfl) ?_; dsimp only); refine mD (N := 48) rfl rfl ⟨ck, ⟨cx, cy, cw, ch⟩, aQ, l⟩ S.out (S.out.tree _ (.head _)) ?hr ?_; (case hr => first | (go_simp; done) | (go_simp; rfl)); intro WS Xq gz S1 h1 h2; replace S := ae.mk S1; have kZ := ae.mk h1; have nC := ae.mk h2; clear S1 h1 h2; clear bW bK bM bY bZ b_ cO)
           | (refine fD 49 rfl ?_; (refine dM (by rfl) ?_; dsimp only); refine nG (some 49) Try.func83 (CX ⟨ck, ⟨cx, cy, cw, ch⟩, aQ, l⟩ mG.out nC.out kZ.out) ?_; rintro e lI ⟨Ai, ci, rfl, hci, hcl, hb⟩; refine ⟨_, rfl, ?_⟩; have Nb := ae.mk hci; have Nc := ae.mk hcl; replace S := ae.mk (S.out.call hb); clear hb; clear hci hcl)
           | (refine fD 51 rfl ?_; (refine dM (by rfl) ?_; dsimp only); refine bI (some 51) Try.func165 S ((IL mG.out Ue.out Nb.out Nc.out).mono (fun _ _ ⟨he, hd⟩ => ⟨he, hd.below⟩)) ?_; clear S; intro mQ S; obtain ⟨bW, bK, bM, bY, bZ, b_, cO⟩ := St.dS S bf)
           | (refine Fz (some 57) Try.func89 S (AY id ⟨ck, ⟨cx, cy, cw, ch⟩, aQ, l⟩ p H9.out HZ.out (S.out.tree _ (.head _))) ?_; clear S; intro Ap cp op o6 S vI; clear bW bK bM bY bZ b_ cO; obtain ⟨bW, bK, bM, bY, bZ, b_, cO⟩ := St.dS S eF)
           | (refine qw (some 63) Try.func91 S (Bf ⟨ck, ⟨cx, cy, cw, ch⟩, aQ, l⟩ p leaf HAT.out acD.out HZ.out (S.out.tree _ (.head _)) (xk vI.out S.out (.head _)).1 (xk vI.out S.out (.head _)).2) ?_; clear S; intro Az cz uy S; clear bW bK bM bY bZ b_ cO)
           | (refine boxS 17 _ 26 S ?_; clear S; intro b17 xe S)
           | (refine fC 26 17 64 #[.int .u8 leaf.f0, .int .i64 leaf.f1.f0, .int .i64 leaf.f1.f1, .int .i64 leaf.f1.f2, .int .i64 leaf.f1.f3, .int .i64 leaf.f2, .slice Az leaf.f3.length cz] 0 7 S ?_; clear S; intro BU S; have uF := (S.out.at (.head _) 1).trans rfl; have uG := (S.out.at (.head _) 2).trans rfl; have uH := (S.out.at (.head _) 3).trans rfl; have uI := (S.out.at (.head _) 4).trans rfl)
           | (refine bI (some 72) Try.func98 S (I8 Bv.out (I7 leaf.f1 ax)) ?_; clear S; intro uB S; clear uF uG uH uI)
           | (refine Pv 26 12 74 #[.int .u8 0, .int .i64 0, .int .i64 0, .int .i64 0, .int .i64 0, .int .i64 0, .slice none 0 0] 0 7 S ?_; clear S; intro Dq S)
           | fail)
          refine bodyPost_ret (dY rfl _ _ b12 26 _ (0, 0) _ rfl (S.out.blk _ eF _ rfl) Try.underlying26 rfl (by kernel_rfl)) rfl ?_
          exact ⟨_, _, rfl, Kd.ni _ _ _ _ _, S.out.below⟩
         case neg =>
          have hN : iq id ax size fresh ⟨ck, ⟨cx, cy, cw, ch⟩, aQ, l⟩ = 0 := by unfold iq; rw [if_neg hno, hni]; simp only [hlf]; rw [if_neg (by omega)]
          obtain ⟨p', Tf, hSp⟩ := splits hN
          have e1 : p = p' := by have h := hSp.find; rw [hni] at h; exact Option.some.inj h
          subst e1
          have e2 : leaf = Tf := by have h := hSp.at'; rw [hlf] at h; exact Option.some.inj h
          subst e2
          have hzE := B_.out
          rw [hSp.z hN] at hzE
          have hnE := BX.out
          rw [hN] at hnE
          subst hnE
          have hd := zA ht
          have hjo := abf id ax (w_ ax size fresh ahead leaf) _ _ (Nat.le_refl _) hd.1 hd.2 p leaf hni hlf
          obtain ⟨L, hL⟩ : ∃ L, w_ ax size fresh ahead leaf = L := ⟨_, rfl⟩
          rw [hL] at hzE hjo
          have hzs := Tc id ax L _ _ (Nat.le_refl _) p hni hd.1 hd.2
          have h2s : dO L = 2 := by rw [← hL]; exact PS ..
          have YS : L.length = 2 := by rw [← hL]; exact Rq ..
          obtain ⟨z, hzz⟩ : ∃ z, yw id ax L ⟨ck, ⟨cx, cy, cw, ch⟩, aQ, l⟩ = z := ⟨_, rfl⟩
          rw [hzz] at hzs hzE hjo
          simp only [] at hzE
          subst hzE
          have Ul := ae.mk hL
          have HJO := ae.mk hjo
          have y7 := ae.mk hax
          have HL2 := ae.mk YS
          have HL0 := ae.mk (show 0 < L.length by omega)
          have Nq := ae.mk (show dO L ≤ 1000 by omega)
          have Uo := ae.mk (show sz z ≤ 1048576 by have := HZ1.out; omega)
          have HZ6 := ae.mk (show sz z ≤ 1000000 by have := HZ1.out; omega)
          have hza : decide ((sz z : Int) > 20000) = false := decide_eq_false (by have := HZ1.out; omega)
          have hzb : decide (20000 < (sz z : Int)) = false := hza
          have hzc : decide (20000 < sz z) = false := decide_eq_false (by have := HZ1.out; omega)
          have hzd : ¬ (20000 < sz z) := by have := HZ1.out; omega
          obtain ⟨U_, Va⟩ := gU (a := sv) (b := 3) (by omega)
          obtain ⟨D7, h2b⟩ := gU (a := size) (b := 0) (by omega)
          obtain ⟨OC, h3b⟩ := gU (a := fresh) (b := 0) (by omega)
          obtain ⟨YT, IE⟩ := gU (a := 2147483647) (b := fresh) (by omega)
          clear ht hax h2 h3 h4 hnf hno hni hlf hsb hsv h7 hN hSp hd hL hzs h2s YS hzz hjo
          obtain ⟨bW, bK, bM, bY, bZ, b_, cO⟩ := St.dS S bf
          go_wp2_with (first
           | ((with_reducible refine au (N := 27) rfl ?_); refine mD (N := 27) rfl rfl ⟨ck, ⟨cx, cy, cw, ch⟩, aQ, l⟩ S.out (S.out.tree _ (.head _)) ?hr ?_; (case hr => first | (go_simp; done) | (go_simp; rfl)); intro Dz DX eU S1 h1 h2; replace S := ae.mk S1; have kZ := ae.mk h1; have nC := ae.mk h2; clear S1 h1 h2; clear bW bK bM bY bZ b_ cO)
           | (refine bI (some 28) Try.func148 S (jL HT.out (qG ⟨ck, ⟨cx, cy, cw, ch⟩, aQ, l⟩ mG.out nC.out kZ.out)) ?_; clear S; intro fV S; obtain ⟨bW, bK, bM, bY, bZ, b_, cO⟩ := St.dS S bf)
           | ((with_reducible refine au (N := 48) rfl ?_); (refine dM (by rfl) ?_; dsimp only); refine mD (N := 48) rfl rfl ⟨ck, ⟨cx, cy, cw, ch⟩, aQ, l⟩ S.out (S.out.tree _ (.head _)) ?hr ?_; (case hr => first | (go_simp; done) | (go_simp; rfl)); intro WS Xq gz S1 h1 h2; replace S := ae.mk S1; have kZ := ae.mk h1; have nC := ae.mk h2; clear S1 h1 h2; clear bW bK bM bY bZ b_ cO)
           | (refine fD 49 rfl ?_; (refine dM (by rfl) ?_; dsimp only); refine nG (some 49) Try.func83 (CX ⟨ck, ⟨cx, cy, cw, ch⟩, aQ, l⟩ mG.out nC.out kZ.out) ?_; rintro e lI ⟨Ai, ci, rfl, hci, hcl, hb⟩; refine ⟨_, rfl, ?_⟩; have Nb := ae.mk hci; have Nc := ae.mk hcl; replace S := ae.mk (S.out.call hb); clear hb; clear hci hcl)
           | (refine fD 51 rfl ?_; (refine dM (by rfl) ?_; dsimp only); refine bI (some 51) Try.func165 S ((IL mG.out Ue.out Nb.out Nc.out).mono (fun _ _ ⟨he, hd⟩ => ⟨he, hd.below⟩)) ?_; clear S; intro mQ S; obtain ⟨bW, bK, bM, bY, bZ, b_, cO⟩ := St.dS S bf)
           | (refine Fz (some 57) Try.func89 S (AY id ⟨ck, ⟨cx, cy, cw, ch⟩, aQ, l⟩ p H9.out HZ.out (S.out.tree _ (.head _))) ?_; clear S; intro Ap cp op o6 S vI; clear bW bK bM bY bZ b_ cO; obtain ⟨bW, bK, bM, bY, bZ, b_, cO⟩ := St.dS S eF)
           | (refine qw (some 63) Try.func91 S (Bf ⟨ck, ⟨cx, cy, cw, ch⟩, aQ, l⟩ p leaf HAT.out acD.out HZ.out (S.out.tree _ (.head _)) (xk vI.out S.out (.head _)).1 (xk vI.out S.out (.head _)).2) ?_; clear S; intro Az cz uy S; clear bW bK bM bY bZ b_ cO)
           | (refine boxS 17 _ 26 S ?_; clear S; intro b17 xe S)
           | (refine fC 26 17 64 #[.int .u8 leaf.f0, .int .i64 leaf.f1.f0, .int .i64 leaf.f1.f1, .int .i64 leaf.f1.f2, .int .i64 leaf.f1.f3, .int .i64 leaf.f2, .slice Az leaf.f3.length cz] 0 7 S ?_; clear S; intro BU S; have uF := (S.out.at (.head _) 1).trans rfl; have uG := (S.out.at (.head _) 2).trans rfl; have uH := (S.out.at (.head _) 3).trans rfl; have uI := (S.out.at (.head _) 4).trans rfl)
           | (refine bI (some 72) Try.func98 S (I8 Bv.out (I7 leaf.f1 ax)) ?_; clear S; intro uB S; clear uF uG uH uI)
           | fail)
          refine kX (n := 13) (S := fun w' => St w _ _ _ _ _ w') (ds := [12]) (bA 13 0) (by kernel_rfl) rfl rfl (S.out.call (bz (Below.refl _ _))) (fun hHeld => ?_); refine ik vX.agM vX.ac0 (fun az fZ => ?_)
          replace S := ae.mk (S.out.call (bz (Below.refl _ _)))
          generalize uB.drew = alH at S hHeld ⊢
          refine eQ 0 75 (bA 13 1) az fZ hHeld ?_ (hv := by intro w' hs_; have bW := (hs_.at jM 0).trans rfl; have bK := (hs_.at jM 1).trans rfl; have bM := (hs_.at jM 2).trans rfl; have bY := (hs_.at jM 3).trans rfl; have bZ := (hs_.at jM 4).trans rfl; have b_ := (hs_.at jM 5).trans rfl; have cO := (hs_.at jM 6).trans rfl; go_simp; with_reducible rfl)
          refine aJ 1 76 (bA 13 3) az ?_
          refine eQ 2 77 (bA 13 7) az fZ hHeld ?_ (hv := by intro w' hs_; have UI := (hs_.at (.head _) 0).trans rfl; have uF := (hs_.at (.head _) 1).trans rfl; have uG := (hs_.at (.head _) 2).trans rfl; have uH := (hs_.at (.head _) 3).trans rfl; have uI := (hs_.at (.head _) 4).trans rfl; have UJ := (hs_.at (.head _) 5).trans rfl; have UK := (hs_.at (.head _) 6).trans rfl; go_simp; with_reducible rfl)
          refine aJ 3 78 (bA 13 15) az ?_
          refine eQ 4 79 (bA 13 31) az fZ hHeld ?_ (hv := by intro w' hs_; have UI := (hs_.at (.head _) 0).trans rfl; have uF := (hs_.at (.head _) 1).trans rfl; have uG := (hs_.at (.head _) 2).trans rfl; have uH := (hs_.at (.head _) 3).trans rfl; have uI := (hs_.at (.head _) 4).trans rfl; have UJ := (hs_.at (.head _) 5).trans rfl; have UK := (hs_.at (.head _) 6).trans rfl; go_simp; with_reducible rfl)
          refine aJ 5 80 (bA 13 63) az ?_
          refine aJ 6 81 (bA 13 127) az ?_
          refine aJ 7 82 (bA 13 255) az ?_
          refine aJ 8 83 (bA 13 511) az ?_
          refine FI (σ := Nat × Nat × Option Addr × Nat × Nat) 1 (bA 13 4095) (fun s_ => [(84, .slice (some ⟨s_.1, 0, none⟩) L.length s_.2.1), (85, .agg #[.int .u8 z.f0, .int .i64 z.f1.f0, .int .i64 z.f1.f1, .int .i64 z.f1.f2, .int .i64 z.f1.f3, .int .i64 z.f2, .slice s_.2.2.1 z.f3.length s_.2.2.2.1]), (19, .pointer (some ⟨s_.2.2.2.2, 0, none⟩))]) (fun s_ w' => St w P [(some s_.2.2.2.2, .cells #[.int .u8 0, .int .i64 0, .int .i64 0, .int .i64 0, .int .i64 0, .int .i64 0, .slice none 0 0] 26 (0, 0)), (some b17, .cells #[.int .u8 leaf.f0, .int .i64 leaf.f1.f0, .int .i64 leaf.f1.f1, .int .i64 leaf.f1.f2, .int .i64 leaf.f1.f3, .int .i64 leaf.f2, .slice Az leaf.f3.length cz] 26 (0, 0)), ((Value.slice Ap p.length cp).ownBlock, op), (some b12, .cells #[.int .u8 0, .int .i64 0, .int .i64 0, .int .i64 0, .int .i64 0, .int .i64 0, .slice none 0 0] 26 (0, 0)), (some b6, .cells #[.int .u8 ck, .int .i64 cx, .int .i64 cy, .int .i64 cw, .int .i64 ch, .int .i64 aQ, .slice A l.length cc] 26 (0, 0))] [] [(.slice s_.2.2.1 z.f3.length s_.2.2.2.1, z.f3), (.slice (some ⟨s_.1, 0, none⟩) L.length s_.2.1, L), (.slice Az leaf.f3.length cz, leaf.f3), (.slice A l.length cc, l)] [] w') ?_ ?_
          rotate_left
          ·intro nZ
           refine ER (i := 9) (j := 11) (Ni := some 84) (Nj := some 19) (bA 13 1023) (bA 13 2559) rfl rfl rfl rfl (yN az.out (by kernel_rfl)) (by decide) (by decide) (fun K hK => ?_) (fun K hK => ?_)
           ·skip
            refine lU Try.func167 #[.agg #[.int .u8 leaf.f0, .int .i64 leaf.f1.f0, .int .i64 leaf.f1.f1, .int .i64 leaf.f1.f2, .int .i64 leaf.f1.f3, .int .i64 leaf.f2, .slice Az leaf.f3.length cz], .int .u8 ax, .int .i64 size, .int .i64 fresh, .bool ahead] ?_
            refine (FQ Ul.out (WJ leaf ax size fresh ahead Uk.out KY.out _ _ _ _ (dX (S.out.tree _ (.head _))))).mono ?_
            rintro e EW ⟨A9, c9, rfl, h1, hb⟩
            refine ⟨_, rfl, ?_⟩
            obtain ⟨ga, Og, ev, _⟩ := Kd.sN h1 HL0.out
            injection ev with e1 e2 e3
            subst e1
            clear e2 e3
            replace S := ae.mk (S.out.xK h1 hb)
            clear h1 hb
            refine hK.out _ _ S.out.free.dC (fun hHeld => ?_)
            clear hK K
            refine fJ 84 ?_
            refine ER (i := 10) (j := 11) (Ni := some 85) (Nj := some 19) (bA 13 2047) (bA 13 3071) rfl rfl rfl rfl (yN az.out (by kernel_rfl)) (by decide) (by decide) (fun K hK => ?_) (fun K hK => ?_)
            ·skip
             refine lU Try.func166 #[.agg #[.int .u8 ck, .int .i64 cx, .int .i64 cy, .int .i64 cw, .int .i64 ch, .int .i64 aQ, .slice A l.length cc], .slice Ap p.length cp, .agg #[.int .u8 leaf.f0, .int .i64 leaf.f1.f0, .int .i64 leaf.f1.f1, .int .i64 leaf.f1.f2, .int .i64 leaf.f1.f3, .int .i64 leaf.f2, .slice Az leaf.f3.length cz], .int .u8 ax, .slice (some ⟨ga, 0, none⟩) L.length c9] ?_
             refine (Kq y7.out ⟨ck, ⟨cx, cy, cw, ch⟩, aQ, l⟩ leaf p L z HJO.out HAT.out WW.out Ql.out HL2.out Nq.out vI.out S.out bf bf).mono ?_
             rintro e Kz ⟨Hw, IA, rfl, h1, hb⟩
             refine ⟨_, rfl, ?_⟩
             replace S := ae.mk (S.out.free.res h1 hb)
             clear h1 hb
             refine hK.out _ _ S.out.dC.dC (fun hHeld => ?_)
             clear hK K
             refine fJ 85 ?_
             refine kW 11 (some 19) (bA 13 4095) az (fun K hK => ?_)
             refine lM ?hg (N := 19) ?hd (cs := #[.int .u8 0, .int .i64 0, .int .i64 0, .int .i64 0, .int .i64 0, .int .i64 0, .slice none 0 0]) (t := 26) ?hr ?_; (case hd => rfl); (case hg => rfl); (case hr => first | (go_simp; done) | (go_simp; rfl))
             intro b19 hg KA hbox hb
             replace S := ae.mk (S.out.box hg hbox hb)
             clear hg hbox hb
             refine hK.out _ _ S.out.f_.dC.dC (fun hHeld => ?_)
             clear hK K
             refine fJ 19 ?_
             exact pM (by simp only [kE, Act.put, List.setIfInBounds_toArray, List.set_cons_zero, List.set_cons_succ] <;> rfl) (nZ (ga, c9, Hw, IA, b19) _ S.out)
            ·skip
             refine lM ?hg (N := 19) ?hd (cs := #[.int .u8 0, .int .i64 0, .int .i64 0, .int .i64 0, .int .i64 0, .int .i64 0, .slice none 0 0]) (t := 26) ?hr ?_; (case hd => rfl); (case hg => rfl); (case hr => first | (go_simp; done) | (go_simp; rfl))
             intro b19 hg Yu hbox hb
             replace S := ae.mk (S.out.box hg hbox hb)
             clear hg hbox hb
             refine hK.out _ _ S.out.f_.free.dC (fun hHeld => ?_)
             clear hK K
             refine fJ 19 ?_
             refine kW 10 (some 85) (bA 13 4095) az (fun K hK => ?_)
             refine lU Try.func166 #[.agg #[.int .u8 ck, .int .i64 cx, .int .i64 cy, .int .i64 cw, .int .i64 ch, .int .i64 aQ, .slice A l.length cc], .slice Ap p.length cp, .agg #[.int .u8 leaf.f0, .int .i64 leaf.f1.f0, .int .i64 leaf.f1.f1, .int .i64 leaf.f1.f2, .int .i64 leaf.f1.f3, .int .i64 leaf.f2, .slice Az leaf.f3.length cz], .int .u8 ax, .slice (some ⟨ga, 0, none⟩) L.length c9] ?_
             refine (Kq y7.out ⟨ck, ⟨cx, cy, cw, ch⟩, aQ, l⟩ leaf p L z HJO.out HAT.out WW.out Ql.out HL2.out Nq.out vI.out S.out bf eF).mono ?_
             rintro e afs ⟨Hw, IA, rfl, h1, hb⟩
             refine ⟨_, rfl, ?_⟩
             replace S := ae.mk (S.out.free.res h1 hb)
             clear h1 hb
             refine hK.out _ _ S.out.f_.dC.dC (fun hHeld => ?_)
             clear hK K
             refine fJ 85 ?_
             exact pM (by simp only [kE, Act.put, List.setIfInBounds_toArray, List.set_cons_zero, List.set_cons_succ] <;> rfl) (nZ (ga, c9, Hw, IA, b19) _ S.out)
           ·skip
            refine lM ?hg (N := 19) ?hd (cs := #[.int .u8 0, .int .i64 0, .int .i64 0, .int .i64 0, .int .i64 0, .int .i64 0, .slice none 0 0]) (t := 26) ?hr ?_; (case hd => rfl); (case hg => rfl); (case hr => first | (go_simp; done) | (go_simp; rfl))
            intro b19 hg aft hbox hb
            replace S := ae.mk (S.out.box hg hbox hb)
            clear hg hbox hb
            refine hK.out _ _ S.out.f_ (fun hHeld => ?_)
            clear hK K
            refine fJ 19 ?_
            refine kW 9 (some 84) (bA 13 3071) az (fun K hK => ?_)
            refine lU Try.func167 #[.agg #[.int .u8 leaf.f0, .int .i64 leaf.f1.f0, .int .i64 leaf.f1.f1, .int .i64 leaf.f1.f2, .int .i64 leaf.f1.f3, .int .i64 leaf.f2, .slice Az leaf.f3.length cz], .int .u8 ax, .int .i64 size, .int .i64 fresh, .bool ahead] ?_
            refine (FQ Ul.out (WJ leaf ax size fresh ahead Uk.out KY.out _ _ _ _ (dX (S.out.tree _ (.head _))))).mono ?_
            rintro e afu ⟨A9, c9, rfl, h1, hb⟩
            refine ⟨_, rfl, ?_⟩
            obtain ⟨ga, Og, ev, _⟩ := Kd.sN h1 HL0.out
            injection ev with e1 e2 e3
            subst e1
            clear e2 e3
            replace S := ae.mk (S.out.xK h1 hb)
            clear h1 hb
            refine hK.out _ _ S.out.f_.free.dC (fun hHeld => ?_)
            clear hK K
            refine fJ 84 ?_
            refine kW 10 (some 85) (bA 13 4095) az (fun K hK => ?_)
            refine lU Try.func166 #[.agg #[.int .u8 ck, .int .i64 cx, .int .i64 cy, .int .i64 cw, .int .i64 ch, .int .i64 aQ, .slice A l.length cc], .slice Ap p.length cp, .agg #[.int .u8 leaf.f0, .int .i64 leaf.f1.f0, .int .i64 leaf.f1.f1, .int .i64 leaf.f1.f2, .int .i64 leaf.f1.f3, .int .i64 leaf.f2, .slice Az leaf.f3.length cz], .int .u8 ax, .slice (some ⟨ga, 0, none⟩) L.length c9] ?_
            refine (Kq y7.out ⟨ck, ⟨cx, cy, cw, ch⟩, aQ, l⟩ leaf p L z HJO.out HAT.out WW.out Ql.out HL2.out Nq.out vI.out S.out bf eF).mono ?_
            rintro e afv ⟨Hw, IA, rfl, h1, hb⟩
            refine ⟨_, rfl, ?_⟩
            replace S := ae.mk (S.out.free.res h1 hb)
            clear h1 hb
            refine hK.out _ _ S.out.f_.dC.dC (fun hHeld => ?_)
            clear hK K
            refine fJ 85 ?_
            exact pM (by simp only [kE, Act.put, List.setIfInBounds_toArray, List.set_cons_zero, List.set_cons_succ] <;> rfl) (nZ (ga, c9, Hw, IA, b19) _ S.out)
          rintro ⟨ga, c9, Hw, IA, b19⟩ aiq S1
          simp only [kE, Act.put, List.setIfInBounds_toArray, List.set_cons_zero, List.set_cons_succ]
          replace S := ae.mk S1
          clear S1 hHeld
          have hHeld := S.out.f_.dC.dC
          refine uZ 12 none (bA 13 8191) az (fun K hK => ?_)
          refine xH 0 rfl 26 (.tmp 19) (.tmp 85) rfl #[.int .u8 z.f0, .int .i64 z.f1.f0, .int .i64 z.f1.f1, .int .i64 z.f1.f2, .int .i64 z.f1.f3, .int .i64 z.f2, .slice Hw z.f3.length IA] (j := 0) (u := .agg #[.int .u8 z.f0, .int .i64 z.f1.f0, .int .i64 z.f1.f1, .int .i64 z.f1.f2, .int .i64 z.f1.f3, .int .i64 z.f2, .slice Hw z.f3.length IA]) (bu := [.int .u8 z.f0, .int .i64 z.f1.f0, .int .i64 z.f1.f1, .int .i64 z.f1.f2, .int .i64 z.f1.f3, .int .i64 z.f2, .slice Hw z.f3.length IA]) S.out (by rfl) rfl rfl rfl rfl (by kernel_rfl) (by simp [Value.oneCell']) (by first | decide | simp) rfl ?_
          intro afw S1
          simp only [List.set_cons_zero, List.set_cons_succ] at S1
          replace S := ae.mk S1
          clear S1
          refine hK.out _ _ ?_
          clear hK K
          refine nz (jK az.out (by kernel_rfl)) ?_
          clear hHeld
          obtain ⟨zO, zQ, zS, zT, zU, zV, zW⟩ := St.dS S (.head _)
          go_wp2_with (first
           | ((with_reducible refine au (N := 87) rfl ?_); refine mD (N := 87) rfl rfl z S.out (S.out.tree _ (.head _)) ?hr ?_; (case hr => first | (go_simp; done) | (go_simp; rfl)); intro alg alj aim S1 h1 h2; replace S := ae.mk S1; have kZ := ae.mk h1; have nC := ae.mk h2; clear S1 h1 h2; clear zO zQ zS zT zU zV zW)
           | (refine bI (some 88) Try.func82 S (afj z Uo.out nC.out kZ.out) ?_; clear S; intro ain S; obtain ⟨zO, zQ, zS, zT, zU, zV, zW⟩ := St.dS S (.head _); have bK := (S.out.at qg 1).trans rfl; have bM := (S.out.at qg 2).trans rfl)
           | (refine YR (some 98) Try.func66 S (agI z cx cy HZ6.out (S.out.tree _ (.head _))) ?_; clear S; intro As cs aio S; clear zO zQ zS zT zU zV zW bK bM)
           | (refine TB 26 12 98 #[.int .u8 ((fH z cx cy).f0), .int .i64 ((fH z cx cy).f1.f0), .int .i64 ((fH z cx cy).f1.f1), .int .i64 ((fH z cx cy).f1.f2), .int .i64 ((fH z cx cy).f1.f3), .int .i64 ((fH z cx cy).f2), .slice As ((fH z cx cy).f3.length) cs] 0 7 S ?_; clear S; intro aip S)
           | fail)
          refine bodyPost_ret (dY rfl _ _ b12 26 _ (0, 0) _ rfl (S.out.blk _ jM _ rfl) Try.underlying26 rfl (by kernel_rfl)) rfl ?_
          exact ⟨_, _, rfl, S.out.yY, S.out.below⟩
theorem aeO (r : Int → Bool) (g : Nat) (lb : Array Value) (eg : ∀ args w, (callFunc g args).run Try.prog w = .ok (.enter g args) w) (l : List Int) (A : Option Addr) (c : Nat) (w : World) (hR : Kd.C (Kd.int .u8) w A l.length l)
  (hcall : ∀ (x : Int) (W : World), x ∈ l → Below w.heap.size w W → Calls Try.prog g (#[.int .u8 x] ++ lb) W fun e w' => e = .returned (.bool (r x)) ∧ Below W.heap.size W w') :
  Calls Try.prog 187 #[.slice A l.length c, .func (.func g) #[] lb] w fun e w' => ∃ i : Int, e = .returned (.int .i64 i) ∧ decide (i ≥ 0) = l.any r ∧ Below w.heap.size w w' := by
 have HR := ae.mk hR
 have HB := ae.mk (Below.refl w.heap.size w)
 have vZ := ae.mk hcall
 have HL := ae.mk (show l.length ≤ 9223372036854775807 from hR.2.1)
 clear hR hcall
 go_enter Try.func187, Try.ntmps187
 go_wp2
 go_loopg [5, 8] l.length (fun gg _ v8 wr => ∃ (kk : Nat), kk ≤ l.length ∧ l.length - kk ≤ gg ∧ v8 = .int .i64 kk ∧ ae (Below w.heap.size w wr) ∧ ae (l.any r = (l.drop kk).any r))
 case atStart => exact ⟨0, Nat.zero_le _, by omega, rfl, HB, ⟨by simp⟩⟩
 case round =>
  clear HB
  obtain ⟨kk, hkk, hg, rfl, HB, HS⟩ := hrel
  by_cases hlt : kk < l.length
  ·have hltz : (kk : Int) < (l.length : Int) := by omega
   obtain ⟨ad, rfl, xi⟩ := Kd.sS HR.out (kk : Int) (by omega) (by omega)
   have xi : w.cell? (ad.add kk) = some (.int .u8 (rd l (kk : Int))) := by simpa using xi
   replace xi := (HB.out.cell (World.block_lt_of_cell? w _ xi)).trans xi
   have hmem : rd l (kk : Int) ∈ l := by
    simp only [rd, Int.toNat_natCast, List.getD_eq_getElem?_getD, List.getElem?_eq_getElem hlt, Option.getD_some]
    exact List.getElem_mem _
   have hdr : l.drop kk = rd l (kk : Int) :: l.drop (kk + 1) := by
    rw [List.drop_eq_getElem_cons hlt]
    simp only [rd, Int.toNat_natCast, List.getD_eq_getElem?_getD, List.getElem?_eq_getElem hlt, Option.getD_some]
   have HX : ae ((l.drop kk).any r = (r (rd l (kk : Int)) || (l.drop (kk + 1)).any r)) := ⟨by rw [hdr, List.any_cons]⟩
   have HC := ae.mk (vZ.out _ wr hmem HB.out)
   clear hmem hdr
   generalize rd l (kk : Int) = x at xi HX HC
   have hw : wrap64 ((kk : Int) + 1) = ((kk + 1 : Nat) : Int) := by unfold wrap64; have := HL.out; omega
   cases hq : r x with
   | true =>
    have h := HC.out
    rw [hq] at h
    have HH := ae.mk h
    have HQ := ae.mk hq
    clear hq HC h
    go_wp2_with fail
    refine HH.out.mono ?_
    rintro e w' ⟨rfl, hb⟩
    have HB' := ae.mk (ak HB.out hb)
    clear hb
    go_wp2
    go_ret
    refine ⟨_, rfl, ?_, HB'.out⟩
    rw [HS.out, HX.out, HQ.out, Bool.true_or]
    exact decide_eq_true (by omega)
   | false =>
    have h := HC.out
    rw [hq] at h
    have HH := ae.mk h
    have HQ := ae.mk hq
    clear hq HC h
    go_wp2_with fail
    refine HH.out.mono ?_
    rintro e w' ⟨rfl, hb⟩
    have HB' := ae.mk (ak HB.out hb)
    clear hb
    go_wp2
    go_roundg (l.length - (kk + 1))
    case measure => omega
    case rel =>
     refine ⟨kk + 1, by omega, by omega, (by rw [hw]), HB', ⟨?_⟩⟩
     rw [HS.out, HX.out, HQ.out, Bool.false_or]
  ·have hltz : ¬ (kk : Int) < (l.length : Int) := by omega
   have hd : l.drop kk = [] := List.drop_eq_nil_of_le (by omega)
   have HS2 := ae.mk (hd ▸ HS.out)
   clear HS hd
   go_wp2
   go_ret
   refine ⟨_, rfl, ?_, HB.out⟩
   rw [HS2.out]
   rfl
theorem adw (r : Int → Bool) (g : Nat) (lb : Array Value) (eg : ∀ args w, (callFunc g args).run Try.prog w = .ok (.enter g args) w) (l : List Int) (A : Option Addr) (c : Nat) (w : World) (hR : Kd.C (Kd.int .u8) w A l.length l)
  (hcall : ∀ (x : Int) (W : World), x ∈ l → Below w.heap.size w W → Calls Try.prog g (#[.int .u8 x] ++ lb) W fun e w' => e = .returned (.bool (r x)) ∧ Below W.heap.size W w') :
  Calls Try.prog 162 #[.slice A l.length c, .func (.func g) #[] lb] w fun e w' => e = .returned (.bool (l.any r)) ∧ Below w.heap.size w w' := by
 have HI := ae.mk (aeO r g lb eg l A c w hR hcall)
 clear hR hcall
 go_enter Try.func162, Try.ntmps162
 go_wp2_with fail
 refine HI.out.mono ?_
 rintro e w' ⟨i, rfl, hd, hb'⟩
 have HB := ae.mk hb'
 have HN := ae.mk hd
 clear hb' hd
 go_wp2
 go_ret
 exact ⟨by rw [← HN.out]; rfl, HB.out⟩
theorem ado (x : Int) (z : ai) (Az : Option Addr) (cz b9 : Nat) (W : World) (hk : W.heap[b9]? = some (.cells #[.int .u8 z.f0, .int .i64 z.f1.f0, .int .i64 z.f1.f1, .int .i64 z.f1.f2, .int .i64 z.f1.f3, .int .i64 z.f2, .slice Az z.f3.length cz] 26 (0, 0))) :
  Calls Try.prog 170 (#[.int .u8 x] ++ #[.pointer (some ⟨b9, 0, none⟩)]) W fun e w' => e = .returned (.bool (decide (aK x z.f1 < 3))) ∧ Below W.heap.size W w' := by
 have HC := ae.mk (fun W' => rq.calls z.f1.f0 z.f1.f1 z.f1.f2 z.f1.f3 x (aK x z.f1) W' (LY z.f1 x))
 simp only [List.append_toArray, List.cons_append, List.nil_append]
 have c1 := (af hk 1).trans rfl
 have c2 := (af hk 2).trans rfl
 have c3 := (af hk 3).trans rfl
 have c4 := (af hk 4).trans rfl
 generalize aK x z.f1 = n at HC ⊢
 go_enter Try.func170, Try.ntmps170
 go_wp2_with fail
 refine (HC.out _).mono ?_
 rintro e w' ⟨rfl, hb⟩
 have HB := ae.mk hb
 clear hb
 go_wp2
 go_ret
 exact ⟨rfl, HB.out⟩
def Oe (id : Int) (Bg : List Int) (c : ai) : Bool := (dQ id c).isSome && (dF c && !(Bg.any fun x => decide (aK x ((jT c ((dQ id c).getD [])).getD z26).f1 < 3)))
theorem ac8 (id : Int) (Bg : List Int) (c : ai) (hz : sz c ≤ 1000000) (P : Nat → Prop) (A : Option Addr) (cc : Nat) (B : Option Addr) (cb : Nat) (w : World) (hv : Kd.V k26 26 w w.heap.size P (.slice A c.f3.length cc) c.f3) (hA : Kd.C (Kd.int .u8) w B Bg.length Bg) :
  Calls Try.prog 123 #[.agg #[.int .u8 c.f0, .int .i64 c.f1.f0, .int .i64 c.f1.f1, .int .i64 c.f1.f2, .int .i64 c.f1.f3, .int .i64 c.f2, .slice A c.f3.length cc], .int .i64 id, .slice B Bg.length cb] w fun e w' => e = .returned (.bool (Oe id Bg c)) ∧ Below w.heap.size w w' := by
 have S := ae.mk (St.start (ts := [(.slice A c.f3.length cc, c.f3)]) (b0 := w.heap.size) (w := w) (P := P) (fun t ht => by rw [List.mem_singleton.1 ht]; exact hv))
 have HZ := ae.mk hz
 have mG := ae.mk (show sz c ≤ 1048576 by omega)
 have HA := ae.mk hA
 have hpl := fun p (h : dQ id c = some p) => (GH id (sz c)).1 c (Nat.le_refl _) p h
 unfold Oe
 clear hv hA hz
 cases hf : dQ id c with
 | none =>
  have H9 := ae.mk hf
  clear hf hpl
  simp only [Option.isSome_none, Bool.false_and]
  obtain ⟨ck, ⟨cx, cy, cw, ch⟩, aQ, l⟩ := c
  simp only [] at S ⊢
  go_enter Try.func123, Try.ntmps123
  go_wp2_with (first
   | (refine boxS 3 _ 26 S ?_; clear S; intro b3 eU S; obtain ⟨dJ, dR, dU, dV, jU, kJ, gu⟩ := St.dS S (.head _))
   | (refine Fz (some 14) Try.func89 S (QF id ⟨ck, ⟨cx, cy, cw, ch⟩, aQ, l⟩ H9.out HZ.out (S.out.tree _ (.head _))) ?_; clear S; intro Ap cp op fV S vI; clear dJ dR dU dV jU kJ gu; obtain ⟨dJ, dR, dU, dV, jU, kJ, gu⟩ := St.dS S bf)
   | (refine qw (some 20) Try.func91 S (Bf ⟨ck, ⟨cx, cy, cw, ch⟩, aQ, l⟩ ([] : List Int) ⟨ck, ⟨cx, cy, cw, ch⟩, aQ, l⟩ rfl (by decide) HZ.out (S.out.tree _ (.head _)) (xk vI.out S.out (.head _)).1 (xk vI.out S.out (.head _)).2) ?_; clear S; intro Az cz gz S; clear dJ dR dU dV jU kJ gu)
   | (refine boxS 9 _ 26 S ?_; clear S; intro b9 lI S)
   | (refine fC 26 9 21 #[.int .u8 ck, .int .i64 cx, .int .i64 cy, .int .i64 cw, .int .i64 ch, .int .i64 aQ, .slice Az l.length cz] 0 7 S ?_; clear S; intro mQ S)
   | fail)
  go_ret
  exact ⟨rfl, S.out.below⟩
 | some p =>
  have Ql := ae.mk (show p.length ≤ 1048576 by have := hpl p hf; have := HZ.out; omega)
  have H9 := ae.mk hf
  obtain ⟨leaf, hlf, hlq⟩ := (xn id _).1 c (Nat.le_refl _) p hf
  have HAT := ae.mk hlf
  simp only [Option.isSome_some, Bool.true_and, Option.getD_some, hlf]
  clear hf hpl hlq hlf
  cases ht : dF c with
  | false =>
   have HT := ae.mk ht
   clear ht
   rw [Bool.false_and]
   obtain ⟨ck, ⟨cx, cy, cw, ch⟩, aQ, l⟩ := c
   simp only [] at S ⊢
   go_enter Try.func123, Try.ntmps123
   go_wp2_with (first
    | (refine boxS 3 _ 26 S ?_; clear S; intro b3 eU S; obtain ⟨dJ, dR, dU, dV, jU, kJ, gu⟩ := St.dS S (.head _))
    | (refine Fz (some 14) Try.func89 S (AY id ⟨ck, ⟨cx, cy, cw, ch⟩, aQ, l⟩ p H9.out HZ.out (S.out.tree _ (.head _))) ?_; clear S; intro Ap cp op fV S vI; clear dJ dR dU dV jU kJ gu; obtain ⟨dJ, dR, dU, dV, jU, kJ, gu⟩ := St.dS S bf)
    | (refine qw (some 20) Try.func91 S (Bf ⟨ck, ⟨cx, cy, cw, ch⟩, aQ, l⟩ p leaf HAT.out Ql.out HZ.out (S.out.tree _ (.head _)) (xk vI.out S.out (.head _)).1 (xk vI.out S.out (.head _)).2) ?_; clear S; intro Az cz gz S; clear dJ dR dU dV jU kJ gu)
    | (refine boxS 9 _ 26 S ?_; clear S; intro b9 lI S)
    | (refine fC 26 9 21 #[.int .u8 leaf.f0, .int .i64 leaf.f1.f0, .int .i64 leaf.f1.f1, .int .i64 leaf.f1.f2, .int .i64 leaf.f1.f3, .int .i64 leaf.f2, .slice Az leaf.f3.length cz] 0 7 S ?_; clear S; intro mQ S; obtain ⟨dJ, dR, dU, dV, jU, kJ, gu⟩ := St.dS S eF)
    | ((with_reducible refine au (N := 26) rfl ?_); (refine dM (by rfl) ?_; dsimp only); refine mD (N := 26) rfl rfl ⟨ck, ⟨cx, cy, cw, ch⟩, aQ, l⟩ S.out (S.out.tree _ bf) ?hr ?_; (case hr => first | (go_simp; done) | (go_simp; rfl)); intro ahy ahN o6 S1 h1 h2; replace S := ae.mk S1; have kZ := ae.mk h1; have nC := ae.mk h2; clear S1 h1 h2; clear dJ dR dU dV jU kJ gu)
    | (refine fD 27 rfl ?_; (refine dM (by rfl) ?_; dsimp only); refine bI (some 27) Try.func148 S (jL HT.out (qG ⟨ck, ⟨cx, cy, cw, ch⟩, aQ, l⟩ mG.out nC.out kZ.out)) ?_; clear S; intro uy S)
    | fail)
   go_ret
   exact ⟨rfl, S.out.below⟩
  | true =>
   have HT := ae.mk ht
   clear ht
   rw [Bool.true_and]
   obtain ⟨ck, ⟨cx, cy, cw, ch⟩, aQ, l⟩ := c
   simp only [] at S ⊢
   go_enter Try.func123, Try.ntmps123
   go_wp2_with (first
    | (refine boxS 3 _ 26 S ?_; clear S; intro b3 eU S; obtain ⟨dJ, dR, dU, dV, jU, kJ, gu⟩ := St.dS S (.head _))
    | (refine Fz (some 14) Try.func89 S (AY id ⟨ck, ⟨cx, cy, cw, ch⟩, aQ, l⟩ p H9.out HZ.out (S.out.tree _ (.head _))) ?_; clear S; intro Ap cp op fV S vI; clear dJ dR dU dV jU kJ gu; obtain ⟨dJ, dR, dU, dV, jU, kJ, gu⟩ := St.dS S bf)
    | (refine qw (some 20) Try.func91 S (Bf ⟨ck, ⟨cx, cy, cw, ch⟩, aQ, l⟩ p leaf HAT.out Ql.out HZ.out (S.out.tree _ (.head _)) (xk vI.out S.out (.head _)).1 (xk vI.out S.out (.head _)).2) ?_; clear S; intro Az cz gz S; clear dJ dR dU dV jU kJ gu)
    | (refine boxS 9 _ 26 S ?_; clear S; intro b9 lI S)
    | (refine fC 26 9 21 #[.int .u8 leaf.f0, .int .i64 leaf.f1.f0, .int .i64 leaf.f1.f1, .int .i64 leaf.f1.f2, .int .i64 leaf.f1.f3, .int .i64 leaf.f2, .slice Az leaf.f3.length cz] 0 7 S ?_; clear S; intro mQ S; obtain ⟨dJ, dR, dU, dV, jU, kJ, gu⟩ := St.dS S eF)
    | ((with_reducible refine au (N := 26) rfl ?_); (refine dM (by rfl) ?_; dsimp only); refine mD (N := 26) rfl rfl ⟨ck, ⟨cx, cy, cw, ch⟩, aQ, l⟩ S.out (S.out.tree _ bf) ?hr ?_; (case hr => first | (go_simp; done) | (go_simp; rfl)); intro ahy ahN o6 S1 h1 h2; replace S := ae.mk S1; have kZ := ae.mk h1; have nC := ae.mk h2; clear S1 h1 h2; clear dJ dR dU dV jU kJ gu)
    | (refine fD 27 rfl ?_; (refine dM (by rfl) ?_; dsimp only); refine bI (some 27) Try.func148 S (jL HT.out (qG ⟨ck, ⟨cx, cy, cw, ch⟩, aQ, l⟩ mG.out nC.out kZ.out)) ?_; clear S; intro uy S)
    | (refine fD 32 rfl ?_; (refine dM (by rfl) ?_; dsimp only); refine bI (some 32) Try.func162 S (adw (fun x => decide (aK x leaf.f1 < 3)) 170 #[.pointer (some ⟨b9, 0, none⟩)] (qL Try.func170 (by decide +kernel) (by kernel_rfl)) Bg B cb _ (Kd.eY HA.out S.out.below) (fun x W' _ hW => ado x leaf Az cz b9 W' (aN (S.out.blk _ (.head _) _ rfl) hW))) ?_; clear S; intro xe S)
    | fail)
   go_ret
   exact ⟨rfl, S.out.below⟩
theorem abm {Pr : Program} {ops : Array Oper} {rest : List Oper} {op : Oper} {a : Act} {Q : Exit → Act → World → Prop} {w W : World} {P : Nat → Prop} {bs : List (Option Nat × Obj)} {ow ts : List (Value × List ai)} {ro : List (Addr × Value)} {N : Tmp} (hd : op.dst = some N) (hgd : op.guard = none) (y : Int) (S : St w P bs ow ts ro W)
  (hrun : (execOp a.eval op).run Pr W = .ok (.value (.slice (some ⟨W.heap.size, 0, none⟩) 1 1)) (W.alloc (.cells #[.int .u8 y] 5)))
  (h : ∀ A c w1, St w P bs ow ts ro w1 → Kd.C (Kd.int .u8) w1 A 1 [y] → wpList Pr ops Q rest (a.put op.dst (.slice A 1 c)) w1) : wpList Pr ops Q (op :: rest) a W :=
 Kd.xP (Kd.int .u8) (w0 := W) W.heap.size 5 hgd hd (xs := [y]) (inner := [.int .u8 y]) (ok := fun _ => True) (fG := fun _ => True) hrun (bF.one (show Kd.M (Kd.int .u8) _ _ _ y [.int .u8 y] from rfl) (bF.none _ _)) (fun _ hk => hk) trivial (Below.refl _ _) (Nat.le_refl _) (by simp) (fun v1 w1 hR hb hg _ => by
  obtain ⟨A, c, rfl⟩ := Kd.jw hR
  exact h A c w1 (S.call (qy hg)) (Kd.gy hR).2.2)
def VS : ai := ⟨1, ⟨0, 0, 3, 3⟩, 4, []⟩
theorem ac9 : Oe 4 [2] VS = true := by decide +kernel
theorem Zy {id : Int} {Bg : List Int} {c : ai} {v : Bool} {args : Array Value} {W : World} (h : Oe id Bg c = v) (hc : Calls Try.prog 123 args W fun e w' => e = .returned (.bool (Oe id Bg c)) ∧ Below W.heap.size W w') : Calls Try.prog 123 args W fun e w' => e = .returned (.bool v) ∧ Below W.heap.size W w' := by
 rw [h] at hc
 exact hc
theorem Lc {w : World} : Calls Try.prog 106 #[] w fun e w' => e = .returned (.bool true) ∧ Below w.heap.size w w' := by
 have S := ae.mk (St.start (ts := []) (b0 := w.heap.size) (w := w) (P := fun _ => True) (fun t ht => by cases ht))
 go_enter Try.func106, Try.ntmps106
 go_wp2_with (first
  | (refine bI (some 5) Try.func104 S (Hl (s := 80) (size := 0) (by unfold I64; decide) (by unfold I64; decide) (show tV 80 0 = (40, 39, true) by decide) _) ?_; clear S; intro eU S)
  | (refine fD 21 rfl ?_; (refine dM (by rfl) ?_; dsimp only); refine abm (N := 21) rfl rfl 2 S.out ?hr ?_; (case hr => first | (go_simp; done) | (go_simp; rfl)); intro Ab cb fV S1 h1; replace S := ae.mk S1; have HCB := ae.mk h1; clear S1 h1)
  | (refine fD 22 rfl ?_; (refine dM (by rfl) ?_; dsimp only); refine bI (some 22) Try.func123 S (Zy ac9 (ac8 4 [2] VS (by decide) _ none 0 Ab cb _ (dX (Kd.rX k26 26 _ 0 (fun _ => True))) HCB.out)) ?_; clear S; intro gz S)
  | fail)
 go_ret
 exact ⟨rfl, S.out.below⟩
theorem PR {f : FuncId} {z y : ai} {n m : Int} {P : Nat → Prop} {args : Array Value} {W : World} (h : z = y) (h2 : n = m) (hc : Calls Try.prog f args W (MH W P z n)) : Calls Try.prog f args W (MH W P y m) := by
 rw [h, h2] at hc
 exact hc
theorem afk (id ax size fresh : Int) (ahead : Bool) (c : ai) : sz (Dl id ax size fresh ahead c) ≤ sz c + 2 := by
 by_cases h : iq id ax size fresh c = 0
 ·obtain ⟨p, leaf, hS⟩ := splits h
  rw [hS.z h, (afg _).1 _ (Nat.le_refl _)]
  have h1 := Tc id ax (w_ ax size fresh ahead leaf) _ c (Nat.le_refl _) p hS.find (zA hS.wZ).1 (zA hS.wZ).2
  have h2 := PS ax size fresh ahead leaf
  omega
 ·rw [jR rfl h]
  have : sz z26 = 1 := by decide
  omega
theorem WC (c : ai) (id ax size fresh : Int) (ahead : Bool) (A : Option Addr) (cc : Nat) (w : World) (hr : Kd.C k26 w A c.f3.length c.f3) (hc : c.f3.length ≤ cc) (hz : sz c ≤ 1048576) (hsz : -9223372036854775808 ≤ size ∧ size ≤ 9223372036854775807) (h1 : ∃ k, kU.f k c.f0 c.f1.f0 c.f1.f1 c.f1.f2 c.f1.f3 c.f2 c.f3 = some true)  :
  Calls Try.prog 32 #[.agg #[.int .u8 c.f0, .int .i64 c.f1.f0, .int .i64 c.f1.f1, .int .i64 c.f1.f2, .int .i64 c.f1.f3, .int .i64 c.f2, .slice A c.f3.length cc], .int .i64 id, .int .u8 ax, .int .i64 size, .int .i64 fresh, .bool ahead] w fun e w' => e = .returned (.bool true) ∧ Below w.heap.size w w' := by
 have S := ae.mk (St.start (ts := [(.slice A c.f3.length cc, c.f3)]) (b0 := w.heap.size) (w := w) (P := fun k => k < w.heap.size) (fun t ht => by
  rw [List.mem_singleton.1 ht]; exact Kd.yR hc (Kd.KX sW hr)))
 have G1 := ae.mk h1
 clear hr hc h1 hz hsz
 obtain ⟨ck, ⟨cx, cy, cw, ch⟩, aQ, l⟩ := c
 simp only [] at S G1 ⊢
 go_enter Try.func32, Try.ntmps32
 go_wp2_with (first
  | (refine boxS 6 _ 26 S ?_; clear S; intro b6 eU S; obtain ⟨bW, bK, bM, bY, bZ, b_, cO⟩ := St.dS S (.head _))
  | (refine bI (some 18) Try.func34 S (QG ⟨ck, ⟨cx, cy, cw, ch⟩, aQ, l⟩ true G1.out (S.out.tree _ (.head _))) ?_; clear S; intro fV S; clear bW bK bM bY bZ b_ cO)
  | (refine bI (some 19) Try.func106 S (Lc) ?_; clear S; intro gz S)
  | fail)
 go_ret
 exact ⟨rfl, S.out.below⟩
theorem Yn (c : ai) (id ax size fresh : Int) (ahead : Bool) (A : Option Addr) (cc : Nat) (w : World) (hr : Kd.C k26 w A c.f3.length c.f3) (hc : c.f3.length ≤ cc) (hz : sz c ≤ 1048576) (hsz : -9223372036854775808 ≤ size ∧ size ≤ 9223372036854775807) (h1 : ∃ k, kU.f k c.f0 c.f1.f0 c.f1.f1 c.f1.f2 c.f1.f3 c.f2 c.f3 = some false) (hz2 : sz c ≤ 200) :
  Calls Try.prog 32 #[.agg #[.int .u8 c.f0, .int .i64 c.f1.f0, .int .i64 c.f1.f1, .int .i64 c.f1.f2, .int .i64 c.f1.f3, .int .i64 c.f2, .slice A c.f3.length cc], .int .i64 id, .int .u8 ax, .int .i64 size, .int .i64 fresh, .bool ahead] w fun e w' => e = .returned (.bool true) ∧ Below w.heap.size w w' := by
 have S := ae.mk (St.start (ts := [(.slice A c.f3.length cc, c.f3)]) (b0 := w.heap.size) (w := w) (P := fun k => k < w.heap.size) (fun t ht => by
  rw [List.mem_singleton.1 ht]; exact Kd.yR hc (Kd.KX sW hr)))
 have G1 := ae.mk h1
 have HZ1 := ae.mk (show sz c ≤ 1000 by omega)
 have KY := ae.mk (show I64 size from hsz)
 have hz1 := afk id ax size fresh ahead c
 obtain ⟨z1, ha⟩ : ∃ r, Dl id ax size fresh ahead c = r := ⟨_, rfl⟩
 obtain ⟨e1, he⟩ : ∃ r, iq id ax size fresh c = r := ⟨_, rfl⟩
 rw [ha] at hz1
 have HR := ae.mk ha
 have HE := ae.mk he
 have Uo := ae.mk (show sz z1 ≤ 1048576 by omega)
 clear ha he hz1 hz2
 clear hr hc h1 hz hsz
 obtain ⟨ck, ⟨cx, cy, cw, ch⟩, aQ, l⟩ := c
 simp only [] at S G1 ⊢
 go_enter Try.func32, Try.ntmps32
 go_wp2_with (first
  | (refine boxS 6 _ 26 S ?_; clear S; intro b6 eU S; obtain ⟨bW, bK, bM, bY, bZ, b_, cO⟩ := St.dS S (.head _))
  | (refine bI (some 18) Try.func34 S (QG ⟨ck, ⟨cx, cy, cw, ch⟩, aQ, l⟩ false G1.out (S.out.tree _ (.head _))) ?_; clear S; intro fV S; clear bW bK bM bY bZ b_ cO; obtain ⟨bW, bK, bM, bY, bZ, b_, cO⟩ := St.dS S (.head _))
  | (refine qw (some 27) Try.func120 S (PR HR.out HE.out (Yp ⟨ck, ⟨cx, cy, cw, ch⟩, aQ, l⟩ HZ1.out id ax size fresh ahead KY.out _ A cc _ (dX (S.out.tree _ (.head _))))) ?_; clear S; intro A27 c27 gz S; clear bW bK bM bY bZ b_ cO)
  | (refine boxS 13 _ 26 S ?_; clear S; intro b13 lI S)
  | (refine fC 26 13 28 #[.int .u8 z1.f0, .int .i64 z1.f1.f0, .int .i64 z1.f1.f1, .int .i64 z1.f1.f2, .int .i64 z1.f1.f3, .int .i64 z1.f2, .slice A27 z1.f3.length c27] 0 7 S ?_; clear S; intro mQ S; obtain ⟨bW, bK, bM, bY, bZ, b_, cO⟩ := St.dS S bf)
  | (refine qw (some 37) Try.func121 S (PR HR.out HE.out (Wq ⟨ck, ⟨cx, cy, cw, ch⟩, aQ, l⟩ HZ1.out id ax size fresh ahead KY.out _ A cc _ (dX (S.out.tree _ bf)))) ?_; clear S; intro A37 c37 o6 S; clear bW bK bM bY bZ b_ cO)
  | (refine boxS 15 _ 26 S ?_; clear S; intro b15 uy S)
  | (refine fC 26 15 38 #[.int .u8 z1.f0, .int .i64 z1.f1.f0, .int .i64 z1.f1.f1, .int .i64 z1.f1.f2, .int .i64 z1.f1.f3, .int .i64 z1.f2, .slice A37 z1.f3.length c37] 0 7 S ?_; clear S; intro xe S; obtain ⟨wH, wI, wJ, wK, wL, wM, wO⟩ := St.dS S (.head _); obtain ⟨ac_, ac', ada, adb, ade, adf, adg⟩ := St.dS S bf)
  | (refine fD 46 rfl ?_; (refine dM (by rfl) ?_; dsimp only); refine bI (some 46) Try.func64 S (afc z1 Uo.out (S.out.tree _ bf) (S.out.tree _ (.head _))) ?_; clear S; intro BU S; clear wH wI wJ wK wL wM wO ac_ ac' ada adb ade adf adg)
  | (refine fD 49 rfl ?_; (refine dM (by rfl) ?_; dsimp only); refine bI (some 49) Try.func106 S (Lc) ?_; clear S; intro uB S)
  | fail)
 go_ret
 exact ⟨rfl, S.out.below⟩
def mF.f (a0 a1 a2 a3 a4 a5 : Int) (l : List ai) (_ : Int) (_ : Int) (b3 : Int) (_ : Int) (_ : Bool) : Option Bool := if sz ⟨a0, ⟨a1, a2, a3, a4⟩, a5, l⟩ ≤ 1048576 ∧ (-9223372036854775808 ≤ b3 ∧ b3 ≤ 9223372036854775807) then some true else none
theorem PM (c : ai) (id : Int) (ax : Int) (size : Int) (fresh : Int) (ahead : Bool) (A : Option Addr) (cc : Nat) (w : World) (hr : Kd.C k26 w A c.f3.length c.f3) (hc : c.f3.length ≤ cc) (hz : sz c ≤ 1048576) (SE : -9223372036854775808 ≤ size ∧ size ≤ 9223372036854775807) :
  Calls Try.prog 32 #[.agg #[.int .u8 c.f0, .int .i64 c.f1.f0, .int .i64 c.f1.f1, .int .i64 c.f1.f2, .int .i64 c.f1.f3, .int .i64 c.f2, .slice A c.f3.length cc], .int .i64 id, .int .u8 ax, .int .i64 size, .int .i64 fresh, .bool ahead] w fun e w' => e = .returned (.bool true) ∧ Below w.heap.size w w' := by
 obtain ⟨g, eg, hg⟩ := XE c hz
 cases g with
 | true => exact WC c id ax size fresh ahead A cc w hr hc hz SE eg.rounds
 | false => exact Yn c id ax size fresh ahead A cc w hr hc hz SE eg.rounds (hg rfl)
theorem mF.calls (ay aI aC aH bU bV : Int) (eH : Option Addr) (eP : Nat) (aT : List ai) (a1 : Int) (a2 : Int) (a3 : Int) (a4 : Int) (a5 : Bool) (r : Bool) (w : World) (rZ : Kd.C k26 w eH aT.length aT) (ug : aT.length ≤ eP) (h : mF.f ay aI aC aH bU bV aT a1 a2 a3 a4 a5 = some r) :
  Calls Try.prog 32 #[.agg #[.int .u8 ay, .int .i64 aI, .int .i64 aC, .int .i64 aH, .int .i64 bU, .int .i64 bV, .slice eH aT.length eP], .int .i64 a1, .int .u8 a2, .int .i64 a3, .int .i64 a4, .bool a5] w fun e w' => e = .returned (.bool r) ∧ Below w.heap.size w w' := by
 unfold mF.f at h
 split at h
 ·rename_i hz
  injection h with h
  subst h
  exact PM ⟨ay, ⟨aI, aC, aH, bU⟩, bV, aT⟩ a1 a2 a3 a4 a5 eH eP w rZ ug hz.1 hz.2
 ·exact absurd h (by simp)
end Go.Proofs.Ytfdmfgaiblfbhaa.P
namespace Go.Proofs.Ytfdmfgaiblfbhaa.Pure
open Go.RowKit Go.Proofs.Ytfdmfgaiblfbhaa.P Go.Proofs.ag.aA Go.Proofs.ag.bg Go.Proofs.ag.bG
theorem SplitIs : ∀ (a0 : ai) (a1 : Int) (a2 : Int) (a3 : Int) (a4 : Int) (a5 : Bool), afy a0 → sz a0 ≤ 1048576 → I64 a1 → U8 a2 → I64 a3 → I64 a4 → mF.f a0.f0 a0.f1.f0 a0.f1.f1 a0.f1.f2 a0.f1.f3 a0.f2 a0.f3 a1 a2 a3 a4 a5 = some true := by
 intro c id ax size fresh ahead _ hz _ _ SE _
 unfold mF.f
 rw [MK, if_pos ⟨hz, SE⟩]
end Go.Proofs.Ytfdmfgaiblfbhaa.Pure
namespace Go.Proofs.Ytfdmfgaiblfbhaa.P
open Go.RowKit
def Ll : List Char := [104, 97, 114, 110, 101, 115, 115, 32, 57, 48, 98, 52, 50, 100, 98, 100, 99, 50, 52, 54, 55, 51, 50, 51, 56, 57, 50, 48, 100, 50, 50, 98, 56, 57, 53, 102, 48, 48, 55, 48, 53, 101, 102, 48, 53, 53, 102, 54, 54, 55, 97, 57, 54, 56, 100, 50, 56, 97, 57, 52, 55, 52, 56, 57, 49, 49, 48, 97, 48, 101, 53, 55, 32, 99, 117, 116, 32, 97, 116, 32, 115, 97, 115, 104, 47, 115, 97, 115, 104, 108, 97, 119, 48, 55, 46, 70, 108, 97, 116, 78, 101, 120, 116, 115, 32, 115, 97, 115, 104, 47, 115, 97, 115, 104, 108, 97, 119, 48, 55, 46, 70, 108, 97, 116, 76, 105, 115, 116, 115, 32, 115, 97, 115, 104, 47, 115, 97, 115, 104, 108, 97, 119, 48, 52, 46, 82, 101, 99, 116, 67, 117, 116, 115, 32, 115, 97, 115, 104, 47, 115, 97, 115, 104, 108, 97, 119, 48, 57, 46, 65, 100, 106, 117, 115, 116, 83, 104, 97, 114, 101, 115, 32, 115, 97, 115, 104, 47, 115, 97, 115, 104, 108, 97, 119, 48, 57, 46, 65, 100, 106, 117, 115, 116, 69, 118, 101, 110, 115, 32, 115, 97, 115, 104, 47, 115, 97, 115, 104, 108, 97, 119, 49, 54, 46, 83, 112, 114, 101, 97, 100, 83, 105, 122, 101, 115, 32, 115, 97, 115, 104, 47, 115, 97, 115, 104, 108, 97, 119, 48, 55, 46, 70, 108, 97, 116, 67, 104, 97, 110, 103, 101, 115, 32, 115, 97, 115, 104, 47, 115, 97, 115, 104, 108, 97, 119, 48, 52, 46, 82, 101, 99, 116, 73, 110, 115, 105, 100, 101, 32, 115, 97, 115, 104, 47, 115, 97, 115, 104, 108, 97, 119, 48, 55, 46, 70, 108, 97, 116, 78, 97, 109, 101, 115, 32, 115, 97, 115, 104, 47, 115, 97, 115, 104, 108, 97, 119, 48, 57, 46, 65, 100, 106, 117, 115, 116, 83, 101, 116, 115, 32, 115, 97, 115, 104, 47, 115, 97, 115, 104, 108, 97, 119, 48, 52, 46, 82, 101, 99, 116, 77, 101, 101, 116, 115, 32, 115, 97, 115, 104, 47, 115, 97, 115, 104, 108, 97, 119, 48, 52, 46, 82, 101, 99, 116, 77, 97, 121, 115, 32, 115, 97, 115, 104, 47, 115, 97, 115, 104, 108, 97, 119, 48, 55, 46, 70, 108, 97, 116, 83, 116, 105, 108, 108, 32, 115, 97, 115, 104, 47, 115, 97, 115, 104, 108, 97, 119, 48, 53, 46, 67, 101, 108, 108, 77, 97, 121, 115, 32, 115, 97, 115, 104, 47, 115, 97, 115, 104, 108, 97, 119, 48, 53, 46, 67, 101, 108, 108, 83, 97, 109, 101, 32, 115, 97, 115, 104, 47, 115, 97, 115, 104, 108, 97, 119, 48, 53, 46, 67, 101, 108, 108, 67, 111, 117, 110, 116, 115, 32, 115, 97, 115, 104, 47, 115, 97, 115, 104, 108, 97, 119, 48, 56, 46, 76, 101, 97, 115, 116, 83, 117, 109, 115, 32, 115, 97, 115, 104, 47, 115, 97, 115, 104, 108, 97, 119, 48, 53, 46, 67, 101, 108, 108, 70, 105, 110, 100, 115, 32, 115, 97, 115, 104, 47, 115, 97, 115, 104, 108, 97, 119, 48, 56, 46, 76, 101, 97, 115, 116, 73, 115, 32, 115, 97, 115, 104, 47, 115, 97, 115, 104, 108, 97, 119, 48, 56, 46, 76, 101, 97, 115, 116, 70, 105, 116, 115, 32, 115, 97, 115, 104, 47, 115, 97, 115, 104, 108, 97, 119, 48, 56, 46, 76, 101, 97, 115, 116, 80, 97, 116, 104, 115, 32, 115, 97, 115, 104, 47, 115, 97, 115, 104, 108, 97, 119, 48, 53, 46, 67, 101, 108, 108, 80, 117, 116, 115, 32, 115, 97, 115, 104, 47, 115, 97, 115, 104, 108, 97, 119, 49, 50, 46, 83, 112, 108, 105, 116, 83, 105, 122, 101, 115, 32, 115, 97, 115, 104, 47, 115, 97, 115, 104, 108, 97, 119, 49, 54, 46, 83, 112, 114, 101, 97, 100, 65, 108, 108, 32, 115, 97, 115, 104, 47, 115, 97, 115, 104, 108, 97, 119, 49, 54, 46, 83, 112, 114, 101, 97, 100, 65, 116, 32, 115, 97, 115, 104, 47, 115, 97, 115, 104, 108, 97, 119, 49, 52, 46, 80, 117, 115, 104, 73, 115, 32, 115, 97, 115, 104, 47, 115, 97, 115, 104, 108, 97, 119, 49, 52, 46, 80, 117, 115, 104, 79, 110, 101, 32, 115, 97, 115, 104, 47, 115, 97, 115, 104, 108, 97, 119, 49, 52, 46, 80, 117, 115, 104, 70, 114, 97, 109, 101, 115, 32, 115, 97, 115, 104, 47, 115, 97, 115, 104, 108, 97, 119, 49, 52, 46, 80, 117, 115, 104, 67, 97, 110, 32, 115, 97, 115, 104, 47, 115, 97, 115, 104, 108, 97, 119, 49, 50, 46, 83, 112, 108, 105, 116, 73, 115, 32, 115, 97, 115, 104, 47, 115, 97, 115, 104, 108, 97, 119, 49, 50, 46, 83, 112, 108, 105, 116, 67, 97, 110].map Char.ofNat
def Lp : List (List Char) := [[104, 97, 114, 110, 101, 115, 115].map Char.ofNat,
 [57, 48, 98, 52, 50, 100, 98, 100, 99, 50, 52, 54, 55, 51, 50, 51, 56, 57, 50, 48, 100, 50, 50, 98, 56, 57, 53, 102, 48, 48, 55, 48, 53, 101, 102, 48, 53, 53, 102, 54, 54, 55, 97, 57, 54, 56, 100, 50, 56, 97, 57, 52, 55, 52, 56, 57, 49, 49, 48, 97, 48, 101, 53, 55].map Char.ofNat,
 [99, 117, 116].map Char.ofNat,
 [97, 116].map Char.ofNat,
 [115, 97, 115, 104, 47, 115, 97, 115, 104, 108, 97, 119, 48, 55, 46, 70, 108, 97, 116, 78, 101, 120, 116, 115].map Char.ofNat,
 [115, 97, 115, 104, 47, 115, 97, 115, 104, 108, 97, 119, 48, 55, 46, 70, 108, 97, 116, 76, 105, 115, 116, 115].map Char.ofNat,
 [115, 97, 115, 104, 47, 115, 97, 115, 104, 108, 97, 119, 48, 52, 46, 82, 101, 99, 116, 67, 117, 116, 115].map Char.ofNat,
 [115, 97, 115, 104, 47, 115, 97, 115, 104, 108, 97, 119, 48, 57, 46, 65, 100, 106, 117, 115, 116, 83, 104, 97, 114, 101, 115].map Char.ofNat,
 [115, 97, 115, 104, 47, 115, 97, 115, 104, 108, 97, 119, 48, 57, 46, 65, 100, 106, 117, 115, 116, 69, 118, 101, 110, 115].map Char.ofNat,
 [115, 97, 115, 104, 47, 115, 97, 115, 104, 108, 97, 119, 49, 54, 46, 83, 112, 114, 101, 97, 100, 83, 105, 122, 101, 115].map Char.ofNat,
 [115, 97, 115, 104, 47, 115, 97, 115, 104, 108, 97, 119, 48, 55, 46, 70, 108, 97, 116, 67, 104, 97, 110, 103, 101, 115].map Char.ofNat,
 [115, 97, 115, 104, 47, 115, 97, 115, 104, 108, 97, 119, 48, 52, 46, 82, 101, 99, 116, 73, 110, 115, 105, 100, 101].map Char.ofNat,
 [115, 97, 115, 104, 47, 115, 97, 115, 104, 108, 97, 119, 48, 55, 46, 70, 108, 97, 116, 78, 97, 109, 101, 115].map Char.ofNat,
 [115, 97, 115, 104, 47, 115, 97, 115, 104, 108, 97, 119, 48, 57, 46, 65, 100, 106, 117, 115, 116, 83, 101, 116, 115].map Char.ofNat,
 [115, 97, 115, 104, 47, 115, 97, 115, 104, 108, 97, 119, 48, 52, 46, 82, 101, 99, 116, 77, 101, 101, 116, 115].map Char.ofNat,
 [115, 97, 115, 104, 47, 115, 97, 115, 104, 108, 97, 119, 48, 52, 46, 82, 101, 99, 116, 77, 97, 121, 115].map Char.ofNat,
 [115, 97, 115, 104, 47, 115, 97, 115, 104, 108, 97, 119, 48, 55, 46, 70, 108, 97, 116, 83, 116, 105, 108, 108].map Char.ofNat,
 [115, 97, 115, 104, 47, 115, 97, 115, 104, 108, 97, 119, 48, 53, 46, 67, 101, 108, 108, 77, 97, 121, 115].map Char.ofNat,
 [115, 97, 115, 104, 47, 115, 97, 115, 104, 108, 97, 119, 48, 53, 46, 67, 101, 108, 108, 83, 97, 109, 101].map Char.ofNat,
 [115, 97, 115, 104, 47, 115, 97, 115, 104, 108, 97, 119, 48, 53, 46, 67, 101, 108, 108, 67, 111, 117, 110, 116, 115].map Char.ofNat,
 [115, 97, 115, 104, 47, 115, 97, 115, 104, 108, 97, 119, 48, 56, 46, 76, 101, 97, 115, 116, 83, 117, 109, 115].map Char.ofNat,
 [115, 97, 115, 104, 47, 115, 97, 115, 104, 108, 97, 119, 48, 53, 46, 67, 101, 108, 108, 70, 105, 110, 100, 115].map Char.ofNat,
 [115, 97, 115, 104, 47, 115, 97, 115, 104, 108, 97, 119, 48, 56, 46, 76, 101, 97, 115, 116, 73, 115].map Char.ofNat,
 [115, 97, 115, 104, 47, 115, 97, 115, 104, 108, 97, 119, 48, 56, 46, 76, 101, 97, 115, 116, 70, 105, 116, 115].map Char.ofNat,
 [115, 97, 115, 104, 47, 115, 97, 115, 104, 108, 97, 119, 48, 56, 46, 76, 101, 97, 115, 116, 80, 97, 116, 104, 115].map Char.ofNat,
 [115, 97, 115, 104, 47, 115, 97, 115, 104, 108, 97, 119, 48, 53, 46, 67, 101, 108, 108, 80, 117, 116, 115].map Char.ofNat,
 [115, 97, 115, 104, 47, 115, 97, 115, 104, 108, 97, 119, 49, 50, 46, 83, 112, 108, 105, 116, 83, 105, 122, 101, 115].map Char.ofNat,
 [115, 97, 115, 104, 47, 115, 97, 115, 104, 108, 97, 119, 49, 54, 46, 83, 112, 114, 101, 97, 100, 65, 108, 108].map Char.ofNat,
 [115, 97, 115, 104, 47, 115, 97, 115, 104, 108, 97, 119, 49, 54, 46, 83, 112, 114, 101, 97, 100, 65, 116].map Char.ofNat,
 [115, 97, 115, 104, 47, 115, 97, 115, 104, 108, 97, 119, 49, 52, 46, 80, 117, 115, 104, 73, 115].map Char.ofNat,
 [115, 97, 115, 104, 47, 115, 97, 115, 104, 108, 97, 119, 49, 52, 46, 80, 117, 115, 104, 79, 110, 101].map Char.ofNat,
 [115, 97, 115, 104, 47, 115, 97, 115, 104, 108, 97, 119, 49, 52, 46, 80, 117, 115, 104, 70, 114, 97, 109, 101, 115].map Char.ofNat,
 [115, 97, 115, 104, 47, 115, 97, 115, 104, 108, 97, 119, 49, 52, 46, 80, 117, 115, 104, 67, 97, 110].map Char.ofNat,
 [115, 97, 115, 104, 47, 115, 97, 115, 104, 108, 97, 119, 49, 50, 46, 83, 112, 108, 105, 116, 73, 115].map Char.ofNat,
 [115, 97, 115, 104, 47, 115, 97, 115, 104, 108, 97, 119, 49, 50, 46, 83, 112, 108, 105, 116, 67, 97, 110].map Char.ofNat]
theorem Vw : Try.prog.initOrder.toList = Ll := by
 have e : Try.prog.initOrder = String.ofList Ll := by kernel_rfl
 rw [e, String.toList_ofList]
theorem SQ : wordsSigns Try.prog.initOrder.toList = Lp := by
 rw [Vw]
 kernel_rfl
def xq : List (List Char) := Lp.drop 3
theorem PZ : behindMainWord (wordsSigns Try.prog.initOrder.toList) = ([99, 117, 116].map Char.ofNat) :: xq := by
 rw [SQ]
 kernel_rfl
theorem adz : ([99, 117, 116].map Char.ofNat : List Char) = "cut".toList := by decide +kernel
theorem z_ : behindMainWord (wordsSigns Try.prog.initOrder.toList) = "cut".toList :: xq := PZ.trans (congrArg (fun c => c :: xq) adz)
theorem I_ (rest : List (List Char)) : stripLifts liftWords ("cut".toList :: rest) = ([], "cut".toList :: rest) := by
 have key : ∀ (l : List String), (l.all fun o => !("cut".toList == o.toList)) = true → stripLifts l ("cut".toList :: rest) = ([], "cut".toList :: rest) := by
  intro l
  induction l with
  | nil => intro _; rfl
  | cons o l ih =>
   intro h
   simp only [List.all_cons, Bool.and_eq_true] at h
   unfold stripLifts
   rw [if_neg (by simpa using h.1)]
   exact ih h.2
 exact key _ (by decide +kernel)
theorem abp (P : Program) (rest : List (List Char)) (h : behindMainWord (wordsSigns P.initOrder.toList) = "cut".toList :: rest) : P.make = some .cut := by
 unfold Program.make
 rw [h]
 simp only
 have h1 : ("cut".toList == "gc".toList) = false := by decide +kernel
 have h2 : ("cut".toList == "spec".toList) = false := by decide +kernel
 rw [h1, h2, if_neg (by simp), if_pos (by simp)]
theorem XW (P : Program) (rest : List (List Char)) (h : behindMainWord (wordsSigns P.initOrder.toList) = "cut".toList :: rest) : P.headLifts = [] := by
 unfold Program.headLifts
 simp only [h, I_]
 simp
theorem XD (P : Program) (rest : List (List Char)) (h : behindMainWord (wordsSigns P.initOrder.toList) = "cut".toList :: rest) : P.liftsFinal = false := by
 have h1 : (some "cut".toList == some "carried".toList) = false := by decide +kernel
 unfold Program.liftsFinal
 simp only [h, XW P rest h, List.head?_cons, h1, Bool.false_and, List.contains_nil, Bool.or_false]
theorem XA (P : Program) (rest : List (List Char)) (h : behindMainWord (wordsSigns P.initOrder.toList) = "cut".toList :: rest) (h1 : P.laysLater = false) (h2 : P.bearsReflect = false) (h3 : P.doorFits [] = true) : P.mayEnter = true := by
 unfold Program.mayEnter
 rw [h]
 simp only [I_]
 rw [h1, h2, h3]
 simp
theorem Vx : Try.prog.make = some .cut := abp Try.prog xq z_
theorem SI : Try.prog.liftsFinal = false := XD Try.prog xq z_
theorem SN : Try.prog.laysLater = false := by kernel_rfl
theorem OO : Try.prog.bearsReflect = false := by kernel_rfl
theorem Vt : Try.prog.doorFits [] = true := by kernel_rfl
theorem SH : Try.prog.mayEnter = true := XA Try.prog xq z_ SN OO Vt
theorem Vu : (true == Try.prog.plainKeys) = true := by kernel_rfl
theorem SK : Try.prog.stopsHeard = true := by kernel_rfl
theorem VO {P : Program} {f : FuncId} {fn : Func} {s : ChangeSpec} {c : OpenClaim}
  (h0 : (c.wf (OpenSpec.ofChange s)) = true)
  (h1 : (laidOutB P) = true)
  (h2 : (mapsRowed P) = true)
  (h3 : (fn.params.all (P.readableRec ·)) = true)
  (h4 : (namedTie P c.named s.vars) = true)
  (h5 : ((c.stops == [])) = true)
  (h6 : ((P.stops == [])) = true)
  (h7 : ((c.knobs == [])) = true)
  (h8 : ((P.stopKnobs == [])) = true)
  (h9 : ((c.inPlace == P.inPlace f)) = true)
  (h10 : ((c.unfollowed == P.unfollowed f)) = true)
  (h11 : ((c.recurses == P.recurses f)) = true)
  (h12 : ((c.named == P.varsNamed f)) = true)
  (h13 : ((c.maps == (fn.params.toList ++ s.plain.varTypes P).any (P.mapsRec ·))) = true)
  (h14 : ((c.ifaces == (fn.params.toList ++ s.plain.varTypes P).any (P.ifacesRec ·))) = true)
  (h15 : ((c.mapsOut == P.mapsAmong fn.resultTypes.toList)) = true)
  (h16 : ((c.loops == (fn.params.toList ++ s.plain.varTypes P).any (P.loopsFrom ·))) = true)
  (h17 : ((c.wideKeys == (fn.params.toList ++ s.plain.varTypes P ++ fn.resultTypes.toList).any (P.wideKeysFrom ·))) = true)
  (h18 : (s.vars.all (P.varReadable ·)) = true)
  (h19 : (fn.resultTypes.all (fun t => P.readableRec t && decide (t < P.types.size))) = true)
  (h20 : ((c.ifacesOut == fn.resultTypes.toList.any (P.ifacesRec ·))) = true)
  (h21 : ((c.loopsOut == fn.resultTypes.toList.any (P.loopsFrom ·))) = true)
  (h22 : ((c.plainKeys == P.plainKeys)) = true)
  (h23 : (c.shortTexts.isNone) = true)
  (h24 : (P.stopsHeard) = true)
  (h25 : (P.mayEnter) = true)
  (h26 : ((c.lifted == P.liftsFinal)) = true)
  (h27 : ((P.make == some c.make)) = true)
  (hd : c.domain.isEmpty = true) (hk : c.kinds = [])
  (h29 : ((c.pinned == c.pinnedBy)) = true)
  (h30 : ((c.veiled == (fn.params.toList ++ s.plain.varTypes P ++ fn.resultTypes.toList).any (P.veiledRec ·))) = true)
  (h31 : (c.veiledFits P fn.params.toList (fn.params.toList ++ s.plain.varTypes P ++ fn.resultTypes.toList)) = true)
  : joinedFacts P f fn s c = true := by
 unfold joinedFacts
 rw [h0, h1, h2, h3, h4, h5, h6, h7, h8, h9, h10, h11, h12, h13, h14, h15, h16, h17, h18, h19, h20, h21, h22, h23, h24, h25, h26, h27, if_pos hd, hk, h29, h30, h31]
 rfl
end Go.Proofs.Ytfdmfgaiblfbhaa.P
namespace Go.Proofs.Ytfdmfgaiblfbhaa.P
open Go.RowKit Go.Proofs.ag.aA Go.Proofs.ag.bg Go.Proofs.ag.bG
open Go.ChangeShapes Go.WideShapes Go.ChangeAt Go.Joins Go.Deep
section
variable {H : Type} {enc : TypeId × Value → H} {P : Program} {w : World} {base : Nat} {spare : Nat → Bool} {held : Bool}
theorem Oa (d : DataW H) : 1 ≤ Rows.uptoBulk d := by
 cases d with
 | lit l => cases l <;> simp [Rows.uptoBulk]
 | _ => simp [Rows.uptoBulk]
theorem Xl (l : List (DataW H)) : l.length ≤ Rows.uptoBulkAll l := by
 induction l with
 | nil => simp
 | cons x xs ih =>
  have := Oa x
  simp only [Rows.uptoBulkAll, List.length_cons]
  omega
theorem Xm {α : Type} (m : α → Nat) : ∀ (l : List α) (es : List (DataW H)), l.length = es.length → (∀ (i : Nat) (p : α) (e : DataW H), l[i]? = some p → es[i]? = some e → m p ≤ Rows.uptoBulk e) → (l.map m).sum ≤ Rows.uptoBulkAll es := by
 intro l
 induction l with
 | nil => intro es _ _; simp
 | cons x xs ih =>
  intro es hl h
  cases es with
  | nil => simp at hl
  | cons e es =>
   have h0 := h 0 x e rfl rfl
   have h1 := ih es (by simpa using hl) (fun i p e hp he => h (i + 1) p e (by simpa using hp) (by simpa using he))
   simp only [List.map_cons, List.sum_cons, Rows.uptoBulkAll]
   omega
theorem L_ {t : TypeId} {f0 f1 f2 f3 : Field} {fuel : Nat} {cs : List Value} {x : DataW H × List MemPlace} (ht : P.underlying t = some (.struct #[f0, f1, f2, f3])) (h : DataW.trod enc P w base spare held fuel t cs = some x) :
  ∃ y0 y1 y2 y3 n, fuel = n + 1 ∧ x.1 = .agg [y0.1, y1.1, y2.1, y3.1] ∧ cs.length = P.cellsOf t ∧ DataW.trod enc P w base spare held n f0.type ((cs.drop f0.offset).take (P.cellsOf f0.type)) = some y0 ∧
   DataW.trod enc P w base spare held n f1.type ((cs.drop f1.offset).take (P.cellsOf f1.type)) = some y1 ∧ DataW.trod enc P w base spare held n f2.type ((cs.drop f2.offset).take (P.cellsOf f2.type)) = some y2 ∧
   DataW.trod enc P w base spare held n f3.type ((cs.drop f3.offset).take (P.cellsOf f3.type)) = some y3 := by
 obtain ⟨xs, n, hn, rfl, hl, hlen, hf⟩ := DataW.trod_struct ht h
 match xs, hlen with
 | [y0, y1, y2, y3], _ => exact ⟨y0, y1, y2, y3, n, hn, rfl, hl, by simpa using hf 0 f0 rfl, by simpa using hf 1 f1 rfl, by simpa using hf 2 f2 rfl, by simpa using hf 3 f3 rfl⟩
theorem V8 {α : Type} {k : Kd α} {ok : α → Prop} (m : α → Nat) {t e : TypeId} {fuel : Nat} {cs : List Value} {x : DataW H × List MemPlace} (ht : P.underlying t = some (.slice e)) (hs : k.sz = P.cellsOf e)
  (hE : ∀ n, n < fuel → ∀ cs y, DataW.trod enc P w base spare held n e cs = some y → ∃ p, k.K w p cs ∧ ok p ∧ m p ≤ Rows.uptoBulk y.1) (h : DataW.trod enc P w base spare held fuel t cs = some x) :
  ∃ A c l, cs = [.slice A (l : List α).length c] ∧ l.length ≤ c ∧ k.C w A l.length l ∧ (∀ p, p ∈ l → ok p) ∧ (l.map m).sum < Rows.uptoBulk x.1 ∧ l.length < Rows.uptoBulk x.1 := by
 rcases DataW.trod_slice ht h with ⟨rfl, rfl⟩ | ⟨a, len, cap, elems, rest, n, hn, rfl, rfl, hb, hl, hm, hlen, hel, hsp, hns⟩
 ·exact ⟨none, 0, [], rfl, Nat.le_refl _, ⟨rfl, by simp, fun h => absurd h (by simp)⟩, (fun p hp => by cases hp), (by simp [Rows.uptoBulk]), (by simp [Rows.uptoBulk])⟩
 ·obtain ⟨l, hl2, hq⟩ := row_of (α := α) (Q := fun i p => ok p ∧ (∃ c, c.length = k.sz ∧ k.K w p c ∧ ∀ j u, c[j]? = some u → w.cell? (a.add (i * k.sz + j)) = some u) ∧ ∀ e, elems[i]? = some e → m p ≤ Rows.uptoBulk e.1) len (fun i hi => by
   have key := hel i hi
   rw [List.getElem?_eq_getElem (by omega)] at key
   obtain ⟨cs', h1, h2⟩ := Option.bind_eq_some_iff.1 key
   obtain ⟨p, hp, hok, hm⟩ := hE n (by omega) cs' _ h2
   obtain ⟨h3, h4⟩ := cells_at h1
   refine ⟨p, hok, ⟨cs', by rw [h3, hs], hp, fun j u hj => ?_⟩, fun e he => ?_⟩
   ·rw [hs, ← Deep.add_add]
    exact h4 j u hj
   ·rw [List.getElem?_eq_getElem (by omega)] at he
    cases he
    exact hm)
  subst hl2
  refine ⟨some a, cap, l, rfl, hl, ⟨rfl, by unfold maxLen at hm; omega, fun _ => ⟨a, rfl, fun j p hj => ?_⟩⟩, fun p hp => ?_, ?_, ?_⟩
  ·obtain ⟨_, ⟨c, h1, h2, h3⟩, _⟩ := hq j p hj
   exact ⟨c, h1, h2, h3⟩
  ·obtain ⟨i, hi, rfl⟩ := List.getElem_of_mem hp
   exact (hq i _ (List.getElem?_eq_getElem hi)).1
  ·have := Xm m l (elems.map (·.1)) (by simp [hlen]) (fun i p e hp he => by
    rw [List.getElem?_map] at he
    obtain ⟨e', he', rfl⟩ := Option.map_eq_some_iff.1 he
    exact (hq i p hp).2.2 e' he')
   simp only [Rows.uptoBulk]
   omega
  ·have := Xl (elems.map (·.1))
   simp only [List.length_map] at this
   simp only [Rows.uptoBulk]
   omega
end
section
variable {H : Type} {enc : TypeId × Value → H} {w : World} {base : Nat} {spare : Nat → Bool} {held : Bool}
theorem Yd : ∀ (fuel : Nat) {cs : List Value} {x : DataW H × List MemPlace} (_ : DataW.trod enc Try.prog w base spare held fuel 26 cs = some x), ∃ r : ai, (Kd.upto Qe 7 [26] fuel).K w r cs ∧ FV fuel r ∧ sz r ≤ Rows.uptoBulk x.1 := by
 intro fuel
 induction fuel using Nat.strongRecOn with
 | _ fuel ih =>
 intro cs x h
 cases fuel with
 | zero => simp [DataW.trod] at h
 | succ fuel =>
  obtain ⟨y0, y1, y2, y3, m, hm, hx, hl, h0, h1, h2, h3⟩ := L_ Try.underlying26 h
  obtain rfl : fuel = m := by omega
  rw [cells26] at hl
  match cs, hl with
  | [c0, c1, c2, c3, c4, c5, c6], _ =>
    simp only [cells3, cells5, cells23, cells24, List.drop_zero, List.take_succ_cons, List.take_zero, List.drop_succ_cons] at h0 h1 h2 h3
    obtain ⟨n0, e0, _, w0⟩ := DataW.trod_int Try.underlying5 h0
    obtain ⟨n2, e2, _, w2⟩ := DataW.trod_int Try.underlying3 h2
    simp only [List.cons.injEq, and_true] at e0 e2
    subst e0 e2
    obtain ⟨r, hr, hw⟩ := ae7 h1
    obtain e1 := GV hr
    simp only [List.cons.injEq, and_true] at e1
    obtain ⟨rfl, rfl, rfl, rfl⟩ := e1
    obtain ⟨A, c, l, e3, hlc, hC, hok, hsum, _⟩ := V8 (k := Kd.upto Qe 7 [26] fuel) (ok := FV fuel) sz Try.underlying24 (by rw [TN, cells26]) (fun n hn cs y hy => by
     obtain ⟨p, hp, hok, hz⟩ := ih n (by omega) hy
     exact ⟨p, Kd.ET Ph TN (by omega) hp, PV (by omega) hok, hz⟩) h3
    simp only [List.cons.injEq, and_true] at e3
    subst e3
    have agn : l.length ≤ 9223372036854775807 := hC.2.1
    refine ⟨⟨n0, r, n2, l⟩, ?_, ⟨Za w0, hw, yu w2, agn, hok⟩, ?_⟩
    ·exact ⟨[.int .u8 n0], [.int .i64 r.f0, .int .i64 r.f1, .int .i64 r.f2, .int .i64 r.f3, .int .i64 n2, .slice A l.length c], rfl, rfl, [.int .i64 r.f0, .int .i64 r.f1, .int .i64 r.f2, .int .i64 r.f3], [.int .i64 n2, .slice A l.length c], rfl, O7 w r, [.int .i64 n2], [.slice A l.length c], rfl, rfl, A, c, rfl, hlc, hC⟩
    ·rw [hx, bP]
     have := abL l
     simp only [Rows.uptoBulk, Rows.uptoBulkAll]
     have h3 := Oa y0.1
     omega
theorem abB {fuel : Nat} {cs : List Value} {x : DataW H × List MemPlace} (h : DataW.trod enc Try.prog w base spare held fuel 26 cs = some x) : ∃ r : ai, k26.K w r cs ∧ afy r ∧ sz r ≤ Rows.uptoBulk x.1 := by
 obtain ⟨r, hr, hw, hz⟩ := Yd fuel h
 exact ⟨r, ⟨fuel, hr⟩, ⟨fuel, hw⟩, hz⟩
end
end Go.Proofs.Ytfdmfgaiblfbhaa.P
namespace Go.Proofs.Ytfdmfgaiblfbhaa.Gf
open Go.ChangeShapes Go.WideShapes Go.ChangeAt Go.RowKit Go.Proofs.Ytfdmfgaiblfbhaa.P Go.Proofs.ag.aA
open Go.ChangeMaps (open_string shut_string)
theorem own : ownKnob Try.prog.godebug = none := by kernel_rfl
theorem laidOut : laidOutB Try.prog = true := by kernel_rfl
theorem lifted (os : Os) (started : os.Started) (H : Type) (enc : TypeId × Value → H) (F : Stop.Interp) :
  ReturnsInHanded {} Try.checked os 32 .any ((Rows.OpenSpec.upto Rows.splitIsSpec).pre6 enc Try.prog Try.f32 Rows.splitIsUptoRow.domain false) (((Rows.OpenSpec.upto Rows.splitIsSpec).at F).post enc Try.prog Try.f32 false true false false) := by
 refine returnsInHanded_of_cond (C := Try.checked) (s := Rows.OpenSpec.upto Rows.splitIsSpec) (k := Rows.uptoSmall) rfl own started (by kernel_rfl) Try.func32
  (OpenSpec.witness (enc := enc) (C := Try.checked) (s := Rows.OpenSpec.upto Rows.splitIsSpec) (k := Rows.uptoSmall) rfl false ⟨#[], #[.agg #[.int .u8 0, .int .i64 0, .int .i64 0, .int .i64 0, .int .i64 0, .int .i64 0, .slice none 0 0], .int .i64 0, .int .u8 0, .int .i64 0, .int .i64 0, .bool false], []⟩ 8 (by kernel_rfl) (by kernel_rfl) (by kernel_rfl)
   (x := ([.agg [.lit (.int .u8 0), .agg [.lit (.int .i64 0), .lit (.int .i64 0), .lit (.int .i64 0), .lit (.int .i64 0)], .lit (.int .i64 0), .nil], .lit (.int .i64 0), .lit (.int .u8 0), .lit (.int .i64 0), .lit (.int .i64 0), .lit (.bool false)], [], [])) (by kernel_rfl) rfl (by kernel_rfl)) ?_
 intro W base args ds gs before hval0 hW hcnd hk0 _
 have hval : ∀ (j : Nat) t v, Try.f32.params[j]? = some t → args[j]? = some v → Value.okWide Try.prog W .any base t v := hval0
 have hW' := hW
 obtain ⟨p, q, hA0, hV, rfl, hfz, hnd⟩ := hW
 have hA : DataW.TrodAll enc Try.prog W 0 (fun _ => true) true Try.f32.params.toList args.toList ds p := hA0
 rw [Try.params32] at hA hval
 obtain ⟨v0, vs0, d0, ds0, p0, q0, hargs, rfl, rfl, h0, r0⟩ := trodAll_cons hA
 obtain ⟨v1, vs1, d1, ds1, p1, q1, rfl, rfl, rfl, h1, r1⟩ := trodAll_cons r0
 obtain ⟨v2, vs2, d2, ds2, p2, q2, rfl, rfl, rfl, h2, r2⟩ := trodAll_cons r1
 obtain ⟨v3, vs3, d3, ds3, p3, q3, rfl, rfl, rfl, h3, r3⟩ := trodAll_cons r2
 obtain ⟨v4, vs4, d4, ds4, p4, q4, rfl, rfl, rfl, h4, r4⟩ := trodAll_cons r3
 obtain ⟨v5, vs5, d5, ds5, p5, q5, rfl, rfl, rfl, h5, r5⟩ := trodAll_cons r4
 obtain ⟨rfl, rfl, rfl⟩ := trodAll_nil r5
 obtain rfl : args = #[v0, v1, v2, v3, v4, v5] := by cases args; simp_all
 obtain ⟨rfl, rfl⟩ := trodVars_none hV
 have hB := of_decide_eq_true hk0
 simp only [List.cons_append, List.nil_append, List.append_nil, Rows.uptoBulkAll] at hB
 have z0 : Rows.uptoBulk d0 ≤ 1048576 := by omega
 have k0 := h0
 have lt0 : ∀ x ∈ p0, x.block < W.heap.size := by obtain ⟨m, hm⟩ := k0; exact DataW.trod_lt m _ _ _ hm
 obtain ⟨fuel0, hf0⟩ := h0
 obtain ⟨cs0, rfl, _⟩ := okWide_struct Try.underlying26 (hval 0 26 v0 rfl rfl)
 obtain ⟨a0, b0, w0, y0⟩ := abB hf0
 obtain ⟨A0, c0, e0, hc0, hr0⟩ := CV b0
 obtain rfl := acV e0
 obtain ⟨a1, rfl, rfl, rfl, w1⟩ := open_int Try.underlying3 (hval 1 3 v1 rfl rfl) h1
 obtain ⟨a2, rfl, rfl, rfl, w2⟩ := open_int Try.underlying5 (hval 2 5 v2 rfl rfl) h2
 obtain ⟨a3, rfl, rfl, rfl, w3⟩ := open_int Try.underlying3 (hval 3 3 v3 rfl rfl) h3
 obtain ⟨a4, rfl, rfl, rfl, w4⟩ := open_int Try.underlying3 (hval 4 3 v4 rfl rfl) h4
 obtain ⟨a5, rfl, rfl, rfl⟩ := open_bool Try.underlying4 (hval 5 4 v5 rfl rfl) h5
 have hP := Pure.SplitIs a0 a1 a2 a3 a4 a5 w0 (Nat.le_trans y0 z0) (yu w1) (Za w2) (yu w3) (yu w4)
 refine (mF.calls a0.f0 a0.f1.f0 a0.f1.f1 a0.f1.f2 a0.f1.f3 a0.f2 _ _ a0.f3 a1 a2 a3 a4 a5 true W hr0 hc0 hP).mono fun e W' ⟨he, ahJ⟩ => ?_
 have bel : Below W.heap.size W W' := ahJ
 subst he
 exact ⟨_, rfl, _, _, _, [], _, [], hW', trodAll_mk1 (shut_bool Try.underlying4 _), (trodAll_cons_mk (Below.trod laidOut (by kernel_rfl) (of_decide_eq_true (by kernel_rfl)) k0 bel lt0) (trodAll_cons_mk (shut_int Try.underlying3 w1) (trodAll_cons_mk (shut_int Try.underlying5 w2) (trodAll_cons_mk (shut_int Try.underlying3 w3) (trodAll_cons_mk (shut_int Try.underlying3 w4) (trodAll_cons_mk (shut_bool Try.underlying4 _) trodAll_mk0)))))), rfl, bel.frame _, fun h => by cases h⟩
theorem j0 : (Rows.splitIsUptoRow.wf (OpenSpec.ofChange (Rows.OpenSpec.upto Rows.splitIsSpec).bare)) = true := by kernel_rfl
theorem j1 : (laidOutB Try.prog) = true := by kernel_rfl
theorem j2 : (mapsRowed Try.prog) = true := by kernel_rfl
theorem j3 : (Try.f32.params.all (Try.prog.readableRec ·)) = true := by kernel_rfl
theorem j4 : (namedTie Try.prog Rows.splitIsUptoRow.named (Rows.OpenSpec.upto Rows.splitIsSpec).bare.vars) = true := by kernel_rfl
theorem j5 : ((Rows.splitIsUptoRow.stops == [])) = true := by kernel_rfl
theorem j6 : ((Try.prog.stops == [])) = true := by kernel_rfl
theorem j7 : ((Rows.splitIsUptoRow.knobs == [])) = true := by kernel_rfl
theorem j8 : ((Try.prog.stopKnobs == [])) = true := by kernel_rfl
theorem j9 : ((Rows.splitIsUptoRow.inPlace == Try.prog.inPlace 32)) = true := by kernel_rfl
theorem j10 : ((Rows.splitIsUptoRow.unfollowed == Try.prog.unfollowed 32)) = true := by kernel_rfl
theorem j11 : ((Rows.splitIsUptoRow.recurses == Try.prog.recurses 32)) = true := by kernel_rfl
theorem j12 : ((Rows.splitIsUptoRow.named == Try.prog.varsNamed 32)) = true := by kernel_rfl
theorem j13 : ((Rows.splitIsUptoRow.maps == (Try.f32.params.toList ++ (Rows.OpenSpec.upto Rows.splitIsSpec).bare.plain.varTypes Try.prog).any (Try.prog.mapsRec ·))) = true := by kernel_rfl
theorem j14 : ((Rows.splitIsUptoRow.ifaces == (Try.f32.params.toList ++ (Rows.OpenSpec.upto Rows.splitIsSpec).bare.plain.varTypes Try.prog).any (Try.prog.ifacesRec ·))) = true := by kernel_rfl
theorem j15 : ((Rows.splitIsUptoRow.mapsOut == Try.prog.mapsAmong Try.f32.resultTypes.toList)) = true := by kernel_rfl
theorem j16 : ((Rows.splitIsUptoRow.loops == (Try.f32.params.toList ++ (Rows.OpenSpec.upto Rows.splitIsSpec).bare.plain.varTypes Try.prog).any (Try.prog.loopsFrom ·))) = true := by kernel_rfl
theorem j17 : ((Rows.splitIsUptoRow.wideKeys == (Try.f32.params.toList ++ (Rows.OpenSpec.upto Rows.splitIsSpec).bare.plain.varTypes Try.prog ++ Try.f32.resultTypes.toList).any (Try.prog.wideKeysFrom ·))) = true := by kernel_rfl
theorem j18 : ((Rows.OpenSpec.upto Rows.splitIsSpec).bare.vars.all (Try.prog.varReadable ·)) = true := by kernel_rfl
theorem j19 : (Try.f32.resultTypes.all (fun t => Try.prog.readableRec t && decide (t < Try.prog.types.size))) = true := by kernel_rfl
theorem j20 : ((Rows.splitIsUptoRow.ifacesOut == Try.f32.resultTypes.toList.any (Try.prog.ifacesRec ·))) = true := by kernel_rfl
theorem j21 : ((Rows.splitIsUptoRow.loopsOut == Try.f32.resultTypes.toList.any (Try.prog.loopsFrom ·))) = true := by kernel_rfl
theorem j23 : (Rows.splitIsUptoRow.shortTexts.isNone) = true := by kernel_rfl
theorem j29 : ((Rows.splitIsUptoRow.pinned == Rows.splitIsUptoRow.pinnedBy)) = true := by kernel_rfl
theorem j30 : ((Rows.splitIsUptoRow.veiled == (Try.f32.params.toList ++ (Rows.OpenSpec.upto Rows.splitIsSpec).bare.plain.varTypes Try.prog ++ Try.f32.resultTypes.toList).any (Try.prog.veiledRec ·))) = true := by kernel_rfl
theorem j31 : (Rows.splitIsUptoRow.veiledFits Try.prog Try.f32.params.toList (Try.f32.params.toList ++ (Rows.OpenSpec.upto Rows.splitIsSpec).bare.plain.varTypes Try.prog ++ Try.f32.resultTypes.toList)) = true := by kernel_rfl
theorem closed : joinedFacts Try.prog 32 Try.f32 (Rows.OpenSpec.upto Rows.splitIsSpec).bare Rows.splitIsUptoRow = true := P.VO j0 j1 j2 j3 j4 j5 j6 j7 j8 j9 j10 j11 j12 j13 j14 j15 j16 j17 j18 j19 j20 j21 P.Vu j23 P.SK P.SH (by rw [P.SI]; rfl) (by rw [P.Vx]; rfl) rfl rfl j29 j30 j31
theorem over : Rows.splitIsUptoRow.holds Try.pinned (Rows.OpenSpec.upto Rows.splitIsSpec) :=
 OpenClaim.holds_of_cond 32 Try.f32 rfl rfl rfl rfl rfl rfl rfl ⟨rfl, rfl, rfl, rfl, rfl⟩ rfl rfl rfl rfl rfl (by kernel_rfl) Try.func32 closed
  (of_decide_eq_true (by kernel_rfl)) (by unfold Func.isWrapper; first | (rw [if_pos (by decide +kernel)]; kernel_rfl) | (rw [if_neg (by decide +kernel)]; exact ⟨rfl, rfl⟩))
  (fun os started H enc _ F => lifted os started H enc F)
theorem proved : Rows.SplitIsUptoSaid := over
#print axioms proved
end Go.Proofs.Ytfdmfgaiblfbhaa.Gf
namespace Go.Proofs.Ytfdmfgaiblfbhaa
theorem splitIsUpto_holds : Rows.SplitIsUptoSaid := Gf.proved
end Go.Proofs.Ytfdmfgaiblfbhaa
