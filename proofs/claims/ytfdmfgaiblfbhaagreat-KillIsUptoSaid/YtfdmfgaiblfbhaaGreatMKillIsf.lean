/- KillIs: part 6 of 7 of this claim's texts, one behind the other, made small by a program: the words of the kit's printer cut down to those that are used, the claim's own names made short. -/
import Derived.Test.YtfdmfgaiblfbhaaGreatMKillIse
import Derived.Test.YtfdmfgaiblfbhaaGreatMKillIsc
import Derived.Test.YtfdmfgaiblfbhaaGreatMKillIsd
import Derived.Laws.CopyRow
import Derived.Laws.AppendOwn
set_option maxHeartbeats 8000000
set_option maxRecDepth 100000
set_option linter.unusedVariables false
set_option linter.unusedSimpArgs false
namespace Go.Proofs.YtfdmfgaiblfbhaaGreat.P
open Go.RowKit Go.Proofs.ag.aU Go.Proofs.ag.bK Go.Proofs.ag.cO
theorem acG {Pr : Program} {ops : Array Oper} {op : Oper} {a : Act} {Q : Exit → Act → World → Prop} {Kc : Act → World → Prop} {w W : World} {P : Nat → Prop} {bs : List (Option Nat × Obj)} {ts : List (Value × List ai)} {ro : List (Addr × Value)} {N : Tmp} (hw : Region.wanted op (yielded ops a.tmps) = true) (hd : op.dst = some N) (x y : ai) {A B : Option Addr} {c d b b' : Nat} (S : St w P bs [] ts ro W)
  (hV : Kd.V k26 26 W b (Ok w P (keys bs [])) (.slice A x.f3.length c) x.f3) (hV' : Kd.V k26 26 W b' (Ok w P (keys bs [])) (.slice B y.f3.length d) y.f3)
  (hrun : (execOp a.eval op).run Pr W = .ok (.value (.slice (some ⟨W.heap.size, 0, none⟩) 2 2)) (W.alloc (.cells (iy x A c ++ iy y B d).toArray 26)))
  (h : ∀ g c1 w1, St w P bs [(.slice (some ⟨g, 0, none⟩) 2 c1, [x, y])] ts ro w1 → Kc (a.put op.dst (.slice (some ⟨g, 0, none⟩) 2 c1)) w1) : if Region.wanted op (yielded ops a.tmps) = true then Oper.wp Pr op a W Kc Q else Kc (a.put op.dst undef) W := by
 obtain ⟨_, hl, hF⟩ := Kd.DK hV
 obtain ⟨_, hl', hF'⟩ := Kd.DK hV'
 refine Kd.Vy k26 (w0 := W) W.heap.size 26 hw hd (xs := [x, y]) (inner := iy x A c ++ iy y B d) (ok := fun k => Ok w P (keys bs []) k ∨ W.heap.size ≤ k) (gz := Ok w P (keys bs [])) hrun (dC.c7 (pY W _ x hl hF) (dC.c7 (pY W _ y hl' hF') (dC.none _ _))) (fun _ h => .inl h) (.inr (Nat.le_refl _)) (Below.refl _ _) (Nat.le_refl _) (by simp) ?_
 intro v1 w1 hN _ hg _
 obtain ⟨g, c1, rfl, _⟩ := Kd.zN hN (by simp)
 exact h g c1 w1 (S.CO hN (vC hg))
abbrev ZU (w : World) (P : Nat → Prop) (L : List ai) (e : Ending) (w' : World) : Prop := ∃ A c, e = .returned (.slice A L.length c) ∧ Kd.N k26 26 w' w.heap.size (fun k => P k ∨ w.heap.size ≤ k) (.slice A L.length c) L ∧ Below w.heap.size w w'
def Aj.T3 : Bool × List (List Nat × List Nat) := (true, [([], []), ([], []), ([], []), ([], []), ([], []), ([], []), ([4, 5], [4, 5]), ([6], [6]), ([], []), ([], []), ([8, 9], [8, 9]), ([10], [10]), ([0, 1, 0, 1, 4, 5, 6, 7, 11], [0, 1]), ([12, 7, 0, 1, 4, 5, 6, 7, 11], [7, 12]), ([2, 3, 0, 1, 2, 3, 4, 5, 6, 7, 8, 9, 10, 11, 12, 13], [2, 3]), ([14, 11, 13, 0, 1, 2, 3, 4, 5, 6, 7, 8, 9, 10, 11, 12, 13], [11, 14])])
def Aj.B3 : List Nat := [0, 0, 0, 0, 0, 0, 48, 112, 0, 0, 768, 1792, 4083, 8179, 16383, 32767]
theorem Aj.Ho : je .any (opsOf Tryz.f53 3) = Aj.T3 := by kernel_rfl
theorem Aj.Dk : iM Aj.T3.2 Aj.B3 = true := by kernel_rfl
theorem ajg {w W : World} {P : Nat → Prop} {bs : List (Option Nat × Obj)} {ts : List (Value × List ai)} {ro : List (Addr × Value)} {gr cap : Nat} (x y : ai) (S0 : St w P (bs) [(.slice (some ⟨gr, 0, none⟩) 2 cap, [x, y])] (ts) (ro) W) :
  Calls Tryz.prog 53 #[.slice (some ⟨gr, 0, none⟩) 2 cap] W fun e w' => e = .returned (.tuple #[]) ∧ St w P (bs) [(.slice (some ⟨gr, 0, none⟩) 2 cap, [y, x])] (ts) (ro) w' := by
 have S := ae.mk S0
 clear S0
 go_enter Tryz.func53, Tryz.ntmps53
 go_wp2
 go_loopg [2, 3] 1 (fun gg v2 v3 wr => (gg = 1 ∧ v2 = .int .i64 0 ∧ v3 = .int .i64 1 ∧ ae (St w P (bs) [(.slice (some ⟨gr, 0, none⟩) 2 cap, [x, y])] (ts) (ro) wr)) ∨ (v2 = .int .i64 1 ∧ v3 = .int .i64 0 ∧ ae (St w P (bs) [(.slice (some ⟨gr, 0, none⟩) 2 cap, [y, x])] (ts) (ro) wr)))
 case atStart => exact .inl ⟨rfl, rfl, rfl, S⟩
 case round =>
  clear S
  rcases hrel with ⟨hgg, rfl, rfl, S⟩ | ⟨rfl, rfl, S⟩
  case inl =>
   obtain ⟨ua, uc, S1, h1⟩ := S.out.yU (0 : Int) (by decide) (by simp)
   obtain ⟨va, vc, S2, h2⟩ := S1.yU (1 : Int) (by decide) (by simp)
   have e0 : aj [x, y] 0 = x := rfl
   have e1 : aj [x, y] 1 = y := rfl
   rw [e0] at h1 S2
   rw [e1] at h2 S2
   have hcell : ∀ (j : Nat) (u : Value), (iy x ua uc ++ iy y va vc)[j]? = some u → wr.cell? ⟨gr, j, none⟩ = some u := by
    intro j u hj
    by_cases hlt : j < 7
    ·rw [List.getElem?_append_left (by simpa [iy] using hlt)] at hj
     have := h1 j u hj
     simpa using this
    ·rw [List.getElem?_append_right (by simp [iy]; omega)] at hj
     have := h2 (j - 7) u (by simpa [iy] using hj)
     have e : (1 : Int).toNat * 7 + (j - 7) = j := by simp; omega
     rw [e] at this
     exact this
   replace S := ae.mk S2
   have jV := ae.mk hcell
   clear S1 S2 h1 h2 hcell e0 e1
   go_wp2
   refine jT (n := 16) (S := fun w' => St w _ _ _ _ _ w' ∧ ∀ (j : Nat) (u : Value), (iy x ua uc ++ iy y va vc)[j]? = some u → w'.cell? ⟨gr, j, none⟩ = some u) (ds := [13, 15]) (bA 16 0) (by kernel_rfl) rfl rfl ⟨S.out.call (bI (Below.refl _ _)), jb jV.out (bI (Below.refl _ _))⟩ (fun hHeld => ?_); refine gG Aj.Ho Aj.Dk (fun ak fC => ?_)
   replace S := ae.mk (S.out.call (bI (Below.refl _ _)))
   replace jV := ae.mk (jb jV.out (bI (Below.refl _ _)))
   generalize wr.drew = Ph at S jV hHeld ⊢
   refine ay 0 14 (bA 16 1) ak ?_
   refine ay 1 15 (bA 16 3) ak ?_
   refine ay 2 16 (bA 16 7) ak ?_
   refine ay 3 17 (bA 16 15) ak ?_
   refine ay 4 18 (bA 16 31) ak ?_
   refine ay 5 19 (bA 16 63) ak ?_
   refine ay 6 20 (bA 16 127) ak ?_
   refine dM 7 21 (bA 16 255) ak fC hHeld ?_ (hv := by intro w' hs_; have xe7 := (show w'.cell? ⟨gr, 7, none⟩ = some (.int .u8 y.f0) from hs_.2 7 _ rfl); have xe8 := (show w'.cell? ⟨gr, 8, none⟩ = some (.int .i64 y.f1.f0) from hs_.2 8 _ rfl); have xe9 := (show w'.cell? ⟨gr, 9, none⟩ = some (.int .i64 y.f1.f1) from hs_.2 9 _ rfl); have anL := (show w'.cell? ⟨gr, 10, none⟩ = some (.int .i64 y.f1.f2) from hs_.2 10 _ rfl); have anM := (show w'.cell? ⟨gr, 11, none⟩ = some (.int .i64 y.f1.f3) from hs_.2 11 _ rfl); have asf := (show w'.cell? ⟨gr, 12, none⟩ = some (.int .i64 y.f2) from hs_.2 12 _ rfl); have asg := (show w'.cell? ⟨gr, 13, none⟩ = some (.slice va y.f3.length vc) from hs_.2 13 _ rfl); go_simp; with_reducible rfl)
   refine ay 8 22 (bA 16 511) ak ?_
   refine ay 9 23 (bA 16 1023) ak ?_
   refine ay 10 24 (bA 16 2047) ak ?_
   refine dM 11 25 (bA 16 4095) ak fC hHeld ?_ (hv := by intro w' hs_; have xe0 := (show w'.cell? ⟨gr, 0, none⟩ = some (.int .u8 x.f0) from hs_.2 0 _ rfl); have xe1 := (show w'.cell? ⟨gr, 1, none⟩ = some (.int .i64 x.f1.f0) from hs_.2 1 _ rfl); have xe2 := (show w'.cell? ⟨gr, 2, none⟩ = some (.int .i64 x.f1.f1) from hs_.2 2 _ rfl); have xe3 := (show w'.cell? ⟨gr, 3, none⟩ = some (.int .i64 x.f1.f2) from hs_.2 3 _ rfl); have xe4 := (show w'.cell? ⟨gr, 4, none⟩ = some (.int .i64 x.f1.f3) from hs_.2 4 _ rfl); have xe5 := (show w'.cell? ⟨gr, 5, none⟩ = some (.int .i64 x.f2) from hs_.2 5 _ rfl); have xe6 := (show w'.cell? ⟨gr, 6, none⟩ = some (.slice ua x.f3.length uc) from hs_.2 6 _ rfl); go_simp; with_reducible rfl)
   refine ay 12 26 (bA 16 8191) ak ?_
   refine sK 13 none (bA 16 16383) ak (fun K hK => ?_)
   refine NW (0 : Int) y (.tmp 26) (.tmp 21) rfl S.out (by rfl) rfl (by decide) (by simp) (by first | rfl | (go_simp; rfl)) rfl (by kernel_rfl) (.head _) ?_
   intro fM S1
   have S1 : St w P (bs) [(.slice (some ⟨gr, 0, none⟩) 2 cap, [y, y])] ((.slice va y.f3.length vc, y.f3) :: (.slice ua x.f3.length uc, x.f3) :: ts) (ro) fM := S1
   replace S := ae.mk S1
   clear S1
   refine hK.out _ _ ?_
   clear hK K
   refine ay 14 27 (bA 16 32767) ak ?_
   refine sK 15 none (bA 16 65535) ak (fun K hK => ?_)
   refine NW (1 : Int) x (.tmp 27) (.tmp 25) rfl S.out (by rfl) rfl (by decide) (by simp) (by first | rfl | (go_simp; rfl)) rfl (by kernel_rfl) bf ?_
   intro iq S1
   have S1 : St w P (bs) [(.slice (some ⟨gr, 0, none⟩) 2 cap, [y, x])] ((.slice va y.f3.length vc, y.f3) :: (.slice ua x.f3.length uc, x.f3) :: ts) (ro) iq := S1
   replace S := ae.mk S1
   clear S1
   refine hK.out _ _ ?_
   clear hK K
   refine lJ (jc ak.out (by kernel_rfl)) ?_
   clear hHeld
   go_wp2
   go_wp2
   go_roundg 0
   case measure => omega
   case rel => exact .inr ⟨rfl, rfl, ⟨S.out.bD.bD⟩⟩
  case inr =>
   go_wp2
   (try simp only [Exit.inBlock, Exit.then])
   refine bodyPost_end (results_none rfl _ _ _) rfl ?_
   exact ⟨rfl, S.out⟩
def xe.T2 : Bool × List (List Nat × List Nat) := (true, [([], []), ([0], [0]), ([], []), ([], []), ([], []), ([4], [4]), ([1, 2, 3, 5], [1, 2, 3, 5]), ([], []), ([7], [7]), ([], []), ([], []), ([], []), ([8, 9, 10, 11, 6], [8, 9, 10, 11]), ([6, 12], [6, 12]), ([13, 12, 0, 1, 2, 3, 4, 5, 6, 7, 8, 9, 10, 11, 12, 13], [13])])
def xe.B2 : List Nat := [0, 1, 0, 0, 0, 16, 63, 0, 128, 0, 0, 0, 4095, 8191, 16383]
theorem xe.ajv : je .any (opsOf Tryz.f31 2) = xe.T2 := by kernel_rfl
theorem xe.VH : iM xe.T2.2 xe.B2 = true := by kernel_rfl
theorem Ew {r : dW} {ax v : Int} {args : Array Value} {W : World} (h : aQ ax r = v) (hc : Calls Tryz.prog 17 args W fun e w' => e = .returned (.int .i64 (aQ ax r)) ∧ Below W.heap.size W w') : Calls Tryz.prog 17 args W fun e w' => e = .returned (.int .i64 v) ∧ Below W.heap.size W w' := by
 rw [h] at hc
 exact hc
theorem TB {s size e n : Int} {ok : Bool} (hs : I64 s) (hz : I64 size) (h : Dp s size = (e, n, ok)) (W : World) : Calls Tryz.prog 51 #[.int .i64 s, .int .i64 size] W fun e' w' => e' = .returned (.tuple #[.int .i64 e, .int .i64 n, .bool ok]) ∧ Below W.heap.size W w' := by
 obtain ⟨k, hk⟩ := (WH s size hs hz).rounds
 rw [h] at hk
 exact jr.calls k s size e n ok W hk
theorem Zz (leaf : ai) (ax size fresh : Int) (ahead : Bool) (hs : -1000000 ≤ aQ ax leaf.f1 ∧ aQ ax leaf.f1 ≤ 1000000) (hz : I64 size) (P : Nat → Prop) (A : Option Addr) (cc : Nat) (w : World) (hv : Kd.V k26 26 w w.heap.size P (.slice A leaf.f3.length cc) leaf.f3) :
  Calls Tryz.prog 31 #[.agg #[.int .u8 leaf.f0, .int .i64 leaf.f1.f0, .int .i64 leaf.f1.f1, .int .i64 leaf.f1.f2, .int .i64 leaf.f1.f3, .int .i64 leaf.f2, .slice A leaf.f3.length cc], .int .u8 ax, .int .i64 size, .int .i64 fresh, .bool ahead] w (ZU w P (FH ax size fresh ahead leaf)) := by
 have S := ae.mk (St.start (ts := [(.slice A leaf.f3.length cc, leaf.f3)]) (b0 := w.heap.size) (w := w) (P := P) (fun t ht => by rw [List.mem_singleton.1 ht]; exact hv))
 obtain ⟨ck, ⟨cx, cy, cw, ch⟩, aJ, l⟩ := leaf
 simp only [] at S hs ⊢
 unfold FH
 obtain ⟨sv, hsv⟩ : ∃ s, aQ ax ⟨cx, cy, cw, ch⟩ = s := ⟨_, rfl⟩
 simp only [hsv] at hs ⊢
 obtain ⟨⟨e1, n1, ok⟩, hbs⟩ : ∃ r, Dp sv size = r := ⟨_, rfl⟩
 simp only [hbs]
 have Df := ae.mk hsv
 have HSS := ae.mk (show I64 sv by unfold I64; omega)
 have J7 := ae.mk hz
 have HBS := ae.mk hbs
 unfold Ey
 obtain ⟨W1, hw1⟩ : ∃ x, x = if ax = 1 then e1 else cw := ⟨_, rfl⟩
 obtain ⟨H1, hh1⟩ : ∃ x, x = if ax = 1 then ch else e1 := ⟨_, rfl⟩
 obtain ⟨W2, hw2⟩ : ∃ x, x = if ax = 1 then n1 else cw := ⟨_, rfl⟩
 obtain ⟨H2, hh2⟩ : ∃ x, x = if ax = 1 then ch else n1 := ⟨_, rfl⟩
 simp only [← hw1, ← hh1, ← hw2, ← hh2]
 have HW1 := ae.mk hw1
 have HH1 := ae.mk hh1
 have HW2 := ae.mk hw2
 have HH2 := ae.mk hh2
 clear hv hs hz hsv hbs hw1 hh1 hw2 hh2
 cases ahead with
 | false =>
  simp only [Bool.false_eq_true, if_false]
  go_enter Tryz.func31, Tryz.ntmps31
  go_wp2_with (first
   | (refine boxS 5 _ 26 S ?_; clear S; intro b5 eU S; have yu := (S.out.at (.head _) 1).trans rfl; have yw := (S.out.at (.head _) 2).trans rfl; have yx := (S.out.at (.head _) 3).trans rfl; have yz := (S.out.at (.head _) 4).trans rfl)
   | (refine cZ (some 19) Tryz.func17 S (Ew Df.out (CQ ⟨cx, cy, cw, ch⟩ ax)) ?_; clear S; intro fM S; clear yu yw yx yz)
   | (refine cZ (some 21) Tryz.func51 S (TB HSS.out J7.out HBS.out _) ?_; clear S; intro iq S)
   | fail)
  refine jT (n := 15) (S := fun w' => St w _ _ _ _ _ w') (ds := []) (bA 15 0) (by kernel_rfl) rfl rfl (S.out.call (bI (Below.refl _ _))) (fun hHeld => ?_); refine gG xe.ajv xe.VH (fun ak fC => ?_)
  replace S := ae.mk (S.out.call (bI (Below.refl _ _)))
  generalize iq.drew = wd4 at S hHeld ⊢
  refine ay 0 25 (bA 15 1) ak ?_
  refine dM 1 26 (bA 15 3) ak fC hHeld ?_ (hv := by intro w' hs_; have yu := (hs_.at (.head _) 1).trans rfl; have yw := (hs_.at (.head _) 2).trans rfl; have yx := (hs_.at (.head _) 3).trans rfl; have yz := (hs_.at (.head _) 4).trans rfl; go_simp; with_reducible rfl)
  refine ay 2 27 (bA 15 7) ak ?_
  refine ay 3 28 (bA 15 15) ak ?_
  refine ay 4 29 (bA 15 31) ak ?_
  refine dM 5 30 (bA 15 63) ak fC hHeld ?_ (hv := by intro w' hs_; have Kv := (hs_.at (.head _) 5).trans rfl; go_simp; with_reducible rfl)
  refine ay 7 32 (bA 15 191) ak ?_
  refine dM 8 33 (bA 15 447) ak fC hHeld ?_ (hv := by intro w' hs_; have yu := (hs_.at (.head _) 1).trans rfl; have yw := (hs_.at (.head _) 2).trans rfl; have yx := (hs_.at (.head _) 3).trans rfl; have yz := (hs_.at (.head _) 4).trans rfl; go_simp; with_reducible rfl)
  refine ay 9 34 (bA 15 959) ak ?_
  refine ay 10 35 (bA 15 1983) ak ?_
  refine ay 11 36 (bA 15 4031) ak ?_
  refine iH 6 (some 31) (bA 15 4095) ak (fun K hK => ?_)
  refine fO Tryz.func52 (by kernel_rfl) rfl #[.agg #[.int .i64 cx, .int .i64 cy, .int .i64 cw, .int .i64 ch], .int .u8 ax, .int .i64 e1, .int .i64 aJ] (by rfl) rfl rfl (by (try simp only [List.map_toArray, List.map_cons, List.map_nil]); first | done | rfl) ?_
  refine (FC cx cy cw ch ax e1 aJ W1 H1 HW1.out HH1.out _).mono ?_
  rintro e mQ ⟨rfl, hb⟩
  refine ⟨_, rfl, ?_⟩
  replace S := ae.mk (S.out.call hb)
  clear hb
  refine hK.out _ _ S.out (fun hHeld => ?_)
  clear hK K
  refine dO 31 ?_
  refine iH 12 (some 37) (bA 15 8191) ak (fun K hK => ?_)
  refine fO Tryz.func52 (by kernel_rfl) rfl #[.agg #[.int .i64 cx, .int .i64 cy, .int .i64 cw, .int .i64 ch], .int .u8 ax, .int .i64 n1, .int .i64 fresh] (by rfl) rfl rfl (by (try simp only [List.map_toArray, List.map_cons, List.map_nil]); first | done | rfl) ?_
  refine (FC cx cy cw ch ax n1 fresh W2 H2 HW2.out HH2.out _).mono ?_
  rintro e vS ⟨rfl, hb⟩
  refine ⟨_, rfl, ?_⟩
  replace S := ae.mk (S.out.call hb)
  clear hb
  refine hK.out _ _ S.out (fun hHeld => ?_)
  clear hK K
  refine dO 37 ?_
  refine iH 13 (some 38) (bA 15 16383) ak (fun K hK => ?_)
  refine acG (N := 38) (by rfl) rfl ⟨1, ⟨cx, cy, W1, H1⟩, aJ, []⟩ ⟨1, ⟨cx, cy, W2, H2⟩, fresh, []⟩ S.out (Kd.EK k26 26 _ 0 _) (Kd.EK k26 26 _ 0 _) ?hr ?_
  case hr => first | (go_simp; done) | (go_simp; rfl)
  intro gq cq xY S1
  replace S := ae.mk S1
  clear S1
  refine hK.out _ _ S.out.free.bD (fun hHeld => ?_)
  clear hK K
  refine dO 38 ?_
  refine ay 14 14 (bA 15 32767) ak ?_
  refine lJ (jc ak.out (by kernel_rfl)) ?_
  clear hHeld
  go_wp2
  go_ret
  exact ⟨_, _, rfl, S.out.uI, S.out.below⟩
 | true =>
  simp only [if_true]
  go_enter Tryz.func31, Tryz.ntmps31
  go_wp2_with (first
   | (refine boxS 5 _ 26 S ?_; clear S; intro b5 eU S; have yu := (S.out.at (.head _) 1).trans rfl; have yw := (S.out.at (.head _) 2).trans rfl; have yx := (S.out.at (.head _) 3).trans rfl; have yz := (S.out.at (.head _) 4).trans rfl)
   | (refine cZ (some 19) Tryz.func17 S (Ew Df.out (CQ ⟨cx, cy, cw, ch⟩ ax)) ?_; clear S; intro fM S; clear yu yw yx yz)
   | (refine cZ (some 21) Tryz.func51 S (TB HSS.out J7.out HBS.out _) ?_; clear S; intro iq S)
   | fail)
  refine jT (n := 15) (S := fun w' => St w _ _ _ _ _ w') (ds := []) (bA 15 0) (by kernel_rfl) rfl rfl (S.out.call (bI (Below.refl _ _))) (fun hHeld => ?_); refine gG xe.ajv xe.VH (fun ak fC => ?_)
  replace S := ae.mk (S.out.call (bI (Below.refl _ _)))
  generalize iq.drew = wd4 at S hHeld ⊢
  refine ay 0 25 (bA 15 1) ak ?_
  refine dM 1 26 (bA 15 3) ak fC hHeld ?_ (hv := by intro w' hs_; have yu := (hs_.at (.head _) 1).trans rfl; have yw := (hs_.at (.head _) 2).trans rfl; have yx := (hs_.at (.head _) 3).trans rfl; have yz := (hs_.at (.head _) 4).trans rfl; go_simp; with_reducible rfl)
  refine ay 2 27 (bA 15 7) ak ?_
  refine ay 3 28 (bA 15 15) ak ?_
  refine ay 4 29 (bA 15 31) ak ?_
  refine dM 5 30 (bA 15 63) ak fC hHeld ?_ (hv := by intro w' hs_; have Kv := (hs_.at (.head _) 5).trans rfl; go_simp; with_reducible rfl)
  refine ay 7 32 (bA 15 191) ak ?_
  refine dM 8 33 (bA 15 447) ak fC hHeld ?_ (hv := by intro w' hs_; have yu := (hs_.at (.head _) 1).trans rfl; have yw := (hs_.at (.head _) 2).trans rfl; have yx := (hs_.at (.head _) 3).trans rfl; have yz := (hs_.at (.head _) 4).trans rfl; go_simp; with_reducible rfl)
  refine ay 9 34 (bA 15 959) ak ?_
  refine ay 10 35 (bA 15 1983) ak ?_
  refine ay 11 36 (bA 15 4031) ak ?_
  refine iH 6 (some 31) (bA 15 4095) ak (fun K hK => ?_)
  refine fO Tryz.func52 (by kernel_rfl) rfl #[.agg #[.int .i64 cx, .int .i64 cy, .int .i64 cw, .int .i64 ch], .int .u8 ax, .int .i64 e1, .int .i64 aJ] (by rfl) rfl rfl (by (try simp only [List.map_toArray, List.map_cons, List.map_nil]); first | done | rfl) ?_
  refine (FC cx cy cw ch ax e1 aJ W1 H1 HW1.out HH1.out _).mono ?_
  rintro e mQ ⟨rfl, hb⟩
  refine ⟨_, rfl, ?_⟩
  replace S := ae.mk (S.out.call hb)
  clear hb
  refine hK.out _ _ S.out (fun hHeld => ?_)
  clear hK K
  refine dO 31 ?_
  refine iH 12 (some 37) (bA 15 8191) ak (fun K hK => ?_)
  refine fO Tryz.func52 (by kernel_rfl) rfl #[.agg #[.int .i64 cx, .int .i64 cy, .int .i64 cw, .int .i64 ch], .int .u8 ax, .int .i64 n1, .int .i64 fresh] (by rfl) rfl rfl (by (try simp only [List.map_toArray, List.map_cons, List.map_nil]); first | done | rfl) ?_
  refine (FC cx cy cw ch ax n1 fresh W2 H2 HW2.out HH2.out _).mono ?_
  rintro e vS ⟨rfl, hb⟩
  refine ⟨_, rfl, ?_⟩
  replace S := ae.mk (S.out.call hb)
  clear hb
  refine hK.out _ _ S.out (fun hHeld => ?_)
  clear hK K
  refine dO 37 ?_
  refine iH 13 (some 38) (bA 15 16383) ak (fun K hK => ?_)
  refine acG (N := 38) (by rfl) rfl ⟨1, ⟨cx, cy, W1, H1⟩, aJ, []⟩ ⟨1, ⟨cx, cy, W2, H2⟩, fresh, []⟩ S.out (Kd.EK k26 26 _ 0 _) (Kd.EK k26 26 _ 0 _) ?hr ?_
  case hr => first | (go_simp; done) | (go_simp; rfl)
  intro gq cq xY S1
  replace S := ae.mk S1
  clear S1
  refine hK.out _ _ S.out.free.bD (fun hHeld => ?_)
  clear hK K
  refine dO 38 ?_
  refine ay 14 14 (bA 15 32767) ak ?_
  refine lJ (jc ak.out (by kernel_rfl)) ?_
  clear hHeld
  go_wp2_with (first
   | (refine lK (some 41) Tryz.func53 (ajg _ _ S.out) ?_; rintro e A_ ⟨rfl, S1⟩; refine ⟨_, rfl, ?_⟩; replace S := ae.mk S1; clear S1)
   | fail)
  go_ret
  exact ⟨_, _, rfl, S.out.uI, S.out.below⟩
theorem alp (k : ai) (x : Int) : xB 2 k x = wrap64 (wrap64 (x + k.f1.f2) + 1) := by
 unfold xB
 rw [if_pos rfl]
 unfold wrap64
 omega
theorem alq (k : ai) (y : Int) : xC 3 k y = wrap64 (wrap64 (y + k.f1.f3) + 1) := by
 unfold xC
 rw [if_neg (by decide), if_pos rfl]
 unfold wrap64
 omega
theorem aji : ∀ (N : Nat) (c : ai), sz c ≤ N → N ≤ 1000000 → ∀ (P : Nat → Prop) (A : Option Addr) (cc : Nat) (x y : Int) (w : World), Kd.V k26 26 w w.heap.size P (.slice A c.f3.length cc) c.f3 →
  Calls Tryz.prog 22 #[.agg #[.int .u8 c.f0, .int .i64 c.f1.f0, .int .i64 c.f1.f1, .int .i64 c.f1.f2, .int .i64 c.f1.f3, .int .i64 c.f2, .slice A c.f3.length cc], .int .i64 x, .int .i64 y] w (yg w P (bU c x y)) := by
 intro N
 induction N with
 | zero => intro c h; rw [bJ] at h; omega
 | succ N ih =>
  intro c hc hN P A cc x y w hv
  have hsz := bJ c
  have S := ae.mk (St.start (ts := [(.slice A c.f3.length cc, c.f3)]) (b0 := w.heap.size) (w := w) (P := P) (fun t ht => by rw [List.mem_singleton.1 ht]; exact hv))
  rw [ou]
  have hlen := jf c.f3
  have gZ := ae.mk (show c.f3.length ≤ 1000000 by omega)
  have IH := ae.mk fun (k : ai) (hk : k ∈ c.f3) P A cc x y w h => ih k (by have := Bz hk; omega) (by omega) P A cc x y w h
  obtain ⟨ck, ⟨cx, cy, cw, ch⟩, aJ, l⟩ := c
  simp only [] at S IH gZ ⊢
  clear ih hc hN hv hsz hlen
  go_enter Tryz.func22, Tryz.ntmps22
  go_wp2_with (first
   | (refine boxS 3 _ 26 S ?_; clear S; intro b3 eU S)
   | (refine boxS 6 _ 26 S ?_; clear S; intro b6 fM S)
   | (refine qw 3 11 9 #[.int .u8 ck, .int .i64 x, .int .i64 cy, .int .i64 cw, .int .i64 ch, .int .i64 aJ, .slice A l.length cc] 1 1 S ?_; clear S; intro iq S)
   | (refine qw 3 14 12 #[.int .u8 ck, .int .i64 x, .int .i64 y, .int .i64 cw, .int .i64 ch, .int .i64 aJ, .slice A l.length cc] 2 1 S ?_; clear S; intro jD S)
   | (refine ik 15 rfl ?_; refine La (N := 15) rfl rfl S.out ?hr ?_; (case hr => first | (go_simp; done) | (go_simp; rfl)); intro LM MG mQ S1; replace S := ae.mk S1; clear S1; have dJ := (S.out.at bf 6).trans rfl)
   | fail)
  clear dJ
  go_loopg [7, 19, 1, 2] l.length (fun gg v7 v19 v1 v2 wr => ∃ (pre rest : List ai) (Ap : Option Addr) (cp : Nat), v7 = .slice Ap pre.length cp ∧ v19 = .int .i64 (pre.length : Int) ∧ v1 = .int .i64 (pU ck pre x) ∧ v2 = .int .i64 (pV ck pre y) ∧ ae (pre ++ rest = l) ∧ rest.length ≤ gg ∧ ae (St w P [(some b6, .cells #[.int .u8 0, .int .i64 0, .int .i64 0, .int .i64 0, .int .i64 0, .int .i64 0, .slice none 0 0] 26 (0, 0)), (some b3, .cells #[.int .u8 ck, .int .i64 x, .int .i64 y, .int .i64 cw, .int .i64 ch, .int .i64 aJ, .slice A l.length cc] 26 (0, 0))] [(.slice Ap pre.length cp, (lg ck pre x y))] [(.slice A l.length cc, l)] [] wr))
  case atStart => exact ⟨[], l, _, _, rfl, rfl, rfl, rfl, ⟨rfl⟩, Nat.le_refl _, ⟨by rw [nG]; exact S.out⟩⟩
  case round =>
   clear S
   obtain ⟨pre, rest, Ap, cp, rfl, rfl, rfl, rfl, HE, hgg, S⟩ := hrel
   cases rest with
   | nil =>
    have hE := HE.out
    rw [List.append_nil] at hE
    have hE2 := hE.symm
    subst hE2
    clear hE HE hgg
    have hlt : ¬ ((l.length : Int) < (l.length : Int)) := by omega
    go_wp2_with (first
     | (refine qw 24 61 60 #[.int .u8 ck, .int .i64 x, .int .i64 y, .int .i64 cw, .int .i64 ch, .int .i64 aJ, .slice Ap l.length cp] 6 1 S ?_; clear S; intro vS S; obtain ⟨dm, dn, dA, dB, fK, gI, dJ⟩ := St.fF S bf)
     | (refine gY 26 6 62 #[.int .u8 ck, .int .i64 x, .int .i64 y, .int .i64 cw, .int .i64 ch, .int .i64 aJ, .slice Ap l.length cp] 0 7 S ?_; clear S; intro xY S; clear dm dn dA dB fK gI dJ)
     | fail)
    refine bodyPost_ret (results_cell_row rfl _ _ b6 26 _ (0, 0) _ rfl (S.out.blk _ (.head _) _ rfl) Tryz.underlying26 rfl (by kernel_rfl)) rfl ?_
    have hN := S.out.uI
    simp only [yg, nD]
    exact ⟨_, _, rfl, hN, S.out.below⟩
   | cons k rest =>
    have hk : k ∈ l := by rw [← HE.out]; simp
    have hlt : (pre.length : Int) < (l.length : Int) := by rw [← HE.out, List.length_append, List.length_cons]; omega
    have hw1 : wrap64 ((pre.length : Int) + 1) = ((pre ++ [k]).length : Int) := by have := gZ.out; rw [List.length_append, List.length_singleton]; unfold wrap64; omega
    have HW1 := ae.mk hw1
    have jl := ae.mk hgg
    have HK := ae.mk hk
    have wI := ae.mk (show pre.length ≤ 1000000 by have := gZ.out; omega)
    obtain ⟨ed, ua, uc, ek, S1⟩ := S.out.elem (.head _) (pre.length : Int) (Int.natCast_nonneg _) hlt
    subst ek
    have hrd : aj l (pre.length : Int) = k := by rw [← HE.out]; exact jd pre k rest
    rw [hrd] at S1
    simp only [Int.toNat_natCast] at S1
    replace S := ae.mk S1
    clear S1 hrd hk hgg hw1
    by_cases h2 : ck = 2
    ·subst h2
     obtain ⟨iP, iQ, iR, iC, iD, jk, jE⟩ := St.yA S
     have dJ := (S.out.at bf 6).trans rfl
     go_wp2_with (first
      | (refine uO (some 30) Tryz.func22 S (IH.out k HK.out _ ua uc _ _ _ (d_ (S.out.tree _ (.head _)))) ?_; clear S; intro WZ ahi A_ S; clear iP iQ iR iC iD jk jE dJ)
      | (refine ik 32 rfl ?_; at_builtin; go_loud (refine yR (.tmp 22) (.tmp 31) rfl rfl Tryz.underlying24 info26 S.out (bU k (pU 2 pre x) (pV 2 pre y)) (.head _) rfl (by first | (go_simp; done) | (go_simp; rfl)) (by have := wI.out; rw [nD]; omega) ?_); intro Aq cq FZ S1; rw [← DC 2 k pre x y] at S1 ⊢; rw [nD] at S1 ⊢; replace S := ae.mk S1; clear S1; have dm := (S.out.at bf 0).trans rfl; have dJ := (S.out.at bf 6).trans rfl; have iC := (S.out.cell _ jy).1)
      | fail)
     clear dm dJ iC
     have hw1 := HW1.out
     go_wp2
     go_roundg rest.length
     case measure => exact Nat.lt_of_lt_of_le (Nat.lt_succ_self _) jl.out
     case rel => exact ⟨pre ++ [k], rest, Aq, cq, (by simp), (by rw [hw1]), (by rw [wC]; rw [alp]), (by rw [wE]; simp [xC]), ⟨by rw [List.append_assoc]; exact HE.out⟩, Nat.le_refl _, ⟨S.out.bD.bD.aG.aG.aG.aG.aG.aG.aG⟩⟩
    ·have h2b : (ck == 2) = false := beq_eq_false_iff_ne.mpr h2
     have h2d : decide (ck = 2) = false := decide_eq_false h2
     by_cases h3 : ck = 3
     ·subst h3
      obtain ⟨iP, iQ, iR, iC, iD, jk, jE⟩ := St.yA S
      have dJ := (S.out.at bf 6).trans rfl
      go_wp2_with (first
       | (refine uO (some 30) Tryz.func22 S (IH.out k HK.out _ ua uc _ _ _ (d_ (S.out.tree _ (.head _)))) ?_; clear S; intro WZ ahi CW S; clear iP iQ iR iC iD jk jE dJ)
       | (refine ik 32 rfl ?_; at_builtin; go_loud (refine yR (.tmp 22) (.tmp 31) rfl rfl Tryz.underlying24 info26 S.out (bU k (pU 3 pre x) (pV 3 pre y)) (.head _) rfl (by first | (go_simp; done) | (go_simp; rfl)) (by have := wI.out; rw [nD]; omega) ?_); intro Aq cq DV S1; rw [← DC 3 k pre x y] at S1 ⊢; rw [nD] at S1 ⊢; replace S := ae.mk S1; clear S1; have dm := (S.out.at bf 0).trans rfl; have dJ := (S.out.at bf 6).trans rfl; have iD := (S.out.cell _ su).1)
       | fail)
      clear dm dJ iD
      have hw1 := HW1.out
      go_wp2
      go_roundg rest.length
      case measure => exact Nat.lt_of_lt_of_le (Nat.lt_succ_self _) jl.out
      case rel => exact ⟨pre ++ [k], rest, Aq, cq, (by simp), (by rw [hw1]), (by rw [wC]; simp [xB]), (by rw [wE]; rw [alq]), ⟨by rw [List.append_assoc]; exact HE.out⟩, Nat.le_refl _, ⟨S.out.bD.bD.aG.aG.aG.aG.aG.aG.aG⟩⟩
     ·have h3b : (ck == 3) = false := beq_eq_false_iff_ne.mpr h3
      have h3d : decide (ck = 3) = false := decide_eq_false h3
      have H2 := ae.mk h2
      have H3 := ae.mk h3
      clear h2 h3
      obtain ⟨iP, iQ, iR, iC, iD, jk, jE⟩ := St.yA S
      have dJ := (S.out.at bf 6).trans rfl
      go_wp2_with (first
       | (refine uO (some 30) Tryz.func22 S (IH.out k HK.out _ ua uc _ _ _ (d_ (S.out.tree _ (.head _)))) ?_; clear S; intro WZ ahi FM S; clear iP iQ iR iC iD jk jE dJ)
       | (refine ik 32 rfl ?_; at_builtin; go_loud (refine yR (.tmp 22) (.tmp 31) rfl rfl Tryz.underlying24 info26 S.out (bU k (pU ck pre x) (pV ck pre y)) (.head _) rfl (by first | (go_simp; done) | (go_simp; rfl)) (by have := wI.out; rw [nD]; omega) ?_); intro Aq cq JK S1; rw [← DC ck k pre x y] at S1 ⊢; rw [nD] at S1 ⊢; replace S := ae.mk S1; clear S1; have dm := (S.out.at bf 0).trans rfl)
       | fail)
      clear dm
      have hw1 := HW1.out
      go_wp2
      go_roundg rest.length
      case measure => exact Nat.lt_of_lt_of_le (Nat.lt_succ_self _) jl.out
      case rel => exact ⟨pre ++ [k], rest, Aq, cq, (by simp), (by rw [hw1]), (by rw [wC]; unfold xB; rw [if_neg H2.out]), (by rw [wE]; unfold xC; rw [if_neg H2.out, if_neg H3.out]), ⟨by rw [List.append_assoc]; exact HE.out⟩, Nat.le_refl _, ⟨S.out.bD.bD.aG.aG.aG.aG.aG.aG.aG⟩⟩
end Go.Proofs.YtfdmfgaiblfbhaaGreat.P
namespace Go.Proofs.YtfdmfgaiblfbhaaGreat.Pure
open Go.RowKit Go.Proofs.YtfdmfgaiblfbhaaGreat.P Go.Proofs.ag.aU Go.Proofs.ag.bK Go.Proofs.ag.cO
theorem aaX {b : Int} {gs : List Int} {r : List Int × Bool} (h : EI b gs r) : r.2 = false → r.1 = [] := by
 rcases h with ⟨rfl, _⟩ | ⟨rfl, _⟩ | ⟨qs, rfl, _⟩ <;> simp
theorem aje (b : Int) (gs : List Int) (hl : gs.length ≤ 100000) (h0 : -100000 ≤ b) (h1 : b ≤ 100000) (r : List Int × Bool) (h : EI b gs r) : Ev (fun k => oh.f k b gs) r := by
 unfold oh.f
 refine Ev.sZ ⟨h0, h1, hl⟩ ?_
 rcases h with ⟨rfl, h⟩ | ⟨rfl, hne, hg, hb⟩ | ⟨qs, rfl, hg, hb, hf, hq, he, ho, hr⟩
 ·rcases h with h | h | ⟨h, h2⟩
  ·exact Ev.sZ h (Ev.now _)
  ·refine Ev.uA ?_ (Ev.uA h (Ev.now _))
   rintro rfl
   exact h fun g hg => by cases hg
  ·by_cases hne : gs = []
   ·exact Ev.sZ hne (Ev.now _)
   ·refine Ev.uA hne (Ev.sZ h ?_)
    have ht := CU gs fun g hg => (h g hg).1
    have := Zd (-b).toNat (-b) (gs.map fun g => (g, 0)) rfl (LJ h) (by rw [IZ]; omega) (by omega)
    rw [Int.neg_neg] at this
    exact this
 ·exact Ev.uA hne (Ev.sZ hg (aby b gs hb hne))
 ·refine Ev.uA ?_ (Ev.sZ hg hr)
  rintro rfl
  have : qs = [] := List.map_eq_nil_iff.1 hf
  subst this
  simp [outs] at ho
  omega
end Go.Proofs.YtfdmfgaiblfbhaaGreat.Pure
namespace Go.Proofs.YtfdmfgaiblfbhaaGreat.P
open Go.RowKit Go.Proofs.ag.aU Go.Proofs.ag.bK Go.Proofs.ag.cO
section
variable {W : World} {b : Nat} {P : Nat → Prop} {A : Option Addr} {cc : Nat}
theorem Bv (r : dW) (ax : Int) : Calls Tryz.prog 42 #[.agg #[.int .i64 r.f0, .int .i64 r.f1, .int .i64 r.f2, .int .i64 r.f3], .int .u8 ax] W fun e w' => e = .returned (.int .i64 (aQ ax r)) ∧ Below W.heap.size W w' :=
 tH.calls r.f0 r.f1 r.f2 r.f3 ax _ W (WC r ax)
theorem WB (c : ai) (ax : Int) (hz : sz c ≤ 1048576) (ht : dF c = true) (hV : Kd.V k26 26 W b P (.slice A c.f3.length cc) c.f3) :
  Calls Tryz.prog 59 #[.agg #[.int .u8 c.f0, .int .i64 c.f1.f0, .int .i64 c.f1.f1, .int .i64 c.f1.f2, .int .i64 c.f1.f3, .int .i64 c.f2, .slice A c.f3.length cc], .int .u8 ax] W fun e w' => e = .returned (.int .i64 (dG ax c)) ∧ Below W.heap.size W w' := by
 exact alj ax _ c (Nat.le_refl _) hz (oL (kR ht)) b P A cc W hV
theorem abu (c : ai) (ax : Int) (hV : Kd.V k26 26 W b P (.slice A c.f3.length cc) c.f3) :
  Calls Tryz.prog 78 #[.agg #[.int .u8 c.f0, .int .i64 c.f1.f0, .int .i64 c.f1.f1, .int .i64 c.f1.f2, .int .i64 c.f1.f3, .int .i64 c.f2, .slice A c.f3.length cc], .int .u8 ax] W fun e w' => e = .returned (.bool (iF ax c.f0)) ∧ Below W.heap.size W w' := by
 have h := Kd.lF hV
 exact rG.calls _ _ _ _ _ _ A cc c.f3 ax _ W h.2.2 h.2.1 (IV c ax)
theorem G5 (c : ai) (x y : Int) (hz : sz c ≤ 1000000) (hV : Kd.V k26 26 W b P (.slice A c.f3.length cc) c.f3) :
  Calls Tryz.prog 22 #[.agg #[.int .u8 c.f0, .int .i64 c.f1.f0, .int .i64 c.f1.f1, .int .i64 c.f1.f2, .int .i64 c.f1.f3, .int .i64 c.f2, .slice A c.f3.length cc], .int .i64 x, .int .i64 y] W (yg W P (bU c x y)) := by
 exact aji 1000000 c hz (Nat.le_refl _) P A cc x y W (d_ hV)
theorem Zi (b : Int) (gs : List Int) (hl : gs.length ≤ 100000) (h0 : -100000 ≤ b) (h1 : b ≤ 100000) (hC : Kd.C (Kd.int .i64) W A gs.length gs) (hc : gs.length ≤ cc) :
  Calls Tryz.prog 79 #[.int .i64 b, .slice A gs.length cc] W fun e w' => ∃ A' c', e = .returned (.tuple #[.slice A' (oP b gs).1.length c', .bool (oP b gs).2]) ∧ (Kd.int .i64).R 3 w' W.heap.size (fun _ => True) (.slice A' (oP b gs).1.length c') (oP b gs).1 ∧ Below W.heap.size W w' := by
 obtain ⟨k, hk⟩ := (Pure.aje b gs hl h0 h1 _ (zY b gs hl (by omega) (by omega)).1).rounds
 exact (oh.calls k b A cc gs _ _ W hC hc hk).mono (fun e w' ⟨v, he, hR, hB⟩ => by
  obtain ⟨A', c', rfl⟩ := Kd.ig hR
  exact ⟨A', c', he, hR, hB⟩)
end
theorem ajn {b : Int} {gs : List Int} (hl : gs.length ≤ 100000) (h0 : -2147483647 ≤ b) (h1 : b ≤ 2147483647) (h : (oP b gs).2 = false) : (oP b gs).1 = [] := Pure.aaX (zY b gs hl h0 h1).1 h
theorem Zt {b : Int} {gs : List Int} (hl : gs.length ≤ 100000) (h0 : -100000 ≤ b) (h1 : b ≤ 100000) (hg : ∀ g, g ∈ gs → g ≤ 100000) : ∀ x, x ∈ (oP b gs).1 → -100000 ≤ x ∧ x ≤ 100000 := by
 intro x hx
 rcases (zY b gs hl (by omega) (by omega)).1 with ⟨e, _⟩ | ⟨e, hne, _, hb⟩ | ⟨qs, e, _, _, hq, hgd, _⟩
 ·rw [e] at hx; cases hx
 ·rw [e] at hx
  simp only [moreL, List.mem_map, List.mem_range] at hx
  obtain ⟨i, hi, rfl⟩ := hx
  have hn : (0 : Int) < (gs.length : Int) := by have := List.length_pos_iff.2 hne; omega
  unfold lS
  have hd : 0 ≤ b / (gs.length : Int) := Int.ediv_nonneg hb (by omega)
  have hm : 0 ≤ b % (gs.length : Int) := Int.emod_nonneg _ (by omega)
  have hdm := Int.mul_ediv_add_emod b (gs.length : Int)
  have hle : b / (gs.length : Int) ≤ (gs.length : Int) * (b / (gs.length : Int)) := by
   have := Int.mul_le_mul_of_nonneg_right (show (1 : Int) ≤ (gs.length : Int) by omega) hd
   omega
  split <;> omega
 ·rw [e] at hx
  simp only [List.mem_map] at hx
  obtain ⟨p, hp, rfl⟩ := hx
  have h2 := hgd p hp
  have h3 := hg p.1 (by rw [← hq]; exact List.mem_map_of_mem hp)
  omega
section
variable {Pr : Program} {ops : Array Oper} {rest : List Oper} {op : Oper} {a : Act} {Q : Exit → Act → World → Prop} {w W : World} {P : Nat → Prop} {bs : List (Option Nat × Obj)} {ow : List (Value × List ai)} {ts : List (Value × List ai)} {ro : List (Addr × Value)}
theorem U1 {N : Tmp} (hd : op.dst = some N) (hgd : op.guard = none) (S : St w P bs ow ts ro W) (hrun : (execOp a.eval op).run Pr W = .ok (.value (.slice (some ⟨W.heap.size, 0, none⟩) 0 0)) (W.alloc (.cells #[] 3)))
  (h : ∀ A c o w1, St w P (((Value.slice A 0 c).ownBlock, o) :: bs) ow ts ro w1 → IR w.heap.size (.slice A 0 c) [] o → wpList Pr ops Q rest (a.put op.dst (.slice A 0 c)) w1) : wpList Pr ops Q (op :: rest) a W :=
 Kd.xk (Kd.int .i64) (w0 := W) W.heap.size 3 hgd hd (xs := ([] : List Int)) (inner := []) (ok := fun _ => True) (gz := fun _ => True) hrun (dC.none _ _) (fun _ hk => hk) trivial (Below.refl _ _) (Nat.le_refl _) (by simp) (fun v1 w1 hR hb hg _ => by
  obtain ⟨A, c, rfl⟩ := Kd.ig hR
  obtain ⟨o, S1, HI⟩ := S.NV hR (vC hg)
  exact h A c o w1 S1 HI)
end
abbrev Uf (w : World) (P : Nat → Prop) (z : ai) (e : Ending) (w' : World) : Prop := ∃ A c, e = .returned (.agg #[.int .u8 z.f0, .int .i64 z.f1.f0, .int .i64 z.f1.f1, .int .i64 z.f1.f2, .int .i64 z.f1.f3, .int .i64 z.f2, .slice A z.f3.length c]) ∧ Kd.V k26 26 w' w.heap.size (fun k => P k ∨ w.heap.size ≤ k) (.slice A z.f3.length c) z.f3 ∧ Below w.heap.size w w'
def zi (id : Int) (c : ai) : Option ai := (gX c).find? fun x => decide (x.f2 = id)
def GY (id : Int) (l : List ai) : Option ai := ((allL l).filter fun x => decide (x.f0 = 1)).find? fun x => decide (x.f2 = id)
theorem abx (id : Int) : GY id [] = none := by unfold GY; rw [kS]; rfl
theorem Zc (id : Int) (k : ai) (ks : List ai) : GY id (k :: ks) = (zi id k).or (GY id ks) := by
 unfold GY zi gX
 rw [iE, List.filter_append, List.find?_append]
theorem afr (id : Int) (c : ai) : zi id c = if c.f0 = 1 ∧ c.f2 = id then some c else GY id c.f3 := by
 unfold zi GY gX
 rw [lZ, List.filter_cons]
 by_cases h0 : c.f0 = 1
 ·rw [if_pos (decide_eq_true h0), List.find?_cons]
  by_cases h1 : c.f2 = id
  ·rw [if_pos ⟨h0, h1⟩, decide_eq_true h1]
  ·rw [if_neg (fun h => h1 h.2), decide_eq_false h1]
 ·rw [if_neg (by simpa using h0), if_neg (fun h => h0 h.1)]
theorem Ti (id : Int) : ∀ (N : Nat) (c : ai), sz c ≤ N → zi id c = match fB id c with
 | some p => jX c p
 | none => none := by
 intro N
 induction N with
 | zero => intro c h; rw [bJ] at h; omega
 | succ N ih =>
  intro c hc
  have hcs := bJ c
  rw [afr, vz]
  by_cases h : c.f0 = 1 ∧ c.f2 = id
  ·rw [if_pos h, if_pos h]; rfl
  ·rw [if_neg h, if_neg h]
   have key : ∀ (l pre : List ai), pre ++ l = c.f3 → GY id l = match qJ id pre.length l with
    | some p => jX c p
    | none => none := by
    intro l
    induction l with
    | nil => intro pre _; rw [abx, rf]
    | cons k ks ihl =>
     intro pre hp
     have wZ : k ∈ c.f3 := by rw [← hp]; simp
     have hks : sz k ≤ N := by have := nS wZ; omega
     rw [Zc, pM, ih k hks]
     cases hk : fB id k with
     | some q =>
      simp only []
      have e : jX c (((pre.length : Nat) : Int) :: q) = jX k q := by
       have hl : pre.length < c.f3.length := by rw [← hp]; simp
       simp only [jX]
       rw [if_neg (by omega), xu, ← hp, PK]
      rw [e]
      obtain ⟨z, hz, _⟩ := (Ef id _).1 k (Nat.le_refl _) q hk
      rw [hz]
      rfl
     | none =>
      simp only []
      have h2 := ihl (pre ++ [k]) (by rw [List.append_assoc]; exact hp)
      rw [List.length_append, List.length_singleton] at h2
      rw [Option.none_or, h2]
   exact key c.f3 [] rfl
theorem Tm {id : Int} {c : ai} {p : List Int} {leaf : ai} (h : fB id c = some p) (h2 : jX c p = some leaf) : zi id c = some leaf := by rw [Ti id _ c (Nat.le_refl _), h]; exact h2
theorem Tj {id : Int} {c : ai} (h : fB id c = none) : zi id c = none := by rw [Ti id _ c (Nat.le_refl _), h]
end Go.Proofs.YtfdmfgaiblfbhaaGreat.P
namespace Go.Proofs.YtfdmfgaiblfbhaaGreat.P
open Go.RowKit Go.Proofs.ag.aU Go.Proofs.ag.bK Go.Proofs.ag.cO
attribute [local go_sem] jG jR kQ lq jJ jK kT kU
mutual
def dZ.l0 : Nat → List Int → List (ai) → Int → Int → Option (List Int)
 | 0, _, _, _, _ => none
 | k + 1, x3, x6, x7, x8 => if x8 < x7 then (if 0 ≤ x8 then (if x8 < (x6.length : Int) then (if ((aj x6 x8).f0) = 1 then (if x3.length < 17592186044416 then ((some (x3 ++ [(aj x6 x8).f2] : List Int)).bind fun DX => ((dZ.f k ((aj x6 x8).f3)).bind fun zk => (if DX.length + zk.length < 17592186044416 then (dZ.l0 k (DX ++ zk) x6 x7 (wrap64 (x8 + 1))) else (none)))) else (none)) else ((dZ.f k ((aj x6 x8).f3)).bind fun DT => (if x3.length + DT.length < 17592186044416 then (dZ.l0 k (x3 ++ DT) x6 x7 (wrap64 (x8 + 1))) else (none)))) else (none)) else (none)) else (some x3)
def dZ.f : Nat → List (ai) → Option (List Int)
 | 0, _ => none
 | k + 1, l0 => dZ.l0 k ([] : List Int) l0 (l0.length : Int) 0
end
theorem dZ.calls (k : Nat) : ∀ (A0 : Option Addr) (c0 : Nat) (l0 : List (ai)) (r : List Int) (w : World) (hr0 : Kd.C k26 w A0 l0.length l0) (hc0 : l0.length ≤ c0) (h : dZ.f k l0 = some r),
  Calls Tryz.prog 24 #[.slice A0 l0.length c0] w fun e w' => ∃ rP : Value, e = .returned (rP) ∧ Kd.R (Kd.int .i64) 3 w' w.heap.size (fun _ => True) rP r ∧ Below w.heap.size w w' := by
 induction k using Nat.strongRecOn with
 | _ k ih =>
 intro A0 c0 l0 r w hr0 hc0 h
 cases k with
 | zero => exact absurd h (by simp [dZ.f])
 | succ k =>
 simp only [dZ.f] at h
 have EX := Tryz.underlying26
 have HR0 := ae.mk hr0
 have HC0 := ae.mk hc0
 clear hr0 hc0
 have HB := ae.mk (Below.refl w.heap.size w)
 have H : (dZ.l0 k ([] : List Int) l0 (l0.length : Int) 0) = some r := h
 clear h
 have H' := ae.mk H
 clear H
 go_enter Tryz.func24, Tryz.ntmps24
 go_wp2
 go_loopg [3, 8] k (fun kq v3 v8 w' => ∃ (jU : List Int) (bg : Int), v8 = .int .i64 bg ∧ ae (dZ.l0 kq jU l0 (l0.length : Int) bg = some r) ∧ ae (kq ≤ k) ∧ ae (Kd.R (Kd.int .i64) 3 w' w.heap.size (fun _ => True) v3 jU) ∧ ae (Below w.heap.size w w'))
 case atStart => exact ⟨(([] : List Int)), (0), (by first | rfl | (simp; done) | (simp [*]; done)), H', ⟨Nat.le_refl _⟩, ⟨by first | exact Kd.t_ _ _ _ _ _ | exact Kd.pI _ _ _ _ _ | exact Kd.EK _ _ _ _ _ | exact Kd.akm _ _ _ _ _ | exact Kd.akr _ _ _ _ _⟩, ⟨by repeat (first | (with_reducible first | exact HB.out | apply aY | apply aT | apply bF) | exact HB.out)⟩⟩
 case round =>
  clear H'
  obtain ⟨jU, bg, rfl, HA, lh, kZ, HB⟩ := hrel
  cases gk with
  | zero => exact absurd HA.out (by simp [dZ.l0])
  | succ k1 =>
   have H := HA.out
   clear HA
   simp only [dZ.l0] at H
   by_cases c2 : bg < (l0.length : Int)
   ·rw [if_pos c2] at H
    have EO : decide (bg < (l0.length : Int)) = true := decide_eq_true c2
    clear c2
    by_cases c3 : 0 ≤ bg
    ·rw [if_pos c3] at H
     have sU : decide (0 ≤ bg) = true := decide_eq_true c3
     clear c3
     by_cases c4 : bg < (l0.length : Int)
     ·rw [if_pos c4] at H
      have uH : decide (bg < (l0.length : Int)) = true := decide_eq_true c4
      clear c4
      by_cases c5 : ((aj l0 bg).f0) = 1
      ·rw [if_pos c5] at H
       have EP : (((aj l0 bg).f0) == 1) = true := beq_iff_eq.mpr c5
       have amP : (((aj l0 bg).f0) != 1) = false := bne_eq_false_iff_eq.mpr c5
       clear c5
       by_cases c6 : jU.length < 17592186044416
       ·rw [if_pos c6] at H
        have amI := ae.mk c6
        clear c6
        obtain ⟨DX, KJ⟩ : ∃ y_ : List Int, y_ = (jU ++ [(aj l0 bg).f2]) := ⟨_, rfl⟩
        replace H : ((dZ.f k1 ((aj l0 bg).f3)).bind fun zk => (if DX.length + zk.length < 17592186044416 then (dZ.l0 k1 (DX ++ zk) l0 (l0.length : Int) (wrap64 (bg + 1))) else (none))) = some r := by first | (rw [KJ]; with_reducible exact H) | (have xZ := (Option.bind_some _ _).symm.trans H; rw [KJ]; with_reducible exact xZ) | (have xZ := (Option.bind_some _ _).symm.trans H; with_reducible exact xZ) | with_reducible exact H | (rw [KJ]; exact H) | exact H
        have akh := ae.mk KJ
        clear KJ
        replace H := Option.bind_eq_some_iff.mp H
        obtain ⟨zk, W_, H⟩ := H
        replace H : (if DX.length + zk.length < 17592186044416 then (dZ.l0 k1 (DX ++ zk) l0 (l0.length : Int) (wrap64 (bg + 1))) else (none)) = some r := H
        have A7 := ae.mk W_
        clear W_
        by_cases c8 : DX.length + zk.length < 17592186044416
        ·rw [if_pos c8] at H
         have amJ := ae.mk c8
         clear c8
         obtain ⟨ajN, KL⟩ : ∃ y_ : List Int, y_ = (DX ++ zk) := ⟨_, rfl⟩
         replace H : (dZ.l0 k1 ajN l0 (l0.length : Int) (wrap64 (bg + 1))) = some r := by first | (rw [KL]; with_reducible exact H) | (have xZ := (Option.bind_some _ _).symm.trans H; rw [KL]; with_reducible exact xZ) | (have xZ := (Option.bind_some _ _).symm.trans H; with_reducible exact xZ) | with_reducible exact H | (rw [KL]; exact H) | exact H
         have aki := ae.mk KL
         clear KL
         have H' := ae.mk H
         clear H
         have Jz : 0 ≤ (bg : Int) := of_decide_eq_true (by first | (with_reducible assumption) | assumption)
         have JC : bg < (l0.length : Int) := of_decide_eq_true (by first | (with_reducible assumption) | assumption)
         obtain ⟨aky, uk, uw, aaz, yY, yZ, y7, y8, y9, zf, zg, Em, Ej⟩ := qi HR0.out bg Jz JC
         cases aaz
         replace yY := (HB.out.cell (World.block_lt_of_cell? w _ yY)).trans yY
         replace yZ := (HB.out.cell (World.block_lt_of_cell? w _ yZ)).trans yZ
         replace y7 := (HB.out.cell (World.block_lt_of_cell? w _ y7)).trans y7
         replace y8 := (HB.out.cell (World.block_lt_of_cell? w _ y8)).trans y8
         replace y9 := (HB.out.cell (World.block_lt_of_cell? w _ y9)).trans y9
         replace zf := (HB.out.cell (World.block_lt_of_cell? w _ zf)).trans zf
         replace zg := (HB.out.cell (World.block_lt_of_cell? w _ zg)).trans zg
         have LY := ae.mk Ej
         have LV := ae.mk Em
         clear Ej Em
         replace Jz := eq_true Jz
         replace JC := eq_true JC
         go_wp2_with (first | ((with_reducible refine aA (N := 5) rfl ?_); refine aV ?hg (N := 5) ?hd (cs := #[.int .u8 0, .int .i64 0, .int .i64 0, .int .i64 0, .int .i64 0, .int .i64 0, .slice none 0 0]) (t := 26) ?hr ?_; (case hd => rfl); (case hg => rfl); (case hr => first | (go_simp; done) | (go_simp; rfl)); intro gu hg w9 hbox hb; have nM := ae.mk (Kd.mM (by (with_reducible repeat (first | apply Kd.kF | apply Kd.kG | apply Kd.lN)); exact kZ.out) hb); have nN := ae.mk (au (by repeat (first | (with_reducible first | exact HB.out | apply aY | apply aT | apply bF) | exact HB.out)) hb); have oM := ae.mk (hbox); have rD := ae.mk ((by rw [hg]; exact (dE (by repeat (first | (with_reducible first | exact HB.out | apply aY | apply aT | apply bF) | exact HB.out))) : w.heap.size ≤ gu)); have OY := ae.mk ((by rw [hg]; exact (dE (by repeat (first | (with_reducible first | exact HB.out | apply aY | apply aT | apply bF) | exact HB.out))) : w.heap.size ≤ gu)); clear kZ; clear HB; have kZ := nM; have HB := nN; have fE := oM; have ajW := rD; have uK := OY; clear nM nN oM rD OY; clear hb hbox hg; have MQ : w9.cell? ⟨gu, 0, none⟩ = some (.int .u8 0) := (af fE.out 0).trans rfl; have MR : w9.cell? ⟨gu, 1, none⟩ = some (.int .i64 0) := (af fE.out 1).trans rfl; have MS : w9.cell? ⟨gu, 2, none⟩ = some (.int .i64 0) := (af fE.out 2).trans rfl; have MV : w9.cell? ⟨gu, 3, none⟩ = some (.int .i64 0) := (af fE.out 3).trans rfl; have adD : w9.cell? ⟨gu, 4, none⟩ = some (.int .i64 0) := (af fE.out 4).trans rfl; have adE : w9.cell? ⟨gu, 5, none⟩ = some (.int .i64 0) := (af fE.out 5).trans rfl; have adF : w9.cell? ⟨gu, 6, none⟩ = some (.slice none 0 0) := (af fE.out 6).trans rfl; have Na := ah fE.out 0; have Nb := ah fE.out 1; have Nc := ah fE.out 2; have Nh := ah fE.out 3; have aej := ah fE.out 4; have aek := ah fE.out 5; have ael := ah fE.out 6) | ((with_reducible refine oJ (b := .append) (xs := #[.tmp 15, .tmp 18]) rfl ?_); at_builtin; refine Kd.BB (Kd.int .i64) (w0 := w) w.heap.size rfl (.tmp 15) (.tmp 18) 41 3 (.int .i64 0) 8 rfl Tryz.underlying41 info3 rfl (by decide) (by omega) u3 jU ((aj l0 bg).f2) [.int .i64 ((aj l0 bg).f2)] (fun _ => True) (fun _ => False) rfl (by first | (go_simp; done) | (go_simp; rfl)) ?aP (fun _ hk => hk.elim) ?aF ?aO ?aB ?aS ?aL ?_; (case aP => exact rfl); (case aB => exact (by repeat (first | (with_reducible first | exact HB.out | apply aY | apply aT | apply bF | refine eY ?_ uK.out) | exact HB.out))); (case aF => exact (fun _ _ => trivial)); (case aO => exact (by (with_reducible repeat (first | apply Kd.kF | apply Kd.kG | apply Kd.lN)); exact Kd.l_ (Kd.oG (p := ⟨gu, 6, none⟩) (Kd.oG (p := ⟨gu, 5, none⟩) (Kd.oG (p := ⟨gu, 4, none⟩) (Kd.oG (p := ⟨gu, 3, none⟩) (Kd.oG (p := ⟨gu, 2, none⟩) (Kd.oG (p := ⟨gu, 1, none⟩) (Kd.oG (p := ⟨gu, 0, none⟩) (Kd.Md kZ.out fE.out (by decide)) (fun _ hk => hk.2) (.int .u8 ((aj l0 bg).f0))) (fun _ hk => hk.2) (.int .i64 ((aj l0 bg).f1.f0))) (fun _ hk => hk.2) (.int .i64 ((aj l0 bg).f1.f1))) (fun _ hk => hk.2) (.int .i64 ((aj l0 bg).f1.f2))) (fun _ hk => hk.2) (.int .i64 ((aj l0 bg).f1.f3))) (fun _ hk => hk.2) (.int .i64 ((aj l0 bg).f2))) (fun _ hk => hk.2) (.slice uk ((aj l0 bg).f3).length uw)) (fun _ hk => trivial))); (case aS => exact (dE (by repeat (first | (with_reducible first | exact HB.out | apply aY | apply aT | apply bF | refine eY ?_ uK.out) | exact HB.out)))); (case aL => have := amI.out; omega); intro anE wO ho hb hg hat; rw [← akh.out] at ho; have nM := ae.mk (dH (g := gu) (o := .cells #[.int .u8 ((aj l0 bg).f0), .int .i64 ((aj l0 bg).f1.f0), .int .i64 ((aj l0 bg).f1.f1), .int .i64 ((aj l0 bg).f1.f2), .int .i64 ((aj l0 bg).f1.f3), .int .i64 ((aj l0 bg).f2), .slice uk ((aj l0 bg).f3).length uw] 26 (0, 0)) (by (with_reducible repeat (first | refine fH ?_ _ | refine fD ?_ | refine fG ?_ _)); refine fP (cs := #[.int .u8 ((aj l0 bg).f0), .int .i64 ((aj l0 bg).f1.f0), .int .i64 ((aj l0 bg).f1.f1), .int .i64 ((aj l0 bg).f1.f2), .int .i64 ((aj l0 bg).f1.f3), .int .i64 ((aj l0 bg).f2), .slice none 0 0]) ?_ 6 _ rfl; (with_reducible repeat (first | refine fH ?_ _ | refine fD ?_ | refine fG ?_ _)); refine fP (cs := #[.int .u8 ((aj l0 bg).f0), .int .i64 ((aj l0 bg).f1.f0), .int .i64 ((aj l0 bg).f1.f1), .int .i64 ((aj l0 bg).f1.f2), .int .i64 ((aj l0 bg).f1.f3), .int .i64 0, .slice none 0 0]) ?_ 5 _ rfl; (with_reducible repeat (first | refine fH ?_ _ | refine fD ?_ | refine fG ?_ _)); refine fP (cs := #[.int .u8 ((aj l0 bg).f0), .int .i64 ((aj l0 bg).f1.f0), .int .i64 ((aj l0 bg).f1.f1), .int .i64 ((aj l0 bg).f1.f2), .int .i64 0, .int .i64 0, .slice none 0 0]) ?_ 4 _ rfl; (with_reducible repeat (first | refine fH ?_ _ | refine fD ?_ | refine fG ?_ _)); refine fP (cs := #[.int .u8 ((aj l0 bg).f0), .int .i64 ((aj l0 bg).f1.f0), .int .i64 ((aj l0 bg).f1.f1), .int .i64 0, .int .i64 0, .int .i64 0, .slice none 0 0]) ?_ 3 _ rfl; (with_reducible repeat (first | refine fH ?_ _ | refine fD ?_ | refine fG ?_ _)); refine fP (cs := #[.int .u8 ((aj l0 bg).f0), .int .i64 ((aj l0 bg).f1.f0), .int .i64 0, .int .i64 0, .int .i64 0, .int .i64 0, .slice none 0 0]) ?_ 2 _ rfl; (with_reducible repeat (first | refine fH ?_ _ | refine fD ?_ | refine fG ?_ _)); refine fP (cs := #[.int .u8 ((aj l0 bg).f0), .int .i64 0, .int .i64 0, .int .i64 0, .int .i64 0, .int .i64 0, .slice none 0 0]) ?_ 1 _ rfl; (with_reducible repeat (first | refine fH ?_ _ | refine fD ?_ | refine fG ?_ _)); refine fP (cs := #[.int .u8 0, .int .i64 0, .int .i64 0, .int .i64 0, .int .i64 0, .int .i64 0, .slice none 0 0]) ?_ 0 _ rfl; (with_reducible repeat (first | refine fH ?_ _ | refine fD ?_ | refine fG ?_ _)); exact fE.out) hg (Kd.BC kZ.out fE.out (by decide))); have nN := ae.mk (hb); have oM := ae.mk (ho); clear fE; clear HB; clear kZ; have fE := nM; have HB := nN; have ED := oM; clear nM nN oM; clear ho hb hg hat; have Uy : wO.cell? ⟨gu, 0, none⟩ = some (.int .u8 ((aj l0 bg).f0)) := (af fE.out 0).trans rfl; have Uz : wO.cell? ⟨gu, 1, none⟩ = some (.int .i64 ((aj l0 bg).f1.f0)) := (af fE.out 1).trans rfl; have UA : wO.cell? ⟨gu, 2, none⟩ = some (.int .i64 ((aj l0 bg).f1.f1)) := (af fE.out 2).trans rfl; have UB : wO.cell? ⟨gu, 3, none⟩ = some (.int .i64 ((aj l0 bg).f1.f2)) := (af fE.out 3).trans rfl; have adN : wO.cell? ⟨gu, 4, none⟩ = some (.int .i64 ((aj l0 bg).f1.f3)) := (af fE.out 4).trans rfl; have adO : wO.cell? ⟨gu, 5, none⟩ = some (.int .i64 ((aj l0 bg).f2)) := (af fE.out 5).trans rfl; have adP : wO.cell? ⟨gu, 6, none⟩ = some (.slice uk ((aj l0 bg).f3).length uw) := (af fE.out 6).trans rfl; have UG := ah fE.out 0; have UH := ah fE.out 1; have UI := ah fE.out 2; have UJ := ah fE.out 3; have aet := ah fE.out 4; have aeu := ah fE.out 5; have aev := ah fE.out 6) | ((with_reducible refine jF (f := 24) rfl ?_); refine mf (some 23) rfl rfl Tryz.func24 (by kernel_rfl) rfl #[.slice uk ((aj l0 bg).f3).length uw] rfl (by (try simp only [List.map_toArray, List.map_cons, List.map_nil]); first | done | rfl | (simp only [List.length_drop, List.length_take]; rfl)) ?_; (with_reducible refine (ih k1 (by have := lh.out; omega) _ _ ((aj l0 bg).f3) zk _ ?nH ?rJ A7.out).mono ?_); (case nH => repeat (first | exact (Kd.g_ LY.out HB.out) | (with_reducible refine Kd.Hy ?_ _) | (with_reducible refine Kd.Hz ?_ _) | (with_reducible refine Kd.JO ?_))); (case rJ => exact LV.out); rintro e uU ⟨arS, rfl, ho0, hb⟩; refine ⟨_, rfl, ?_⟩; have nM := ae.mk (Kd.Qi (by (with_reducible repeat (first | apply Kd.kF | apply Kd.kG | apply Kd.lN)); exact ED.out) (Kd.D_ ho0) hb); have nN := ae.mk (Kd.oQ (Kd.Xu ho0 (Kd.Gl (by (with_reducible repeat (first | apply Kd.kF | apply Kd.kG | apply Kd.lN)); exact ED.out))) (dE (by repeat (first | (with_reducible first | exact HB.out | apply aY | apply aT | apply bF | refine eY ?_ uK.out) | exact HB.out)))); have oM := ae.mk (aW (g := gu) (o := .cells #[.int .u8 ((aj l0 bg).f0), .int .i64 ((aj l0 bg).f1.f0), .int .i64 ((aj l0 bg).f1.f1), .int .i64 ((aj l0 bg).f1.f2), .int .i64 ((aj l0 bg).f1.f3), .int .i64 ((aj l0 bg).f2), .slice uk ((aj l0 bg).f3).length uw] 26 (0, 0)) (by (with_reducible repeat (first | refine fH ?_ _ | refine fD ?_ | refine fG ?_ _)); exact fE.out) hb); have rD := ae.mk (au (by repeat (first | (with_reducible first | exact HB.out | apply aY | apply aT | apply bF | refine eY ?_ uK.out) | exact HB.out)) hb); clear ED; clear fE; clear HB; have ED := nM; have H6 := nN; have fE := oM; have HB := rD; clear nM nN oM rD; (try clear hb); (try clear hb2); (try clear hk); (try clear hi); (try clear ho0); obtain ⟨LM, MG, Ry⟩ := Kd.ig H6.out; subst Ry) | ((with_reducible refine oJ (b := .append) (xs := #[.tmp 20, .tmp 23]) rfl ?_); at_builtin; refine Kd.uu (Kd.int .i64) (w0 := w) w.heap.size rfl (.tmp 20) (.tmp 23) 41 3 (.int .i64 0) 8 rfl Tryz.underlying41 info3 rfl (by decide) (by omega) anE DX zk _ _ _ (fun k_ => some k_ ≠ (.slice LM zk.length MG : Value).ownBlock) (fun _ => False) rfl rfl ?aO ?aR (fun _ _ h => h) (fun _ h => h.elim) ?aF ?aB ?aS ?aL ?_; (case aR => repeat (first | exact (Kd.eX H6.out).2.2 | (with_reducible refine Kd.Hy ?_ _) | (with_reducible refine Kd.Hz ?_ _) | (with_reducible refine Kd.JO ?_))); (case aB => exact (by repeat (first | (with_reducible first | exact HB.out | apply aY | apply aT | apply bF | refine eY ?_ uK.out) | exact HB.out))); (case aF => exact (fun k_ hk => Kd.fresh' (Kd.Gl (by (with_reducible repeat (first | apply Kd.kF | apply Kd.kG | apply Kd.lN)); exact H6.out)) k_ hk)); (case aO => exact (by (with_reducible repeat (first | apply Kd.kF | apply Kd.kG | apply Kd.lN)); exact Kd.l_ ED.out (fun _ hk => hk.2))); (case aS => exact (dE (by repeat (first | (with_reducible first | exact HB.out | apply aY | apply aT | apply bF | refine eY ?_ uK.out) | exact HB.out)))); (case aL => have := amJ.out; omega); intro arT w14 ho hb hg hat; rw [← aki.out] at ho; have nM := ae.mk (dH (g := gu) (o := .cells #[.int .u8 ((aj l0 bg).f0), .int .i64 ((aj l0 bg).f1.f0), .int .i64 ((aj l0 bg).f1.f1), .int .i64 ((aj l0 bg).f1.f2), .int .i64 ((aj l0 bg).f1.f3), .int .i64 ((aj l0 bg).f2), .slice uk ((aj l0 bg).f3).length uw] 26 (0, 0)) (by (with_reducible repeat (first | refine fH ?_ _ | refine fD ?_ | refine fG ?_ _)); exact fE.out) hg (Kd.BC ED.out fE.out (by decide))); have nN := ae.mk (Kd.Uh (ok := (fun _ => True)) (by (with_reducible repeat (first | apply Kd.kF | apply Kd.kG | apply Kd.lN)); exact H6.out) hg hat); have oM := ae.mk (hb); have rD := ae.mk (ho); clear fE; clear H6; clear HB; clear ED; have fE := nM; have H6 := nN; have HB := oM; have aj6 := rD; clear nM nN oM rD; clear ho hb hg hat))
         go_roundg k1
         case measure => have := lh.out; omega
         case rel => exact ⟨(ajN), (wrap64 (bg + 1)), (by first | rfl | (simp; done) | (simp [*]; done)), H', ⟨by have := lh.out; omega⟩, ⟨by (with_reducible repeat (first | apply Kd.kF | apply Kd.kG | apply Kd.lN)); exact Kd.l_ aj6.out (fun _ hk => trivial)⟩, ⟨by repeat (first | (with_reducible first | exact HB.out | apply aY | apply aT | apply bF | refine eY ?_ uK.out) | exact HB.out)⟩⟩
        ·rw [if_neg c8] at H
         exact absurd H (by simp)
       ·rw [if_neg c6] at H
        exact absurd H (by simp)
      ·rw [if_neg c5] at H
       have EP : (((aj l0 bg).f0) == 1) = false := beq_eq_false_iff_ne.mpr c5
       have amP : (((aj l0 bg).f0) != 1) = true := bne_iff_ne.mpr c5
       replace H := Option.bind_eq_some_iff.mp H
       obtain ⟨DT, F6, H⟩ := H
       replace H : (if jU.length + DT.length < 17592186044416 then (dZ.l0 k1 (jU ++ DT) l0 (l0.length : Int) (wrap64 (bg + 1))) else (none)) = some r := H
       have WX := ae.mk F6
       clear F6
       by_cases c17 : jU.length + DT.length < 17592186044416
       ·rw [if_pos c17] at H
        have aka := ae.mk c17
        clear c17
        obtain ⟨ajO, KN⟩ : ∃ y_ : List Int, y_ = (jU ++ DT) := ⟨_, rfl⟩
        replace H : (dZ.l0 k1 ajO l0 (l0.length : Int) (wrap64 (bg + 1))) = some r := by first | (rw [KN]; with_reducible exact H) | (have xZ := (Option.bind_some _ _).symm.trans H; rw [KN]; with_reducible exact xZ) | (have xZ := (Option.bind_some _ _).symm.trans H; with_reducible exact xZ) | with_reducible exact H | (rw [KN]; exact H) | exact H
        have akj := ae.mk KN
        clear KN
        have H' := ae.mk H
        clear H
        have Jz : 0 ≤ (bg : Int) := of_decide_eq_true (by first | (with_reducible assumption) | assumption)
        have JC : bg < (l0.length : Int) := of_decide_eq_true (by first | (with_reducible assumption) | assumption)
        obtain ⟨aky, uk, uw, aaz, yY, yZ, y7, y8, y9, zf, zg, Em, Ej⟩ := qi HR0.out bg Jz JC
        cases aaz
        replace yY := (HB.out.cell (World.block_lt_of_cell? w _ yY)).trans yY
        replace yZ := (HB.out.cell (World.block_lt_of_cell? w _ yZ)).trans yZ
        replace y7 := (HB.out.cell (World.block_lt_of_cell? w _ y7)).trans y7
        replace y8 := (HB.out.cell (World.block_lt_of_cell? w _ y8)).trans y8
        replace y9 := (HB.out.cell (World.block_lt_of_cell? w _ y9)).trans y9
        replace zf := (HB.out.cell (World.block_lt_of_cell? w _ zf)).trans zf
        replace zg := (HB.out.cell (World.block_lt_of_cell? w _ zg)).trans zg
        have LY := ae.mk Ej
        have LV := ae.mk Em
        clear Ej Em
        replace Jz := eq_true Jz
        replace JC := eq_true JC
        go_wp2_with (first | ((with_reducible refine aA (N := 5) rfl ?_); refine aV ?hg (N := 5) ?hd (cs := #[.int .u8 0, .int .i64 0, .int .i64 0, .int .i64 0, .int .i64 0, .int .i64 0, .slice none 0 0]) (t := 26) ?hr ?_; (case hd => rfl); (case hg => rfl); (case hr => first | (go_simp; done) | (go_simp; rfl)); intro gu hg O_ hbox hb; have nM := ae.mk (Kd.mM (by (with_reducible repeat (first | apply Kd.kF | apply Kd.kG | apply Kd.lN)); exact kZ.out) hb); have nN := ae.mk (au (by repeat (first | (with_reducible first | exact HB.out | apply aY | apply aT | apply bF) | exact HB.out)) hb); have oM := ae.mk (hbox); have rD := ae.mk ((by rw [hg]; exact (dE (by repeat (first | (with_reducible first | exact HB.out | apply aY | apply aT | apply bF) | exact HB.out))) : w.heap.size ≤ gu)); have OY := ae.mk ((by rw [hg]; exact (dE (by repeat (first | (with_reducible first | exact HB.out | apply aY | apply aT | apply bF) | exact HB.out))) : w.heap.size ≤ gu)); clear kZ; clear HB; have kZ := nM; have HB := nN; have fE := oM; have ajW := rD; have uK := OY; clear nM nN oM rD OY; clear hb hbox hg; have anP : O_.cell? ⟨gu, 0, none⟩ = some (.int .u8 0) := (af fE.out 0).trans rfl; have anQ : O_.cell? ⟨gu, 1, none⟩ = some (.int .i64 0) := (af fE.out 1).trans rfl; have anR : O_.cell? ⟨gu, 2, none⟩ = some (.int .i64 0) := (af fE.out 2).trans rfl; have anS : O_.cell? ⟨gu, 3, none⟩ = some (.int .i64 0) := (af fE.out 3).trans rfl; have anT : O_.cell? ⟨gu, 4, none⟩ = some (.int .i64 0) := (af fE.out 4).trans rfl; have anU : O_.cell? ⟨gu, 5, none⟩ = some (.int .i64 0) := (af fE.out 5).trans rfl; have anV : O_.cell? ⟨gu, 6, none⟩ = some (.slice none 0 0) := (af fE.out 6).trans rfl; have an8 := ah fE.out 0; have an9 := ah fE.out 1; have an_ := ah fE.out 2; have an' := ah fE.out 3; have aoa := ah fE.out 4; have aob := ah fE.out 5; have aoc := ah fE.out 6) | ((with_reducible refine jF (f := 24) rfl ?_); refine mf (some 23) rfl rfl Tryz.func24 (by kernel_rfl) rfl #[.slice uk ((aj l0 bg).f3).length uw] rfl (by (try simp only [List.map_toArray, List.map_cons, List.map_nil]); first | done | rfl | (simp only [List.length_drop, List.length_take]; rfl)) ?_; (with_reducible refine (ih k1 (by have := lh.out; omega) _ _ ((aj l0 bg).f3) DT _ ?nH ?rJ WX.out).mono ?_); (case nH => exact Kd.g_ LY.out (by repeat (first | (with_reducible first | exact HB.out | apply aY | apply aT | apply bF | refine eY ?_ uK.out) | exact HB.out))); (case rJ => exact LV.out); rintro e w20 ⟨arU, rfl, ho0, hb⟩; refine ⟨_, rfl, ?_⟩; have nM := ae.mk (Kd.Qi (by (with_reducible repeat (first | apply Kd.kF | apply Kd.kG | apply Kd.lN)); exact (Kd.l_ (Kd.oG (p := ⟨gu, 6, none⟩) (Kd.oG (p := ⟨gu, 5, none⟩) (Kd.oG (p := ⟨gu, 4, none⟩) (Kd.oG (p := ⟨gu, 3, none⟩) (Kd.oG (p := ⟨gu, 2, none⟩) (Kd.oG (p := ⟨gu, 1, none⟩) (Kd.oG (p := ⟨gu, 0, none⟩) (Kd.Md kZ.out fE.out (by decide)) (fun _ hk => hk.2) (.int .u8 ((aj l0 bg).f0))) (fun _ hk => hk.2) (.int .i64 ((aj l0 bg).f1.f0))) (fun _ hk => hk.2) (.int .i64 ((aj l0 bg).f1.f1))) (fun _ hk => hk.2) (.int .i64 ((aj l0 bg).f1.f2))) (fun _ hk => hk.2) (.int .i64 ((aj l0 bg).f1.f3))) (fun _ hk => hk.2) (.int .i64 ((aj l0 bg).f2))) (fun _ hk => hk.2) (.slice uk ((aj l0 bg).f3).length uw)) (fun _ h_ => h_.1))) (Kd.D_ ho0) hb); have nN := ae.mk (Kd.oQ (Kd.Xu ho0 (Kd.Gl (by (with_reducible repeat (first | apply Kd.kF | apply Kd.kG | apply Kd.lN)); exact (Kd.l_ (Kd.oG (p := ⟨gu, 6, none⟩) (Kd.oG (p := ⟨gu, 5, none⟩) (Kd.oG (p := ⟨gu, 4, none⟩) (Kd.oG (p := ⟨gu, 3, none⟩) (Kd.oG (p := ⟨gu, 2, none⟩) (Kd.oG (p := ⟨gu, 1, none⟩) (Kd.oG (p := ⟨gu, 0, none⟩) (Kd.Md kZ.out fE.out (by decide)) (fun _ hk => hk.2) (.int .u8 ((aj l0 bg).f0))) (fun _ hk => hk.2) (.int .i64 ((aj l0 bg).f1.f0))) (fun _ hk => hk.2) (.int .i64 ((aj l0 bg).f1.f1))) (fun _ hk => hk.2) (.int .i64 ((aj l0 bg).f1.f2))) (fun _ hk => hk.2) (.int .i64 ((aj l0 bg).f1.f3))) (fun _ hk => hk.2) (.int .i64 ((aj l0 bg).f2))) (fun _ hk => hk.2) (.slice uk ((aj l0 bg).f3).length uw)) (fun _ h_ => h_.1))))) (dE (by repeat (first | (with_reducible first | exact HB.out | apply aY | apply aT | apply bF | refine eY ?_ uK.out) | exact HB.out)))); have oM := ae.mk (aW (g := gu) (o := .cells #[.int .u8 ((aj l0 bg).f0), .int .i64 ((aj l0 bg).f1.f0), .int .i64 ((aj l0 bg).f1.f1), .int .i64 ((aj l0 bg).f1.f2), .int .i64 ((aj l0 bg).f1.f3), .int .i64 ((aj l0 bg).f2), .slice uk ((aj l0 bg).f3).length uw] 26 (0, 0)) (by (with_reducible repeat (first | refine fH ?_ _ | refine fD ?_ | refine fG ?_ _)); refine fP (cs := #[.int .u8 ((aj l0 bg).f0), .int .i64 ((aj l0 bg).f1.f0), .int .i64 ((aj l0 bg).f1.f1), .int .i64 ((aj l0 bg).f1.f2), .int .i64 ((aj l0 bg).f1.f3), .int .i64 ((aj l0 bg).f2), .slice none 0 0]) ?_ 6 _ rfl; (with_reducible repeat (first | refine fH ?_ _ | refine fD ?_ | refine fG ?_ _)); refine fP (cs := #[.int .u8 ((aj l0 bg).f0), .int .i64 ((aj l0 bg).f1.f0), .int .i64 ((aj l0 bg).f1.f1), .int .i64 ((aj l0 bg).f1.f2), .int .i64 ((aj l0 bg).f1.f3), .int .i64 0, .slice none 0 0]) ?_ 5 _ rfl; (with_reducible repeat (first | refine fH ?_ _ | refine fD ?_ | refine fG ?_ _)); refine fP (cs := #[.int .u8 ((aj l0 bg).f0), .int .i64 ((aj l0 bg).f1.f0), .int .i64 ((aj l0 bg).f1.f1), .int .i64 ((aj l0 bg).f1.f2), .int .i64 0, .int .i64 0, .slice none 0 0]) ?_ 4 _ rfl; (with_reducible repeat (first | refine fH ?_ _ | refine fD ?_ | refine fG ?_ _)); refine fP (cs := #[.int .u8 ((aj l0 bg).f0), .int .i64 ((aj l0 bg).f1.f0), .int .i64 ((aj l0 bg).f1.f1), .int .i64 0, .int .i64 0, .int .i64 0, .slice none 0 0]) ?_ 3 _ rfl; (with_reducible repeat (first | refine fH ?_ _ | refine fD ?_ | refine fG ?_ _)); refine fP (cs := #[.int .u8 ((aj l0 bg).f0), .int .i64 ((aj l0 bg).f1.f0), .int .i64 0, .int .i64 0, .int .i64 0, .int .i64 0, .slice none 0 0]) ?_ 2 _ rfl; (with_reducible repeat (first | refine fH ?_ _ | refine fD ?_ | refine fG ?_ _)); refine fP (cs := #[.int .u8 ((aj l0 bg).f0), .int .i64 0, .int .i64 0, .int .i64 0, .int .i64 0, .int .i64 0, .slice none 0 0]) ?_ 1 _ rfl; (with_reducible repeat (first | refine fH ?_ _ | refine fD ?_ | refine fG ?_ _)); refine fP (cs := #[.int .u8 0, .int .i64 0, .int .i64 0, .int .i64 0, .int .i64 0, .int .i64 0, .slice none 0 0]) ?_ 0 _ rfl; (with_reducible repeat (first | refine fH ?_ _ | refine fD ?_ | refine fG ?_ _)); exact fE.out) hb); have rD := ae.mk (au (by repeat (first | (with_reducible first | exact HB.out | apply aY | apply aT | apply bF | refine eY ?_ uK.out) | exact HB.out)) hb); clear kZ; clear fE; clear HB; have kZ := nM; have H7 := nN; have fE := oM; have HB := rD; clear nM nN oM rD; (try clear hb); (try clear hb2); (try clear hk); (try clear hi); (try clear ho0); obtain ⟨amz, amW, am7⟩ := Kd.ig H7.out; subst am7) | ((with_reducible refine oJ (b := .append) (xs := #[.tmp 20, .tmp 23]) rfl ?_); at_builtin; refine Kd.uu (Kd.int .i64) (w0 := w) w.heap.size rfl (.tmp 20) (.tmp 23) 41 3 (.int .i64 0) 8 rfl Tryz.underlying41 info3 rfl (by decide) (by omega) u3 jU DT _ _ _ (fun k_ => some k_ ≠ (.slice amz DT.length amW : Value).ownBlock) (fun _ => False) rfl rfl ?aO ?aR (fun _ _ h => h) (fun _ h => h.elim) ?aF ?aB ?aS ?aL ?_; (case aR => repeat (first | exact (Kd.eX H7.out).2.2 | (with_reducible refine Kd.Hy ?_ _) | (with_reducible refine Kd.Hz ?_ _) | (with_reducible refine Kd.JO ?_))); (case aB => exact (by repeat (first | (with_reducible first | exact HB.out | apply aY | apply aT | apply bF | refine eY ?_ uK.out) | exact HB.out))); (case aF => exact (fun k_ hk => Kd.fresh' (Kd.Gl (by (with_reducible repeat (first | apply Kd.kF | apply Kd.kG | apply Kd.lN)); exact H7.out)) k_ hk)); (case aO => exact (by (with_reducible repeat (first | apply Kd.kF | apply Kd.kG | apply Kd.lN)); exact Kd.l_ kZ.out (fun _ hk => hk.2))); (case aS => exact (dE (by repeat (first | (with_reducible first | exact HB.out | apply aY | apply aT | apply bF | refine eY ?_ uK.out) | exact HB.out)))); (case aL => have := aka.out; omega); intro arV I5 ho hb hg hat; rw [← akj.out] at ho; have nM := ae.mk (dH (g := gu) (o := .cells #[.int .u8 ((aj l0 bg).f0), .int .i64 ((aj l0 bg).f1.f0), .int .i64 ((aj l0 bg).f1.f1), .int .i64 ((aj l0 bg).f1.f2), .int .i64 ((aj l0 bg).f1.f3), .int .i64 ((aj l0 bg).f2), .slice uk ((aj l0 bg).f3).length uw] 26 (0, 0)) (by (with_reducible repeat (first | refine fH ?_ _ | refine fD ?_ | refine fG ?_ _)); exact fE.out) hg (Kd.BC kZ.out fE.out (by decide))); have nN := ae.mk (Kd.Uh (ok := (fun _ => True)) (by (with_reducible repeat (first | apply Kd.kF | apply Kd.kG | apply Kd.lN)); exact H7.out) hg hat); have oM := ae.mk (hb); have rD := ae.mk (ho); clear fE; clear H7; clear HB; clear kZ; have fE := nM; have H7 := nN; have HB := oM; have aj7 := rD; clear nM nN oM rD; clear ho hb hg hat))
        go_roundg k1
        case measure => have := lh.out; omega
        case rel => exact ⟨(ajO), (wrap64 (bg + 1)), (by first | rfl | (simp; done) | (simp [*]; done)), H', ⟨by have := lh.out; omega⟩, ⟨by (with_reducible repeat (first | apply Kd.kF | apply Kd.kG | apply Kd.lN)); exact Kd.l_ aj7.out (fun _ hk => trivial)⟩, ⟨by repeat (first | (with_reducible first | exact HB.out | apply aY | apply aT | apply bF | refine eY ?_ uK.out) | exact HB.out)⟩⟩
       ·rw [if_neg c17] at H
        exact absurd H (by simp)
     ·rw [if_neg c4] at H
      exact absurd H (by simp)
    ·rw [if_neg c3] at H
     exact absurd H (by simp)
   ·rw [if_neg c2] at H
    have EO : decide (bg < (l0.length : Int)) = false := decide_eq_false c2
    clear c2
    obtain rfl := Option.some.inj H
    go_wp2
    go_ret
    exact ⟨_, by first | rfl | (simp [lW, lX] <;> rfl) | (simp [*, lW, lX] <;> rfl), by (with_reducible repeat (first | apply Kd.kF | apply Kd.kG | apply Kd.lN)); exact kZ.out, by repeat (first | (with_reducible first | exact HB.out | apply aY | apply aT | apply bF) | exact HB.out)⟩
end Go.Proofs.YtfdmfgaiblfbhaaGreat.P
namespace Go.Proofs.YtfdmfgaiblfbhaaGreat.P
open Go.RowKit Go.Proofs.ag.aU Go.Proofs.ag.bK Go.Proofs.ag.cO
def jA (l : List ai) : List Int := ((allL l).filter fun x => decide (x.f0 = 1)).map (·.f2)
theorem aaU (a b : List ai) : jA (a ++ b) = jA a ++ jA b := by
 unfold jA
 rw [uf, List.filter_append, List.map_append]
theorem aaV (x : ai) : jA [x] = (if x.f0 = 1 then [x.f2] else []) ++ jA x.f3 := by
 unfold jA
 rw [iE, kS, List.append_nil, lZ]
 by_cases h : x.f0 = 1
 ·rw [if_pos h, List.filter_cons_of_pos (by simpa using h)]
  rfl
 ·rw [if_neg h, List.filter_cons_of_neg (by simpa using h)]
  rfl
theorem Ce (l : List ai) : (jA l).length ≤ dY l := by unfold jA; rw [List.length_map]; exact List.length_filter_le _ _
theorem MC : ∀ (N : Nat) (l : List ai), dY l ≤ N → N ≤ 1048576 → Ev (fun k => dZ.f k l) (jA l) := by
 intro N
 induction N with
 | zero =>
  intro l h _
  cases l with
  | nil =>
   refine ⟨2, fun k hk => ?_⟩
   obtain ⟨m, rfl⟩ : ∃ m, k = m + 2 := ⟨k - 2, by omega⟩
   simp [dZ.f, dZ.l0, jA, kS]
  | cons x xs => rw [bH, bJ] at h; omega
 | succ N ih =>
  intro l hl hN
  have hlen := jf l
  have key : ∀ (rest pre : List ai), pre ++ rest = l → Ev (fun k => dZ.l0 k (jA pre) l (l.length : Int) (pre.length : Int)) (jA l) := by
   intro rest
   induction rest with
   | nil =>
    intro pre hp
    rw [List.append_nil] at hp
    refine Ev.step (f := fun _ => some (jA l)) (fun k => ?_) (Ev.now _)
    simp only [dZ.l0]
    rw [if_neg (by rw [hp]; omega), hp]
   | cons x xs ihr =>
    intro pre hp
    have hs := bJ x
    have hlt : (pre.length : Int) < (l.length : Int) := by rw [← hp, List.length_append, List.length_cons]; omega
    have hsum : dY l = dY pre + (sz x + dY xs) := by rw [← hp, l7, bH]
    have e2 := ihr (pre ++ [x]) (by rw [List.append_assoc]; exact hp)
    have hr : aj l (pre.length : Int) = x := by rw [← hp]; exact jd pre x xs
    have hu : wrap64 ((pre.length : Int) + 1) = ((pre ++ [x]).length : Int) := FI pre x xs (by rw [hp]; omega)
    have h1 := Ce pre
    have h2 := Ce x.f3
    rw [aaU, aaV] at e2
    have hx := ih x.f3 (by omega) (by omega)
    by_cases hk : x.f0 = 1
    ·rw [if_pos hk, ← List.append_assoc] at e2
     have hb : (jA pre ++ [x.f2]).length + (jA x.f3).length < 17592186044416 := by rw [List.length_append, List.length_singleton]; omega
     refine Ev.step (f := fun k => (dZ.f k x.f3).bind fun t => (if (jA pre ++ [x.f2]).length + t.length < 17592186044416 then (dZ.l0 k ((jA pre ++ [x.f2]) ++ t) l (l.length : Int) ((pre ++ [x]).length : Int)) else none)) (fun k => ?_) (Ev.bind hx (KC hb e2))
     simp only [dZ.l0]
     rw [if_pos hlt, if_pos (by omega), if_pos hlt, hr, if_pos hk, if_pos (by omega), Option.bind_some, hu]
    ·rw [if_neg hk, List.nil_append] at e2
     refine Ev.step (f := fun k => (dZ.f k x.f3).bind fun t => (if (jA pre).length + t.length < 17592186044416 then (dZ.l0 k (jA pre ++ t) l (l.length : Int) ((pre ++ [x]).length : Int)) else none)) (fun k => ?_) (Ev.bind hx (KC (by omega) e2))
     simp only [dZ.l0]
     rw [if_pos hlt, if_pos (by omega), if_pos hlt, hr, if_neg hk, hu]
  refine Ev.step (fun k => ?_) (key l [] rfl)
  simp only [dZ.f]
  unfold jA
  rw [kS]
  rfl
end Go.Proofs.YtfdmfgaiblfbhaaGreat.P
namespace Go.Proofs.YtfdmfgaiblfbhaaGreat.P
open Go.RowKit Go.Proofs.ag.aU Go.Proofs.ag.bK Go.Proofs.ag.cO
attribute [local go_sem] jG jR kQ lq jJ jK kT kU
def dS.l0 : Nat → List Int → Int → Int → Int → Option (Int)
 | 0, _, _, _, _ => none
 | k + 1, x0, x1, x7, x8 => if x8 < x7 then (if 0 ≤ x8 then (if x8 < (x0.length : Int) then (if x1 = (rd x0 x8) then (some x8) else (dS.l0 k x0 x1 x7 (wrap64 (x8 + 1)))) else (none)) else (none)) else (some (-1))
def dS.f (k : Nat) (l0 : List Int) (a1 : Int) : Option (Int) := dS.l0 k l0 a1 (l0.length : Int) 0
theorem dS.calls (k : Nat) (A0 : Option Addr) (c0 : Nat) (l0 : List Int) (a1 : Int) (r : Int) (w : World) (hr0 : Kd.C (Kd.int .i64) w A0 l0.length l0) (hc0 : l0.length ≤ c0) (h : dS.f k l0 a1 = some r) :
  Calls Tryz.prog 47 #[.slice A0 l0.length c0, .int .i64 a1] w fun e w' => e = .returned (.int .i64 r) ∧ kz w w' := by
 have HR0 := ae.mk hr0
 have HC0 := ae.mk hc0
 clear hr0 hc0
 have H : (dS.l0 k l0 a1 (l0.length : Int) 0) = some r := h
 clear h
 have H' := ae.mk H
 clear H
 go_enter Tryz.func47, Tryz.ntmps47
 go_wp2
 go_loopg [8] k (fun kq v8 w' => ∃ (bg : Int), v8 = .int .i64 bg ∧ ae (dS.l0 kq l0 a1 (l0.length : Int) bg = some r) ∧ ae (kq ≤ k) ∧ kz w w')
 case atStart => exact ⟨(0), (by first | rfl | (simp; done) | (simp [*]; done)), H', ⟨Nat.le_refl _⟩, by repeat (first | exact kz.refl _ | apply kz.step)⟩
 case round =>
  clear H'
  try clear c1
  try clear p2
  obtain ⟨bg, rfl, HA, lh, ⟨m1, rfl⟩⟩ := hrel
  cases gk with
  | zero => exact absurd HA.out (by simp [dS.l0])
  | succ k1 =>
   have H := HA.out
   clear HA
   simp only [dS.l0] at H
   by_cases c3 : bg < (l0.length : Int)
   ·rw [if_pos c3] at H
    have sU : decide (bg < (l0.length : Int)) = true := decide_eq_true c3
    clear c3
    by_cases c4 : 0 ≤ bg
    ·rw [if_pos c4] at H
     have uH : decide (0 ≤ bg) = true := decide_eq_true c4
     clear c4
     by_cases c5 : bg < (l0.length : Int)
     ·rw [if_pos c5] at H
      have EP : decide (bg < (l0.length : Int)) = true := decide_eq_true c5
      clear c5
      by_cases c6 : a1 = (rd l0 bg)
      ·rw [if_pos c6] at H
       have BH : (a1 == (rd l0 bg)) = true := beq_iff_eq.mpr c6
       have QE : (a1 != (rd l0 bg)) = false := bne_eq_false_iff_eq.mpr c6
       clear c6
       obtain rfl := Option.some.inj H
       have Fg : 0 ≤ (bg : Int) := of_decide_eq_true (by first | (with_reducible assumption) | assumption)
       have Fp : bg < (l0.length : Int) := of_decide_eq_true (by first | (with_reducible assumption) | assumption)
       obtain ⟨ag2, VO, aaT⟩ := Kd.ja HR0.out bg Fg Fp
       cases VO
       replace Fg := eq_true Fg
       replace Fp := eq_true Fp
       go_wp2
       go_ret
       exact ⟨by first | rfl | (simp; done) | (simp [*]; done), by repeat (first | exact kz.refl _ | apply kz.step)⟩
      ·rw [if_neg c6] at H
       have BH : (a1 == (rd l0 bg)) = false := beq_eq_false_iff_ne.mpr c6
       have QE : (a1 != (rd l0 bg)) = true := bne_iff_ne.mpr c6
       have H' := ae.mk H
       clear H
       have Fg : 0 ≤ (bg : Int) := of_decide_eq_true (by first | (with_reducible assumption) | assumption)
       have Fp : bg < (l0.length : Int) := of_decide_eq_true (by first | (with_reducible assumption) | assumption)
       obtain ⟨ag2, VO, aaT⟩ := Kd.ja HR0.out bg Fg Fp
       cases VO
       replace Fg := eq_true Fg
       replace Fp := eq_true Fp
       go_wp2
       go_roundg k1
       case measure => have := lh.out; omega
       case rel => exact ⟨(wrap64 (bg + 1)), (by first | rfl | (simp; done) | (simp [*]; done)), H', ⟨by have := lh.out; omega⟩, by repeat (first | exact kz.refl _ | apply kz.step)⟩
     ·rw [if_neg c5] at H
      exact absurd H (by simp)
    ·rw [if_neg c4] at H
     exact absurd H (by simp)
   ·rw [if_neg c3] at H
    have sU : decide (bg < (l0.length : Int)) = false := decide_eq_false c3
    clear c3
    obtain rfl := Option.some.inj H
    go_wp2
    go_ret
    exact ⟨by first | rfl | (simp; done) | (simp [*]; done), by repeat (first | exact kz.refl _ | apply kz.step)⟩
def lT.f (k : Nat) (l0 : List Int) (a1 : Int) : Option (Bool) := (dS.f k l0 a1).bind fun IC => (some (decide (IC ≥ 0)))
theorem lT.calls (k : Nat) (A0 : Option Addr) (c0 : Nat) (l0 : List Int) (a1 : Int) (r : Bool) (w : World) (hr0 : Kd.C (Kd.int .i64) w A0 l0.length l0) (hc0 : l0.length ≤ c0) (h : lT.f k l0 a1 = some r) :
  Calls Tryz.prog 27 #[.slice A0 l0.length c0, .int .i64 a1] w fun e w' => e = .returned (.bool r) ∧ kz w w' := by
 have HR0 := ae.mk hr0
 have HC0 := ae.mk hc0
 clear hr0 hc0
 have H : ((dS.f k l0 a1).bind fun IC => (some (decide (IC ≥ 0)))) = some r := h
 clear h
 replace H := Option.bind_eq_some_iff.mp H
 obtain ⟨IC, WZ, H⟩ := H
 replace H : (some (decide (IC ≥ 0))) = some r := H
 have A3 := ae.mk WZ
 clear WZ
 obtain rfl := Option.some.inj H
 go_enter Tryz.func27, Tryz.ntmps27
 go_wp2_with (first | ((with_reducible refine jF (f := 47) rfl ?_); refine mf (some 7) rfl rfl Tryz.func47 (by kernel_rfl) rfl #[.slice A0 l0.length c0, .int .i64 a1] rfl (by (try simp only [List.map_toArray, List.map_cons, List.map_nil]); first | done | rfl | (simp only [List.length_drop, List.length_take]; rfl)) ?_; (with_reducible refine (dS.calls k _ _ l0 a1 IC _ ?nH ?rJ A3.out).mono ?_); (case nH => repeat (first | exact HR0.out | (with_reducible refine Kd.Hy ?_ _) | (with_reducible refine Kd.Hz ?_ _) | (with_reducible refine Kd.JO ?_))); (case rJ => exact HC0.out); rintro e w' ⟨rfl, ⟨nd, rfl⟩⟩; refine ⟨_, rfl, ?_⟩))
 go_ret
 exact ⟨by first | rfl | (simp; done) | (simp [*]; done), by repeat (first | exact kz.refl _ | apply kz.step)⟩
end Go.Proofs.YtfdmfgaiblfbhaaGreat.P
namespace Go.Proofs.YtfdmfgaiblfbhaaGreat.P
open Go.RowKit Go.Proofs.ag.aU Go.Proofs.ag.bK Go.Proofs.ag.cO
theorem Xx {α : Type} (q : α → Bool) : ∀ l : List α, l.any q = (l.find? q).isSome := by
 intro l
 induction l with
 | nil => rfl
 | cons x xs ih =>
  rw [List.any_cons, List.find?_cons, ih]
  cases q x <;> rfl
theorem ae_ (id : Int) (c : ai) : ((jA [c]).any fun x => decide (id = x)) = (fB id c).isSome := by
 have e : ((jA [c]).any fun x => decide (id = x)) = (zi id c).isSome := by
  unfold jA zi gX
  rw [iE, kS, List.append_nil, List.any_map, Xx]
  congr 2
  funext x
  simp only [Function.comp, eq_comm]
 rw [e]
 cases hf : fB id c with
 | none => rw [Tj hf]; rfl
 | some p =>
  obtain ⟨z, hz, _⟩ := (Ef id _).1 c (Nat.le_refl _) p hf
  rw [Tm hf hz]
  rfl
theorem aaW (l : List Int) (x : Int) (h : l.length ≤ 1048576) : ∃ j : Int, Ev (fun k => dS.f k l x) j ∧ decide (j ≥ 0) = l.any fun y => decide (x = y) := by
 unfold dS.f
 have key : ∀ (rest pre : List Int), pre ++ rest = l → ∃ j : Int, Ev (fun k => dS.l0 k l x (l.length : Int) (pre.length : Int)) j ∧ decide (j ≥ 0) = rest.any fun y => decide (x = y) := by
  intro rest
  induction rest with
  | nil =>
   intro pre hp
   rw [List.append_nil] at hp
   refine ⟨-1, Ev.step (f := fun _ => some (-1)) (fun k => ?_) (Ev.now _), rfl⟩
   simp only [dS.l0]
   rw [if_neg (by rw [hp]; omega)]
  | cons y ys ih =>
   intro pre hp
   have hl : (pre.length : Int) < (l.length : Int) := by rw [← hp, List.length_append, List.length_cons]; omega
   have hr : rd l (pre.length : Int) = y := by rw [← hp]; unfold rd; simp
   by_cases hx : x = y
   ·refine ⟨(pre.length : Int), Ev.step (f := fun _ => some (pre.length : Int)) (fun k => ?_) (Ev.now _), ?_⟩
    ·simp only [dS.l0]
     rw [if_pos hl, if_pos (by omega), if_pos hl, if_pos (by rw [hr]; exact hx)]
    ·rw [List.any_cons, decide_eq_true hx, Bool.true_or]
     exact decide_eq_true (by omega)
   ·obtain ⟨j, e, hj⟩ := ih (pre ++ [y]) (by rw [List.append_assoc]; exact hp)
    refine ⟨j, Ev.step (fun k => ?_) e, by rw [List.any_cons, decide_eq_false hx, Bool.false_or]; exact hj⟩
    simp only [dS.l0]
    rw [if_pos hl, if_pos (by omega), if_pos hl, if_neg (by rw [hr]; exact hx)]
    rw [show wrap64 ((pre.length : Int) + 1) = ((pre ++ [y]).length : Int) from FI pre y ys (by rw [hp]; omega)]
 exact key l [] rfl
theorem TN (id : Int) (c : ai) (h : sz c ≤ 1048576) : Ev (fun k => lT.f k (jA [c]) id) (fB id c).isSome := by
 have hl := Ce [c]
 rw [bH, l9] at hl
 obtain ⟨j, e, hj⟩ := aaW (jA [c]) id (by omega)
 unfold lT.f
 refine Ev.bind e ?_
 rw [← ae_, ← hj]
 exact Ev.now _
theorem aiM {id : Int} {c : ai} {v : Bool} {A : Option Addr} {cc : Nat} {W : World} (hz : sz c ≤ 1048576) (h : (fB id c).isSome = v) (hC : Kd.C (Kd.int .i64) W A (jA [c]).length (jA [c])) (hc : (jA [c]).length ≤ cc) :
  Calls Tryz.prog 27 #[.slice A (jA [c]).length cc, .int .i64 id] W fun e w' => e = .returned (.bool v) ∧ kz W w' := by
 obtain ⟨k, hk⟩ := (TN id c hz).rounds
 rw [h] at hk
 exact lT.calls k A cc _ id v W hC hc hk
def ji (i : Nat) : Nat := if i = 0 then 1 else i - 1
noncomputable def pF (a : Int) (l : List ai) (i : Nat) : ai := aZ (a - 1) (bU (kd l (ji i)) 0 0) (aQ (a - 1) (kd l i).f1 + 1)
def rV (l : List ai) (i : Nat) : List ai := l.take i ++ l.drop (i + 1)
noncomputable def vY (c : ai) (i : Nat) : ai := if (rV (c.f3.set (ji i) (pF c.f0 c.f3 i)) i).length = 1 then pF c.f0 c.f3 i else ⟨c.f0, c.f1, c.f2, rV (c.f3.set (ji i) (pF c.f0 c.f3 i)) i⟩
noncomputable def PL (c : ai) (p : List Int) : Option ai := match jX c (p.take (p.length - 1)) with
 | none => none
 | some par => uJ (vY par (rd p ((p.length - 1 : Nat) : Int)).toNat) (p.take (p.length - 1)) c
def oN (id : Int) : Nat → List ai → Option Nat
 | _, [] => none
 | n, k :: ks => if k.f0 = 1 ∧ k.f2 = id then some n else oN id (n + 1) ks
mutual
noncomputable def CX (id : Int) : ai → ai
 | ⟨a, r, d, l⟩ => match oN id 0 l with
  | some i => vY ⟨a, r, d, l⟩ i
  | none => ⟨a, r, d, wQ id l⟩
noncomputable def wQ (id : Int) : List ai → List ai
 | [] => []
 | k :: ks => CX id k :: wQ id ks
end
theorem LG (id : Int) (c : ai) : CX id c = match oN id 0 c.f3 with
  | some i => vY c i
  | none => ⟨c.f0, c.f1, c.f2, wQ id c.f3⟩ := by cases c; rw [CX]
theorem zo (id : Int) : wQ id [] = [] := by rw [wQ]
theorem xG (id : Int) (k : ai) (ks : List ai) : wQ id (k :: ks) = CX id k :: wQ id ks := by rw [wQ]
theorem Vh (id : Int) : ∀ a b : List ai, wQ id (a ++ b) = wQ id a ++ wQ id b := by
 intro a
 induction a with
 | nil => intro b; rw [zo, List.nil_append, List.nil_append]
 | cons k ks ih => intro b; rw [List.cons_append, xG, xG, ih, List.cons_append]
theorem yG {id : Int} : ∀ {l : List ai} {n : Nat}, (∀ k, k ∈ l → ¬ (k.f0 = 1 ∧ k.f2 = id)) → oN id n l = none := by
 intro l
 induction l with
 | nil => intro n _; rfl
 | cons k ks ih =>
  intro n h
  unfold oN
  rw [if_neg (h k (by simp))]
  exact ih (fun x hx => h x (by simp [hx]))
theorem Fh {id : Int} {k : ai} {post : List ai} (hk : k.f0 = 1 ∧ k.f2 = id) : ∀ {pre : List ai} {n : Nat}, (∀ x, x ∈ pre → ¬ (x.f0 = 1 ∧ x.f2 = id)) → oN id n (pre ++ k :: post) = some (n + pre.length) := by
 intro pre
 induction pre with
 | nil => intro n _; rw [List.nil_append]; unfold oN; rw [if_pos hk]; simp
 | cons x xs ih =>
  intro n h
  rw [List.cons_append]
  unfold oN
  rw [if_neg (h x (by simp)), ih (fun y hy => h y (by simp [hy])), List.length_cons]
  congr 1
  omega
theorem afM (id : Int) : ∀ (N : Nat) (c : ai), sz c ≤ N → fB id c = none → CX id c = c := by
 intro N
 induction N with
 | zero => intro c h; rw [bJ] at h; omega
 | succ N ih =>
  intro c hc h
  obtain ⟨_, h2⟩ := jY h
  have hk := KE h2
  rw [LG, yG (fun k hm => (jY (hk k hm)).1)]
  have key : ∀ l : List ai, (∀ k, k ∈ l → sz k ≤ N ∧ fB id k = none) → wQ id l = l := by
   intro l
   induction l with
   | nil => intro _; exact zo id
   | cons k ks ihl =>
    intro hl
    rw [xG, ih k (hl k (by simp)).1 (hl k (by simp)).2, ihl (fun x hx => hl x (by simp [hx]))]
  have hcs := bJ c
  simp only []
  rw [key c.f3 (fun k hm => ⟨by have := nS hm; omega, hk k hm⟩)]
  cases c; rfl
theorem TM (id : Int) (l : List ai) (h : ∀ k, k ∈ l → fB id k = none) : wQ id l = l := by
 induction l with
 | nil => exact zo id
 | cons k ks ih => rw [xG, afM id _ k (Nat.le_refl _) (h k (by simp)), ih (fun x hx => h x (by simp [hx]))]
theorem Jm {id : Int} {c : ai} (h : fB id c = some []) : c.f0 = 1 ∧ c.f2 = id := by
 rw [vz] at h
 split at h
 ·assumption
 ·obtain ⟨_, _, _, _, _, _, _, h⟩ := KF h
  cases h
theorem OG {id : Int} {c : ai} {i : Int} {q : List Int} (h : fB id c = some (i :: q)) : ¬ (c.f0 = 1 ∧ c.f2 = id) := by
 intro e
 rw [vz, if_pos e] at h
 cases h
theorem ES {id : Int} {c : ai} {p : List Int} (hok : (fU c).all mg = true) (hd : fA ((fU c).filter fun x => decide (x.f0 = 1)) = true) (hf : fB id c = some p) (hp : p ≠ []) :
  c.f0 ≠ 1 ∧ ∃ pre k post q, c.f3 = pre ++ k :: post ∧ (∀ x, x ∈ pre → fB id x = none) ∧ (∀ x, x ∈ post → fB id x = none) ∧ fB id k = some q ∧ p = (pre.length : Int) :: q ∧ (fU k).all mg = true ∧ fA ((fU k).filter fun x => decide (x.f0 = 1)) = true := by
 have hoc := lM hok
 have hf0 := hf
 rw [vz] at hf
 split at hf
 ·injection hf with hf; exact absurd hf.symm hp
 ·have h0 : c.f0 ≠ 1 := by
   intro e
   rcases qm hoc with ⟨_, h3⟩ | ⟨h3, _⟩
   ·rw [List.eq_nil_of_length_eq_zero h3, rf] at hf; cases hf
   ·omega
  obtain ⟨pre, k, post, q, e, hpre, hk, hpe⟩ := KF hf
  rw [Nat.zero_add] at hpe
  have wZ : k ∈ c.f3 := by rw [e]; simp
  have hdl : fA ((allL (pre ++ k :: post)).filter fun x => decide (x.f0 = 1)) = true := by
   rw [← e]
   rw [lZ, List.filter_cons, if_neg (by simpa using h0)] at hd
   exact hd
  have hdk : fA ((fU k).filter fun x => decide (x.f0 = 1)) = true := by
   rw [uf, iE, List.filter_append, List.filter_append] at hdl
   exact Pure.FU _ _ (Pure.AX _ _ hdl)
  exact ⟨h0, pre, k, post, q, e, hpre, aaC hdl hk, hk, hpe, xU hok wZ, hdk⟩
theorem afL (id : Int) : ∀ (N : Nat) (c : ai), sz c ≤ N → (fU c).all mg = true → fA ((fU c).filter fun x => decide (x.f0 = 1)) = true → ∀ p, fB id c = some p → p ≠ [] → PL c p = some (CX id c) := by
 intro N
 induction N with
 | zero => intro c h; rw [bJ] at h; omega
 | succ N ih =>
  intro c hc hok hd p hf hp
  obtain ⟨h0, pre, k, post, q, e, hpre, hpost, hk, rfl, aaS, hdk⟩ := ES hok hd hf hp
  have hil : pre.length < c.f3.length := by rw [e]; simp
  have hkd : kd c.f3 pre.length = k := by rw [e]; exact PK pre k post
  have hcs := bJ c
  have hks : sz k ≤ N := by have := nS (show k ∈ c.f3 by rw [e]; simp); omega
  by_cases hq : q = []
  ·subst hq
   rw [LG, e, Fh (Jm hk) (fun x hx => (jY (hpre x hx)).1), ← e]
   unfold PL
   have e1 : ([(pre.length : Int)] : List Int).take ([(pre.length : Int)].length - 1) = [] := rfl
   have e2 : rd [(pre.length : Int)] (([(pre.length : Int)].length - 1 : Nat) : Int) = (pre.length : Int) := rfl
   rw [e1, e2]
   simp only [jX, uJ, Int.toNat_natCast, Nat.zero_add]
  ·have hkl : ¬ (k.f0 = 1 ∧ k.f2 = id) := by
    cases q with
    | nil => exact absurd rfl hq
    | cons i is => exact OG hk
   have hpl : oN id 0 c.f3 = none := yG (fun x hx => by
    rw [e] at hx
    rcases List.mem_append.1 hx with hx | hx
    ·exact (jY (hpre x hx)).1
    ·rcases List.mem_cons.1 hx with rfl | hx
     ·exact hkl
     ·exact (jY (hpost x hx)).1)
   have hih := ih k hks aaS hdk q hk hq
   rw [LG, hpl]
   simp only []
   rw [e, Vh, xG, TM id pre hpre, TM id post hpost]
   unfold PL at hih ⊢
   rw [O9 _ _ hq, U9 _ _ hq]
   have hat : jX c ((pre.length : Int) :: q.take (q.length - 1)) = jX k (q.take (q.length - 1)) := by
    simp only [jX]
    rw [if_neg (by omega), xu, hkd]
   rw [hat]
   cases hx : jX k (q.take (q.length - 1)) with
   | none => rw [hx] at hih; cases hih
   | some par =>
    rw [hx] at hih
    simp only [] at hih ⊢
    rw [← hkd] at hih
    rw [abm hil hih, hkd, e, afu]
def Be (l : List ai) (i : Nat) : Int := if i = 0 then (jA [kd l (ji i)]).headD 0 else (jA [kd l (ji i)]).getLastD 0
mutual
def wS (id : Int) : ai → Option Int
 | ⟨_, _, _, l⟩ => match oN id 0 l with
  | some i => some (Be l i)
  | none => yS id l
def yS (id : Int) : List ai → Option Int
 | [] => none
 | k :: ks => match wS id k with
  | some v => some v
  | none => yS id ks
end
theorem Ia (id : Int) (c : ai) : wS id c = match oN id 0 c.f3 with
  | some i => some (Be c.f3 i)
  | none => yS id c.f3 := by cases c; rw [wS]
theorem Qy (id : Int) : yS id [] = none := by rw [yS]
theorem Dj (id : Int) (k : ai) (ks : List ai) : yS id (k :: ks) = match wS id k with
  | some v => some v
  | none => yS id ks := by rw [yS]
theorem aae (id : Int) : ∀ (N : Nat) (c : ai), sz c ≤ N → fB id c = none → wS id c = none := by
 intro N
 induction N with
 | zero => intro c h; rw [bJ] at h; omega
 | succ N ih =>
  intro c hc h
  obtain ⟨_, h2⟩ := jY h
  have hk := KE h2
  rw [Ia, yG (fun k hm => (jY (hk k hm)).1)]
  have key : ∀ l : List ai, (∀ k, k ∈ l → sz k ≤ N ∧ fB id k = none) → yS id l = none := by
   intro l
   induction l with
   | nil => intro _; exact Qy id
   | cons k ks ihl =>
    intro hl
    rw [Dj, ih k (hl k (by simp)).1 (hl k (by simp)).2]
    exact ihl (fun x hx => hl x (by simp [hx]))
  have hcs := bJ c
  simp only []
  exact key c.f3 (fun k hm => ⟨by have := nS hm; omega, hk k hm⟩)
theorem Xy (id : Int) (k : ai) (post : List ai) : ∀ (pre : List ai), (∀ x, x ∈ pre → fB id x = none) → yS id (pre ++ k :: post) = yS id (k :: post) := by
 intro pre
 induction pre with
 | nil => intro _; rfl
 | cons x xs ih =>
  intro h
  rw [List.cons_append, Dj, aae id _ x (Nat.le_refl _) (h x (by simp))]
  exact ih (fun y hy => h y (by simp [hy]))
theorem aad (id : Int) : ∀ (N : Nat) (c : ai), sz c ≤ N → (fU c).all mg = true → fA ((fU c).filter fun x => decide (x.f0 = 1)) = true → ∀ p, fB id c = some p → p ≠ [] → ∀ par, jX c (p.take (p.length - 1)) = some par → wS id c = some (Be par.f3 (rd p ((p.length - 1 : Nat) : Int)).toNat) := by
 intro N
 induction N with
 | zero => intro c h; rw [bJ] at h; omega
 | succ N ih =>
  intro c hc hok hd p hf hp par hat
  obtain ⟨h0, pre, k, post, q, e, hpre, hpost, hk, rfl, aaS, hdk⟩ := ES hok hd hf hp
  have hil : pre.length < c.f3.length := by rw [e]; simp
  have hkd : kd c.f3 pre.length = k := by rw [e]; exact PK pre k post
  have hcs := bJ c
  have hks : sz k ≤ N := by have := nS (show k ∈ c.f3 by rw [e]; simp); omega
  by_cases hq : q = []
  ·subst hq
   have e1 : ([(pre.length : Int)] : List Int).take ([(pre.length : Int)].length - 1) = [] := rfl
   have e2 : rd [(pre.length : Int)] (([(pre.length : Int)].length - 1 : Nat) : Int) = (pre.length : Int) := rfl
   rw [e1] at hat
   simp only [jX] at hat
   injection hat with hat
   subst hat
   rw [Ia, e, Fh (Jm hk) (fun x hx => (jY (hpre x hx)).1), ← e, e2]
   simp only [Int.toNat_natCast, Nat.zero_add]
  ·have hkl : ¬ (k.f0 = 1 ∧ k.f2 = id) := by
    cases q with
    | nil => exact absurd rfl hq
    | cons i is => exact OG hk
   have hpl : oN id 0 c.f3 = none := yG (fun x hx => by
    rw [e] at hx
    rcases List.mem_append.1 hx with hx | hx
    ·exact (jY (hpre x hx)).1
    ·rcases List.mem_cons.1 hx with rfl | hx
     ·exact hkl
     ·exact (jY (hpost x hx)).1)
   rw [O9 _ _ hq] at hat
   simp only [jX] at hat
   rw [if_neg (by omega), xu, hkd] at hat
   have hih := ih k hks aaS hdk q hk hq par hat
   rw [Ia, hpl]
   simp only []
   rw [e, Xy id k post pre hpre, Dj, hih, U9 _ _ hq]
def kP (id : Int) (c : ai) : Int := if dF c = false then 1 else match fB id c with
 | none => 6
 | some [] => 10
 | some (_ :: _) => 0
noncomputable def uP (id : Int) (c : ai) : ai := if kP id c = 0 then bU (CX id c) c.f1.f0 c.f1.f1 else z26
structure uM (id : Int) (c : ai) (p : List Int) (par : ai) (k : Nat) : Prop where
 sN : dF c = true
 find : fB id c = some p
 ne : p.length ≠ 0
 at' : jX c (p.take (p.length - 1)) = some par
 rdk : rd p ((p.length - 1 : Nat) : Int) = (k : Int)
 lt : k < par.f3.length
 kind : par.f0 = 2 ∨ par.f0 = 3
 len : 2 ≤ par.f3.length
 ok : (fU par).all mg = true
theorem kills {id : Int} {c : ai} (h : kP id c = 0) : ∃ p par k, uM id c p par k := by
 unfold kP at h
 split at h
 ·cases h
 ·rename_i ht
  have ht : dF c = true := by simpa using ht
  cases hf : fB id c with
  | none => rw [hf] at h; cases h
  | some p =>
   cases p with
   | nil => rw [hf] at h; cases h
   | cons i q =>
    obtain ⟨x, hx, _⟩ := (Ef id _).1 c (Nat.le_refl _) _ hf
    obtain ⟨par, hp, h0, h1⟩ := ag_ (i :: q) c x hx q.length (by simp)
    have hpt := Jg _ _ _ ht hp
    have hok := oL (kR hpt)
    have hln : (i :: q).length - 1 = q.length := by simp
    refine ⟨i :: q, par, (rd (i :: q) (q.length : Int)).toNat, ht, hf, by simp, by rw [hln]; exact hp, ?_, by omega, ?_, ?_, hok⟩
    ·rw [hln]; exact (Int.toNat_of_nonneg h0).symm
    ·rcases qm (lM hok) with ⟨_, h3⟩ | ⟨h3, _⟩
     ·omega
     ·exact h3
    ·rcases qm (lM hok) with ⟨_, h3⟩ | ⟨_, h3⟩
     ·omega
     ·exact h3
theorem uM.n {id : Int} {c : ai} {p : List Int} {par : ai} {k : Nat} (h : uM id c p par k) : kP id c = 0 := by
 unfold kP
 rw [if_neg (by rw [h.sN]; simp), h.find]
 have := h.ne
 cases p with
 | nil => exact absurd rfl this
 | cons i q => rfl
theorem uM.o {id : Int} {c : ai} {p : List Int} {par : ai} {k : Nat} (h : uM id c p par k) : uJ (vY par k) (p.take (p.length - 1)) c = some (CX id c) := by
 have hd := Bh h.sN
 have h1 := afL id _ c (Nat.le_refl _) hd.1 hd.2 p h.find (fun e => h.ne (by rw [e]; rfl))
 unfold PL at h1
 rw [h.at', h.rdk] at h1
 exact h1
theorem uM.aaO {id : Int} {c : ai} {p : List Int} {par : ai} {k : Nat} (h : uM id c p par k) : wS id c = some (Be par.f3 k) := by
 have hd := Bh h.sN
 have h1 := aad id _ c (Nat.le_refl _) hd.1 hd.2 p h.find (fun e => h.ne (by rw [e]; rfl)) par h.at'
 rw [h.rdk] at h1
 exact h1
theorem Ei {k n : Nat} (h : k < n) (h2 : 2 ≤ n) : ji k < n := by unfold ji; split <;> omega
theorem aei {k : Nat} : ji k ≠ k := by unfold ji; split <;> omega
theorem ag1 (ax : Int) (c : ai) (b : Int) : sz (aZ ax c b) ≤ sz c := by
 have h1 : sz z26 = 1 := by decide
 have h2 := bJ c
 unfold aZ
 split
 ·omega
 ·split
  ·omega
  ·rw [(G_ _).1 _ (Nat.le_refl _), (Qs ax _).1 _ (Nat.le_refl _)]; omega
theorem Eo {l : List ai} {i : Nat} (h : i < l.length) : kd l i ∈ l := by
 unfold kd
 rw [List.getD_eq_getElem?_getD, List.getElem?_eq_getElem h]
 exact List.getElem_mem h
theorem Jo (a : Int) (l : List ai) (i : Nat) (h : ji i < l.length) : sz (pF a l i) ≤ dY l := by
 unfold pF
 have h1 := ag1 (a - 1) (bU (kd l (ji i)) 0 0) (aQ (a - 1) (kd l i).f1 + 1)
 rw [(G_ _).1 _ (Nat.le_refl _)] at h1
 have := nS (Eo h)
 omega
theorem abJ (x : ai) : ∀ (l : List ai) (i : Nat), dY (l.set i x) ≤ dY l + sz x := by
 intro l
 induction l with
 | nil => intro i; simp [l9]
 | cons k ks ih =>
  intro i
  cases i with
  | zero => rw [List.set_cons_zero, bH, bH]; omega
  | succ i => rw [List.set_cons_succ, bH, bH]; have := ih i; omega
theorem ahD (l : List ai) (i : Nat) : dY (rV l i) ≤ dY l := by
 have h1 : dY (l.take i) + dY (l.drop i) = dY l := by rw [← l7, List.take_append_drop]
 have h2 : dY (l.drop (i + 1)) ≤ dY (l.drop i) := by
  rw [← List.drop_drop]
  cases h : l.drop i with
  | nil => simp
  | cons x xs => rw [bH]; simp
 unfold rV
 rw [l7]
 omega
theorem ady {l : List ai} {i : Nat} (h : i < l.length) : (rV l i).length = l.length - 1 := by
 unfold rV
 rw [List.length_append, List.length_take, List.length_drop]
 omega
theorem SC {c : ai} {i : Nat} (h : ji i < c.f3.length) : sz (vY c i) ≤ 2 * sz c := by
 have h1 := bJ c
 have h2 := Jo c.f0 c.f3 i h
 unfold vY
 split
 ·omega
 ·rw [bJ]
  show 1 + dY (rV _ _) ≤ _
  have h3 := ahD (c.f3.set (ji i) (pF c.f0 c.f3 i)) i
  have h4 := abJ (pF c.f0 c.f3 i) c.f3 (ji i)
  omega
theorem uM.sz {id : Int} {c : ai} {p : List Int} {par : ai} {k : Nat} (h : uM id c p par k) : sz (CX id c) ≤ 3 * sz c := by
 have h1 := abn (vY par k) (p.take (p.length - 1)) c _ h.o
 have h2 := SC (Ei h.lt h.len)
 have h3 := Eb _ _ _ h.at'
 omega
theorem afa (id : Int) (c : ai) : sz (uP id c) ≤ 3 * sz c := by
 have h0 := bJ c
 unfold uP
 split
 ·rename_i h
  obtain ⟨p, par, k, hK⟩ := kills h
  rw [(G_ _).1 _ (Nat.le_refl _)]
  exact hK.sz
 ·have : sz z26 = 1 := by decide
  omega
theorem Du {id n : Int} {c : ai} (h : kP id c = n) (h0 : n ≠ 0) : uP id c = z26 := by
 unfold uP
 rw [if_neg (by rw [h]; exact h0)]
theorem uM.z {id : Int} {c : ai} {p : List Int} {par : ai} {k : Nat} (h : uM id c p par k) : uP id c = bU (CX id c) c.f1.f0 c.f1.f1 := by
 unfold uP
 rw [if_pos h.n]
theorem Sm : ∀ (N : Nat) (c : ai), sz c ≤ N → (fU c).all mg = true → jA [c] ≠ [] := by
 intro N
 induction N with
 | zero => intro c h; rw [bJ] at h; omega
 | succ N ih =>
  intro c hc hok
  have hcs := bJ c
  have e0 : allL [c] = fU c := by rw [iE, kS, List.append_nil]
  rcases qm (lM hok) with ⟨h1, _⟩ | ⟨h1, h2⟩
  ·unfold jA
   rw [e0, lZ, List.filter_cons, if_pos (by simpa using h1)]
   simp
  ·cases hl : c.f3 with
   | nil => rw [hl] at h2; simp at h2
   | cons k ks =>
    have hk : k ∈ c.f3 := by rw [hl]; simp
    have := ih k (by have := nS hk; omega) (xU hok hk)
    intro h
    apply this
    unfold jA at h ⊢
    rw [e0, lZ, List.filter_cons, if_neg (by simp; omega), hl, iE, List.filter_append, List.map_append, List.append_eq_nil_iff] at h
    rw [iE, kS, List.append_nil]
    exact h.1
def Uu : ai := ⟨3, ⟨0, 0, 9, 5⟩, 0, [⟨1, ⟨0, 0, 9, 2⟩, 1, []⟩, ⟨1, ⟨0, 3, 9, 2⟩, 2, []⟩]⟩
def exE : ai := ⟨1, ⟨0, 0, 9, 5⟩, 2, []⟩
theorem ana : kP 1 Uu = 0 := by decide +kernel
theorem anb : uP 1 Uu = exE := by kernel_rfl
def z_.T10 : Bool × List (List Nat × List Nat) := (true, [([], []), ([], []), ([], []), ([], []), ([], []), ([], []), ([], []), ([], []), ([], []), ([4, 5, 6, 7, 8], [4, 5, 6, 7, 8]), ([0, 1, 2, 3, 9, 9], [0, 1, 2, 3, 9]), ([], []), ([11, 10, 10, 0, 1, 2, 3, 4, 5, 6, 7, 8, 9, 10, 11], [10, 11])])
def z_.B10 : List Nat := [0, 0, 0, 0, 0, 0, 0, 0, 0, 496, 1023, 0, 4095]
theorem z_.WL : je .any (opsOf Tryz.f13 10) = z_.T10 := by kernel_rfl
theorem z_.Qz : iM z_.T10.2 z_.B10 = true := by kernel_rfl
theorem aiW {f : FuncId} {z y : ai} {P : Nat → Prop} {args : Array Value} {W : World} (h : z = y) (hc : Calls Tryz.prog f args W (yg W P z)) : Calls Tryz.prog f args W (yg W P y) := by
 rw [h] at hc
 exact hc
theorem U_ {f : FuncId} {L M : List ai} {P : Nat → Prop} {args : Array Value} {W : World} (h : M = L) (hc : Calls Tryz.prog f args W (ZU W P M)) : Calls Tryz.prog f args W (ZU W P L) := by
 rw [h] at hc
 exact hc
theorem Sr {f : FuncId} {z y : ai} {P : Nat → Prop} {args : Array Value} {W : World} (h : y = z) (hc : Calls Tryz.prog f args W (Uf W P y)) : Calls Tryz.prog f args W (Uf W P z) := by
 rw [h] at hc
 exact hc
theorem U0 (c : ai) {q : List Int} (h : jA [c] = q) {W : World} {A : Option Addr} {cc : Nat} (hz : sz c ≤ 1048576) (h1 : Kd.C k26 W A 1 [c]) (h2 : 1 ≤ cc) : Calls Tryz.prog 24 #[.slice A 1 cc] W fun e w' => ∃ A' c', e = .returned (.slice A' q.length c') ∧ Kd.C (Kd.int .i64) w' A' q.length q ∧ q.length ≤ c' ∧ Below W.heap.size W w' := by
 subst h
 obtain ⟨k, hk⟩ := (MC (dY [c]) [c] (Nat.le_refl _) (by rw [bH, l9]; omega)).rounds
 refine (dZ.calls k A cc [c] _ W h1 h2 hk).mono ?_
 rintro e w1 ⟨v, rfl, hR, hb⟩
 obtain ⟨A', c', rfl⟩ := Kd.ig hR
 have h := Kd.eX hR
 exact ⟨A', c', rfl, h.2.2, h.2.1, hb⟩
theorem ak_ (c : ai) {q : List Int} {id : Int} {v : Bool} {W : World} {A : Option Addr} {cc : Nat} (hz : sz c ≤ 1048576) (h : jA [c] = q) (hf : (fB id c).isSome = v) (hC : Kd.C (Kd.int .i64) W A q.length q) (hc : q.length ≤ cc) : Calls Tryz.prog 27 #[.slice A q.length cc, .int .i64 id] W fun e w' => e = .returned (.bool v) ∧ Below W.heap.size W w' := by
 subst h
 exact (aiM hz hf hC hc).mono (fun _ _ ⟨he, hd⟩ => ⟨he, hd.below⟩)
theorem afw (c : ai) {W : World} {A : Option Addr} {cc : Nat} (hz : sz c = 3) (h1 : Kd.C k26 W A 1 [c]) (h2 : 1 ≤ cc) : Calls Tryz.prog 32 #[.slice A 1 cc] W fun e w' => e = .returned (.int .i64 3) ∧ Below W.heap.size W w' := by
 have he : dY [c] = 3 := by rw [bH, l9]; omega
 obtain ⟨k, hk⟩ := (Ri (dY [c]) [c] (Nat.le_refl _) (by omega)).rounds
 rw [he] at hk
 exact iG.calls k A cc [c] _ W h1 h2 hk
theorem ak9 {W : World} {b : Nat} {P : Nat → Prop} {cc cb : Nat} {A B : Option Addr} (hV : Kd.V k26 26 W b P (.slice A 0 cc) []) (hi : Kd.C (Kd.int .i64) W B ([] : List Int).length []) (hb : ([] : List Int).length ≤ cb) :
  Calls Tryz.prog 29 #[.agg #[.int .u8 1, .int .i64 0, .int .i64 0, .int .i64 9, .int .i64 5, .int .i64 1, .slice A 0 cc], .slice B ([] : List Int).length cb] W fun e w' => ∃ A2 c2, e = .returned (.tuple #[.agg #[.int .u8 1, .int .i64 0, .int .i64 0, .int .i64 9, .int .i64 5, .int .i64 1, .slice A2 0 c2], .bool true]) ∧ Kd.N k26 26 w' W.heap.size (fun k => P k ∨ W.heap.size ≤ k) (.slice A2 0 c2) [] ∧ Below W.heap.size W w' :=
 Z9 ⟨1, ⟨0, 0, 9, 5⟩, 1, []⟩ [] ⟨1, ⟨0, 0, 9, 5⟩, 1, []⟩ rfl (by simp) (by decide) hV hi hb
theorem Sz (ax : Int) (hax : ax = 1 ∨ ax = 2) (c leaf : ai) (L : List ai) (hz : sz c ≤ 800000) (hLz : dY L ≤ 1000) (P : Nat → Prop) (A : Option Addr) (cc : Nat) (Al : Option Addr) (cl : Nat) (B : Option Addr) (cb : Nat) (Aq : Option Addr) (cL : Nat) (w : World)
  (hv : Kd.V k26 26 w w.heap.size P (.slice A c.f3.length cc) c.f3) (hi : Kd.C (Kd.int .i64) w B ([] : List Int).length []) (hvL : Kd.V k26 26 w w.heap.size P (.slice Aq L.length cL) L) :
  Calls Tryz.prog 30 #[.agg #[.int .u8 c.f0, .int .i64 c.f1.f0, .int .i64 c.f1.f1, .int .i64 c.f1.f2, .int .i64 c.f1.f3, .int .i64 c.f2, .slice A c.f3.length cc], .slice B ([] : List Int).length cb, .agg #[.int .u8 leaf.f0, .int .i64 leaf.f1.f0, .int .i64 leaf.f1.f1, .int .i64 leaf.f1.f2, .int .i64 leaf.f1.f3, .int .i64 leaf.f2, .slice Al leaf.f3.length cl], .int .u8 ax, .slice Aq L.length cL] w (Uf w P (Iy ax leaf L)) := by
 have S := ae.mk (St.start (ts := [(.slice A c.f3.length cc, c.f3), (.slice Aq L.length cL, L)]) (b0 := w.heap.size) (w := w) (P := P) (fun t ht => by
  rcases List.mem_cons.1 ht with rfl | ht
  ·exact hv
  ·rw [List.mem_singleton.1 ht]; exact hvL))
 have HZ := ae.mk (show sz c ≤ 1000000 by omega)
 have HI := ae.mk hi
 have hm1 : (ax - 1) % 256 = ax - 1 := by omega
 have hm2 : (ax - 1 + 2) % 256 = ax - 1 + 2 := by omega
 unfold Iy
 rw [show ax + 1 = ax - 1 + 2 by omega]
 have x_ := ae.mk (show sz ⟨ax - 1 + 2, leaf.f1, 0, L⟩ ≤ 1000000 by rw [bJ]; show 1 + dY L ≤ _; omega)
 clear hv hi hvL hz hLz hax
 obtain ⟨ck, ⟨cx, cy, cw, ch⟩, aJ, l⟩ := c
 obtain ⟨ek, ⟨ex, ey, ew, eh⟩, eid, le⟩ := leaf
 simp only [] at S HZ x_ ⊢
 go_enter Tryz.func30, Tryz.ntmps30
 go_wp2_with (first
  | (refine boxS 5 _ 26 S ?_; clear S; intro b5 eU S)
  | (refine boxS 7 _ 26 S ?_; clear S; intro b7 fM S)
  | (refine boxS 10 _ 26 S ?_; clear S; intro b10 iq S; obtain ⟨VJ, yu, yw, yx, yz, Kv, VK⟩ := St.fF S gy; have VM := (S.out.at bf 1).trans rfl; have VN := (S.out.at bf 2).trans rfl; have Kw := (S.out.at bf 3).trans rfl; have Ky := (S.out.at bf 4).trans rfl)
  | (refine lK (some 68) Tryz.func19 (Wp ⟨ck, ⟨cx, cy, cw, ch⟩, aJ, l⟩ ⟨ax - 1 + 2, ⟨ex, ey, ew, eh⟩, 0, L⟩ [] ⟨ax - 1 + 2, ⟨ex, ey, ew, eh⟩, 0, L⟩ rfl HZ.out x_.out (S.out.tree _ (.head _)) (S.out.tree _ bf) (Kd.g_ HI.out S.out.below) (Nat.zero_le _)) ?_; rintro e jD ⟨Ay, Ur, rfl, h1, hb⟩; refine ⟨_, rfl, ?_⟩; skip; replace S := ae.mk (S.out.res (Kd.qY (base' := 0) h1) hb); clear h1 hb; clear VJ yu yw yx yz Kv VK VM VN Kw Ky)
  | (refine boxS 16 _ 26 S ?_; clear S; intro b16 mQ S)
  | (refine gY 26 16 69 #[.int .u8 (ax - 1 + 2), .int .i64 ex, .int .i64 ey, .int .i64 ew, .int .i64 eh, .int .i64 0, .slice Ay L.length Ur] 0 7 S ?_; clear S; intro vS S; obtain ⟨QT, QU, QV, QW, ahk, ahl, ahm⟩ := St.fF S (.head _))
  | (refine qw 26 10 71 #[.int .u8 (ax - 1 + 2), .int .i64 ex, .int .i64 ey, .int .i64 ew, .int .i64 eh, .int .i64 0, .slice Ay L.length Ur] 0 7 S ?_; clear S; intro xY S; clear QT QU QV QW ahk ahl ahm)
  | fail)
 refine bodyPost_ret (results_cell_row rfl _ _ b10 26 _ (0, 0) _ rfl (S.out.blk _ bf _ rfl) Tryz.underlying26 rfl (by kernel_rfl)) rfl ?_
 exact ⟨_, _, rfl, S.out.SQ (b0 := w.heap.size) (.head _), S.out.below⟩
theorem afx (P : Nat → Prop) (w : World) : Calls Tryz.prog 13 #[.agg #[.int .u8 1, .int .i64 0, .int .i64 0, .int .i64 9, .int .i64 5, .int .i64 1, .slice none 0 0], .int .i64 1, .int .u8 2, .int .i64 0, .int .i64 2, .bool false] w (EJ w P Uu 0) := by
 have S := ae.mk (St.start (ts := [(.slice none 0 0, [])]) (b0 := w.heap.size) (w := w) (P := P) (fun t ht => by rw [List.mem_singleton.1 ht]; exact Kd.EK k26 26 _ _ _))
 have HT := ae.mk (show dF ⟨1, ⟨0, 0, 9, 5⟩, 1, []⟩ = true by decide +kernel)
 have F8 := ae.mk (show fB 1 ⟨1, ⟨0, 0, 9, 5⟩, 1, []⟩ = some [] by decide +kernel)
 have HF2 := ae.mk (show (fB 2 ⟨1, ⟨0, 0, 9, 5⟩, 1, []⟩).isSome = false by decide +kernel)
 obtain ⟨q9, FW⟩ : ∃ q, jA [⟨1, ⟨0, 0, 9, 5⟩, 1, []⟩] = q := ⟨_, rfl⟩
 have HQ9 := ae.mk FW
 have Df := ae.mk (show aQ 2 ⟨0, 0, 9, 5⟩ = 5 by decide)
 have J5 := ae.mk (show -1000000 ≤ aQ 2 ⟨0, 0, 9, 5⟩ ∧ aQ 2 ⟨0, 0, 9, 5⟩ ≤ 1000000 by decide)
 have H64 := ae.mk (show I64 0 by unfold I64; omega)
 have FV : bU (Iy 2 ⟨1, ⟨0, 0, 9, 5⟩, 1, []⟩ (FH 2 0 2 false ⟨1, ⟨0, 0, 9, 5⟩, 1, []⟩)) 0 0 = Uu := by kernel_rfl
 have hs9 : sz (Iy 2 ⟨1, ⟨0, 0, 9, 5⟩, 1, []⟩ (FH 2 0 2 false ⟨1, ⟨0, 0, 9, 5⟩, 1, []⟩)) = 3 := by rw [bJ]; unfold Iy; simp only []; rw [ZA]
 have hl9 := ZA 2 0 2 false ⟨1, ⟨0, 0, 9, 5⟩, 1, []⟩
 obtain ⟨L9, hL9⟩ : ∃ L, FH 2 0 2 false ⟨1, ⟨0, 0, 9, 5⟩, 1, []⟩ = L := ⟨_, rfl⟩
 rw [hL9] at FV hs9 hl9
 obtain ⟨z9, hz9⟩ : ∃ z, Iy 2 ⟨1, ⟨0, 0, 9, 5⟩, 1, []⟩ L9 = z := ⟨_, rfl⟩
 rw [hz9] at FV hs9
 have HTW := ae.mk hL9
 have HZ9 := ae.mk hz9
 have P5 := ae.mk (show dY L9 ≤ 1000 by omega)
 have J6 := ae.mk hs9
 have amH := ae.mk (show sz z9 ≤ 1000000 by omega)
 obtain ⟨zB, hzB⟩ : ∃ z, Uu = z := ⟨_, rfl⟩
 rw [hzB] at FV ⊢
 have HSE := ae.mk FV
 clear FW FV hs9 hl9 hL9 hz9 hzB
 go_enter Tryz.func13, Tryz.ntmps13
 go_wp2_with (first
  | (refine boxS 6 _ 26 S ?_; clear S; intro b6 eU S)
  | (refine boxS 12 _ 26 S ?_; clear S; intro b12 fM S; obtain ⟨oU, oV, oW, qF, qG, qH, jH⟩ := St.fF S bf)
  | ((with_reducible refine aA (N := 27) rfl ?_); refine qQ (N := 27) rfl rfl ⟨1, ⟨0, 0, 9, 5⟩, 1, []⟩ S.out (S.out.tree _ (.head _)) ?hr ?_; (case hr => first | (go_simp; done) | (go_simp; rfl)); intro aq9 art iq S1 h1 h2; replace S := ae.mk S1; have qf := ae.mk h1; have uq := ae.mk h2; clear S1 h1 h2; clear oU oV oW qF qG qH jH)
  | (refine cZ (some 28) Tryz.func26 S (oC HT.out (wF ⟨1, ⟨0, 0, 9, 5⟩, 1, []⟩ (by decide) uq.out qf.out)) ?_; clear S; intro jD S; obtain ⟨oU, oV, oW, qF, qG, qH, jH⟩ := St.fF S bf)
  | ((with_reducible refine aA (N := 48) rfl ?_); (refine gW (by rfl) ?_; dsimp only); refine qQ (N := 48) rfl rfl ⟨1, ⟨0, 0, 9, 5⟩, 1, []⟩ S.out (S.out.tree _ (.head _)) ?hr ?_; (case hr => first | (go_simp; done) | (go_simp; rfl)); intro aq_ aru mQ S1 h1 h2; replace S := ae.mk S1; have qf := ae.mk h1; have uq := ae.mk h2; clear S1 h1 h2; clear oU oV oW qF qG qH jH)
  | (refine ik 49 rfl ?_; (refine gW (by rfl) ?_; dsimp only); refine lK (some 49) Tryz.func24 (U0 ⟨1, ⟨0, 0, 9, 5⟩, 1, []⟩ HQ9.out (by decide) uq.out qf.out) ?_; rintro e vS ⟨Ai, ci, rfl, hci, hcl, hb⟩; refine ⟨_, rfl, ?_⟩; have HCI := ae.mk hci; have HCL := ae.mk hcl; replace S := ae.mk (S.out.call hb); clear hb; clear hci hcl)
  | (refine ik 51 rfl ?_; (refine gW (by rfl) ?_; dsimp only); refine cZ (some 51) Tryz.func27 S (ak_ ⟨1, ⟨0, 0, 9, 5⟩, 1, []⟩ (by decide) HQ9.out HF2.out HCI.out HCL.out) ?_; clear S; intro xY S; obtain ⟨oU, oV, oW, qF, qG, qH, jH⟩ := St.fF S bf)
  | (refine PH (some 57) Tryz.func28 S (Gq 1 ⟨1, ⟨0, 0, 9, 5⟩, 1, []⟩ [] F8.out (by decide) (S.out.tree _ (.head _))) ?_; clear S; intro Ap cp op A_ S rY; clear oU oV oW qF qG qH jH; obtain ⟨oU, oV, oW, qF, qG, qH, jH⟩ := St.fF S gy)
  | (refine lK (some 63) Tryz.func29 (ak9 (S.out.tree _ (.head _)) (EE rY.out S.out (.head _)).1 (EE rY.out S.out (.head _)).2) ?_; rintro e FZ ⟨Az, cz, rfl, h1, hb⟩; refine ⟨_, rfl, ?_⟩; skip; replace S := ae.mk (S.out.res (Kd.qY (base' := 0) h1) hb); clear h1 hb; clear oU oV oW qF qG qH jH)
  | (refine boxS 17 _ 26 S ?_; clear S; intro b17 CW S)
  | (refine gY 26 17 64 #[.int .u8 1, .int .i64 0, .int .i64 0, .int .i64 9, .int .i64 5, .int .i64 1, .slice Az 0 cz] 0 7 S ?_; clear S; intro DV S; have QX := (S.out.at (.head _) 1).trans rfl; have QY := (S.out.at (.head _) 2).trans rfl; have QZ := (S.out.at (.head _) 3).trans rfl; have Q3 := (S.out.at (.head _) 4).trans rfl)
  | (refine cZ (some 72) Tryz.func17 S (Ew Df.out (CQ ⟨0, 0, 9, 5⟩ 2)) ?_; clear S; intro FM S; clear QX QY QZ Q3)
  | fail)
 refine jT (n := 13) (S := fun w' => St w _ _ _ _ _ w') (ds := [12]) (bA 13 0) (by kernel_rfl) rfl rfl (S.out.call (bI (Below.refl _ _))) (fun hHeld => ?_); refine gG z_.WL z_.Qz (fun ak fC => ?_)
 replace S := ae.mk (S.out.call (bI (Below.refl _ _)))
 generalize FM.drew = ar7 at S hHeld ⊢
 refine dM 0 75 (bA 13 1) ak fC hHeld ?_ (hv := by intro w' hs_; have oU := (hs_.at jy 0).trans rfl; have oV := (hs_.at jy 1).trans rfl; have oW := (hs_.at jy 2).trans rfl; have qF := (hs_.at jy 3).trans rfl; have qG := (hs_.at jy 4).trans rfl; have qH := (hs_.at jy 5).trans rfl; have jH := (hs_.at jy 6).trans rfl; go_simp; with_reducible rfl)
 refine ay 1 76 (bA 13 3) ak ?_
 refine dM 2 77 (bA 13 7) ak fC hHeld ?_ (hv := by intro w' hs_; have ahn := (hs_.at (.head _) 0).trans rfl; have QX := (hs_.at (.head _) 1).trans rfl; have QY := (hs_.at (.head _) 2).trans rfl; have QZ := (hs_.at (.head _) 3).trans rfl; have Q3 := (hs_.at (.head _) 4).trans rfl; have aho := (hs_.at (.head _) 5).trans rfl; have ahp := (hs_.at (.head _) 6).trans rfl; go_simp; with_reducible rfl)
 refine ay 3 78 (bA 13 15) ak ?_
 refine dM 4 79 (bA 13 31) ak fC hHeld ?_ (hv := by intro w' hs_; have ahn := (hs_.at (.head _) 0).trans rfl; have QX := (hs_.at (.head _) 1).trans rfl; have QY := (hs_.at (.head _) 2).trans rfl; have QZ := (hs_.at (.head _) 3).trans rfl; have Q3 := (hs_.at (.head _) 4).trans rfl; have aho := (hs_.at (.head _) 5).trans rfl; have ahp := (hs_.at (.head _) 6).trans rfl; go_simp; with_reducible rfl)
 refine ay 5 80 (bA 13 63) ak ?_
 refine ay 6 81 (bA 13 127) ak ?_
 refine ay 7 82 (bA 13 255) ak ?_
 refine ay 8 83 (bA 13 511) ak ?_
 refine KQ (σ := Option Addr × Nat × Option Addr × Nat × Nat) 1 (bA 13 4095) (fun s_ => [(84, .slice s_.1 L9.length s_.2.1), (85, .agg #[.int .u8 z9.f0, .int .i64 z9.f1.f0, .int .i64 z9.f1.f1, .int .i64 z9.f1.f2, .int .i64 z9.f1.f3, .int .i64 z9.f2, .slice s_.2.2.1 z9.f3.length s_.2.2.2.1]), (19, .pointer (some ⟨s_.2.2.2.2, 0, none⟩))]) (fun s_ w' => St w P [(some s_.2.2.2.2, .cells #[.int .u8 0, .int .i64 0, .int .i64 0, .int .i64 0, .int .i64 0, .int .i64 0, .slice none 0 0] 26 (0, 0)), (some b17, .cells #[.int .u8 1, .int .i64 0, .int .i64 0, .int .i64 9, .int .i64 5, .int .i64 1, .slice Az 0 cz] 26 (0, 0)), ((Value.slice Ap (([] : List Int).length) cp).ownBlock, op), (some b12, .cells #[.int .u8 0, .int .i64 0, .int .i64 0, .int .i64 0, .int .i64 0, .int .i64 0, .slice none 0 0] 26 (0, 0)), (some b6, .cells #[.int .u8 1, .int .i64 0, .int .i64 0, .int .i64 9, .int .i64 5, .int .i64 1, .slice none 0 0] 26 (0, 0))] [] [(.slice s_.2.2.1 z9.f3.length s_.2.2.2.1, z9.f3), (.slice s_.1 L9.length s_.2.1, L9), (.slice Az 0 cz, []), (.slice none 0 0, [])] [] w') ?_ ?_
 rotate_left
 ·intro o5
  refine CV (i := 9) (j := 11) (Ni := some 84) (Nj := some 19) (bA 13 1023) (bA 13 2559) rfl rfl rfl rfl (vP ak.out (by kernel_rfl)) (by decide) (by decide) (fun K hK => ?_) (fun K hK => ?_)
  ·skip
   refine fO Tryz.func31 (by kernel_rfl) rfl #[.agg #[.int .u8 1, .int .i64 0, .int .i64 0, .int .i64 9, .int .i64 5, .int .i64 1, .slice Az 0 cz], .int .u8 2, .int .i64 0, .int .i64 2, .bool false] (by rfl) rfl rfl (by (try simp only [List.map_toArray, List.map_cons, List.map_nil]); first | done | rfl) ?_
   refine (U_ HTW.out (Zz ⟨1, ⟨0, 0, 9, 5⟩, 1, []⟩ 2 0 2 false J5.out H64.out _ _ _ _ (d_ (S.out.tree _ (.head _))))).mono ?_
   rintro e TK ⟨A9, c9, rfl, h1, hb⟩
   refine ⟨_, rfl, ?_⟩
   replace S := ae.mk (S.out.res (Kd.qY (base' := 0) h1) hb)
   clear h1 hb
   refine hK.out _ _ S.out.bD (fun hHeld => ?_)
   clear hK K
   refine dO 84 ?_
   refine CV (i := 10) (j := 11) (Ni := some 85) (Nj := some 19) (bA 13 2047) (bA 13 3071) rfl rfl rfl rfl (vP ak.out (by kernel_rfl)) (by decide) (by decide) (fun K hK => ?_) (fun K hK => ?_)
   ·skip
    refine fO Tryz.func30 (by kernel_rfl) rfl #[.agg #[.int .u8 1, .int .i64 0, .int .i64 0, .int .i64 9, .int .i64 5, .int .i64 1, .slice none 0 0], .slice Ap (([] : List Int).length) cp, .agg #[.int .u8 1, .int .i64 0, .int .i64 0, .int .i64 9, .int .i64 5, .int .i64 1, .slice Az 0 cz], .int .u8 2, .slice A9 L9.length c9] (by rfl) rfl rfl (by (try simp only [List.map_toArray, List.map_cons, List.map_nil]); first | done | rfl) ?_
    refine (Sr HZ9.out (Sz 2 (.inr rfl) ⟨1, ⟨0, 0, 9, 5⟩, 1, []⟩ ⟨1, ⟨0, 0, 9, 5⟩, 1, []⟩ L9 (by decide) P5.out _ _ _ Az cz _ _ _ _ _ (d_ (S.out.tree _ gy)) (EE rY.out S.out bf).1 (d_ (S.out.tree _ (.head _))))).mono ?_
    rintro e WR ⟨JM, Kz, rfl, h1, hb⟩
    refine ⟨_, rfl, ?_⟩
    replace S := ae.mk (S.out.res h1 hb)
    clear h1 hb
    refine hK.out _ _ S.out.bD.bD (fun hHeld => ?_)
    clear hK K
    refine dO 85 ?_
    refine iH 11 (some 19) (bA 13 4095) ak (fun K hK => ?_)
    refine lU ?hg (N := 19) ?hd (cs := #[.int .u8 0, .int .i64 0, .int .i64 0, .int .i64 0, .int .i64 0, .int .i64 0, .slice none 0 0]) (t := 26) ?hr ?_; (case hd => rfl); (case hg => rfl); (case hr => first | (go_simp; done) | (go_simp; rfl))
    intro b19 hg WS hbox hb
    replace S := ae.mk (S.out.box hg hbox hb)
    clear hg hbox hb
    refine hK.out _ _ S.out.eP.bD.bD (fun hHeld => ?_)
    clear hK K
    refine dO 19 ?_
    exact oI (by simp only [kW, Act.put, List.setIfInBounds_toArray, List.set_cons_zero, List.set_cons_succ] <;> rfl) (o5 (A9, c9, JM, Kz, b19) _ S.out)
   ·skip
    refine lU ?hg (N := 19) ?hd (cs := #[.int .u8 0, .int .i64 0, .int .i64 0, .int .i64 0, .int .i64 0, .int .i64 0, .slice none 0 0]) (t := 26) ?hr ?_; (case hd => rfl); (case hg => rfl); (case hr => first | (go_simp; done) | (go_simp; rfl))
    intro b19 hg ajy hbox hb
    replace S := ae.mk (S.out.box hg hbox hb)
    clear hg hbox hb
    refine hK.out _ _ S.out.eP.bD (fun hHeld => ?_)
    clear hK K
    refine dO 19 ?_
    refine iH 10 (some 85) (bA 13 4095) ak (fun K hK => ?_)
    refine fO Tryz.func30 (by kernel_rfl) rfl #[.agg #[.int .u8 1, .int .i64 0, .int .i64 0, .int .i64 9, .int .i64 5, .int .i64 1, .slice none 0 0], .slice Ap (([] : List Int).length) cp, .agg #[.int .u8 1, .int .i64 0, .int .i64 0, .int .i64 9, .int .i64 5, .int .i64 1, .slice Az 0 cz], .int .u8 2, .slice A9 L9.length c9] (by rfl) rfl rfl (by (try simp only [List.map_toArray, List.map_cons, List.map_nil]); first | done | rfl) ?_
    refine (Sr HZ9.out (Sz 2 (.inr rfl) ⟨1, ⟨0, 0, 9, 5⟩, 1, []⟩ ⟨1, ⟨0, 0, 9, 5⟩, 1, []⟩ L9 (by decide) P5.out _ _ _ Az cz _ _ _ _ _ (d_ (S.out.tree _ gy)) (EE rY.out S.out gy).1 (d_ (S.out.tree _ (.head _))))).mono ?_
    rintro e abM ⟨JM, Kz, rfl, h1, hb⟩
    refine ⟨_, rfl, ?_⟩
    replace S := ae.mk (S.out.res h1 hb)
    clear h1 hb
    refine hK.out _ _ S.out.eP.bD.bD (fun hHeld => ?_)
    clear hK K
    refine dO 85 ?_
    exact oI (by simp only [kW, Act.put, List.setIfInBounds_toArray, List.set_cons_zero, List.set_cons_succ] <;> rfl) (o5 (A9, c9, JM, Kz, b19) _ S.out)
  ·skip
   refine lU ?hg (N := 19) ?hd (cs := #[.int .u8 0, .int .i64 0, .int .i64 0, .int .i64 0, .int .i64 0, .int .i64 0, .slice none 0 0]) (t := 26) ?hr ?_; (case hd => rfl); (case hg => rfl); (case hr => first | (go_simp; done) | (go_simp; rfl))
   intro b19 hg anG hbox hb
   replace S := ae.mk (S.out.box hg hbox hb)
   clear hg hbox hb
   refine hK.out _ _ S.out.eP (fun hHeld => ?_)
   clear hK K
   refine dO 19 ?_
   refine iH 9 (some 84) (bA 13 3071) ak (fun K hK => ?_)
   refine fO Tryz.func31 (by kernel_rfl) rfl #[.agg #[.int .u8 1, .int .i64 0, .int .i64 0, .int .i64 9, .int .i64 5, .int .i64 1, .slice Az 0 cz], .int .u8 2, .int .i64 0, .int .i64 2, .bool false] (by rfl) rfl rfl (by (try simp only [List.map_toArray, List.map_cons, List.map_nil]); first | done | rfl) ?_
   refine (U_ HTW.out (Zz ⟨1, ⟨0, 0, 9, 5⟩, 1, []⟩ 2 0 2 false J5.out H64.out _ _ _ _ (d_ (S.out.tree _ (.head _))))).mono ?_
   rintro e anH ⟨A9, c9, rfl, h1, hb⟩
   refine ⟨_, rfl, ?_⟩
   replace S := ae.mk (S.out.res (Kd.qY (base' := 0) h1) hb)
   clear h1 hb
   refine hK.out _ _ S.out.eP.bD (fun hHeld => ?_)
   clear hK K
   refine dO 84 ?_
   refine iH 10 (some 85) (bA 13 4095) ak (fun K hK => ?_)
   refine fO Tryz.func30 (by kernel_rfl) rfl #[.agg #[.int .u8 1, .int .i64 0, .int .i64 0, .int .i64 9, .int .i64 5, .int .i64 1, .slice none 0 0], .slice Ap (([] : List Int).length) cp, .agg #[.int .u8 1, .int .i64 0, .int .i64 0, .int .i64 9, .int .i64 5, .int .i64 1, .slice Az 0 cz], .int .u8 2, .slice A9 L9.length c9] (by rfl) rfl rfl (by (try simp only [List.map_toArray, List.map_cons, List.map_nil]); first | done | rfl) ?_
   refine (Sr HZ9.out (Sz 2 (.inr rfl) ⟨1, ⟨0, 0, 9, 5⟩, 1, []⟩ ⟨1, ⟨0, 0, 9, 5⟩, 1, []⟩ L9 (by decide) P5.out _ _ _ Az cz _ _ _ _ _ (d_ (S.out.tree _ gy)) (EE rY.out S.out gy).1 (d_ (S.out.tree _ (.head _))))).mono ?_
   rintro e arZ ⟨JM, Kz, rfl, h1, hb⟩
   refine ⟨_, rfl, ?_⟩
   replace S := ae.mk (S.out.res h1 hb)
   clear h1 hb
   refine hK.out _ _ S.out.eP.bD.bD (fun hHeld => ?_)
   clear hK K
   refine dO 85 ?_
   exact oI (by simp only [kW, Act.put, List.setIfInBounds_toArray, List.set_cons_zero, List.set_cons_succ] <;> rfl) (o5 (A9, c9, JM, Kz, b19) _ S.out)
 rintro ⟨A9, c9, JM, Kz, b19⟩ ar' S1
 simp only [kW, Act.put, List.setIfInBounds_toArray, List.set_cons_zero, List.set_cons_succ]
 replace S := ae.mk S1
 clear S1 hHeld
 have hHeld := S.out.eP.bD.bD
 refine sK 12 none (bA 13 8191) ak (fun K hK => ?_)
 refine vZ 0 rfl 26 (.tmp 19) (.tmp 85) rfl #[.int .u8 z9.f0, .int .i64 z9.f1.f0, .int .i64 z9.f1.f1, .int .i64 z9.f1.f2, .int .i64 z9.f1.f3, .int .i64 z9.f2, .slice JM z9.f3.length Kz] (j := 0) (u := .agg #[.int .u8 z9.f0, .int .i64 z9.f1.f0, .int .i64 z9.f1.f1, .int .i64 z9.f1.f2, .int .i64 z9.f1.f3, .int .i64 z9.f2, .slice JM z9.f3.length Kz]) (df := [.int .u8 z9.f0, .int .i64 z9.f1.f0, .int .i64 z9.f1.f1, .int .i64 z9.f1.f2, .int .i64 z9.f1.f3, .int .i64 z9.f2, .slice JM z9.f3.length Kz]) S.out (by rfl) rfl rfl rfl rfl (by kernel_rfl) (by simp [Value.oneCell']) (by first | decide | simp) rfl ?_
 intro anI S1
 simp only [List.set_cons_zero, List.set_cons_succ] at S1
 replace S := ae.mk S1
 clear S1
 refine hK.out _ _ ?_
 clear hK K
 refine lJ (jc ak.out (by kernel_rfl)) ?_
 clear hHeld
 obtain ⟨Q4, Q5, Q7, Q8, Q9, Q_, Rf⟩ := St.fF S (.head _)
 go_wp2_with (first
  | ((with_reducible refine aA (N := 87) rfl ?_); refine qQ (N := 87) rfl rfl z9 S.out (S.out.tree _ (.head _)) ?hr ?_; (case hr => first | (go_simp; done) | (go_simp; rfl)); intro ara arv ar1 S1 h1 h2; replace S := ae.mk S1; have qf := ae.mk h1; have uq := ae.mk h2; clear S1 h1 h2; clear Q4 Q5 Q7 Q8 Q9 Q_ Rf)
  | (refine cZ (some 88) Tryz.func32 S (afw z9 J6.out uq.out qf.out) ?_; clear S; intro ar2 S; obtain ⟨Q4, Q5, Q7, Q8, Q9, Q_, Rf⟩ := St.fF S (.head _); have oV := (S.out.at su 1).trans rfl; have oW := (S.out.at su 2).trans rfl)
  | (refine PI (some 98) Tryz.func16 S (aiW HSE.out (IB z9 0 0 amH.out (S.out.tree _ (.head _)))) ?_; clear S; intro As cs ar4 S; clear Q4 Q5 Q7 Q8 Q9 Q_ Rf oV oW)
  | (refine ai9 26 12 98 #[.int .u8 zB.f0, .int .i64 zB.f1.f0, .int .i64 zB.f1.f1, .int .i64 zB.f1.f2, .int .i64 zB.f1.f3, .int .i64 zB.f2, .slice As zB.f3.length cs] 0 7 S ?_; clear S; intro ar5 S)
  | fail)
 refine bodyPost_ret (eQ rfl _ _ b12 26 _ (0, 0) _ rfl (S.out.blk _ jy _ rfl) Tryz.underlying26 rfl (by kernel_rfl)) rfl ?_
 exact ⟨_, _, rfl, S.out.uI, S.out.below⟩
theorem St.join {w W W1 : World} {P : Nat → Prop} {bs : List (Option Nat × Obj)} {ts : List (Value × List ai)} {ro : List (Addr × Value)} {k : Option Nat} {o : Obj} {v : Value} {l : List ai} (S : St w P bs [] ts ro W) (T : St W (Ok w P (keys bs [])) [(k, o)] [(v, l)] [] [] W1) : St w P ((k, o) :: bs) [(v, l)] ts ro W1 := by
 have ke : ∀ x, x ∈ keys ((k, o) :: bs) [(v, l)] ↔ x ∈ keys [(k, o)] [(v, l)] ∨ x ∈ keys bs [] := fun x => by
  unfold keys
  simp only [List.filterMap_cons, List.filterMap_nil, List.flatMap_cons, List.flatMap_nil, List.append_nil]
  cases k <;> cases v.ownBlock <;> simp [or_comm, or_assoc]
 have hb : Below W.heap.size W W1 := T.below
 have hold : ∀ x, x ∈ keys bs [] → x < W.heap.size := fun x hx => S.lt hx
 have hnew : ∀ x, x ∈ keys [(k, o)] [(v, l)] → W.heap.size ≤ x := fun x hx => (T.new x hx).1
 refine ⟨au S.below hb, fun p hp g hg => ?_, fun x hx => ?_, ?_, fun t ht => ?_, fun r hr => ?_, fun c hc => ?_⟩
 ·rcases List.mem_cons.1 hp with rfl | hp
  ·exact T.blk _ List.mem_cons_self g hg
  ·exact aW (S.blk p hp g hg) hb
 ·rcases (ke x).1 hx with h | h
  ·exact ⟨Nat.le_trans S.below.size (hnew x h), (T.new x h).2⟩
  ·exact ⟨(S.new x h).1, Nat.lt_of_lt_of_le (S.new x h).2 hb.size⟩
 ·have h1 := T.nd
  have h2 := S.nd
  have e : keys ((k, o) :: bs) [(v, l)] = (k.toList ++ bs.filterMap (·.1)) ++ v.ownBlock.toList := by
   unfold keys
   simp only [List.filterMap_cons, List.flatMap_cons, List.flatMap_nil, List.append_nil]
   cases k <;> cases v.ownBlock <;> rfl
  have e1 : keys [(k, o)] [(v, l)] = k.toList ++ v.ownBlock.toList := by
   unfold keys
   simp only [List.filterMap_cons, List.filterMap_nil, List.flatMap_cons, List.flatMap_nil, List.append_nil]
   cases k <;> cases v.ownBlock <;> rfl
  have e2 : keys bs [] = bs.filterMap (·.1) := by unfold keys; simp
  rw [e1] at h1 hnew
  rw [e2] at h2 hold
  rw [e]
  obtain ⟨a1, a2, a3⟩ := List.nodup_append.1 h1
  refine List.nodup_append.2 ⟨List.nodup_append.2 ⟨a1, h2, fun x hx y hy => ?_⟩, a2, fun x hx y hy => ?_⟩
  ·rintro rfl
   have := hold x hy
   have := hnew x (List.mem_append_left _ hx)
   omega
  ·rcases List.mem_append.1 hx with hx | hx
   ·exact a3 x hx y hy
   ·rintro rfl
    have := hold x hx
    have := hnew x (List.mem_append_right _ hy)
    omega
 ·exact Kd.iw (Kd.kH (Kd.Ea (S.tree t ht)) hb) (fun x h => ⟨h.1.1, fun hk => by
   rcases (ke x).1 hk with h2 | h2
   ·have := hnew x h2; have := h.2; omega
   ·exact h.1.2 h2⟩)
 ·rw [List.mem_singleton] at hr
  subst hr
  refine Kd.iZ (Kd.vU (T.own _ (List.mem_singleton.2 rfl)) S.below.size) (fun x h => Or.imp (fun h => ⟨?_, fun hk => ?_⟩) id h)
  ·rcases h.1 with h1 | h1
   ·exact h1.1
   ·exact .inr (Nat.le_trans S.below.size h1)
  ·rcases (ke x).1 hk with h2 | h2
   ·exact h.2 h2
   ·rcases h.1 with h1 | h1
    ·exact h1.2 h2
    ·have := hold x h2; omega
 ·have hlt := World.block_lt_of_cell? W _ (S.cell c hc).1
  exact ⟨(hb.cell hlt).trans (S.cell c hc).1, fun hk => by
   rcases (ke _).1 hk with h2 | h2
   ·have := hnew _ h2; omega
   ·exact (S.cell c hc).2 h2⟩
end Go.Proofs.YtfdmfgaiblfbhaaGreat.P
namespace Go.Proofs.YtfdmfgaiblfbhaaGreat.P
open Go.RowKit Go.Proofs.ag.aU Go.Proofs.ag.bK Go.Proofs.ag.cO
attribute [local go_sem] jG kQ jR lq
def DD.T9 : Bool × List (List Nat × List Nat) := (true, [([], []), ([], []), ([], []), ([1, 2], [1, 2]), ([0, 3], [0, 3]), ([4], [4]), ([5], [5]), ([5], [5]), ([], []), ([8, 6, 4, 0, 1, 2, 3, 4, 5, 6, 8], [6, 8]), ([7, 9, 0, 1, 2, 3, 4, 5, 6, 7, 8, 9], [7])])
def DD.B9 : List Nat := [0, 0, 0, 6, 15, 31, 63, 63, 0, 383, 1023]
theorem DD.Hq : je .any (opsOf Tryz.f14 9) = DD.T9 := by kernel_rfl
theorem DD.Dn : iM DD.T9.2 DD.B9 = true := by kernel_rfl
def Ad.T10 : Bool × List (List Nat × List Nat) := (true, [([], []), ([], []), ([], []), ([1, 2], [1, 2]), ([], []), ([], []), ([4, 5], [4, 5]), ([6], [6]), ([], []), ([], []), ([8, 9], [8, 9]), ([10], [10]), ([11], [11]), ([], []), ([], []), ([13, 14], [13, 14]), ([15], [15]), ([16], [16]), ([12, 17], [12, 17]), ([0, 3, 7, 18], [0, 3, 7, 18]), ([19, 0, 1, 2, 3, 4, 5, 6, 7, 8, 9, 10, 11, 12, 13, 14, 15, 16, 17, 18, 19], [19]), ([20, 0, 1, 2, 3, 4, 5, 6, 7, 8, 9, 10, 11, 12, 13, 14, 15, 16, 17, 18, 19, 20], [])])
def Ad.B10 : List Nat := [0, 0, 0, 6, 0, 0, 48, 112, 0, 0, 768, 1792, 3840, 0, 0, 24576, 57344, 122880, 261888, 524287, 1048575, 2097151]
theorem Ad.WL : je .any (opsOf Tryz.f14 10) = Ad.T10 := by kernel_rfl
theorem Ad.Qz : iM Ad.T10.2 Ad.B10 = true := by kernel_rfl
abbrev agT (w : World) (n : Int) (e : Ending) (w' : World) : Prop := e = .returned (.tuple #[.agg #[.int .u8 0, .int .i64 0, .int .i64 0, .int .i64 0, .int .i64 0, .int .i64 0, .slice none 0 0, .slice none 0 0, .int .i64 0, .int .i64 0], .int .i64 n]) ∧ Below w.heap.size w w'
abbrev aca (w : World) (P : Nat → Prop) (p pq : List Int) (aX : ai) (k : Nat) (e : Ending) (w' : World) : Prop := ∃ Az cz Ap cp op, e = .returned (.tuple #[.agg #[.int .u8 aX.f0, .int .i64 aX.f1.f0, .int .i64 aX.f1.f1, .int .i64 aX.f1.f2, .int .i64 aX.f1.f3, .int .i64 aX.f2, .slice Az aX.f3.length cz, .slice Ap pq.length cp, .int .i64 (k : Int), .int .i64 ((ji k : Nat) : Int)], .int .i64 0]) ∧ IR w.heap.size (.slice Ap p.length cp) p op ∧ St w P [((Value.slice Ap p.length cp).ownBlock, op)] [(.slice Az aX.f3.length cz, aX.f3)] [] [] w'
theorem Iw (c : ai) (hz : sz c ≤ 1000000) (id : Int) (b : Nat) (P : Nat → Prop) (A : Option Addr) (cc : Nat) (w : World) (hv : Kd.V k26 26 w b P (.slice A c.f3.length cc) c.f3) :
  (∀ n, kP id c = n → n ≠ 0 → Calls Tryz.prog 14 #[.agg #[.int .u8 c.f0, .int .i64 c.f1.f0, .int .i64 c.f1.f1, .int .i64 c.f1.f2, .int .i64 c.f1.f3, .int .i64 c.f2, .slice A c.f3.length cc], .int .i64 id] w (agT w n)) ∧
  (∀ p pq aX k, uM id c p aX k → pq = p.take (p.length - 1) → Calls Tryz.prog 14 #[.agg #[.int .u8 c.f0, .int .i64 c.f1.f0, .int .i64 c.f1.f1, .int .i64 c.f1.f2, .int .i64 c.f1.f3, .int .i64 c.f2, .slice A c.f3.length cc], .int .i64 id] w (aca w P p pq aX k)) := by
 have S := ae.mk (St.start (ts := [(.slice A c.f3.length cc, c.f3)]) (b0 := w.heap.size) (w := w) (P := P) (fun t ht => by rw [List.mem_singleton.1 ht]; exact d_ hv))
 have FO := ae.mk (show sz c ≤ 1048576 by omega)
 have HZ := ae.mk hz
 have hpl := fun p (h : fB id c = some p) => (Rz id (sz c)).1 c (Nat.le_refl _) p h
 clear hz hv
 obtain ⟨ck, ⟨cx, cy, cw, ch⟩, aJ, l⟩ := c
 simp only [] at S ⊢
 constructor
 ·intro n hn hn0
  unfold kP at hn
  cases ht : dF ⟨ck, ⟨cx, cy, cw, ch⟩, aJ, l⟩ with
  | false =>
   rw [if_pos ht] at hn
   subst hn
   have HT := ae.mk ht
   clear ht hn0 hpl
   go_enter Tryz.func14, Tryz.ntmps14
   go_wp2_with (first | (refine boxS 2 _ 26 S ?_; clear S; intro b2 eU S) | (refine boxS 4 _ 43 S ?_; clear S; intro b4 fM S; obtain ⟨bG, bP, bQ, bY, bZ, b_, a_⟩ := St.fF S bf) | ((with_reducible refine aA (N := 12) rfl ?_); refine qQ (N := 12) rfl rfl ⟨ck, ⟨cx, cy, cw, ch⟩, aJ, l⟩ S.out (S.out.tree _ (.head _)) ?hr ?_; (case hr => (go_simp; rfl)); intro ZK aao iq S1 h1 h2; replace S := ae.mk S1; have qf := ae.mk h1; have uq := ae.mk h2; clear S1 h1 h2; clear bG bP bQ bY bZ b_ a_) | (refine cZ (some 13) Tryz.func26 S (oC HT.out (wF ⟨ck, ⟨cx, cy, cw, ch⟩, aJ, l⟩ FO.out uq.out qf.out)) ?_; clear S; intro jD S) | (refine gY 43 4 15 #[.int .u8 0, .int .i64 0, .int .i64 0, .int .i64 0, .int .i64 0, .int .i64 0, .slice none 0 0, .slice none 0 0, .int .i64 0, .int .i64 0] 0 10 S ?_; clear S; intro mQ S))
   refine bodyPost_ret (eQ rfl _ _ b4 43 _ (0, 0) _ rfl (S.out.blk _ (.head _) _ rfl) Tryz.underlying43 rfl (by kernel_rfl)) rfl ?_
   exact ⟨rfl, S.out.below⟩
  | true =>
   have HT := ae.mk ht
   rw [if_neg (by rw [ht]; simp)] at hn
   cases hf : fB id ⟨ck, ⟨cx, cy, cw, ch⟩, aJ, l⟩ with
   | none =>
    rw [hf] at hn
    simp only [] at hn
    subst hn
    have F8 := ae.mk hf
    clear ht hn0 hpl hf
    go_enter Tryz.func14, Tryz.ntmps14
    go_wp2_with (first | (refine boxS 2 _ 26 S ?_; clear S; intro b2 eU S) | (refine boxS 4 _ 43 S ?_; clear S; intro b4 fM S; obtain ⟨bG, bP, bQ, bY, bZ, b_, a_⟩ := St.fF S bf) | ((with_reducible refine aA (N := 12) rfl ?_); refine qQ (N := 12) rfl rfl ⟨ck, ⟨cx, cy, cw, ch⟩, aJ, l⟩ S.out (S.out.tree _ (.head _)) ?hr ?_; (case hr => (go_simp; rfl)); intro ZK aao iq S1 h1 h2; replace S := ae.mk S1; have qf := ae.mk h1; have uq := ae.mk h2; clear S1 h1 h2; clear bG bP bQ bY bZ b_ a_) | (refine cZ (some 13) Tryz.func26 S (oC HT.out (wF ⟨ck, ⟨cx, cy, cw, ch⟩, aJ, l⟩ FO.out uq.out qf.out)) ?_; clear S; intro jD S; obtain ⟨bG, bP, bQ, bY, bZ, b_, a_⟩ := St.fF S bf) | (refine PH (some 19) Tryz.func28 S (adC id ⟨ck, ⟨cx, cy, cw, ch⟩, aJ, l⟩ F8.out HZ.out (S.out.tree _ (.head _))) ?_; clear S; intro Ap cp op mQ S rY; clear bG bP bQ bY bZ b_ a_) | (refine qw 43 4 25 #[.int .u8 0, .int .i64 0, .int .i64 0, .int .i64 0, .int .i64 0, .int .i64 0, .slice none 0 0, .slice none 0 0, .int .i64 0, .int .i64 0] 0 10 S ?_; clear S; intro vS S))
    refine bodyPost_ret (eQ rfl _ _ b4 43 _ (0, 0) _ rfl (S.out.blk _ bf _ rfl) Tryz.underlying43 rfl (by kernel_rfl)) rfl ?_
    exact ⟨rfl, S.out.below⟩
   | some p =>
    cases p with
    | nil =>
     rw [hf] at hn
     simp only [] at hn
     subst hn
     have F8 := ae.mk hf
     clear ht hn0 hpl hf
     go_enter Tryz.func14, Tryz.ntmps14
     go_wp2_with (first | (refine boxS 2 _ 26 S ?_; clear S; intro b2 eU S) | (refine boxS 4 _ 43 S ?_; clear S; intro b4 fM S; obtain ⟨bG, bP, bQ, bY, bZ, b_, a_⟩ := St.fF S bf) | ((with_reducible refine aA (N := 12) rfl ?_); refine qQ (N := 12) rfl rfl ⟨ck, ⟨cx, cy, cw, ch⟩, aJ, l⟩ S.out (S.out.tree _ (.head _)) ?hr ?_; (case hr => (go_simp; rfl)); intro ZK aao iq S1 h1 h2; replace S := ae.mk S1; have qf := ae.mk h1; have uq := ae.mk h2; clear S1 h1 h2; clear bG bP bQ bY bZ b_ a_) | (refine cZ (some 13) Tryz.func26 S (oC HT.out (wF ⟨ck, ⟨cx, cy, cw, ch⟩, aJ, l⟩ FO.out uq.out qf.out)) ?_; clear S; intro jD S; obtain ⟨bG, bP, bQ, bY, bZ, b_, a_⟩ := St.fF S bf) | (refine PH (some 19) Tryz.func28 S (Gq id ⟨ck, ⟨cx, cy, cw, ch⟩, aJ, l⟩ [] F8.out HZ.out (S.out.tree _ (.head _))) ?_; clear S; intro Ap cp op mQ S rY; clear bG bP bQ bY bZ b_ a_) | (refine qw 43 4 30 #[.int .u8 0, .int .i64 0, .int .i64 0, .int .i64 0, .int .i64 0, .int .i64 0, .slice none 0 0, .slice none 0 0, .int .i64 0, .int .i64 0] 0 10 S ?_; clear S; intro vS S))
     refine bodyPost_ret (eQ rfl _ _ b4 43 _ (0, 0) _ rfl (S.out.blk _ bf _ rfl) Tryz.underlying43 rfl (by kernel_rfl)) rfl ?_
     exact ⟨rfl, S.out.below⟩
    | cons i q =>
     rw [hf] at hn
     exact absurd hn.symm hn0
 ·intro p pq aX k hK hpq
  have HT := ae.mk hK.sN
  have F8 := ae.mk hK.find
  have hpz := hpl p hK.find
  have hpl2 : p.length ≤ 1000000 := by have := HZ.out; omega
  obtain ⟨n, hn⟩ : ∃ n, p.length = n + 1 := ⟨p.length - 1, by have := hK.ne; omega⟩
  have HAT := ae.mk (show jX ⟨ck, ⟨cx, cy, cw, ch⟩, aJ, l⟩ pq = some aX by rw [hpq]; exact hK.at')
  have hqn : pq.length = n := by rw [hpq, List.length_take]; omega
  have hrk : rd p (n : Int) = (k : Int) := by have h := hK.rdk; rw [show p.length - 1 = n by omega] at h; exact h
  have Dc := ae.mk (show pq = p.take n ∧ n ≤ p.length from ⟨by rw [hpq, show p.length - 1 = n by omega], by omega⟩)
  have agH := ae.mk (show pq.length ≤ 1048576 by omega)
  have P6 := ae.mk (show (n : Int) < (p.length : Int) by omega)
  have HRK := ae.mk hrk
  have arD : IntKind.i64.wrap ((p.length : Int) - 1) = (n : Int) := by rw [IntKind.wrap_i64]; omega
  have hp0 : ¬ (p.length = 0) := by omega
  have hp1 : ((p.length : Int) == 0) = false := beq_eq_false_iff_ne.mpr (by omega)
  have hp2 : decide ((p.length : Int) = 0) = false := decide_eq_false (by omega)
  have hp3 : ¬ (p = []) := fun e => by rw [e] at hp0; exact hp0 rfl
  have hkl : k < 1000000 := by have h1 := hK.lt; have h2 := Eb _ _ _ hK.at'; have h3 := bJ aX; have h4 := jf aX.f3; have := HZ.out; omega
  have hk1 : IntKind.i64.wrap (rd p (n : Int) - 1) = rd p (n : Int) - 1 := by rw [IntKind.wrap_i64]; omega
  have hk2 : IntKind.i64.wrap (1 - rd p (n : Int)) = 1 - rd p (n : Int) := by rw [IntKind.wrap_i64]; omega
  have HMX := ae.mk (show mx (rd p (n : Int) - 1) (1 - rd p (n : Int)) = ((ji k : Nat) : Int) by rw [hrk]; unfold mx ji; split <;> split <;> omega)
  have HN1 := ae.mk (And.intro hn hqn)
  clear hpz hpl2 hpl hK hpq hrk hkl hn hqn
  go_enter Tryz.func14, Tryz.ntmps14
  go_wp2_with (first | (refine boxS 2 _ 26 S ?_; clear S; intro b2 eU S) | (refine boxS 4 _ 43 S ?_; clear S; intro b4 fM S; obtain ⟨bG, bP, bQ, bY, bZ, b_, a_⟩ := St.fF S bf) | ((with_reducible refine aA (N := 12) rfl ?_); refine qQ (N := 12) rfl rfl ⟨ck, ⟨cx, cy, cw, ch⟩, aJ, l⟩ S.out (S.out.tree _ (.head _)) ?hr ?_; (case hr => (go_simp; rfl)); intro ZK aao iq S1 h1 h2; replace S := ae.mk S1; have qf := ae.mk h1; have uq := ae.mk h2; clear S1 h1 h2; clear bG bP bQ bY bZ b_ a_) | (refine cZ (some 13) Tryz.func26 S (oC HT.out (wF ⟨ck, ⟨cx, cy, cw, ch⟩, aJ, l⟩ FO.out uq.out qf.out)) ?_; clear S; intro jD S; obtain ⟨bG, bP, bQ, bY, bZ, b_, a_⟩ := St.fF S bf) | (refine PH (some 19) Tryz.func28 S (Gq id ⟨ck, ⟨cx, cy, cw, ch⟩, aJ, l⟩ p F8.out HZ.out (S.out.tree _ (.head _))) ?_; clear S; intro Ap cp op mQ S rY; clear bG bP bQ bY bZ b_ a_))
  obtain ⟨IK, ek, _⟩ := Kd.ja (EE rY.out S.out (.head _)).1 (n : Int) (Int.natCast_nonneg _) P6.out
  subst ek
  have hcut : ∀ W : World, (Instr.slice 41 (.slice (some IK) p.length cp) none (some (.int .i64 (n : Int))) none).run Tryz.prog W = .ok (.slice (some IK) pq.length cp) W := by
   intro W
   obtain ⟨i0, hi0, _, hsz, _⟩ := info_parts info3
   have h := ahC (P := Tryz.prog) 41 3 .i64 Tryz.underlying41 hi0 (some IK) p.length cp (n : Int) (Int.natCast_nonneg _) (by have := P6.out; omega) (EE rY.out S.out (.head _)).2 W
   rw [Int.toNat_natCast, show n = pq.length by have := HN1.out; omega] at h
   rw [show n = pq.length by have := HN1.out; omega]
   exact h
  have hnn : n < p.length := by have := P6.out; omega
  have hn0 : (0 : Int) ≤ (n : Int) := Int.natCast_nonneg _
  have hnp : (n : Int) < (p.length : Int) := P6.out
  go_wp2
  refine jT (n := 11) (S := fun w' => St w _ _ _ _ _ w') (ds := [9]) (bA 11 0) (by kernel_rfl) rfl rfl (S.out.call (bI (Below.refl _ _))) (fun hHeld => ?_); refine gG DD.Hq DD.Dn (fun ak fC => ?_)
  replace S := ae.mk (S.out.call (bI (Below.refl _ _)))
  generalize mQ.drew = Ph at S hHeld ⊢
  refine dM 0 35 (bA 11 1) ak fC hHeld ?_ (hv := by intro w' hs_; have bG := (hs_.at gy 0).trans rfl; have bP := (hs_.at gy 1).trans rfl; have bQ := (hs_.at gy 2).trans rfl; have bY := (hs_.at gy 3).trans rfl; have bZ := (hs_.at gy 4).trans rfl; have b_ := (hs_.at gy 5).trans rfl; have a_ := (hs_.at gy 6).trans rfl; go_simp; with_reducible rfl)
  refine ay 1 36 (bA 11 3) ak ?_
  refine ay 2 37 (bA 11 7) ak ?_
  refine ay 3 38 (bA 11 15) ak ?_
  refine KQ (σ := Option Addr × Nat × Nat) 2 (bA 11 511) (fun s_ => [(39, .tuple #[.agg #[.int .u8 aX.f0, .int .i64 aX.f1.f0, .int .i64 aX.f1.f1, .int .i64 aX.f1.f2, .int .i64 aX.f1.f3, .int .i64 aX.f2, .slice s_.1 aX.f3.length s_.2.1], .bool true]), (34, .tuple #[.agg #[.int .u8 aX.f0, .int .i64 aX.f1.f0, .int .i64 aX.f1.f1, .int .i64 aX.f1.f2, .int .i64 aX.f1.f3, .int .i64 aX.f2, .slice s_.1 aX.f3.length s_.2.1], .bool true]), (40, .agg #[.int .u8 aX.f0, .int .i64 aX.f1.f0, .int .i64 aX.f1.f1, .int .i64 aX.f1.f2, .int .i64 aX.f1.f3, .int .i64 aX.f2, .slice s_.1 aX.f3.length s_.2.1]), (41, .bool true), (9, .pointer (some ⟨s_.2.2, 0, none⟩))]) (fun s_ w' => St w P [(some s_.2.2, .cells #[.int .u8 0, .int .i64 0, .int .i64 0, .int .i64 0, .int .i64 0, .int .i64 0, .slice none 0 0] 26 (0, 0)), ((Value.slice (some IK) p.length cp).ownBlock, op), (some b4, .cells #[.int .u8 0, .int .i64 0, .int .i64 0, .int .i64 0, .int .i64 0, .int .i64 0, .slice none 0 0, .slice none 0 0, .int .i64 0, .int .i64 0] 43 (0, 0)), (some b2, .cells #[.int .u8 ck, .int .i64 cx, .int .i64 cy, .int .i64 cw, .int .i64 ch, .int .i64 aJ, .slice A l.length cc] 26 (0, 0))] [(.slice s_.1 aX.f3.length s_.2.1, aX.f3)] [(.slice A l.length cc, l)] [] w') ?_ ?_
  rotate_left
  ·intro o5
   refine CV (i := 4) (j := 8) (Ni := some 39) (Nj := some 9) (bA 11 31) (bA 11 271) rfl rfl rfl rfl (vP ak.out (by kernel_rfl)) (by decide) (by decide) (fun K hK => ?_) (fun K hK => ?_)
   ·skip
    refine fO Tryz.func29 (by kernel_rfl) rfl #[.agg #[.int .u8 ck, .int .i64 cx, .int .i64 cy, .int .i64 cw, .int .i64 ch, .int .i64 aJ, .slice A l.length cc], .slice (some IK) pq.length cp] (by rfl) rfl rfl (by (try simp only [List.map_toArray, List.map_cons, List.map_nil]); rfl) ?_
    refine (Z9 ⟨ck, ⟨cx, cy, cw, ch⟩, aJ, l⟩ pq aX HAT.out agH.out HZ.out (S.out.tree _ (.head _)) (xJ rY.out S.out (.head _) Dc.out).1 (xJ rY.out S.out (.head _) Dc.out).2).mono ?_
    rintro e fM ⟨Az, cz, rfl, h1, hb⟩
    refine ⟨_, rfl, ?_⟩
    replace S := ae.mk (S.out.CO h1 hb)
    clear h1 hb
    refine hK.out _ _ S.out.free.bD (fun hHeld => ?_)
    clear hK K
    refine dO 39 ?_
    refine ay 5 34 (bA 11 63) ak ?_
    refine ay 6 40 (bA 11 127) ak ?_
    refine ay 7 41 (bA 11 255) ak ?_
    refine iH 8 (some 9) (bA 11 511) ak (fun K hK => ?_)
    refine lU ?hg (N := 9) ?hd (cs := #[.int .u8 0, .int .i64 0, .int .i64 0, .int .i64 0, .int .i64 0, .int .i64 0, .slice none 0 0]) (t := 26) ?hr ?_; (case hd => rfl); (case hg => rfl); (case hr => (go_simp; done))
    intro b9 hg iq hbox hb
    replace S := ae.mk (S.out.box hg hbox hb)
    clear hg hbox hb
    refine hK.out _ _ S.out.eP.free.bD (fun hHeld => ?_)
    clear hK K
    refine dO 9 ?_
    exact oI (by simp only [kW, Act.put, List.setIfInBounds_toArray, List.set_cons_zero, List.set_cons_succ] <;> rfl) (o5 (Az, cz, b9) _ S.out)
   ·skip
    refine lU ?hg (N := 9) ?hd (cs := #[.int .u8 0, .int .i64 0, .int .i64 0, .int .i64 0, .int .i64 0, .int .i64 0, .slice none 0 0]) (t := 26) ?hr ?_; (case hd => rfl); (case hg => rfl); (case hr => (go_simp; done))
    intro b9 hg jD hbox hb
    replace S := ae.mk (S.out.box hg hbox hb)
    clear hg hbox hb
    refine hK.out _ _ S.out.eP (fun hHeld => ?_)
    clear hK K
    refine dO 9 ?_
    refine iH 4 (some 39) (bA 11 287) ak (fun K hK => ?_)
    refine fO Tryz.func29 (by kernel_rfl) rfl #[.agg #[.int .u8 ck, .int .i64 cx, .int .i64 cy, .int .i64 cw, .int .i64 ch, .int .i64 aJ, .slice A l.length cc], .slice (some IK) pq.length cp] (by rfl) rfl rfl (by (try simp only [List.map_toArray, List.map_cons, List.map_nil]); rfl) ?_
    refine (Z9 ⟨ck, ⟨cx, cy, cw, ch⟩, aJ, l⟩ pq aX HAT.out agH.out HZ.out (S.out.tree _ (.head _)) (xJ rY.out S.out bf Dc.out).1 (xJ rY.out S.out bf Dc.out).2).mono ?_
    rintro e mQ ⟨Az, cz, rfl, h1, hb⟩
    refine ⟨_, rfl, ?_⟩
    replace S := ae.mk (S.out.CO h1 hb)
    clear h1 hb
    refine hK.out _ _ S.out.eP.free.bD (fun hHeld => ?_)
    clear hK K
    refine dO 39 ?_
    refine ay 5 34 (bA 11 319) ak ?_
    refine ay 6 40 (bA 11 383) ak ?_
    refine ay 7 41 (bA 11 511) ak ?_
    exact oI (by simp only [kW, Act.put, List.setIfInBounds_toArray, List.set_cons_zero, List.set_cons_succ] <;> rfl) (o5 (Az, cz, b9) _ S.out)
  rintro ⟨Az, cz, b9⟩ wj6 S1
  simp only [kW, Act.put, List.setIfInBounds_toArray, List.set_cons_zero, List.set_cons_succ]
  replace S := ae.mk S1
  clear S1 hHeld
  have hHeld := S.out.eP.free.bD
  refine sK 9 none (bA 11 1023) ak (fun K hK => ?_)
  refine vZ 0 rfl 26 (.tmp 9) (.tmp 40) rfl #[.int .u8 aX.f0, .int .i64 aX.f1.f0, .int .i64 aX.f1.f1, .int .i64 aX.f1.f2, .int .i64 aX.f1.f3, .int .i64 aX.f2, .slice Az aX.f3.length cz] (j := 0) (u := .agg #[.int .u8 aX.f0, .int .i64 aX.f1.f0, .int .i64 aX.f1.f1, .int .i64 aX.f1.f2, .int .i64 aX.f1.f3, .int .i64 aX.f2, .slice Az aX.f3.length cz]) (df := [.int .u8 aX.f0, .int .i64 aX.f1.f0, .int .i64 aX.f1.f1, .int .i64 aX.f1.f2, .int .i64 aX.f1.f3, .int .i64 aX.f2, .slice Az aX.f3.length cz]) S.out (by rfl) rfl rfl rfl rfl (by kernel_rfl) (by simp [Value.oneCell']) (by simp) rfl ?_
  intro xY S1
  simp only [List.set_cons_zero, List.set_cons_succ] at S1
  replace S := ae.mk S1
  clear S1
  refine hK.out _ _ ?_
  clear hK K
  refine ay 10 10 (bA 11 2047) ak ?_
  refine lJ (jc ak.out (by kernel_rfl)) ?_
  clear hHeld
  go_wp2
  refine jT (n := 22) (S := fun w' => St w _ _ _ _ _ w') (ds := [20]) (bA 22 0) (by kernel_rfl) rfl rfl (S.out.call (bI (Below.refl _ _))) (fun hHeld => ?_); refine gG Ad.WL Ad.Qz (fun ak fC => ?_)
  replace S := ae.mk (S.out.call (bI (Below.refl _ _)))
  generalize xY.drew = wd8 at S hHeld ⊢
  refine dM 0 42 (bA 22 1) ak fC hHeld ?_ (hv := by intro w' hs_; have nO := (hs_.at (.head _) 0).trans rfl; have sG := (hs_.at (.head _) 1).trans rfl; have oZ := (hs_.at (.head _) 2).trans rfl; have sH := (hs_.at (.head _) 3).trans rfl; have xm := (hs_.at (.head _) 4).trans rfl; have xn := (hs_.at (.head _) 5).trans rfl; have xq := (hs_.at (.head _) 6).trans rfl; go_simp; with_reducible rfl)
  refine ay 1 43 (bA 22 3) ak ?_
  refine ay 2 44 (bA 22 7) ak ?_
  refine ay 3 45 (bA 22 15) ak ?_
  refine ay 4 46 (bA 22 31) ak ?_
  refine ay 5 47 (bA 22 63) ak ?_
  refine ay 6 48 (bA 22 127) ak ?_
  refine dM 7 49 (bA 22 255) ak fC hHeld ?_ (hv := by intro w' hs_; have xp := xy rY.out (hs_.blk _ bf) n P6.out; go_simp; with_reducible rfl)
  refine ay 8 50 (bA 22 511) ak ?_
  refine ay 9 51 (bA 22 1023) ak ?_
  refine ay 10 52 (bA 22 2047) ak ?_
  refine dM 11 53 (bA 22 4095) ak fC hHeld ?_ (hv := by intro w' hs_; have xp := xy rY.out (hs_.blk _ bf) n P6.out; go_simp; with_reducible rfl)
  refine ay 12 54 (bA 22 8191) ak ?_
  refine ay 13 55 (bA 22 16383) ak ?_
  refine ay 14 56 (bA 22 32767) ak ?_
  refine ay 15 57 (bA 22 65535) ak ?_
  refine dM 16 58 (bA 22 131071) ak fC hHeld ?_ (hv := by intro w' hs_; have xp := xy rY.out (hs_.blk _ bf) n P6.out; go_simp; with_reducible rfl)
  refine ay 17 59 (bA 22 262143) ak ?_
  refine ay 18 60 (bA 22 524287) ak ?_
  refine ay 19 61 (bA 22 1048575) ak ?_
  refine sK 20 none (bA 22 2097151) ak (fun K hK => ?_)
  refine vZ 2 rfl 43 (.tmp 4) (.tmp 61) rfl #[.int .u8 aX.f0, .int .i64 aX.f1.f0, .int .i64 aX.f1.f1, .int .i64 aX.f1.f2, .int .i64 aX.f1.f3, .int .i64 aX.f2, .slice Az aX.f3.length cz, .slice (some IK) pq.length cp, .int .i64 (rd p (n : Int)), .int .i64 (mx (rd p (n : Int) - 1) (1 - rd p (n : Int)))] (j := 0) (u := .agg #[.int .u8 aX.f0, .int .i64 aX.f1.f0, .int .i64 aX.f1.f1, .int .i64 aX.f1.f2, .int .i64 aX.f1.f3, .int .i64 aX.f2, .slice Az aX.f3.length cz, .slice (some IK) pq.length cp, .int .i64 (rd p (n : Int)), .int .i64 (mx (rd p (n : Int) - 1) (1 - rd p (n : Int)))]) (df := [.int .u8 aX.f0, .int .i64 aX.f1.f0, .int .i64 aX.f1.f1, .int .i64 aX.f1.f2, .int .i64 aX.f1.f3, .int .i64 aX.f2, .slice Az aX.f3.length cz, .slice (some IK) pq.length cp, .int .i64 (rd p (n : Int)), .int .i64 (mx (rd p (n : Int) - 1) (1 - rd p (n : Int)))]) S.out (by rfl) rfl rfl rfl rfl (by kernel_rfl) (by simp [Value.oneCell']) (by simp) rfl ?_
  intro FZ S1
  simp only [List.set_cons_zero, List.set_cons_succ] at S1
  replace S := ae.mk S1
  clear S1
  refine hK.out _ _ ?_
  clear hK K
  refine ay 21 5 (bA 22 4194303) ak ?_
  refine lJ (jc ak.out (by kernel_rfl)) ?_
  clear hHeld
  go_wp2
  all_goals
   refine bodyPost_ret (eQ rfl _ _ b4 43 _ (0, 0) _ rfl (S.out.blk _ gy _ rfl) Tryz.underlying43 rfl (by kernel_rfl)) rfl ?_
   exact ⟨_, _, _, _, _, (by rw [HMX.out, HRK.out]; rfl), rY.out, S.out.eP.wK.eP.wK.eP.bD⟩
end Go.Proofs.YtfdmfgaiblfbhaaGreat.P
namespace Go.Proofs.YtfdmfgaiblfbhaaGreat.P
open Go.RowKit Go.Proofs.ag.aU Go.Proofs.ag.bK Go.Proofs.ag.cO
theorem ac9 {α : Type} {d : Kd α} {e base : Nat} {ok : Nat → Prop} {W w1 : World} {v v1 : Value} {xs : List α} {rows : List (List Value)} (h0 : ∀ k, v.ownBlock = some k → ok k) (hl : rows.length = xs.length)
  (hf : ∀ (j : Nat) (x : α) (c : List Value), xs[j]? = some x → rows[j]? = some c → Kd.FK d W (fun k => ok k ∧ some k ≠ v.ownBlock) x c) (hfresh : ∀ k, W.heap.size ≤ k → ok k)
  (hR : (Kd.raw d.sz).R e w1 base (fun _ => True) v1 rows) (hg : W.grownBy w1 v.ownBlock) (hat : v1.ownBlock = v.ownBlock ∨ ∃ b, v1.ownBlock = some b ∧ W.heap.size ≤ b) : Kd.N d e w1 base ok v1 xs := by
 have h := Kd.EG (d := d) (ys := ([] : List α)) (news := []) (gz := fun _ => False) h0 hl hf rfl (fun j x c hx => by simp at hx) (fun _ h => h.elim) hfresh (by rw [List.append_nil]; exact hR) hg hat
 rwa [List.append_nil] at h
theorem Zx {α β : Type} {xs ys : List α} {rows news : List β} {i j : Nat} {Rr : α → β → Prop} (hl : rows.length = xs.length) (hl2 : news.length = ys.length)
  (h1 : ∀ (k : Nat) (x : α) (c : β), xs[k]? = some x → rows[k]? = some c → Rr x c) (h2 : ∀ (k : Nat) (x : α) (c : β), ys[k]? = some x → news[k]? = some c → Rr x c) :
  (rows.take i ++ news ++ rows.drop j).length = (xs.take i ++ ys ++ xs.drop j).length ∧ ∀ (k : Nat) (x : α) (c : β), (xs.take i ++ ys ++ xs.drop j)[k]? = some x → (rows.take i ++ news ++ rows.drop j)[k]? = some c → Rr x c := by
 obtain ⟨P, rfl, rfl⟩ : ∃ P : List (α × β), xs = P.map Prod.fst ∧ rows = P.map Prod.snd := ⟨xs.zip rows, (List.map_fst_zip (by omega)).symm, (List.map_snd_zip (by omega)).symm⟩
 obtain ⟨Q, rfl, rfl⟩ : ∃ Q : List (α × β), ys = Q.map Prod.fst ∧ news = Q.map Prod.snd := ⟨ys.zip news, (List.map_fst_zip (by omega)).symm, (List.map_snd_zip (by omega)).symm⟩
 simp only [← List.map_take, ← List.map_drop, ← List.map_append, List.length_map, List.getElem?_map, true_and]
 have m1 : ∀ p, p ∈ P → Rr p.1 p.2 := by
  intro p hp
  obtain ⟨k, hk⟩ := List.getElem?_of_mem hp
  exact h1 k _ _ (by rw [List.getElem?_map, hk]; rfl) (by rw [List.getElem?_map, hk]; rfl)
 have m2 : ∀ p, p ∈ Q → Rr p.1 p.2 := by
  intro p hp
  obtain ⟨k, hk⟩ := List.getElem?_of_mem hp
  exact h2 k _ _ (by rw [List.getElem?_map, hk]; rfl) (by rw [List.getElem?_map, hk]; rfl)
 intro k x c hx hc
 cases hq : (P.take i ++ Q ++ P.drop j)[k]? with
 | none => rw [hq] at hx; cases hx
 | some p =>
  rw [hq] at hx hc
  simp only [Option.map_some, Option.some.injEq] at hx hc
  subst hx hc
  have hm := List.mem_of_getElem? hq
  rcases List.mem_append.1 hm with hm | hm
  ·rcases List.mem_append.1 hm with hm | hm
   ·exact m1 p (List.mem_of_mem_take hm)
   ·exact m2 p hm
  ·exact m1 p (List.mem_of_mem_drop hm)
theorem abv {rows : List (List Value)} {cs : List Value} (h : dC (fun (x : List Value) (c : List Value) => c = x ∧ c.length = 7 ∧ ∀ u ∈ c, u.oneCell' = true) 7 rows cs) : ∀ u ∈ cs, u.oneCell' = true := by
 intro u hu
 obtain ⟨k, hk⟩ := List.getElem?_of_mem hu
 have hkl := (List.getElem?_eq_some_iff.1 hk).1
 rw [h.1] at hkl
 have hq : k / 7 < rows.length := by omega
 obtain ⟨_, _, h3⟩ := h.2 (k / 7) _ (List.getElem?_eq_getElem hq)
 refine h3 u ?_
 refine List.mem_of_getElem? (i := k % 7) ?_
 rw [List.getElem?_take, if_pos (by omega), List.getElem?_drop, show k / 7 * 7 + k % 7 = k by omega]
 exact hk
theorem VF {w W W1 : World} {g : Nat} (hb : Below w.heap.size w W) (hg : W.grownBy W1 (some g)) (hg0 : w.heap.size ≤ g) : Below w.heap.size w W1 :=
 ⟨hg.os.trans hb.os, hg.tape.trans hb.tape, hg.output.trans hb.output, Nat.le_trans hb.size hg.size, fun k hk => (hg.block k (Nat.lt_of_lt_of_le hk hb.size) (fun e => by injection e with e; omega)).trans (hb.block k hk)⟩
theorem Pm {P : Program} (w : World) (t ty e : TypeId) (i : TypeInfo) (z : Value) (g o c : Nat) (cur : Array Value) (tt : TypeId) (zl : List Value) (hu : P.underlying t = some (.slice e)) (hi : P.info? e = some i) (hz : i.zero = some z) (hzl : (Builtin.zeroCells z.cells 1).toList = zl)
  (hg : w.heap[g]? = some (.cells cur tt (0, 0))) (hfit : o + zl.length ≤ cur.size) (h1 : ∀ v ∈ zl, v.oneCell' = true) :
  (Builtin.clear_ #[t] ty #[.slice (some ⟨g, o, none⟩) 1 c]).run P w = .ok (.tuple #[]) (w.setRow g (cur.toList.take o ++ zl ++ cur.toList.drop (o + zl.length)).toArray) := by
 have hst := run_storeCells_at P g o tt zl 0 cur w hg (by simpa using hfit) h1
 simp only [Nat.add_zero] at hst
 simp [Builtin.clear_, run_underlying hu, zeroValue, typeInfo, hi, hz, hzl, hst]
theorem XN {cur inner zl : List Value} {a b c : Nat} (hin : cur.take c = inner) (hc : inner.length = c) (hab : b = a + 7) (hb : b ≤ c) (hcl : c ≤ cur.length) (hz : zl.length = 7) :
  ((cur.take a ++ inner.drop b ++ cur.drop (a + (inner.drop b).length)).take (c - 7) ++ zl ++ (cur.take a ++ inner.drop b ++ cur.drop (a + (inner.drop b).length)).drop (c - 7 + zl.length)).take (c - 7) = inner.take a ++ inner.drop b := by
 have e2 : (inner.drop b).length = c - b := by rw [List.length_drop, hc]
 have e5 : (cur.take a).length = a := by rw [List.length_take]; omega
 have e1 : (cur.take a ++ inner.drop b ++ cur.drop (a + (inner.drop b).length)).take (c - 7) = cur.take a ++ inner.drop b := by
  rw [List.take_append_of_le_length (by rw [List.length_append, e5, e2]; omega)]
  exact List.take_of_length_le (by rw [List.length_append, e5, e2]; omega)
 rw [e1, List.append_assoc, List.take_append_of_le_length (by rw [List.length_append, e5, e2]; omega)]
 rw [List.take_of_length_le (by rw [List.length_append, e5, e2]; omega), ← hin, List.take_take, Nat.min_eq_left (by omega)]
theorem aav {Pr : Program} {W : World} {base g n cap i : Nat} {ok : Nat → Prop} {xs : List ai} {z : Value} {zl : List Value} (inf : TypeInfo) (hu : Pr.underlying 24 = some (.slice 26)) (hi : Pr.info? 26 = some inf) (hs : inf.size = 7) (hz : inf.zero = some z) (hzl : (Builtin.zeroCells z.cells 1).toList = zl) (hzn : zl.length = 7) (hz1 : ∀ v ∈ zl, v.oneCell' = true)
  (HN : Kd.N k26 26 W base ok (.slice (some ⟨g, 0, none⟩) n cap) xs) (hfresh : ∀ k, W.heap.size ≤ k → ok k) (hin0 : i < n) :
  ∃ nY uh : Array Value,
   (∀ ty (a : Addr) sCap, (i + 1 < n → a = ⟨g, (i + 1) * 7, none⟩) → (Builtin.append_ #[24, 24] ty #[.slice (some ⟨g, 0, none⟩) i cap, .slice (some a) (n - (i + 1)) sCap]).run Pr W = .ok (.slice (some ⟨g, 0, none⟩) (n - 1) cap) (W.setRow g nY)) ∧
   (∀ ty cc (V : World), V.heap = (W.setRow g nY).heap → (Builtin.clear_ #[24] ty #[.slice (some ⟨g, (n - 1) * 7, none⟩) 1 cc]).run Pr V = .ok (.tuple #[]) (V.setRow g uh)) ∧
   (∀ V : World, V.heap = (W.setRow g nY).heap → V.os = W.os → V.tape = W.tape → V.output = W.output → W.grownBy (V.setRow g uh) (some g) ∧ Kd.N k26 26 (V.setRow g uh) base ok (.slice (some ⟨g, 0, none⟩) (n - 1) cap) (rV xs i)) := by
 obtain ⟨h0, rows, hl, ⟨_, inner, ho, hr⟩, hf⟩ := HN
 have hg0 : base ≤ g ∧ ∃ cur, W.heap[g]? = some (.cells cur 26 (0, 0)) ∧ n ≤ cap ∧ cap ≤ maxLen ∧ cur.size = cap * 7 ∧ cur.toList.take (n * 7) = inner ∧ n = rows.length := by
  rcases ho.2 with ⟨hv, _⟩ | ⟨g', cap', cur, hv, hb, hh, h1, h2, h3, h4⟩
  ·cases hv
  ·injection hv with hv1 hv2 hv3
   injection hv1 with hv1
   injection hv1 with hv1
   subst hv1 hv2 hv3
   exact ⟨hb, cur, hh, h1, h2, h3, h4, rfl⟩
 obtain ⟨hbg, cur, Jq, hnc, hcm, hcs, hin, hnr⟩ := hg0
 have hil : inner.length = n * 7 := by rw [hr.1, hnr]; rfl
 have hr' : dC (fun (x : List Value) (c : List Value) => c = x ∧ c.length = 7 ∧ ∀ u ∈ c, u.oneCell' = true) 7 rows inner := hr
 have hrd := Kd.Zf (m := i + 1) hr'
 have hdl : (inner.drop ((i + 1) * 7)).length = (n - (i + 1)) * 7 := by rw [List.length_drop, hil]; omega
 obtain ⟨nY, VS⟩ : ∃ q, q = (cur.toList.take (i * 7) ++ inner.drop ((i + 1) * 7) ++ cur.toList.drop (i * 7 + (inner.drop ((i + 1) * 7)).length)).toArray := ⟨_, rfl⟩
 have hV0 : (W.setRow g nY).heap[g]? = some (.cells nY 26 (0, 0)) := setRow_heap W g cur nY 26 (0, 0) Jq
 have hsz1 : nY.size = cap * 7 := by
  rw [VS, List.size_toArray]
  simp only [List.length_append, List.length_take, List.length_drop, Array.length_toList, hil, hcs]
  omega
 obtain ⟨uh, VT⟩ : ∃ q, q = (nY.toList.take ((n - 1) * 7) ++ zl ++ nY.toList.drop ((n - 1) * 7 + zl.length)).toArray := ⟨_, rfl⟩
 have hsz2 : uh.size = cap * 7 := by
  rw [VT, List.size_toArray]
  simp only [List.length_append, List.length_take, List.length_drop, Array.length_toList, hzn, hsz1]
  omega
 refine ⟨nY, uh, fun ty a sCap ha => ?_, fun ty cc V hV => ?_, fun V hV h1 h2 h3 => ?_⟩
 ·have h := run_append_room (P := Pr) W 24 ty 26 inf hu hi g i cap cur Jq a (n - (i + 1)) sCap (inner.drop ((i + 1) * 7)) (by rw [hs]; exact hdl) (fun q u hq => by
    have IM := (List.getElem?_eq_some_iff.1 hq).1
    rw [ha (by omega), Kq, cell_of_row W g _ cur 26 (0, 0) Jq]
    rw [List.getElem?_drop, ← hin, List.getElem?_take] at hq
    split at hq
    ·simpa using hq
    ·cases hq) (abv hrd) (by omega) (by rw [hs, hdl, hcs]; omega)
  rw [hs, ← VS, show i + (n - (i + 1)) = n - 1 by omega] at h
  exact h
 ·have hVg : V.heap[g]? = some (.cells nY 26 (0, 0)) := by rw [hV]; exact hV0
  have h := Pm (P := Pr) V 24 ty 26 inf z g ((n - 1) * 7) cc nY 26 zl hu hi hz hzl hVg (by rw [hzn, hsz1]; omega) hz1
  rw [h, ← VT]
 ·have hVs : (V.setRow g uh).heap.size = W.heap.size := by rw [setRow_size, hV, setRow_size]
  have hVo : ∀ k, k ≠ g → (V.setRow g uh).heap[k]? = W.heap[k]? := fun k hk => by rw [setRow_other V g k uh hk, hV, setRow_other W g k nY hk]
  have hVg : V.heap[g]? = some (.cells nY 26 (0, 0)) := by rw [hV]; exact hV0
  have gb2 : W.grownBy (V.setRow g uh) (some g) := ⟨h1, h2, h3, by rw [hVs]; exact Nat.le_refl _, fun k _ hk => hVo k (fun e => hk (by rw [e]))⟩
  have hob : ∀ q : Nat, (Value.slice (some ⟨g, 0, none⟩) q cap).ownBlock = some g := fun _ => rfl
  refine ⟨gb2, ?_⟩
  have tg := Zx (i := i) (j := i + 1) (ys := ([] : List ai)) (news := ([] : List (List Value))) (Rr := fun x c => Kd.FK k26 W (fun k => ok k ∧ some k ≠ (Value.slice (some ⟨g, 0, none⟩) n cap).ownBlock) x c) hl rfl hf (fun k y c hy hc => by simp at hy)
  rw [List.append_nil, List.append_nil] at tg
  refine ac9 (v := .slice (some ⟨g, 0, none⟩) n cap) (rows := rows.take i ++ rows.drop (i + 1)) h0 tg.1 tg.2 hfresh ⟨fun _ _ => trivial, inner.take (i * 7) ++ inner.drop ((i + 1) * 7), ?_, ?_⟩ (by rw [hob]; exact gb2) (.inl rfl)
  ·have hrl : (rows.take i ++ rows.drop (i + 1)).length = n - 1 := by rw [List.length_append, List.length_take, List.length_drop, ← hnr]; omega
   rw [hrl]
   refine ⟨?_, .inr ⟨g, cap, uh, rfl, hbg, setRow_heap V g nY uh 26 (0, 0) hVg, by omega, hcm, hsz2, ?_⟩⟩
   ·show _ = (n - 1) * 7
    rw [List.length_append, List.length_take, hdl, hil]
    omega
   ·show uh.toList.take ((n - 1) * 7) = _
    have h := XN (cur := cur.toList) (inner := inner) (zl := zl) (a := i * 7) (b := (i + 1) * 7) (c := n * 7) hin hil (by omega) (by omega) (by rw [Array.length_toList, hcs]; omega) hzn
    rw [VT, VS]
    simp only [List.toList_toArray]
    rw [show (n - 1) * 7 = n * 7 - 7 by omega]
    exact h
  ·exact Kd.DR (Kd.O3 hr' (by omega)) hrd
section
variable {Pr : Program} {w W : World} {P : Nat → Prop} {bs : List (Option Nat × Obj)} {ts : List (Value × List ai)} {ro : List (Addr × Value)} {gr n cap i : Nat} {xs : List ai}
theorem St.del {z : Value} {zl : List Value} (inf : TypeInfo) (hu : Pr.underlying 24 = some (.slice 26)) (hi : Pr.info? 26 = some inf) (hs : inf.size = 7) (hz : inf.zero = some z) (hzl : (Builtin.zeroCells z.cells 1).toList = zl) (hzn : zl.length = 7) (hz1 : ∀ v ∈ zl, v.oneCell' = true)
  (S : St w P bs [(.slice (some ⟨gr, 0, none⟩) n cap, xs)] ts ro W) (hin : i < n) :
  ∃ nY uh : Array Value,
   (∀ ty (a : Addr) sCap, (i + 1 < n → a = ⟨gr, (i + 1) * 7, none⟩) → (Builtin.append_ #[24, 24] ty #[.slice (some ⟨gr, 0, none⟩) i cap, .slice (some a) (n - (i + 1)) sCap]).run Pr W = .ok (.slice (some ⟨gr, 0, none⟩) (n - 1) cap) (W.setRow gr nY)) ∧
   (∀ ty cc (V : World), V.heap = (W.setRow gr nY).heap → (Builtin.clear_ #[24] ty #[.slice (some ⟨gr, (n - 1) * 7, none⟩) 1 cc]).run Pr V = .ok (.tuple #[]) (V.setRow gr uh)) ∧
   (∀ V : World, V.heap = (W.setRow gr nY).heap → V.os = W.os → V.tape = W.tape → V.output = W.output → St w P bs [(.slice (some ⟨gr, 0, none⟩) (n - 1) cap, rV xs i)] ts ro (V.setRow gr uh)) := by
 have hN := S.Wi
 obtain ⟨nY, uh, h1, h2, h3⟩ := aav (i := i) inf hu hi hs hz hzl hzn hz1 hN
  (fun k h => ⟨.inr (Nat.le_trans S.below.size h), fun h2 => by have := S.lt ((jm (v := .slice (some ⟨gr, 0, none⟩) n cap) (l := xs)).2 (.inl h2)); omega⟩) hin
 refine ⟨nY, uh, h1, h2, fun V a1 a2 a3 a4 => ?_⟩
 obtain ⟨g1, g2⟩ := h3 V a1 a2 a3 a4
 exact S.Ze (VF S.below g1 (Kd.uY hN gr rfl)) g1 (.inl rfl) g2
end
theorem agS {W : World} {base g n cap : Nat} {ok : Nat → Prop} {xs : List ai} (HN : Kd.N k26 26 W base ok (.slice (some ⟨g, 0, none⟩) n cap) xs) : ∃ cur : Array Value, W.heap[g]? = some (.cells cur 26 (0, 0)) ∧ n ≤ cap ∧ cap ≤ maxLen ∧ cur.size = cap * 7 := by
 obtain ⟨h0, rows, hl, ⟨_, inner, ho, hr⟩, hf⟩ := HN
 rcases ho.2 with ⟨hv, _⟩ | ⟨g', cap', cur, hv, hb, hh, h1, h2, h3, h4⟩
 ·cases hv
 ·injection hv with hv1 hv2 hv3
  injection hv1 with hv1
  injection hv1 with hv1
  subst hv1 hv2 hv3
  exact ⟨cur, hh, h1, h2, h3⟩
theorem CS {P : Program} {ops : Array Oper} {o : Oper} {a : Act} {w : World} {K : Act → World → Prop} {Q : Exit → Act → World → Prop} {E : Prop}
  (hg : o.guard = none) (d x : Operand) (dT sT : TypeId) (hop : o.op = Op.call { callee := Callee.builtin Builtin.append, args := #[d, x], argTypes := #[dT, sT] })
  (v u : Value) (hd : a.eval d = v) (hx : a.eval x = u) {v' : Value} {w' : World} (hr : (Builtin.append_ #[dT, sT] o.type #[v, u]).run P w = .ok v' w') (hK : K (a.put o.dst v') w') :
  if Region.wanted o (yielded ops a.tmps) = true then Oper.wp P o a w K Q else E := by
 have hw : Region.wanted o (yielded ops a.tmps) = true := by simp [Region.wanted, hg]
 rw [if_pos hw]
 unfold Oper.wp
 simp [execOp, hop, resolve, invoke, builtin, hd, hx, hr, Result.andThen]
 exact hK
def acX : List Value := [.int .u8 0, .int .i64 0, .int .i64 0, .int .i64 0, .int .i64 0, .int .i64 0, .slice none 0 0]
theorem ak0 {w W : World} {P : Nat → Prop} {bs : List (Option Nat × Obj)} {ts : List (Value × List ai)} {ro : List (Addr × Value)} {gr cap k m : Nat} {l : List ai} (hk : k ≤ m) (h1m : 1 ≤ m) (hl : m ≤ 900000)
  (S0 : St w P bs [(.slice (some ⟨gr, 0, none⟩) (m + 1) cap, l)] ts ro W) :
  Calls Tryz.prog 18 #[.slice (some ⟨gr, 0, none⟩) (m + 1) cap, .int .i64 (k : Int), .int .i64 ((k : Int) + 1)] W fun e w' => e = .returned (.slice (some ⟨gr, 0, none⟩) m cap) ∧ St w P bs [(.slice (some ⟨gr, 0, none⟩) m cap, rV l k)] ts ro w' := by
 obtain ⟨cr, _, hcap, hmx, _⟩ := agS S0.Wi
 have hmx : cap ≤ 9223372036854775807 := hmx
 obtain ⟨inf, aiw, h1, h2, h3⟩ := info_parts info26
 obtain ⟨nY, uh, ha, hc, hd⟩ := (S0.call (W1 := W.drew) (bI (Below.refl _ _))).del (i := k) (zl := acX) inf Tryz.underlying24 aiw h2 h1 (by kernel_rfl) rfl (by unfold acX; simp [Value.oneCell']) (by omega)
 rw [show m + 1 - 1 = m by omega] at ha hc hd
 rw [show m + 1 - (k + 1) = m - k by omega] at ha
 have HA := ae.mk ha
 have HC := ae.mk hc
 have HD := ae.mk hd
 clear ha hc hd S0 h1 h2 h3 aiw
 have b1 : (0 : Int) ≤ (k : Int) := by omega
 have b2 : ((k : Int) == (k : Int) + 1) = false := beq_eq_false_iff_ne.mpr (by omega)
 have b3 : (k : Int) ≤ (k : Int) + 1 := by omega
 have b4 : (k : Int) + 1 ≤ (m : Int) + 1 := by omega
 have b5 : (m : Int) + 1 ≤ (cap : Int) := by omega
 have b6 : (0 : Int) ≤ (k : Int) + 1 := by omega
 have b7 : (k : Int) ≤ (cap : Int) := by omega
 have b8 : ¬ (m + 1 = k) := by omega
 have b9 : (0 : Int) ≤ (m : Int) := by omega
 have b10 : (m : Int) ≤ (m : Int) + 1 := by omega
 have b11 : ¬ (cap = m) := by omega
 have b12 : ¬ (cap = k) := by omega
 have b13 : (k : Int) ≤ (m : Int) + 1 := by omega
 have mixed : Tryz.prog.follows Departure.mixedOrders = true := by kernel_rfl
 by_cases hck : cap = k + 1
 ·have wZ : k = m := by omega
  subst wZ
  subst hck
  have ha := fun ty sCap => HA.out ty ⟨gr, 0, none⟩ sCap (by omega)
  rw [Nat.sub_self] at ha
  go_enter Tryz.func18, Tryz.ntmps18
  go_wp2
  go_region_law_o (refine CS rfl _ _ 24 24 rfl _ _ (by simp [Act.eval, Act.put]) (by simp [Act.eval, Act.put]) (ha _ 0) ?_)
  all_goals
   have hc := fun ty cc => HC.out ty cc (W.drew.setRow gr nY) rfl
   go_wp2
   (try rw [hc])
   go_wp2
   go_ret
   exact ⟨rfl, HD.out (W.drew.setRow gr nY) rfl rfl rfl rfl⟩
 ·have ha := fun ty sCap => HA.out ty ⟨gr, (k + 1) * 7, none⟩ sCap (fun _ => rfl)
  go_enter Tryz.func18, Tryz.ntmps18
  go_wp2
  go_region_law_o (refine CS rfl _ _ 24 24 rfl _ _ (by simp [Act.eval, Act.put]) (by simp [Act.eval, Act.put]) (ha _ (cap - (k + 1))) ?_)
  all_goals
   have hc := fun ty cc => HC.out ty cc (W.drew.setRow gr nY) rfl
   go_wp2
   (try rw [hc])
   go_wp2
   go_ret
   exact ⟨rfl, HD.out (W.drew.setRow gr nY) rfl rfl rfl rfl⟩
abbrev ZT (w : World) (P : Nat → Prop) : Option ai → Ending → World → Prop
 | none, e, w' => e = .returned (.tuple #[.agg #[.int .u8 0, .int .i64 0, .int .i64 0, .int .i64 0, .int .i64 0, .int .i64 0, .slice none 0 0], .bool false]) ∧ Below w.heap.size w w'
 | some z, e, w' => ∃ A c, e = .returned (.tuple #[.agg #[.int .u8 z.f0, .int .i64 z.f1.f0, .int .i64 z.f1.f1, .int .i64 z.f1.f2, .int .i64 z.f1.f3, .int .i64 z.f2, .slice A z.f3.length c], .bool true]) ∧ Kd.V k26 26 w' w.heap.size (fun k => P k ∨ w.heap.size ≤ k) (.slice A z.f3.length c) z.f3 ∧ Below w.heap.size w w'
theorem V8 {c : ai} {L : List ai} {P : Nat → Prop} {A : Option Addr} {cc : Nat} {W : World} (h : gX c = L) (hz : sz c ≤ 1048576) (hV : Kd.V k26 26 W W.heap.size P (.slice A c.f3.length cc) c.f3) :
  Calls Tryz.prog 38 #[.agg #[.int .u8 c.f0, .int .i64 c.f1.f0, .int .i64 c.f1.f1, .int .i64 c.f1.f2, .int .i64 c.f1.f3, .int .i64 c.f2, .slice A c.f3.length cc]] W fun e w' => ∃ A' c', e = .returned (.slice A' L.length c') ∧ Kd.N k26 26 w' W.heap.size (fun k => P k ∨ W.heap.size ≤ k) (.slice A' L.length c') L ∧ Below W.heap.size W w' := by
 obtain ⟨k, hk⟩ := (GH c hz).rounds
 rw [h] at hk
 exact (dL.calls k _ _ _ _ _ _ P A cc c.f3 L W hV hk).mono (fun e w' ⟨v, he, hN, hB⟩ => by
  obtain ⟨A', c', rfl⟩ := Kd.jO hN
  exact ⟨A', c', he, hN, hB⟩)
theorem MK (id : Int) (c : ai) (hz : sz c ≤ 1048576) (P : Nat → Prop) (A : Option Addr) (cc : Nat) (w : World) (hv : Kd.V k26 26 w w.heap.size P (.slice A c.f3.length cc) c.f3) :
  Calls Tryz.prog 21 #[.agg #[.int .u8 c.f0, .int .i64 c.f1.f0, .int .i64 c.f1.f1, .int .i64 c.f1.f2, .int .i64 c.f1.f3, .int .i64 c.f2, .slice A c.f3.length cc], .int .i64 id] w (ZT w P (zi id c)) := by
 have S := ae.mk (St.start (ts := [(.slice A c.f3.length cc, c.f3)]) (b0 := w.heap.size) (w := w) (P := P) (fun t ht => by rw [List.mem_singleton.1 ht]; exact hv))
 obtain ⟨L, hL⟩ : ∃ L, gX c = L := ⟨_, rfl⟩
 have hll := KY c
 unfold zi
 rw [hL] at hll ⊢
 obtain ⟨R, hR⟩ : ∃ r, (L.find? fun x => decide (x.f2 = id)) = r := ⟨_, rfl⟩
 rw [hR]
 have HZ := ae.mk hz
 have HLV := ae.mk hL
 have gZ := ae.mk (show L.length ≤ 1048576 by omega)
 have HR := ae.mk (show ((L.drop 0).find? fun x => decide (x.f2 = id)) = R from hR)
 clear hz hv hL hll hR
 obtain ⟨ck, ⟨cx, cy, cw, ch⟩, aJ, l⟩ := c
 simp only [] at S ⊢
 go_enter Tryz.func21, Tryz.ntmps21
 go_wp2_with (first
  | (refine boxS 2 _ 26 S ?_; clear S; intro b2 eU S)
  | (refine boxS 4 _ 26 S ?_; clear S; intro b4 fM S; obtain ⟨bG, bP, bQ, bY, bZ, b_, a_⟩ := St.fF S bf)
  | (refine uO (some 9) Tryz.func38 S (V8 (c := ⟨ck, ⟨cx, cy, cw, ch⟩, aJ, l⟩) HLV.out HZ.out (d_ (S.out.tree _ (.head _)))) ?_; clear S; intro Al cl iq S; clear bG bP bQ bY bZ b_ a_)
  | fail)
 go_loopg [12] L.length (fun gg v12 wr => ∃ n : Nat, v12 = .int .i64 (n : Int) ∧ ae (n ≤ L.length) ∧ L.length - n ≤ gg ∧ ae (((L.drop n).find? fun x => decide (x.f2 = id)) = R) ∧ ae (St w P [(some b4, .cells #[.int .u8 0, .int .i64 0, .int .i64 0, .int .i64 0, .int .i64 0, .int .i64 0, .slice none 0 0] 26 (0, 0)), (some b2, .cells #[.int .u8 ck, .int .i64 cx, .int .i64 cy, .int .i64 cw, .int .i64 ch, .int .i64 aJ, .slice A l.length cc] 26 (0, 0))] [] [(.slice Al L.length cl, L), (.slice A l.length cc, l)] [] wr))
 case atStart => exact ⟨0, rfl, ⟨Nat.zero_le _⟩, Nat.le_refl _, HR, S⟩
 case round =>
  clear S HR
  obtain ⟨n, rfl, HN, hgg, HR, S⟩ := hrel
  by_cases hlt : n < L.length
  case pos =>
   have HIX := ae.mk hlt
   have hlz : (n : Int) < (L.length : Int) := by omega
   have jl := ae.mk hgg
   have hw : wrap64 ((n : Int) + 1) = ((n + 1 : Nat) : Int) := by have := gZ.out; unfold wrap64; omega
   have HW := ae.mk hw
   have hdr : L.drop n = kd L n :: L.drop (n + 1) := by
    rw [List.drop_eq_getElem_cons hlt]
    unfold kd
    rw [List.getD_eq_getElem?_getD, List.getElem?_eq_getElem hlt, Option.getD_some]
   have hr := HR.out
   rw [hdr, List.find?_cons] at hr
   obtain ⟨ed, ua, uc, ek, S1⟩ := S.out.elem (.head _) (n : Int) (Int.natCast_nonneg _) hlz
   subst ek
   rw [xu] at S1
   simp only [Int.toNat_natCast] at S1
   generalize kd L n = k at S1 hr
   replace S := ae.mk S1
   clear S1 hw hgg hdr
   by_cases hid : k.f2 = id
   case pos =>
    rw [decide_eq_true hid] at hr
    simp only [] at hr
    subst hr
    obtain ⟨anh, ani, anj⟩ := yB (a := k.f2) (b := id) (by omega)
    clear hid HR
    obtain ⟨iP, iQ, iR, iC, iD, jk, jE⟩ := St.yA S
    go_wp2_with (first
     | (refine gY 26 4 25 #[.int .u8 k.f0, .int .i64 k.f1.f0, .int .i64 k.f1.f1, .int .i64 k.f1.f2, .int .i64 k.f1.f3, .int .i64 k.f2, .slice ua k.f3.length uc] 0 7 S ?_; clear S; intro eU S; clear iP iQ iR iC iD jk jE)
     | fail)
    refine bodyPost_ret (eQ rfl _ _ b4 26 _ (0, 0) _ rfl (S.out.blk _ (.head _) _ rfl) Tryz.underlying26 rfl (by kernel_rfl)) rfl ?_
    exact ⟨_, _, rfl, S.out.SQ (b0 := w.heap.size) (.head _), S.out.below⟩
   case neg =>
    rw [decide_eq_false hid] at hr
    simp only [] at hr
    have HR2 := ae.mk hr
    obtain ⟨anh, ani, anj⟩ := eqF (a := k.f2) (b := id) (by omega)
    clear hid hr HR
    have jk := (S.out.cell _ vH).1
    go_wp2
    clear jk
    have hw := HW.out
    go_wp2
    go_roundg (L.length - (n + 1))
    case measure => have := jl.out; have := HIX.out; omega
    case rel => exact ⟨n + 1, (by rw [hw]), ⟨HIX.out⟩, Nat.le_refl _, HR2, ⟨S.out.bD.aG.aG.aG.aG.aG.aG.aG⟩⟩
  case neg =>
   have hlz : ¬ ((n : Int) < (L.length : Int)) := by omega
   have hr := HR.out
   rw [List.drop_eq_nil_of_le (by omega)] at hr
   have hr : none = R := hr
   subst hr
   clear hlt hgg
   go_wp2_with (first
    | (refine gY 26 4 27 #[.int .u8 0, .int .i64 0, .int .i64 0, .int .i64 0, .int .i64 0, .int .i64 0, .slice none 0 0] 0 7 S ?_; clear S; intro eU S)
    | fail)
   refine bodyPost_ret (eQ rfl _ _ b4 26 _ (0, 0) _ rfl (S.out.blk _ (.head _) _ rfl) Tryz.underlying26 rfl (by kernel_rfl)) rfl ?_
   exact ⟨rfl, S.out.below⟩
theorem IA {r : dW} {ax v : Int} {args : Array Value} {W : World} (h : aQ ax r = v) (hc : Calls Tryz.prog 42 args W fun e w' => e = .returned (.int .i64 (aQ ax r)) ∧ Below W.heap.size W w') : Calls Tryz.prog 42 args W fun e w' => e = .returned (.int .i64 v) ∧ Below W.heap.size W w' := by
 rw [h] at hc
 exact hc
def afE.T12 : Bool × List (List Nat × List Nat) := (true, [([], []), ([], []), ([], []), ([], []), ([], []), ([], []), ([], []), ([], []), ([3, 4, 5, 6, 7], [3, 4, 5, 6, 7]), ([0, 1, 2, 8, 8], [0, 1, 2, 8]), ([], []), ([10, 9, 9, 0, 1, 2, 3, 4, 5, 6, 7, 8, 9, 10], [9, 10])])
def afE.B12 : List Nat := [0, 0, 0, 0, 0, 0, 0, 0, 248, 511, 0, 2047]
theorem Jl {id : Int} {c : ai} {R : Option ai} {P : Nat → Prop} {args : Array Value} {W : World} (h : zi id c = R) (hc : Calls Tryz.prog 21 args W (ZT W P (zi id c))) : Calls Tryz.prog 21 args W (ZT W P R) := by
 rw [h] at hc
 exact hc
theorem aiQ {f : FuncId} {z y : ai} {P : Nat → Prop} {args : Array Value} {W : World} (h : y = z) (hc : Calls Tryz.prog f args W (Uf W P y)) : Calls Tryz.prog f args W (Uf W P z) := by
 rw [h] at hc
 exact hc
theorem YQ {ax : Int} {c leaf : ai} {p : List Int} (hax : ax = 1 ∨ ax = 2) (ht : dF c = true) (h : jX c p = some leaf) : 1 ≤ aQ ax leaf.f1 ∧ aQ ax leaf.f1 ≤ 10000 := by
 have := Pure.mO hax (Jg p c leaf ht h)
 omega
def Hf.T5 : Bool × List (List Nat × List Nat) := (true, [([], []), ([0], [0]), ([1], [1]), ([], []), ([3], [3]), ([2, 4], [2, 4]), ([5], [5]), ([6], [6]), ([], []), ([], []), ([9], [9]), ([10], [10]), ([], []), ([12], [12]), ([11, 13], [11, 13]), ([14], [14]), ([15], [15]), ([], []), ([16, 17, 7], [16, 17]), ([18], [18]), ([7, 8, 19, 18], [7, 8, 19]), ([20], [20]), ([21], [21]), ([21], [21]), ([], []), ([24, 22, 20, 0, 1, 2, 3, 4, 5, 6, 7, 8, 9, 10, 11, 12, 13, 14, 15, 16, 17, 18, 19, 20, 21, 22, 24], [22, 24]), ([23, 25, 0, 1, 2, 3, 4, 5, 6, 7, 8, 9, 10, 11, 12, 13, 14, 15, 16, 17, 18, 19, 20, 21, 22, 23, 24, 25], [23])])
def Hf.B5 : List Nat := [0, 1, 3, 0, 8, 31, 63, 127, 0, 0, 512, 1536, 0, 4096, 15872, 32256, 65024, 0, 261887, 524031, 1048575, 2097151, 4194303, 4194303, 0, 25165823, 67108863]
theorem Hf.TE : je .any (opsOf Tryz.f7 5) = Hf.T5 := by kernel_rfl
theorem Hf.Kr : iM Hf.T5.2 Hf.B5 = true := by kernel_rfl
theorem Gz {f : FuncId} {z y : ai} {P : Nat → Prop} {args : Array Value} {W : World} (h : z = y) (hc : Calls Tryz.prog f args W (yg W P z)) : Calls Tryz.prog f args W (yg W P y) := by
 rw [h] at hc
 exact hc
theorem o6 {f : FuncId} {z y : ai} {n m : Int} {P : Nat → Prop} {args : Array Value} {W : World} (h : z = y) (h2 : n = m) (hc : Calls Tryz.prog f args W (EJ W P z n)) : Calls Tryz.prog f args W (EJ W P y m) := by
 rw [h, h2] at hc
 exact hc
abbrev aks (w : World) (P : Nat → Prop) (p pq : List Int) (aX : ai) (k h9 : Nat) (e : Ending) (w' : World) : Prop := ∃ Az cz Ap cp op, e = .returned (.tuple #[.agg #[.int .u8 aX.f0, .int .i64 aX.f1.f0, .int .i64 aX.f1.f1, .int .i64 aX.f1.f2, .int .i64 aX.f1.f3, .int .i64 aX.f2, .slice Az aX.f3.length cz, .slice Ap pq.length cp, .int .i64 (k : Int), .int .i64 (h9 : Int)], .int .i64 0]) ∧ IR w.heap.size (.slice Ap p.length cp) p op ∧ St w P [((Value.slice Ap p.length cp).ownBlock, op)] [(.slice Az aX.f3.length cz, aX.f3)] [] [] w'
theorem Zu {p pq : List Int} {aX : ai} {k h9 : Nat} {P : Nat → Prop} {args : Array Value} {W : World} (h : ji k = h9) (hc : Calls Tryz.prog 14 args W (aca W P p pq aX k)) : Calls Tryz.prog 14 args W (aks W P p pq aX k h9) := by
 subst h
 exact hc
theorem XO {w W : World} {P : Nat → Prop} {bs : List (Option Nat × Obj)} {ts : List (Value × List ai)} {ro : List (Addr × Value)} {gr cap k n : Nat} {l L' : List ai} (hk : k < l.length) (h2 : 2 ≤ l.length) (hl : l.length ≤ 900000) (hL : rV l k = L') (hn : n = l.length)
  (S0 : St w P bs [(.slice (some ⟨gr, 0, none⟩) n cap, l)] ts ro W) :
  Calls Tryz.prog 18 #[.slice (some ⟨gr, 0, none⟩) n cap, .int .i64 (k : Int), .int .i64 ((k : Int) + 1)] W fun e w' => e = .returned (.slice (some ⟨gr, 0, none⟩) L'.length cap) ∧ St w P bs [(.slice (some ⟨gr, 0, none⟩) L'.length cap, L')] ts ro w' := by
 have hd := ady hk
 obtain ⟨m, hm⟩ : ∃ m, l.length = m + 1 := ⟨l.length - 1, by omega⟩
 subst hL
 rw [hd, hn, hm, show m + 1 - 1 = m by omega]
 rw [hn, hm] at S0
 exact ak0 (by omega) (by omega) (by omega) S0
theorem uM.kid {id : Int} {c : ai} {p : List Int} {par : ai} {k j : Nat} (h : uM id c p par k) (hj : j < par.f3.length) : jX c (p.take (p.length - 1) ++ [(j : Int)]) = some (kd par.f3 j) := by
 rw [ag9 _ _ _ _ h.at']
 simp only [jX]
 rw [if_neg (by omega), xu]
theorem acD (c : ai) (hz : sz c ≤ 300000) (id : Int) (P : Nat → Prop) (A : Option Addr) (cc : Nat) (w : World) (hv : Kd.V k26 26 w w.heap.size P (.slice A c.f3.length cc) c.f3) :
  Calls Tryz.prog 7 #[.agg #[.int .u8 c.f0, .int .i64 c.f1.f0, .int .i64 c.f1.f1, .int .i64 c.f1.f2, .int .i64 c.f1.f3, .int .i64 c.f2, .slice A c.f3.length cc], .int .i64 id] w (EJ w P (uP id c) (kP id c)) := by
 have S := ae.mk (St.start (ts := [(.slice A c.f3.length cc, c.f3)]) (b0 := w.heap.size) (w := w) (P := P) (fun t ht => by rw [List.mem_singleton.1 ht]; exact hv))
 have HZ := ae.mk (show sz c ≤ 1000000 by omega)
 have HZ3 := ae.mk hz
 clear hz hv
 by_cases hn0 : kP id c = 0
 case pos =>
  obtain ⟨p, aX, k, hK⟩ := kills hn0
  rw [hK.z, hn0]
  have hho := hK.o
  obtain ⟨z, hz⟩ : ∃ z, CX id c = z := ⟨_, rfl⟩
  have hzz := hK.sz
  rw [hz] at hho hzz ⊢
  have hps := Eb _ _ _ hK.at'
  have hpe := bJ aX
  have hpl := jf aX.f3
  have hlt := hK.lt
  have hl2 := hK.len
  have wY := Ei hlt hl2
  have hkk := YQ (ax := aX.f0 - 2 + 1) (by have := hK.kind; omega) hK.sN (hK.kid hlt)
  have hks := SC wY
  have hgs := Jo aX.f0 aX.f3 k wY
  have wZ := nS (KT wY)
  obtain ⟨pq, hpq⟩ : ∃ pq, pq = p.take (p.length - 1) := ⟨_, rfl⟩
  rw [← hpq] at hho
  have HPE := ae.mk hpq
  have Dc := ae.mk (show pq = p.take (p.length - 1) ∧ p.length - 1 ≤ p.length from ⟨hpq, by omega⟩)
  have HKK := ae.mk hK
  have HPK := ae.mk (show 0 < aX.f3.length by omega)
  have hax : aX.f0 - 1 = aX.f0 - 2 + 1 := by omega
  have hm1 : (aX.f0 - 2) % 256 = aX.f0 - 2 := by have := hK.kind; omega
  have hm2 : (aX.f0 - 2 + 1) % 256 = aX.f0 - 2 + 1 := by have := hK.kind; omega
  unfold vY at hho hks
  obtain ⟨g9, xQ⟩ : ∃ g, pF aX.f0 aX.f3 k = g := ⟨_, rfl⟩
  rw [xQ] at hho hgs hks
  unfold pF at xQ
  rw [hax] at xQ
  obtain ⟨h9, hh9⟩ : ∃ h, ji k = h := ⟨_, rfl⟩
  rw [hh9] at hho xQ wY hks wZ
  obtain ⟨L1, hL1⟩ : ∃ L, aX.f3.set h9 g9 = L := ⟨_, rfl⟩
  rw [hL1] at hho hks
  obtain ⟨L', hL'⟩ : ∃ L, rV L1 k = L := ⟨_, rfl⟩
  rw [hL'] at hho hks
  obtain ⟨kh, hkh⟩ : ∃ x, kd aX.f3 h9 = x := ⟨_, rfl⟩
  obtain ⟨kk, Jt⟩ : ∃ x, kd aX.f3 k = x := ⟨_, rfl⟩
  rw [hkh] at xQ wZ
  rw [Jt] at xQ hkk
  obtain ⟨sv, hsv⟩ : ∃ s, aQ (aX.f0 - 2 + 1) kk.f1 = s := ⟨_, rfl⟩
  rw [hsv] at xQ hkk
  obtain ⟨zS, Sl⟩ : ∃ x, bU kh 0 0 = x := ⟨_, rfl⟩
  have hzs := (G_ _).1 kh (Nat.le_refl _) 0 0
  rw [Sl] at xQ hzs
  obtain ⟨gN, hgN⟩ : ∃ x, aN (aX.f0 - 2 + 1) zS (sv + 1) = x := ⟨_, rfl⟩
  have hll : L1.length = aX.f3.length := by rw [← hL1, List.length_set]
  have DI := ae.mk (show sz kh ≤ 1000000 by have := HZ3.out; omega)
  have J7 := ae.mk Sl
  have DJ := ae.mk (show sz zS ≤ 1048576 by have := HZ3.out; omega)
  have Df := ae.mk hsv
  have F9 := ae.mk xQ
  have F_ := ae.mk hgN
  have Gf := ae.mk hh9
  have HL1 := ae.mk hL1
  have HDL := ae.mk hL'
  have JY := ae.mk hll.symm
  have Xg := ae.mk (show k < L1.length by omega)
  have HL2 := ae.mk (show 2 ≤ L1.length by omega)
  have HL9 := ae.mk (show L1.length ≤ 900000 by have := HZ3.out; omega)
  have HHL := ae.mk (show (h9 : Int) < (aX.f3.length : Int) by omega)
  have hhz : (h9 : Int) < (aX.f3.length : Int) := HHL.out
  have hkz : (k : Int) < (aX.f3.length : Int) := by omega
  have hh0 : (0 : Int) ≤ (h9 : Int) := Int.natCast_nonneg _
  have hk0 : (0 : Int) ≤ (k : Int) := Int.natCast_nonneg _
  have hhn : h9 < aX.f3.length := wY
  have hkn : k < aX.f3.length := hlt
  have hw1 : IntKind.i64.wrap (sv + 1) = sv + 1 := by rw [IntKind.wrap_i64]; omega
  have hw2 : IntKind.i64.wrap ((k : Int) + 1) = (k : Int) + 1 := by have := HZ3.out; rw [IntKind.wrap_i64]; omega
  have LX := ae.mk hho
  have agy := ae.mk (show sz (if L'.length = 1 then g9 else ⟨aX.f0, aX.f1, aX.f2, L'⟩) ≤ 1000000 by have := HZ3.out; omega)
  have HZ6 := ae.mk (show sz z ≤ 1000000 by have := HZ3.out; omega)
  have JX := ae.mk hkh
  have HKD := ae.mk Jt
  clear hn0 hK hho hz hzz hps hpe hpl hlt hl2 wY hkk hks hgs wZ hpq hax xQ hh9 hL1 hL' hkh Jt hsv Sl hzs hgN hll
  obtain ⟨ck, ⟨cx, cy, cw, ch⟩, aJ, l⟩ := c
  simp only [] at S ⊢
  go_enter Tryz.func7, Tryz.ntmps7
  go_wp2_with (first | (refine boxS 2 _ 26 S ?_; clear S; intro b2 eU S) | (refine boxS 4 _ 26 S ?_; clear S; intro b4 fM S; obtain ⟨bG, bP, bQ, bY, bZ, b_, a_⟩ := St.fF S bf) | (refine lK (some 17) Tryz.func14 (Zu Gf.out ((Iw ⟨ck, ⟨cx, cy, cw, ch⟩, aJ, l⟩ HZ.out id _ _ _ _ _ (S.out.tree _ (.head _))).2 p pq aX k HKK.out HPE.out)) ?_; rintro e iq ⟨Az, cz, Ap, cp, op, rfl, OQ, T⟩; refine ⟨_, rfl, ?_⟩; have S1 := S.out.join T; have rY := ae.mk OQ; obtain ⟨gr, amU, ev, _⟩ := Kd.zN S1.uI HPK.out; injection ev with e1 e2 e3; subst e1; clear e2 e3 T OQ; replace S := ae.mk S1; clear S1; clear bG bP bQ bY bZ b_ a_) | (refine boxS 6 _ 43 S ?_; clear S; intro b6 jD S) | (refine gY 43 6 18 #[.int .u8 aX.f0, .int .i64 aX.f1.f0, .int .i64 aX.f1.f1, .int .i64 aX.f1.f2, .int .i64 aX.f1.f3, .int .i64 aX.f2, .slice (some ⟨gr, 0, none⟩) aX.f3.length cz, .slice Ap pq.length cp, .int .i64 (k : Int), .int .i64 (h9 : Int)] 0 10 S ?_; clear S; intro mQ S; have oU := (S.out.at (.head _) 0).trans rfl))
  clear oU
  obtain ⟨ua, uc, S1, h1⟩ := S.out.yU (h9 : Int) hh0 hhz
  obtain ⟨va, vc, S2, h2⟩ := S1.yU (k : Int) hk0 hkz
  simp only [xu] at h1 h2 S2
  rw [JX.out] at h1 S2
  rw [HKD.out] at h2 S2
  rw [Int.toNat_natCast] at h1 h2
  have hcell : ∀ (j : Nat) (u : Value), (iy kh ua uc ++ iy kk va vc)[j]? = some u → mQ.cell? (if j < 7 then ⟨gr, h9 * 7 + j, none⟩ else ⟨gr, k * 7 + (j - 7), none⟩) = some u := by
   intro j u hj
   by_cases hlt : j < 7
   ·rw [List.getElem?_append_left (by simpa [iy] using hlt)] at hj
    rw [if_pos hlt]
    exact h1 j u hj
   ·rw [List.getElem?_append_right (by simp [iy]; omega)] at hj
    rw [if_neg hlt]
    exact h2 (j - 7) u (by simpa [iy] using hj)
  replace S := ae.mk S2
  have jV := ae.mk hcell
  clear S1 S2 h1 h2 hcell
  go_wp2
  refine jT (n := 27) (S := fun w' => St w _ _ _ _ _ w' ∧ ∀ (j : Nat) (u : Value), (iy kh ua uc ++ iy kk va vc)[j]? = some u → w'.cell? (if j < 7 then ⟨gr, h9 * 7 + j, none⟩ else ⟨gr, k * 7 + (j - 7), none⟩) = some u) (ds := [25]) (bA 27 0) (by kernel_rfl) rfl rfl ⟨S.out.call (bI (Below.refl _ _)), jb jV.out (bI (Below.refl _ _))⟩ (fun hHeld => ?_); refine gG Hf.TE Hf.Kr (fun ak fC => ?_)
  replace S := ae.mk (S.out.call (bI (Below.refl _ _)))
  replace jV := ae.mk (jb jV.out (bI (Below.refl _ _)))
  generalize mQ.drew = Ph at S jV hHeld ⊢
  refine ay 0 30 (bA 27 1) ak ?_
  refine ay 1 31 (bA 27 3) ak ?_
  refine dM 2 32 (bA 27 7) ak fC hHeld ?_ (hv := by intro w' hs_; have jH := (hs_.1.at (.head _) 6).trans rfl; go_simp; with_reducible rfl)
  refine ay 3 33 (bA 27 15) ak ?_
  refine dM 4 34 (bA 27 31) ak fC hHeld ?_ (hv := by intro w' hs_; have zx := (hs_.1.at (.head _) 9).trans rfl; go_simp; with_reducible rfl)
  refine ay 5 35 (bA 27 63) ak ?_
  refine dM 6 36 (bA 27 127) ak fC hHeld ?_ (hv := by intro w' hs_; have xe0 := (show w'.cell? ⟨gr, h9 * 7, none⟩ = some (.int .u8 kh.f0) from hs_.2 0 _ rfl); have xe1 := (show w'.cell? ⟨gr, h9 * 7 + 1, none⟩ = some (.int .i64 kh.f1.f0) from hs_.2 1 _ rfl); have xe2 := (show w'.cell? ⟨gr, h9 * 7 + 2, none⟩ = some (.int .i64 kh.f1.f1) from hs_.2 2 _ rfl); have xe3 := (show w'.cell? ⟨gr, h9 * 7 + 3, none⟩ = some (.int .i64 kh.f1.f2) from hs_.2 3 _ rfl); have xe4 := (show w'.cell? ⟨gr, h9 * 7 + 4, none⟩ = some (.int .i64 kh.f1.f3) from hs_.2 4 _ rfl); have xe5 := (show w'.cell? ⟨gr, h9 * 7 + 5, none⟩ = some (.int .i64 kh.f2) from hs_.2 5 _ rfl); have xe6 := (show w'.cell? ⟨gr, h9 * 7 + 6, none⟩ = some (.slice ua kh.f3.length uc) from hs_.2 6 _ rfl); go_simp; with_reducible rfl)
  refine ay 8 38 (bA 27 383) ak ?_
  refine ay 9 39 (bA 27 895) ak ?_
  refine ay 10 40 (bA 27 1919) ak ?_
  refine dM 11 41 (bA 27 3967) ak fC hHeld ?_ (hv := by intro w' hs_; have jH := (hs_.1.at (.head _) 6).trans rfl; go_simp; with_reducible rfl)
  refine ay 12 42 (bA 27 8063) ak ?_
  refine dM 13 43 (bA 27 16255) ak fC hHeld ?_ (hv := by intro w' hs_; have Dq := (hs_.1.at (.head _) 8).trans rfl; go_simp; with_reducible rfl)
  refine ay 14 44 (bA 27 32639) ak ?_
  refine ay 15 45 (bA 27 65407) ak ?_
  refine dM 16 46 (bA 27 130943) ak fC hHeld ?_ (hv := by intro w' hs_; have xe8 := (show w'.cell? ⟨gr, k * 7 + 1, none⟩ = some (.int .i64 kk.f1.f0) from hs_.2 8 _ rfl); have xe9 := (show w'.cell? ⟨gr, k * 7 + 2, none⟩ = some (.int .i64 kk.f1.f1) from hs_.2 9 _ rfl); have anL := (show w'.cell? ⟨gr, k * 7 + 3, none⟩ = some (.int .i64 kk.f1.f2) from hs_.2 10 _ rfl); have anM := (show w'.cell? ⟨gr, k * 7 + 4, none⟩ = some (.int .i64 kk.f1.f3) from hs_.2 11 _ rfl); go_simp; with_reducible rfl)
  refine ay 17 47 (bA 27 262015) ak ?_
  refine KQ (σ := Option Addr × Nat × Option Addr × Nat × Nat) 2 (bA 27 33554431) (fun s_ => [(37, .agg #[.int .u8 zS.f0, .int .i64 zS.f1.f0, .int .i64 zS.f1.f1, .int .i64 zS.f1.f2, .int .i64 zS.f1.f3, .int .i64 zS.f2, .slice s_.1 zS.f3.length s_.2.1]), (48, .int .i64 sv), (49, .int .i64 (sv + 1)), (50, .tuple #[.agg #[.int .u8 g9.f0, .int .i64 g9.f1.f0, .int .i64 g9.f1.f1, .int .i64 g9.f1.f2, .int .i64 g9.f1.f3, .int .i64 g9.f2, .slice s_.2.2.1 g9.f3.length s_.2.2.2.1], .int .i64 gN]), (29, .tuple #[.agg #[.int .u8 g9.f0, .int .i64 g9.f1.f0, .int .i64 g9.f1.f1, .int .i64 g9.f1.f2, .int .i64 g9.f1.f3, .int .i64 g9.f2, .slice s_.2.2.1 g9.f3.length s_.2.2.2.1], .int .i64 gN]), (51, .agg #[.int .u8 g9.f0, .int .i64 g9.f1.f0, .int .i64 g9.f1.f1, .int .i64 g9.f1.f2, .int .i64 g9.f1.f3, .int .i64 g9.f2, .slice s_.2.2.1 g9.f3.length s_.2.2.2.1]), (52, .int .i64 gN), (9, .pointer (some ⟨s_.2.2.2.2, 0, none⟩))]) (fun s_ w' => St w P [(some s_.2.2.2.2, .cells #[.int .u8 0, .int .i64 0, .int .i64 0, .int .i64 0, .int .i64 0, .int .i64 0, .slice none 0 0] 26 (0, 0)), (some b6, .cells #[.int .u8 aX.f0, .int .i64 aX.f1.f0, .int .i64 aX.f1.f1, .int .i64 aX.f1.f2, .int .i64 aX.f1.f3, .int .i64 aX.f2, .slice (some ⟨gr, 0, none⟩) aX.f3.length cz, .slice Ap pq.length cp, .int .i64 (k : Int), .int .i64 (h9 : Int)] 43 (0, 0)), ((Value.slice Ap p.length cp).ownBlock, op), (some b4, .cells #[.int .u8 0, .int .i64 0, .int .i64 0, .int .i64 0, .int .i64 0, .int .i64 0, .slice none 0 0] 26 (0, 0)), (some b2, .cells #[.int .u8 ck, .int .i64 cx, .int .i64 cy, .int .i64 cw, .int .i64 ch, .int .i64 aJ, .slice A l.length cc] 26 (0, 0))] [(.slice (some ⟨gr, 0, none⟩) aX.f3.length cz, aX.f3)] [(.slice s_.2.2.1 g9.f3.length s_.2.2.2.1, g9.f3), (.slice s_.1 zS.f3.length s_.2.1, zS.f3), (.slice va kk.f3.length vc, kk.f3), (.slice ua kh.f3.length uc, kh.f3), (.slice A l.length cc, l)] [] w' ∧ ∀ (j : Nat) (u : Value), (iy kh ua uc ++ iy kk va vc)[j]? = some u → w'.cell? (if j < 7 then ⟨gr, h9 * 7 + j, none⟩ else ⟨gr, k * 7 + (j - 7), none⟩) = some u) ?_ ?_
  rotate_left
  ·intro o5
   refine CV (i := 7) (j := 24) (Ni := some 37) (Nj := some 9) (bA 27 262143) (bA 27 17039231) rfl rfl rfl rfl (vP ak.out (by kernel_rfl)) (by decide) (by decide) (fun K hK => ?_) (fun K hK => ?_)
   ·skip
    refine fO Tryz.func16 (by kernel_rfl) rfl #[.agg #[.int .u8 kh.f0, .int .i64 kh.f1.f0, .int .i64 kh.f1.f1, .int .i64 kh.f1.f2, .int .i64 kh.f1.f3, .int .i64 kh.f2, .slice ua kh.f3.length uc], .int .i64 0, .int .i64 0] (by rfl) rfl rfl (by (try simp only [List.map_toArray, List.map_cons, List.map_nil]); rfl) ?_
    refine (Gz J7.out (IB kh 0 0 DI.out (S.out.tree _ bf))).mono ?_
    rintro e fM ⟨As, cs, rfl, h1, hb⟩
    refine ⟨_, rfl, ?_⟩
    replace jV := ae.mk (jb jV.out hb)
    replace S := ae.mk (S.out.res (Kd.qY (base' := 0) h1) hb)
    clear h1 hb
    refine hK.out _ _ ⟨S.out.bD, jV.out⟩ (fun hHeld => ?_)
    clear hK K
    refine dO 37 ?_
    refine CV (i := 18) (j := 24) (Ni := some 48) (Nj := some 9) (bA 27 524287) (bA 27 17039359) rfl rfl rfl rfl (vP ak.out (by kernel_rfl)) (by decide) (by decide) (fun K hK => ?_) (fun K hK => ?_)
    ·skip
     refine fO Tryz.func17 (by kernel_rfl) rfl #[.agg #[.int .i64 kk.f1.f0, .int .i64 kk.f1.f1, .int .i64 kk.f1.f2, .int .i64 kk.f1.f3], .int .u8 (aX.f0 - 2 + 1)] (by rfl) rfl rfl (by (try simp only [List.map_toArray, List.map_cons, List.map_nil]); rfl) ?_
     refine (Ew Df.out (CQ kk.f1 (aX.f0 - 2 + 1))).mono ?_
     rintro e iq ⟨rfl, hb⟩
     refine ⟨_, rfl, ?_⟩
     replace jV := ae.mk (jb jV.out hb)
     replace S := ae.mk (S.out.call hb)
     clear hb
     refine hK.out _ _ ⟨S.out.bD, jV.out⟩ (fun hHeld => ?_)
     clear hK K
     refine dO 48 ?_
     refine ay 19 49 (bA 27 1048575) ak ?_
     refine CV (i := 20) (j := 24) (Ni := some 50) (Nj := some 9) (bA 27 2097151) (bA 27 17825791) rfl rfl rfl rfl (vP ak.out (by kernel_rfl)) (by decide) (by decide) (fun K hK => ?_) (fun K hK => ?_)
     ·skip
      refine fO Tryz.func15 (by kernel_rfl) rfl #[.agg #[.int .u8 zS.f0, .int .i64 zS.f1.f0, .int .i64 zS.f1.f1, .int .i64 zS.f1.f2, .int .i64 zS.f1.f3, .int .i64 zS.f2, .slice As zS.f3.length cs], .int .u8 (aX.f0 - 2 + 1), .int .i64 (sv + 1)] (by rfl) rfl rfl (by (try simp only [List.map_toArray, List.map_cons, List.map_nil]); rfl) ?_
      refine (o6 F9.out F_.out (Di (aX.f0 - 2 + 1) zS DJ.out (sv + 1) _ _ _ _ (d_ (S.out.tree _ (.head _))))).mono ?_
      rintro e jD ⟨Ag, cg, rfl, h1, hb⟩
      refine ⟨_, rfl, ?_⟩
      replace jV := ae.mk (jb jV.out hb)
      replace S := ae.mk (S.out.res (Kd.qY (base' := 0) h1) hb)
      clear h1 hb
      refine hK.out _ _ ⟨S.out.bD.bD, jV.out⟩ (fun hHeld => ?_)
      clear hK K
      refine dO 50 ?_
      refine ay 21 29 (bA 27 4194303) ak ?_
      refine ay 22 51 (bA 27 8388607) ak ?_
      refine ay 23 52 (bA 27 16777215) ak ?_
      refine iH 24 (some 9) (bA 27 33554431) ak (fun K hK => ?_)
      refine lU ?hg (N := 9) ?hd (cs := #[.int .u8 0, .int .i64 0, .int .i64 0, .int .i64 0, .int .i64 0, .int .i64 0, .slice none 0 0]) (t := 26) ?hr ?_; (case hd => rfl); (case hg => rfl); (case hr => (go_simp; done))
      intro b9 hg mQ hbox hb
      replace S := ae.mk (S.out.box hg hbox hb)
      replace jV := ae.mk (jb jV.out hb)
      clear hg hbox hb
      refine hK.out _ _ ⟨S.out.eP.bD.bD, jV.out⟩ (fun hHeld => ?_)
      clear hK K
      refine dO 9 ?_
      exact oI (by simp only [kW, Act.put, List.setIfInBounds_toArray, List.set_cons_zero, List.set_cons_succ] <;> rfl) (o5 (As, cs, Ag, cg, b9) _ ⟨S.out, jV.out⟩)
     ·skip
      refine lU ?hg (N := 9) ?hd (cs := #[.int .u8 0, .int .i64 0, .int .i64 0, .int .i64 0, .int .i64 0, .int .i64 0, .slice none 0 0]) (t := 26) ?hr ?_; (case hd => rfl); (case hg => rfl); (case hr => (go_simp; done))
      intro b9 hg vS hbox hb
      replace S := ae.mk (S.out.box hg hbox hb)
      replace jV := ae.mk (jb jV.out hb)
      clear hg hbox hb
      refine hK.out _ _ ⟨S.out.eP.bD, jV.out⟩ (fun hHeld => ?_)
      clear hK K
      refine dO 9 ?_
      refine iH 20 (some 50) (bA 27 18874367) ak (fun K hK => ?_)
      refine fO Tryz.func15 (by kernel_rfl) rfl #[.agg #[.int .u8 zS.f0, .int .i64 zS.f1.f0, .int .i64 zS.f1.f1, .int .i64 zS.f1.f2, .int .i64 zS.f1.f3, .int .i64 zS.f2, .slice As zS.f3.length cs], .int .u8 (aX.f0 - 2 + 1), .int .i64 (sv + 1)] (by rfl) rfl rfl (by (try simp only [List.map_toArray, List.map_cons, List.map_nil]); rfl) ?_
      refine (o6 F9.out F_.out (Di (aX.f0 - 2 + 1) zS DJ.out (sv + 1) _ _ _ _ (d_ (S.out.tree _ (.head _))))).mono ?_
      rintro e xY ⟨Ag, cg, rfl, h1, hb⟩
      refine ⟨_, rfl, ?_⟩
      replace jV := ae.mk (jb jV.out hb)
      replace S := ae.mk (S.out.res (Kd.qY (base' := 0) h1) hb)
      clear h1 hb
      refine hK.out _ _ ⟨S.out.eP.bD.bD, jV.out⟩ (fun hHeld => ?_)
      clear hK K
      refine dO 50 ?_
      refine ay 21 29 (bA 27 20971519) ak ?_
      refine ay 22 51 (bA 27 25165823) ak ?_
      refine ay 23 52 (bA 27 33554431) ak ?_
      exact oI (by simp only [kW, Act.put, List.setIfInBounds_toArray, List.set_cons_zero, List.set_cons_succ] <;> rfl) (o5 (As, cs, Ag, cg, b9) _ ⟨S.out, jV.out⟩)
    ·skip
     refine lU ?hg (N := 9) ?hd (cs := #[.int .u8 0, .int .i64 0, .int .i64 0, .int .i64 0, .int .i64 0, .int .i64 0, .slice none 0 0]) (t := 26) ?hr ?_; (case hd => rfl); (case hg => rfl); (case hr => (go_simp; done))
     intro b9 hg A_ hbox hb
     replace S := ae.mk (S.out.box hg hbox hb)
     replace jV := ae.mk (jb jV.out hb)
     clear hg hbox hb
     refine hK.out _ _ ⟨S.out.eP.bD, jV.out⟩ (fun hHeld => ?_)
     clear hK K
     refine dO 9 ?_
     refine iH 18 (some 48) (bA 27 17301503) ak (fun K hK => ?_)
     refine fO Tryz.func17 (by kernel_rfl) rfl #[.agg #[.int .i64 kk.f1.f0, .int .i64 kk.f1.f1, .int .i64 kk.f1.f2, .int .i64 kk.f1.f3], .int .u8 (aX.f0 - 2 + 1)] (by rfl) rfl rfl (by (try simp only [List.map_toArray, List.map_cons, List.map_nil]); rfl) ?_
     refine (Ew Df.out (CQ kk.f1 (aX.f0 - 2 + 1))).mono ?_
     rintro e FZ ⟨rfl, hb⟩
     refine ⟨_, rfl, ?_⟩
     replace jV := ae.mk (jb jV.out hb)
     replace S := ae.mk (S.out.call hb)
     clear hb
     refine hK.out _ _ ⟨S.out.eP.bD, jV.out⟩ (fun hHeld => ?_)
     clear hK K
     refine dO 48 ?_
     refine ay 19 49 (bA 27 17825791) ak ?_
     refine iH 20 (some 50) (bA 27 18874367) ak (fun K hK => ?_)
     refine fO Tryz.func15 (by kernel_rfl) rfl #[.agg #[.int .u8 zS.f0, .int .i64 zS.f1.f0, .int .i64 zS.f1.f1, .int .i64 zS.f1.f2, .int .i64 zS.f1.f3, .int .i64 zS.f2, .slice As zS.f3.length cs], .int .u8 (aX.f0 - 2 + 1), .int .i64 (sv + 1)] (by rfl) rfl rfl (by (try simp only [List.map_toArray, List.map_cons, List.map_nil]); rfl) ?_
     refine (o6 F9.out F_.out (Di (aX.f0 - 2 + 1) zS DJ.out (sv + 1) _ _ _ _ (d_ (S.out.tree _ (.head _))))).mono ?_
     rintro e CW ⟨Ag, cg, rfl, h1, hb⟩
     refine ⟨_, rfl, ?_⟩
     replace jV := ae.mk (jb jV.out hb)
     replace S := ae.mk (S.out.res (Kd.qY (base' := 0) h1) hb)
     clear h1 hb
     refine hK.out _ _ ⟨S.out.eP.bD.bD, jV.out⟩ (fun hHeld => ?_)
     clear hK K
     refine dO 50 ?_
     refine ay 21 29 (bA 27 20971519) ak ?_
     refine ay 22 51 (bA 27 25165823) ak ?_
     refine ay 23 52 (bA 27 33554431) ak ?_
     exact oI (by simp only [kW, Act.put, List.setIfInBounds_toArray, List.set_cons_zero, List.set_cons_succ] <;> rfl) (o5 (As, cs, Ag, cg, b9) _ ⟨S.out, jV.out⟩)
   ·skip
    refine lU ?hg (N := 9) ?hd (cs := #[.int .u8 0, .int .i64 0, .int .i64 0, .int .i64 0, .int .i64 0, .int .i64 0, .slice none 0 0]) (t := 26) ?hr ?_; (case hd => rfl); (case hg => rfl); (case hr => (go_simp; done))
    intro b9 hg DV hbox hb
    replace S := ae.mk (S.out.box hg hbox hb)
    replace jV := ae.mk (jb jV.out hb)
    clear hg hbox hb
    refine hK.out _ _ ⟨S.out.eP, jV.out⟩ (fun hHeld => ?_)
    clear hK K
    refine dO 9 ?_
    refine iH 7 (some 37) (bA 27 17039359) ak (fun K hK => ?_)
    refine fO Tryz.func16 (by kernel_rfl) rfl #[.agg #[.int .u8 kh.f0, .int .i64 kh.f1.f0, .int .i64 kh.f1.f1, .int .i64 kh.f1.f2, .int .i64 kh.f1.f3, .int .i64 kh.f2, .slice ua kh.f3.length uc], .int .i64 0, .int .i64 0] (by rfl) rfl rfl (by (try simp only [List.map_toArray, List.map_cons, List.map_nil]); rfl) ?_
    refine (Gz J7.out (IB kh 0 0 DI.out (S.out.tree _ bf))).mono ?_
    rintro e FM ⟨As, cs, rfl, h1, hb⟩
    refine ⟨_, rfl, ?_⟩
    replace jV := ae.mk (jb jV.out hb)
    replace S := ae.mk (S.out.res (Kd.qY (base' := 0) h1) hb)
    clear h1 hb
    refine hK.out _ _ ⟨S.out.eP.bD, jV.out⟩ (fun hHeld => ?_)
    clear hK K
    refine dO 37 ?_
    refine iH 18 (some 48) (bA 27 17301503) ak (fun K hK => ?_)
    refine fO Tryz.func17 (by kernel_rfl) rfl #[.agg #[.int .i64 kk.f1.f0, .int .i64 kk.f1.f1, .int .i64 kk.f1.f2, .int .i64 kk.f1.f3], .int .u8 (aX.f0 - 2 + 1)] (by rfl) rfl rfl (by (try simp only [List.map_toArray, List.map_cons, List.map_nil]); rfl) ?_
    refine (Ew Df.out (CQ kk.f1 (aX.f0 - 2 + 1))).mono ?_
    rintro e JK ⟨rfl, hb⟩
    refine ⟨_, rfl, ?_⟩
    replace jV := ae.mk (jb jV.out hb)
    replace S := ae.mk (S.out.call hb)
    clear hb
    refine hK.out _ _ ⟨S.out.eP.bD, jV.out⟩ (fun hHeld => ?_)
    clear hK K
    refine dO 48 ?_
    refine ay 19 49 (bA 27 17825791) ak ?_
    refine iH 20 (some 50) (bA 27 18874367) ak (fun K hK => ?_)
    refine fO Tryz.func15 (by kernel_rfl) rfl #[.agg #[.int .u8 zS.f0, .int .i64 zS.f1.f0, .int .i64 zS.f1.f1, .int .i64 zS.f1.f2, .int .i64 zS.f1.f3, .int .i64 zS.f2, .slice As zS.f3.length cs], .int .u8 (aX.f0 - 2 + 1), .int .i64 (sv + 1)] (by rfl) rfl rfl (by (try simp only [List.map_toArray, List.map_cons, List.map_nil]); rfl) ?_
    refine (o6 F9.out F_.out (Di (aX.f0 - 2 + 1) zS DJ.out (sv + 1) _ _ _ _ (d_ (S.out.tree _ (.head _))))).mono ?_
    rintro e TK ⟨Ag, cg, rfl, h1, hb⟩
    refine ⟨_, rfl, ?_⟩
    replace jV := ae.mk (jb jV.out hb)
    replace S := ae.mk (S.out.res (Kd.qY (base' := 0) h1) hb)
    clear h1 hb
    refine hK.out _ _ ⟨S.out.eP.bD.bD, jV.out⟩ (fun hHeld => ?_)
    clear hK K
    refine dO 50 ?_
    refine ay 21 29 (bA 27 20971519) ak ?_
    refine ay 22 51 (bA 27 25165823) ak ?_
    refine ay 23 52 (bA 27 33554431) ak ?_
    exact oI (by simp only [kW, Act.put, List.setIfInBounds_toArray, List.set_cons_zero, List.set_cons_succ] <;> rfl) (o5 (As, cs, Ag, cg, b9) _ ⟨S.out, jV.out⟩)
  rintro ⟨As, cs, Ag, cg, b9⟩ ar9 S1
  simp only [kW, Act.put, List.setIfInBounds_toArray, List.set_cons_zero, List.set_cons_succ]
  obtain ⟨S1, ah6⟩ := S1
  replace jV := ae.mk ah6
  replace S := ae.mk S1
  clear S1 hHeld ah6
  have hHeld := (And.intro (S.out.eP.bD.bD) jV.out)
  refine sK 25 none (bA 27 67108863) ak (fun K hK => ?_)
  refine vZ 0 rfl 26 (.tmp 9) (.tmp 51) rfl #[.int .u8 g9.f0, .int .i64 g9.f1.f0, .int .i64 g9.f1.f1, .int .i64 g9.f1.f2, .int .i64 g9.f1.f3, .int .i64 g9.f2, .slice Ag g9.f3.length cg] (j := 0) (u := .agg #[.int .u8 g9.f0, .int .i64 g9.f1.f0, .int .i64 g9.f1.f1, .int .i64 g9.f1.f2, .int .i64 g9.f1.f3, .int .i64 g9.f2, .slice Ag g9.f3.length cg]) (df := [.int .u8 g9.f0, .int .i64 g9.f1.f0, .int .i64 g9.f1.f1, .int .i64 g9.f1.f2, .int .i64 g9.f1.f3, .int .i64 g9.f2, .slice Ag g9.f3.length cg]) S.out (by rfl) rfl rfl rfl rfl (by kernel_rfl) (by simp [Value.oneCell']) (by simp) rfl ?_
  intro WS S1
  simp only [List.set_cons_zero, List.set_cons_succ] at S1
  replace S := ae.mk S1
  clear S1
  refine hK.out _ _ ?_
  clear hK K
  refine ay 26 10 (bA 27 134217727) ak ?_
  refine lJ (jc ak.out (by kernel_rfl)) ?_
  clear hHeld
  by_cases h1 : L'.length = 1
  case pos =>
   have LX := ae.mk (show uJ g9 pq ⟨ck, ⟨cx, cy, cw, ch⟩, aJ, l⟩ = some z by have h := LX.out; rw [if_pos h1] at h; exact h)
   have x_ := ae.mk (show sz g9 ≤ 1000000 by have h := agy.out; rw [if_pos h1] at h; exact h)
   have hq1 : ((L'.length : Int) == 1) = true := beq_iff_eq.mpr (by omega)
   have hq2 : decide ((L'.length : Int) = 1) = true := decide_eq_true (by omega)
   have hq3 : (L'.length == 1) = true := beq_iff_eq.mpr (by omega)
   clear h1
   obtain ⟨nO, sG, oZ, sH, xm, xn, xq⟩ := St.fF S (.head _)
   have jH := (S.out.at bf 6).trans rfl
   have zx := (S.out.at bf 9).trans rfl
   go_wp2_with (first | ((with_reducible refine mV (.store 26 (.tmp 59) (.tmp 58)) rfl ?_); go_loud (refine Tz (h9 : Int) g9 (.tmp 59) (.tmp 58) rfl S.out (Int.natCast_nonneg _) HHL.out ?sA ?sX (by kernel_rfl) (.head _) rfl rfl ?_; (case sA => rfl); (case sX => rfl); intro eU S1; rw [Int.toNat_natCast, HL1.out] at S1; replace S := ae.mk S1; clear S1); clear nO sG oZ sH xm xn xq jH zx; have jH := (S.out.at bf 6).trans rfl; have Dq := (S.out.at bf 8).trans rfl) | (refine lK (some 68) Tryz.func18 (XO Xg.out HL2.out HL9.out HDL.out JY.out S.out) ?_; rintro e fM ⟨rfl, S1⟩; refine ⟨_, rfl, ?_⟩; replace S := ae.mk S1.free; clear S1; clear jH Dq) | (refine qw 24 70 68 #[.int .u8 aX.f0, .int .i64 aX.f1.f0, .int .i64 aX.f1.f1, .int .i64 aX.f1.f2, .int .i64 aX.f1.f3, .int .i64 aX.f2, .slice (some ⟨gr, 0, none⟩) L'.length cz, .slice Ap pq.length cp, .int .i64 (k : Int), .int .i64 (h9 : Int)] 6 1 S ?_; clear S; intro iq S; have oU := (S.out.at bf 0).trans rfl; have oV := (S.out.at bf 1).trans rfl; have oW := (S.out.at bf 2).trans rfl; have qF := (S.out.at bf 3).trans rfl; have qG := (S.out.at bf 4).trans rfl; have qH := (S.out.at bf 5).trans rfl; have jH := (S.out.at bf 6).trans rfl) | (refine boxS 11 _ 26 S ?_; clear S; intro b11 jD S; clear oU oV oW qF qG qH jH) | (refine gY 26 11 72 #[.int .u8 aX.f0, .int .i64 aX.f1.f0, .int .i64 aX.f1.f1, .int .i64 aX.f1.f2, .int .i64 aX.f1.f3, .int .i64 aX.f2, .slice (some ⟨gr, 0, none⟩) L'.length cz] 0 7 S ?_; clear S; intro mQ S; obtain ⟨nO, sG, oZ, sH, xm, xn, xq⟩ := St.fF S bf; have jH := (S.out.at gy 6).trans rfl) | (refine gY 26 11 78 #[.int .u8 g9.f0, .int .i64 g9.f1.f0, .int .i64 g9.f1.f1, .int .i64 g9.f1.f2, .int .i64 g9.f1.f3, .int .i64 g9.f2, .slice Ag g9.f3.length cg] 0 7 S ?_; clear S; intro vS S; clear nO sG oZ sH xm xn xq jH; obtain ⟨QF, QG, QH, QI, QJ, QK, QL⟩ := St.fF S (.head _); obtain ⟨bG, bP, bQ, bY, bZ, b_, a_⟩ := St.fF S vH; have VL := (S.out.at gy 7).trans rfl) | (refine lK (some 84) Tryz.func19 (Wp ⟨ck, ⟨cx, cy, cw, ch⟩, aJ, l⟩ g9 pq z LX.out HZ.out x_.out (S.out.tree _ vH) (S.out.tree _ bf) (xJ rY.out S.out jy Dc.out).1 (xJ rY.out S.out jy Dc.out).2) ?_; rintro e xY ⟨Ay, Ur, rfl, h1, hb⟩; refine ⟨_, rfl, ?_⟩; replace S := ae.mk (S.out.res (Kd.qY (base' := 0) h1) hb); clear h1 hb; clear QF QG QH QI QJ QK QL bG bP bQ bY bZ b_ a_ VL) | (refine boxS 12 _ 26 S ?_; clear S; intro b12 A_ S) | (refine gY 26 12 85 #[.int .u8 z.f0, .int .i64 z.f1.f0, .int .i64 z.f1.f1, .int .i64 z.f1.f2, .int .i64 z.f1.f3, .int .i64 z.f2, .slice Ay z.f3.length Ur] 0 7 S ?_; clear S; intro FZ S; obtain ⟨QM, QN, QO, QP, QQ, QR, QS⟩ := St.fF S (.head _); have bP := (S.out.at yM 1).trans rfl; have bQ := (S.out.at yM 2).trans rfl) | (refine PI (some 94) Tryz.func16 S (IB z cx cy HZ6.out (S.out.tree _ (.head _))) ?_; clear S; intro Ae ce CW S; clear QM QN QO QP QQ QR QS bP bQ) | (refine ai_ 26 4 94 #[.int .u8 ((bU z cx cy).f0), .int .i64 ((bU z cx cy).f1.f0), .int .i64 ((bU z cx cy).f1.f1), .int .i64 ((bU z cx cy).f1.f2), .int .i64 ((bU z cx cy).f1.f3), .int .i64 ((bU z cx cy).f2), .slice Ae ((bU z cx cy).f3.length) ce] 0 7 S ?_; clear S; intro DV S))
   refine bodyPost_ret (eQ rfl _ _ b4 26 _ (0, 0) _ rfl (S.out.blk _ vH _ rfl) Tryz.underlying26 rfl (by kernel_rfl)) rfl ?_
   exact ⟨_, _, rfl, S.out.uI, S.out.below⟩
  case neg =>
   have LX := ae.mk (show uJ ⟨aX.f0, aX.f1, aX.f2, L'⟩ pq ⟨ck, ⟨cx, cy, cw, ch⟩, aJ, l⟩ = some z by have h := LX.out; rw [if_neg h1] at h; exact h)
   have x_ := ae.mk (show sz ⟨aX.f0, aX.f1, aX.f2, L'⟩ ≤ 1000000 by have h := agy.out; rw [if_neg h1] at h; exact h)
   have hq1 : ((L'.length : Int) == 1) = false := beq_eq_false_iff_ne.mpr (by omega)
   have hq2 : decide ((L'.length : Int) = 1) = false := decide_eq_false (by omega)
   have hq3 : (L'.length == 1) = false := beq_eq_false_iff_ne.mpr (by omega)
   obtain ⟨nO, sG, oZ, sH, xm, xn, xq⟩ := St.fF S (.head _)
   have jH := (S.out.at bf 6).trans rfl
   have zx := (S.out.at bf 9).trans rfl
   go_wp2_with (first | ((with_reducible refine mV (.store 26 (.tmp 59) (.tmp 58)) rfl ?_); go_loud (refine Tz (h9 : Int) g9 (.tmp 59) (.tmp 58) rfl S.out (Int.natCast_nonneg _) HHL.out ?sA ?sX (by kernel_rfl) (.head _) rfl rfl ?_; (case sA => rfl); (case sX => rfl); intro eU S1; rw [Int.toNat_natCast, HL1.out] at S1; replace S := ae.mk S1; clear S1); clear nO sG oZ sH xm xn xq jH zx; have jH := (S.out.at bf 6).trans rfl; have Dq := (S.out.at bf 8).trans rfl) | (refine lK (some 68) Tryz.func18 (XO Xg.out HL2.out HL9.out HDL.out JY.out S.out) ?_; rintro e fM ⟨rfl, S1⟩; refine ⟨_, rfl, ?_⟩; replace S := ae.mk S1.free; clear S1; clear jH Dq) | (refine qw 24 70 68 #[.int .u8 aX.f0, .int .i64 aX.f1.f0, .int .i64 aX.f1.f1, .int .i64 aX.f1.f2, .int .i64 aX.f1.f3, .int .i64 aX.f2, .slice (some ⟨gr, 0, none⟩) L'.length cz, .slice Ap pq.length cp, .int .i64 (k : Int), .int .i64 (h9 : Int)] 6 1 S ?_; clear S; intro iq S; have oU := (S.out.at bf 0).trans rfl; have oV := (S.out.at bf 1).trans rfl; have oW := (S.out.at bf 2).trans rfl; have qF := (S.out.at bf 3).trans rfl; have qG := (S.out.at bf 4).trans rfl; have qH := (S.out.at bf 5).trans rfl; have jH := (S.out.at bf 6).trans rfl) | (refine boxS 11 _ 26 S ?_; clear S; intro b11 jD S; clear oU oV oW qF qG qH jH) | (refine gY 26 11 72 #[.int .u8 aX.f0, .int .i64 aX.f1.f0, .int .i64 aX.f1.f1, .int .i64 aX.f1.f2, .int .i64 aX.f1.f3, .int .i64 aX.f2, .slice (some ⟨gr, 0, none⟩) L'.length cz] 0 7 S ?_; clear S; intro mQ S; obtain ⟨QF, QG, QH, QI, QJ, QK, QL⟩ := St.fF S (.head _); obtain ⟨bG, bP, bQ, bY, bZ, b_, a_⟩ := St.fF S vH; have jH := (S.out.at gy 6).trans rfl; have VL := (S.out.at gy 7).trans rfl) | (refine lK (some 84) Tryz.func19 (Wp ⟨ck, ⟨cx, cy, cw, ch⟩, aJ, l⟩ ⟨aX.f0, aX.f1, aX.f2, L'⟩ pq z LX.out HZ.out x_.out (S.out.tree _ vH) (S.out.tree _ (.head _)) (xJ rY.out S.out jy Dc.out).1 (xJ rY.out S.out jy Dc.out).2) ?_; rintro e vS ⟨Ay, Ur, rfl, h1, hb⟩; refine ⟨_, rfl, ?_⟩; replace S := ae.mk (S.out.res (Kd.qY (base' := 0) h1) hb); clear h1 hb; clear QF QG QH QI QJ QK QL bG bP bQ bY bZ b_ a_ jH VL) | (refine boxS 12 _ 26 S ?_; clear S; intro b12 xY S) | (refine gY 26 12 85 #[.int .u8 z.f0, .int .i64 z.f1.f0, .int .i64 z.f1.f1, .int .i64 z.f1.f2, .int .i64 z.f1.f3, .int .i64 z.f2, .slice Ay z.f3.length Ur] 0 7 S ?_; clear S; intro A_ S; obtain ⟨QM, QN, QO, QP, QQ, QR, QS⟩ := St.fF S (.head _); have bP := (S.out.at yM 1).trans rfl; have bQ := (S.out.at yM 2).trans rfl) | (refine PI (some 94) Tryz.func16 S (IB z cx cy HZ6.out (S.out.tree _ (.head _))) ?_; clear S; intro Ae ce FZ S; clear QM QN QO QP QQ QR QS bP bQ) | (refine ai_ 26 4 94 #[.int .u8 ((bU z cx cy).f0), .int .i64 ((bU z cx cy).f1.f0), .int .i64 ((bU z cx cy).f1.f1), .int .i64 ((bU z cx cy).f1.f2), .int .i64 ((bU z cx cy).f1.f3), .int .i64 ((bU z cx cy).f2), .slice Ae ((bU z cx cy).f3.length) ce] 0 7 S ?_; clear S; intro CW S))
   refine bodyPost_ret (eQ rfl _ _ b4 26 _ (0, 0) _ rfl (S.out.blk _ vH _ rfl) Tryz.underlying26 rfl (by kernel_rfl)) rfl ?_
   exact ⟨_, _, rfl, S.out.uI, S.out.below⟩
 case neg =>
  obtain ⟨n, hn⟩ : ∃ n, kP id c = n := ⟨_, rfl⟩
  rw [hn] at hn0
  rw [Du hn hn0, hn]
  obtain ⟨hna, hnb, hnd⟩ := eqF (a := n) (b := 0) (by omega)
  have HN := ae.mk hn
  have HN0 := ae.mk hn0
  clear hn hn0
  obtain ⟨ck, ⟨cx, cy, cw, ch⟩, aJ, l⟩ := c
  simp only [] at S ⊢
  go_enter Tryz.func7, Tryz.ntmps7
  go_wp2_with (first | (refine boxS 2 _ 26 S ?_; clear S; intro b2 eU S) | (refine boxS 4 _ 26 S ?_; clear S; intro b4 fM S; obtain ⟨bG, bP, bQ, bY, bZ, b_, a_⟩ := St.fF S bf) | (refine cZ (some 17) Tryz.func14 S ((Iw ⟨ck, ⟨cx, cy, cw, ch⟩, aJ, l⟩ HZ.out id _ _ _ _ _ (S.out.tree _ (.head _))).1 n HN.out HN0.out) ?_; clear S; intro iq S; clear bG bP bQ bY bZ b_ a_) | (refine boxS 6 _ 43 S ?_; clear S; intro b6 jD S) | (refine gY 43 6 18 #[.int .u8 0, .int .i64 0, .int .i64 0, .int .i64 0, .int .i64 0, .int .i64 0, .slice none 0 0, .slice none 0 0, .int .i64 0, .int .i64 0] 0 10 S ?_; clear S; intro mQ S) | (refine qw 26 4 22 #[.int .u8 0, .int .i64 0, .int .i64 0, .int .i64 0, .int .i64 0, .int .i64 0, .slice none 0 0] 0 7 S ?_; clear S; intro vS S))
  refine bodyPost_ret (eQ rfl _ _ b4 26 _ (0, 0) _ rfl (S.out.blk _ bf _ rfl) Tryz.underlying26 rfl (by kernel_rfl)) rfl ?_
  exact ⟨_, _, rfl, Kd.pI _ _ _ _ _, S.out.below⟩
theorem anu (c : ai) (hz : sz c ≤ 300000) (h1 : uP 1 c = exE) (h2 : kP 1 c = 0) {b : Nat} {P : Nat → Prop} {A : Option Addr} {cc : Nat} {W : World} (hv : Kd.V k26 26 W b P (.slice A c.f3.length cc) c.f3) :
  Calls Tryz.prog 7 #[.agg #[.int .u8 c.f0, .int .i64 c.f1.f0, .int .i64 c.f1.f1, .int .i64 c.f1.f2, .int .i64 c.f1.f3, .int .i64 c.f2, .slice A c.f3.length cc], .int .i64 1] W fun e w' => ∃ A' c', e = .returned (.tuple #[.agg #[.int .u8 1, .int .i64 0, .int .i64 0, .int .i64 9, .int .i64 5, .int .i64 2, .slice A' 0 c'], .int .i64 0]) ∧ Kd.N k26 26 w' W.heap.size (fun k => P k ∨ W.heap.size ≤ k) (.slice A' 0 c') [] ∧ Below W.heap.size W w' := by
 have h := acD c hz 1 P A cc W (d_ hv)
 rw [h1, h2] at h
 exact h
theorem Gn {w : World} : Calls Tryz.prog 6 #[] w fun e w' => e = .returned (.bool true) ∧ Below w.heap.size w w' := by
 have S := ae.mk (St.start (ts := []) (b0 := w.heap.size) (w := w) (P := fun _ => True) (fun t ht => by cases ht))
 obtain ⟨zB, hzb⟩ : ∃ z, Uu = z := ⟨_, rfl⟩
 have HZB := ae.mk hzb
 have x_ := ae.mk (show uP 1 zB = exE by rw [← hzb]; exact anb)
 have HKN := ae.mk (show kP 1 zB = 0 by rw [← hzb]; exact ana)
 have J5 := ae.mk (show sz zB ≤ 300000 by rw [← hzb]; decide)
 clear hzb
 go_enter Tryz.func6, Tryz.ntmps6
 go_wp2_with (first
  | (refine uO (some 8) Tryz.func13 S (o6 HZB.out rfl (afx (Ok w (fun _ => True) (keys [] [])) _)) ?_; clear S; intro Ab cb eU S)
  | (refine boxS 1 _ 26 S ?_; clear S; intro b1 fM S)
  | (refine gY 26 1 9 #[.int .u8 zB.f0, .int .i64 zB.f1.f0, .int .i64 zB.f1.f1, .int .i64 zB.f1.f2, .int .i64 zB.f1.f3, .int .i64 zB.f2, .slice Ab zB.f3.length cb] 0 7 S ?_; clear S; intro iq S; obtain ⟨iK, mi, mr, mD, mF, oH, jM⟩ := St.fF S (.head _))
  | (refine lK (some 13) Tryz.func7 (anu zB J5.out x_.out HKN.out (S.out.tree _ (.head _))) ?_; rintro e jD ⟨Ak, ck, rfl, h1, hb⟩; refine ⟨_, rfl, ?_⟩; skip; replace S := ae.mk (S.out.res (Kd.qY (base' := 0) h1) hb); clear h1 hb; clear iK mi mr mD mF oH jM)
  | (refine boxS 3 _ 26 S ?_; clear S; intro b3 mQ S)
  | (refine gY 26 3 14 #[.int .u8 1, .int .i64 0, .int .i64 0, .int .i64 9, .int .i64 5, .int .i64 2, .slice Ak 0 ck] 0 7 S ?_; clear S; intro vS S; obtain ⟨dm, dn, dA, dB, fK, gI, dJ⟩ := St.fF S (.head _))
  | (refine ik 22 rfl ?_; (refine gW (by rfl) ?_; dsimp only); refine cZ (some 22) Tryz.func11 S (Zk ⟨1, ⟨0, 0, 9, 5⟩, 2, []⟩ (by decide) (S.out.tree _ (.head _)) (Kd.EK k26 26 _ 0 (fun _ => True))) ?_; clear S; intro xY S; clear dm dn dA dB fK gI dJ)
  | fail)
 go_ret
 exact ⟨rfl, S.out.below⟩
def qp (id : Int) (l : List ai) : Int := match oN id 0 l with
 | some i => (i : Int)
 | none => -1
theorem TU {id : Int} {pre rest l : List ai} {k : ai} (hl : pre ++ k :: rest = l) (h : ∀ x, x ∈ pre → ¬ (x.f0 = 1 ∧ x.f2 = id)) (hk : k.f0 = 1 ∧ k.f2 = id) : qp id l = (pre.length : Int) := by
 unfold qp
 rw [← hl, Fh hk h, Nat.zero_add]
theorem TT {id : Int} {l : List ai} (h : ∀ x, x ∈ l → ¬ (x.f0 = 1 ∧ x.f2 = id)) : qp id l = -1 := by
 unfold qp
 rw [yG h]
theorem Bo (k : Nat) (hk : k ≤ 1000000) (w : World) : Calls Tryz.prog 41 #[.int .i64 (k : Int)] w fun e w' => e = .returned (.int .i64 ((ji k : Nat) : Int)) ∧ Below w.heap.size w w' := by
 have S := ae.mk (St.start (ts := []) (b0 := w.heap.size) (w := w) (P := fun _ => True) (fun t ht => by cases ht))
 by_cases h0 : k = 0
 case pos =>
  subst h0
  show Calls Tryz.prog 41 #[.int .i64 0] w _
  go_enter Tryz.func41, Tryz.ntmps41
  go_wp2
  go_ret
  exact ⟨rfl, S.out.below⟩
 case neg =>
  have hw : IntKind.i64.wrap ((k : Int) - 1) = (k : Int) - 1 := by rw [IntKind.wrap_i64]; omega
  have HH := ae.mk (show ((ji k : Nat) : Int) = (k : Int) - 1 by unfold ji; rw [if_neg h0]; omega)
  have e1 : ((k : Int) == 0) = false := beq_eq_false_iff_ne.mpr (by omega)
  have e2 : decide ((k : Int) = 0) = false := decide_eq_false (by omega)
  go_enter Tryz.func41, Tryz.ntmps41
  go_wp2
  go_ret
  exact ⟨by rw [HH.out]; rfl, S.out.below⟩
theorem Fv (id : Int) (c : ai) (hl : c.f3.length ≤ 1000000) (b : Nat) (P : Nat → Prop) (A : Option Addr) (cc : Nat) (w : World) (hv : Kd.V k26 26 w b P (.slice A c.f3.length cc) c.f3) :
  Calls Tryz.prog 39 #[.agg #[.int .u8 c.f0, .int .i64 c.f1.f0, .int .i64 c.f1.f1, .int .i64 c.f1.f2, .int .i64 c.f1.f3, .int .i64 c.f2, .slice A c.f3.length cc], .int .i64 id] w fun e w' => e = .returned (.int .i64 (qp id c.f3)) ∧ Below w.heap.size w w' := by
 have S := ae.mk (St.start (ts := [(.slice A c.f3.length cc, c.f3)]) (b0 := w.heap.size) (w := w) (P := P) (fun t ht => by rw [List.mem_singleton.1 ht]; exact d_ hv))
 have gZ := ae.mk hl
 clear hv hl
 obtain ⟨ck, ⟨cx, cy, cw, ch⟩, aJ, l⟩ := c
 simp only [] at S gZ ⊢
 go_enter Tryz.func39, Tryz.ntmps39
 go_wp2_with (first
  | (refine boxS 2 _ 26 S ?_; clear S; intro b2 eU S; have a_ := (S.out.at (.head _) 6).trans rfl)
  | fail)
 clear a_
 go_loopg [9] l.length (fun gg v9 wr => ∃ pre rest : List ai, v9 = .int .i64 (pre.length : Int) ∧ ae (pre ++ rest = l) ∧ ae (∀ x, x ∈ pre → ¬ (x.f0 = 1 ∧ x.f2 = id)) ∧ rest.length ≤ gg ∧ ae (St w P [(some b2, .cells #[.int .u8 ck, .int .i64 cx, .int .i64 cy, .int .i64 cw, .int .i64 ch, .int .i64 aJ, .slice A l.length cc] 26 (0, 0))] [] [(.slice A l.length cc, l)] [] wr))
 case atStart => exact ⟨[], l, rfl, ⟨rfl⟩, ⟨fun x hx => by cases hx⟩, Nat.le_refl _, S⟩
 case round =>
  clear S
  obtain ⟨pre, rest, rfl, HE, HP, hgg, S⟩ := hrel
  cases rest with
  | nil =>
   have hE := HE.out
   rw [List.append_nil] at hE
   have hE2 := hE.symm
   subst hE2
   clear hE HE hgg
   have hlt : ¬ ((l.length : Int) < (l.length : Int)) := by omega
   go_wp2
   go_ret
   exact ⟨by rw [TT HP.out]; rfl, S.out.below⟩
  | cons k rest =>
   have hk : k ∈ l := by rw [← HE.out]; simp
   have hlt : (pre.length : Int) < (l.length : Int) := by rw [← HE.out, List.length_append, List.length_cons]; omega
   have hw1 : wrap64 ((pre.length : Int) + 1) = ((pre ++ [k]).length : Int) := by have := gZ.out; rw [List.length_append, List.length_singleton]; unfold wrap64; omega
   have HW1 := ae.mk hw1
   have jl := ae.mk hgg
   have HK := ae.mk hk
   have wI := ae.mk (show pre.length ≤ 1048576 by have := gZ.out; omega)
   obtain ⟨ed, ua, uc, ek, S1⟩ := S.out.elem (.head _) (pre.length : Int) (Int.natCast_nonneg _) hlt
   subst ek
   have hrd : aj l (pre.length : Int) = k := by rw [← HE.out]; exact jd pre k rest
   rw [hrd] at S1
   simp only [Int.toNat_natCast] at S1
   replace S := ae.mk S1
   clear S1 hrd hk hgg hw1
   by_cases hk0 : k.f0 = 1
   case pos =>
    by_cases hk2 : k.f2 = id
    case pos =>
     have HQ := ae.mk (And.intro hk0 hk2)
     obtain ⟨aiy, aiz, hk0d⟩ := yB (a := k.f0) (b := 1) (by omega)
     obtain ⟨ank, anl, anm⟩ := yB (a := k.f2) (b := id) (by omega)
     clear hk0 hk2
     have a_ := (S.out.at (.head _) 6).trans rfl
     have iP := (S.out.cell _ (.head _)).1
     have jk := (S.out.cell _ vH).1
     go_wp2
     clear a_ iP jk
     go_ret
     exact ⟨by rw [TU HE.out HP.out HQ.out]; rfl, S.out.below⟩
    case neg =>
     have HQ := ae.mk (show ¬ (k.f0 = 1 ∧ k.f2 = id) from fun h => hk2 h.2)
     obtain ⟨aiy, aiz, hk0d⟩ := yB (a := k.f0) (b := 1) (by omega)
     obtain ⟨ank, anl, anm⟩ := eqF (a := k.f2) (b := id) (by omega)
     clear hk0 hk2
     have a_ := (S.out.at (.head _) 6).trans rfl
     have iP := (S.out.cell _ (.head _)).1
     have jk := (S.out.cell _ vH).1
     go_wp2
     clear a_ iP jk
     have hw1 := HW1.out
     go_wp2
     go_roundg rest.length
     case measure => exact Nat.lt_of_lt_of_le (Nat.lt_succ_self _) jl.out
     case rel => exact ⟨pre ++ [k], rest, (by rw [hw1]), ⟨by rw [List.append_assoc]; exact HE.out⟩, ⟨fun x hx => (List.mem_append.1 hx).elim (HP.out x) (fun h => by rw [List.mem_singleton.1 h]; exact HQ.out)⟩, Nat.le_refl _, ⟨S.out.bD.aG.aG.aG.aG.aG.aG.aG⟩⟩
   case neg =>
    have HQ := ae.mk (show ¬ (k.f0 = 1 ∧ k.f2 = id) from fun h => hk0 h.1)
    obtain ⟨aiy, aiz, hk0d⟩ := eqF (a := k.f0) (b := 1) (by omega)
    clear hk0
    have a_ := (S.out.at (.head _) 6).trans rfl
    have iP := (S.out.cell _ (.head _)).1
    go_wp2
    clear a_ iP
    have hw1 := HW1.out
    go_wp2
    go_roundg rest.length
    case measure => exact Nat.lt_of_lt_of_le (Nat.lt_succ_self _) jl.out
    case rel => exact ⟨pre ++ [k], rest, (by rw [hw1]), ⟨by rw [List.append_assoc]; exact HE.out⟩, ⟨fun x hx => (List.mem_append.1 hx).elim (HP.out x) (fun h => by rw [List.mem_singleton.1 h]; exact HQ.out)⟩, Nat.le_refl _, ⟨S.out.bD.aG.aG.aG.aG.aG.aG.aG⟩⟩
def Aw.T8 : Bool × List (List Nat × List Nat) := (true, [([], []), ([], []), ([1], [1]), ([], []), ([2, 3], [2, 3]), ([4], [4]), ([5], [5]), ([], []), ([6, 7], [6, 7]), ([], []), ([9], [9]), ([], []), ([10, 11], [10, 11]), ([12], [12]), ([], []), ([13, 14, 8], [13, 14]), ([8, 15], [8, 15]), ([16], [16]), ([0, 17, 15], [0, 17]), ([18, 18, 0, 1, 2, 3, 4, 5, 6, 7, 8, 9, 10, 11, 12, 13, 14, 15, 16, 17, 18], [0, 18])])
def Aw.B8 : List Nat := [0, 0, 2, 0, 14, 30, 62, 0, 254, 0, 512, 0, 3584, 7680, 0, 32766, 65534, 131070, 262143, 524287]
theorem Aw.anC : je .any (opsOf Tryz.f60 8) = Aw.T8 := by kernel_rfl
theorem Aw.akC : iM Aw.T8.2 Aw.B8 = true := by kernel_rfl
theorem ZW (ax : Int) (k : ai) (l : List ai) (ns : Nat → Int) : kL ax (l ++ [k]) ns 0 = kL ax l ns 0 ++ [eH ax k (ns l.length)] := by rw [OB, Nat.zero_add]
theorem afp (ax : Int) (hax : ax = 1 ∨ ax = 2) : ∀ (N : Nat) (c : ai), sz c ≤ N → N ≤ 100000 → dF c = true → ∀ (bV : Int), (-100000 ≤ bV ∧ bV ≤ 100000) → ∀ (P : Nat → Prop) (A : Option Addr) (cc : Nat) (w : World), Kd.V k26 26 w w.heap.size P (.slice A c.f3.length cc) c.f3 →
  Calls Tryz.prog 60 #[.agg #[.int .u8 c.f0, .int .i64 c.f1.f0, .int .i64 c.f1.f1, .int .i64 c.f1.f2, .int .i64 c.f1.f3, .int .i64 c.f2, .slice A c.f3.length cc], .int .u8 ax, .int .i64 bV] w (yg w P (eH ax c bV)) := by
 intro N
 induction N with
 | zero => intro c h; rw [bJ] at h; omega
 | succ N ih =>
  intro c hc hN ht bV hby P A cc w hv
  have hsz := bJ c
  have hlen := jf c.f3
  have hl1 : c.f3.length ≤ 100000 := by omega
  have hkt := fun (k : ai) (hk : k ∈ c.f3) => Pure.rO ht hk
  have IH := ae.mk fun (k : ai) (hk : k ∈ c.f3) (n : Int) (hn : -100000 ≤ n ∧ n ≤ 100000) P A cc w h => ih k (by have := Bz hk; omega) (by omega) (hkt k hk) n hn P A cc w h
  have PY := ae.mk fun (k : ai) (hk : k ∈ c.f3) => (show sz k ≤ 1048576 by have := Bz hk; omega)
  have HTK := ae.mk hkt
  have jl := ae.mk fun (k : ai) (hk : k ∈ c.f3) => (show wrap64 (aQ ax k.f1 - dG ax k) = dI ax k by unfold dI; rw [if_pos ⟨hax, hkt k hk⟩])
  have hgb : ∀ g, g ∈ c.f3.map (dI ax) → g ≤ 100000 := fun g hg => by
   obtain ⟨k, hk, rfl⟩ := List.mem_map.1 hg
   have := Pure.mO hax (hkt k hk)
   omega
  have gZ := ae.mk (show c.f3.length ≤ 1000000 by omega)
  have hsl := Ve (b := bV) (gs := c.f3.map (dI ax)) (by simpa using hl1) (by omega) (by omega)
  have hno := ajn (b := bV) (gs := c.f3.map (dI ax)) (by simpa using hl1) (by omega) (by omega)
  have hsb := Zt (b := bV) (gs := c.f3.map (dI ax)) (by simpa using hl1) hby.1 hby.2 hgb
  have EU := fun (Ag : Option Addr) (cg : Nat) (W : World) (hC : Kd.C (Kd.int .i64) W Ag (c.f3.map (dI ax)).length (c.f3.map (dI ax))) (h2 : (c.f3.map (dI ax)).length ≤ cg) => Zi bV (c.f3.map (dI ax)) (by simpa using hl1) hby.1 hby.2 hC h2
  have Eh : ∀ i, IU ax c.f0 c.f3 bV i = if (oP bV (c.f3.map (dI ax))).2 = true ∧ iF ax c.f0 = true then rd (oP bV (c.f3.map (dI ax))).1 (i : Int) else bV := fun i => rfl
  rw [yP]
  have S := ae.mk (St.start (ts := [(.slice A c.f3.length cc, c.f3)]) (b0 := w.heap.size) (w := w) (P := P) (fun t ht => by rw [List.mem_singleton.1 ht]; exact hv))
  obtain ⟨ck, ⟨cx, cy, cw, ch⟩, aJ, l⟩ := c
  simp only [] at S IH PY HTK jl gZ hsl hno hsb EU Eh hl1 ⊢
  obtain ⟨gw, hgw⟩ : ∃ gw, gw = if ax = 1 then wrap64 (cw + bV) else cw := ⟨_, rfl⟩
  obtain ⟨gh, hgh⟩ : ∃ gh, gh = if ax = 1 then ch else wrap64 (ch + bV) := ⟨_, rfl⟩
  simp only [grow]
  rw [← hgw, ← hgh]
  generalize IU ax ck l bV = NS at Eh ⊢
  obtain ⟨⟨sl, ok⟩, hsp⟩ : ∃ sp, sp = oP bV (l.map (dI ax)) := ⟨_, rfl⟩
  simp only [← hsp, List.length_map] at hsl hno hsb EU Eh
  have HNB := ae.mk (show ∀ i, i < l.length → -100000 ≤ NS i ∧ NS i ≤ 100000 from fun i hi => by
   rw [Eh i]
   split
   ·rename_i h
    exact hsb _ (by unfold rd; rw [List.getD_eq_getElem?_getD, List.getElem?_eq_getElem (by rw [hsl h.1]; simpa using hi)]; exact List.getElem_mem _)
   ·exact hby)
  obtain ⟨SL, hSL⟩ : ∃ SL, SL = if iF ax ck = true then sl else [] := ⟨_, rfl⟩
  have Xi := ae.mk (show ∀ i, i < l.length → NS i = if 0 < SL.length then rd SL (i : Int) else bV from fun i hi => by
   rw [Eh i, hSL]
   cases ha : iF ax ck with
   | false => simp
   | true =>
    cases ok with
    | false => rw [hno rfl]; simp
    | true => rw [if_pos ⟨rfl, rfl⟩, if_pos rfl, if_pos (by rw [hsl rfl]; omega)])
  have amG := ae.mk (show 0 < SL.length → SL.length = l.length by
   intro h
   rw [hSL] at h ⊢
   cases ha : iF ax ck with
   | false => rw [ha] at h; simp at h
   | true =>
    rw [ha] at h
    cases ok with
    | false => rw [hno rfl] at h; simp at h
    | true => rw [if_pos rfl, hsl rfl])
  have Gg := ae.mk hSL
  have Xj := ae.mk EU
  have IJ := ae.mk hgw
  have PW := ae.mk hgh
  clear ih hc hN hby hv hsz hlen hsl hno hsb hgb hkt ht EU Eh hgw hgh hsp hl1 hSL
  go_enter Tryz.func60, Tryz.ntmps60
  go_upto_if 14 with (first
   | (refine boxS 3 _ 26 S ?_; clear S; intro b3 eU S)
   | (refine boxS 6 _ 26 S ?_; clear S; intro b6 fM S)
   | fail)
  go_cut [] (fun wc => ae (St w P [(some b6, .cells #[.int .u8 0, .int .i64 0, .int .i64 0, .int .i64 0, .int .i64 0, .int .i64 0, .slice none 0 0] 26 (0, 0)), (some b3, .cells #[.int .u8 ck, .int .i64 cx, .int .i64 cy, .int .i64 gw, .int .i64 gh, .int .i64 aJ, .slice A l.length cc] 26 (0, 0))] [] [(.slice A l.length cc, l)] [] wc))
  case first =>
   by_cases hx : ax = 1
   ·have hxb : (ax == 1) = true := beq_iff_eq.mpr hx
    have HX := ae.mk hx
    clear hx
    have dB := (S.out.at bf 3).trans rfl
    go_wp2_with (first
     | (refine qw 3 21 19 #[.int .u8 ck, .int .i64 cx, .int .i64 cy, .int .i64 (wrap64 (cw + bV)), .int .i64 ch, .int .i64 aJ, .slice A l.length cc] 3 1 S ?_; clear S; intro iq S; clear dB)
     | fail)
    go_meet
    case rel => rw [IJ.out, PW.out, if_pos HX.out, if_pos HX.out]; exact S
   ·have hxb : (ax == 1) = false := beq_eq_false_iff_ne.mpr hx
    have HX := ae.mk hx
    clear hx
    have fK := (S.out.at bf 4).trans rfl
    go_wp2_with (first
     | (refine qw 3 28 26 #[.int .u8 ck, .int .i64 cx, .int .i64 cy, .int .i64 cw, .int .i64 (wrap64 (ch + bV)), .int .i64 aJ, .slice A l.length cc] 4 1 S ?_; clear S; intro jD S; clear fK)
     | fail)
    go_meet
    case rel => rw [IJ.out, PW.out, if_neg HX.out, if_neg HX.out]; exact S
  case rest =>
   clear S IJ PW
   rename World => wx
   have S := hcut
   clear hcut
   go_wp2_with (first
    | ((with_reducible refine aA (N := 29) rfl ?_); refine U1 (N := 29) rfl rfl S.out ?hr ?_; (case hr => first | (go_simp; done) | (go_simp; rfl)); intro aq6 aro arI mQ S1 h1; replace S := ae.mk S1; have abY := ae.mk h1; clear S1 h1; have dJ := (S.out.at gy 6).trans rfl)
    | fail)
   clear dJ
   go_loopg [7, 33] l.length (fun gg v7 v33 wr => ∃ (pre rest : List ai) (Ag : Option Addr) (cg : Nat) (og : Obj), v7 = .slice Ag pre.length cg ∧ v33 = .int .i64 (pre.length : Int) ∧ ae (pre ++ rest = l) ∧ rest.length ≤ gg ∧ ae (IR w.heap.size (.slice Ag pre.length cg) (pre.map (dI ax)) og) ∧ ae (St w P [((Value.slice Ag pre.length cg).ownBlock, og), (some b6, .cells #[.int .u8 0, .int .i64 0, .int .i64 0, .int .i64 0, .int .i64 0, .int .i64 0, .slice none 0 0] 26 (0, 0)), (some b3, .cells #[.int .u8 ck, .int .i64 cx, .int .i64 cy, .int .i64 gw, .int .i64 gh, .int .i64 aJ, .slice A l.length cc] 26 (0, 0))] [] [(.slice A l.length cc, l)] [] wr))
   case atStart => exact ⟨[], l, _, _, _, rfl, rfl, ⟨rfl⟩, Nat.le_refl _, ⟨abY.out⟩, ⟨S.out⟩⟩
   case round =>
    clear S abY
    obtain ⟨pre, rest, Ag, cg, og, rfl, rfl, HE, hgg, HI, S⟩ := hrel
    cases rest with
    | nil =>
     have hE := HE.out
     rw [List.append_nil] at hE
     have hE2 := hE.symm
     subst hE2
     clear hE HE hgg
     have hlt : ¬ ((l.length : Int) < (l.length : Int)) := by omega
     have OM := fun W hW => Xj.out Ag cg W (by have h := (Kd.eX (HI.out W hW)).2.2; rw [List.length_map] at h; exact h) (by have h := (Kd.eX (HI.out W hW)).2.1; exact h)
     have HSH := ae.mk OM
     clear OM Xj
     go_upto_if 59 with (first
      | ((with_reducible refine aA (N := 56) rfl ?_); refine U1 (N := 56) rfl rfl S.out ?hr ?_; (case hr => first | (go_simp; done) | (go_simp; rfl)); intro aq7 arp arJ vS S1 h1; replace S := ae.mk S1; have abZ := ae.mk h1; clear S1 h1; obtain ⟨dm, dn, dA, dB, fK, gI, dJ⟩ := St.fF S jy)
      | (refine cZ (some 59) Tryz.func78 S (abu ⟨ck, ⟨cx, cy, gw, gh⟩, aJ, l⟩ ax (S.out.tree _ (.head _))) ?_; clear S; intro xY S; clear dm dn dA dB fK gI dJ)
      | fail)
     (try simp only [Act.put, List.setIfInBounds_toArray, List.set_cons_zero, List.set_cons_succ])
     go_cut [9] (fun v9 wc => ∃ (A9 : Option Addr) (c9 : Nat) (o9 : Obj), v9 = .slice A9 SL.length c9 ∧ ae (IR w.heap.size (.slice A9 SL.length c9) SL o9) ∧ ae (St w P [((Value.slice A9 SL.length c9).ownBlock, o9), (some b6, .cells #[.int .u8 0, .int .i64 0, .int .i64 0, .int .i64 0, .int .i64 0, .int .i64 0, .slice none 0 0] 26 (0, 0)), (some b3, .cells #[.int .u8 ck, .int .i64 cx, .int .i64 cy, .int .i64 gw, .int .i64 gh, .int .i64 aJ, .slice A l.length cc] 26 (0, 0))] [] [(.slice A l.length cc, l)] [] wc))
     case first =>
      cases ha : iF ax ck with
      | false =>
       have hs : SL = [] := by rw [Gg.out, ha]; simp
       go_wp2
       go_meet
       case rel => rw [hs]; exact ⟨_, _, _, rfl, ⟨abZ.out⟩, ⟨S.out.Lu.eP⟩⟩
      | true =>
       have hs : SL = sl := by rw [Gg.out, ha]; simp
       go_wp2_with (first
        | (refine lK (some 63) Tryz.func79 (HSH.out _ (S.out.blk _ bf)) ?_; rintro e A_ ⟨As, cs, rfl, h1, hb⟩; refine ⟨_, rfl, ?_⟩; obtain ⟨os, S1, HI1⟩ := S.out.NV h1 hb; replace S := ae.mk S1; have HIS := ae.mk HI1; clear S1 HI1 h1 hb)
        | fail)
       go_meet
       case rel => rw [hs]; exact ⟨_, _, _, rfl, ⟨HIS.out⟩, ⟨S.out.Lu.eP.Lu.eP⟩⟩
     case rest =>
      clear S HSH Gg abZ HI
      obtain ⟨A9, c9, o9, rfl, HI9, S⟩ := hcut
      rename World => wz
      go_wp2_with (first
       | ((with_reducible refine aA (N := 66) rfl ?_); refine La (N := 66) rfl rfl S.out ?hr ?_; (case hr => first | (go_simp; done) | (go_simp; rfl)); intro Ao co FZ S1; replace S := ae.mk S1; clear S1; have dJ := (S.out.at gy 6).trans rfl)
       | fail)
      clear dJ
      go_loopg [10, 70] l.length (fun gg v10 v70 wr => ∃ (pre rest : List ai) (Ap : Option Addr) (cp : Nat), v10 = .slice Ap (kL ax pre NS 0).length cp ∧ v70 = .int .i64 (pre.length : Int) ∧ ae (pre ++ rest = l) ∧ rest.length ≤ gg ∧ ae (St w P [((Value.slice A9 SL.length c9).ownBlock, o9), (some b6, .cells #[.int .u8 0, .int .i64 0, .int .i64 0, .int .i64 0, .int .i64 0, .int .i64 0, .slice none 0 0] 26 (0, 0)), (some b3, .cells #[.int .u8 ck, .int .i64 cx, .int .i64 cy, .int .i64 gw, .int .i64 gh, .int .i64 aJ, .slice A l.length cc] 26 (0, 0))] [(.slice Ap ((kL ax pre NS 0).length) cp, (kL ax pre NS 0))] [(.slice A l.length cc, l)] [] wr))
      case atStart => exact ⟨[], l, Ao, co, (by rw [rQ]; rfl), rfl, ⟨rfl⟩, Nat.le_refl _, ⟨by rw [rQ]; exact S.out⟩⟩
      case round =>
       clear S
       obtain ⟨pre, rest, Ap, cp, rfl, rfl, HE, hgg, S⟩ := hrel
       cases rest with
       | nil =>
        have hE := HE.out
        rw [List.append_nil] at hE
        have hE2 := hE.symm
        subst hE2
        clear hE HE hgg
        have hlt : ¬ ((l.length : Int) < (l.length : Int)) := by omega
        go_wp2_with (first
         | (refine S9 24 94 93 #[.int .u8 ck, .int .i64 cx, .int .i64 cy, .int .i64 gw, .int .i64 gh, .int .i64 aJ, .slice Ap ((kL ax l NS 0).length) cp] 6 1 S ?_; clear S; intro CW S; obtain ⟨dm, dn, dA, dB, fK, gI, dJ⟩ := St.fF S gy)
         | (refine qw 26 6 95 #[.int .u8 ck, .int .i64 cx, .int .i64 cy, .int .i64 gw, .int .i64 gh, .int .i64 aJ, .slice Ap ((kL ax l NS 0).length) cp] 0 7 S ?_; clear S; intro DV S; clear dm dn dA dB fK gI dJ)
         | fail)
        refine bodyPost_ret (results_cell_row rfl _ _ b6 26 _ (0, 0) _ rfl (S.out.blk _ bf _ rfl) Tryz.underlying26 rfl (by kernel_rfl)) rfl ?_
        exact ⟨_, _, rfl, S.out.uI, S.out.below⟩
       | cons k rest =>
        have hk : k ∈ l := by rw [← HE.out]; simp
        have hlt : (pre.length : Int) < (l.length : Int) := by rw [← HE.out, List.length_append, List.length_cons]; omega
        have hw1 : wrap64 ((pre.length : Int) + 1) = ((pre ++ [k]).length : Int) := by have := gZ.out; rw [List.length_append, List.length_singleton]; unfold wrap64; omega
        have HW1 := ae.mk hw1
        have ZN := ae.mk hgg
        have HK := ae.mk hk
        have x_ := ae.mk (PY.out k hk)
        have HKT := ae.mk (HTK.out k hk)
        have HGV := ae.mk (jl.out k hk)
        have wI := ae.mk (show pre.length ≤ 1000000 by have := gZ.out; omega)
        have HJ := ae.mk (show pre.length < l.length by omega)
        obtain ⟨ed, ua, uc, ek, S1⟩ := S.out.elem (.head _) (pre.length : Int) (Int.natCast_nonneg _) hlt
        subst ek
        have hrd : aj l (pre.length : Int) = k := by rw [← HE.out]; exact jd pre k rest
        rw [hrd] at S1
        simp only [Int.toNat_natCast] at S1
        replace S := ae.mk S1
        clear S1 hrd hk hgg hw1
        go_upto_if 76 with fail
        (try simp only [Act.put, List.setIfInBounds_toArray, List.set_cons_zero, List.set_cons_succ])
        go_cut [12] (fun v12 wc => v12 = .int .i64 (NS pre.length) ∧ ae (St w P [((Value.slice A9 SL.length c9).ownBlock, o9), (some b6, .cells #[.int .u8 0, .int .i64 0, .int .i64 0, .int .i64 0, .int .i64 0, .int .i64 0, .slice none 0 0] 26 (0, 0)), (some b3, .cells #[.int .u8 ck, .int .i64 cx, .int .i64 cy, .int .i64 gw, .int .i64 gh, .int .i64 aJ, .slice (some ed) l.length cc] 26 (0, 0))] [(.slice Ap ((kL ax pre NS 0).length) cp, (kL ax pre NS 0))] [(.slice ua k.f3.length uc, k.f3), (.slice (some ed) l.length cc, l)] [((ed.add (pre.length * 7)), .int .u8 k.f0), (⟨(ed.add (pre.length * 7)).block, (ed.add (pre.length * 7)).off + 1, none⟩, .int .i64 k.f1.f0), (⟨(ed.add (pre.length * 7)).block, (ed.add (pre.length * 7)).off + 2, none⟩, .int .i64 k.f1.f1), (⟨(ed.add (pre.length * 7)).block, (ed.add (pre.length * 7)).off + 3, none⟩, .int .i64 k.f1.f2), (⟨(ed.add (pre.length * 7)).block, (ed.add (pre.length * 7)).off + 4, none⟩, .int .i64 k.f1.f3), (⟨(ed.add (pre.length * 7)).block, (ed.add (pre.length * 7)).off + 5, none⟩, .int .i64 k.f2), (⟨(ed.add (pre.length * 7)).block, (ed.add (pre.length * 7)).off + 6, none⟩, .slice ua k.f3.length uc)] wc))
        case first =>
         by_cases hp : (SL.length : Int) > 0
         ·have hpd : decide ((SL.length : Int) > 0) = true := decide_eq_true hp
          have hpe : decide (0 < (SL.length : Int)) = true := decide_eq_true hp
          have YF : decide (0 < SL.length) = true := decide_eq_true (by omega)
          have hlt2 : (pre.length : Int) < (SL.length : Int) := by rw [amG.out (by omega)]; exact hlt
          obtain ⟨ads, ea, _⟩ := Kd.ja (Kd.eX (HI9.out _ (S.out.blk _ (.head _)))).2.2 (pre.length : Int) (Int.natCast_nonneg _) hlt2
          subst ea
          have HP := ae.mk hp
          rw [YF]
          clear hp hpd hpe YF
          have xs := xy HI9.out (S.out.blk _ (.head _)) pre.length hlt2
          go_wp2
          clear xs
          go_meet
          case rel => exact ⟨by rw [Xi.out _ HJ.out, if_pos (by have := HP.out; omega)], S⟩
         ·have hpd : decide ((SL.length : Int) > 0) = false := decide_eq_false hp
          have hpe : decide (0 < (SL.length : Int)) = false := decide_eq_false hp
          have YF : decide (0 < SL.length) = false := decide_eq_false (by omega)
          have HP := ae.mk hp
          rw [YF]
          clear hp hpd hpe YF
          go_wp2
          go_meet
          case rel => exact ⟨by rw [Xi.out _ HJ.out, if_neg (by have := HP.out; omega)], S⟩
        case rest =>
         clear S
         obtain ⟨rfl, S⟩ := hcut
         rename World => wy
         obtain ⟨iP, iQ, iR, iC, iD, jk, jE⟩ := St.yA S
         have dJ := (S.out.at gy 6).trans rfl
         go_wp2_with (first
          | (refine uO (some 89) Tryz.func60 S (IH.out k HK.out (NS pre.length) (HNB.out _ HJ.out) _ ua uc _ (d_ (S.out.tree _ (.head _)))) ?_; clear S; intro Av cv FM S; clear iP iQ iR iC iD jk jE dJ)
          | ((with_reducible refine aA (N := 91) rfl ?_); at_builtin; go_loud (refine yR (.tmp 81) (.tmp 90) rfl rfl Tryz.underlying24 info26 S.out (eH ax k (NS pre.length)) (.head _) rfl (by first | (go_simp; done) | (go_simp; rfl)) (by have := wI.out; rw [yQ]; omega) ?_); intro Aq cq JK S1; rw [← ZW] at S1 ⊢; replace S := ae.mk S1; clear S1)
          | fail)
         have hw1 := HW1.out
         go_wp2
         go_roundg rest.length
         case measure => exact Nat.lt_of_lt_of_le (Nat.lt_succ_self _) ZN.out
         case rel => exact ⟨pre ++ [k], rest, Aq, cq, (by simp), (by rw [hw1]), ⟨by rw [List.append_assoc]; exact HE.out⟩, Nat.le_refl _, ⟨S.out.bD.bD.aG.aG.aG.aG.aG.aG.aG⟩⟩
    | cons k rest =>
     have hk : k ∈ l := by rw [← HE.out]; simp
     have hlt : (pre.length : Int) < (l.length : Int) := by rw [← HE.out, List.length_append, List.length_cons]; omega
     have hw1 : wrap64 ((pre.length : Int) + 1) = ((pre ++ [k]).length : Int) := by have := gZ.out; rw [List.length_append, List.length_singleton]; unfold wrap64; omega
     have HW1 := ae.mk hw1
     have ZN := ae.mk hgg
     have HK := ae.mk hk
     have x_ := ae.mk (PY.out k hk)
     have HKT := ae.mk (HTK.out k hk)
     have HGV := ae.mk (jl.out k hk)
     have wI := ae.mk (show pre.length ≤ 1000000 by have := gZ.out; omega)
     have HJ := ae.mk (show pre.length < l.length by omega)
     obtain ⟨ed, ua, uc, ek, S1⟩ := S.out.elem (.head _) (pre.length : Int) (Int.natCast_nonneg _) hlt
     subst ek
     have hrd : aj l (pre.length : Int) = k := by rw [← HE.out]; exact jd pre k rest
     rw [hrd] at S1
     simp only [Int.toNat_natCast] at S1
     replace S := ae.mk S1
     clear S1 hrd hk hgg hw1
     go_wp2
     refine jT (n := 20) (S := fun w' => St w _ _ _ _ _ w') (ds := [18]) (bA 20 0) (by kernel_rfl) rfl rfl (S.out.eP.call (bI (Below.refl _ _))) (fun hHeld => ?_); refine gG Aw.anC Aw.akC (fun ak fC => ?_)
     replace S := ae.mk (S.out.call (bI (Below.refl _ _)))
     generalize wr.drew = ar8 at S hHeld ⊢
     refine ay 0 36 (bA 20 1) ak ?_
     refine ay 1 37 (bA 20 3) ak ?_
     refine dM 2 38 (bA 20 7) ak fC hHeld ?_ (hv := by intro w' hs_; have dJ := (hs_.at bf 6).trans rfl; go_simp; with_reducible rfl)
     refine ay 3 39 (bA 20 15) ak ?_
     refine ay 4 40 (bA 20 31) ak ?_
     refine ay 5 41 (bA 20 63) ak ?_
     refine dM 6 42 (bA 20 127) ak fC hHeld ?_ (hv := by intro w' hs_; have iQ := (hs_.cell _ bf).1; have iR := (hs_.cell _ gy).1; have iC := (hs_.cell _ jy).1; have iD := (hs_.cell _ su).1; go_simp; with_reducible rfl)
     refine ay 7 43 (bA 20 255) ak ?_
     refine ay 9 45 (bA 20 767) ak ?_
     refine dM 10 46 (bA 20 1791) ak fC hHeld ?_ (hv := by intro w' hs_; have dJ := (hs_.at bf 6).trans rfl; go_simp; with_reducible rfl)
     refine ay 11 47 (bA 20 3839) ak ?_
     refine ay 12 48 (bA 20 7935) ak ?_
     refine dM 13 49 (bA 20 16127) ak fC hHeld ?_ (hv := by intro w' hs_; have iP := (hs_.cell _ (.head _)).1; have iQ := (hs_.cell _ bf).1; have iR := (hs_.cell _ gy).1; have iC := (hs_.cell _ jy).1; have iD := (hs_.cell _ su).1; have jk := (hs_.cell _ vH).1; have jE := (hs_.cell _ yM).1; go_simp; with_reducible rfl)
     refine ay 14 50 (bA 20 32511) ak ?_
     refine iH 8 (some 44) (bA 20 32767) ak (fun K hK => ?_)
     refine fO Tryz.func42 (by kernel_rfl) rfl #[.agg #[.int .i64 k.f1.f0, .int .i64 k.f1.f1, .int .i64 k.f1.f2, .int .i64 k.f1.f3], .int .u8 ax] (by rfl) rfl rfl (by (try simp only [List.map_toArray, List.map_cons, List.map_nil]); first | done | rfl) ?_
     refine (Bv k.f1 ax).mono ?_
     rintro e WR ⟨rfl, hb⟩
     refine ⟨_, rfl, ?_⟩
     replace S := ae.mk (S.out.call hb)
     clear hb
     refine hK.out _ _ S.out.eP (fun hHeld => ?_)
     clear hK K
     refine dO 44 ?_
     refine iH 15 (some 51) (bA 20 65535) ak (fun K hK => ?_)
     refine fO Tryz.func59 (by kernel_rfl) rfl #[.agg #[.int .u8 k.f0, .int .i64 k.f1.f0, .int .i64 k.f1.f1, .int .i64 k.f1.f2, .int .i64 k.f1.f3, .int .i64 k.f2, .slice ua k.f3.length uc], .int .u8 ax] (by rfl) rfl rfl (by (try simp only [List.map_toArray, List.map_cons, List.map_nil]); first | done | rfl) ?_
     refine (WB k ax x_.out HKT.out (S.out.tree _ (.head _))).mono ?_
     rintro e WS ⟨rfl, hb⟩
     refine ⟨_, rfl, ?_⟩
     replace S := ae.mk (S.out.call hb)
     clear hb
     refine hK.out _ _ S.out.eP (fun hHeld => ?_)
     clear hK K
     refine dO 51 ?_
     refine ay 16 52 (bA 20 131071) ak ?_
     refine iH 17 (some 53) (bA 20 262143) ak (fun K hK => ?_)
     refine TJ (w1 := ?_) (v := ?_) (by rfl) rfl ?_ ?_
     rotate_left 2
     ·go_simp
      constructor
      ·rfl
      ·rfl
     refine hK.out _ _ (S.out.eP.call (aY (Below.refl _ _) _)) (fun hHeld => ?_)
     clear hK K
     refine dO 53 ?_
     refine sK 18 (some 54) (bA 20 524287) ak (fun K hK => ?_)
     go_loud (refine Z7 (.tmp 36) (.tmp 53) (by rfl) rfl Tryz.underlying41 info3 S.out HI.out (wrap64 (aQ ax k.f1 - dG ax k)) rfl rfl (by have := wI.out; simp only [List.length_map]; omega) ?_)
     intro Ag2 cg2 og2 abM S1 I1
     rw [show pre.map (dI ax) ++ [wrap64 (aQ ax k.f1 - dG ax k)] = (pre ++ [k]).map (dI ax) by rw [HGV.out]; simp] at S1 I1 ⊢
     rw [show ((pre ++ [k]).map (dI ax)).length = (pre ++ [k]).length by simp] at S1 I1 ⊢
     replace S := ae.mk S1
     have HI2 := ae.mk I1
     clear S1 I1 HI
     refine hK.out _ _ ?_
     clear hK K
     refine dO 54 ?_
     refine ay 19 7 (bA 20 1048575) ak ?_
     refine lJ (jc ak.out (by kernel_rfl)) ?_
     clear hHeld
     go_wp2
     have hw1 := HW1.out
     go_wp2
     go_roundg rest.length
     case measure => exact Nat.lt_of_lt_of_le (Nat.lt_succ_self _) ZN.out
     case rel => exact ⟨pre ++ [k], rest, Ag2, cg2, og2, (by simp), (by rw [hw1]), ⟨by rw [List.append_assoc]; exact HE.out⟩, Nat.le_refl _, ⟨HI2.out⟩, ⟨S.out.bD.aG.aG.aG.aG.aG.aG.aG⟩⟩
def Ah.T9 : Bool × List (List Nat × List Nat) := (true, [([], []), ([], []), ([], []), ([0, 1, 2], [0, 1, 2]), ([], []), ([4], [4]), ([5], [5]), ([], []), ([7], [7]), ([8], [8]), ([3, 6, 9, 3], [3, 6, 9]), ([10, 10, 0, 1, 2, 3, 4, 5, 6, 7, 8, 9, 10], [10]), ([11, 0, 1, 2, 3, 4, 5, 6, 7, 8, 9, 10, 11], [])])
def Ah.B9 : List Nat := [0, 0, 0, 7, 0, 16, 48, 0, 128, 384, 1023, 2047, 4095]
theorem Ah.Hq : je .any (opsOf Tryz.f40 9) = Ah.T9 := by kernel_rfl
theorem Ah.Dn : iM Ah.T9.2 Ah.B9 = true := by kernel_rfl
def atR (ax : Int) (r : dW) : Int := if ax = 1 then r.f0 else r.f1
theorem aln {ax : Int} {c : ai} {b : Int} (ht : dF c = true) (hax : ax = 1 ∨ ax = 2) :
  yj ax c b = (decide (b > 10000) || (decide (b < -10000) || (decide (wrap64 (wrap64 (atR ax c.f1 + aQ ax c.f1) + b) > 10000) || decide (wrap64 (aQ ax c.f1 + b) < dG ax c)))) := by
 have hm := kR ht
 have hr := uD (lM (oL hm))
 have r := oO hr hax
 have hg := Pure.mO hax ht
 have hw1 : wrap64 (-(dI ax c)) = -(dI ax c) := by rw [hg.1]; unfold wrap64; omega
 have hq : 0 ≤ c.f1.f0 ∧ 0 ≤ c.f1.f1 ∧ c.f1.f0 + c.f1.f2 ≤ 10000 ∧ c.f1.f1 + c.f1.f3 ≤ 10000 ∧ 1 ≤ c.f1.f2 ∧ 1 ≤ c.f1.f3 := by
  unfold lV qN at hr
  simp only [Bool.and_eq_true, decide_eq_true_eq] at hr
  omega
 have he : aQ ax ⟨0, 0, wrap64 (c.f1.f0 + c.f1.f2), wrap64 (c.f1.f1 + c.f1.f3)⟩ = atR ax c.f1 + aQ ax c.f1 := by
  unfold aQ atR
  rcases hax with rfl | rfl
  ·simp only [if_true]; unfold wrap64; omega
  ·simp only [show ¬ ((2 : Int) = 1) by decide, if_false, if_true]; unfold wrap64; omega
 have ha : 0 ≤ atR ax c.f1 ∧ atR ax c.f1 + aQ ax c.f1 ≤ 10000 := by
  unfold aQ atR
  rcases hax with rfl | rfl
  ·simp only [if_true]; omega
  ·simp only [show ¬ ((2 : Int) = 1) by decide, if_false, if_true]; omega
 generalize atR ax c.f1 = at_ at *
 generalize aQ ax c.f1 = s at *
 generalize dG ax c = l at *
 unfold yj
 rw [hw1, he, hg.1, show wrap64 (10000 - (at_ + s)) = 10000 - (at_ + s) by unfold wrap64; omega]
 by_cases h1 : b > 10000
 ·rw [decide_eq_true h1, decide_eq_true (show b > 10000 - (at_ + s) by omega)]; simp
 ·by_cases h2 : b < -10000
  ·rw [decide_eq_true h2, decide_eq_true (show b < -(s - l) by omega)]; simp
  ·rw [decide_eq_false h1, decide_eq_false h2, show wrap64 (wrap64 (at_ + s) + b) = at_ + s + b by unfold wrap64; omega, show wrap64 (s + b) = s + b by unfold wrap64; omega]
   simp only [Bool.false_or]
   rw [Bool.or_comm]
   congr 1
   ·exact decide_eq_decide.2 (by omega)
   ·exact decide_eq_decide.2 (by omega)
theorem yI (ax : Int) (c : ai) (hz : sz c ≤ 1048576) (bV : Int) (P : Nat → Prop) (A : Option Addr) (cc : Nat) (w : World) (hv : Kd.V k26 26 w w.heap.size P (.slice A c.f3.length cc) c.f3) :
  Calls Tryz.prog 40 #[.agg #[.int .u8 c.f0, .int .i64 c.f1.f0, .int .i64 c.f1.f1, .int .i64 c.f1.f2, .int .i64 c.f1.f3, .int .i64 c.f2, .slice A c.f3.length cc], .int .u8 ax, .int .i64 bV] w (EJ w P (aZ ax c bV) (aN ax c bV)) := by
 have S := ae.mk (St.start (ts := [(.slice A c.f3.length cc, c.f3)]) (b0 := w.heap.size) (w := w) (P := P) (fun t ht => by rw [List.mem_singleton.1 ht]; exact hv))
 have HZ := ae.mk hz
 have hO := fun h1 h2 => @aln ax c bV h1 h2
 obtain ⟨ck, ⟨cx, cy, cw, ch⟩, aJ, l⟩ := c
 simp only [] at S hO
 clear hv hz
 cases ht : dF ⟨ck, ⟨cx, cy, cw, ch⟩, aJ, l⟩ with
 | false =>
  have HT := ae.mk ht
  have HB := ae.mk (show sQ ax ⟨ck, ⟨cx, cy, cw, ch⟩, aJ, l⟩ = true by unfold sQ; rw [ht]; rfl)
  clear ht hO
  go_enter Tryz.func40, Tryz.ntmps40
  go_wp2_with (first | (refine boxS 3 _ 26 S ?_; clear S; intro b3 eU S) | (refine boxS 6 _ 26 S ?_; clear S; intro b6 fM S; obtain ⟨dm, dn, dA, dB, fK, gI, dJ⟩ := St.fF S bf) | (refine cZ (some 11) Tryz.func20 S (oC HT.out (vM ⟨ck, ⟨cx, cy, cw, ch⟩, aJ, l⟩ HZ.out (S.out.tree _ (.head _)))) ?_; clear S; intro iq S; clear dm dn dA dB fK gI dJ) | (refine gY 26 6 21 #[.int .u8 0, .int .i64 0, .int .i64 0, .int .i64 0, .int .i64 0, .int .i64 0, .slice none 0 0] 0 7 S ?_; clear S; intro jD S))
  refine bodyPost_ret (eQ rfl _ _ b6 26 _ (0, 0) _ rfl (S.out.blk _ (.head _) _ rfl) Tryz.underlying26 rfl (by kernel_rfl)) rfl ?_
  rw [show aN ax ⟨ck, ⟨cx, cy, cw, ch⟩, aJ, l⟩ bV = 1 by unfold aN; rw [if_pos HB.out], show aZ ax ⟨ck, ⟨cx, cy, cw, ch⟩, aJ, l⟩ bV = z26 by unfold aZ; rw [if_pos HB.out]]
  exact ⟨_, _, rfl, Kd.pI _ _ _ _ _, S.out.below⟩
 | true =>
  have HT := ae.mk ht
  by_cases h1 : ax < 1
  ·have h1b : decide (ax < 1) = true := decide_eq_true h1
   have HB := ae.mk (show sQ ax ⟨ck, ⟨cx, cy, cw, ch⟩, aJ, l⟩ = true by unfold sQ; rw [ht, show (ax != 1) = true from bne_iff_ne.mpr (by omega), show (ax != 2) = true from bne_iff_ne.mpr (by omega)]; rfl)
   clear ht hO h1
   go_enter Tryz.func40, Tryz.ntmps40
   go_wp2_with (first | (refine boxS 3 _ 26 S ?_; clear S; intro b3 eU S) | (refine boxS 6 _ 26 S ?_; clear S; intro b6 fM S; obtain ⟨dm, dn, dA, dB, fK, gI, dJ⟩ := St.fF S bf) | (refine cZ (some 11) Tryz.func20 S (oC HT.out (vM ⟨ck, ⟨cx, cy, cw, ch⟩, aJ, l⟩ HZ.out (S.out.tree _ (.head _)))) ?_; clear S; intro iq S; clear dm dn dA dB fK gI dJ) | (refine gY 26 6 21 #[.int .u8 0, .int .i64 0, .int .i64 0, .int .i64 0, .int .i64 0, .int .i64 0, .slice none 0 0] 0 7 S ?_; clear S; intro jD S))
   refine bodyPost_ret (eQ rfl _ _ b6 26 _ (0, 0) _ rfl (S.out.blk _ (.head _) _ rfl) Tryz.underlying26 rfl (by kernel_rfl)) rfl ?_
   rw [show aN ax ⟨ck, ⟨cx, cy, cw, ch⟩, aJ, l⟩ bV = 1 by unfold aN; rw [if_pos HB.out], show aZ ax ⟨ck, ⟨cx, cy, cw, ch⟩, aJ, l⟩ bV = z26 by unfold aZ; rw [if_pos HB.out]]
   exact ⟨_, _, rfl, Kd.pI _ _ _ _ _, S.out.below⟩
  ·by_cases h2 : ax > 2
   ·have h1b : decide (ax < 1) = false := decide_eq_false h1
    have h2b : decide (ax > 2) = true := decide_eq_true h2
    have h2c : decide (2 < ax) = true := decide_eq_true h2
    have HB := ae.mk (show sQ ax ⟨ck, ⟨cx, cy, cw, ch⟩, aJ, l⟩ = true by unfold sQ; rw [ht, show (ax != 1) = true from bne_iff_ne.mpr (by omega), show (ax != 2) = true from bne_iff_ne.mpr (by omega)]; rfl)
    clear ht hO h1 h2
    go_enter Tryz.func40, Tryz.ntmps40
    go_wp2_with (first | (refine boxS 3 _ 26 S ?_; clear S; intro b3 eU S) | (refine boxS 6 _ 26 S ?_; clear S; intro b6 fM S; obtain ⟨dm, dn, dA, dB, fK, gI, dJ⟩ := St.fF S bf) | (refine cZ (some 11) Tryz.func20 S (oC HT.out (vM ⟨ck, ⟨cx, cy, cw, ch⟩, aJ, l⟩ HZ.out (S.out.tree _ (.head _)))) ?_; clear S; intro iq S; clear dm dn dA dB fK gI dJ) | (refine gY 26 6 21 #[.int .u8 0, .int .i64 0, .int .i64 0, .int .i64 0, .int .i64 0, .int .i64 0, .slice none 0 0] 0 7 S ?_; clear S; intro jD S))
    refine bodyPost_ret (eQ rfl _ _ b6 26 _ (0, 0) _ rfl (S.out.blk _ (.head _) _ rfl) Tryz.underlying26 rfl (by kernel_rfl)) rfl ?_
    rw [show aN ax ⟨ck, ⟨cx, cy, cw, ch⟩, aJ, l⟩ bV = 1 by unfold aN; rw [if_pos HB.out], show aZ ax ⟨ck, ⟨cx, cy, cw, ch⟩, aJ, l⟩ bV = z26 by unfold aZ; rw [if_pos HB.out]]
    exact ⟨_, _, rfl, Kd.pI _ _ _ _ _, S.out.below⟩
   ·have hax : ax = 1 ∨ ax = 2 := by omega
    have D5 := ae.mk hax
    have hO2 := hO ht hax
    have HB := ae.mk (show sQ ax ⟨ck, ⟨cx, cy, cw, ch⟩, aJ, l⟩ = false by unfold sQ; rw [ht]; rcases hax with rfl | rfl <;> rfl)
    have h1b : decide (ax < 1) = false := decide_eq_false h1
    have h2b : decide (ax > 2) = false := decide_eq_false h2
    have h2c : decide (2 < ax) = false := decide_eq_false h2
    have hfit := fun h => @ag0 ax ⟨ck, ⟨cx, cy, cw, ch⟩, aJ, l⟩ bV HB.out h
    have sO := ae.mk hO2
    have ags := ae.mk hfit
    clear ht hax h1 h2 hO hO2 hfit
    go_enter Tryz.func40, Tryz.ntmps40
    go_upto_if 30 with (first | (refine boxS 3 _ 26 S ?_; clear S; intro b3 eU S) | (refine boxS 6 _ 26 S ?_; clear S; intro b6 fM S; obtain ⟨dm, dn, dA, dB, fK, gI, dJ⟩ := St.fF S bf) | (refine cZ (some 11) Tryz.func20 S (oC HT.out (vM ⟨ck, ⟨cx, cy, cw, ch⟩, aJ, l⟩ HZ.out (S.out.tree _ (.head _)))) ?_; clear S; intro iq S; clear dm dn dA dB fK gI dJ; have dn := (S.out.at bf 1).trans rfl; have dA := (S.out.at bf 2).trans rfl; have dB := (S.out.at bf 3).trans rfl; have fK := (S.out.at bf 4).trans rfl) | (refine cZ (some 25) Tryz.func42 S (Bv ⟨cx, cy, cw, ch⟩ ax) ?_; clear S; intro jD S; clear dn dA dB fK; have dn := (S.out.at bf 1).trans rfl))
    clear dn
    (skip)
    go_cut [9] (fun v9 wc => v9 = .int .i64 (atR ax ⟨cx, cy, cw, ch⟩) ∧ ae (St w P [(some b6, .cells #[.int .u8 0, .int .i64 0, .int .i64 0, .int .i64 0, .int .i64 0, .int .i64 0, .slice none 0 0] 26 (0, 0)), (some b3, .cells #[.int .u8 ck, .int .i64 cx, .int .i64 cy, .int .i64 cw, .int .i64 ch, .int .i64 aJ, .slice A l.length cc] 26 (0, 0))] [] [(.slice A l.length cc, l)] [] wc))
    case first =>
     by_cases hx : ax = 1
     ·have hxb : (ax == 2) = false := by rw [hx]; rfl
      have HX := ae.mk hx
      clear hx
      go_wp2
      go_meet
      case rel => exact ⟨by unfold atR; rw [if_pos HX.out], S⟩
     ·have hxb : (ax == 2) = true := by rw [show ax = 2 from D5.out.resolve_left hx]; rfl
      have HX := ae.mk hx
      clear hx
      have dA := (S.out.at bf 2).trans rfl
      go_wp2
      clear dA
      go_meet
      case rel => exact ⟨by unfold atR; rw [if_neg HX.out], S⟩
    case rest =>
     clear S
     obtain ⟨rfl, S⟩ := hcut
     rename World => wx
     have hO2 := sO.out
     have hfit := ags.out
     clear sO ags
     by_cases h4 : bV > 10000
     ·have hO3 := hO2
      rw [decide_eq_true h4, Bool.true_or] at hO3
      have Gt : decide (bV > 10000) = true := decide_eq_true h4
      have h4c : decide (10000 < bV) = true := decide_eq_true h4
      clear h4 hO2
      have HO := ae.mk hO3
      clear hO3 hfit
      go_wp2_with ((refine gY 26 6 57 #[.int .u8 0, .int .i64 0, .int .i64 0, .int .i64 0, .int .i64 0, .int .i64 0, .slice none 0 0] 0 7 S ?_; clear S; intro eU S))
      refine bodyPost_ret (eQ rfl _ _ b6 26 _ (0, 0) _ rfl (S.out.blk _ (.head _) _ rfl) Tryz.underlying26 rfl (by kernel_rfl)) rfl ?_
      rw [show aN ax ⟨ck, ⟨cx, cy, cw, ch⟩, aJ, l⟩ bV = 7 by unfold aN; rw [if_neg (by rw [HB.out]; simp), if_pos HO.out], show aZ ax ⟨ck, ⟨cx, cy, cw, ch⟩, aJ, l⟩ bV = z26 by unfold aZ; rw [if_neg (by rw [HB.out]; simp), if_pos HO.out]]
      exact ⟨_, _, rfl, Kd.pI _ _ _ _ _, S.out.below⟩
     ·rw [decide_eq_false h4, Bool.false_or] at hO2
      have Gt : decide (bV > 10000) = false := decide_eq_false h4
      have h4c : decide (10000 < bV) = false := decide_eq_false h4
      by_cases h5 : bV < -10000
      ·have hO3 := hO2
       rw [decide_eq_true h5, Bool.true_or] at hO3
       have KI : decide (bV < -10000) = true := decide_eq_true h5
       clear h4 h5 hO2
       have HO := ae.mk hO3
       clear hO3 hfit
       go_wp2_with ((refine gY 26 6 57 #[.int .u8 0, .int .i64 0, .int .i64 0, .int .i64 0, .int .i64 0, .int .i64 0, .slice none 0 0] 0 7 S ?_; clear S; intro eU S))
       refine bodyPost_ret (eQ rfl _ _ b6 26 _ (0, 0) _ rfl (S.out.blk _ (.head _) _ rfl) Tryz.underlying26 rfl (by kernel_rfl)) rfl ?_
       rw [show aN ax ⟨ck, ⟨cx, cy, cw, ch⟩, aJ, l⟩ bV = 7 by unfold aN; rw [if_neg (by rw [HB.out]; simp), if_pos HO.out], show aZ ax ⟨ck, ⟨cx, cy, cw, ch⟩, aJ, l⟩ bV = z26 by unfold aZ; rw [if_neg (by rw [HB.out]; simp), if_pos HO.out]]
       exact ⟨_, _, rfl, Kd.pI _ _ _ _ _, S.out.below⟩
      ·rw [decide_eq_false h5, Bool.false_or] at hO2
       have KI : decide (bV < -10000) = false := decide_eq_false h5
       by_cases h6 : wrap64 (wrap64 ((atR ax ⟨cx, cy, cw, ch⟩) + aQ ax ⟨cx, cy, cw, ch⟩) + bV) > 10000
       ·have hO3 := hO2
        rw [decide_eq_true h6, Bool.true_or] at hO3
        have XX : decide (wrap64 (wrap64 ((atR ax ⟨cx, cy, cw, ch⟩) + aQ ax ⟨cx, cy, cw, ch⟩) + bV) > 10000) = true := decide_eq_true h6
        have h6c : decide (10000 < wrap64 (wrap64 ((atR ax ⟨cx, cy, cw, ch⟩) + aQ ax ⟨cx, cy, cw, ch⟩) + bV)) = true := decide_eq_true h6
        clear h4 h5 h6 hO2
        have HO := ae.mk hO3
        clear hO3 hfit
        go_wp2_with ((refine gY 26 6 57 #[.int .u8 0, .int .i64 0, .int .i64 0, .int .i64 0, .int .i64 0, .int .i64 0, .slice none 0 0] 0 7 S ?_; clear S; intro eU S))
        refine bodyPost_ret (eQ rfl _ _ b6 26 _ (0, 0) _ rfl (S.out.blk _ (.head _) _ rfl) Tryz.underlying26 rfl (by kernel_rfl)) rfl ?_
        rw [show aN ax ⟨ck, ⟨cx, cy, cw, ch⟩, aJ, l⟩ bV = 7 by unfold aN; rw [if_neg (by rw [HB.out]; simp), if_pos HO.out], show aZ ax ⟨ck, ⟨cx, cy, cw, ch⟩, aJ, l⟩ bV = z26 by unfold aZ; rw [if_neg (by rw [HB.out]; simp), if_pos HO.out]]
        exact ⟨_, _, rfl, Kd.pI _ _ _ _ _, S.out.below⟩
       ·rw [decide_eq_false h6, Bool.false_or] at hO2
        have XX : decide (wrap64 (wrap64 ((atR ax ⟨cx, cy, cw, ch⟩) + aQ ax ⟨cx, cy, cw, ch⟩) + bV) > 10000) = false := decide_eq_false h6
        have h6c : decide (10000 < wrap64 (wrap64 ((atR ax ⟨cx, cy, cw, ch⟩) + aQ ax ⟨cx, cy, cw, ch⟩) + bV)) = false := decide_eq_false h6
        by_cases h7 : wrap64 (aQ ax ⟨cx, cy, cw, ch⟩ + bV) < dG ax ⟨ck, ⟨cx, cy, cw, ch⟩, aJ, l⟩
        ·have hO3 := hO2
         rw [decide_eq_true h7] at hO3
         have h7b : decide (wrap64 (aQ ax ⟨cx, cy, cw, ch⟩ + bV) < dG ax ⟨ck, ⟨cx, cy, cw, ch⟩, aJ, l⟩) = true := decide_eq_true h7
         clear h4 h5 h6 h7 hO2
         have HO := ae.mk hO3
         clear hO3 hfit
         obtain ⟨dm, dn, dA, dB, fK, gI, dJ⟩ := St.fF S bf
         go_wp2_with (first | (refine ik 54 rfl ?_; (refine gW (by rfl) ?_; dsimp only); refine cZ (some 54) Tryz.func59 S (WB ⟨ck, ⟨cx, cy, cw, ch⟩, aJ, l⟩ ax HZ.out HT.out (S.out.tree _ (.head _))) ?_; clear S; intro eU S; clear dm dn dA dB fK gI dJ) | (refine gY 26 6 57 #[.int .u8 0, .int .i64 0, .int .i64 0, .int .i64 0, .int .i64 0, .int .i64 0, .slice none 0 0] 0 7 S ?_; clear S; intro fM S))
         refine bodyPost_ret (eQ rfl _ _ b6 26 _ (0, 0) _ rfl (S.out.blk _ (.head _) _ rfl) Tryz.underlying26 rfl (by kernel_rfl)) rfl ?_
         rw [show aN ax ⟨ck, ⟨cx, cy, cw, ch⟩, aJ, l⟩ bV = 7 by unfold aN; rw [if_neg (by rw [HB.out]; simp), if_pos HO.out], show aZ ax ⟨ck, ⟨cx, cy, cw, ch⟩, aJ, l⟩ bV = z26 by unfold aZ; rw [if_neg (by rw [HB.out]; simp), if_pos HO.out]]
         exact ⟨_, _, rfl, Kd.pI _ _ _ _ _, S.out.below⟩
        ·rw [decide_eq_false h7] at hO2
         have h7b : decide (wrap64 (aQ ax ⟨cx, cy, cw, ch⟩ + bV) < dG ax ⟨ck, ⟨cx, cy, cw, ch⟩, aJ, l⟩) = false := decide_eq_false h7
         have HO := ae.mk hO2
         have hf := hfit hO2
         have HZ2 := ae.mk (show sz ⟨ck, ⟨cx, cy, cw, ch⟩, aJ, l⟩ ≤ 100000 by omega)
         have HZ3 := ae.mk (show sz (eH ax ⟨ck, ⟨cx, cy, cw, ch⟩, aJ, l⟩ bV) ≤ 1000000 by rw [(Qs ax _).1 _ (Nat.le_refl _)]; omega)
         have HBY := ae.mk (show -100000 ≤ bV ∧ bV ≤ 100000 by omega)
         clear hf hfit h4 h5 h6 h7 hO2
         obtain ⟨dm, dn, dA, dB, fK, gI, dJ⟩ := St.fF S bf
         go_wp2_with ((refine ik 54 rfl ?_; (refine gW (by rfl) ?_; dsimp only); refine cZ (some 54) Tryz.func59 S (WB ⟨ck, ⟨cx, cy, cw, ch⟩, aJ, l⟩ ax HZ.out HT.out (S.out.tree _ (.head _))) ?_; clear S; intro eU S; clear dm dn dA dB fK gI dJ))
         refine jT (n := 13) (S := fun w' => St w _ _ _ _ _ w') (ds := [11]) (bA 13 0) (by kernel_rfl) rfl rfl (S.out.call (bI (Below.refl _ _))) (fun hHeld => ?_); refine gG Ah.Hq Ah.Dn (fun ak fC => ?_)
         replace S := ae.mk (S.out.call (bI (Below.refl _ _)))
         generalize eU.drew = wd2 at S hHeld ⊢
         refine dM 0 58 (bA 13 1) ak fC hHeld ?_ (hv := by intro w' hs_; have dm := (hs_.at bf 0).trans rfl; have dn := (hs_.at bf 1).trans rfl; have dA := (hs_.at bf 2).trans rfl; have dB := (hs_.at bf 3).trans rfl; have fK := (hs_.at bf 4).trans rfl; have gI := (hs_.at bf 5).trans rfl; have dJ := (hs_.at bf 6).trans rfl; go_simp; with_reducible rfl)
         refine ay 1 59 (bA 13 3) ak ?_
         refine ay 2 60 (bA 13 7) ak ?_
         refine ay 4 62 (bA 13 23) ak ?_
         refine ay 5 63 (bA 13 55) ak ?_
         refine dM 6 64 (bA 13 119) ak fC hHeld ?_ (hv := by intro w' hs_; have dn := (hs_.at bf 1).trans rfl; go_simp; with_reducible rfl)
         refine ay 7 65 (bA 13 247) ak ?_
         refine ay 8 66 (bA 13 503) ak ?_
         refine dM 9 67 (bA 13 1015) ak fC hHeld ?_ (hv := by intro w' hs_; have dA := (hs_.at bf 2).trans rfl; go_simp; with_reducible rfl)
         refine iH 3 (some 61) (bA 13 1023) ak (fun K hK => ?_)
         refine fO Tryz.func60 (by kernel_rfl) rfl #[.agg #[.int .u8 ck, .int .i64 cx, .int .i64 cy, .int .i64 cw, .int .i64 ch, .int .i64 aJ, .slice A l.length cc], .int .u8 ax, .int .i64 bV] (by rfl) rfl rfl (by (try simp only [List.map_toArray, List.map_cons, List.map_nil]); rfl) ?_
         refine (afp ax D5.out 100000 ⟨ck, ⟨cx, cy, cw, ch⟩, aJ, l⟩ HZ2.out (Nat.le_refl _) HT.out bV HBY.out _ A cc _ (d_ (S.out.tree _ (.head _)))).mono ?_
         rintro e iq ⟨A61, amT, rfl, h1, hb⟩
         refine ⟨_, rfl, ?_⟩
         replace S := ae.mk (S.out.res (Kd.qY (base' := 0) h1) hb)
         clear h1 hb
         refine hK.out _ _ S.out.bD (fun hHeld => ?_)
         clear hK K
         refine dO 61 ?_
         refine iH 10 (some 68) (bA 13 2047) ak (fun K hK => ?_)
         refine fO Tryz.func22 (by kernel_rfl) rfl #[.agg #[.int .u8 ((eH ax ⟨ck, ⟨cx, cy, cw, ch⟩, aJ, l⟩ bV).f0), .int .i64 ((eH ax ⟨ck, ⟨cx, cy, cw, ch⟩, aJ, l⟩ bV).f1.f0), .int .i64 ((eH ax ⟨ck, ⟨cx, cy, cw, ch⟩, aJ, l⟩ bV).f1.f1), .int .i64 ((eH ax ⟨ck, ⟨cx, cy, cw, ch⟩, aJ, l⟩ bV).f1.f2), .int .i64 ((eH ax ⟨ck, ⟨cx, cy, cw, ch⟩, aJ, l⟩ bV).f1.f3), .int .i64 ((eH ax ⟨ck, ⟨cx, cy, cw, ch⟩, aJ, l⟩ bV).f2), .slice A61 ((eH ax ⟨ck, ⟨cx, cy, cw, ch⟩, aJ, l⟩ bV).f3.length) amT], .int .i64 cx, .int .i64 cy] (by rfl) rfl rfl (by (try simp only [List.map_toArray, List.map_cons, List.map_nil]); rfl) ?_
         refine (G5 (eH ax ⟨ck, ⟨cx, cy, cw, ch⟩, aJ, l⟩ bV) cx cy HZ3.out (S.out.tree _ (.head _))).mono ?_
         rintro e jD ⟨A68, aak, rfl, h1, hb⟩
         refine ⟨_, rfl, ?_⟩
         replace S := ae.mk (S.out.CO h1 hb)
         clear h1 hb
         refine hK.out _ _ S.out.free.bD.bD (fun hHeld => ?_)
         clear hK K
         refine dO 68 ?_
         refine sK 11 none (bA 13 4095) ak (fun K hK => ?_)
         refine vZ 0 rfl 26 (.tmp 6) (.tmp 68) rfl #[.int .u8 ((bU (eH ax ⟨ck, ⟨cx, cy, cw, ch⟩, aJ, l⟩ bV) cx cy).f0), .int .i64 ((bU (eH ax ⟨ck, ⟨cx, cy, cw, ch⟩, aJ, l⟩ bV) cx cy).f1.f0), .int .i64 ((bU (eH ax ⟨ck, ⟨cx, cy, cw, ch⟩, aJ, l⟩ bV) cx cy).f1.f1), .int .i64 ((bU (eH ax ⟨ck, ⟨cx, cy, cw, ch⟩, aJ, l⟩ bV) cx cy).f1.f2), .int .i64 ((bU (eH ax ⟨ck, ⟨cx, cy, cw, ch⟩, aJ, l⟩ bV) cx cy).f1.f3), .int .i64 ((bU (eH ax ⟨ck, ⟨cx, cy, cw, ch⟩, aJ, l⟩ bV) cx cy).f2), .slice A68 ((bU (eH ax ⟨ck, ⟨cx, cy, cw, ch⟩, aJ, l⟩ bV) cx cy).f3.length) aak] (j := 0) (u := .agg #[.int .u8 ((bU (eH ax ⟨ck, ⟨cx, cy, cw, ch⟩, aJ, l⟩ bV) cx cy).f0), .int .i64 ((bU (eH ax ⟨ck, ⟨cx, cy, cw, ch⟩, aJ, l⟩ bV) cx cy).f1.f0), .int .i64 ((bU (eH ax ⟨ck, ⟨cx, cy, cw, ch⟩, aJ, l⟩ bV) cx cy).f1.f1), .int .i64 ((bU (eH ax ⟨ck, ⟨cx, cy, cw, ch⟩, aJ, l⟩ bV) cx cy).f1.f2), .int .i64 ((bU (eH ax ⟨ck, ⟨cx, cy, cw, ch⟩, aJ, l⟩ bV) cx cy).f1.f3), .int .i64 ((bU (eH ax ⟨ck, ⟨cx, cy, cw, ch⟩, aJ, l⟩ bV) cx cy).f2), .slice A68 ((bU (eH ax ⟨ck, ⟨cx, cy, cw, ch⟩, aJ, l⟩ bV) cx cy).f3.length) aak]) (df := [.int .u8 ((bU (eH ax ⟨ck, ⟨cx, cy, cw, ch⟩, aJ, l⟩ bV) cx cy).f0), .int .i64 ((bU (eH ax ⟨ck, ⟨cx, cy, cw, ch⟩, aJ, l⟩ bV) cx cy).f1.f0), .int .i64 ((bU (eH ax ⟨ck, ⟨cx, cy, cw, ch⟩, aJ, l⟩ bV) cx cy).f1.f1), .int .i64 ((bU (eH ax ⟨ck, ⟨cx, cy, cw, ch⟩, aJ, l⟩ bV) cx cy).f1.f2), .int .i64 ((bU (eH ax ⟨ck, ⟨cx, cy, cw, ch⟩, aJ, l⟩ bV) cx cy).f1.f3), .int .i64 ((bU (eH ax ⟨ck, ⟨cx, cy, cw, ch⟩, aJ, l⟩ bV) cx cy).f2), .slice A68 ((bU (eH ax ⟨ck, ⟨cx, cy, cw, ch⟩, aJ, l⟩ bV) cx cy).f3.length) aak]) S.out (by rfl) rfl rfl rfl rfl (by kernel_rfl) (by simp [Value.oneCell']) (by simp) rfl ?_
         intro mQ S1
         simp only [List.set_cons_zero, List.set_cons_succ] at S1
         replace S := ae.mk S1
         clear S1
         refine hK.out _ _ ?_
         clear hK K
         refine ay 12 7 (bA 13 8191) ak ?_
         refine lJ (jc ak.out (by kernel_rfl)) ?_
         clear hHeld
         go_wp2
         refine bodyPost_ret (eQ rfl _ _ b6 26 _ (0, 0) _ rfl (S.out.blk _ (.head _) _ rfl) Tryz.underlying26 rfl (by kernel_rfl)) rfl ?_
         rw [show aN ax ⟨ck, ⟨cx, cy, cw, ch⟩, aJ, l⟩ bV = 0 by unfold aN; rw [if_neg (by rw [HB.out]; simp), if_neg (by rw [HO.out]; simp)], show aZ ax ⟨ck, ⟨cx, cy, cw, ch⟩, aJ, l⟩ bV = bU (eH ax ⟨ck, ⟨cx, cy, cw, ch⟩, aJ, l⟩ bV) cx cy by unfold aZ; rw [if_neg (by rw [HB.out]; simp), if_neg (by rw [HO.out]; simp)]]
         exact ⟨_, _, rfl, S.out.uI, S.out.below⟩
def r_ (h i : Nat) (g : ai) : Nat → List ai → List ai
 | _, [] => []
 | j, k :: ks => (if j = h then [g] else if j = i then [] else [k]) ++ r_ h i g (j + 1) ks
theorem QA (h i : Nat) (g : ai) : ∀ (a b : List ai) (j : Nat), r_ h i g j (a ++ b) = r_ h i g j a ++ r_ h i g (j + a.length) b := by
 intro a
 induction a with
 | nil => intro b j; simp [r_]
 | cons k ks ih =>
  intro b j
  rw [List.cons_append, r_, r_, ih, List.append_assoc, List.length_cons, show j + 1 + ks.length = j + (ks.length + 1) by omega]
theorem XA (h i : Nat) (g k : ai) (j : Nat) : r_ h i g j [k] = if j = h then [g] else if j = i then [] else [k] := by
 rw [r_, r_, List.append_nil]
theorem QB (h i : Nat) (g : ai) : ∀ (l : List ai) (j : Nat), (∀ m, j ≤ m → m < j + l.length → m ≠ h ∧ m ≠ i) → r_ h i g j l = l := by
 intro l
 induction l with
 | nil => intro j _; rfl
 | cons k ks ih =>
  intro j hj
  have h0 := hj j (Nat.le_refl _) (by simp)
  rw [r_, if_neg h0.1, if_neg h0.2, ih (j + 1) (fun m h1 h2 => hj m (by omega) (by rw [List.length_cons]; omega))]
  rfl
theorem ahe (h i : Nat) (g : ai) : ∀ (l : List ai) (j : Nat), (r_ h i g j l).length ≤ l.length := by
 intro l
 induction l with
 | nil => intro j; simp [r_]
 | cons k ks ih =>
  intro j
  have := ih (j + 1)
  rw [r_, List.length_append, List.length_cons]
  split
  ·simp; omega
  ·split
   ·simp; omega
   ·simp; omega
theorem split2 {l : List ai} {q : Nat} (h : q + 1 < l.length) : ∃ pre a b post, l = pre ++ a :: b :: post ∧ pre.length = q := by
 refine ⟨l.take q, l[q], l[q + 1], l.drop (q + 2), ?_, by rw [List.length_take]; omega⟩
 rw [← List.drop_eq_getElem_cons h, ← List.drop_eq_getElem_cons (by omega), List.take_append_drop]
theorem ahd {l : List ai} {i : Nat} (g : ai) (h : i < l.length) (h2 : 2 ≤ l.length) : r_ (ji i) i g 0 l = rV (l.set (ji i) g) i ∧ g ∈ rV (l.set (ji i) g) i := by
 cases i with
 | zero =>
  obtain ⟨pre, a, b, post, rfl, hp⟩ := split2 (q := 0) (l := l) (by omega)
  have := List.eq_nil_of_length_eq_zero hp
  subst this
  rw [List.nil_append, show ji 0 = 1 from rfl]
  rw [r_, r_, if_neg (by decide), if_pos rfl, if_pos rfl, QB 1 0 g post (0 + 1 + 1) (fun m h1 _ => by omega)]
  simp [rV]
 | succ q =>
  obtain ⟨pre, a, b, post, rfl, hp⟩ := split2 (q := q) h
  rw [show ji (q + 1) = q by unfold ji; rw [if_neg (by omega)]; omega]
  rw [QA, QB q (q + 1) g pre 0 (fun m _ h1 => by omega), r_, r_, if_pos (by omega), if_neg (by omega), if_pos (by omega), QB q (q + 1) g post (0 + pre.length + 1 + 1) (fun m h1 _ => by omega)]
  have e : (pre ++ a :: b :: post).set q g = pre ++ g :: b :: post := by rw [← hp]; simp
  rw [e]
  have e2 : rV (pre ++ g :: b :: post) (q + 1) = pre ++ g :: post := by
   unfold rV
   rw [← hp, List.take_append, List.drop_append, List.take_of_length_le (by omega), List.drop_eq_nil_of_le (by omega), show pre.length + 1 - pre.length = 1 by omega, show pre.length + 1 + 1 - pre.length = 2 by omega]
   simp
  rw [e2]
  simp
theorem ai5 {L : List ai} {g : ai} (h : g ∈ L) (h1 : L.length = 1) : L = [g] := by
 obtain ⟨x, rfl⟩ := List.length_eq_one_iff.1 h1
 rw [List.mem_singleton] at h
 rw [h]
theorem rO {c k : ai} (h : dF c = true) (hk : k ∈ c.f3) : dF k = true := by
 obtain ⟨pre, post, e⟩ := List.append_of_mem hk
 refine Jg [(pre.length : Int)] c k h ?_
 simp only [jX]
 rw [if_neg (by rw [e]; simp; omega), xu, e, PK]
theorem SX {id : Int} : ∀ {l : List ai} {n i : Nat}, oN id n l = some i → n ≤ i ∧ i < n + l.length ∧ (kd l (i - n)).f0 = 1 := by
 intro l
 induction l with
 | nil => intro n i h; cases h
 | cons k ks ih =>
  intro n i h
  unfold oN at h
  split at h
  ·rename_i hk
   injection h with h
   subst h
   refine ⟨Nat.le_refl _, by simp, ?_⟩
   rw [Nat.sub_self]
   exact hk.1
  ·obtain ⟨h1, h2, h3⟩ := ih h
   refine ⟨by omega, by rw [List.length_cons]; omega, ?_⟩
   rw [show i - n = (i - (n + 1)) + 1 by omega]
   exact h3
theorem aa1 {c : ai} {j : Nat} {ax : Int} (hax : ax = 1 ∨ ax = 2) (h : dF c = true) (hj : j < c.f3.length) : 1 ≤ aQ ax (kd c.f3 j).f1 ∧ aQ ax (kd c.f3 j).f1 ≤ 10000 := by
 have := Pure.mO hax (rO h (Eo hj))
 omega
theorem WO {c : ai} (h : dF c = true) (hl : c.f3.length ≠ 0) : (c.f0 = 2 ∨ c.f0 = 3) ∧ 2 ≤ c.f3.length := by
 rcases qm (lM (oL (kR h))) with ⟨_, h3⟩ | h3
 ·exact absurd h3 hl
 ·exact h3
theorem afK (id : Int) : ∀ l : List ai, (wQ id l).length = l.length := by
 intro l
 induction l with
 | nil => rw [zo]
 | cons k ks ih => rw [xG, List.length_cons, List.length_cons, ih]
theorem YL {c : ai} {i : Nat} (h : (rV (c.f3.set (ji i) (pF c.f0 c.f3 i)) i).length = 1) : vY c i = pF c.f0 c.f3 i := by unfold vY; rw [if_pos h]
theorem V5 {c : ai} {i : Nat} (h : (rV (c.f3.set (ji i) (pF c.f0 c.f3 i)) i).length ≠ 1) : vY c i = ⟨c.f0, c.f1, c.f2, rV (c.f3.set (ji i) (pF c.f0 c.f3 i)) i⟩ := by unfold vY; rw [if_neg h]
end Go.Proofs.YtfdmfgaiblfbhaaGreat.P
