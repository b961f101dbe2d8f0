/- The row of the law KillIs, second form (what it reads is of bulk at most 1048576), out of its plain law and its walk. -/
import Derived.Test.YtfdmfgaiblfbhaaGreatMKillIsf
import Derived.Test.YtfdmfgaiblfbhaaGreatMKillIse
import Derived.Test.YtfdmfgaiblfbhaaGreatMKillIsc
import Derived.Test.YtfdmfgaiblfbhaaGreatRows
import Derived.WalkKit
import Derived.ProofKit
import Derived.OpenShut
import Derived.ShutString
import Derived.ChangeOld
import Derived.Below
import Derived.SizedLaws
import Derived.JoinedCond
set_option maxHeartbeats 8000000
set_option maxRecDepth 100000
set_option linter.unusedVariables false
set_option linter.unusedSimpArgs false
namespace Go.Proofs.YtfdmfgaiblfbhaaGreat.P
open Go.RowKit Go.Proofs.ag.aU Go.Proofs.ag.bK Go.Proofs.ag.cO
def AA.T12 : Bool × List (List Nat × List Nat) := (true, [([], []), ([0], [0]), ([], []), ([2], [2]), ([1, 3], [1, 3]), ([4], [4]), ([5, 3], [5]), ([], []), ([], []), ([8], [8]), ([], []), ([9, 10], [9, 10]), ([11], [11]), ([12], [12]), ([], []), ([13, 14, 6], [13, 14]), ([15], [15]), ([6, 7, 16, 15], [6, 7, 16]), ([17], [17]), ([18], [18]), ([18], [18]), ([], []), ([21, 19, 17, 0, 1, 2, 3, 4, 5, 6, 7, 8, 9, 10, 11, 12, 13, 14, 15, 16, 17, 18, 19, 21], [19, 21]), ([20, 22, 0, 1, 2, 3, 4, 5, 6, 7, 8, 9, 10, 11, 12, 13, 14, 15, 16, 17, 18, 19, 20, 21, 22], [20])])
def AA.B12 : List Nat := [0, 1, 0, 4, 15, 31, 63, 0, 0, 256, 0, 1792, 3840, 7936, 0, 32639, 65407, 131071, 262143, 524287, 524287, 0, 3145727, 8388607]
theorem AA.alv : je .any (opsOf Tryz.f23 12) = AA.T12 := by kernel_rfl
theorem AA.ag' : iM AA.T12.2 AA.B12 = true := by kernel_rfl
theorem Fz {id v : Int} {l : List ai} {args : Array Value} {W : World} (h : qp id l = v) (hc : Calls Tryz.prog 39 args W fun e w' => e = .returned (.int .i64 (qp id l)) ∧ Below W.heap.size W w') : Calls Tryz.prog 39 args W fun e w' => e = .returned (.int .i64 v) ∧ Below W.heap.size W w' := by
 rw [h] at hc
 exact hc
theorem Bq {k h9 : Nat} {args : Array Value} {W : World} (h : ji k = h9) (hc : Calls Tryz.prog 41 args W fun e w' => e = .returned (.int .i64 ((ji k : Nat) : Int)) ∧ Below W.heap.size W w') : Calls Tryz.prog 41 args W fun e w' => e = .returned (.int .i64 (h9 : Int)) ∧ Below W.heap.size W w' := by
 rw [h] at hc
 exact hc
theorem ajB (id : Int) (pre : List ai) (k : ai) : wQ id pre ++ [CX id k] = wQ id (pre ++ [k]) := by rw [Vh, xG, zo]
theorem Xz {h i : Nat} {g x : ai} {pre : List ai} {k : ai} (hx : (if pre.length = h then [g] else if pre.length = i then [] else [k]) = [x]) : r_ h i g 0 pre ++ [x] = r_ h i g 0 (pre ++ [k]) := by rw [QA, XA, Nat.zero_add, hx]
theorem adt {h i : Nat} {g : ai} {pre : List ai} {k : ai} (h1 : pre.length ≠ h) (h2 : pre.length = i) : r_ h i g 0 pre = r_ h i g 0 (pre ++ [k]) := by rw [QA, XA, Nat.zero_add, if_neg h1, if_pos h2, List.append_nil]
theorem anJ (id : Int) : ∀ (N : Nat) (c : ai), sz c ≤ N → N ≤ 20000 → dF c = true → ∀ (P : Nat → Prop) (A : Option Addr) (cc : Nat) (w : World), Kd.V k26 26 w w.heap.size P (.slice A c.f3.length cc) c.f3 →
  Calls Tryz.prog 23 #[.agg #[.int .u8 c.f0, .int .i64 c.f1.f0, .int .i64 c.f1.f1, .int .i64 c.f1.f2, .int .i64 c.f1.f3, .int .i64 c.f2, .slice A c.f3.length cc], .int .i64 id] w (Uf w P (CX id c)) := by
 intro N
 induction N with
 | zero => intro c h; rw [bJ] at h; omega
 | succ N ih =>
  intro c hc hN ht P A cc w hv
  have hsz := bJ c
  have S := ae.mk (St.start (ts := [(.slice A c.f3.length cc, c.f3)]) (b0 := w.heap.size) (w := w) (P := P) (fun t ht => by rw [List.mem_singleton.1 ht]; exact hv))
  have hlen := jf c.f3
  have gZ := ae.mk (show c.f3.length ≤ 1000000 by omega)
  have HL2 := ae.mk (show c.f3.length ≤ 20000 by omega)
  have IH := ae.mk fun (k : ai) (hk : k ∈ c.f3) P A cc w h => ih k (by have := nS hk; omega) (by omega) (rO ht hk) P A cc w h
  rw [LG]
  cases hp : oN id 0 c.f3 with
  | none =>
   simp only []
   have BA := ae.mk (show qp id c.f3 = -1 by unfold qp; rw [hp])
   clear ih hc hN hv hsz hlen hp ht
   obtain ⟨ck, ⟨cx, cy, cw, ch⟩, aJ, l⟩ := c
   simp only [] at S IH gZ HL2 BA ⊢
   go_enter Tryz.func23, Tryz.ntmps23
   go_wp2_with (first | (refine boxS 2 _ 26 S ?_; clear S; intro b2 eU S) | (refine boxS 4 _ 26 S ?_; clear S; intro b4 fM S; obtain ⟨bG, bP, bQ, bY, bZ, b_, a_⟩ := St.fF S bf) | (refine cZ (some 15) Tryz.func39 S (Fz BA.out (Fv id ⟨ck, ⟨cx, cy, cw, ch⟩, aJ, l⟩ gZ.out _ _ _ _ _ (S.out.tree _ (.head _)))) ?_; clear S; intro iq S; clear bG bP bQ bY bZ b_ a_) | (refine ik 18 rfl ?_; refine La (N := 18) rfl rfl S.out ?hr ?_; (case hr => (go_simp; done)); intro Ao co jD S1; replace S := ae.mk S1; clear S1; have a_ := (S.out.at bf 6).trans rfl))
   clear a_
   go_loopg [6, 22] l.length (fun gg v6 v22 wr => ∃ (pre rest : List ai) (Ao : Option Addr) (co : Nat), v6 = .slice Ao (wQ id pre).length co ∧ v22 = .int .i64 (pre.length : Int) ∧ ae (pre ++ rest = l) ∧ rest.length ≤ gg ∧ ae (St w P [(some b4, .cells #[.int .u8 0, .int .i64 0, .int .i64 0, .int .i64 0, .int .i64 0, .int .i64 0, .slice none 0 0] 26 (0, 0)), (some b2, .cells #[.int .u8 ck, .int .i64 cx, .int .i64 cy, .int .i64 cw, .int .i64 ch, .int .i64 aJ, .slice A l.length cc] 26 (0, 0))] [(.slice Ao ((wQ id pre).length) co, (wQ id pre))] [(.slice A l.length cc, l)] [] wr))
   case atStart => exact ⟨[], l, Ao, co, (by rw [zo]; rfl), rfl, ⟨rfl⟩, Nat.le_refl _, ⟨by rw [zo]; exact S.out⟩⟩
   case round =>
    clear S
    obtain ⟨pre, rest, Ao, co, rfl, rfl, HE, hgg, S⟩ := hrel
    cases rest with
    | nil =>
     have hE := HE.out
     rw [List.append_nil] at hE
     have hE2 := hE.symm
     subst hE2
     clear hE HE hgg
     have hlt : ¬ ((l.length : Int) < (l.length : Int)) := by omega
     go_wp2_with (first | (refine qw 24 37 36 #[.int .u8 ck, .int .i64 cx, .int .i64 cy, .int .i64 cw, .int .i64 ch, .int .i64 aJ, .slice Ao ((wQ id l).length) co] 6 1 S ?_; clear S; intro eU S; obtain ⟨bG, bP, bQ, bY, bZ, b_, a_⟩ := St.fF S bf) | (refine gY 26 4 38 #[.int .u8 ck, .int .i64 cx, .int .i64 cy, .int .i64 cw, .int .i64 ch, .int .i64 aJ, .slice Ao ((wQ id l).length) co] 0 7 S ?_; clear S; intro fM S; clear bG bP bQ bY bZ b_ a_))
     refine bodyPost_ret (results_cell_row rfl _ _ b4 26 _ (0, 0) _ rfl (S.out.blk _ (.head _) _ rfl) Tryz.underlying26 rfl (by kernel_rfl)) rfl ?_
     exact ⟨_, _, rfl, by have h := S.out.free.SQ (b0 := w.heap.size) (.head _); exact h, S.out.below⟩
    | cons k rest =>
     have hk : k ∈ l := by rw [← HE.out]; simp
     have hlt : (pre.length : Int) < (l.length : Int) := by rw [← HE.out, List.length_append, List.length_cons]; omega
     have hw1 : wrap64 ((pre.length : Int) + 1) = ((pre ++ [k]).length : Int) := by have := gZ.out; rw [List.length_append, List.length_singleton]; unfold wrap64; omega
     have HW1 := ae.mk hw1
     have jl := ae.mk hgg
     have HK := ae.mk hk
     have wI := ae.mk (show pre.length ≤ 1048576 by have := gZ.out; omega)
     obtain ⟨ed, ua, uc, ek, S1⟩ := S.out.elem (.head _) (pre.length : Int) (Int.natCast_nonneg _) hlt
     subst ek
     have hrd : aj l (pre.length : Int) = k := by rw [← HE.out]; exact jd pre k rest
     rw [hrd] at S1
     simp only [Int.toNat_natCast] at S1
     replace S := ae.mk S1
     clear S1 hrd hk hgg hw1
     have Dc := ae.mk (show (wQ id pre).length ≤ 1048576 by rw [afK]; exact wI.out)
     obtain ⟨iP, iQ, iR, iC, iD, jk, jE⟩ := St.yA S
     have a_ := (S.out.at bf 6).trans rfl
     go_wp2_with (first | (refine ak3 (some 32) Tryz.func23 S (IH.out k HK.out _ ua uc _ (d_ (S.out.tree _ (.head _)))) ?_; clear S; intro Ar cr eU S; clear iP iQ iR iC iD jk jE a_) | (refine ik 34 rfl ?_; at_builtin; go_loud (refine yR (.tmp 25) (.tmp 33) rfl rfl Tryz.underlying24 info26 S.out (CX id k) (.head _) rfl (by (go_simp; done)) (by have := Dc.out; omega) ?_); intro Aq cq fM S1; rw [ajB] at S1 ⊢; replace S := ae.mk S1; clear S1))
     have hw1 := HW1.out
     go_wp2
     go_roundg rest.length
     case measure => exact Nat.lt_of_lt_of_le (Nat.lt_succ_self _) jl.out
     case rel => exact ⟨pre ++ [k], rest, _, _, rfl, (by rw [hw1]), ⟨by rw [List.append_assoc]; exact HE.out⟩, Nat.le_refl _, ⟨S.out.bD.bD.aG.aG.aG.aG.aG.aG.aG⟩⟩
  | some i =>
   simp only []
   obtain ⟨_, hil, hi1⟩ := SX hp
   rw [Nat.zero_add] at hil
   have hkd := WO ht (by omega)
   have wY := Ei hil hkd.2
   have hks := aa1 (ax := c.f0 - 1) (by have := hkd.1; omega) ht hil
   have hgs := Jo c.f0 c.f3 i wY
   have wZ := nS (Eo wY)
   have hbl := ahd (pF c.f0 c.f3 i) hil hkd.2
   have BA := ae.mk (show qp id c.f3 = (i : Int) by unfold qp; rw [hp])
   have PX := ae.mk (show i ≤ 1000000 by omega)
   obtain ⟨res, hres⟩ : ∃ r, vY c i = r := ⟨_, rfl⟩
   have hr1 := fun h => (YL (c := c) (i := i) h).symm.trans hres
   have hr2 := fun h => (V5 (c := c) (i := i) h).symm.trans hres
   rw [hres]
   obtain ⟨g9, xQ⟩ : ∃ g, pF c.f0 c.f3 i = g := ⟨_, rfl⟩
   rw [xQ] at hbl hgs hr1 hr2
   unfold pF at xQ
   obtain ⟨h9, hh9⟩ : ∃ h, ji i = h := ⟨_, rfl⟩
   have hne : h9 ≠ i := by rw [← hh9]; exact aei
   rw [hh9] at xQ hbl wY wZ hr1 hr2
   obtain ⟨L', hL'⟩ : ∃ L, rV (c.f3.set h9 g9) i = L := ⟨_, rfl⟩
   rw [hL'] at hbl hr1 hr2
   obtain ⟨kh, hkh⟩ : ∃ x, kd c.f3 h9 = x := ⟨_, rfl⟩
   obtain ⟨kk, Jt⟩ : ∃ x, kd c.f3 i = x := ⟨_, rfl⟩
   rw [hkh] at xQ wZ
   rw [Jt] at xQ hks
   obtain ⟨sv, hsv⟩ : ∃ s, aQ (c.f0 - 1) kk.f1 = s := ⟨_, rfl⟩
   rw [hsv] at xQ hks
   obtain ⟨zS, Sl⟩ : ∃ x, bU kh 0 0 = x := ⟨_, rfl⟩
   have hzs := (G_ _).1 kh (Nat.le_refl _) 0 0
   rw [Sl] at xQ hzs
   obtain ⟨gN, hgN⟩ : ∃ x, aN (c.f0 - 1) zS (sv + 1) = x := ⟨_, rfl⟩
   have DI := ae.mk (show sz kh ≤ 1000000 by omega)
   have J7 := ae.mk Sl
   have DJ := ae.mk (show sz zS ≤ 1048576 by omega)
   have Df := ae.mk hsv
   have F9 := ae.mk xQ
   have F_ := ae.mk hgN
   have Gf := ae.mk hh9
   have HBL := ae.mk hbl
   have HR1 := ae.mk hr1
   have HR2 := ae.mk hr2
   have JX := ae.mk hkh
   have HKD := ae.mk Jt
   have hhz : (h9 : Int) < (c.f3.length : Int) := by omega
   have hiz : (i : Int) < (c.f3.length : Int) := by omega
   have hh0 : (0 : Int) ≤ (h9 : Int) := Int.natCast_nonneg _
   have hi0 : (0 : Int) ≤ (i : Int) := Int.natCast_nonneg _
   have hhn : h9 < c.f3.length := by omega
   have hin : i < c.f3.length := hil
   have hm1 : (c.f0 - 1) % 256 = c.f0 - 1 := by have := hkd.1; omega
   have hw1 : IntKind.i64.wrap (sv + 1) = sv + 1 := by rw [IntKind.wrap_i64]; omega
   have hij : decide ((i : Int) < 0) = false := decide_eq_false (by omega)
   have hik : ¬ ((i : Int) < 0) := by omega
   clear ih hc hN hv hsz hlen hp ht IH hil hi1 hkd wY hks hgs wZ hbl hres hr1 hr2 xQ hh9 hne hL' hkh Jt hsv Sl hzs hgN
   obtain ⟨ck, ⟨cx, cy, cw, ch⟩, aJ, l⟩ := c
   simp only [] at S gZ HL2 BA F9 HR1 HR2 JX HKD F_ Df hhz hiz hhn hin hm1 ⊢
   go_enter Tryz.func23, Tryz.ntmps23
   go_wp2_with (first | (refine boxS 2 _ 26 S ?_; clear S; intro b2 eU S) | (refine boxS 4 _ 26 S ?_; clear S; intro b4 fM S; obtain ⟨bG, bP, bQ, bY, bZ, b_, a_⟩ := St.fF S bf) | (refine cZ (some 15) Tryz.func39 S (Fz BA.out (Fv id ⟨ck, ⟨cx, cy, cw, ch⟩, aJ, l⟩ gZ.out _ _ _ _ _ (S.out.tree _ (.head _)))) ?_; clear S; intro iq S; clear bG bP bQ bY bZ b_ a_; have bG := (S.out.at bf 0).trans rfl))
   clear bG
   obtain ⟨ed, ua, uc, ek, S1⟩ := S.out.elem (.head _) (h9 : Int) hh0 hhz
   subst ek
   rw [xu, JX.out] at S1
   simp only [Int.toNat_natCast] at S1
   obtain ⟨arl, va, vc, ek, S2⟩ := S1.elem bf (i : Int) hi0 hiz
   injection ek with ek
   subst ek
   rw [xu, HKD.out] at S2
   simp only [Int.toNat_natCast] at S2
   replace S := ae.mk S2
   clear S1 S2
   go_wp2
   refine jT (n := 24) (S := fun w' => St w _ _ _ _ _ w') (ds := [22]) (bA 24 0) (by kernel_rfl) rfl rfl (S.out.call (bI (Below.refl _ _))) (fun hHeld => ?_); refine gG AA.alv AA.ag' (fun ak fC => ?_)
   replace S := ae.mk (S.out.call (bI (Below.refl _ _)))
   generalize iq.drew = Ph at S hHeld ⊢
   refine ay 0 43 (bA 24 1) ak ?_
   refine dM 1 44 (bA 24 3) ak fC hHeld ?_ (hv := by intro w' hs_; have a_ := (hs_.at bf 6).trans rfl; go_simp; with_reducible rfl)
   refine ay 2 45 (bA 24 7) ak ?_
   refine ay 7 50 (bA 24 135) ak ?_
   refine ay 8 51 (bA 24 391) ak ?_
   refine dM 9 52 (bA 24 903) ak fC hHeld ?_ (hv := by intro w' hs_; have a_ := (hs_.at bf 6).trans rfl; go_simp; with_reducible rfl)
   refine ay 10 53 (bA 24 1927) ak ?_
   refine ay 11 54 (bA 24 3975) ak ?_
   refine ay 12 55 (bA 24 8071) ak ?_
   refine dM 13 56 (bA 24 16263) ak fC hHeld ?_ (hv := by intro w' hs_; have iQ := (hs_.cell _ bf).1; have iR := (hs_.cell _ gy).1; have iC := (hs_.cell _ jy).1; have iD := (hs_.cell _ su).1; go_simp; with_reducible rfl)
   refine ay 14 57 (bA 24 32647) ak ?_
   refine KQ (σ := Option Addr × Nat × Option Addr × Nat × Nat) 2 (bA 24 4194303) (fun s_ => [(46, .int .i64 (h9 : Int)), (47, .pointer (some (ed.add (h9 * 7)))), (48, .agg #[.int .u8 kh.f0, .int .i64 kh.f1.f0, .int .i64 kh.f1.f1, .int .i64 kh.f1.f2, .int .i64 kh.f1.f3, .int .i64 kh.f2, .slice ua kh.f3.length uc]), (49, .agg #[.int .u8 zS.f0, .int .i64 zS.f1.f0, .int .i64 zS.f1.f1, .int .i64 zS.f1.f2, .int .i64 zS.f1.f3, .int .i64 zS.f2, .slice s_.1 zS.f3.length s_.2.1]), (58, .int .i64 sv), (59, .int .i64 (sv + 1)), (60, .tuple #[.agg #[.int .u8 g9.f0, .int .i64 g9.f1.f0, .int .i64 g9.f1.f1, .int .i64 g9.f1.f2, .int .i64 g9.f1.f3, .int .i64 g9.f2, .slice s_.2.2.1 g9.f3.length s_.2.2.2.1], .int .i64 gN]), (42, .tuple #[.agg #[.int .u8 g9.f0, .int .i64 g9.f1.f0, .int .i64 g9.f1.f1, .int .i64 g9.f1.f2, .int .i64 g9.f1.f3, .int .i64 g9.f2, .slice s_.2.2.1 g9.f3.length s_.2.2.2.1], .int .i64 gN]), (61, .agg #[.int .u8 g9.f0, .int .i64 g9.f1.f0, .int .i64 g9.f1.f1, .int .i64 g9.f1.f2, .int .i64 g9.f1.f3, .int .i64 g9.f2, .slice s_.2.2.1 g9.f3.length s_.2.2.2.1]), (62, .int .i64 gN), (9, .pointer (some ⟨s_.2.2.2.2, 0, none⟩))]) (fun s_ w' => St w P [(some s_.2.2.2.2, .cells #[.int .u8 0, .int .i64 0, .int .i64 0, .int .i64 0, .int .i64 0, .int .i64 0, .slice none 0 0] 26 (0, 0)), (some b4, .cells #[.int .u8 0, .int .i64 0, .int .i64 0, .int .i64 0, .int .i64 0, .int .i64 0, .slice none 0 0] 26 (0, 0)), (some b2, .cells #[.int .u8 ck, .int .i64 cx, .int .i64 cy, .int .i64 cw, .int .i64 ch, .int .i64 aJ, .slice (some ed) l.length cc] 26 (0, 0))] [] [(.slice s_.2.2.1 g9.f3.length s_.2.2.2.1, g9.f3), (.slice s_.1 zS.f3.length s_.2.1, zS.f3), (.slice va kk.f3.length vc, kk.f3), (.slice ua kh.f3.length uc, kh.f3), (.slice (some ed) l.length cc, l)] [((ed.add (i * 7)), .int .u8 kk.f0), (⟨(ed.add (i * 7)).block, (ed.add (i * 7)).off + 1, none⟩, .int .i64 kk.f1.f0), (⟨(ed.add (i * 7)).block, (ed.add (i * 7)).off + 2, none⟩, .int .i64 kk.f1.f1), (⟨(ed.add (i * 7)).block, (ed.add (i * 7)).off + 3, none⟩, .int .i64 kk.f1.f2), (⟨(ed.add (i * 7)).block, (ed.add (i * 7)).off + 4, none⟩, .int .i64 kk.f1.f3), (⟨(ed.add (i * 7)).block, (ed.add (i * 7)).off + 5, none⟩, .int .i64 kk.f2), (⟨(ed.add (i * 7)).block, (ed.add (i * 7)).off + 6, none⟩, .slice va kk.f3.length vc), ((ed.add (h9 * 7)), .int .u8 kh.f0), (⟨(ed.add (h9 * 7)).block, (ed.add (h9 * 7)).off + 1, none⟩, .int .i64 kh.f1.f0), (⟨(ed.add (h9 * 7)).block, (ed.add (h9 * 7)).off + 2, none⟩, .int .i64 kh.f1.f1), (⟨(ed.add (h9 * 7)).block, (ed.add (h9 * 7)).off + 3, none⟩, .int .i64 kh.f1.f2), (⟨(ed.add (h9 * 7)).block, (ed.add (h9 * 7)).off + 4, none⟩, .int .i64 kh.f1.f3), (⟨(ed.add (h9 * 7)).block, (ed.add (h9 * 7)).off + 5, none⟩, .int .i64 kh.f2), (⟨(ed.add (h9 * 7)).block, (ed.add (h9 * 7)).off + 6, none⟩, .slice ua kh.f3.length uc)] w') ?_ ?_
   rotate_left
   ·intro o5
    refine CV (i := 3) (j := 21) (Ni := some 46) (Nj := some 9) (bA 24 32655) (bA 24 2129799) rfl rfl rfl rfl (vP ak.out (by kernel_rfl)) (by decide) (by decide) (fun K hK => ?_) (fun K hK => ?_)
    ·skip
     refine fO Tryz.func41 (by kernel_rfl) rfl #[.int .i64 (i : Int)] (by rfl) rfl rfl (by (try simp only [List.map_toArray, List.map_cons, List.map_nil]); rfl) ?_
     refine (Bq Gf.out (Bo i PX.out _)).mono ?_
     rintro e fM ⟨rfl, hb⟩
     refine ⟨_, rfl, ?_⟩
     replace S := ae.mk (S.out.call hb)
     clear hb
     refine hK.out _ _ S.out (fun hHeld => ?_)
     clear hK K
     refine dO 46 ?_
     refine ay 4 47 (bA 24 32671) ak ?_
     refine dM 5 48 (bA 24 32703) ak fC hHeld ?_ (hv := by intro w' hs_; have ZI := (hs_.cell _ YV).1; have y8_ := (hs_.cell _ mm8).1; have y9_ := (hs_.cell _ wM).1; have abO := (hs_.cell _ (.tail _ wM)).1; have abP := (hs_.cell _ (.tail _ (.tail _ wM))).1; have JL := (hs_.cell _ (.tail _ (.tail _ (.tail _ wM)))).1; have abQ := (hs_.cell _ (.tail _ (.tail _ (.tail _ (.tail _ wM))))).1; go_simp; with_reducible rfl)
     refine CV (i := 6) (j := 21) (Ni := some 49) (Nj := some 9) (bA 24 32767) (bA 24 2129855) rfl rfl rfl rfl (vP ak.out (by kernel_rfl)) (by decide) (by decide) (fun K hK => ?_) (fun K hK => ?_)
     ·skip
      refine fO Tryz.func22 (by kernel_rfl) rfl #[.agg #[.int .u8 kh.f0, .int .i64 kh.f1.f0, .int .i64 kh.f1.f1, .int .i64 kh.f1.f2, .int .i64 kh.f1.f3, .int .i64 kh.f2, .slice ua kh.f3.length uc], .int .i64 0, .int .i64 0] (by rfl) rfl rfl (by (try simp only [List.map_toArray, List.map_cons, List.map_nil]); rfl) ?_
      refine (Gz J7.out (G5 kh 0 0 DI.out (S.out.tree _ bf))).mono ?_
      rintro e iq ⟨As, cs, rfl, h1, hb⟩
      refine ⟨_, rfl, ?_⟩
      replace S := ae.mk (S.out.res (Kd.qY (base' := 0) h1) hb)
      clear h1 hb
      refine hK.out _ _ S.out.bD (fun hHeld => ?_)
      clear hK K
      refine dO 49 ?_
      refine CV (i := 15) (j := 21) (Ni := some 58) (Nj := some 9) (bA 24 65535) (bA 24 2129919) rfl rfl rfl rfl (vP ak.out (by kernel_rfl)) (by decide) (by decide) (fun K hK => ?_) (fun K hK => ?_)
      ·skip
       refine fO Tryz.func42 (by kernel_rfl) rfl #[.agg #[.int .i64 kk.f1.f0, .int .i64 kk.f1.f1, .int .i64 kk.f1.f2, .int .i64 kk.f1.f3], .int .u8 (ck - 1)] (by rfl) rfl rfl (by (try simp only [List.map_toArray, List.map_cons, List.map_nil]); rfl) ?_
       refine (IA Df.out (Bv kk.f1 (ck - 1))).mono ?_
       rintro e jD ⟨rfl, hb⟩
       refine ⟨_, rfl, ?_⟩
       replace S := ae.mk (S.out.call hb)
       clear hb
       refine hK.out _ _ S.out.bD (fun hHeld => ?_)
       clear hK K
       refine dO 58 ?_
       refine ay 16 59 (bA 24 131071) ak ?_
       refine CV (i := 17) (j := 21) (Ni := some 60) (Nj := some 9) (bA 24 262143) (bA 24 2228223) rfl rfl rfl rfl (vP ak.out (by kernel_rfl)) (by decide) (by decide) (fun K hK => ?_) (fun K hK => ?_)
       ·skip
        refine fO Tryz.func40 (by kernel_rfl) rfl #[.agg #[.int .u8 zS.f0, .int .i64 zS.f1.f0, .int .i64 zS.f1.f1, .int .i64 zS.f1.f2, .int .i64 zS.f1.f3, .int .i64 zS.f2, .slice As zS.f3.length cs], .int .u8 (ck - 1), .int .i64 (sv + 1)] (by rfl) rfl rfl (by (try simp only [List.map_toArray, List.map_cons, List.map_nil]); rfl) ?_
        refine (o6 F9.out F_.out (yI (ck - 1) zS DJ.out (sv + 1) _ _ _ _ (d_ (S.out.tree _ (.head _))))).mono ?_
        rintro e mQ ⟨Ag, cg, rfl, h1, hb⟩
        refine ⟨_, rfl, ?_⟩
        replace S := ae.mk (S.out.res (Kd.qY (base' := 0) h1) hb)
        clear h1 hb
        refine hK.out _ _ S.out.bD.bD (fun hHeld => ?_)
        clear hK K
        refine dO 60 ?_
        refine ay 18 42 (bA 24 524287) ak ?_
        refine ay 19 61 (bA 24 1048575) ak ?_
        refine ay 20 62 (bA 24 2097151) ak ?_
        refine iH 21 (some 9) (bA 24 4194303) ak (fun K hK => ?_)
        refine lU ?hg (N := 9) ?hd (cs := #[.int .u8 0, .int .i64 0, .int .i64 0, .int .i64 0, .int .i64 0, .int .i64 0, .slice none 0 0]) (t := 26) ?hr ?_; (case hd => rfl); (case hg => rfl); (case hr => (go_simp; done))
        intro b9 hg vS hbox hb
        replace S := ae.mk (S.out.box hg hbox hb)
        clear hg hbox hb
        refine hK.out _ _ S.out.eP.bD.bD (fun hHeld => ?_)
        clear hK K
        refine dO 9 ?_
        exact oI (by simp only [kW, Act.put, List.setIfInBounds_toArray, List.set_cons_zero, List.set_cons_succ] <;> rfl) (o5 (As, cs, Ag, cg, b9) _ S.out)
       ·skip
        refine lU ?hg (N := 9) ?hd (cs := #[.int .u8 0, .int .i64 0, .int .i64 0, .int .i64 0, .int .i64 0, .int .i64 0, .slice none 0 0]) (t := 26) ?hr ?_; (case hd => rfl); (case hg => rfl); (case hr => (go_simp; done))
        intro b9 hg xY hbox hb
        replace S := ae.mk (S.out.box hg hbox hb)
        clear hg hbox hb
        refine hK.out _ _ S.out.eP.bD (fun hHeld => ?_)
        clear hK K
        refine dO 9 ?_
        refine iH 17 (some 60) (bA 24 2359295) ak (fun K hK => ?_)
        refine fO Tryz.func40 (by kernel_rfl) rfl #[.agg #[.int .u8 zS.f0, .int .i64 zS.f1.f0, .int .i64 zS.f1.f1, .int .i64 zS.f1.f2, .int .i64 zS.f1.f3, .int .i64 zS.f2, .slice As zS.f3.length cs], .int .u8 (ck - 1), .int .i64 (sv + 1)] (by rfl) rfl rfl (by (try simp only [List.map_toArray, List.map_cons, List.map_nil]); rfl) ?_
        refine (o6 F9.out F_.out (yI (ck - 1) zS DJ.out (sv + 1) _ _ _ _ (d_ (S.out.tree _ (.head _))))).mono ?_
        rintro e A_ ⟨Ag, cg, rfl, h1, hb⟩
        refine ⟨_, rfl, ?_⟩
        replace S := ae.mk (S.out.res (Kd.qY (base' := 0) h1) hb)
        clear h1 hb
        refine hK.out _ _ S.out.eP.bD.bD (fun hHeld => ?_)
        clear hK K
        refine dO 60 ?_
        refine ay 18 42 (bA 24 2621439) ak ?_
        refine ay 19 61 (bA 24 3145727) ak ?_
        refine ay 20 62 (bA 24 4194303) ak ?_
        exact oI (by simp only [kW, Act.put, List.setIfInBounds_toArray, List.set_cons_zero, List.set_cons_succ] <;> rfl) (o5 (As, cs, Ag, cg, b9) _ S.out)
      ·skip
       refine lU ?hg (N := 9) ?hd (cs := #[.int .u8 0, .int .i64 0, .int .i64 0, .int .i64 0, .int .i64 0, .int .i64 0, .slice none 0 0]) (t := 26) ?hr ?_; (case hd => rfl); (case hg => rfl); (case hr => (go_simp; done))
       intro b9 hg FZ hbox hb
       replace S := ae.mk (S.out.box hg hbox hb)
       clear hg hbox hb
       refine hK.out _ _ S.out.eP.bD (fun hHeld => ?_)
       clear hK K
       refine dO 9 ?_
       refine iH 15 (some 58) (bA 24 2162687) ak (fun K hK => ?_)
       refine fO Tryz.func42 (by kernel_rfl) rfl #[.agg #[.int .i64 kk.f1.f0, .int .i64 kk.f1.f1, .int .i64 kk.f1.f2, .int .i64 kk.f1.f3], .int .u8 (ck - 1)] (by rfl) rfl rfl (by (try simp only [List.map_toArray, List.map_cons, List.map_nil]); rfl) ?_
       refine (IA Df.out (Bv kk.f1 (ck - 1))).mono ?_
       rintro e CW ⟨rfl, hb⟩
       refine ⟨_, rfl, ?_⟩
       replace S := ae.mk (S.out.call hb)
       clear hb
       refine hK.out _ _ S.out.eP.bD (fun hHeld => ?_)
       clear hK K
       refine dO 58 ?_
       refine ay 16 59 (bA 24 2228223) ak ?_
       refine iH 17 (some 60) (bA 24 2359295) ak (fun K hK => ?_)
       refine fO Tryz.func40 (by kernel_rfl) rfl #[.agg #[.int .u8 zS.f0, .int .i64 zS.f1.f0, .int .i64 zS.f1.f1, .int .i64 zS.f1.f2, .int .i64 zS.f1.f3, .int .i64 zS.f2, .slice As zS.f3.length cs], .int .u8 (ck - 1), .int .i64 (sv + 1)] (by rfl) rfl rfl (by (try simp only [List.map_toArray, List.map_cons, List.map_nil]); rfl) ?_
       refine (o6 F9.out F_.out (yI (ck - 1) zS DJ.out (sv + 1) _ _ _ _ (d_ (S.out.tree _ (.head _))))).mono ?_
       rintro e DV ⟨Ag, cg, rfl, h1, hb⟩
       refine ⟨_, rfl, ?_⟩
       replace S := ae.mk (S.out.res (Kd.qY (base' := 0) h1) hb)
       clear h1 hb
       refine hK.out _ _ S.out.eP.bD.bD (fun hHeld => ?_)
       clear hK K
       refine dO 60 ?_
       refine ay 18 42 (bA 24 2621439) ak ?_
       refine ay 19 61 (bA 24 3145727) ak ?_
       refine ay 20 62 (bA 24 4194303) ak ?_
       exact oI (by simp only [kW, Act.put, List.setIfInBounds_toArray, List.set_cons_zero, List.set_cons_succ] <;> rfl) (o5 (As, cs, Ag, cg, b9) _ S.out)
     ·skip
      refine lU ?hg (N := 9) ?hd (cs := #[.int .u8 0, .int .i64 0, .int .i64 0, .int .i64 0, .int .i64 0, .int .i64 0, .slice none 0 0]) (t := 26) ?hr ?_; (case hd => rfl); (case hg => rfl); (case hr => (go_simp; done))
      intro b9 hg FM hbox hb
      replace S := ae.mk (S.out.box hg hbox hb)
      clear hg hbox hb
      refine hK.out _ _ S.out.eP (fun hHeld => ?_)
      clear hK K
      refine dO 9 ?_
      refine iH 6 (some 49) (bA 24 2129919) ak (fun K hK => ?_)
      refine fO Tryz.func22 (by kernel_rfl) rfl #[.agg #[.int .u8 kh.f0, .int .i64 kh.f1.f0, .int .i64 kh.f1.f1, .int .i64 kh.f1.f2, .int .i64 kh.f1.f3, .int .i64 kh.f2, .slice ua kh.f3.length uc], .int .i64 0, .int .i64 0] (by rfl) rfl rfl (by (try simp only [List.map_toArray, List.map_cons, List.map_nil]); rfl) ?_
      refine (Gz J7.out (G5 kh 0 0 DI.out (S.out.tree _ bf))).mono ?_
      rintro e JK ⟨As, cs, rfl, h1, hb⟩
      refine ⟨_, rfl, ?_⟩
      replace S := ae.mk (S.out.res (Kd.qY (base' := 0) h1) hb)
      clear h1 hb
      refine hK.out _ _ S.out.eP.bD (fun hHeld => ?_)
      clear hK K
      refine dO 49 ?_
      refine iH 15 (some 58) (bA 24 2162687) ak (fun K hK => ?_)
      refine fO Tryz.func42 (by kernel_rfl) rfl #[.agg #[.int .i64 kk.f1.f0, .int .i64 kk.f1.f1, .int .i64 kk.f1.f2, .int .i64 kk.f1.f3], .int .u8 (ck - 1)] (by rfl) rfl rfl (by (try simp only [List.map_toArray, List.map_cons, List.map_nil]); rfl) ?_
      refine (IA Df.out (Bv kk.f1 (ck - 1))).mono ?_
      rintro e TK ⟨rfl, hb⟩
      refine ⟨_, rfl, ?_⟩
      replace S := ae.mk (S.out.call hb)
      clear hb
      refine hK.out _ _ S.out.eP.bD (fun hHeld => ?_)
      clear hK K
      refine dO 58 ?_
      refine ay 16 59 (bA 24 2228223) ak ?_
      refine iH 17 (some 60) (bA 24 2359295) ak (fun K hK => ?_)
      refine fO Tryz.func40 (by kernel_rfl) rfl #[.agg #[.int .u8 zS.f0, .int .i64 zS.f1.f0, .int .i64 zS.f1.f1, .int .i64 zS.f1.f2, .int .i64 zS.f1.f3, .int .i64 zS.f2, .slice As zS.f3.length cs], .int .u8 (ck - 1), .int .i64 (sv + 1)] (by rfl) rfl rfl (by (try simp only [List.map_toArray, List.map_cons, List.map_nil]); rfl) ?_
      refine (o6 F9.out F_.out (yI (ck - 1) zS DJ.out (sv + 1) _ _ _ _ (d_ (S.out.tree _ (.head _))))).mono ?_
      rintro e WR ⟨Ag, cg, rfl, h1, hb⟩
      refine ⟨_, rfl, ?_⟩
      replace S := ae.mk (S.out.res (Kd.qY (base' := 0) h1) hb)
      clear h1 hb
      refine hK.out _ _ S.out.eP.bD.bD (fun hHeld => ?_)
      clear hK K
      refine dO 60 ?_
      refine ay 18 42 (bA 24 2621439) ak ?_
      refine ay 19 61 (bA 24 3145727) ak ?_
      refine ay 20 62 (bA 24 4194303) ak ?_
      exact oI (by simp only [kW, Act.put, List.setIfInBounds_toArray, List.set_cons_zero, List.set_cons_succ] <;> rfl) (o5 (As, cs, Ag, cg, b9) _ S.out)
    ·skip
     refine lU ?hg (N := 9) ?hd (cs := #[.int .u8 0, .int .i64 0, .int .i64 0, .int .i64 0, .int .i64 0, .int .i64 0, .slice none 0 0]) (t := 26) ?hr ?_; (case hd => rfl); (case hg => rfl); (case hr => (go_simp; done))
     intro b9 hg WS hbox hb
     replace S := ae.mk (S.out.box hg hbox hb)
     clear hg hbox hb
     refine hK.out _ _ S.out.eP (fun hHeld => ?_)
     clear hK K
     refine dO 9 ?_
     refine iH 3 (some 46) (bA 24 2129807) ak (fun K hK => ?_)
     refine fO Tryz.func41 (by kernel_rfl) rfl #[.int .i64 (i : Int)] (by rfl) rfl rfl (by (try simp only [List.map_toArray, List.map_cons, List.map_nil]); rfl) ?_
     refine (Bq Gf.out (Bo i PX.out _)).mono ?_
     rintro e ajy ⟨rfl, hb⟩
     refine ⟨_, rfl, ?_⟩
     replace S := ae.mk (S.out.call hb)
     clear hb
     refine hK.out _ _ S.out.eP (fun hHeld => ?_)
     clear hK K
     refine dO 46 ?_
     refine ay 4 47 (bA 24 2129823) ak ?_
     refine dM 5 48 (bA 24 2129855) ak fC hHeld ?_ (hv := by intro w' hs_; have ZI := (hs_.cell _ YV).1; have y8_ := (hs_.cell _ mm8).1; have y9_ := (hs_.cell _ wM).1; have abO := (hs_.cell _ (.tail _ wM)).1; have abP := (hs_.cell _ (.tail _ (.tail _ wM))).1; have JL := (hs_.cell _ (.tail _ (.tail _ (.tail _ wM)))).1; have abQ := (hs_.cell _ (.tail _ (.tail _ (.tail _ (.tail _ wM))))).1; go_simp; with_reducible rfl)
     refine iH 6 (some 49) (bA 24 2129919) ak (fun K hK => ?_)
     refine fO Tryz.func22 (by kernel_rfl) rfl #[.agg #[.int .u8 kh.f0, .int .i64 kh.f1.f0, .int .i64 kh.f1.f1, .int .i64 kh.f1.f2, .int .i64 kh.f1.f3, .int .i64 kh.f2, .slice ua kh.f3.length uc], .int .i64 0, .int .i64 0] (by rfl) rfl rfl (by (try simp only [List.map_toArray, List.map_cons, List.map_nil]); rfl) ?_
     refine (Gz J7.out (G5 kh 0 0 DI.out (S.out.tree _ bf))).mono ?_
     rintro e abM ⟨As, cs, rfl, h1, hb⟩
     refine ⟨_, rfl, ?_⟩
     replace S := ae.mk (S.out.res (Kd.qY (base' := 0) h1) hb)
     clear h1 hb
     refine hK.out _ _ S.out.eP.bD (fun hHeld => ?_)
     clear hK K
     refine dO 49 ?_
     refine iH 15 (some 58) (bA 24 2162687) ak (fun K hK => ?_)
     refine fO Tryz.func42 (by kernel_rfl) rfl #[.agg #[.int .i64 kk.f1.f0, .int .i64 kk.f1.f1, .int .i64 kk.f1.f2, .int .i64 kk.f1.f3], .int .u8 (ck - 1)] (by rfl) rfl rfl (by (try simp only [List.map_toArray, List.map_cons, List.map_nil]); rfl) ?_
     refine (IA Df.out (Bv kk.f1 (ck - 1))).mono ?_
     rintro e anG ⟨rfl, hb⟩
     refine ⟨_, rfl, ?_⟩
     replace S := ae.mk (S.out.call hb)
     clear hb
     refine hK.out _ _ S.out.eP.bD (fun hHeld => ?_)
     clear hK K
     refine dO 58 ?_
     refine ay 16 59 (bA 24 2228223) ak ?_
     refine iH 17 (some 60) (bA 24 2359295) ak (fun K hK => ?_)
     refine fO Tryz.func40 (by kernel_rfl) rfl #[.agg #[.int .u8 zS.f0, .int .i64 zS.f1.f0, .int .i64 zS.f1.f1, .int .i64 zS.f1.f2, .int .i64 zS.f1.f3, .int .i64 zS.f2, .slice As zS.f3.length cs], .int .u8 (ck - 1), .int .i64 (sv + 1)] (by rfl) rfl rfl (by (try simp only [List.map_toArray, List.map_cons, List.map_nil]); rfl) ?_
     refine (o6 F9.out F_.out (yI (ck - 1) zS DJ.out (sv + 1) _ _ _ _ (d_ (S.out.tree _ (.head _))))).mono ?_
     rintro e anH ⟨Ag, cg, rfl, h1, hb⟩
     refine ⟨_, rfl, ?_⟩
     replace S := ae.mk (S.out.res (Kd.qY (base' := 0) h1) hb)
     clear h1 hb
     refine hK.out _ _ S.out.eP.bD.bD (fun hHeld => ?_)
     clear hK K
     refine dO 60 ?_
     refine ay 18 42 (bA 24 2621439) ak ?_
     refine ay 19 61 (bA 24 3145727) ak ?_
     refine ay 20 62 (bA 24 4194303) ak ?_
     exact oI (by simp only [kW, Act.put, List.setIfInBounds_toArray, List.set_cons_zero, List.set_cons_succ] <;> rfl) (o5 (As, cs, Ag, cg, b9) _ S.out)
   rintro ⟨As, cs, Ag, cg, b9⟩ ar_ S1
   simp only [kW, Act.put, List.setIfInBounds_toArray, List.set_cons_zero, List.set_cons_succ]
   replace S := ae.mk S1
   clear S1 hHeld
   have hHeld := S.out.eP.bD.bD
   refine sK 22 none (bA 24 8388607) ak (fun K hK => ?_)
   refine vZ 0 rfl 26 (.tmp 9) (.tmp 61) rfl #[.int .u8 g9.f0, .int .i64 g9.f1.f0, .int .i64 g9.f1.f1, .int .i64 g9.f1.f2, .int .i64 g9.f1.f3, .int .i64 g9.f2, .slice Ag g9.f3.length cg] (j := 0) (u := .agg #[.int .u8 g9.f0, .int .i64 g9.f1.f0, .int .i64 g9.f1.f1, .int .i64 g9.f1.f2, .int .i64 g9.f1.f3, .int .i64 g9.f2, .slice Ag g9.f3.length cg]) (df := [.int .u8 g9.f0, .int .i64 g9.f1.f0, .int .i64 g9.f1.f1, .int .i64 g9.f1.f2, .int .i64 g9.f1.f3, .int .i64 g9.f2, .slice Ag g9.f3.length cg]) S.out (by rfl) rfl rfl rfl rfl (by kernel_rfl) (by simp [Value.oneCell']) (by simp) rfl ?_
   intro ar0 S1
   simp only [List.set_cons_zero, List.set_cons_succ] at S1
   replace S := ae.mk S1
   clear S1
   refine hK.out _ _ ?_
   clear hK K
   refine ay 23 10 (bA 24 16777215) ak ?_
   refine lJ (jc ak.out (by kernel_rfl)) ?_
   clear hHeld
   go_wp2_with ((refine ik 63 rfl ?_; refine La (N := 63) rfl rfl S.out ?hr ?_; (case hr => (go_simp; done)); intro Ao co anI S1; replace S := ae.mk S1; clear S1; have a_ := (S.out.at gy 6).trans rfl))
   clear a_
   go_loopg [11, 67] l.length (fun gg v11 v67 wr => ∃ (pre rest : List ai) (Ao : Option Addr) (co : Nat), v11 = .slice Ao (r_ h9 i g9 0 pre).length co ∧ v67 = .int .i64 (pre.length : Int) ∧ ae (pre ++ rest = l) ∧ rest.length ≤ gg ∧ ae (St w P [(some b9, .cells #[.int .u8 g9.f0, .int .i64 g9.f1.f0, .int .i64 g9.f1.f1, .int .i64 g9.f1.f2, .int .i64 g9.f1.f3, .int .i64 g9.f2, .slice Ag g9.f3.length cg] 26 (0, 0)), (some b4, .cells #[.int .u8 0, .int .i64 0, .int .i64 0, .int .i64 0, .int .i64 0, .int .i64 0, .slice none 0 0] 26 (0, 0)), (some b2, .cells #[.int .u8 ck, .int .i64 cx, .int .i64 cy, .int .i64 cw, .int .i64 ch, .int .i64 aJ, .slice (some ed) l.length cc] 26 (0, 0))] [(.slice Ao ((r_ h9 i g9 0 pre).length) co, (r_ h9 i g9 0 pre))] [(.slice Ag g9.f3.length cg, g9.f3), (.slice As zS.f3.length cs, zS.f3), (.slice va kk.f3.length vc, kk.f3), (.slice ua kh.f3.length uc, kh.f3), (.slice (some ed) l.length cc, l)] [((ed.add (i * 7)), .int .u8 kk.f0), (⟨(ed.add (i * 7)).block, (ed.add (i * 7)).off + 1, none⟩, .int .i64 kk.f1.f0), (⟨(ed.add (i * 7)).block, (ed.add (i * 7)).off + 2, none⟩, .int .i64 kk.f1.f1), (⟨(ed.add (i * 7)).block, (ed.add (i * 7)).off + 3, none⟩, .int .i64 kk.f1.f2), (⟨(ed.add (i * 7)).block, (ed.add (i * 7)).off + 4, none⟩, .int .i64 kk.f1.f3), (⟨(ed.add (i * 7)).block, (ed.add (i * 7)).off + 5, none⟩, .int .i64 kk.f2), (⟨(ed.add (i * 7)).block, (ed.add (i * 7)).off + 6, none⟩, .slice va kk.f3.length vc), ((ed.add (h9 * 7)), .int .u8 kh.f0), (⟨(ed.add (h9 * 7)).block, (ed.add (h9 * 7)).off + 1, none⟩, .int .i64 kh.f1.f0), (⟨(ed.add (h9 * 7)).block, (ed.add (h9 * 7)).off + 2, none⟩, .int .i64 kh.f1.f1), (⟨(ed.add (h9 * 7)).block, (ed.add (h9 * 7)).off + 3, none⟩, .int .i64 kh.f1.f2), (⟨(ed.add (h9 * 7)).block, (ed.add (h9 * 7)).off + 4, none⟩, .int .i64 kh.f1.f3), (⟨(ed.add (h9 * 7)).block, (ed.add (h9 * 7)).off + 5, none⟩, .int .i64 kh.f2), (⟨(ed.add (h9 * 7)).block, (ed.add (h9 * 7)).off + 6, none⟩, .slice ua kh.f3.length uc)] wr))
   case atStart => exact ⟨[], l, Ao, co, rfl, rfl, ⟨rfl⟩, Nat.le_refl _, S⟩
   case round =>
    clear S
    obtain ⟨pre, rest, Ao, co, rfl, rfl, HE, hgg, S⟩ := hrel
    cases rest with
    | nil =>
     have hE := HE.out
     rw [List.append_nil] at hE
     have hE2 := hE.symm
     subst hE2
     clear hE HE hgg
     have hlt : ¬ ((l.length : Int) < (l.length : Int)) := by omega
     have hbl := HBL.out
     obtain ⟨aaI, aaJ⟩ := HBL.out
     rw [aaI] at S ⊢
     by_cases h1 : L'.length = 1
     case pos =>
      have hr := HR1.out h1
      subst hr
      have hl1 := ai5 aaJ h1
      subst hl1
      clear h1 aaI aaJ
      obtain ⟨adz, za, zc, ek, S1⟩ := S.out.free.elem (.head _) (0 : Int) (by decide) (by simp)
      subst ek
      have hrd : aj [g9] 0 = g9 := rfl
      rw [hrd] at S1
      simp only [show ((0 : Int)).toNat = 0 from rfl, Nat.zero_mul, Addr.add_zero'] at S1
      replace S := ae.mk S1
      clear S1 hrd
      have iP := (S.out.cell _ (.head _)).1
      have iQ := (S.out.cell _ bf).1
      have iR := (S.out.cell _ gy).1
      have iC := (S.out.cell _ jy).1
      have iD := (S.out.cell _ su).1
      have jk := (S.out.cell _ vH).1
      have jE := (S.out.cell _ yM).1
      go_wp2_with ((refine qw 26 4 95 #[.int .u8 g9.f0, .int .i64 g9.f1.f0, .int .i64 g9.f1.f1, .int .i64 g9.f1.f2, .int .i64 g9.f1.f3, .int .i64 g9.f2, .slice za g9.f3.length zc] 0 7 S ?_; clear S; intro eU S; clear iP iQ iR iC iD jk jE))
      refine bodyPost_ret (results_cell_row rfl _ _ b4 26 _ (0, 0) _ rfl (S.out.blk _ bf _ rfl) Tryz.underlying26 rfl (by kernel_rfl)) rfl ?_
      exact ⟨_, _, rfl, S.out.SQ (b0 := w.heap.size) (.head _), S.out.below⟩
     case neg =>
      have hr := HR2.out h1
      subst hr
      have hq1 : ((L'.length : Int) == 1) = false := beq_eq_false_iff_ne.mpr (by omega)
      have hq2 : decide ((L'.length : Int) = 1) = false := decide_eq_false (by omega)
      have hq3 : (L'.length == 1) = false := beq_eq_false_iff_ne.mpr (by omega)
      clear aaI aaJ
      go_wp2_with (first | (refine S9 24 97 96 #[.int .u8 ck, .int .i64 cx, .int .i64 cy, .int .i64 cw, .int .i64 ch, .int .i64 aJ, .slice Ao L'.length co] 6 1 S ?_; clear S; intro eU S; obtain ⟨bG, bP, bQ, bY, bZ, b_, a_⟩ := St.fF S gy) | (refine qw 26 4 98 #[.int .u8 ck, .int .i64 cx, .int .i64 cy, .int .i64 cw, .int .i64 ch, .int .i64 aJ, .slice Ao L'.length co] 0 7 S ?_; clear S; intro fM S; clear bG bP bQ bY bZ b_ a_))
      refine bodyPost_ret (results_cell_row rfl _ _ b4 26 _ (0, 0) _ rfl (S.out.blk _ bf _ rfl) Tryz.underlying26 rfl (by kernel_rfl)) rfl ?_
      exact ⟨_, _, rfl, by have h := S.out.free.SQ (b0 := w.heap.size) (.head _); exact h, S.out.below⟩
    | cons k rest =>
     have hk : k ∈ l := by rw [← HE.out]; simp
     have hlt : (pre.length : Int) < (l.length : Int) := by rw [← HE.out, List.length_append, List.length_cons]; omega
     have hw1 : wrap64 ((pre.length : Int) + 1) = ((pre ++ [k]).length : Int) := by have := gZ.out; rw [List.length_append, List.length_singleton]; unfold wrap64; omega
     have HW1 := ae.mk hw1
     have jl := ae.mk hgg
     have HK := ae.mk hk
     have wI := ae.mk (show pre.length ≤ 1048576 by have := gZ.out; omega)
     obtain ⟨arn, wa, wc, ek, S1⟩ := S.out.elem su (pre.length : Int) (Int.natCast_nonneg _) hlt
     injection ek with ek; subst ek
     have hrd : aj l (pre.length : Int) = k := by rw [← HE.out]; exact jd pre k rest
     rw [hrd] at S1
     simp only [Int.toNat_natCast] at S1
     replace S := ae.mk S1
     clear S1 hrd hk hgg hw1
     have Dc := ae.mk (show (r_ h9 i g9 0 pre).length ≤ 1048576 from Nat.le_trans (ahe h9 i g9 pre 0) wI.out)
     by_cases h1 : pre.length = h9
     case pos =>
      have HQ := ae.mk (show (if pre.length = h9 then [g9] else if pre.length = i then [] else [k]) = [g9] by rw [if_pos h1])
      obtain ⟨hqa, UX, hqd⟩ := yB (a := (pre.length : Int)) (b := (h9 : Int)) (by omega)
      clear h1
      go_wp2_with (first | (refine cZ (some 72) Tryz.func41 S (Bq Gf.out (Bo i PX.out _)) ?_; clear S; intro eU S; obtain ⟨nO, sG, oZ, sH, xm, xn, xq⟩ := St.fF S (.head _)) | (refine ik 77 rfl ?_; at_builtin; go_loud (refine yR (.tmp 74) (.tmp 76) rfl rfl Tryz.underlying24 info26 S.out g9 bf rfl (by (go_simp; done)) (by have := Dc.out; omega) ?_); intro Aq cq fM S1; rw [Xz HQ.out] at S1 ⊢; replace S := ae.mk S1; clear S1; clear nO sG oZ sH xm xn xq))
      have hw1 := HW1.out
      go_wp2
      go_roundg rest.length
      case measure => exact Nat.lt_of_lt_of_le (Nat.lt_succ_self _) jl.out
      case rel => exact ⟨pre ++ [k], rest, _, _, rfl, (by rw [hw1]), ⟨by rw [List.append_assoc]; exact HE.out⟩, Nat.le_refl _, ⟨S.out.bD.aG.aG.aG.aG.aG.aG.aG⟩⟩
     case neg =>
      by_cases h2 : pre.length = i
      case pos =>
       have HSK := ae.mk (adt (h := h9) (i := i) (g := g9) (k := k) h1 h2)
       obtain ⟨hqa, UX, hqd⟩ := eqF (a := (pre.length : Int)) (b := (h9 : Int)) (by omega)
       obtain ⟨hra, hrb, hrd⟩ := yB (a := (pre.length : Int)) (b := (i : Int)) (by omega)
       clear h1 h2
       go_wp2_with ((refine cZ (some 72) Tryz.func41 S (Bq Gf.out (Bo i PX.out _)) ?_; clear S; intro eU S))
       rw [HSK.out] at S ⊢
       have hw1 := HW1.out
       go_wp2
       go_roundg rest.length
       case measure => exact Nat.lt_of_lt_of_le (Nat.lt_succ_self _) jl.out
       case rel => exact ⟨pre ++ [k], rest, _, _, rfl, (by rw [hw1]), ⟨by rw [List.append_assoc]; exact HE.out⟩, Nat.le_refl _, ⟨S.out.bD.aG.aG.aG.aG.aG.aG.aG⟩⟩
      case neg =>
       have HQ := ae.mk (show (if pre.length = h9 then [g9] else if pre.length = i then [] else [k]) = [k] by rw [if_neg h1, if_neg h2])
       obtain ⟨hqa, UX, hqd⟩ := eqF (a := (pre.length : Int)) (b := (h9 : Int)) (by omega)
       obtain ⟨hra, hrb, hrd⟩ := eqF (a := (pre.length : Int)) (b := (i : Int)) (by omega)
       clear h1 h2
       go_wp2_with (first | (refine cZ (some 72) Tryz.func41 S (Bq Gf.out (Bo i PX.out _)) ?_; clear S; intro eU S; obtain ⟨iP, iQ, iR, iC, iD, jk, jE⟩ := St.yA S; have a_ := (S.out.at gy 6).trans rfl) | (refine ik 88 rfl ?_; at_builtin; go_loud (refine yR (.tmp 81) (.tmp 87) rfl rfl Tryz.underlying24 info26 S.out k (.head _) rfl (by (go_simp; done)) (by have := Dc.out; omega) ?_); intro Aq cq fM S1; rw [Xz HQ.out] at S1 ⊢; replace S := ae.mk S1; clear S1; clear iP iQ iR iC iD jk jE a_))
       have hw1 := HW1.out
       go_wp2
       go_roundg rest.length
       case measure => exact Nat.lt_of_lt_of_le (Nat.lt_succ_self _) jl.out
       case rel => exact ⟨pre ++ [k], rest, _, _, rfl, (by rw [hw1]), ⟨by rw [List.append_assoc]; exact HE.out⟩, Nat.le_refl _, ⟨S.out.bD.aG.aG.aG.aG.aG.aG.aG⟩⟩
def Hg.T9 : Bool × List (List Nat × List Nat) := (true, [([], []), ([], []), ([0, 1], [0, 1]), ([], []), ([3], [3]), ([4], [4]), ([], []), ([6], [6]), ([7], [7]), ([2, 5, 8, 2], [2, 5, 8]), ([9, 9, 0, 1, 2, 3, 4, 5, 6, 7, 8, 9], [9]), ([10, 0, 1, 2, 3, 4, 5, 6, 7, 8, 9, 10], [])])
def Hg.B9 : List Nat := [0, 0, 3, 0, 8, 24, 0, 64, 192, 511, 1023, 2047]
theorem Hg.Hq : je .any (opsOf Tryz.f8 9) = Hg.T9 := by kernel_rfl
theorem Hg.Dn : iM Hg.T9.2 Hg.B9 = true := by kernel_rfl
theorem Tq (c : ai) (hz : sz c ≤ 20000) (id : Int) (P : Nat → Prop) (A : Option Addr) (cc : Nat) (w : World) (hv : Kd.V k26 26 w w.heap.size P (.slice A c.f3.length cc) c.f3) :
  Calls Tryz.prog 8 #[.agg #[.int .u8 c.f0, .int .i64 c.f1.f0, .int .i64 c.f1.f1, .int .i64 c.f1.f2, .int .i64 c.f1.f3, .int .i64 c.f2, .slice A c.f3.length cc], .int .i64 id] w (EJ w P (uP id c) (kP id c)) := by
 have S := ae.mk (St.start (ts := [(.slice A c.f3.length cc, c.f3)]) (b0 := w.heap.size) (w := w) (P := P) (fun t ht => by rw [List.mem_singleton.1 ht]; exact hv))
 have FO := ae.mk (show sz c ≤ 1048576 by omega)
 have HZ2 := ae.mk hz
 clear hv hz
 cases ht : dF c with
 | false =>
  have hN : kP id c = 1 := by unfold kP; rw [if_pos ht]
  rw [Du hN (by decide), hN]
  clear hN
  have HT := ae.mk ht
  clear ht
  obtain ⟨ck, ⟨cx, cy, cw, ch⟩, aJ, l⟩ := c
  simp only [] at S ⊢
  go_enter Tryz.func8, Tryz.ntmps8
  go_wp2_with (first | (refine boxS 2 _ 26 S ?_; clear S; intro b2 eU S) | (refine boxS 4 _ 26 S ?_; clear S; intro b4 fM S) | (refine boxS 6 _ 26 S ?_; clear S; intro b6 iq S) | (refine gY 26 6 9 #[.int .u8 0, .int .i64 0, .int .i64 0, .int .i64 0, .int .i64 0, .int .i64 0, .slice none 0 0] 0 7 S ?_; clear S; intro jD S; obtain ⟨bG, bP, bQ, bY, bZ, b_, a_⟩ := St.fF S gy) | (refine cZ (some 11) Tryz.func20 S (oC HT.out (vM ⟨ck, ⟨cx, cy, cw, ch⟩, aJ, l⟩ FO.out (S.out.tree _ (.head _)))) ?_; clear S; intro mQ S; clear bG bP bQ bY bZ b_ a_; obtain ⟨oU, oV, oW, qF, qG, qH, jH⟩ := St.fF S (.head _)) | (refine qw 26 4 13 #[.int .u8 0, .int .i64 0, .int .i64 0, .int .i64 0, .int .i64 0, .int .i64 0, .slice none 0 0] 0 7 S ?_; clear S; intro vS S; clear oU oV oW qF qG qH jH))
  refine bodyPost_ret (eQ rfl _ _ b4 26 _ (0, 0) _ rfl (S.out.blk _ bf _ rfl) Tryz.underlying26 rfl (by kernel_rfl)) rfl ?_
  exact ⟨_, _, rfl, Kd.pI _ _ _ _ _, S.out.below⟩
 | true =>
  have HT := ae.mk ht
  cases hf : fB id c with
  | none =>
   have hN : kP id c = 6 := by unfold kP; rw [if_neg (by rw [ht]; simp), hf]
   rw [Du hN (by decide), hN]
   clear hN
   have HRI := ae.mk (Tj hf)
   clear ht hf
   obtain ⟨ck, ⟨cx, cy, cw, ch⟩, aJ, l⟩ := c
   simp only [] at S ⊢
   go_enter Tryz.func8, Tryz.ntmps8
   go_wp2_with (first | (refine boxS 2 _ 26 S ?_; clear S; intro b2 eU S) | (refine boxS 4 _ 26 S ?_; clear S; intro b4 fM S) | (refine boxS 6 _ 26 S ?_; clear S; intro b6 iq S) | (refine gY 26 6 9 #[.int .u8 0, .int .i64 0, .int .i64 0, .int .i64 0, .int .i64 0, .int .i64 0, .slice none 0 0] 0 7 S ?_; clear S; intro jD S; obtain ⟨bG, bP, bQ, bY, bZ, b_, a_⟩ := St.fF S gy) | (refine cZ (some 11) Tryz.func20 S (oC HT.out (vM ⟨ck, ⟨cx, cy, cw, ch⟩, aJ, l⟩ FO.out (S.out.tree _ (.head _)))) ?_; clear S; intro mQ S; clear bG bP bQ bY bZ b_ a_; obtain ⟨bG, bP, bQ, bY, bZ, b_, a_⟩ := St.fF S gy) | (refine cZ (some 17) Tryz.func21 S (Jl HRI.out (MK id ⟨ck, ⟨cx, cy, cw, ch⟩, aJ, l⟩ FO.out _ _ _ _ (d_ (S.out.tree _ (.head _))))) ?_; clear S; intro vS S; clear bG bP bQ bY bZ b_ a_) | (refine boxS 7 _ 26 S ?_; clear S; intro b7 xY S) | (refine gY 26 7 18 #[.int .u8 0, .int .i64 0, .int .i64 0, .int .i64 0, .int .i64 0, .int .i64 0, .slice none 0 0] 0 7 S ?_; clear S; intro A_ S; obtain ⟨oU, oV, oW, qF, qG, qH, jH⟩ := St.fF S bf) | (refine S9 26 4 22 #[.int .u8 0, .int .i64 0, .int .i64 0, .int .i64 0, .int .i64 0, .int .i64 0, .slice none 0 0] 0 7 S ?_; clear S; intro FZ S; clear oU oV oW qF qG qH jH))
   refine bodyPost_ret (eQ rfl _ _ b4 26 _ (0, 0) _ rfl (S.out.blk _ gy _ rfl) Tryz.underlying26 rfl (by kernel_rfl)) rfl ?_
   exact ⟨_, _, rfl, Kd.pI _ _ _ _ _, S.out.below⟩
  | some p =>
   obtain ⟨leaf, hlf, hlq⟩ := (Ef id _).1 c (Nat.le_refl _) p hf
   clear hlq
   have HRI := ae.mk (Tm hf hlf)
   cases p with
   | nil =>
    have hN : kP id c = 10 := by unfold kP; rw [if_neg (by rw [ht]; simp), hf]
    rw [Du hN (by decide), hN]
    clear hN
    have hk1 := (Jm hf).1
    clear ht hf hlf
    obtain ⟨ck, ⟨cx, cy, cw, ch⟩, aJ, l⟩ := c
    simp only [] at S ⊢
    simp only [] at hk1
    obtain ⟨hka, hkb, hkd⟩ := yB (a := ck) (b := 1) (by omega)
    clear hk1
    go_enter Tryz.func8, Tryz.ntmps8
    go_wp2_with (first | (refine boxS 2 _ 26 S ?_; clear S; intro b2 eU S) | (refine boxS 4 _ 26 S ?_; clear S; intro b4 fM S) | (refine boxS 6 _ 26 S ?_; clear S; intro b6 iq S) | (refine gY 26 6 9 #[.int .u8 0, .int .i64 0, .int .i64 0, .int .i64 0, .int .i64 0, .int .i64 0, .slice none 0 0] 0 7 S ?_; clear S; intro jD S; obtain ⟨bG, bP, bQ, bY, bZ, b_, a_⟩ := St.fF S gy) | (refine cZ (some 11) Tryz.func20 S (oC HT.out (vM ⟨ck, ⟨cx, cy, cw, ch⟩, aJ, l⟩ FO.out (S.out.tree _ (.head _)))) ?_; clear S; intro mQ S; clear bG bP bQ bY bZ b_ a_; obtain ⟨bG, bP, bQ, bY, bZ, b_, a_⟩ := St.fF S gy) | (refine lK (some 17) Tryz.func21 (Jl HRI.out (MK id ⟨ck, ⟨cx, cy, cw, ch⟩, aJ, l⟩ FO.out _ _ _ _ (d_ (S.out.tree _ (.head _))))) ?_; rintro e vS ⟨WY, c17, rfl, h1, hb⟩; refine ⟨_, rfl, ?_⟩; replace S := ae.mk (S.out.res h1 hb); clear h1 hb; clear bG bP bQ bY bZ b_ a_) | (refine boxS 7 _ 26 S ?_; clear S; intro b7 xY S) | (refine gY 26 7 18 #[.int .u8 leaf.f0, .int .i64 leaf.f1.f0, .int .i64 leaf.f1.f1, .int .i64 leaf.f1.f2, .int .i64 leaf.f1.f3, .int .i64 leaf.f2, .slice WY leaf.f3.length c17] 0 7 S ?_; clear S; intro A_ S; obtain ⟨oU, oV, oW, qF, qG, qH, jH⟩ := St.fF S bf; have bG := (S.out.at jy 0).trans rfl) | (refine S9 26 4 26 #[.int .u8 0, .int .i64 0, .int .i64 0, .int .i64 0, .int .i64 0, .int .i64 0, .slice none 0 0] 0 7 S ?_; clear S; intro FZ S; clear oU oV oW qF qG qH jH bG))
    refine bodyPost_ret (eQ rfl _ _ b4 26 _ (0, 0) _ rfl (S.out.blk _ gy _ rfl) Tryz.underlying26 rfl (by kernel_rfl)) rfl ?_
    exact ⟨_, _, rfl, Kd.pI _ _ _ _ _, S.out.below⟩
   | cons i q =>
    have hN : kP id c = 0 := by unfold kP; rw [if_neg (by rw [ht]; simp), hf]
    obtain ⟨p', aX, k', hK⟩ := kills hN
    have hzz := hK.sz
    rw [hK.z, hN]
    have hd := Bh ht
    have h01 := (ES hd.1 hd.2 hf (by simp)).1
    obtain ⟨z, hz⟩ : ∃ z, CX id c = z := ⟨_, rfl⟩
    rw [hz] at hzz ⊢
    have OA := ae.mk hz
    have HZ6 := ae.mk (show sz z ≤ 1000000 by have := HZ2.out; omega)
    clear ht hf hlf hN hK hd hz hzz
    obtain ⟨ck, ⟨cx, cy, cw, ch⟩, aJ, l⟩ := c
    simp only [] at S ⊢
    simp only [] at h01
    obtain ⟨hka, hkb, hkd⟩ := eqF (a := ck) (b := 1) (by omega)
    clear h01
    go_enter Tryz.func8, Tryz.ntmps8
    go_wp2_with (first | (refine boxS 2 _ 26 S ?_; clear S; intro b2 eU S) | (refine boxS 4 _ 26 S ?_; clear S; intro b4 fM S) | (refine boxS 6 _ 26 S ?_; clear S; intro b6 iq S) | (refine gY 26 6 9 #[.int .u8 0, .int .i64 0, .int .i64 0, .int .i64 0, .int .i64 0, .int .i64 0, .slice none 0 0] 0 7 S ?_; clear S; intro jD S; obtain ⟨bG, bP, bQ, bY, bZ, b_, a_⟩ := St.fF S gy) | (refine cZ (some 11) Tryz.func20 S (oC HT.out (vM ⟨ck, ⟨cx, cy, cw, ch⟩, aJ, l⟩ FO.out (S.out.tree _ (.head _)))) ?_; clear S; intro mQ S; clear bG bP bQ bY bZ b_ a_; obtain ⟨bG, bP, bQ, bY, bZ, b_, a_⟩ := St.fF S gy) | (refine lK (some 17) Tryz.func21 (Jl HRI.out (MK id ⟨ck, ⟨cx, cy, cw, ch⟩, aJ, l⟩ FO.out _ _ _ _ (d_ (S.out.tree _ (.head _))))) ?_; rintro e vS ⟨WY, c17, rfl, h1, hb⟩; refine ⟨_, rfl, ?_⟩; replace S := ae.mk (S.out.res h1 hb); clear h1 hb; clear bG bP bQ bY bZ b_ a_) | (refine boxS 7 _ 26 S ?_; clear S; intro b7 xY S) | (refine gY 26 7 18 #[.int .u8 leaf.f0, .int .i64 leaf.f1.f0, .int .i64 leaf.f1.f1, .int .i64 leaf.f1.f2, .int .i64 leaf.f1.f3, .int .i64 leaf.f2, .slice WY leaf.f3.length c17] 0 7 S ?_; clear S; intro A_ S; have bG := (S.out.at jy 0).trans rfl))
    clear bG
    refine jT (n := 12) (S := fun w' => St w _ _ _ _ _ w') (ds := [10]) (bA 12 0) (by kernel_rfl) rfl rfl (S.out.call (bI (Below.refl _ _))) (fun hHeld => ?_); refine gG Hg.Hq Hg.Dn (fun ak fC => ?_)
    replace S := ae.mk (S.out.call (bI (Below.refl _ _)))
    generalize A_.drew = wd9 at S hHeld ⊢
    refine dM 0 27 (bA 12 1) ak fC hHeld ?_ (hv := by intro w' hs_; have bG := (hs_.at jy 0).trans rfl; have bP := (hs_.at jy 1).trans rfl; have bQ := (hs_.at jy 2).trans rfl; have bY := (hs_.at jy 3).trans rfl; have bZ := (hs_.at jy 4).trans rfl; have b_ := (hs_.at jy 5).trans rfl; have a_ := (hs_.at jy 6).trans rfl; go_simp; with_reducible rfl)
    refine ay 1 28 (bA 12 3) ak ?_
    refine ay 3 30 (bA 12 11) ak ?_
    refine ay 4 31 (bA 12 27) ak ?_
    refine dM 5 32 (bA 12 59) ak fC hHeld ?_ (hv := by intro w' hs_; have bP := (hs_.at jy 1).trans rfl; go_simp; with_reducible rfl)
    refine ay 6 33 (bA 12 123) ak ?_
    refine ay 7 34 (bA 12 251) ak ?_
    refine dM 8 35 (bA 12 507) ak fC hHeld ?_ (hv := by intro w' hs_; have bQ := (hs_.at jy 2).trans rfl; go_simp; with_reducible rfl)
    refine iH 2 (some 29) (bA 12 511) ak (fun K hK => ?_)
    refine fO Tryz.func23 (by kernel_rfl) rfl #[.agg #[.int .u8 ck, .int .i64 cx, .int .i64 cy, .int .i64 cw, .int .i64 ch, .int .i64 aJ, .slice A l.length cc], .int .i64 id] (by rfl) rfl rfl (by (try simp only [List.map_toArray, List.map_cons, List.map_nil]); rfl) ?_
    refine (aiQ OA.out (anJ id 20000 ⟨ck, ⟨cx, cy, cw, ch⟩, aJ, l⟩ HZ2.out (Nat.le_refl _) HT.out _ _ _ _ (d_ (S.out.tree _ bf)))).mono ?_
    rintro e CW ⟨Az, cz, rfl, h1, hb⟩
    refine ⟨_, rfl, ?_⟩
    replace S := ae.mk (S.out.res h1 hb)
    clear h1 hb
    refine hK.out _ _ S.out.bD (fun hHeld => ?_)
    clear hK K
    refine dO 29 ?_
    refine iH 9 (some 36) (bA 12 1023) ak (fun K hK => ?_)
    refine fO Tryz.func22 (by kernel_rfl) rfl #[.agg #[.int .u8 z.f0, .int .i64 z.f1.f0, .int .i64 z.f1.f1, .int .i64 z.f1.f2, .int .i64 z.f1.f3, .int .i64 z.f2, .slice Az z.f3.length cz], .int .i64 cx, .int .i64 cy] (by rfl) rfl rfl (by (try simp only [List.map_toArray, List.map_cons, List.map_nil]); rfl) ?_
    refine (G5 z cx cy HZ6.out (S.out.tree _ (.head _))).mono ?_
    rintro e DV ⟨As, cs, rfl, h1, hb⟩
    refine ⟨_, rfl, ?_⟩
    replace S := ae.mk (S.out.CO h1 hb)
    clear h1 hb
    refine hK.out _ _ S.out.free.bD.bD (fun hHeld => ?_)
    clear hK K
    refine dO 36 ?_
    refine sK 10 none (bA 12 2047) ak (fun K hK => ?_)
    refine vZ 2 rfl 26 (.tmp 4) (.tmp 36) rfl #[.int .u8 ((bU z cx cy).f0), .int .i64 ((bU z cx cy).f1.f0), .int .i64 ((bU z cx cy).f1.f1), .int .i64 ((bU z cx cy).f1.f2), .int .i64 ((bU z cx cy).f1.f3), .int .i64 ((bU z cx cy).f2), .slice As ((bU z cx cy).f3.length) cs] (j := 0) (u := .agg #[.int .u8 ((bU z cx cy).f0), .int .i64 ((bU z cx cy).f1.f0), .int .i64 ((bU z cx cy).f1.f1), .int .i64 ((bU z cx cy).f1.f2), .int .i64 ((bU z cx cy).f1.f3), .int .i64 ((bU z cx cy).f2), .slice As ((bU z cx cy).f3.length) cs]) (df := [.int .u8 ((bU z cx cy).f0), .int .i64 ((bU z cx cy).f1.f0), .int .i64 ((bU z cx cy).f1.f1), .int .i64 ((bU z cx cy).f1.f2), .int .i64 ((bU z cx cy).f1.f3), .int .i64 ((bU z cx cy).f2), .slice As ((bU z cx cy).f3.length) cs]) S.out (by rfl) rfl rfl rfl rfl (by kernel_rfl) (by simp [Value.oneCell']) (by simp) rfl ?_
    intro FM S1
    simp only [List.set_cons_zero, List.set_cons_succ] at S1
    replace S := ae.mk S1
    clear S1
    refine hK.out _ _ ?_
    clear hK K
    refine ay 11 5 (bA 12 4095) ak ?_
    refine lJ (jc ak.out (by kernel_rfl)) ?_
    clear hHeld
    go_wp2
    refine bodyPost_ret (eQ rfl _ _ b4 26 _ (0, 0) _ rfl (S.out.blk _ gy _ rfl) Tryz.underlying26 rfl (by kernel_rfl)) rfl ?_
    exact ⟨_, _, rfl, S.out.uI, S.out.below⟩
end Go.Proofs.YtfdmfgaiblfbhaaGreat.P
namespace Go.Proofs.YtfdmfgaiblfbhaaGreat.P
open Go.RowKit Go.Proofs.ag.aU Go.Proofs.ag.bK Go.Proofs.ag.cO
attribute [local go_sem] jG jR kQ lq jJ jK kT kU
def gK.l0 : Nat → List Int → List (ai) → Int → Int → Option (List Int)
 | 0, _, _, _, _ => none
 | k + 1, x3, x4, x10, x11 => if x11 < x10 then (if 0 ≤ x11 then (if x11 < (x4.length : Int) then (if x3.length < 17592186044416 then (gK.l0 k (x3 ++ [(aj x4 x11).f2]) x4 x10 (wrap64 (x11 + 1))) else (none)) else (none)) else (none)) else (some x3)
def gK.f (k : Nat) (az : Int) (aI : Int) (aC : Int) (aH : Int) (bu : Int) (bC : Int) (aK : List (ai)) : Option (List Int) := (dL.f k az aI aC aH bu bC aK).bind fun nI => (gK.l0 k (([] : List Int)) nI (nI.length : Int) 0)
theorem gK.calls (k : Nat) (az : Int) (aI : Int) (aC : Int) (aH : Int) (bu : Int) (bC : Int) (dP : Option Addr) (dQ : Nat) (aK : List (ai)) (r : List Int) (w : World) (pR : Kd.C k26 w dP aK.length aK) (qL : aK.length ≤ dQ) (h : gK.f k az aI aC aH bu bC aK = some r) :
  Calls Tryz.prog 43 #[.agg #[.int .u8 az, .int .i64 aI, .int .i64 aC, .int .i64 aH, .int .i64 bu, .int .i64 bC, .slice dP aK.length dQ]] w fun e w' => ∃ rP : Value, e = .returned (rP) ∧ Kd.R (Kd.int .i64) 3 w' w.heap.size (fun _ => True) rP r ∧ Below w.heap.size w w' := by
 have EX := Tryz.underlying26
 have J4 := ae.mk pR
 have Vu := ae.mk qL
 clear pR qL
 have HB := ae.mk (Below.refl w.heap.size w)
 have H : ((dL.f k az aI aC aH bu bC aK).bind fun nI => (gK.l0 k (([] : List Int)) nI (nI.length : Int) 0)) = some r := h
 clear h
 obtain ⟨abT, KO⟩ : ∃ y_ : List Int, y_ = (([] : List Int)) := ⟨_, rfl⟩
 replace H : ((dL.f k az aI aC aH bu bC aK).bind fun nI => (gK.l0 k abT nI (nI.length : Int) 0)) = some r := by first | (rw [KO]; with_reducible exact H) | (have xZ := (Option.bind_some _ _).symm.trans H; rw [KO]; with_reducible exact xZ) | (have xZ := (Option.bind_some _ _).symm.trans H; with_reducible exact xZ) | with_reducible exact H | (rw [KO]; exact H) | exact H
 have ab_ := ae.mk KO
 clear KO
 replace H := Option.bind_eq_some_iff.mp H
 obtain ⟨nI, Oy, H⟩ := H
 replace H : (gK.l0 k abT nI (nI.length : Int) 0) = some r := H
 have A2 := ae.mk Oy
 clear Oy
 have H' := ae.mk H
 clear H
 go_enter Tryz.func43, Tryz.ntmps43
 go_wp2_with (first | ((with_reducible refine aA (N := 1) rfl ?_); refine aV ?hg (N := 1) ?hd (cs := #[.int .u8 az, .int .i64 aI, .int .i64 aC, .int .i64 aH, .int .i64 bu, .int .i64 bC, .slice dP aK.length dQ]) (t := 26) ?hr ?_; (case hd => rfl); (case hg => rfl); (case hr => first | (go_simp; done) | (go_simp; rfl)); intro qK hg w3 hbox hb; have nM := ae.mk (au (by repeat (first | (with_reducible first | exact HB.out | apply aY | apply aT | apply bF) | exact HB.out)) hb); have nN := ae.mk (hbox); have oM := ae.mk ((by rw [hg]; exact (dE (by repeat (first | (with_reducible first | exact HB.out | apply aY | apply aT | apply bF) | exact HB.out))) : w.heap.size ≤ qK)); have rD := ae.mk ((by rw [hg]; exact (dE (by repeat (first | (with_reducible first | exact HB.out | apply aY | apply aT | apply bF) | exact HB.out))) : w.heap.size ≤ qK)); clear HB; have HB := nM; have lu := nN; have ajX := oM; have zu := rD; clear nM nN oM rD; clear hb hbox hg) | ((with_reducible refine aA (N := 6) rfl ?_); refine Kd.xk (Kd.int .i64) _ 3 ?hg (N := 6) ?hd (xs := ([] : List Int)) (inner := []) (ok := fun _ => True) (gz := fun _ => True) ?hr ?hp (fun _ hk => hk) trivial (Below.refl _ _) (Nat.le_refl _) (by simp) ?_; (case hd => rfl); (case hg => rfl); (case hr => first | (go_simp; done) | (go_simp; rfl)); (case hp => exact (dC.none _ _)); intro anF w4 Cc hb pG jZ; clear pG jZ; (first | rw [← ab_.out] at Cc | (simp only [Int.reduceToNat] at Cc; rw [← ab_.out] at Cc)); have nM := ae.mk (Kd.oQ Cc (dE (by repeat (first | (with_reducible first | exact HB.out | apply aY | apply aT | apply bF | refine eY ?_ zu.out) | exact HB.out)))); have nN := ae.mk (aW (g := qK) (o := .cells #[.int .u8 az, .int .i64 aI, .int .i64 aC, .int .i64 aH, .int .i64 bu, .int .i64 bC, .slice dP aK.length dQ] 26 (0, 0)) (by (with_reducible repeat (first | refine fH ?_ _ | refine fD ?_ | refine fG ?_ _)); exact lu.out) hb); have oM := ae.mk (au (by repeat (first | (with_reducible first | exact HB.out | apply aY | apply aT | apply bF | refine eY ?_ zu.out) | exact HB.out)) hb); clear lu; clear HB; have H8 := nM; have lu := nN; have HB := oM; clear nM nN oM; clear hb Cc; have BJ : w4.cell? ⟨qK, 0, none⟩ = some (.int .u8 az) := (af lu.out 0).trans rfl; have BK : w4.cell? ⟨qK, 1, none⟩ = some (.int .i64 aI) := (af lu.out 1).trans rfl; have BL : w4.cell? ⟨qK, 2, none⟩ = some (.int .i64 aC) := (af lu.out 2).trans rfl; have BM : w4.cell? ⟨qK, 3, none⟩ = some (.int .i64 aH) := (af lu.out 3).trans rfl; have BN : w4.cell? ⟨qK, 4, none⟩ = some (.int .i64 bu) := (af lu.out 4).trans rfl; have BO : w4.cell? ⟨qK, 5, none⟩ = some (.int .i64 bC) := (af lu.out 5).trans rfl; have BP : w4.cell? ⟨qK, 6, none⟩ = some (.slice dP aK.length dQ) := (af lu.out 6).trans rfl; have BQ := ah lu.out 0; have BR := ah lu.out 1; have BU := ah lu.out 2; have BV := ah lu.out 3; have BX := ah lu.out 4; have BZ := ah lu.out 5; have B_ := ah lu.out 6) | ((with_reducible refine jF (f := 38) rfl ?_); refine mf (some 8) rfl rfl Tryz.func38 (by kernel_rfl) rfl #[.agg #[.int .u8 az, .int .i64 aI, .int .i64 aC, .int .i64 aH, .int .i64 bu, .int .i64 bC, .slice dP aK.length dQ]] rfl (by (try simp only [List.map_toArray, List.map_cons, List.map_nil]); first | done | rfl | (simp only [List.length_drop, List.length_take]; rfl)) ?_; (with_reducible refine (dL.calls k az aI aC aH bu bC (fun k_ => k_ < w.heap.size) _ _ aK nI _ ?nH A2.out).mono ?_); (case nH => exact Kd.wR Vu.out (Kd.DZ (Kd.F7 ql J4.out) (by repeat (first | (with_reducible first | exact HB.out | apply aY | apply aT | apply bF | refine eY ?_ zu.out) | exact HB.out)))); rintro e w7 ⟨arW, rfl, ho0, hb⟩; refine ⟨_, rfl, ?_⟩; have nM := ae.mk (Kd.mM (by (with_reducible repeat (first | apply Kd.kF | apply Kd.kG | apply Kd.lN)); exact H8.out) hb); have nN := ae.mk (Kd.vU (Kd.iZ (ok' := fun k_ => some k_ ≠ (anF : Value).ownBlock ∧ k_ ≠ qK) ho0 (fun k_ IL => ⟨Or.elim IL (fun hs_ => fun e_ => Nat.not_le.2 hs_ (Kd.D_ H8.out k_ e_.symm)) (fun Cb => (Kd.fresh' (Kd.Gl (by (with_reducible repeat (first | apply Kd.kF | apply Kd.kG | apply Kd.lN)); exact H8.out)) k_ Cb)), Or.elim IL (fun hs_ => fun e_ => Nat.not_le.2 hs_ (by rw [e_]; exact ajX.out)) (fun Cb => (Kd.zQ (g := qK) (o := .cells #[.int .u8 az, .int .i64 aI, .int .i64 aC, .int .i64 aH, .int .i64 bu, .int .i64 bC, .slice dP aK.length dQ] 26 (0, 0)) (by (with_reducible repeat (first | refine fH ?_ _ | refine fD ?_ | refine fG ?_ _)); exact lu.out) k_ Cb))⟩)) (dE (by repeat (first | (with_reducible first | exact HB.out | apply aY | apply aT | apply bF | refine eY ?_ zu.out) | exact HB.out)))); have oM := ae.mk (aW (g := qK) (o := .cells #[.int .u8 az, .int .i64 aI, .int .i64 aC, .int .i64 aH, .int .i64 bu, .int .i64 bC, .slice dP aK.length dQ] 26 (0, 0)) (by (with_reducible repeat (first | refine fH ?_ _ | refine fD ?_ | refine fG ?_ _)); exact lu.out) hb); have rD := ae.mk (au (by repeat (first | (with_reducible first | exact HB.out | apply aY | apply aT | apply bF | refine eY ?_ zu.out) | exact HB.out)) hb); clear H8; clear lu; clear HB; have H8 := nM; have ab4 := nN; have lu := oM; have HB := rD; clear nM nN oM rD; (try clear hb); (try clear hb2); (try clear hk); (try clear hi); (try clear ho0); obtain ⟨Xb, FT, eo8⟩ := Kd.jO ab4.out; subst eo8))
 go_loopg [3, 11] k (fun kq v3 v11 w' => ∃ (jU : List Int) (bM : Int), v11 = .int .i64 bM ∧ ae (gK.l0 kq jU nI (nI.length : Int) bM = some r) ∧ ae (kq ≤ k) ∧ ae (Kd.R (Kd.int .i64) 3 w' w.heap.size (fun _ => True) v3 jU) ∧ ae (Kd.N k26 26 w' w.heap.size (fun k_ => some k_ ≠ (v3 : Value).ownBlock ∧ k_ ≠ qK) (.slice Xb nI.length FT) nI) ∧ ae (w'.heap[qK]? = some (.cells #[.int .u8 az, .int .i64 aI, .int .i64 aC, .int .i64 aH, .int .i64 bu, .int .i64 bC, (.slice dP aK.length dQ)] 26 (0, 0))) ∧ ae (Below w.heap.size w w'))
 case atStart => exact ⟨(abT), (0), (by first | rfl | (simp; done) | (simp [*]; done)), H', ⟨Nat.le_refl _⟩, ⟨by (with_reducible repeat (first | apply Kd.kF | apply Kd.kG | apply Kd.lN)); exact H8.out⟩, ⟨by (with_reducible repeat (first | apply Kd.LZ | apply Kd.L6 | apply Kd.Gh)); exact ab4.out⟩, ⟨by (with_reducible repeat (first | refine fH ?_ _ | refine fD ?_ | refine fG ?_ _)); exact lu.out⟩, ⟨by repeat (first | (with_reducible first | exact HB.out | apply aY | apply aT | apply bF | refine eY ?_ zu.out) | exact HB.out)⟩⟩
 case round =>
  clear H'
  try clear c1
  try clear p2
  try clear c6
  try clear BJ
  try clear BK
  try clear BL
  try clear BM
  try clear BN
  try clear BO
  try clear BP
  try clear BQ
  try clear BR
  try clear BU
  try clear BV
  try clear BX
  try clear BZ
  try clear B_
  obtain ⟨jU, bM, rfl, HA, lh, kZ, tZ, lu, HB⟩ := hrel
  cases gk with
  | zero => exact absurd HA.out (by simp [gK.l0])
  | succ k1 =>
   have H := HA.out
   clear HA
   simp only [gK.l0] at H
   by_cases c9 : bM < (nI.length : Int)
   ·rw [if_pos c9] at H
    have Jh : decide (bM < (nI.length : Int)) = true := decide_eq_true c9
    clear c9
    by_cases c10 : 0 ≤ bM
    ·rw [if_pos c10] at H
     have PG : decide (0 ≤ bM) = true := decide_eq_true c10
     clear c10
     by_cases c11 : bM < (nI.length : Int)
     ·rw [if_pos c11] at H
      have Ic : decide (bM < (nI.length : Int)) = true := decide_eq_true c11
      clear c11
      by_cases c12 : jU.length < 17592186044416
      ·rw [if_pos c12] at H
       have aj_ := ae.mk c12
       clear c12
       obtain ⟨ajP, KP⟩ : ∃ y_ : List Int, y_ = (jU ++ [(aj nI bM).f2]) := ⟨_, rfl⟩
       replace H : (gK.l0 k1 ajP nI (nI.length : Int) (wrap64 (bM + 1))) = some r := by first | (rw [KP]; with_reducible exact H) | (have xZ := (Option.bind_some _ _).symm.trans H; rw [KP]; with_reducible exact xZ) | (have xZ := (Option.bind_some _ _).symm.trans H; with_reducible exact xZ) | with_reducible exact H | (rw [KP]; exact H) | exact H
       have akk := ae.mk KP
       clear KP
       have H' := ae.mk H
       clear H
       have Wn : 0 ≤ (bM : Int) := of_decide_eq_true (by first | (with_reducible assumption) | assumption)
       have Wu : bM < (nI.length : Int) := of_decide_eq_true (by first | (with_reducible assumption) | assumption)
       obtain ⟨akz, aoU, apH, am3, aoC, aoD, aoE, aoF, aoG, aoH, ae9, UU, UQ⟩ := qi (Kd.jw tZ.out).2.2 bM Wn Wu
       cases am3
       obtain ⟨aqW, ah5, ah0, X0⟩ := Kd.PD tZ.out z26 bM Wn (by first | exact Wu | exact of_decide_eq_true (by first | (with_reducible assumption) | assumption) | (have e_ := (Kd.jw tZ.out).1; omega))
       obtain ⟨aoK, aoN, rfl, Oa, MN⟩ := oK ah0
       have Ir := X0 6 _ rfl
       rw [lG _ _ 6 (by omega)] at Ir
       replace Ir := Option.some.inj (Ir.symm.trans ae9)
       injection Ir with yC EY yD
       rw [yC] at MN
       rw [yD] at Oa
       have LW := ae.mk (show Kd.V k26 26 _ w.heap.size _ _ ((aj nI bM).f3) from Kd.wR Oa MN)
       clear yC EY yD MN Oa
       clear X0 ah5
       have anO := ae.mk UQ
       have anN := ae.mk UU
       clear UQ UU
       replace Wn := eq_true Wn
       replace Wu := eq_true Wu
       go_wp2_with (first | ((with_reducible refine oJ (b := .append) (xs := #[.tmp 14, .tmp 20]) rfl ?_); at_builtin; refine Kd.BB (Kd.int .i64) (w0 := w) w.heap.size rfl (.tmp 14) (.tmp 20) 41 3 (.int .i64 0) 8 rfl Tryz.underlying41 info3 rfl (by decide) (by omega) u3 jU ((aj nI bM).f2) [.int .i64 ((aj nI bM).f2)] (fun _ => True) (fun _ => False) rfl rfl ?aP (fun _ hk => hk.elim) ?aF ?aO ?aB ?aS ?aL ?_; (case aP => exact rfl); (case aB => exact (by repeat (first | (with_reducible first | exact HB.out | apply aY | apply aT | apply bF | refine eY ?_ zu.out) | exact HB.out))); (case aF => exact (fun _ _ => trivial)); (case aO => exact (by (with_reducible repeat (first | apply Kd.kF | apply Kd.kG | apply Kd.lN)); exact kZ.out)); (case aS => exact (dE (by repeat (first | (with_reducible first | exact HB.out | apply aY | apply aT | apply bF | refine eY ?_ zu.out) | exact HB.out)))); (case aL => have := aj_.out; omega); intro arX uU ho hb hg hat; rw [← akk.out] at ho; have nM := ae.mk (Kd.Jc (ok := (fun k_ => k_ ≠ qK)) (by (with_reducible repeat (first | apply Kd.LZ | apply Kd.L6 | apply Kd.Gh)); exact Kd.iZ tZ.out (fun _ hk => ⟨hk.2, hk.1⟩)) hg hat); have nN := ae.mk (dH (g := qK) (o := .cells #[.int .u8 az, .int .i64 aI, .int .i64 aC, .int .i64 aH, .int .i64 bu, .int .i64 bC, .slice dP aK.length dQ] 26 (0, 0)) (by (with_reducible repeat (first | refine fH ?_ _ | refine fD ?_ | refine fG ?_ _)); exact lu.out) hg (Kd.BC kZ.out lu.out (by decide))); have oM := ae.mk (Kd.BD (ok := (fun k_ => some k_ ≠ (.slice (some akz) nI.length FT : Value).ownBlock ∧ k_ ≠ qK)) (by (with_reducible repeat (first | apply Kd.ade | apply Kd.adf | apply Kd.Ko)); exact Kd.iw LW.out (fun _ hk => ⟨⟨hk.2, hk.1.2⟩, hk.1.1⟩)) hg hat); have rD := ae.mk (hb); have OY := ae.mk (ho); clear tZ; clear lu; clear LW; clear HB; clear kZ; have tZ := nM; have lu := nN; have LW := oM; have HB := rD; have aj8 := OY; clear nM nN oM rD OY; clear ho hb hg hat))
       go_roundg k1
       case measure => have := lh.out; omega
       case rel => exact ⟨(ajP), (wrap64 (bM + 1)), (by first | rfl | (simp; done) | (simp [*]; done)), H', ⟨by have := lh.out; omega⟩, ⟨by (with_reducible repeat (first | apply Kd.kF | apply Kd.kG | apply Kd.lN)); exact aj8.out⟩, ⟨by (with_reducible repeat (first | apply Kd.LZ | apply Kd.L6 | apply Kd.Gh)); exact Kd.iZ tZ.out (fun _ hk => ⟨hk.2, hk.1⟩)⟩, ⟨by (with_reducible repeat (first | refine fH ?_ _ | refine fD ?_ | refine fG ?_ _)); exact lu.out⟩, ⟨by repeat (first | (with_reducible first | exact HB.out | apply aY | apply aT | apply bF | refine eY ?_ zu.out) | exact HB.out)⟩⟩
      ·rw [if_neg c12] at H
       exact absurd H (by simp)
     ·rw [if_neg c11] at H
      exact absurd H (by simp)
    ·rw [if_neg c10] at H
     exact absurd H (by simp)
   ·rw [if_neg c9] at H
    have Jh : decide (bM < (nI.length : Int)) = false := decide_eq_false c9
    clear c9
    obtain rfl := Option.some.inj H
    go_wp2
    go_ret
    exact ⟨_, by first | rfl | (simp [lW, lX] <;> rfl) | (simp [*, lW, lX] <;> rfl), by (with_reducible repeat (first | apply Kd.kF | apply Kd.kG | apply Kd.lN)); exact kZ.out, by repeat (first | (with_reducible first | exact HB.out | apply aY | apply aT | apply bF | refine eY ?_ zu.out) | exact HB.out)⟩
end Go.Proofs.YtfdmfgaiblfbhaaGreat.P
namespace Go.Proofs.YtfdmfgaiblfbhaaGreat.P
open Go.RowKit Go.Proofs.ag.aU Go.Proofs.ag.bK Go.Proofs.ag.cO
theorem aiN (c : ai) (h : sz c ≤ 1048576) : Ev (fun k => gK.f k c.f0 c.f1.f0 c.f1.f1 c.f1.f2 c.f1.f3 c.f2 c.f3) (jA [c]) := by
 unfold gK.f
 refine Ev.bind (GH c h) ?_
 have hsz : (gX c).length ≤ 1048576 := by have := KY c; omega
 have key : ∀ (rest pre : List ai), pre ++ rest = gX c → Ev (fun k => gK.l0 k (pre.map (·.f2)) (gX c) ((gX c).length : Int) (pre.length : Int)) ((gX c).map (·.f2)) := by
  intro rest
  induction rest with
  | nil =>
   intro pre hp
   rw [List.append_nil] at hp
   refine Ev.step (f := fun _ => some ((gX c).map (·.f2))) (fun k => ?_) (Ev.now _)
   simp only [gK.l0]
   rw [if_neg (by rw [hp]; omega), hp]
  | cons x xs ihr =>
   intro pre hp
   have hl : (pre.length : Int) < ((gX c).length : Int) := by rw [← hp, List.length_append, List.length_cons]; omega
   have e2 := ihr (pre ++ [x]) (by rw [List.append_assoc]; exact hp)
   have hr : aj (gX c) (pre.length : Int) = x := by rw [← hp]; exact jd pre x xs
   have hu : wrap64 ((pre.length : Int) + 1) = ((pre ++ [x]).length : Int) := FI pre x xs (by rw [hp]; omega)
   rw [List.map_append] at e2
   refine Ev.step (fun k => ?_) e2
   simp only [gK.l0]
   rw [if_pos hl, if_pos (by omega), if_pos hl, if_pos (by rw [List.length_map]; omega), hr, hu]
   rfl
 have e := key (gX c) [] rfl
 rw [show jA [c] = (gX c).map (·.f2) by unfold jA gX; rw [iE, kS, List.append_nil]]
 exact e
def DF.T3 : Bool × List (List Nat × List Nat) := (true, [([], []), ([0], [0]), ([], []), ([2], [2]), ([1, 3], [1, 3]), ([4], [4]), ([5, 3], [5]), ([6, 6, 0, 1, 2, 3, 4, 5, 6], [6])])
def DF.B3 : List Nat := [0, 1, 0, 4, 15, 31, 63, 127]
theorem DF.Ho : je .any (opsOf Tryz.f25 3) = DF.T3 := by kernel_rfl
theorem DF.Dk : iM DF.T3.2 DF.B3 = true := by kernel_rfl
theorem ajh (c : ai) {q : List Int} (h : jA [c] = q) {W : World} {b : Nat} {P : Nat → Prop} {A : Option Addr} {cc : Nat} (hz : sz c ≤ 1048576) (hV : Kd.V k26 26 W b P (.slice A c.f3.length cc) c.f3) : Calls Tryz.prog 43 #[.agg #[.int .u8 c.f0, .int .i64 c.f1.f0, .int .i64 c.f1.f1, .int .i64 c.f1.f2, .int .i64 c.f1.f3, .int .i64 c.f2, .slice A c.f3.length cc]] W fun e w' => ∃ A' c', e = .returned (.slice A' q.length c') ∧ (Kd.int .i64).R 3 w' W.heap.size (fun _ => True) (.slice A' q.length c') q ∧ Below W.heap.size W w' := by
 obtain ⟨k, hk⟩ := (aiN c hz).rounds
 rw [h] at hk
 have h2 := Kd.lF hV
 refine (gK.calls k _ _ _ _ _ _ A cc c.f3 q W h2.2.2 h2.2.1 hk).mono ?_
 rintro e w1 ⟨v, rfl, hR, hb⟩
 obtain ⟨A', c', rfl⟩ := Kd.ig hR
 exact ⟨A', c', rfl, hR, hb⟩
abbrev PO (w : World) (r : Option Int) (e : Ending) (w' : World) : Prop := e = .returned (.tuple #[.int .i64 (r.getD 0), .bool r.isSome]) ∧ Below w.heap.size w w'
theorem VG {v : Int} {b : Bool} {r : Option Int} {args : Array Value} {W : World} (h : r.getD 0 = v ∧ r.isSome = b) (hc : Calls Tryz.prog 25 args W (PO W r)) : Calls Tryz.prog 25 args W fun e w' => e = .returned (.tuple #[.int .i64 v, .bool b]) ∧ Below W.heap.size W w' := by
 obtain ⟨h1, h2⟩ := h
 subst h1 h2
 exact hc
theorem akB (id : Int) : ∀ (N : Nat) (c : ai), sz c ≤ N → N ≤ 20000 → (fU c).all mg = true → ∀ (P : Nat → Prop) (A : Option Addr) (cc : Nat) (w : World), Kd.V k26 26 w w.heap.size P (.slice A c.f3.length cc) c.f3 →
  Calls Tryz.prog 25 #[.agg #[.int .u8 c.f0, .int .i64 c.f1.f0, .int .i64 c.f1.f1, .int .i64 c.f1.f2, .int .i64 c.f1.f3, .int .i64 c.f2, .slice A c.f3.length cc], .int .i64 id] w (PO w (wS id c)) := by
 intro N
 induction N with
 | zero => intro c h; rw [bJ] at h; omega
 | succ N ih =>
  intro c hc hN hok P A cc w hv
  have hsz := bJ c
  have S := ae.mk (St.start (ts := [(.slice A c.f3.length cc, c.f3)]) (b0 := w.heap.size) (w := w) (P := P) (fun t ht => by rw [List.mem_singleton.1 ht]; exact hv))
  have hlen := jf c.f3
  have gZ := ae.mk (show c.f3.length ≤ 1000000 by omega)
  have IH := ae.mk fun (k : ai) (hk : k ∈ c.f3) P A cc w h => ih k (by have := nS hk; omega) (by omega) (xU hok hk) P A cc w h
  rw [Ia]
  cases hp : oN id 0 c.f3 with
  | none =>
   simp only []
   obtain ⟨r9, hr9⟩ : ∃ r, yS id c.f3 = r := ⟨_, rfl⟩
   rw [hr9]
   have Ud := ae.mk hr9
   have BA := ae.mk (show qp id c.f3 = -1 by unfold qp; rw [hp])
   clear ih hc hN hv hsz hlen hp hok hr9
   obtain ⟨ck, ⟨cx, cy, cw, ch⟩, aJ, l⟩ := c
   simp only [] at S IH gZ BA Ud ⊢
   go_enter Tryz.func25, Tryz.ntmps25
   go_wp2_with (first | (refine boxS 2 _ 26 S ?_; clear S; intro b2 eU S; obtain ⟨bG, bP, bQ, bY, bZ, b_, a_⟩ := St.fF S (.head _)) | (refine cZ (some 13) Tryz.func39 S (Fz BA.out (Fv id ⟨ck, ⟨cx, cy, cw, ch⟩, aJ, l⟩ gZ.out _ _ _ _ _ (S.out.tree _ (.head _)))) ?_; clear S; intro fM S; clear bG bP bQ bY bZ b_ a_; have a_ := (S.out.at (.head _) 6).trans rfl))
   clear a_
   go_loopg [37] l.length (fun gg v37 wr => ∃ pre rest : List ai, v37 = .int .i64 (pre.length : Int) ∧ ae (pre ++ rest = l) ∧ ae (yS id rest = r9) ∧ rest.length ≤ gg ∧ ae (St w P [(some b2, .cells #[.int .u8 ck, .int .i64 cx, .int .i64 cy, .int .i64 cw, .int .i64 ch, .int .i64 aJ, .slice A l.length cc] 26 (0, 0))] [] [(.slice A l.length cc, l)] [] wr))
   case atStart => exact ⟨[], l, rfl, ⟨rfl⟩, Ud, Nat.le_refl _, S⟩
   case round =>
    clear S Ud
    obtain ⟨pre, rest, rfl, HE, Ud, hgg, S⟩ := hrel
    cases rest with
    | nil =>
     have hr := Ud.out
     rw [Qy] at hr
     subst hr
     have hE := HE.out
     rw [List.append_nil] at hE
     have hE2 := hE.symm
     subst hE2
     clear hE HE hgg
     have hlt : ¬ ((l.length : Int) < (l.length : Int)) := by omega
     go_wp2
     refine bodyPost_ret (results_tmp2 rfl _ _ _) rfl ?_
     exact ⟨rfl, S.out.below⟩
    | cons k rest =>
     have hk : k ∈ l := by rw [← HE.out]; simp
     have hlt : (pre.length : Int) < (l.length : Int) := by rw [← HE.out, List.length_append, List.length_cons]; omega
     have hw1 : wrap64 ((pre.length : Int) + 1) = ((pre ++ [k]).length : Int) := by have := gZ.out; rw [List.length_append, List.length_singleton]; unfold wrap64; omega
     have HW1 := ae.mk hw1
     have jl := ae.mk hgg
     have HK := ae.mk hk
     obtain ⟨ed, ua, uc, ek, S1⟩ := S.out.elem (.head _) (pre.length : Int) (Int.natCast_nonneg _) hlt
     subst ek
     have hrd : aj l (pre.length : Int) = k := by rw [← HE.out]; exact jd pre k rest
     rw [hrd] at S1
     simp only [Int.toNat_natCast] at S1
     replace S := ae.mk S1
     clear S1 hrd hk hgg hw1
     have hr := Ud.out
     rw [Dj] at hr
     cases FV : wS id k with
     | none =>
      rw [FV] at hr
      simp only [] at hr
      have amF := ae.mk hr
      have HBK := ae.mk (show (wS id k).getD 0 = 0 ∧ (wS id k).isSome = false by rw [FV]; exact ⟨rfl, rfl⟩)
      clear hr FV
      obtain ⟨iP, iQ, iR, iC, iD, jk, jE⟩ := St.yA S
      have a_ := (S.out.at (.head _) 6).trans rfl
      go_wp2_with ((refine cZ (some 47) Tryz.func25 S (VG HBK.out (IH.out k HK.out _ ua uc _ (d_ (S.out.tree _ (.head _))))) ?_; clear S; intro eU S; clear iP iQ iR iC iD jk jE a_))
      have hw1 := HW1.out
      go_wp2
      go_roundg rest.length
      case measure => exact Nat.lt_of_lt_of_le (Nat.lt_succ_self _) jl.out
      case rel => exact ⟨pre ++ [k], rest, (by rw [hw1]), ⟨by rw [List.append_assoc]; exact HE.out⟩, amF, Nat.le_refl _, ⟨S.out.bD.aG.aG.aG.aG.aG.aG.aG⟩⟩
     | some v9 =>
      rw [FV] at hr
      simp only [] at hr
      subst hr
      have HBK := ae.mk (show (wS id k).getD 0 = v9 ∧ (wS id k).isSome = true by rw [FV]; exact ⟨rfl, rfl⟩)
      clear FV
      obtain ⟨iP, iQ, iR, iC, iD, jk, jE⟩ := St.yA S
      have a_ := (S.out.at (.head _) 6).trans rfl
      go_wp2_with ((refine cZ (some 47) Tryz.func25 S (VG HBK.out (IH.out k HK.out _ ua uc _ (d_ (S.out.tree _ (.head _))))) ?_; clear S; intro eU S; clear iP iQ iR iC iD jk jE a_))
      refine bodyPost_ret (results_tmp2 rfl _ _ _) rfl ?_
      exact ⟨rfl, S.out.below⟩
  | some i =>
   simp only []
   obtain ⟨_, hil, _⟩ := SX hp
   rw [Nat.zero_add] at hil
   have hkd : 2 ≤ c.f3.length := by rcases qm (lM hok) with ⟨_, h3⟩ | ⟨_, h3⟩ <;> omega
   have wY := Ei hil hkd
   have wZ := Eo wY
   have hne := Sm _ _ (Nat.le_refl _) (xU hok wZ)
   have hks := nS wZ
   have BA := ae.mk (show qp id c.f3 = (i : Int) by unfold qp; rw [hp])
   have PX := ae.mk (show i ≤ 1000000 by omega)
   unfold Be
   obtain ⟨h9, hh9⟩ : ∃ h, ji i = h := ⟨_, rfl⟩
   rw [hh9] at wY hne hks ⊢
   obtain ⟨kh, hkh⟩ : ∃ x, kd c.f3 h9 = x := ⟨_, rfl⟩
   rw [hkh] at hne hks ⊢
   obtain ⟨q9, FW⟩ : ∃ q, jA [kh] = q := ⟨_, rfl⟩
   rw [FW] at hne ⊢
   have IM := Ce [kh]
   rw [FW, bH, l9] at IM
   obtain ⟨m9, YD⟩ : ∃ m, q9.length = m + 1 := ⟨q9.length - 1, by have := List.length_pos_iff.2 hne; omega⟩
   have ZO := ae.mk FW
   have DI := ae.mk (show sz kh ≤ 1048576 by omega)
   have Gf := ae.mk hh9
   have JX := ae.mk hkh
   have hhz : (h9 : Int) < (c.f3.length : Int) := by omega
   have hh0 : (0 : Int) ≤ (h9 : Int) := Int.natCast_nonneg _
   have hhn : h9 < c.f3.length := wY
   have hi0 : decide ((i : Int) ≥ 0) = true := decide_eq_true (by omega)
   have hi1 : (0 : Int) ≤ (i : Int) := by omega
   have hmw : IntKind.i64.wrap ((q9.length : Int) - 1) = (m9 : Int) := by rw [IntKind.wrap_i64]; omega
   have hmz : (m9 : Int) < (q9.length : Int) := by omega
   have hmn : m9 < q9.length := by omega
   have hm0 : (0 : Int) ≤ (m9 : Int) := Int.natCast_nonneg _
   have hq0 : (0 : Int) < (q9.length : Int) := by omega
   have hqn : 0 < q9.length := by omega
   have F8 := ae.mk (show q9.headD 0 = rd q9 (((0 : Nat)) : Int) by cases q9 with | nil => exact absurd rfl hne | cons a b => rfl)
   have HLA := ae.mk (show q9.getLastD 0 = rd q9 ((m9 : Nat) : Int) by unfold rd; rw [Int.toNat_natCast, List.getLastD_eq_getLast?, List.getLast?_eq_getElem?, List.getD_eq_getElem?_getD, YD, Nat.add_sub_cancel])
   obtain ⟨v9, Gv⟩ : ∃ v, (if i = 0 then q9.headD 0 else q9.getLastD 0) = v := ⟨_, rfl⟩
   rw [Gv]
   have Xk := ae.mk Gv
   clear ih hc hN hv hsz hlen hp hok hil hkd wY wZ hne hks hh9 hkh FW IM YD IH Gv
   obtain ⟨ck, ⟨cx, cy, cw, ch⟩, aJ, l⟩ := c
   simp only [] at S gZ BA JX hhz hhn ⊢
   go_enter Tryz.func25, Tryz.ntmps25
   go_wp2_with (first | (refine boxS 2 _ 26 S ?_; clear S; intro b2 eU S; obtain ⟨bG, bP, bQ, bY, bZ, b_, a_⟩ := St.fF S (.head _)) | (refine cZ (some 13) Tryz.func39 S (Fz BA.out (Fv id ⟨ck, ⟨cx, cy, cw, ch⟩, aJ, l⟩ gZ.out _ _ _ _ _ (S.out.tree _ (.head _)))) ?_; clear S; intro fM S; clear bG bP bQ bY bZ b_ a_))
   obtain ⟨ed, ua, uc, ek, S1⟩ := S.out.elem (.head _) (h9 : Int) hh0 hhz
   subst ek
   rw [xu, JX.out] at S1
   simp only [Int.toNat_natCast] at S1
   replace S := ae.mk S1
   clear S1
   go_wp2
   refine jT (n := 8) (S := fun w' => St w _ _ _ _ _ w') (ds := []) (bA 8 0) (by kernel_rfl) rfl rfl (S.out.call (bI (Below.refl _ _))) (fun hHeld => ?_); refine gG DF.Ho DF.Dk (fun ak fC => ?_)
   replace S := ae.mk (S.out.call (bI (Below.refl _ _)))
   generalize fM.drew = Ph at S hHeld ⊢
   refine ay 0 16 (bA 8 1) ak ?_
   refine dM 1 17 (bA 8 3) ak fC hHeld ?_ (hv := by intro w' hs_; have a_ := (hs_.at (.head _) 6).trans rfl; go_simp; with_reducible rfl)
   refine ay 2 18 (bA 8 7) ak ?_
   refine iH 3 (some 19) (bA 8 15) ak (fun K hK => ?_)
   refine fO Tryz.func41 (by kernel_rfl) rfl #[.int .i64 (i : Int)] (by rfl) rfl rfl (by (try simp only [List.map_toArray, List.map_cons, List.map_nil]); rfl) ?_
   refine (Bq Gf.out (Bo i PX.out _)).mono ?_
   rintro e fM ⟨rfl, hb⟩
   refine ⟨_, rfl, ?_⟩
   replace S := ae.mk (S.out.call hb)
   clear hb
   refine hK.out _ _ S.out (fun hHeld => ?_)
   clear hK K
   refine dO 19 ?_
   refine ay 4 20 (bA 8 31) ak ?_
   refine dM 5 21 (bA 8 63) ak fC hHeld ?_ (hv := by intro w' hs_; have iP := (hs_.cell _ (.head _)).1; have iQ := (hs_.cell _ bf).1; have iR := (hs_.cell _ gy).1; have iC := (hs_.cell _ jy).1; have iD := (hs_.cell _ su).1; have jk := (hs_.cell _ vH).1; have jE := (hs_.cell _ yM).1; go_simp; with_reducible rfl)
   refine iH 6 (some 22) (bA 8 127) ak (fun K hK => ?_)
   refine fO Tryz.func43 (by kernel_rfl) rfl #[.agg #[.int .u8 kh.f0, .int .i64 kh.f1.f0, .int .i64 kh.f1.f1, .int .i64 kh.f1.f2, .int .i64 kh.f1.f3, .int .i64 kh.f2, .slice ua kh.f3.length uc]] (by rfl) rfl rfl (by (try simp only [List.map_toArray, List.map_cons, List.map_nil]); rfl) ?_
   refine (ajh kh ZO.out DI.out (S.out.tree _ (.head _))).mono ?_
   rintro e iq ⟨Ai, ci, rfl, h1, hb⟩
   refine ⟨_, rfl, ?_⟩
   obtain ⟨oi, S1, OQ⟩ := S.out.NV h1 hb
   have rY := ae.mk OQ
   replace S := ae.mk S1
   clear S1 h1 hb OQ
   refine hK.out _ _ S.out.eP (fun hHeld => ?_)
   clear hK K
   refine dO 22 ?_
   refine ay 7 7 (bA 8 255) ak ?_
   refine lJ (jc ak.out (by kernel_rfl)) ?_
   clear hHeld
   obtain ⟨Qq, ek, _⟩ := Kd.ja (EE rY.out S.out (.head _)).1 (0 : Int) (by decide) hq0
   subst ek
   have xf := xy rY.out (S.out.blk _ (.head _)) 0 hq0
   rw [Addr.add_zero'] at xf
   have xl := xy rY.out (S.out.blk _ (.head _)) m9 hmz
   by_cases hi : i = 0
   case pos =>
    have hia : ((i : Int) == 0) = true := beq_iff_eq.mpr (by omega)
    have hib : decide ((i : Int) = 0) = true := decide_eq_true (by omega)
    have hic : (i : Int) = 0 := by omega
    have PV := ae.mk (show v9 = (rd q9 ((0 : Nat) : Int)) by have h := Xk.out; rw [if_pos hi, F8.out] at h; exact h.symm)
    clear hi
    go_wp2
    refine bodyPost_ret (results_tmp2 rfl _ _ _) rfl ?_
    exact ⟨by rw [PV.out]; rfl, S.out.below⟩
   case neg =>
    have hia : ((i : Int) == 0) = false := beq_eq_false_iff_ne.mpr (by omega)
    have hib : decide ((i : Int) = 0) = false := decide_eq_false (by omega)
    have hic : ¬ ((i : Int) = 0) := by omega
    have PV := ae.mk (show v9 = (rd q9 (m9 : Int)) by have h := Xk.out; rw [if_neg hi, HLA.out] at h; exact h.symm)
    clear hi
    go_wp2
    refine bodyPost_ret (results_tmp2 rfl _ _ _) rfl ?_
    exact ⟨by rw [PV.out]; rfl, S.out.below⟩
def FX (id : Int) (c : ai) : Option Int := if kP id c = 0 then wS id c else none
theorem ak4 (c : ai) (hz : sz c ≤ 20000) (id : Int) (P : Nat → Prop) (A : Option Addr) (cc : Nat) (w : World) (hv : Kd.V k26 26 w w.heap.size P (.slice A c.f3.length cc) c.f3) :
  Calls Tryz.prog 9 #[.agg #[.int .u8 c.f0, .int .i64 c.f1.f0, .int .i64 c.f1.f1, .int .i64 c.f1.f2, .int .i64 c.f1.f3, .int .i64 c.f2, .slice A c.f3.length cc], .int .i64 id] w (PO w (FX id c)) := by
 have S := ae.mk (St.start (ts := [(.slice A c.f3.length cc, c.f3)]) (b0 := w.heap.size) (w := w) (P := P) (fun t ht => by rw [List.mem_singleton.1 ht]; exact hv))
 have HZ := ae.mk (show sz c ≤ 1000000 by omega)
 have HZ2 := ae.mk hz
 clear hz hv
 by_cases hn0 : kP id c = 0
 case pos =>
  obtain ⟨p, aX, k, hK⟩ := kills hn0
  have hrn : FX id c = some (Be aX.f3 k) := by unfold FX; rw [if_pos hn0, hK.aaO]
  rw [hrn]
  unfold Be
  have hps := Eb _ _ _ hK.at'
  have hpe := bJ aX
  have hlt := hK.lt
  have hl2 := hK.len
  have wY := Ei hlt hl2
  have wZ := Eo wY
  have hne := Sm _ _ (Nat.le_refl _) (xU hK.ok wZ)
  have hks := nS wZ
  have aaR : (ji k < k ↔ k ≠ 0) := by unfold ji; split <;> omega
  obtain ⟨pq, hpq⟩ : ∃ pq, pq = p.take (p.length - 1) := ⟨_, rfl⟩
  have HPE := ae.mk hpq
  have HKK := ae.mk hK
  have HPK := ae.mk (show 0 < aX.f3.length by omega)
  obtain ⟨h9, hh9⟩ : ∃ h, ji k = h := ⟨_, rfl⟩
  rw [hh9] at wY hne hks aaR ⊢
  obtain ⟨kh, hkh⟩ : ∃ x, kd aX.f3 h9 = x := ⟨_, rfl⟩
  rw [hkh] at hne hks ⊢
  obtain ⟨q9, FW⟩ : ∃ q, jA [kh] = q := ⟨_, rfl⟩
  rw [FW] at hne ⊢
  have IM := Ce [kh]
  rw [FW, bH, l9] at IM
  obtain ⟨m9, YD⟩ : ∃ m, q9.length = m + 1 := ⟨q9.length - 1, by have := List.length_pos_iff.2 hne; omega⟩
  have ZO := ae.mk FW
  have DI := ae.mk (show sz kh ≤ 1048576 by have := HZ2.out; omega)
  have Gf := ae.mk hh9
  have JX := ae.mk hkh
  have hhz : (h9 : Int) < (aX.f3.length : Int) := by omega
  have hh0 : (0 : Int) ≤ (h9 : Int) := Int.natCast_nonneg _
  have hhn : h9 < aX.f3.length := wY
  have hmw : IntKind.i64.wrap ((q9.length : Int) - 1) = (m9 : Int) := by have := HZ2.out; rw [IntKind.wrap_i64]; omega
  have hmz : (m9 : Int) < (q9.length : Int) := by omega
  have hmn : m9 < q9.length := by omega
  have hm0 : (0 : Int) ≤ (m9 : Int) := Int.natCast_nonneg _
  have hq0 : (0 : Int) < (q9.length : Int) := by omega
  have hqn : 0 < q9.length := by omega
  have F8 := ae.mk (show q9.headD 0 = rd q9 (0 : Int) by cases q9 with | nil => exact absurd rfl hne | cons a b => rfl)
  have HLA := ae.mk (show q9.getLastD 0 = rd q9 ((m9 : Nat) : Int) by unfold rd; rw [Int.toNat_natCast, List.getLastD_eq_getLast?, List.getLast?_eq_getElem?, List.getD_eq_getElem?_getD, YD, Nat.add_sub_cancel])
  obtain ⟨v9, Gv⟩ : ∃ v, (if k = 0 then q9.headD 0 else q9.getLastD 0) = v := ⟨_, rfl⟩
  rw [Gv]
  have Xk := ae.mk Gv
  have agx := ae.mk aaR
  clear hn0 hK hrn hps hpe hlt hl2 wY wZ hne hks aaR hpq hh9 hkh FW IM YD Gv
  obtain ⟨ck, ⟨cx, cy, cw, ch⟩, aJ, l⟩ := c
  simp only [] at S ⊢
  go_enter Tryz.func9, Tryz.ntmps9
  go_upto_region 4 with (first
   | (refine boxS 2 _ 26 S ?_; clear S; intro b2 eU S; obtain ⟨bG, bP, bQ, bY, bZ, b_, a_⟩ := St.fF S (.head _))
   | (refine lK (some 12) Tryz.func14 (Zu Gf.out ((Iw ⟨ck, ⟨cx, cy, cw, ch⟩, aJ, l⟩ HZ.out id _ _ _ _ _ (S.out.tree _ (.head _))).2 p pq aX k HKK.out HPE.out)) ?_; rintro e fM ⟨Az, cz, Ap, cp, op, rfl, OQ, T⟩; refine ⟨_, rfl, ?_⟩; have S1 := S.out.join T; have rY := ae.mk OQ; obtain ⟨gr, amU, ev, _⟩ := Kd.zN S1.uI HPK.out; injection ev with e1 e2 e3; subst e1; clear e2 e3 T OQ; replace S := ae.mk S1; clear S1; clear bG bP bQ bY bZ b_ a_)
   | (refine boxS 6 _ 43 S ?_; clear S; intro b6 iq S)
   | (refine gY 43 6 13 #[.int .u8 aX.f0, .int .i64 aX.f1.f0, .int .i64 aX.f1.f1, .int .i64 aX.f1.f2, .int .i64 aX.f1.f3, .int .i64 aX.f2, .slice (some ⟨gr, 0, none⟩) aX.f3.length cz, .slice Ap pq.length cp, .int .i64 (k : Int), .int .i64 (h9 : Int)] 0 10 S ?_; clear S; intro jD S)
   | fail)
  obtain ⟨ua, uc, S1, h1⟩ := S.out.yU (h9 : Int) hh0 hhz
  simp only [xu] at h1 S1
  rw [JX.out] at h1 S1
  rw [Int.toNat_natCast] at h1
  replace S := ae.mk S1
  have xe0 : jD.cell? ⟨gr, h9 * 7, none⟩ = some (.int .u8 kh.f0) := h1 0 _ rfl
  have xe1 : jD.cell? ⟨gr, h9 * 7 + 1, none⟩ = some (.int .i64 kh.f1.f0) := h1 1 _ rfl
  have xe2 : jD.cell? ⟨gr, h9 * 7 + 2, none⟩ = some (.int .i64 kh.f1.f1) := h1 2 _ rfl
  have xe3 : jD.cell? ⟨gr, h9 * 7 + 3, none⟩ = some (.int .i64 kh.f1.f2) := h1 3 _ rfl
  have xe4 : jD.cell? ⟨gr, h9 * 7 + 4, none⟩ = some (.int .i64 kh.f1.f3) := h1 4 _ rfl
  have xe5 : jD.cell? ⟨gr, h9 * 7 + 5, none⟩ = some (.int .i64 kh.f2) := h1 5 _ rfl
  have xe6 : jD.cell? ⟨gr, h9 * 7 + 6, none⟩ = some (.slice ua kh.f3.length uc) := h1 6 _ rfl
  clear S1 h1
  have jH := (S.out.at (.head _) 6).trans rfl
  have zx := (S.out.at (.head _) 9).trans rfl
  go_upto_region 5 with (first
   | ((with_reducible refine aA (N := 24) rfl ?_); refine qQ (N := 24) rfl rfl kh S.out (S.out.tree _ (.head _)) ?hr ?_; (case hr => first | (go_simp; done) | (go_simp; rfl)); intro aq8 arq eU S1 h1 h2; replace S := ae.mk S1; have qf := ae.mk h1; have uq := ae.mk h2; clear S1 h1 h2; clear jH zx xe0 xe1 xe2 xe3 xe4 xe5 xe6)
   | (refine lK (some 25) Tryz.func24 (U0 kh ZO.out DI.out uq.out qf.out) ?_; rintro e fM ⟨Ai, ci, rfl, hci, hcl, hb⟩; refine ⟨_, rfl, ?_⟩; have HCI := ae.mk hci; have HCL := ae.mk hcl; replace S := ae.mk (S.out.call hb); clear hb; clear hci hcl)
   | fail)
  obtain ⟨Qq, ek, xf⟩ := Kd.ja HCI.out (0 : Int) (by decide) hq0
  obtain ⟨ark, ek2, xl⟩ := Kd.ja HCI.out (m9 : Int) hm0 hmz
  subst ek
  injection ek2 with ek2
  subst ek2
  simp only [Int.toNat_natCast, show ((0 : Int)).toNat = 0 from rfl, Addr.add_zero'] at xf xl
  by_cases hk0 : k = 0
  case pos =>
   have hx := agx.out
   have hla : decide ((h9 : Int) < (k : Int)) = false := decide_eq_false (by omega)
   have hlb : decide (h9 < k) = false := decide_eq_false (by omega)
   have hlc : ¬ (h9 < k) := by omega
   have PV := ae.mk (show v9 = (rd q9 0) by have h := Xk.out; rw [if_pos hk0, F8.out] at h; exact h.symm)
   clear hk0 hx
   have zx := (S.out.at (.head _) 9).trans rfl
   have Dq := (S.out.at (.head _) 8).trans rfl
   go_wp2
   clear zx Dq xf
   refine bodyPost_ret (results_tmp2 rfl _ _ _) rfl ?_
   exact ⟨by rw [PV.out]; rfl, S.out.below⟩
  case neg =>
   have hx := agx.out.2 hk0
   have hla : decide ((h9 : Int) < (k : Int)) = true := decide_eq_true (by omega)
   have hlb : decide (h9 < k) = true := decide_eq_true (by omega)
   have hlc : (h9 < k) := by omega
   have PV := ae.mk (show v9 = (rd q9 (m9 : Int)) by have h := Xk.out; rw [if_neg hk0, HLA.out] at h; exact h.symm)
   clear hk0 hx
   have zx := (S.out.at (.head _) 9).trans rfl
   have Dq := (S.out.at (.head _) 8).trans rfl
   go_wp2
   clear zx Dq xl
   refine bodyPost_ret (results_tmp2 rfl _ _ _) rfl ?_
   exact ⟨by rw [PV.out]; rfl, S.out.below⟩
 case neg =>
  have hrn : FX id c = none := by unfold FX; rw [if_neg hn0]
  rw [hrn]
  obtain ⟨n, hn⟩ : ∃ n, kP id c = n := ⟨_, rfl⟩
  rw [hn] at hn0
  obtain ⟨hna, hnb, hnd⟩ := eqF (a := n) (b := 0) (by omega)
  have HN := ae.mk hn
  have HN0 := ae.mk hn0
  clear hn hn0 hrn
  obtain ⟨ck, ⟨cx, cy, cw, ch⟩, aJ, l⟩ := c
  simp only [] at S ⊢
  go_enter Tryz.func9, Tryz.ntmps9
  go_wp2_with (first
   | (refine boxS 2 _ 26 S ?_; clear S; intro b2 eU S; obtain ⟨bG, bP, bQ, bY, bZ, b_, a_⟩ := St.fF S (.head _))
   | (refine cZ (some 12) Tryz.func14 S ((Iw ⟨ck, ⟨cx, cy, cw, ch⟩, aJ, l⟩ HZ.out id _ _ _ _ _ (S.out.tree _ (.head _))).1 n HN.out HN0.out) ?_; clear S; intro fM S; clear bG bP bQ bY bZ b_ a_)
   | (refine boxS 6 _ 43 S ?_; clear S; intro b6 iq S)
   | (refine gY 43 6 13 #[.int .u8 0, .int .i64 0, .int .i64 0, .int .i64 0, .int .i64 0, .int .i64 0, .slice none 0 0, .slice none 0 0, .int .i64 0, .int .i64 0] 0 10 S ?_; clear S; intro jD S)
   | fail)
  refine bodyPost_ret (results_tmp2 rfl _ _ _) rfl ?_
  exact ⟨rfl, S.out.below⟩
theorem afs (c : ai) (hz : sz c ≤ 20000) (id : Int) (P : Nat → Prop) (A : Option Addr) (cc : Nat) (w : World) (hv : Kd.V k26 26 w w.heap.size P (.slice A c.f3.length cc) c.f3) :
  Calls Tryz.prog 10 #[.agg #[.int .u8 c.f0, .int .i64 c.f1.f0, .int .i64 c.f1.f1, .int .i64 c.f1.f2, .int .i64 c.f1.f3, .int .i64 c.f2, .slice A c.f3.length cc], .int .i64 id] w (PO w (FX id c)) := by
 have S := ae.mk (St.start (ts := [(.slice A c.f3.length cc, c.f3)]) (b0 := w.heap.size) (w := w) (P := P) (fun t ht => by rw [List.mem_singleton.1 ht]; exact hv))
 have HZ := ae.mk (show sz c ≤ 1000000 by omega)
 have HZ2 := ae.mk hz
 clear hz hv
 by_cases hn0 : kP id c = 0
 case pos =>
  obtain ⟨z, hz⟩ : ∃ z, uP id c = z := ⟨_, rfl⟩
  obtain ⟨n, hn⟩ : ∃ n, kP id c = n := ⟨_, rfl⟩
  have HZE := ae.mk hz
  have JZ := ae.mk hn
  obtain ⟨p, aX, k, hK⟩ := kills hn0
  have hrn : FX id c = some (Be aX.f3 k) := by unfold FX; rw [if_pos hn0, hK.aaO]
  rw [hrn]
  obtain ⟨v9, Gv⟩ : ∃ v, Be aX.f3 k = v := ⟨_, rfl⟩
  rw [Gv]
  have JS := ae.mk (show (wS id c).getD 0 = v9 ∧ (wS id c).isSome = true by rw [hK.aaO, ← Gv]; exact ⟨rfl, rfl⟩)
  have P8 := ae.mk (Bh hK.sN).1
  rw [hn] at hn0
  obtain ⟨hna, hnb, hnd⟩ := yB (a := n) (b := 0) (by omega)
  clear hn0 hK hrn Gv hz hn
  obtain ⟨ck, ⟨cx, cy, cw, ch⟩, aJ, l⟩ := c
  simp only [] at S ⊢
  go_enter Tryz.func10, Tryz.ntmps10
  go_wp2_with (first
   | (refine boxS 2 _ 26 S ?_; clear S; intro b2 eU S; obtain ⟨bG, bP, bQ, bY, bZ, b_, a_⟩ := St.fF S (.head _))
   | (refine uO (some 11) Tryz.func8 S (o6 HZE.out JZ.out (Tq ⟨ck, ⟨cx, cy, cw, ch⟩, aJ, l⟩ HZ2.out id _ _ _ _ (d_ (S.out.tree _ (.head _))))) ?_; clear S; intro Az cz fM S; clear bG bP bQ bY bZ b_ a_)
   | (refine boxS 6 _ 26 S ?_; clear S; intro b6 iq S)
   | (refine gY 26 6 12 #[.int .u8 z.f0, .int .i64 z.f1.f0, .int .i64 z.f1.f1, .int .i64 z.f1.f2, .int .i64 z.f1.f3, .int .i64 z.f2, .slice Az z.f3.length cz] 0 7 S ?_; clear S; intro jD S; obtain ⟨bG, bP, bQ, bY, bZ, b_, a_⟩ := St.fF S bf)
   | (refine cZ (some 18) Tryz.func25 S (VG JS.out (akB id 20000 ⟨ck, ⟨cx, cy, cw, ch⟩, aJ, l⟩ HZ2.out (Nat.le_refl _) P8.out _ _ _ _ (d_ (S.out.tree _ bf)))) ?_; clear S; intro mQ S; clear bG bP bQ bY bZ b_ a_)
   | fail)
  refine bodyPost_ret (results_tmp2 rfl _ _ _) rfl ?_
  exact ⟨rfl, S.out.below⟩
 case neg =>
  obtain ⟨z, hz⟩ : ∃ z, uP id c = z := ⟨_, rfl⟩
  obtain ⟨n, hn⟩ : ∃ n, kP id c = n := ⟨_, rfl⟩
  have HZE := ae.mk hz
  have JZ := ae.mk hn
  have hrn : FX id c = none := by unfold FX; rw [if_neg hn0]
  rw [hrn]
  rw [hn] at hn0
  obtain ⟨hna, hnb, hnd⟩ := eqF (a := n) (b := 0) (by omega)
  clear hn0 hrn hz hn
  obtain ⟨ck, ⟨cx, cy, cw, ch⟩, aJ, l⟩ := c
  simp only [] at S ⊢
  go_enter Tryz.func10, Tryz.ntmps10
  go_wp2_with (first
   | (refine boxS 2 _ 26 S ?_; clear S; intro b2 eU S; obtain ⟨bG, bP, bQ, bY, bZ, b_, a_⟩ := St.fF S (.head _))
   | (refine uO (some 11) Tryz.func8 S (o6 HZE.out JZ.out (Tq ⟨ck, ⟨cx, cy, cw, ch⟩, aJ, l⟩ HZ2.out id _ _ _ _ (d_ (S.out.tree _ (.head _))))) ?_; clear S; intro Az cz fM S; clear bG bP bQ bY bZ b_ a_)
   | (refine boxS 6 _ 26 S ?_; clear S; intro b6 iq S)
   | (refine gY 26 6 12 #[.int .u8 z.f0, .int .i64 z.f1.f0, .int .i64 z.f1.f1, .int .i64 z.f1.f2, .int .i64 z.f1.f3, .int .i64 z.f2, .slice Az z.f3.length cz] 0 7 S ?_; clear S; intro jD S)
   | fail)
  refine bodyPost_ret (results_tmp2 rfl _ _ _) rfl ?_
  exact ⟨rfl, S.out.below⟩
theorem OD {W : World} {b : Nat} {P : Nat → Prop} {A : Option Addr} {cc : Nat} (c : ai) (hz : sz c ≤ 1048576) (hV : Kd.V k26 26 W b P (.slice A c.f3.length cc) c.f3) :
  Calls Tryz.prog 5 #[.agg #[.int .u8 c.f0, .int .i64 c.f1.f0, .int .i64 c.f1.f1, .int .i64 c.f1.f2, .int .i64 c.f1.f3, .int .i64 c.f2, .slice A c.f3.length cc]] W fun e w' => ∃ A' c', e = .returned (.slice A' (sz c) c') ∧ Below W.heap.size W w' := (Qu c hz hV).mono (fun _ _ ⟨A', c', he, _, hB⟩ => ⟨A', c', he, hB⟩)
theorem aiJ {v : Int} {b : Bool} {r : Option Int} {f : FuncId} {args : Array Value} {W : World} (h : r.getD 0 = v ∧ r.isSome = b) (hc : Calls Tryz.prog f args W (PO W r)) : Calls Tryz.prog f args W fun e w' => e = .returned (.tuple #[.int .i64 v, .bool b]) ∧ Below W.heap.size W w' := by
 obtain ⟨h1, h2⟩ := h
 subst h1 h2
 exact hc
theorem YM (c : ai) (id : Int) (A : Option Addr) (cc : Nat) (w : World) (hr : Kd.C k26 w A c.f3.length c.f3) (hc : c.f3.length ≤ cc) (hz : sz c ≤ 1048576) (h1 : ∃ k, kX.f k c.f0 c.f1.f0 c.f1.f1 c.f1.f2 c.f1.f3 c.f2 c.f3 = some true)  :
  Calls Tryz.prog 3 #[.agg #[.int .u8 c.f0, .int .i64 c.f1.f0, .int .i64 c.f1.f1, .int .i64 c.f1.f2, .int .i64 c.f1.f3, .int .i64 c.f2, .slice A c.f3.length cc], .int .i64 id] w fun e w' => e = .returned (.bool true) ∧ Below w.heap.size w w' := by
 have S := ae.mk (St.start (ts := [(.slice A c.f3.length cc, c.f3)]) (b0 := w.heap.size) (w := w) (P := fun k => k < w.heap.size) (fun t ht => by
  rw [List.mem_singleton.1 ht]; exact Kd.wR hc (Kd.F7 ql hr)))
 have G1 := ae.mk h1
 have P_ := ae.mk hz
 clear hr hc h1 hz
 obtain ⟨ck, ⟨cx, cy, cw, ch⟩, aJ, l⟩ := c
 simp only [] at S G1 P_ ⊢
 go_enter Tryz.func3, Tryz.ntmps3
 go_wp2_with (first
  | (refine boxS 2 _ 26 S ?_; clear S; intro b2 eU S; obtain ⟨bG, bP, bQ, bY, bZ, b_, a_⟩ := St.fF S (.head _))
  | (refine cZ (some 14) Tryz.func4 S (MO ⟨ck, ⟨cx, cy, cw, ch⟩, aJ, l⟩ true G1.out (S.out.tree _ (.head _))) ?_; clear S; intro fM S; clear bG bP bQ bY bZ b_ a_)
  | (refine cZ (some 21) Tryz.func6 S (Gn) ?_; clear S; intro iq S)
  | fail)
 go_ret
 exact ⟨rfl, S.out.below⟩
theorem aa2 (c : ai) (id : Int) (A : Option Addr) (cc : Nat) (w : World) (hr : Kd.C k26 w A c.f3.length c.f3) (hc : c.f3.length ≤ cc) (hz : sz c ≤ 1048576) (h1 : ∃ k, kX.f k c.f0 c.f1.f0 c.f1.f1 c.f1.f2 c.f1.f3 c.f2 c.f3 = some false) (h3 : 100 < sz c) :
  Calls Tryz.prog 3 #[.agg #[.int .u8 c.f0, .int .i64 c.f1.f0, .int .i64 c.f1.f1, .int .i64 c.f1.f2, .int .i64 c.f1.f3, .int .i64 c.f2, .slice A c.f3.length cc], .int .i64 id] w fun e w' => e = .returned (.bool true) ∧ Below w.heap.size w w' := by
 have S := ae.mk (St.start (ts := [(.slice A c.f3.length cc, c.f3)]) (b0 := w.heap.size) (w := w) (P := fun k => k < w.heap.size) (fun t ht => by
  rw [List.mem_singleton.1 ht]; exact Kd.wR hc (Kd.F7 ql hr)))
 have G1 := ae.mk h1
 have P_ := ae.mk hz
 have h3b : decide ((sz c : Int) > 100) = true := decide_eq_true (by omega)
 have h3c : decide (100 < (sz c : Int)) = true := decide_eq_true (by omega)
 clear hr hc h1 hz h3
 obtain ⟨ck, ⟨cx, cy, cw, ch⟩, aJ, l⟩ := c
 simp only [] at S G1 P_ ⊢
 go_enter Tryz.func3, Tryz.ntmps3
 go_wp2_with (first
  | (refine boxS 2 _ 26 S ?_; clear S; intro b2 eU S; obtain ⟨bG, bP, bQ, bY, bZ, b_, a_⟩ := St.fF S (.head _))
  | (refine cZ (some 14) Tryz.func4 S (MO ⟨ck, ⟨cx, cy, cw, ch⟩, aJ, l⟩ false G1.out (S.out.tree _ (.head _))) ?_; clear S; intro fM S; clear bG bP bQ bY bZ b_ a_; obtain ⟨bG, bP, bQ, bY, bZ, b_, a_⟩ := St.fF S (.head _))
  | (refine ik 17 rfl ?_; (refine gW (by rfl) ?_; dsimp only); refine lK (some 17) Tryz.func5 (OD ⟨ck, ⟨cx, cy, cw, ch⟩, aJ, l⟩ P_.out (S.out.tree _ (.head _))) ?_; rintro e iq ⟨Aa, ca, rfl, hb⟩; refine ⟨_, rfl, ?_⟩; replace S := ae.mk (S.out.call hb); clear hb; clear bG bP bQ bY bZ b_ a_)
  | (refine cZ (some 21) Tryz.func6 S (Gn) ?_; clear S; intro jD S)
  | fail)
 go_ret
 exact ⟨rfl, S.out.below⟩
theorem aa3 (c : ai) (id : Int) (A : Option Addr) (cc : Nat) (w : World) (hr : Kd.C k26 w A c.f3.length c.f3) (hc : c.f3.length ≤ cc) (hz : sz c ≤ 1048576) (h1 : ∃ k, kX.f k c.f0 c.f1.f0 c.f1.f1 c.f1.f2 c.f1.f3 c.f2 c.f3 = some false) (h3 : ¬ 100 < sz c) (hz2 : sz c ≤ 200) :
  Calls Tryz.prog 3 #[.agg #[.int .u8 c.f0, .int .i64 c.f1.f0, .int .i64 c.f1.f1, .int .i64 c.f1.f2, .int .i64 c.f1.f3, .int .i64 c.f2, .slice A c.f3.length cc], .int .i64 id] w fun e w' => e = .returned (.bool true) ∧ Below w.heap.size w w' := by
 have S := ae.mk (St.start (ts := [(.slice A c.f3.length cc, c.f3)]) (b0 := w.heap.size) (w := w) (P := fun k => k < w.heap.size) (fun t ht => by
  rw [List.mem_singleton.1 ht]; exact Kd.wR hc (Kd.F7 ql hr)))
 have G1 := ae.mk h1
 have P_ := ae.mk hz
 have h3b : decide ((sz c : Int) > 100) = false := decide_eq_false (by omega)
 have h3c : decide (100 < (sz c : Int)) = false := decide_eq_false (by omega)
 have HZ2 := ae.mk (show sz c ≤ 20000 by omega)
 have HZ3 := ae.mk (show sz c ≤ 300000 by omega)
 have hz1 := afa id c
 obtain ⟨z1, ha⟩ : ∃ r, uP id c = r := ⟨_, rfl⟩
 obtain ⟨e1, he⟩ : ∃ r, kP id c = r := ⟨_, rfl⟩
 rw [ha] at hz1
 have HR := ae.mk ha
 have HE := ae.mk he
 obtain ⟨v1, hv1⟩ : ∃ v, (FX id c).getD 0 = v := ⟨_, rfl⟩
 obtain ⟨b1, hb1⟩ : ∃ v, (FX id c).isSome = v := ⟨_, rfl⟩
 have HV := ae.mk (And.intro hv1 hb1)
 have HZZ := ae.mk (show sz z1 ≤ 1048576 by omega)
 clear ha he hz1 hv1 hb1 hz2
 clear hr hc h1 hz h3
 obtain ⟨ck, ⟨cx, cy, cw, ch⟩, aJ, l⟩ := c
 simp only [] at S G1 P_ ⊢
 go_enter Tryz.func3, Tryz.ntmps3
 go_wp2_with (first
  | (refine boxS 2 _ 26 S ?_; clear S; intro b2 eU S; obtain ⟨bG, bP, bQ, bY, bZ, b_, a_⟩ := St.fF S (.head _))
  | (refine cZ (some 14) Tryz.func4 S (MO ⟨ck, ⟨cx, cy, cw, ch⟩, aJ, l⟩ false G1.out (S.out.tree _ (.head _))) ?_; clear S; intro fM S; clear bG bP bQ bY bZ b_ a_; obtain ⟨bG, bP, bQ, bY, bZ, b_, a_⟩ := St.fF S (.head _))
  | (refine ik 17 rfl ?_; (refine gW (by rfl) ?_; dsimp only); refine lK (some 17) Tryz.func5 (OD ⟨ck, ⟨cx, cy, cw, ch⟩, aJ, l⟩ P_.out (S.out.tree _ (.head _))) ?_; rintro e iq ⟨Aa, ca, rfl, hb⟩; refine ⟨_, rfl, ?_⟩; replace S := ae.mk (S.out.call hb); clear hb; clear bG bP bQ bY bZ b_ a_; obtain ⟨bG, bP, bQ, bY, bZ, b_, a_⟩ := St.fF S (.head _))
  | (refine uO (some 25) Tryz.func7 S (o6 HR.out HE.out (acD ⟨ck, ⟨cx, cy, cw, ch⟩, aJ, l⟩ HZ3.out id _ _ _ _ (d_ (S.out.tree _ (.head _))))) ?_; clear S; intro A25 c25 jD S; clear bG bP bQ bY bZ b_ a_)
  | (refine boxS 5 _ 26 S ?_; clear S; intro b5 mQ S)
  | (refine gY 26 5 26 #[.int .u8 z1.f0, .int .i64 z1.f1.f0, .int .i64 z1.f1.f1, .int .i64 z1.f1.f2, .int .i64 z1.f1.f3, .int .i64 z1.f2, .slice A25 z1.f3.length c25] 0 7 S ?_; clear S; intro vS S; obtain ⟨bG, bP, bQ, bY, bZ, b_, a_⟩ := St.fF S bf)
  | (refine uO (some 31) Tryz.func8 S (o6 HR.out HE.out (Tq ⟨ck, ⟨cx, cy, cw, ch⟩, aJ, l⟩ HZ2.out id _ _ _ _ (d_ (S.out.tree _ bf)))) ?_; clear S; intro A31 c31 xY S; clear bG bP bQ bY bZ b_ a_)
  | (refine boxS 7 _ 26 S ?_; clear S; intro b7 A_ S)
  | (refine gY 26 7 32 #[.int .u8 z1.f0, .int .i64 z1.f1.f0, .int .i64 z1.f1.f1, .int .i64 z1.f1.f2, .int .i64 z1.f1.f3, .int .i64 z1.f2, .slice A31 z1.f3.length c31] 0 7 S ?_; clear S; intro FZ S; obtain ⟨bG, bP, bQ, bY, bZ, b_, a_⟩ := St.fF S gy)
  | (refine cZ (some 37) Tryz.func9 S (aiJ HV.out (ak4 ⟨ck, ⟨cx, cy, cw, ch⟩, aJ, l⟩ HZ2.out id _ _ _ _ (d_ (S.out.tree _ gy)))) ?_; clear S; intro CW S; clear bG bP bQ bY bZ b_ a_; obtain ⟨bG, bP, bQ, bY, bZ, b_, a_⟩ := St.fF S gy)
  | (refine cZ (some 43) Tryz.func10 S (aiJ HV.out (afs ⟨ck, ⟨cx, cy, cw, ch⟩, aJ, l⟩ HZ2.out id _ _ _ _ (d_ (S.out.tree _ gy)))) ?_; clear S; intro DV S; clear bG bP bQ bY bZ b_ a_; obtain ⟨akO, VM, VN, Kw, Ky, akP, akQ⟩ := St.fF S (.head _); obtain ⟨VJ, yu, yw, yx, yz, Kv, VK⟩ := St.fF S bf)
  | (refine ik 52 rfl ?_; (refine gW (by rfl) ?_; dsimp only); refine cZ (some 52) Tryz.func11 S (Zk z1 HZZ.out (S.out.tree _ bf) (S.out.tree _ (.head _))) ?_; clear S; intro FM S; clear akO VM VN Kw Ky akP akQ VJ yu yw yx yz Kv VK)
  | (refine ik 65 rfl ?_; (refine gW (by rfl) ?_; dsimp only); refine cZ (some 65) Tryz.func6 S (Gn) ?_; clear S; intro JK S)
  | fail)
 go_ret
 exact ⟨rfl, S.out.below⟩
def nZ.f (a0 a1 a2 a3 a4 a5 : Int) (l : List ai) (_ : Int) : Option Bool := if sz ⟨a0, ⟨a1, a2, a3, a4⟩, a5, l⟩ ≤ 1048576 then some true else none
theorem TQ (c : ai) (id : Int) (A : Option Addr) (cc : Nat) (w : World) (hr : Kd.C k26 w A c.f3.length c.f3) (hc : c.f3.length ≤ cc) (hz : sz c ≤ 1048576) :
  Calls Tryz.prog 3 #[.agg #[.int .u8 c.f0, .int .i64 c.f1.f0, .int .i64 c.f1.f1, .int .i64 c.f1.f2, .int .i64 c.f1.f3, .int .i64 c.f2, .slice A c.f3.length cc], .int .i64 id] w fun e w' => e = .returned (.bool true) ∧ Below w.heap.size w w' := by
 obtain ⟨g, eg, hg⟩ := aaF c hz
 cases g with
 | true => exact YM c id A cc w hr hc hz eg.rounds
 | false =>
  by_cases h3 : 100 < sz c
  ·exact aa2 c id A cc w hr hc hz eg.rounds h3
  ·exact aa3 c id A cc w hr hc hz eg.rounds h3 (hg rfl)
theorem nZ.calls (az aI aC aH bu bC : Int) (dP : Option Addr) (dQ : Nat) (aK : List ai) (a1 : Int) (r : Bool) (w : World) (pR : Kd.C k26 w dP aK.length aK) (qL : aK.length ≤ dQ) (h : nZ.f az aI aC aH bu bC aK a1 = some r) :
  Calls Tryz.prog 3 #[.agg #[.int .u8 az, .int .i64 aI, .int .i64 aC, .int .i64 aH, .int .i64 bu, .int .i64 bC, .slice dP aK.length dQ], .int .i64 a1] w fun e w' => e = .returned (.bool r) ∧ Below w.heap.size w w' := by
 unfold nZ.f at h
 split at h
 ·rename_i hz
  injection h with h
  subst h
  exact TQ ⟨az, ⟨aI, aC, aH, bu⟩, bC, aK⟩ a1 dP dQ w pR qL hz
 ·exact absurd h (by simp)
end Go.Proofs.YtfdmfgaiblfbhaaGreat.P
namespace Go.Proofs.YtfdmfgaiblfbhaaGreat.Pure
open Go.RowKit Go.Proofs.YtfdmfgaiblfbhaaGreat.P Go.Proofs.ag.aU Go.Proofs.ag.bK Go.Proofs.ag.cO
theorem KillIs : ∀ (a0 : ai) (a1 : Int), ajA a0 → sz a0 ≤ 1048576 → I64 a1 → nZ.f a0.f0 a0.f1.f0 a0.f1.f1 a0.f1.f2 a0.f1.f3 a0.f2 a0.f3 a1 = some true := by
 intro c id _ hz _
 unfold nZ.f
 rw [Ik, if_pos hz]
end Go.Proofs.YtfdmfgaiblfbhaaGreat.Pure
namespace Go.Proofs.YtfdmfgaiblfbhaaGreat.P
open Go.RowKit Go.Proofs.ag.aU Go.Proofs.ag.bK Go.Proofs.ag.cO
open Go.ChangeShapes Go.WideShapes Go.ChangeAt Go.Joins Go.Deep
section
variable {H : Type} {enc : TypeId × Value → H} {P : Program} {w : World} {base : Nat} {spare : Nat → Bool} {held : Bool}
theorem QC (d : DataW H) : 1 ≤ Rows.uptoBulk d := by
 cases d with
 | lit l => cases l <;> simp [Rows.uptoBulk]
 | _ => simp [Rows.uptoBulk]
theorem aag (l : List (DataW H)) : l.length ≤ Rows.uptoBulkAll l := by
 induction l with
 | nil => simp
 | cons x xs ih =>
  have := QC x
  simp only [Rows.uptoBulkAll, List.length_cons]
  omega
theorem aah {α : Type} (m : α → Nat) : ∀ (l : List α) (es : List (DataW H)), l.length = es.length → (∀ (i : Nat) (p : α) (e : DataW H), l[i]? = some p → es[i]? = some e → m p ≤ Rows.uptoBulk e) → (l.map m).sum ≤ Rows.uptoBulkAll es := by
 intro l
 induction l with
 | nil => intro es _ _; simp
 | cons x xs ih =>
  intro es hl h
  cases es with
  | nil => simp at hl
  | cons e es =>
   have h0 := h 0 x e rfl rfl
   have h1 := ih es (by simpa using hl) (fun i p e hp he => h (i + 1) p e (by simpa using hp) (by simpa using he))
   simp only [List.map_cons, List.sum_cons, Rows.uptoBulkAll]
   omega
theorem Pn {t : TypeId} {f0 f1 f2 f3 : Field} {fuel : Nat} {cs : List Value} {x : DataW H × List MemPlace} (ht : P.underlying t = some (.struct #[f0, f1, f2, f3])) (h : DataW.trod enc P w base spare held fuel t cs = some x) :
  ∃ y0 y1 y2 y3 n, fuel = n + 1 ∧ x.1 = .agg [y0.1, y1.1, y2.1, y3.1] ∧ cs.length = P.cellsOf t ∧ DataW.trod enc P w base spare held n f0.type ((cs.drop f0.offset).take (P.cellsOf f0.type)) = some y0 ∧
   DataW.trod enc P w base spare held n f1.type ((cs.drop f1.offset).take (P.cellsOf f1.type)) = some y1 ∧ DataW.trod enc P w base spare held n f2.type ((cs.drop f2.offset).take (P.cellsOf f2.type)) = some y2 ∧
   DataW.trod enc P w base spare held n f3.type ((cs.drop f3.offset).take (P.cellsOf f3.type)) = some y3 := by
 obtain ⟨xs, n, hn, rfl, hl, hlen, hf⟩ := DataW.trod_struct ht h
 match xs, hlen with
 | [y0, y1, y2, y3], _ => exact ⟨y0, y1, y2, y3, n, hn, rfl, hl, by simpa using hf 0 f0 rfl, by simpa using hf 1 f1 rfl, by simpa using hf 2 f2 rfl, by simpa using hf 3 f3 rfl⟩
theorem Y3 {α : Type} {k : Kd α} {ok : α → Prop} (m : α → Nat) {t e : TypeId} {fuel : Nat} {cs : List Value} {x : DataW H × List MemPlace} (ht : P.underlying t = some (.slice e)) (hs : k.sz = P.cellsOf e)
  (hE : ∀ n, n < fuel → ∀ cs y, DataW.trod enc P w base spare held n e cs = some y → ∃ p, k.K w p cs ∧ ok p ∧ m p ≤ Rows.uptoBulk y.1) (h : DataW.trod enc P w base spare held fuel t cs = some x) :
  ∃ A c l, cs = [.slice A (l : List α).length c] ∧ l.length ≤ c ∧ k.C w A l.length l ∧ (∀ p, p ∈ l → ok p) ∧ (l.map m).sum < Rows.uptoBulk x.1 ∧ l.length < Rows.uptoBulk x.1 := by
 rcases DataW.trod_slice ht h with ⟨rfl, rfl⟩ | ⟨a, len, cap, elems, rest, n, hn, rfl, rfl, hb, hl, hm, hlen, hel, hsp, hns⟩
 ·exact ⟨none, 0, [], rfl, Nat.le_refl _, ⟨rfl, by simp, fun h => absurd h (by simp)⟩, (fun p hp => by cases hp), (by simp [Rows.uptoBulk]), (by simp [Rows.uptoBulk])⟩
 ·obtain ⟨l, hl2, hq⟩ := row_of (α := α) (Q := fun i p => ok p ∧ (∃ c, c.length = k.sz ∧ k.K w p c ∧ ∀ j u, c[j]? = some u → w.cell? (a.add (i * k.sz + j)) = some u) ∧ ∀ e, elems[i]? = some e → m p ≤ Rows.uptoBulk e.1) len (fun i hi => by
   have key := hel i hi
   rw [List.getElem?_eq_getElem (by omega)] at key
   obtain ⟨cs', h1, h2⟩ := Option.bind_eq_some_iff.1 key
   obtain ⟨p, hp, hok, hm⟩ := hE n (by omega) cs' _ h2
   obtain ⟨h3, h4⟩ := cells_at h1
   refine ⟨p, hok, ⟨cs', by rw [h3, hs], hp, fun j u hj => ?_⟩, fun e he => ?_⟩
   ·rw [hs, ← Deep.add_add]
    exact h4 j u hj
   ·rw [List.getElem?_eq_getElem (by omega)] at he
    cases he
    exact hm)
  subst hl2
  refine ⟨some a, cap, l, rfl, hl, ⟨rfl, by unfold maxLen at hm; omega, fun _ => ⟨a, rfl, fun j p hj => ?_⟩⟩, fun p hp => ?_, ?_, ?_⟩
  ·obtain ⟨_, ⟨c, h1, h2, h3⟩, _⟩ := hq j p hj
   exact ⟨c, h1, h2, h3⟩
  ·obtain ⟨i, hi, rfl⟩ := List.getElem_of_mem hp
   exact (hq i _ (List.getElem?_eq_getElem hi)).1
  ·have := aah m l (elems.map (·.1)) (by simp [hlen]) (fun i p e hp he => by
    rw [List.getElem?_map] at he
    obtain ⟨e', he', rfl⟩ := Option.map_eq_some_iff.1 he
    exact (hq i p hp).2.2 e' he')
   simp only [Rows.uptoBulk]
   omega
  ·have := aag (elems.map (·.1))
   simp only [List.length_map] at this
   simp only [Rows.uptoBulk]
   omega
end
section
variable {H : Type} {enc : TypeId × Value → H} {w : World} {base : Nat} {spare : Nat → Bool} {held : Bool}
theorem abw : ∀ (fuel : Nat) {cs : List Value} {x : DataW H × List MemPlace} (_ : DataW.trod enc Tryz.prog w base spare held fuel 26 cs = some x), ∃ r : ai, (Kd.upto Ua 7 [26] fuel).K w r cs ∧ IE fuel r ∧ sz r ≤ Rows.uptoBulk x.1 := by
 intro fuel
 induction fuel using Nat.strongRecOn with
 | _ fuel ih =>
 intro cs x h
 cases fuel with
 | zero => simp [DataW.trod] at h
 | succ fuel =>
  obtain ⟨y0, y1, y2, y3, m, hm, hx, hl, h0, h1, h2, h3⟩ := Pn Tryz.underlying26 h
  obtain rfl : fuel = m := by omega
  rw [cells26] at hl
  match cs, hl with
  | [c0, c1, c2, c3, c4, c5, c6], _ =>
    simp only [cells3, cells5, cells23, cells24, List.drop_zero, List.take_succ_cons, List.take_zero, List.drop_succ_cons] at h0 h1 h2 h3
    obtain ⟨n0, e0, _, w0⟩ := DataW.trod_int Tryz.underlying5 h0
    obtain ⟨n2, e2, _, w2⟩ := DataW.trod_int Tryz.underlying3 h2
    simp only [List.cons.injEq, and_true] at e0 e2
    subst e0 e2
    obtain ⟨r, hr, hw⟩ := ajd h1
    obtain e1 := Ju hr
    simp only [List.cons.injEq, and_true] at e1
    obtain ⟨rfl, rfl, rfl, rfl⟩ := e1
    obtain ⟨A, c, l, e3, hlc, hC, hok, hsum, _⟩ := Y3 (k := Kd.upto Ua 7 [26] fuel) (ok := IE fuel) sz Tryz.underlying24 (by rw [WI, cells26]) (fun n hn cs y hy => by
     obtain ⟨p, hp, hok, hz⟩ := ih n (by omega) hy
     exact ⟨p, Kd.Hu SH WI (by omega) hp, TL (by omega) hok, hz⟩) h3
    simp only [List.cons.injEq, and_true] at e3
    subst e3
    have ak6 : l.length ≤ 9223372036854775807 := hC.2.1
    refine ⟨⟨n0, r, n2, l⟩, ?_, ⟨alC w0, hw, En w2, ak6, hok⟩, ?_⟩
    ·exact ⟨[.int .u8 n0], [.int .i64 r.f0, .int .i64 r.f1, .int .i64 r.f2, .int .i64 r.f3, .int .i64 n2, .slice A l.length c], rfl, rfl, [.int .i64 r.f0, .int .i64 r.f1, .int .i64 r.f2, .int .i64 r.f3], [.int .i64 n2, .slice A l.length c], rfl, SA w r, [.int .i64 n2], [.slice A l.length c], rfl, rfl, A, c, rfl, hlc, hC⟩
    ·rw [hx, bJ]
     have := afB l
     simp only [Rows.uptoBulk, Rows.uptoBulkAll]
     have h3 := QC y0.1
     omega
theorem afq {fuel : Nat} {cs : List Value} {x : DataW H × List MemPlace} (h : DataW.trod enc Tryz.prog w base spare held fuel 26 cs = some x) : ∃ r : ai, k26.K w r cs ∧ ajA r ∧ sz r ≤ Rows.uptoBulk x.1 := by
 obtain ⟨r, hr, hw, hz⟩ := abw fuel h
 exact ⟨r, ⟨fuel, hr⟩, ⟨fuel, hw⟩, hz⟩
end
end Go.Proofs.YtfdmfgaiblfbhaaGreat.P
namespace Go.Proofs.YtfdmfgaiblfbhaaGreat.KU
open Go.ChangeShapes Go.WideShapes Go.ChangeAt Go.RowKit Go.Proofs.YtfdmfgaiblfbhaaGreat.P Go.Proofs.ag.aU
open Go.ChangeMaps (open_string shut_string)
theorem own : ownKnob Tryz.prog.godebug = none := by kernel_rfl
theorem laidOut : laidOutB Tryz.prog = true := by kernel_rfl
theorem lifted (os : Os) (started : os.Started) (H : Type) (enc : TypeId × Value → H) (F : Stop.Interp) :
  ReturnsInHanded {} Tryz.checked os 3 .any ((Rows.OpenSpec.upto Rows.killIsSpec).pre6 enc Tryz.prog Tryz.f3 Rows.killIsUptoRow.domain false) (((Rows.OpenSpec.upto Rows.killIsSpec).at F).post enc Tryz.prog Tryz.f3 false true false false) := by
 refine returnsInHanded_of_cond (C := Tryz.checked) (s := Rows.OpenSpec.upto Rows.killIsSpec) (k := Rows.uptoSmall) rfl own started (by kernel_rfl) Tryz.func3
  (OpenSpec.witness (enc := enc) (C := Tryz.checked) (s := Rows.OpenSpec.upto Rows.killIsSpec) (k := Rows.uptoSmall) rfl false ⟨#[], #[.agg #[.int .u8 0, .int .i64 0, .int .i64 0, .int .i64 0, .int .i64 0, .int .i64 0, .slice none 0 0], .int .i64 0], []⟩ 8 (by kernel_rfl) (by kernel_rfl) (by kernel_rfl)
   (x := ([.agg [.lit (.int .u8 0), .agg [.lit (.int .i64 0), .lit (.int .i64 0), .lit (.int .i64 0), .lit (.int .i64 0)], .lit (.int .i64 0), .nil], .lit (.int .i64 0)], [], [])) (by kernel_rfl) rfl (by kernel_rfl)) ?_
 intro W base args ds gs before hval0 hW hcnd hk0 _
 have hval : ∀ (j : Nat) t v, Tryz.f3.params[j]? = some t → args[j]? = some v → Value.okWide Tryz.prog W .any base t v := hval0
 have hW' := hW
 obtain ⟨p, q, hA0, hV, rfl, hfz, hnd⟩ := hW
 have hA : DataW.TrodAll enc Tryz.prog W 0 (fun _ => true) true Tryz.f3.params.toList args.toList ds p := hA0
 rw [Tryz.params3] at hA hval
 obtain ⟨v0, vs0, d0, ds0, p0, q0, hargs, rfl, rfl, h0, r0⟩ := trodAll_cons hA
 obtain ⟨v1, vs1, d1, ds1, p1, q1, rfl, rfl, rfl, h1, r1⟩ := trodAll_cons r0
 obtain ⟨rfl, rfl, rfl⟩ := trodAll_nil r1
 obtain rfl : args = #[v0, v1] := by cases args; simp_all
 obtain ⟨rfl, rfl⟩ := trodVars_none hV
 have hB := of_decide_eq_true hk0
 simp only [List.cons_append, List.nil_append, List.append_nil, Rows.uptoBulkAll] at hB
 have z0 : Rows.uptoBulk d0 ≤ 1048576 := by omega
 have k0 := h0
 have lt0 : ∀ x ∈ p0, x.block < W.heap.size := by obtain ⟨m, hm⟩ := k0; exact DataW.trod_lt m _ _ _ hm
 obtain ⟨fuel0, hf0⟩ := h0
 obtain ⟨cs0, rfl, _⟩ := okWide_struct Tryz.underlying26 (hval 0 26 v0 rfl rfl)
 obtain ⟨a0, b0, w0, y0⟩ := afq hf0
 obtain ⟨A0, c0, e0, hc0, hr0⟩ := EZ b0
 obtain rfl := ag5 e0
 obtain ⟨a1, rfl, rfl, rfl, w1⟩ := open_int Tryz.underlying3 (hval 1 3 v1 rfl rfl) h1
 have hP := Pure.KillIs a0 a1 w0 (Nat.le_trans y0 z0) (En w1)
 refine (nZ.calls a0.f0 a0.f1.f0 a0.f1.f1 a0.f1.f2 a0.f1.f3 a0.f2 _ _ a0.f3 a1 true W hr0 hc0 hP).mono fun e W' ⟨he, amN⟩ => ?_
 have bel : Below W.heap.size W W' := amN
 subst he
 exact ⟨_, rfl, _, _, _, [], _, [], hW', trodAll_mk1 (shut_bool Tryz.underlying4 _), (trodAll_cons_mk (Below.trod laidOut (by kernel_rfl) (of_decide_eq_true (by kernel_rfl)) k0 bel lt0) (trodAll_cons_mk (shut_int Tryz.underlying3 w1) trodAll_mk0)), rfl, bel.frame _, fun h => by cases h⟩
theorem closed : joinedFacts Tryz.prog 3 Tryz.f3 (Rows.OpenSpec.upto Rows.killIsSpec).bare Rows.killIsUptoRow = true := by kernel_rfl
theorem over : Rows.killIsUptoRow.holds Tryz.pinned (Rows.OpenSpec.upto Rows.killIsSpec) :=
 OpenClaim.holds_of_cond 3 Tryz.f3 rfl rfl rfl rfl rfl rfl rfl ⟨rfl, rfl, rfl, rfl, rfl⟩ rfl rfl rfl rfl rfl (by kernel_rfl) Tryz.func3 closed
  (of_decide_eq_true (by kernel_rfl)) (by unfold Func.isWrapper; first | (rw [if_pos (by decide +kernel)]; kernel_rfl) | (rw [if_neg (by decide +kernel)]; exact ⟨rfl, rfl⟩))
  (fun os started H enc _ F => lifted os started H enc F)
theorem proved : Rows.KillIsUptoSaid := over
#print axioms proved
end Go.Proofs.YtfdmfgaiblfbhaaGreat.KU
namespace Go.Proofs.YtfdmfgaiblfbhaaGreat
theorem killIsUpto_holds : Rows.KillIsUptoSaid := KU.proved
end Go.Proofs.YtfdmfgaiblfbhaaGreat
