/- The row of the law SplitCan, second form (what it reads is of bulk at most 1048576), out of its plain law and its walk. -/
import Derived.Test.YtfdmfgaiblfbhaaMSplitCane
import Derived.Test.YtfdmfgaiblfbhaaMSplitCand
import Derived.Test.YtfdmfgaiblfbhaaMSplitCanc
import Derived.Test.YtfdmfgaiblfbhaaRows
import Derived.ProofKit
import Derived.WalkKit
import Derived.OpenShut
import Derived.ShutString
import Derived.ChangeOld
import Derived.Below
import Derived.SizedLaws
import Derived.JoinedCond
set_option maxHeartbeats 8000000
set_option maxRecDepth 100000
set_option linter.unusedVariables false
set_option linter.unusedSimpArgs false
namespace Go.Proofs.Ytfdmfgaiblfbhaa.P
open Go.RowKit Go.Proofs.ag.aA Go.Proofs.ag.a_ Go.Proofs.ag.bG
def um.T10 : Bool × List (List Nat × List Nat) := (true, [([], []), ([], []), ([], []), ([], []), ([], []), ([], []), ([], []), ([], []), ([], []), ([4, 5, 6, 7, 8], [4, 5, 6, 7, 8]), ([0, 1, 2, 3, 9, 9], [0, 1, 2, 3, 9]), ([], []), ([11, 10, 10, 0, 1, 2, 3, 4, 5, 6, 7, 8, 9, 10, 11], [10, 11])])
def um.B10 : List Nat := [0, 0, 0, 0, 0, 0, 0, 0, 0, 496, 1023, 0, 4095]
theorem um.aeT : iJ .any (opsOf Try.f120 10) = um.T10 := by kernel_rfl
theorem um.abe : jm um.T10.2 um.B10 = true := by kernel_rfl
theorem AA (c : ai) {W : World} {A : Option Addr} {cc : Nat} (hz : sz c ≤ 1048576) (h1 : Kd.C k26 W A 1 [c]) (h2 : 1 ≤ cc) : Calls Try.prog 83 #[.slice A 1 cc] W fun e w' => ∃ A' c', e = .returned (.slice A' (jF [c]).length c') ∧ Kd.C (Kd.int .i64) w' A' (jF [c]).length (jF [c]) ∧ (jF [c]).length ≤ c' ∧ Below W.heap.size W w' := by
 obtain ⟨k, hk⟩ := (Ig (dM [c]) [c] (Nat.le_refl _) (by rw [b_, lW]; omega)).rounds
 refine (dh.calls k A cc [c] _ W h1 h2 hk).mono ?_
 rintro e w1 ⟨v, rfl, hR, hb⟩
 obtain ⟨A', c', rfl⟩ := Kd.ja hR
 have h := Kd.fD hR
 exact ⟨A', c', rfl, h.2.2, h.2.1, hb⟩
theorem adn (c : ai) {W : World} {A : Option Addr} {cc : Nat} (hz : sz c ≤ 1048576) (h1 : Kd.C k26 W A 1 [c]) (h2 : 1 ≤ cc) : Calls Try.prog 82 #[.slice A 1 cc] W fun e w' => e = .returned (.int .i64 (sz c : Int)) ∧ Below W.heap.size W w' := by
 have he : dM [c] = sz c := by rw [b_, lW]; rfl
 obtain ⟨k, hk⟩ := (MH (dM [c]) [c] (Nat.le_refl _) (by omega)).rounds
 rw [he] at hk
 exact fF.calls k A cc [c] _ W h1 h2 hk
theorem I9 {ax : Int} (hax : ax = 1 ∨ ax = 2) (c leaf : ai) (p : List Int) (L : List ai) (z : ai) (hj : Ah ax L c p leaf = some z) (hat : iU c p = some leaf) (hz : sz c ≤ 800000) (hp : p.length ≤ 1000000) (hL : L.length = 2) (hLz : dM L ≤ 1000) {base : Nat} {B : Option Addr} {cb : Nat} {o : Obj} (HI : IR base (.slice B p.length cb) p o)
  {w W : World} {P : Nat → Prop} {bs : List (Option Nat × Obj)} {ts : List (Value × List ai)} {ro : List (Addr × Value)} {ga cL cc cl : Nat} {A Al : Option Addr} (S : St w P bs [(.slice (some ⟨ga, 0, none⟩) L.length cL, L)] ts ro W) (hm : (.slice A c.f3.length cc, c.f3) ∈ ts) (hmb : ((Value.slice B p.length cb).ownBlock, o) ∈ bs) :
  Calls Try.prog 166 #[.agg #[.int .u8 c.f0, .int .i64 c.f1.f0, .int .i64 c.f1.f1, .int .i64 c.f1.f2, .int .i64 c.f1.f3, .int .i64 c.f2, .slice A c.f3.length cc], .slice B p.length cb, .agg #[.int .u8 leaf.f0, .int .i64 leaf.f1.f0, .int .i64 leaf.f1.f1, .int .i64 leaf.f1.f2, .int .i64 leaf.f1.f3, .int .i64 leaf.f2, .slice Al leaf.f3.length cl], .int .u8 ax, .slice (some ⟨ga, 0, none⟩) L.length cL] W (InP W (Ok w P (keys bs [])) z) := by
 obtain ⟨cur, hga, hle, _, hsz⟩ := Xj S.AP
 have hi := uS HI S hmb
 exact Zv ax hax c leaf p L z hj hat hz hp hL hLz (Ok w P (keys bs [])) A cc Al cl B cb ga cL cur W (fC (S.free.tree _ (.tail _ hm))) hi.1 hi.2 (fC (S.free.tree _ (.head _))) hga (by omega)
theorem yl (c : ai) (hz : sz c ≤ 1000) (id ax size fresh : Int) (ahead : Bool) (acQ : I64 size) (P : Nat → Prop) (A : Option Addr) (cc : Nat) (w : World) (hv : Kd.V k26 26 w w.heap.size P (.slice A c.f3.length cc) c.f3) :
  Calls Try.prog 120 #[.agg #[.int .u8 c.f0, .int .i64 c.f1.f0, .int .i64 c.f1.f1, .int .i64 c.f1.f2, .int .i64 c.f1.f3, .int .i64 c.f2, .slice A c.f3.length cc], .int .i64 id, .int .u8 ax, .int .i64 size, .int .i64 fresh, .bool ahead] w (Qq w P (Ba id ax size fresh ahead c) (jv id ax size fresh c)) := by
 have S := ae.mk (St.start (ts := [(.slice A c.f3.length cc, c.f3)]) (b0 := w.heap.size) (w := w) (P := P) (fun t ht => by rw [List.mem_singleton.1 ht]; exact hv))
 have HZ := ae.mk (show sz c ≤ 1000000 by omega)
 have oN := ae.mk (show sz c ≤ 1048576 by omega)
 have Vg := ae.mk (show sz c ≤ 800000 by omega)
 have HZ1 := ae.mk hz
 have DZ := ae.mk acQ
 obtain ⟨ab, hab⟩ : ∃ ab : Bool, decide (ax = 1 ∨ ax = 2) = ab := ⟨_, rfl⟩
 have HAB := ae.mk hab
 have hpl := fun p (h : dI id c = some p) => (EG id (sz c)).1 c (Nat.le_refl _) p h
 obtain ⟨zz, hzz⟩ : ∃ z, Ba id ax size fresh ahead c = z := ⟨_, rfl⟩
 obtain ⟨nn, hnn⟩ : ∃ n, jv id ax size fresh c = n := ⟨_, rfl⟩
 rw [hzz, hnn]
 have zG := ae.mk hzz
 have zD := ae.mk hnn
 have afT := ae.mk hpl
 clear hv hz acQ hab hzz hnn hpl
 obtain ⟨ck, ⟨cx, cy, cw, ch⟩, aV, l⟩ := c
 simp only [] at S ⊢
 go_enter Try.func120, Try.ntmps120
 go_upto_region 1 with (first
  | (refine boxS 6 _ 26 S ?_; clear S; intro b6 fH S)
  | (refine boxS 12 _ 26 S ?_; clear S; intro b12 ik S)
  | fail)
 (try simp only [Act.put, List.setIfInBounds_toArray, List.set_cons_zero, List.set_cons_succ])
 go_cut [14] (fun v14 wc => v14 = .bool ab ∧ ae (St w P [(some b12, .cells #[.int .u8 0, .int .i64 0, .int .i64 0, .int .i64 0, .int .i64 0, .int .i64 0, .slice none 0 0] 26 (0, 0)), (some b6, .cells #[.int .u8 ck, .int .i64 cx, .int .i64 cy, .int .i64 cw, .int .i64 ch, .int .i64 aV, .slice A l.length cc] 26 (0, 0))] [] [(.slice A l.length cc, l)] [] wc))
 case first =>
  by_cases h1 : ax = 1
  case pos =>
   have e := HAB.out
   rw [decide_eq_true (show ax = 1 ∨ ax = 2 from .inl h1) ] at e
   subst e
   obtain ⟨h1a, h1b, h1d⟩ := Bf (a := ax) (b := 1) (by omega)
   clear h1
   go_wp2
   go_meet
   case rel => exact ⟨by first | rfl | simp, S⟩
  case neg =>
   by_cases h2 : ax = 2
   case pos =>
    have e := HAB.out
    rw [decide_eq_true (show ax = 1 ∨ ax = 2 from .inr h2) ] at e
    subst e
    obtain ⟨h1a, h1b, h1d⟩ := eqF (a := ax) (b := 1) (by omega)
    obtain ⟨BP, h2b, h2d⟩ := Bf (a := ax) (b := 2) (by omega)
    clear h1 h2
    go_wp2
    go_meet
    case rel => exact ⟨by first | rfl | simp, S⟩
   case neg =>
    have e := HAB.out
    rw [decide_eq_false (show ¬ (ax = 1 ∨ ax = 2) from fun h => h.elim h1 h2) ] at e
    subst e
    obtain ⟨h1a, h1b, h1d⟩ := eqF (a := ax) (b := 1) (by omega)
    obtain ⟨BP, h2b, h2d⟩ := eqF (a := ax) (b := 2) (by omega)
    clear h1 h2
    go_wp2
    go_meet
    case rel => exact ⟨by first | rfl | simp, S⟩
 case rest =>
  clear S
  obtain ⟨rfl, S⟩ := hcut
  rename World => wx
  cases ht : bW ⟨ck, ⟨cx, cy, cw, ch⟩, aV, l⟩ with
  | false =>
   have HT := ae.mk ht
   have hN : jv id ax size fresh ⟨ck, ⟨cx, cy, cw, ch⟩, aV, l⟩ = 1 := by unfold jv; rw [if_pos (.inl ht)]
   have hz0 := rJ (ahead := ahead) hN (by decide)
   rw [zG.out] at hz0
   rw [zD.out] at hN
   subst hz0 hN
   clear ht
   obtain ⟨gJ, fQ, fU, gK, gQ, gU, gV⟩ := St.eX S dG
   go_wp2_with (first
    | ((with_reducible refine ay (N := 27) rfl ?_); refine kW (N := 27) rfl rfl ⟨ck, ⟨cx, cy, cw, ch⟩, aV, l⟩ S.out (S.out.tree _ (.head _)) ?hr ?_; (case hr => first | (go_simp; done) | (go_simp; rfl)); intro Bi BM fH S1 h1 h2; replace S := ae.mk S1; have jU := ae.mk h1; have lQ := ae.mk h2; clear S1 h1 h2; clear gJ fQ fU gK gQ gU gV)
    | (refine bQ (some 28) Try.func148 S (mX HT.out (pF ⟨ck, ⟨cx, cy, cw, ch⟩, aV, l⟩ oN.out lQ.out jU.out)) ?_; clear S; intro ik S)
    | (refine jg 26 12 53 #[.int .u8 0, .int .i64 0, .int .i64 0, .int .i64 0, .int .i64 0, .int .i64 0, .slice none 0 0] 0 7 S ?_; clear S; intro iq S)
    | fail)
   refine bodyPost_ret (gy rfl _ _ b12 26 _ (0, 0) _ rfl (S.out.blk _ (.head _) _ rfl) Try.underlying26 rfl (by kernel_rfl)) rfl ?_
   exact ⟨_, _, rfl, Kd.sZ _ _ _ _ _, S.out.below⟩
  | true =>
   cases ab with
   | false =>
    have HT := ae.mk ht
    have hN : jv id ax size fresh ⟨ck, ⟨cx, cy, cw, ch⟩, aV, l⟩ = 1 := by unfold jv; rw [if_pos (.inr (.inl (of_decide_eq_false HAB.out)))]
    have hz0 := rJ (ahead := ahead) hN (by decide)
    rw [zG.out] at hz0
    rw [zD.out] at hN
    subst hz0 hN
    clear ht
    obtain ⟨gJ, fQ, fU, gK, gQ, gU, gV⟩ := St.eX S dG
    go_wp2_with (first
     | ((with_reducible refine ay (N := 27) rfl ?_); refine kW (N := 27) rfl rfl ⟨ck, ⟨cx, cy, cw, ch⟩, aV, l⟩ S.out (S.out.tree _ (.head _)) ?hr ?_; (case hr => first | (go_simp; done) | (go_simp; rfl)); intro Bi BM fH S1 h1 h2; replace S := ae.mk S1; have jU := ae.mk h1; have lQ := ae.mk h2; clear S1 h1 h2; clear gJ fQ fU gK gQ gU gV)
     | (refine bQ (some 28) Try.func148 S (mX HT.out (pF ⟨ck, ⟨cx, cy, cw, ch⟩, aV, l⟩ oN.out lQ.out jU.out)) ?_; clear S; intro ik S)
     | (refine jg 26 12 53 #[.int .u8 0, .int .i64 0, .int .i64 0, .int .i64 0, .int .i64 0, .int .i64 0, .slice none 0 0] 0 7 S ?_; clear S; intro iq S)
     | fail)
    refine bodyPost_ret (gy rfl _ _ b12 26 _ (0, 0) _ rfl (S.out.blk _ (.head _) _ rfl) Try.underlying26 rfl (by kernel_rfl)) rfl ?_
    exact ⟨_, _, rfl, Kd.sZ _ _ _ _ _, S.out.below⟩
   | true =>
    by_cases h2 : size < 0
    case pos =>
     have HT := ae.mk ht
     have hN : jv id ax size fresh ⟨ck, ⟨cx, cy, cw, ch⟩, aV, l⟩ = 1 := by unfold jv; rw [if_pos (.inr (.inr (.inl h2)))]
     have hz0 := rJ (ahead := ahead) hN (by decide)
     rw [zG.out] at hz0
     rw [zD.out] at hN
     subst hz0 hN
     obtain ⟨BP, h2b⟩ := qO (a := size) (b := 0) (by omega)
     clear ht h2
     obtain ⟨gJ, fQ, fU, gK, gQ, gU, gV⟩ := St.eX S dG
     go_wp2_with (first
      | ((with_reducible refine ay (N := 27) rfl ?_); refine kW (N := 27) rfl rfl ⟨ck, ⟨cx, cy, cw, ch⟩, aV, l⟩ S.out (S.out.tree _ (.head _)) ?hr ?_; (case hr => first | (go_simp; done) | (go_simp; rfl)); intro Bi BM fH S1 h1 h2; replace S := ae.mk S1; have jU := ae.mk h1; have lQ := ae.mk h2; clear S1 h1 h2; clear gJ fQ fU gK gQ gU gV)
      | (refine bQ (some 28) Try.func148 S (mX HT.out (pF ⟨ck, ⟨cx, cy, cw, ch⟩, aV, l⟩ oN.out lQ.out jU.out)) ?_; clear S; intro ik S)
      | (refine jg 26 12 53 #[.int .u8 0, .int .i64 0, .int .i64 0, .int .i64 0, .int .i64 0, .int .i64 0, .slice none 0 0] 0 7 S ?_; clear S; intro iq S)
      | fail)
     refine bodyPost_ret (gy rfl _ _ b12 26 _ (0, 0) _ rfl (S.out.blk _ (.head _) _ rfl) Try.underlying26 rfl (by kernel_rfl)) rfl ?_
     exact ⟨_, _, rfl, Kd.sZ _ _ _ _ _, S.out.below⟩
    case neg =>
     by_cases h3 : fresh < 0
     case pos =>
      have HT := ae.mk ht
      have hN : jv id ax size fresh ⟨ck, ⟨cx, cy, cw, ch⟩, aV, l⟩ = 1 := by unfold jv; rw [if_pos (.inr (.inr (.inr (.inl h3))))]
      have hz0 := rJ (ahead := ahead) hN (by decide)
      rw [zG.out] at hz0
      rw [zD.out] at hN
      subst hz0 hN
      obtain ⟨BP, h2b⟩ := lu (a := size) (b := 0) (by omega)
      obtain ⟨MQ, h3b⟩ := qO (a := fresh) (b := 0) (by omega)
      clear ht h2 h3
      obtain ⟨gJ, fQ, fU, gK, gQ, gU, gV⟩ := St.eX S dG
      go_wp2_with (first
       | ((with_reducible refine ay (N := 27) rfl ?_); refine kW (N := 27) rfl rfl ⟨ck, ⟨cx, cy, cw, ch⟩, aV, l⟩ S.out (S.out.tree _ (.head _)) ?hr ?_; (case hr => first | (go_simp; done) | (go_simp; rfl)); intro Bi BM fH S1 h1 h2; replace S := ae.mk S1; have jU := ae.mk h1; have lQ := ae.mk h2; clear S1 h1 h2; clear gJ fQ fU gK gQ gU gV)
       | (refine bQ (some 28) Try.func148 S (mX HT.out (pF ⟨ck, ⟨cx, cy, cw, ch⟩, aV, l⟩ oN.out lQ.out jU.out)) ?_; clear S; intro ik S)
       | (refine jg 26 12 53 #[.int .u8 0, .int .i64 0, .int .i64 0, .int .i64 0, .int .i64 0, .int .i64 0, .slice none 0 0] 0 7 S ?_; clear S; intro iq S)
       | fail)
      refine bodyPost_ret (gy rfl _ _ b12 26 _ (0, 0) _ rfl (S.out.blk _ (.head _) _ rfl) Try.underlying26 rfl (by kernel_rfl)) rfl ?_
      exact ⟨_, _, rfl, Kd.sZ _ _ _ _ _, S.out.below⟩
     case neg =>
      by_cases h4 : 2147483647 < fresh
      case pos =>
       have HT := ae.mk ht
       have hN : jv id ax size fresh ⟨ck, ⟨cx, cy, cw, ch⟩, aV, l⟩ = 1 := by unfold jv; rw [if_pos (.inr (.inr (.inr (.inr (.inl h4)))))]
       have hz0 := rJ (ahead := ahead) hN (by decide)
       rw [zG.out] at hz0
       rw [zD.out] at hN
       subst hz0 hN
       obtain ⟨BP, h2b⟩ := lu (a := size) (b := 0) (by omega)
       obtain ⟨MQ, h3b⟩ := lu (a := fresh) (b := 0) (by omega)
       obtain ⟨Xv, Gg⟩ := qO (a := 2147483647) (b := fresh) (by omega)
       clear ht h2 h3 h4
       obtain ⟨gJ, fQ, fU, gK, gQ, gU, gV⟩ := St.eX S dG
       go_wp2_with (first
        | ((with_reducible refine ay (N := 27) rfl ?_); refine kW (N := 27) rfl rfl ⟨ck, ⟨cx, cy, cw, ch⟩, aV, l⟩ S.out (S.out.tree _ (.head _)) ?hr ?_; (case hr => first | (go_simp; done) | (go_simp; rfl)); intro Bi BM fH S1 h1 h2; replace S := ae.mk S1; have jU := ae.mk h1; have lQ := ae.mk h2; clear S1 h1 h2; clear gJ fQ fU gK gQ gU gV)
        | (refine bQ (some 28) Try.func148 S (mX HT.out (pF ⟨ck, ⟨cx, cy, cw, ch⟩, aV, l⟩ oN.out lQ.out jU.out)) ?_; clear S; intro ik S)
        | (refine jg 26 12 53 #[.int .u8 0, .int .i64 0, .int .i64 0, .int .i64 0, .int .i64 0, .int .i64 0, .slice none 0 0] 0 7 S ?_; clear S; intro iq S)
        | fail)
       refine bodyPost_ret (gy rfl _ _ b12 26 _ (0, 0) _ rfl (S.out.blk _ (.head _) _ rfl) Try.underlying26 rfl (by kernel_rfl)) rfl ?_
       exact ⟨_, _, rfl, Kd.sZ _ _ _ _ _, S.out.below⟩
      case neg =>
       have hax : ax = 1 ∨ ax = 2 := of_decide_eq_true HAB.out
       have HT := ae.mk ht
       cases hnf : dI fresh ⟨ck, ⟨cx, cy, cw, ch⟩, aV, l⟩ with
       | some pf =>
        have hN : jv id ax size fresh ⟨ck, ⟨cx, cy, cw, ch⟩, aV, l⟩ = 1 := by unfold jv; rw [if_pos (.inr (.inr (.inr (.inr (.inr (by rw [hnf]; rfl))))))]
        have hz0 := rJ (ahead := ahead) hN (by decide)
        rw [zG.out] at hz0
        rw [zD.out] at hN
        subst hz0 hN
        have RY := ae.mk (show (dI fresh ⟨ck, ⟨cx, cy, cw, ch⟩, aV, l⟩).isSome = true by rw [hnf]; rfl)
        obtain ⟨BP, h2b⟩ := lu (a := size) (b := 0) (by omega)
        obtain ⟨MQ, h3b⟩ := lu (a := fresh) (b := 0) (by omega)
        obtain ⟨Xv, Gg⟩ := lu (a := 2147483647) (b := fresh) (by omega)
        clear ht hax h2 h3 h4 hnf
        obtain ⟨gJ, fQ, fU, gK, gQ, gU, gV⟩ := St.eX S dG
        go_wp2_with (first
         | ((with_reducible refine ay (N := 27) rfl ?_); refine kW (N := 27) rfl rfl ⟨ck, ⟨cx, cy, cw, ch⟩, aV, l⟩ S.out (S.out.tree _ (.head _)) ?hr ?_; (case hr => first | (go_simp; done) | (go_simp; rfl)); intro Bi BM fH S1 h1 h2; replace S := ae.mk S1; have jU := ae.mk h1; have lQ := ae.mk h2; clear S1 h1 h2; clear gJ fQ fU gK gQ gU gV)
         | (refine bQ (some 28) Try.func148 S (mX HT.out (pF ⟨ck, ⟨cx, cy, cw, ch⟩, aV, l⟩ oN.out lQ.out jU.out)) ?_; clear S; intro ik S; obtain ⟨gJ, fQ, fU, gK, gQ, gU, gV⟩ := St.eX S dG)
         | ((with_reducible refine ay (N := 48) rfl ?_); (refine di (by rfl) ?_; dsimp only); refine kW (N := 48) rfl rfl ⟨ck, ⟨cx, cy, cw, ch⟩, aV, l⟩ S.out (S.out.tree _ (.head _)) ?hr ?_; (case hr => first | (go_simp; done) | (go_simp; rfl)); intro Vb VF iq S1 h1 h2; replace S := ae.mk S1; have jU := ae.mk h1; have lQ := ae.mk h2; clear S1 h1 h2; clear gJ fQ fU gK gQ gU gV)
         | (refine dW 49 rfl ?_; (refine di (by rfl) ?_; dsimp only); refine nO (some 49) Try.func83 (AA ⟨ck, ⟨cx, cy, cw, ch⟩, aV, l⟩ oN.out lQ.out jU.out) ?_; rintro e nI ⟨Ai, ci, rfl, hci, hcl, hb⟩; refine ⟨_, rfl, ?_⟩; have KO := ae.mk hci; have KP := ae.mk hcl; replace S := ae.mk (S.out.call hb); clear hb; clear hci hcl)
         | (refine dW 51 rfl ?_; (refine di (by rfl) ?_; dsimp only); refine bQ (some 51) Try.func165 S ((GK oN.out RY.out KO.out KP.out).mono (fun _ _ ⟨he, hd⟩ => ⟨he, hd.below⟩)) ?_; clear S; intro oH S)
         | (refine jg 26 12 53 #[.int .u8 0, .int .i64 0, .int .i64 0, .int .i64 0, .int .i64 0, .int .i64 0, .slice none 0 0] 0 7 S ?_; clear S; intro uo S)
         | fail)
        refine bodyPost_ret (gy rfl _ _ b12 26 _ (0, 0) _ rfl (S.out.blk _ (.head _) _ rfl) Try.underlying26 rfl (by kernel_rfl)) rfl ?_
        exact ⟨_, _, rfl, Kd.sZ _ _ _ _ _, S.out.below⟩
       | none =>
        have RY := ae.mk (show (dI fresh ⟨ck, ⟨cx, cy, cw, ch⟩, aV, l⟩).isSome = false by rw [hnf]; rfl)
        have hno : ¬ (bW ⟨ck, ⟨cx, cy, cw, ch⟩, aV, l⟩ = false ∨ ¬ (ax = 1 ∨ ax = 2) ∨ size < 0 ∨ fresh < 0 ∨ fresh > 2147483647 ∨ (dI fresh ⟨ck, ⟨cx, cy, cw, ch⟩, aV, l⟩).isSome = true) := by
         rw [ht, hnf]
         rintro (h | h | h | h | h | h)
         ·cases h
         ·exact h hax
         ·exact h2 h
         ·exact h3 h
         ·exact h4 h
         ·cases h
        cases hni : dI id ⟨ck, ⟨cx, cy, cw, ch⟩, aV, l⟩ with
        | none =>
         have hN : jv id ax size fresh ⟨ck, ⟨cx, cy, cw, ch⟩, aV, l⟩ = 6 := by unfold jv; rw [if_neg hno, hni]
         have hz0 := rJ (ahead := ahead) hN (by decide)
         rw [zG.out] at hz0
         rw [zD.out] at hN
         subst hz0 hN
         have FB := ae.mk hni
         obtain ⟨BP, h2b⟩ := lu (a := size) (b := 0) (by omega)
         obtain ⟨MQ, h3b⟩ := lu (a := fresh) (b := 0) (by omega)
         obtain ⟨Xv, Gg⟩ := lu (a := 2147483647) (b := fresh) (by omega)
         clear ht hax h2 h3 h4 hnf hno hni
         obtain ⟨gJ, fQ, fU, gK, gQ, gU, gV⟩ := St.eX S dG
         go_wp2_with (first
          | ((with_reducible refine ay (N := 27) rfl ?_); refine kW (N := 27) rfl rfl ⟨ck, ⟨cx, cy, cw, ch⟩, aV, l⟩ S.out (S.out.tree _ (.head _)) ?hr ?_; (case hr => first | (go_simp; done) | (go_simp; rfl)); intro Bi BM fH S1 h1 h2; replace S := ae.mk S1; have jU := ae.mk h1; have lQ := ae.mk h2; clear S1 h1 h2; clear gJ fQ fU gK gQ gU gV)
          | (refine bQ (some 28) Try.func148 S (mX HT.out (pF ⟨ck, ⟨cx, cy, cw, ch⟩, aV, l⟩ oN.out lQ.out jU.out)) ?_; clear S; intro ik S; obtain ⟨gJ, fQ, fU, gK, gQ, gU, gV⟩ := St.eX S dG)
          | ((with_reducible refine ay (N := 48) rfl ?_); (refine di (by rfl) ?_; dsimp only); refine kW (N := 48) rfl rfl ⟨ck, ⟨cx, cy, cw, ch⟩, aV, l⟩ S.out (S.out.tree _ (.head _)) ?hr ?_; (case hr => first | (go_simp; done) | (go_simp; rfl)); intro Vb VF iq S1 h1 h2; replace S := ae.mk S1; have jU := ae.mk h1; have lQ := ae.mk h2; clear S1 h1 h2; clear gJ fQ fU gK gQ gU gV)
          | (refine dW 49 rfl ?_; (refine di (by rfl) ?_; dsimp only); refine nO (some 49) Try.func83 (AA ⟨ck, ⟨cx, cy, cw, ch⟩, aV, l⟩ oN.out lQ.out jU.out) ?_; rintro e nI ⟨Ai, ci, rfl, hci, hcl, hb⟩; refine ⟨_, rfl, ?_⟩; have KO := ae.mk hci; have KP := ae.mk hcl; replace S := ae.mk (S.out.call hb); clear hb; clear hci hcl)
          | (refine dW 51 rfl ?_; (refine di (by rfl) ?_; dsimp only); refine bQ (some 51) Try.func165 S ((GK oN.out RY.out KO.out KP.out).mono (fun _ _ ⟨he, hd⟩ => ⟨he, hd.below⟩)) ?_; clear S; intro oH S; obtain ⟨gJ, fQ, fU, gK, gQ, gU, gV⟩ := St.eX S dG)
          | (refine DF (some 57) Try.func89 S (O7 id ⟨ck, ⟨cx, cy, cw, ch⟩, aV, l⟩ FB.out HZ.out (S.out.tree _ (.head _))) ?_; clear S; intro Ap cp op uo S tV; clear gJ fQ fU gK gQ gU gV; obtain ⟨gJ, fQ, fU, gK, gQ, gU, gV⟩ := St.eX S dX)
          | (refine oW (some 63) Try.func91 S (yM ⟨ck, ⟨cx, cy, cw, ch⟩, aV, l⟩ [] ⟨ck, ⟨cx, cy, cw, ch⟩, aV, l⟩ (by rfl) (by simp) HZ.out (S.out.tree _ (.head _)) (uS tV.out S.out (.head _)).1 (uS tV.out S.out (.head _)).2) ?_; clear S; intro Az cz wV S; clear gJ fQ fU gK gQ gU gV)
          | (refine boxS 17 _ 26 S ?_; clear S; intro b17 Hw S)
          | (refine jg 26 17 64 #[.int .u8 ck, .int .i64 cx, .int .i64 cy, .int .i64 cw, .int .i64 ch, .int .i64 aV, .slice Az l.length cz] 0 7 S ?_; clear S; intro w9_ S)
          | (refine Q7 26 12 68 #[.int .u8 0, .int .i64 0, .int .i64 0, .int .i64 0, .int .i64 0, .int .i64 0, .slice none 0 0] 0 7 S ?_; clear S; intro Fb S)
          | fail)
         refine bodyPost_ret (gy rfl _ _ b12 26 _ (0, 0) _ rfl (S.out.blk _ dX _ rfl) Try.underlying26 rfl (by kernel_rfl)) rfl ?_
         exact ⟨_, _, rfl, Kd.sZ _ _ _ _ _, S.out.below⟩
        | some p =>
         obtain ⟨leaf, hlf, hlq⟩ := (xG id _).1 _ (Nat.le_refl _) p hni
         clear hlq
         have FB := ae.mk hni
         have HAT := ae.mk hlf
         have hpl := afT.out p hni
         have OH := ae.mk (show p.length ≤ 1000000 by have := HZ1.out; omega)
         have aaT := ae.mk (show p.length ≤ 1048576 by have := HZ1.out; omega)
         have hsb := Uw hax ht hlf
         obtain ⟨sv, hsv⟩ : ∃ s, aI ax leaf.f1 = s := ⟨_, rfl⟩
         have KY := ae.mk hsv
         have HSB := ae.mk (show -1000000 ≤ aI ax leaf.f1 ∧ aI ax leaf.f1 ≤ 1000000 by omega)
         clear hpl
         by_cases h7 : sv < 3
         case pos =>
          have hN : jv id ax size fresh ⟨ck, ⟨cx, cy, cw, ch⟩, aV, l⟩ = 7 := by unfold jv; rw [if_neg hno, hni]; simp only [hlf]; rw [if_pos (by omega)]
          have hz0 := rJ (ahead := ahead) hN (by decide)
          rw [zG.out] at hz0
          rw [zD.out] at hN
          subst hz0 hN
          obtain ⟨h7a, h7b⟩ := qO (a := sv) (b := 3) (by omega)
          obtain ⟨BP, h2b⟩ := lu (a := size) (b := 0) (by omega)
          obtain ⟨MQ, h3b⟩ := lu (a := fresh) (b := 0) (by omega)
          obtain ⟨Xv, Gg⟩ := lu (a := 2147483647) (b := fresh) (by omega)
          clear ht hax h2 h3 h4 hnf hno hni hlf hsb hsv h7
          obtain ⟨gJ, fQ, fU, gK, gQ, gU, gV⟩ := St.eX S dG
          go_wp2_with (first
           | ((with_reducible refine ay (N := 27) rfl ?_); refine kW (N := 27) rfl rfl ⟨ck, ⟨cx, cy, cw, ch⟩, aV, l⟩ S.out (S.out.tree _ (.head _)) ?hr ?_; (case hr => first | (go_simp; done) | (go_simp; rfl)); intro Bi BM fH S1 h1 h2; replace S := ae.mk S1; have jU := ae.mk h1; have lQ := ae.mk h2; clear S1 h1 h2; clear gJ fQ fU gK gQ gU gV)
           | (refine bQ (some 28) Try.func148 S (mX HT.out (pF ⟨ck, ⟨cx, cy, cw, ch⟩, aV, l⟩ oN.out lQ.out jU.out)) ?_; clear S; intro ik S; obtain ⟨gJ, fQ, fU, gK, gQ, gU, gV⟩ := St.eX S dG)
           | ((with_reducible refine ay (N := 48) rfl ?_); (refine di (by rfl) ?_; dsimp only); refine kW (N := 48) rfl rfl ⟨ck, ⟨cx, cy, cw, ch⟩, aV, l⟩ S.out (S.out.tree _ (.head _)) ?hr ?_; (case hr => first | (go_simp; done) | (go_simp; rfl)); intro Vb VF iq S1 h1 h2; replace S := ae.mk S1; have jU := ae.mk h1; have lQ := ae.mk h2; clear S1 h1 h2; clear gJ fQ fU gK gQ gU gV)
           | (refine dW 49 rfl ?_; (refine di (by rfl) ?_; dsimp only); refine nO (some 49) Try.func83 (AA ⟨ck, ⟨cx, cy, cw, ch⟩, aV, l⟩ oN.out lQ.out jU.out) ?_; rintro e nI ⟨Ai, ci, rfl, hci, hcl, hb⟩; refine ⟨_, rfl, ?_⟩; have KO := ae.mk hci; have KP := ae.mk hcl; replace S := ae.mk (S.out.call hb); clear hb; clear hci hcl)
           | (refine dW 51 rfl ?_; (refine di (by rfl) ?_; dsimp only); refine bQ (some 51) Try.func165 S ((GK oN.out RY.out KO.out KP.out).mono (fun _ _ ⟨he, hd⟩ => ⟨he, hd.below⟩)) ?_; clear S; intro oH S; obtain ⟨gJ, fQ, fU, gK, gQ, gU, gV⟩ := St.eX S dG)
           | (refine DF (some 57) Try.func89 S (yF id ⟨ck, ⟨cx, cy, cw, ch⟩, aV, l⟩ p FB.out HZ.out (S.out.tree _ (.head _))) ?_; clear S; intro Ap cp op uo S tV; clear gJ fQ fU gK gQ gU gV; obtain ⟨gJ, fQ, fU, gK, gQ, gU, gV⟩ := St.eX S dX)
           | (refine oW (some 63) Try.func91 S (yM ⟨ck, ⟨cx, cy, cw, ch⟩, aV, l⟩ p leaf HAT.out aaT.out HZ.out (S.out.tree _ (.head _)) (uS tV.out S.out (.head _)).1 (uS tV.out S.out (.head _)).2) ?_; clear S; intro Az cz wV S; clear gJ fQ fU gK gQ gU gV)
           | (refine boxS 17 _ 26 S ?_; clear S; intro b17 Hw S)
           | (refine jg 26 17 64 #[.int .u8 leaf.f0, .int .i64 leaf.f1.f0, .int .i64 leaf.f1.f1, .int .i64 leaf.f1.f2, .int .i64 leaf.f1.f3, .int .i64 leaf.f2, .slice Az leaf.f3.length cz] 0 7 S ?_; clear S; intro w9_ S; have BI := (S.out.at (.head _) 1).trans rfl; have BJ := (S.out.at (.head _) 2).trans rfl; have BK := (S.out.at (.head _) 3).trans rfl; have BL := (S.out.at (.head _) 4).trans rfl)
           | (refine bQ (some 72) Try.func98 S (Hg KY.out (Hf leaf.f1 ax)) ?_; clear S; intro Fb S; clear BI BJ BK BL)
           | (refine Q7 26 12 74 #[.int .u8 0, .int .i64 0, .int .i64 0, .int .i64 0, .int .i64 0, .int .i64 0, .slice none 0 0] 0 7 S ?_; clear S; intro Oe S)
           | fail)
          refine bodyPost_ret (gy rfl _ _ b12 26 _ (0, 0) _ rfl (S.out.blk _ dX _ rfl) Try.underlying26 rfl (by kernel_rfl)) rfl ?_
          exact ⟨_, _, rfl, Kd.sZ _ _ _ _ _, S.out.below⟩
         case neg =>
          have hN : jv id ax size fresh ⟨ck, ⟨cx, cy, cw, ch⟩, aV, l⟩ = 0 := by unfold jv; rw [if_neg hno, hni]; simp only [hlf]; rw [if_neg (by omega)]
          obtain ⟨p', aex, hSp⟩ := splits hN
          have e1 : p = p' := by have h := hSp.find; rw [hni] at h; exact Option.some.inj h
          subst e1
          have e2 : leaf = aex := by have h := hSp.at'; rw [hlf] at h; exact Option.some.inj h
          subst e2
          have hzE := zG.out
          rw [hSp.z hN] at hzE
          have hnE := zD.out
          rw [hN] at hnE
          subst hnE
          have hd := Rx ht
          have hjo := Zt id ax (yQ ax size fresh ahead leaf) _ _ (Nat.le_refl _) hd.1 hd.2 p leaf hni hlf
          obtain ⟨L, hL⟩ : ∃ L, yQ ax size fresh ahead leaf = L := ⟨_, rfl⟩
          rw [hL] at hzE hjo
          have hzs := aew id ax L _ _ (Nat.le_refl _) p hni hd.1 hd.2
          have h2s : dM L = 2 := by rw [← hL]; exact adw ..
          have h2l : L.length = 2 := by rw [← hL]; exact Z_ ..
          obtain ⟨z, hzz⟩ : ∃ z, BX id ax L ⟨ck, ⟨cx, cy, cw, ch⟩, aV, l⟩ = z := ⟨_, rfl⟩
          rw [hzz] at hzs hzE hjo
          simp only [] at hzE
          subst hzE
          have HTW := ae.mk hL
          have HJO := ae.mk hjo
          have Be := ae.mk hax
          have HL2 := ae.mk h2l
          have HL0 := ae.mk (show 0 < L.length by omega)
          have FC := ae.mk (show dM L ≤ 1000 by omega)
          have HZZ := ae.mk (show sz z ≤ 1048576 by have := HZ1.out; omega)
          have HZ6 := ae.mk (show sz z ≤ 1000000 by have := HZ1.out; omega)
          have hza : decide ((sz z : Int) > 20000) = false := decide_eq_false (by have := HZ1.out; omega)
          have hzb : decide (20000 < (sz z : Int)) = false := hza
          have hzc : decide (20000 < sz z) = false := decide_eq_false (by have := HZ1.out; omega)
          have hzd : ¬ (20000 < sz z) := by have := HZ1.out; omega
          obtain ⟨h7a, h7b⟩ := lu (a := sv) (b := 3) (by omega)
          obtain ⟨BP, h2b⟩ := lu (a := size) (b := 0) (by omega)
          obtain ⟨MQ, h3b⟩ := lu (a := fresh) (b := 0) (by omega)
          obtain ⟨Xv, Gg⟩ := lu (a := 2147483647) (b := fresh) (by omega)
          clear ht hax h2 h3 h4 hnf hno hni hlf hsb hsv h7 hN hSp hd hL hzs h2s h2l hzz hjo
          obtain ⟨gJ, fQ, fU, gK, gQ, gU, gV⟩ := St.eX S dG
          go_wp2_with (first
           | ((with_reducible refine ay (N := 27) rfl ?_); refine kW (N := 27) rfl rfl ⟨ck, ⟨cx, cy, cw, ch⟩, aV, l⟩ S.out (S.out.tree _ (.head _)) ?hr ?_; (case hr => first | (go_simp; done) | (go_simp; rfl)); intro Bi BM fH S1 h1 h2; replace S := ae.mk S1; have jU := ae.mk h1; have lQ := ae.mk h2; clear S1 h1 h2; clear gJ fQ fU gK gQ gU gV)
           | (refine bQ (some 28) Try.func148 S (mX HT.out (pF ⟨ck, ⟨cx, cy, cw, ch⟩, aV, l⟩ oN.out lQ.out jU.out)) ?_; clear S; intro ik S; obtain ⟨gJ, fQ, fU, gK, gQ, gU, gV⟩ := St.eX S dG)
           | ((with_reducible refine ay (N := 48) rfl ?_); (refine di (by rfl) ?_; dsimp only); refine kW (N := 48) rfl rfl ⟨ck, ⟨cx, cy, cw, ch⟩, aV, l⟩ S.out (S.out.tree _ (.head _)) ?hr ?_; (case hr => first | (go_simp; done) | (go_simp; rfl)); intro Vb VF iq S1 h1 h2; replace S := ae.mk S1; have jU := ae.mk h1; have lQ := ae.mk h2; clear S1 h1 h2; clear gJ fQ fU gK gQ gU gV)
           | (refine dW 49 rfl ?_; (refine di (by rfl) ?_; dsimp only); refine nO (some 49) Try.func83 (AA ⟨ck, ⟨cx, cy, cw, ch⟩, aV, l⟩ oN.out lQ.out jU.out) ?_; rintro e nI ⟨Ai, ci, rfl, hci, hcl, hb⟩; refine ⟨_, rfl, ?_⟩; have KO := ae.mk hci; have KP := ae.mk hcl; replace S := ae.mk (S.out.call hb); clear hb; clear hci hcl)
           | (refine dW 51 rfl ?_; (refine di (by rfl) ?_; dsimp only); refine bQ (some 51) Try.func165 S ((GK oN.out RY.out KO.out KP.out).mono (fun _ _ ⟨he, hd⟩ => ⟨he, hd.below⟩)) ?_; clear S; intro oH S; obtain ⟨gJ, fQ, fU, gK, gQ, gU, gV⟩ := St.eX S dG)
           | (refine DF (some 57) Try.func89 S (yF id ⟨ck, ⟨cx, cy, cw, ch⟩, aV, l⟩ p FB.out HZ.out (S.out.tree _ (.head _))) ?_; clear S; intro Ap cp op uo S tV; clear gJ fQ fU gK gQ gU gV; obtain ⟨gJ, fQ, fU, gK, gQ, gU, gV⟩ := St.eX S dX)
           | (refine oW (some 63) Try.func91 S (yM ⟨ck, ⟨cx, cy, cw, ch⟩, aV, l⟩ p leaf HAT.out aaT.out HZ.out (S.out.tree _ (.head _)) (uS tV.out S.out (.head _)).1 (uS tV.out S.out (.head _)).2) ?_; clear S; intro Az cz wV S; clear gJ fQ fU gK gQ gU gV)
           | (refine boxS 17 _ 26 S ?_; clear S; intro b17 Hw S)
           | (refine jg 26 17 64 #[.int .u8 leaf.f0, .int .i64 leaf.f1.f0, .int .i64 leaf.f1.f1, .int .i64 leaf.f1.f2, .int .i64 leaf.f1.f3, .int .i64 leaf.f2, .slice Az leaf.f3.length cz] 0 7 S ?_; clear S; intro w9_ S; have BI := (S.out.at (.head _) 1).trans rfl; have BJ := (S.out.at (.head _) 2).trans rfl; have BK := (S.out.at (.head _) 3).trans rfl; have BL := (S.out.at (.head _) 4).trans rfl)
           | (refine bQ (some 72) Try.func98 S (Hg KY.out (Hf leaf.f1 ax)) ?_; clear S; intro Fb S; clear BI BJ BK BL)
           | fail)
          refine jL (n := 13) (S := fun w' => St w _ _ _ _ _ w') (ds := [12]) (bA 13 0) (by kernel_rfl) rfl rfl (S.out.call (bC (Below.refl _ _))) (fun hHeld => ?_); refine fP um.aeT um.abe (fun au fE => ?_)
          replace S := ae.mk (S.out.call (bC (Below.refl _ _)))
          generalize Fb.drew = akz at S hHeld ⊢
          refine eQ 0 75 (bA 13 1) au fE hHeld ?_ (hv := by intro w' hs_; have gJ := (hs_.at jT 0).trans rfl; have fQ := (hs_.at jT 1).trans rfl; have fU := (hs_.at jT 2).trans rfl; have gK := (hs_.at jT 3).trans rfl; have gQ := (hs_.at jT 4).trans rfl; have gU := (hs_.at jT 5).trans rfl; have gV := (hs_.at jT 6).trans rfl; go_simp; with_reducible rfl)
          refine aC 1 76 (bA 13 3) au ?_
          refine eQ 2 77 (bA 13 7) au fE hHeld ?_ (hv := by intro w' hs_; have abu := (hs_.at (.head _) 0).trans rfl; have BI := (hs_.at (.head _) 1).trans rfl; have BJ := (hs_.at (.head _) 2).trans rfl; have BK := (hs_.at (.head _) 3).trans rfl; have BL := (hs_.at (.head _) 4).trans rfl; have abv := (hs_.at (.head _) 5).trans rfl; have abw := (hs_.at (.head _) 6).trans rfl; go_simp; with_reducible rfl)
          refine aC 3 78 (bA 13 15) au ?_
          refine eQ 4 79 (bA 13 31) au fE hHeld ?_ (hv := by intro w' hs_; have abu := (hs_.at (.head _) 0).trans rfl; have BI := (hs_.at (.head _) 1).trans rfl; have BJ := (hs_.at (.head _) 2).trans rfl; have BK := (hs_.at (.head _) 3).trans rfl; have BL := (hs_.at (.head _) 4).trans rfl; have abv := (hs_.at (.head _) 5).trans rfl; have abw := (hs_.at (.head _) 6).trans rfl; go_simp; with_reducible rfl)
          refine aC 5 80 (bA 13 63) au ?_
          refine aC 6 81 (bA 13 127) au ?_
          refine aC 7 82 (bA 13 255) au ?_
          refine aC 8 83 (bA 13 511) au ?_
          refine GL (σ := Nat × Nat × Option Addr × Nat × Nat) 1 (bA 13 4095) (fun s_ => [(84, .slice (some ⟨s_.1, 0, none⟩) L.length s_.2.1), (85, .agg #[.int .u8 z.f0, .int .i64 z.f1.f0, .int .i64 z.f1.f1, .int .i64 z.f1.f2, .int .i64 z.f1.f3, .int .i64 z.f2, .slice s_.2.2.1 z.f3.length s_.2.2.2.1]), (19, .pointer (some ⟨s_.2.2.2.2, 0, none⟩))]) (fun s_ w' => St w P [(some s_.2.2.2.2, .cells #[.int .u8 0, .int .i64 0, .int .i64 0, .int .i64 0, .int .i64 0, .int .i64 0, .slice none 0 0] 26 (0, 0)), (some b17, .cells #[.int .u8 leaf.f0, .int .i64 leaf.f1.f0, .int .i64 leaf.f1.f1, .int .i64 leaf.f1.f2, .int .i64 leaf.f1.f3, .int .i64 leaf.f2, .slice Az leaf.f3.length cz] 26 (0, 0)), ((Value.slice Ap p.length cp).ownBlock, op), (some b12, .cells #[.int .u8 0, .int .i64 0, .int .i64 0, .int .i64 0, .int .i64 0, .int .i64 0, .slice none 0 0] 26 (0, 0)), (some b6, .cells #[.int .u8 ck, .int .i64 cx, .int .i64 cy, .int .i64 cw, .int .i64 ch, .int .i64 aV, .slice A l.length cc] 26 (0, 0))] [] [(.slice s_.2.2.1 z.f3.length s_.2.2.2.1, z.f3), (.slice (some ⟨s_.1, 0, none⟩) L.length s_.2.1, L), (.slice Az leaf.f3.length cz, leaf.f3), (.slice A l.length cc, l)] [] w') ?_ ?_
          rotate_left
          ·intro qf
           refine Je (i := 9) (j := 11) (Ni := some 84) (Nj := some 19) (bA 13 1023) (bA 13 2559) rfl rfl rfl rfl (zy au.out (by kernel_rfl)) (by decide) (by decide) (fun K hK => ?_) (fun K hK => ?_)
           ·skip
            refine mG Try.func167 #[.agg #[.int .u8 leaf.f0, .int .i64 leaf.f1.f0, .int .i64 leaf.f1.f1, .int .i64 leaf.f1.f2, .int .i64 leaf.f1.f3, .int .i64 leaf.f2, .slice Az leaf.f3.length cz], .int .u8 ax, .int .i64 size, .int .i64 fresh, .bool ahead] ?_
            refine (PU HTW.out (U4 leaf ax size fresh ahead HSB.out DZ.out _ _ _ _ (fC (S.out.tree _ (.head _))))).mono ?_
            rintro e WX ⟨A9, c9, rfl, h1, hb⟩
            refine ⟨_, rfl, ?_⟩
            obtain ⟨ga, LZ, ev, _⟩ := Kd.su h1 HL0.out
            injection ev with e1 e2 e3
            subst e1
            clear e2 e3
            replace S := ae.mk (S.out.yf h1 hb)
            clear h1 hb
            refine hK.out _ _ S.out.free.eU (fun hHeld => ?_)
            clear hK K
            refine fK 84 ?_
            refine Je (i := 10) (j := 11) (Ni := some 85) (Nj := some 19) (bA 13 2047) (bA 13 3071) rfl rfl rfl rfl (zy au.out (by kernel_rfl)) (by decide) (by decide) (fun K hK => ?_) (fun K hK => ?_)
            ·skip
             refine mG Try.func166 #[.agg #[.int .u8 ck, .int .i64 cx, .int .i64 cy, .int .i64 cw, .int .i64 ch, .int .i64 aV, .slice A l.length cc], .slice Ap p.length cp, .agg #[.int .u8 leaf.f0, .int .i64 leaf.f1.f0, .int .i64 leaf.f1.f1, .int .i64 leaf.f1.f2, .int .i64 leaf.f1.f3, .int .i64 leaf.f2, .slice Az leaf.f3.length cz], .int .u8 ax, .slice (some ⟨ga, 0, none⟩) L.length c9] ?_
             refine (I9 Be.out ⟨ck, ⟨cx, cy, cw, ch⟩, aV, l⟩ leaf p L z HJO.out HAT.out Vg.out OH.out HL2.out FC.out tV.out S.out dG dG).mono ?_
             rintro e RD ⟨Ff, F7, rfl, h1, hb⟩
             refine ⟨_, rfl, ?_⟩
             replace S := ae.mk (S.out.free.res h1 hb)
             clear h1 hb
             refine hK.out _ _ S.out.eU.eU (fun hHeld => ?_)
             clear hK K
             refine fK 85 ?_
             refine lI 11 (some 19) (bA 13 4095) au (fun K hK => ?_)
             refine m_ ?hg (N := 19) ?hd (cs := #[.int .u8 0, .int .i64 0, .int .i64 0, .int .i64 0, .int .i64 0, .int .i64 0, .slice none 0 0]) (t := 26) ?hr ?_; (case hd => rfl); (case hg => rfl); (case hr => first | (go_simp; done) | (go_simp; rfl))
             intro b19 hg Og hbox hb
             replace S := ae.mk (S.out.box hg hbox hb)
             clear hg hbox hb
             refine hK.out _ _ S.out.gX.eU.eU (fun hHeld => ?_)
             clear hK K
             refine fK 19 ?_
             exact qQ (by simp only [kL, Act.put, List.setIfInBounds_toArray, List.set_cons_zero, List.set_cons_succ] <;> rfl) (qf (ga, c9, Ff, F7, b19) _ S.out)
            ·skip
             refine m_ ?hg (N := 19) ?hd (cs := #[.int .u8 0, .int .i64 0, .int .i64 0, .int .i64 0, .int .i64 0, .int .i64 0, .slice none 0 0]) (t := 26) ?hr ?_; (case hd => rfl); (case hg => rfl); (case hr => first | (go_simp; done) | (go_simp; rfl))
             intro b19 hg ady hbox hb
             replace S := ae.mk (S.out.box hg hbox hb)
             clear hg hbox hb
             refine hK.out _ _ S.out.gX.free.eU (fun hHeld => ?_)
             clear hK K
             refine fK 19 ?_
             refine lI 10 (some 85) (bA 13 4095) au (fun K hK => ?_)
             refine mG Try.func166 #[.agg #[.int .u8 ck, .int .i64 cx, .int .i64 cy, .int .i64 cw, .int .i64 ch, .int .i64 aV, .slice A l.length cc], .slice Ap p.length cp, .agg #[.int .u8 leaf.f0, .int .i64 leaf.f1.f0, .int .i64 leaf.f1.f1, .int .i64 leaf.f1.f2, .int .i64 leaf.f1.f3, .int .i64 leaf.f2, .slice Az leaf.f3.length cz], .int .u8 ax, .slice (some ⟨ga, 0, none⟩) L.length c9] ?_
             refine (I9 Be.out ⟨ck, ⟨cx, cy, cw, ch⟩, aV, l⟩ leaf p L z HJO.out HAT.out Vg.out OH.out HL2.out FC.out tV.out S.out dG dX).mono ?_
             rintro e agG ⟨Ff, F7, rfl, h1, hb⟩
             refine ⟨_, rfl, ?_⟩
             replace S := ae.mk (S.out.free.res h1 hb)
             clear h1 hb
             refine hK.out _ _ S.out.gX.eU.eU (fun hHeld => ?_)
             clear hK K
             refine fK 85 ?_
             exact qQ (by simp only [kL, Act.put, List.setIfInBounds_toArray, List.set_cons_zero, List.set_cons_succ] <;> rfl) (qf (ga, c9, Ff, F7, b19) _ S.out)
           ·skip
            refine m_ ?hg (N := 19) ?hd (cs := #[.int .u8 0, .int .i64 0, .int .i64 0, .int .i64 0, .int .i64 0, .int .i64 0, .slice none 0 0]) (t := 26) ?hr ?_; (case hd => rfl); (case hg => rfl); (case hr => first | (go_simp; done) | (go_simp; rfl))
            intro b19 hg agH hbox hb
            replace S := ae.mk (S.out.box hg hbox hb)
            clear hg hbox hb
            refine hK.out _ _ S.out.gX (fun hHeld => ?_)
            clear hK K
            refine fK 19 ?_
            refine lI 9 (some 84) (bA 13 3071) au (fun K hK => ?_)
            refine mG Try.func167 #[.agg #[.int .u8 leaf.f0, .int .i64 leaf.f1.f0, .int .i64 leaf.f1.f1, .int .i64 leaf.f1.f2, .int .i64 leaf.f1.f3, .int .i64 leaf.f2, .slice Az leaf.f3.length cz], .int .u8 ax, .int .i64 size, .int .i64 fresh, .bool ahead] ?_
            refine (PU HTW.out (U4 leaf ax size fresh ahead HSB.out DZ.out _ _ _ _ (fC (S.out.tree _ (.head _))))).mono ?_
            rintro e agI ⟨A9, c9, rfl, h1, hb⟩
            refine ⟨_, rfl, ?_⟩
            obtain ⟨ga, LZ, ev, _⟩ := Kd.su h1 HL0.out
            injection ev with e1 e2 e3
            subst e1
            clear e2 e3
            replace S := ae.mk (S.out.yf h1 hb)
            clear h1 hb
            refine hK.out _ _ S.out.gX.free.eU (fun hHeld => ?_)
            clear hK K
            refine fK 84 ?_
            refine lI 10 (some 85) (bA 13 4095) au (fun K hK => ?_)
            refine mG Try.func166 #[.agg #[.int .u8 ck, .int .i64 cx, .int .i64 cy, .int .i64 cw, .int .i64 ch, .int .i64 aV, .slice A l.length cc], .slice Ap p.length cp, .agg #[.int .u8 leaf.f0, .int .i64 leaf.f1.f0, .int .i64 leaf.f1.f1, .int .i64 leaf.f1.f2, .int .i64 leaf.f1.f3, .int .i64 leaf.f2, .slice Az leaf.f3.length cz], .int .u8 ax, .slice (some ⟨ga, 0, none⟩) L.length c9] ?_
            refine (I9 Be.out ⟨ck, ⟨cx, cy, cw, ch⟩, aV, l⟩ leaf p L z HJO.out HAT.out Vg.out OH.out HL2.out FC.out tV.out S.out dG dX).mono ?_
            rintro e agJ ⟨Ff, F7, rfl, h1, hb⟩
            refine ⟨_, rfl, ?_⟩
            replace S := ae.mk (S.out.free.res h1 hb)
            clear h1 hb
            refine hK.out _ _ S.out.gX.eU.eU (fun hHeld => ?_)
            clear hK K
            refine fK 85 ?_
            exact qQ (by simp only [kL, Act.put, List.setIfInBounds_toArray, List.set_cons_zero, List.set_cons_succ] <;> rfl) (qf (ga, c9, Ff, F7, b19) _ S.out)
          rintro ⟨ga, c9, Ff, F7, b19⟩ agM S1
          simp only [kL, Act.put, List.setIfInBounds_toArray, List.set_cons_zero, List.set_cons_succ]
          replace S := ae.mk S1
          clear S1 hHeld
          have hHeld := S.out.gX.eU.eU
          refine uG 12 none (bA 13 8191) au (fun K hK => ?_)
          refine xJ 0 rfl 26 (.tmp 19) (.tmp 85) rfl #[.int .u8 z.f0, .int .i64 z.f1.f0, .int .i64 z.f1.f1, .int .i64 z.f1.f2, .int .i64 z.f1.f3, .int .i64 z.f2, .slice Ff z.f3.length F7] (j := 0) (u := .agg #[.int .u8 z.f0, .int .i64 z.f1.f0, .int .i64 z.f1.f1, .int .i64 z.f1.f2, .int .i64 z.f1.f3, .int .i64 z.f2, .slice Ff z.f3.length F7]) (bF := [.int .u8 z.f0, .int .i64 z.f1.f0, .int .i64 z.f1.f1, .int .i64 z.f1.f2, .int .i64 z.f1.f3, .int .i64 z.f2, .slice Ff z.f3.length F7]) S.out (by rfl) rfl rfl rfl rfl (by kernel_rfl) (by simp [Value.oneCell']) (by first | decide | simp) rfl ?_
          intro agK S1
          simp only [List.set_cons_zero, List.set_cons_succ] at S1
          replace S := ae.mk S1
          clear S1
          refine hK.out _ _ ?_
          clear hK K
          refine lh (jb au.out (by kernel_rfl)) ?_
          clear hHeld
          obtain ⟨L_, Mc, Md, Me, MB, MC, MF⟩ := St.eX S (.head _)
          go_wp2_with (first
           | ((with_reducible refine ay (N := 87) rfl ?_); refine kW (N := 87) rfl rfl z S.out (S.out.tree _ (.head _)) ?hr ?_; (case hr => first | (go_simp; done) | (go_simp; rfl)); intro aj' akc agL S1 h1 h2; replace S := ae.mk S1; have jU := ae.mk h1; have lQ := ae.mk h2; clear S1 h1 h2; clear L_ Mc Md Me MB MC MF)
           | (refine bQ (some 88) Try.func82 S (adn z HZZ.out lQ.out jU.out) ?_; clear S; intro akw S; obtain ⟨L_, Mc, Md, Me, MB, MC, MF⟩ := St.eX S (.head _); have fQ := (S.out.at wG 1).trans rfl; have fU := (S.out.at wG 2).trans rfl)
           | (refine aer (some 98) Try.func66 S (aeO z cx cy HZ6.out (S.out.tree _ (.head _))) ?_; clear S; intro As cs akx S; clear L_ Mc Md Me MB MC MF fQ fU)
           | (refine ac8 26 12 98 #[.int .u8 ((gz z cx cy).f0), .int .i64 ((gz z cx cy).f1.f0), .int .i64 ((gz z cx cy).f1.f1), .int .i64 ((gz z cx cy).f1.f2), .int .i64 ((gz z cx cy).f1.f3), .int .i64 ((gz z cx cy).f2), .slice As ((gz z cx cy).f3.length) cs] 0 7 S ?_; clear S; intro aky S)
           | fail)
          refine bodyPost_ret (gy rfl _ _ b12 26 _ (0, 0) _ rfl (S.out.blk _ jT _ rfl) Try.underlying26 rfl (by kernel_rfl)) rfl ?_
          exact ⟨_, _, rfl, S.out.I_, S.out.below⟩
theorem acS (r : Int → Bool) (g : Nat) (lb : Array Value) (eg : ∀ args w, (callFunc g args).run Try.prog w = .ok (.enter g args) w) (l : List Int) (A : Option Addr) (c : Nat) (w : World) (hR : Kd.C (Kd.int .u8) w A l.length l)
  (hcall : ∀ (x : Int) (W : World), x ∈ l → Below w.heap.size w W → Calls Try.prog g (#[.int .u8 x] ++ lb) W fun e w' => e = .returned (.bool (r x)) ∧ Below W.heap.size W w') :
  Calls Try.prog 187 #[.slice A l.length c, .func (.func g) #[] lb] w fun e w' => ∃ i : Int, e = .returned (.int .i64 i) ∧ decide (i ≥ 0) = l.any r ∧ Below w.heap.size w w' := by
 have HR := ae.mk hR
 have HB := ae.mk (Below.refl w.heap.size w)
 have uq := ae.mk hcall
 have HL := ae.mk (show l.length ≤ 9223372036854775807 from hR.2.1)
 clear hR hcall
 go_enter Try.func187, Try.ntmps187
 go_wp2
 go_loopg [5, 8] l.length (fun gg _ v8 wr => ∃ (kk : Nat), kk ≤ l.length ∧ l.length - kk ≤ gg ∧ v8 = .int .i64 kk ∧ ae (Below w.heap.size w wr) ∧ ae (l.any r = (l.drop kk).any r))
 case atStart => exact ⟨0, Nat.zero_le _, by omega, rfl, HB, ⟨by simp⟩⟩
 case round =>
  clear HB
  obtain ⟨kk, hkk, hg, rfl, HB, HS⟩ := hrel
  by_cases hlt : kk < l.length
  ·have hltz : (kk : Int) < (l.length : Int) := by omega
   obtain ⟨ad, rfl, xi⟩ := Kd.o5 HR.out (kk : Int) (by omega) (by omega)
   have xi : w.cell? (ad.add kk) = some (.int .u8 (rd l (kk : Int))) := by simpa using xi
   replace xi := (HB.out.cell (World.block_lt_of_cell? w _ xi)).trans xi
   have hmem : rd l (kk : Int) ∈ l := by
    simp only [rd, Int.toNat_natCast, List.getD_eq_getElem?_getD, List.getElem?_eq_getElem hlt, Option.getD_some]
    exact List.getElem_mem _
   have hdr : l.drop kk = rd l (kk : Int) :: l.drop (kk + 1) := by
    rw [List.drop_eq_getElem_cons hlt]
    simp only [rd, Int.toNat_natCast, List.getD_eq_getElem?_getD, List.getElem?_eq_getElem hlt, Option.getD_some]
   have HX : ae ((l.drop kk).any r = (r (rd l (kk : Int)) || (l.drop (kk + 1)).any r)) := ⟨by rw [hdr, List.any_cons]⟩
   have HC := ae.mk (uq.out _ wr hmem HB.out)
   clear hmem hdr
   generalize rd l (kk : Int) = x at xi HX HC
   have hw : wrap64 ((kk : Int) + 1) = ((kk + 1 : Nat) : Int) := by unfold wrap64; have := HL.out; omega
   cases hq : r x with
   | true =>
    have h := HC.out
    rw [hq] at h
    have HH := ae.mk h
    have HQ := ae.mk hq
    clear hq HC h
    go_wp2_with fail
    refine HH.out.mono ?_
    rintro e w' ⟨rfl, hb⟩
    have HB' := ae.mk (ak HB.out hb)
    clear hb
    go_wp2
    go_ret
    refine ⟨_, rfl, ?_, HB'.out⟩
    rw [HS.out, HX.out, HQ.out, Bool.true_or]
    exact decide_eq_true (by omega)
   | false =>
    have h := HC.out
    rw [hq] at h
    have HH := ae.mk h
    have HQ := ae.mk hq
    clear hq HC h
    go_wp2_with fail
    refine HH.out.mono ?_
    rintro e w' ⟨rfl, hb⟩
    have HB' := ae.mk (ak HB.out hb)
    clear hb
    go_wp2
    go_roundg (l.length - (kk + 1))
    case measure => omega
    case rel =>
     refine ⟨kk + 1, by omega, by omega, (by rw [hw]), HB', ⟨?_⟩⟩
     rw [HS.out, HX.out, HQ.out, Bool.false_or]
  ·have hltz : ¬ (kk : Int) < (l.length : Int) := by omega
   have hd : l.drop kk = [] := List.drop_eq_nil_of_le (by omega)
   have HS2 := ae.mk (hd ▸ HS.out)
   clear HS hd
   go_wp2
   go_ret
   refine ⟨_, rfl, ?_, HB.out⟩
   rw [HS2.out]
   rfl
theorem abI (r : Int → Bool) (g : Nat) (lb : Array Value) (eg : ∀ args w, (callFunc g args).run Try.prog w = .ok (.enter g args) w) (l : List Int) (A : Option Addr) (c : Nat) (w : World) (hR : Kd.C (Kd.int .u8) w A l.length l)
  (hcall : ∀ (x : Int) (W : World), x ∈ l → Below w.heap.size w W → Calls Try.prog g (#[.int .u8 x] ++ lb) W fun e w' => e = .returned (.bool (r x)) ∧ Below W.heap.size W w') :
  Calls Try.prog 162 #[.slice A l.length c, .func (.func g) #[] lb] w fun e w' => e = .returned (.bool (l.any r)) ∧ Below w.heap.size w w' := by
 have HI := ae.mk (acS r g lb eg l A c w hR hcall)
 clear hR hcall
 go_enter Try.func162, Try.ntmps162
 go_wp2_with fail
 refine HI.out.mono ?_
 rintro e w' ⟨i, rfl, hd, hb'⟩
 have HB := ae.mk hb'
 have HN := ae.mk hd
 clear hb' hd
 go_wp2
 go_ret
 exact ⟨by rw [← HN.out]; rfl, HB.out⟩
theorem abB (x : Int) (z : ai) (Az : Option Addr) (cz b9 : Nat) (W : World) (hk : W.heap[b9]? = some (.cells #[.int .u8 z.f0, .int .i64 z.f1.f0, .int .i64 z.f1.f1, .int .i64 z.f1.f2, .int .i64 z.f1.f3, .int .i64 z.f2, .slice Az z.f3.length cz] 26 (0, 0))) :
  Calls Try.prog 170 (#[.int .u8 x] ++ #[.pointer (some ⟨b9, 0, none⟩)]) W fun e w' => e = .returned (.bool (decide (aI x z.f1 < 3))) ∧ Below W.heap.size W w' := by
 have HC := ae.mk (fun W' => qg.calls z.f1.f0 z.f1.f1 z.f1.f2 z.f1.f3 x (aI x z.f1) W' (JV z.f1 x))
 simp only [List.append_toArray, List.cons_append, List.nil_append]
 have c1 := (af hk 1).trans rfl
 have c2 := (af hk 2).trans rfl
 have c3 := (af hk 3).trans rfl
 have c4 := (af hk 4).trans rfl
 generalize aI x z.f1 = n at HC ⊢
 go_enter Try.func170, Try.ntmps170
 go_wp2_with fail
 refine (HC.out _).mono ?_
 rintro e w' ⟨rfl, hb⟩
 have HB := ae.mk hb
 clear hb
 go_wp2
 go_ret
 exact ⟨rfl, HB.out⟩
def pX (id : Int) (bK : List Int) (c : ai) : Bool := (dI id c).isSome && (bW c && !(bK.any fun x => decide (aI x ((iU c ((dI id c).getD [])).getD z26).f1 < 3)))
theorem ru (id : Int) (bK : List Int) (c : ai) (hz : sz c ≤ 1000000) (P : Nat → Prop) (A : Option Addr) (cc : Nat) (B : Option Addr) (cb : Nat) (w : World) (hv : Kd.V k26 26 w w.heap.size P (.slice A c.f3.length cc) c.f3) (hA : Kd.C (Kd.int .u8) w B bK.length bK) :
  Calls Try.prog 123 #[.agg #[.int .u8 c.f0, .int .i64 c.f1.f0, .int .i64 c.f1.f1, .int .i64 c.f1.f2, .int .i64 c.f1.f3, .int .i64 c.f2, .slice A c.f3.length cc], .int .i64 id, .slice B bK.length cb] w fun e w' => e = .returned (.bool (pX id bK c)) ∧ Below w.heap.size w w' := by
 have S := ae.mk (St.start (ts := [(.slice A c.f3.length cc, c.f3)]) (b0 := w.heap.size) (w := w) (P := P) (fun t ht => by rw [List.mem_singleton.1 ht]; exact hv))
 have HZ := ae.mk hz
 have oN := ae.mk (show sz c ≤ 1048576 by omega)
 have HA := ae.mk hA
 have hpl := fun p (h : dI id c = some p) => (EG id (sz c)).1 c (Nat.le_refl _) p h
 unfold pX
 clear hv hA hz
 cases hf : dI id c with
 | none =>
  have FB := ae.mk hf
  clear hf hpl
  simp only [Option.isSome_none, Bool.false_and]
  obtain ⟨ck, ⟨cx, cy, cw, ch⟩, aV, l⟩ := c
  simp only [] at S ⊢
  go_enter Try.func123, Try.ntmps123
  go_wp2_with (first
   | (refine boxS 3 _ 26 S ?_; clear S; intro b3 fH S; obtain ⟨bf, bg, bu, bz, dD, dE, cZ⟩ := St.eX S (.head _))
   | (refine DF (some 14) Try.func89 S (O7 id ⟨ck, ⟨cx, cy, cw, ch⟩, aV, l⟩ FB.out HZ.out (S.out.tree _ (.head _))) ?_; clear S; intro Ap cp op ik S tV; clear bf bg bu bz dD dE cZ; obtain ⟨bf, bg, bu, bz, dD, dE, cZ⟩ := St.eX S dG)
   | (refine oW (some 20) Try.func91 S (yM ⟨ck, ⟨cx, cy, cw, ch⟩, aV, l⟩ ([] : List Int) ⟨ck, ⟨cx, cy, cw, ch⟩, aV, l⟩ rfl (by decide) HZ.out (S.out.tree _ (.head _)) (uS tV.out S.out (.head _)).1 (uS tV.out S.out (.head _)).2) ?_; clear S; intro Az cz iq S; clear bf bg bu bz dD dE cZ)
   | (refine boxS 9 _ 26 S ?_; clear S; intro b9 nI S)
   | (refine jg 26 9 21 #[.int .u8 ck, .int .i64 cx, .int .i64 cy, .int .i64 cw, .int .i64 ch, .int .i64 aV, .slice Az l.length cz] 0 7 S ?_; clear S; intro oH S)
   | fail)
  go_ret
  exact ⟨rfl, S.out.below⟩
 | some p =>
  have OH := ae.mk (show p.length ≤ 1048576 by have := hpl p hf; have := HZ.out; omega)
  have FB := ae.mk hf
  obtain ⟨leaf, hlf, hlq⟩ := (xG id _).1 c (Nat.le_refl _) p hf
  have HAT := ae.mk hlf
  simp only [Option.isSome_some, Bool.true_and, Option.getD_some, hlf]
  clear hf hpl hlq hlf
  cases ht : bW c with
  | false =>
   have HT := ae.mk ht
   clear ht
   rw [Bool.false_and]
   obtain ⟨ck, ⟨cx, cy, cw, ch⟩, aV, l⟩ := c
   simp only [] at S ⊢
   go_enter Try.func123, Try.ntmps123
   go_wp2_with (first
    | (refine boxS 3 _ 26 S ?_; clear S; intro b3 fH S; obtain ⟨bf, bg, bu, bz, dD, dE, cZ⟩ := St.eX S (.head _))
    | (refine DF (some 14) Try.func89 S (yF id ⟨ck, ⟨cx, cy, cw, ch⟩, aV, l⟩ p FB.out HZ.out (S.out.tree _ (.head _))) ?_; clear S; intro Ap cp op ik S tV; clear bf bg bu bz dD dE cZ; obtain ⟨bf, bg, bu, bz, dD, dE, cZ⟩ := St.eX S dG)
    | (refine oW (some 20) Try.func91 S (yM ⟨ck, ⟨cx, cy, cw, ch⟩, aV, l⟩ p leaf HAT.out OH.out HZ.out (S.out.tree _ (.head _)) (uS tV.out S.out (.head _)).1 (uS tV.out S.out (.head _)).2) ?_; clear S; intro Az cz iq S; clear bf bg bu bz dD dE cZ)
    | (refine boxS 9 _ 26 S ?_; clear S; intro b9 nI S)
    | (refine jg 26 9 21 #[.int .u8 leaf.f0, .int .i64 leaf.f1.f0, .int .i64 leaf.f1.f1, .int .i64 leaf.f1.f2, .int .i64 leaf.f1.f3, .int .i64 leaf.f2, .slice Az leaf.f3.length cz] 0 7 S ?_; clear S; intro oH S; obtain ⟨bf, bg, bu, bz, dD, dE, cZ⟩ := St.eX S dX)
    | ((with_reducible refine ay (N := 26) rfl ?_); (refine di (by rfl) ?_; dsimp only); refine kW (N := 26) rfl rfl ⟨ck, ⟨cx, cy, cw, ch⟩, aV, l⟩ S.out (S.out.tree _ dG) ?hr ?_; (case hr => first | (go_simp; done) | (go_simp; rfl)); intro afO af7 uo S1 h1 h2; replace S := ae.mk S1; have jU := ae.mk h1; have lQ := ae.mk h2; clear S1 h1 h2; clear bf bg bu bz dD dE cZ)
    | (refine dW 27 rfl ?_; (refine di (by rfl) ?_; dsimp only); refine bQ (some 27) Try.func148 S (mX HT.out (pF ⟨ck, ⟨cx, cy, cw, ch⟩, aV, l⟩ oN.out lQ.out jU.out)) ?_; clear S; intro wV S)
    | fail)
   go_ret
   exact ⟨rfl, S.out.below⟩
  | true =>
   have HT := ae.mk ht
   clear ht
   rw [Bool.true_and]
   obtain ⟨ck, ⟨cx, cy, cw, ch⟩, aV, l⟩ := c
   simp only [] at S ⊢
   go_enter Try.func123, Try.ntmps123
   go_wp2_with (first
    | (refine boxS 3 _ 26 S ?_; clear S; intro b3 fH S; obtain ⟨bf, bg, bu, bz, dD, dE, cZ⟩ := St.eX S (.head _))
    | (refine DF (some 14) Try.func89 S (yF id ⟨ck, ⟨cx, cy, cw, ch⟩, aV, l⟩ p FB.out HZ.out (S.out.tree _ (.head _))) ?_; clear S; intro Ap cp op ik S tV; clear bf bg bu bz dD dE cZ; obtain ⟨bf, bg, bu, bz, dD, dE, cZ⟩ := St.eX S dG)
    | (refine oW (some 20) Try.func91 S (yM ⟨ck, ⟨cx, cy, cw, ch⟩, aV, l⟩ p leaf HAT.out OH.out HZ.out (S.out.tree _ (.head _)) (uS tV.out S.out (.head _)).1 (uS tV.out S.out (.head _)).2) ?_; clear S; intro Az cz iq S; clear bf bg bu bz dD dE cZ)
    | (refine boxS 9 _ 26 S ?_; clear S; intro b9 nI S)
    | (refine jg 26 9 21 #[.int .u8 leaf.f0, .int .i64 leaf.f1.f0, .int .i64 leaf.f1.f1, .int .i64 leaf.f1.f2, .int .i64 leaf.f1.f3, .int .i64 leaf.f2, .slice Az leaf.f3.length cz] 0 7 S ?_; clear S; intro oH S; obtain ⟨bf, bg, bu, bz, dD, dE, cZ⟩ := St.eX S dX)
    | ((with_reducible refine ay (N := 26) rfl ?_); (refine di (by rfl) ?_; dsimp only); refine kW (N := 26) rfl rfl ⟨ck, ⟨cx, cy, cw, ch⟩, aV, l⟩ S.out (S.out.tree _ dG) ?hr ?_; (case hr => first | (go_simp; done) | (go_simp; rfl)); intro afO af7 uo S1 h1 h2; replace S := ae.mk S1; have jU := ae.mk h1; have lQ := ae.mk h2; clear S1 h1 h2; clear bf bg bu bz dD dE cZ)
    | (refine dW 27 rfl ?_; (refine di (by rfl) ?_; dsimp only); refine bQ (some 27) Try.func148 S (mX HT.out (pF ⟨ck, ⟨cx, cy, cw, ch⟩, aV, l⟩ oN.out lQ.out jU.out)) ?_; clear S; intro wV S)
    | (refine dW 32 rfl ?_; (refine di (by rfl) ?_; dsimp only); refine bQ (some 32) Try.func162 S (abI (fun x => decide (aI x leaf.f1 < 3)) 170 #[.pointer (some ⟨b9, 0, none⟩)] (pK Try.func170 (by decide +kernel) (by kernel_rfl)) bK B cb _ (Kd.dL HA.out S.out.below) (fun x W' _ hW => abB x leaf Az cz b9 W' (aJ (S.out.blk _ (.head _) _ rfl) hW))) ?_; clear S; intro Hw S)
    | fail)
   go_ret
   exact ⟨rfl, S.out.below⟩
theorem xH {Pr : Program} {ops : Array Oper} {rest : List Oper} {op : Oper} {a : Act} {Q : Exit → Act → World → Prop} {w W : World} {P : Nat → Prop} {bs : List (Option Nat × Obj)} {ow ts : List (Value × List ai)} {ro : List (Addr × Value)} {N : Tmp} (hd : op.dst = some N) (hgd : op.guard = none) (y : Int) (S : St w P bs ow ts ro W)
  (hrun : (execOp a.eval op).run Pr W = .ok (.value (.slice (some ⟨W.heap.size, 0, none⟩) 1 1)) (W.alloc (.cells #[.int .u8 y] 5)))
  (h : ∀ A c w1, St w P bs ow ts ro w1 → Kd.C (Kd.int .u8) w1 A 1 [y] → wpList Pr ops Q rest (a.put op.dst (.slice A 1 c)) w1) : wpList Pr ops Q (op :: rest) a W :=
 Kd.vN (Kd.int .u8) (w0 := W) W.heap.size 5 hgd hd (xs := [y]) (inner := [.int .u8 y]) (ok := fun _ => True) (dY := fun _ => True) hrun (bI.one (show Kd.M (Kd.int .u8) _ _ _ y [.int .u8 y] from rfl) (bI.none _ _)) (fun _ hk => hk) trivial (Below.refl _ _) (Nat.le_refl _) (by simp) (fun v1 w1 hR hb hg _ => by
  obtain ⟨A, c, rfl⟩ := Kd.ja hR
  exact h A c w1 (S.call (uD hg)) (Kd.fD hR).2.2)
def Ut : ai := ⟨1, ⟨0, 0, 3, 3⟩, 4, []⟩
theorem abl : pX 4 [2] Ut = true := by decide +kernel
theorem o6 {id : Int} {bK : List Int} {c : ai} {v : Bool} {args : Array Value} {W : World} (h : pX id bK c = v) (hc : Calls Try.prog 123 args W fun e w' => e = .returned (.bool (pX id bK c)) ∧ Below W.heap.size W w') : Calls Try.prog 123 args W fun e w' => e = .returned (.bool v) ∧ Below W.heap.size W w' := by
 rw [h] at hc
 exact hc
theorem rq {w : World} : Calls Try.prog 106 #[] w fun e w' => e = .returned (.bool true) ∧ Below w.heap.size w w' := by
 have S := ae.mk (St.start (ts := []) (b0 := w.heap.size) (w := w) (P := fun _ => True) (fun t ht => by cases ht))
 go_enter Try.func106, Try.ntmps106
 go_wp2_with (first
  | (refine bQ (some 5) Try.func104 S (EY (s := 80) (size := 0) (by unfold I64; decide) (by unfold I64; decide) (show xw 80 0 = (40, 39, true) by decide) _) ?_; clear S; intro fH S)
  | (refine dW 21 rfl ?_; (refine di (by rfl) ?_; dsimp only); refine xH (N := 21) rfl rfl 2 S.out ?hr ?_; (case hr => first | (go_simp; done) | (go_simp; rfl)); intro Ab cb ik S1 h1; replace S := ae.mk S1; have Bo := ae.mk h1; clear S1 h1)
  | (refine dW 22 rfl ?_; (refine di (by rfl) ?_; dsimp only); refine bQ (some 22) Try.func123 S (o6 abl (ru 4 [2] Ut (by decide) _ none 0 Ab cb _ (fC (Kd.Dn k26 26 _ 0 (fun _ => True))) Bo.out)) ?_; clear S; intro iq S)
  | fail)
 go_ret
 exact ⟨rfl, S.out.below⟩
theorem yw {f : FuncId} {z y : ai} {n m : Int} {P : Nat → Prop} {args : Array Value} {W : World} (h : z = y) (h2 : n = m) (hc : Calls Try.prog f args W (Qq W P z n)) : Calls Try.prog f args W (Qq W P y m) := by
 rw [h, h2] at hc
 exact hc
def qU.T8 : Bool × List (List Nat × List Nat) := (true, [([], []), ([0], [0]), ([1], [1]), ([2, 1], [1, 2]), ([1], [1]), ([1], [1]), ([4, 5, 1], [1, 4, 5]), ([6, 1], [1, 6]), ([3, 7, 1, 1], [1, 3, 7]), ([8, 1], [1, 8]), ([1, 9], [1, 9]), ([10, 8, 0, 1, 2, 3, 4, 5, 6, 7, 8, 9, 10], [0, 10])])
def qU.B8 : List Nat := [0, 1, 3, 7, 3, 3, 51, 115, 255, 511, 1023, 2047]
theorem qU.Rq : iJ .any (opsOf Try.f33 8) = qU.T8 := by kernel_rfl
theorem qU.Kr : jm qU.T8.2 qU.B8 = true := by kernel_rfl
theorem Wp (f : Int → Int) : ∀ l : List Int, (!(l.any fun x => decide (f x < 3))) = l.all fun x => decide (3 ≤ f x) := by
 intro l
 induction l with
 | nil => rfl
 | cons x xs ih =>
  rw [List.any_cons, List.all_cons, Bool.not_or, ih]
  congr 1
  by_cases h : f x < 3
  ·rw [decide_eq_true h, decide_eq_false (show ¬ 3 ≤ f x by omega)]; rfl
  ·rw [decide_eq_false h, decide_eq_true (show 3 ≤ f x by omega)]; rfl
theorem OY {id : Int} {bK : List Int} {c leaf : ai} {p : List Int} (hf : dI id c = some p) (ht : bW c = true) (hl : iU c p = some leaf) : pX id bK c = bK.all fun x => decide (3 ≤ aI x leaf.f1) := by
 unfold pX
 rw [hf, ht]
 simp only [Option.isSome_some, Bool.true_and, Option.getD_some, hl]
 exact Wp (fun x => aI x leaf.f1) bK
theorem Yb {id : Int} {c leaf : ai} {p : List Int} (hf : dI id c = some p) (ht : bW c = true) (hl : iU c p = some leaf) : (pX id [2] c = true ∧ (jv id 2 0 2147483647 c = 0 ∨ jv id 2 0 2147483647 c = 1)) ∨ (pX id [2] c = false ∧ jv id 2 0 2147483647 c ≠ 0) := by
 rw [OY hf ht hl]
 simp only [List.all_cons, List.all_nil, Bool.and_true]
 by_cases h3 : 3 ≤ aI 2 leaf.f1
 ·refine .inl ⟨decide_eq_true h3, ?_⟩
  unfold jv
  split
  ·exact .inr rfl
  ·rw [hf]; simp only [hl]; rw [if_neg (by omega)]; exact .inl rfl
 ·refine .inr ⟨decide_eq_false h3, ?_⟩
  unfold jv
  split
  ·decide
  ·rw [hf]; simp only [hl]; rw [if_pos (by omega)]; decide
theorem WT {id : Int} {c : ai} (hf : dI id c = none) : jv id 2 0 2147483647 c ≠ 0 := by
 unfold jv
 split
 ·decide
 ·rw [hf]; simp
theorem ZX {id : Int} {c : ai} (ht : bW c = false) : jv id 2 0 2147483647 c ≠ 0 := by
 unfold jv
 rw [if_pos (.inl ht)]; decide
theorem UL (c : ai) (id : Int) (bK : List Int) (A : Option Addr) (cc : Nat) (B : Option Addr) (cb : Nat) (w : World) (hr : Kd.C k26 w A c.f3.length c.f3) (hc : c.f3.length ≤ cc) (hi : Kd.C (Kd.int .u8) w B bK.length bK) (hb : bK.length ≤ cb) (hz : sz c ≤ 1048576) (h1 : ∃ k, iF.f k c.f0 c.f1.f0 c.f1.f1 c.f1.f2 c.f1.f3 c.f2 c.f3 = some true)  :
  Calls Try.prog 33 #[.agg #[.int .u8 c.f0, .int .i64 c.f1.f0, .int .i64 c.f1.f1, .int .i64 c.f1.f2, .int .i64 c.f1.f3, .int .i64 c.f2, .slice A c.f3.length cc], .int .i64 id, .slice B bK.length cb] w fun e w' => e = .returned (.bool true) ∧ Below w.heap.size w w' := by
 have S := ae.mk (St.start (ts := [(.slice A c.f3.length cc, c.f3)]) (b0 := w.heap.size) (w := w) (P := fun k => k < w.heap.size) (fun t ht => by
  rw [List.mem_singleton.1 ht]; exact Kd.tK hc (Kd.Bj nz hr)))
 have G1 := ae.mk h1
 have HA := ae.mk hi
 clear hr hc h1 hz hi hb
 obtain ⟨ck, ⟨cx, cy, cw, ch⟩, aV, l⟩ := c
 simp only [] at S G1 ⊢
 go_enter Try.func33, Try.ntmps33
 go_wp2_with (first
  | (refine boxS 3 _ 26 S ?_; clear S; intro b3 fH S; obtain ⟨bf, bg, bu, bz, dD, dE, cZ⟩ := St.eX S (.head _))
  | (refine bQ (some 15) Try.func34 S (y9 ⟨ck, ⟨cx, cy, cw, ch⟩, aV, l⟩ true G1.out (S.out.tree _ (.head _))) ?_; clear S; intro ik S; clear bf bg bu bz dD dE cZ)
  | (refine bQ (some 21) Try.func106 S (rq) ?_; clear S; intro iq S)
  | fail)
 go_ret
 exact ⟨rfl, S.out.below⟩
theorem Wy (c : ai) (id : Int) (bK : List Int) (A : Option Addr) (cc : Nat) (B : Option Addr) (cb : Nat) (w : World) (hr : Kd.C k26 w A c.f3.length c.f3) (hc : c.f3.length ≤ cc) (hi : Kd.C (Kd.int .u8) w B bK.length bK) (hb : bK.length ≤ cb) (hz : sz c ≤ 1048576) (h1 : ∃ k, iF.f k c.f0 c.f1.f0 c.f1.f1 c.f1.f2 c.f1.f3 c.f2 c.f3 = some false) (h3 : 10 < bK.length) :
  Calls Try.prog 33 #[.agg #[.int .u8 c.f0, .int .i64 c.f1.f0, .int .i64 c.f1.f1, .int .i64 c.f1.f2, .int .i64 c.f1.f3, .int .i64 c.f2, .slice A c.f3.length cc], .int .i64 id, .slice B bK.length cb] w fun e w' => e = .returned (.bool true) ∧ Below w.heap.size w w' := by
 have S := ae.mk (St.start (ts := [(.slice A c.f3.length cc, c.f3)]) (b0 := w.heap.size) (w := w) (P := fun k => k < w.heap.size) (fun t ht => by
  rw [List.mem_singleton.1 ht]; exact Kd.tK hc (Kd.Bj nz hr)))
 have G1 := ae.mk h1
 have HA := ae.mk hi
 have h3b : decide ((bK.length : Int) > 10) = true := decide_eq_true (by omega)
 have h3c : decide (10 < (bK.length : Int)) = true := decide_eq_true (by omega)
 have h3d : decide (10 < bK.length) = true := decide_eq_true (by omega)
 clear h3
 clear hr hc h1 hz hi hb
 obtain ⟨ck, ⟨cx, cy, cw, ch⟩, aV, l⟩ := c
 simp only [] at S G1 ⊢
 go_enter Try.func33, Try.ntmps33
 go_wp2_with (first
  | (refine boxS 3 _ 26 S ?_; clear S; intro b3 fH S; obtain ⟨bf, bg, bu, bz, dD, dE, cZ⟩ := St.eX S (.head _))
  | (refine bQ (some 15) Try.func34 S (y9 ⟨ck, ⟨cx, cy, cw, ch⟩, aV, l⟩ false G1.out (S.out.tree _ (.head _))) ?_; clear S; intro ik S; clear bf bg bu bz dD dE cZ)
  | (refine bQ (some 21) Try.func106 S (rq) ?_; clear S; intro iq S)
  | fail)
 go_ret
 exact ⟨rfl, S.out.below⟩
theorem WA (c : ai) (id : Int) (bK : List Int) (A : Option Addr) (cc : Nat) (B : Option Addr) (cb : Nat) (w : World) (hr : Kd.C k26 w A c.f3.length c.f3) (hc : c.f3.length ≤ cc) (hi : Kd.C (Kd.int .u8) w B bK.length bK) (hb : bK.length ≤ cb) (hz : sz c ≤ 1048576) (h1 : ∃ k, iF.f k c.f0 c.f1.f0 c.f1.f1 c.f1.f2 c.f1.f3 c.f2 c.f3 = some false) (h3 : ¬ 10 < bK.length) (hz2 : sz c ≤ 200) (hf : dI id c = none) :
  Calls Try.prog 33 #[.agg #[.int .u8 c.f0, .int .i64 c.f1.f0, .int .i64 c.f1.f1, .int .i64 c.f1.f2, .int .i64 c.f1.f3, .int .i64 c.f2, .slice A c.f3.length cc], .int .i64 id, .slice B bK.length cb] w fun e w' => e = .returned (.bool true) ∧ Below w.heap.size w w' := by
 have S := ae.mk (St.start (ts := [(.slice A c.f3.length cc, c.f3)]) (b0 := w.heap.size) (w := w) (P := fun k => k < w.heap.size) (fun t ht => by
  rw [List.mem_singleton.1 ht]; exact Kd.tK hc (Kd.Bj nz hr)))
 have G1 := ae.mk h1
 have HA := ae.mk hi
 have Sm := ae.mk (NW hf)
 have HZ := ae.mk (show sz c ≤ 1000000 by omega)
 have HZ1 := ae.mk (show sz c ≤ 1000 by omega)
 have oN := ae.mk hz
 have Si := ae.mk (show bK.length ≤ 10 by omega)
 have DZ := ae.mk (show I64 0 by unfold I64; omega)
 obtain ⟨z1, hz1⟩ : ∃ r, Ba id 2 0 2147483647 false c = r := ⟨_, rfl⟩
 obtain ⟨e1, he1⟩ : ∃ r, jv id 2 0 2147483647 c = r := ⟨_, rfl⟩
 have HR1 := ae.mk hz1
 have KQ := ae.mk he1
 have he0 := WT hf
 have KN := ae.mk (show pX id [2] c = false by unfold pX; rw [hf]; rfl)
 have Fq := ae.mk (show pX id bK c = false by unfold pX; rw [hf]; rfl)
 rw [he1] at he0
 have RX := ae.mk he0
 clear he0 hz1 he1
 have h3b : decide ((bK.length : Int) > 10) = false := decide_eq_false (by omega)
 have h3c : decide (10 < (bK.length : Int)) = false := decide_eq_false (by omega)
 have h3d : decide (10 < bK.length) = false := decide_eq_false (by omega)
 clear h3 hz2 hf
 clear hr hc h1 hz hi hb
 obtain ⟨ck, ⟨cx, cy, cw, ch⟩, aV, l⟩ := c
 simp only [] at S G1 ⊢
 go_enter Try.func33, Try.ntmps33
 go_wp2_with (first
  | (refine boxS 3 _ 26 S ?_; clear S; intro b3 fH S; obtain ⟨bf, bg, bu, bz, dD, dE, cZ⟩ := St.eX S (.head _))
  | (refine bQ (some 15) Try.func34 S (y9 ⟨ck, ⟨cx, cy, cw, ch⟩, aV, l⟩ false G1.out (S.out.tree _ (.head _))) ?_; clear S; intro ik S; clear bf bg bu bz dD dE cZ; obtain ⟨bf, bg, bu, bz, dD, dE, cZ⟩ := St.eX S (.head _))
  | (refine bQ (some 25) Try.func122 S (EF Sm.out (Ik id ⟨ck, ⟨cx, cy, cw, ch⟩, aV, l⟩ oN.out _ _ _ _ (fC (S.out.tree _ (.head _))))) ?_; clear S; intro iq S; clear bf bg bu bz dD dE cZ)
  | (refine boxS 7 _ 26 S ?_; clear S; intro b7 nI S)
  | (refine jg 26 7 26 #[.int .u8 0, .int .i64 0, .int .i64 0, .int .i64 0, .int .i64 0, .int .i64 0, .slice none 0 0] 0 7 S ?_; clear S; intro oH S)
  | fail)
 go_loopg [9, 10] bK.length (fun gg v9 v10 wr => ∃ (n : Nat), v9 = .bool false ∧ v10 = .int .i64 (n : Int) ∧ ae (n ≤ bK.length) ∧ bK.length - n ≤ gg ∧ ae (St w (fun k => k < w.heap.size) [(some b7, .cells #[.int .u8 0, .int .i64 0, .int .i64 0, .int .i64 0, .int .i64 0, .int .i64 0, .slice none 0 0] 26 (0, 0)), (some b3, .cells #[.int .u8 ck, .int .i64 cx, .int .i64 cy, .int .i64 cw, .int .i64 ch, .int .i64 aV, .slice A l.length cc] 26 (0, 0))] [] [(.slice A l.length cc, l)] [] wr))
 case atStart => exact ⟨0, rfl, rfl, ⟨Nat.zero_le _⟩, Nat.le_refl _, S⟩
 case round =>
  clear S
  obtain ⟨n, rfl, rfl, HN, hgg, S⟩ := hrel
  by_cases hlt : n < bK.length
  case pos =>
   have xK := ae.mk hlt
   have hlz : (n : Int) < (bK.length : Int) := by omega
   have kX := ae.mk hgg
   have hw : wrap64 ((n : Int) + 1) = ((n + 1 : Nat) : Int) := by have := Si.out; unfold wrap64; omega
   have HW := ae.mk hw
   clear hw hgg
   go_wp2
   refine jL (n := 12) (S := fun w' => St w _ _ _ _ _ w') (ds := []) (bA 12 0) (by kernel_rfl) rfl rfl (S.out.call (bC (Below.refl _ _))) (fun hHeld => ?_); refine fP qU.Rq qU.Kr (fun au fE => ?_)
   replace S := ae.mk (S.out.call (bC (Below.refl _ _)))
   generalize wr.drew = JY at S hHeld ⊢
   refine aC 0 39 (bA 12 1) au ?_
   refine aC 1 40 (bA 12 3) au ?_
   refine mJ 2 41 (bA 12 7) au ?_
   refine mJ 3 42 (bA 12 15) au ?_
   refine mJ 4 43 (bA 12 31) au ?_
   refine mJ 5 44 (bA 12 63) au ?_
   refine mJ 6 45 (bA 12 127) au ?_
   refine mJ 7 46 (bA 12 255) au ?_
   refine mJ 8 47 (bA 12 511) au ?_
   refine mJ 9 48 (bA 12 1023) au ?_
   refine aC 10 49 (bA 12 2047) au ?_
   refine aC 11 9 (bA 12 4095) au ?_
   refine lh (jb au.out (by kernel_rfl)) ?_
   clear hHeld
   go_wp2
   have hw := HW.out
   go_wp2
   go_roundg (bK.length - (n + 1))
   case measure => have := kX.out; have := xK.out; omega
   case rel => exact ⟨n + 1, rfl, (by rw [hw]), ⟨xK.out⟩, Nat.le_refl _, S⟩
  case neg =>
   have hlz : ¬ ((n : Int) < (bK.length : Int)) := by omega
   clear hlt hgg
   have hn0 := RX.out
   have acx : (e1 != 0) = true := bne_iff_ne.mpr hn0
   have acy : (e1 == 0) = false := beq_eq_false_iff_ne.mpr hn0
   have acz : decide (e1 = 0) = false := decide_eq_false hn0
   clear hn0
   obtain ⟨bf, bg, bu, bz, dD, dE, cZ⟩ := St.eX S dG
   go_wp2_with (first
    | (refine oW (some 53) Try.func120 S (yw HR1.out KQ.out (yl ⟨ck, ⟨cx, cy, cw, ch⟩, aV, l⟩ HZ1.out id 2 0 2147483647 false DZ.out _ A cc _ (fC (S.out.tree _ (.head _))))) ?_; clear S; intro Fe c53 fH S; clear bf bg bu bz dD dE cZ)
    | (refine boxS 11 _ 26 S ?_; clear S; intro b11 ik S)
    | (refine jg 26 11 54 #[.int .u8 z1.f0, .int .i64 z1.f1.f0, .int .i64 z1.f1.f1, .int .i64 z1.f1.f2, .int .i64 z1.f1.f3, .int .i64 z1.f2, .slice Fe z1.f3.length c53] 0 7 S ?_; clear S; intro iq S; obtain ⟨bf, bg, bu, bz, dD, dE, cZ⟩ := St.eX S dX)
    | (refine dW 58 rfl ?_; refine xH (N := 58) rfl rfl 2 S.out ?hr ?_; (case hr => first | (go_simp; done) | (go_simp; rfl)); intro Ab cb1 nI S1 h1; replace S := ae.mk S1; have Bo := ae.mk h1; clear S1 h1; clear bf bg bu bz dD dE cZ)
    | (refine bQ (some 59) Try.func123 S (o6 KN.out (ru id [2] ⟨ck, ⟨cx, cy, cw, ch⟩, aV, l⟩ HZ.out _ _ _ Ab cb1 _ (fC (S.out.tree _ dG)) Bo.out)) ?_; clear S; intro oH S; obtain ⟨bf, bg, bu, bz, dD, dE, cZ⟩ := St.eX S dX)
    | (refine bQ (some 63) Try.func123 S (o6 Fq.out (ru id bK ⟨ck, ⟨cx, cy, cw, ch⟩, aV, l⟩ HZ.out _ _ _ _ _ _ (fC (S.out.tree _ dG)) (Kd.dL HA.out S.out.below))) ?_; clear S; intro uo S; clear bf bg bu bz dD dE cZ)
    | (refine dW 86 rfl ?_; (refine di (by rfl) ?_; dsimp only); refine bQ (some 86) Try.func106 S (rq) ?_; clear S; intro wV S)
    | fail)
   go_ret
   exact ⟨rfl, S.out.below⟩
theorem ZI (c : ai) (id : Int) (bK : List Int) (A : Option Addr) (cc : Nat) (B : Option Addr) (cb : Nat) (w : World) (hr : Kd.C k26 w A c.f3.length c.f3) (hc : c.f3.length ≤ cc) (hi : Kd.C (Kd.int .u8) w B bK.length bK) (hb : bK.length ≤ cb) (hz : sz c ≤ 1048576) (h1 : ∃ k, iF.f k c.f0 c.f1.f0 c.f1.f1 c.f1.f2 c.f1.f3 c.f2 c.f3 = some false) (h3 : ¬ 10 < bK.length) (hz2 : sz c ≤ 200) (p : List Int) (leaf : ai) (hf : dI id c = some p) (hl : iU c p = some leaf) (ht : bW c = false) :
  Calls Try.prog 33 #[.agg #[.int .u8 c.f0, .int .i64 c.f1.f0, .int .i64 c.f1.f1, .int .i64 c.f1.f2, .int .i64 c.f1.f3, .int .i64 c.f2, .slice A c.f3.length cc], .int .i64 id, .slice B bK.length cb] w fun e w' => e = .returned (.bool true) ∧ Below w.heap.size w w' := by
 have S := ae.mk (St.start (ts := [(.slice A c.f3.length cc, c.f3)]) (b0 := w.heap.size) (w := w) (P := fun k => k < w.heap.size) (fun t ht => by
  rw [List.mem_singleton.1 ht]; exact Kd.tK hc (Kd.Bj nz hr)))
 have G1 := ae.mk h1
 have HA := ae.mk hi
 have Sm := ae.mk (ET hf hl)
 have HZ := ae.mk (show sz c ≤ 1000000 by omega)
 have HZ1 := ae.mk (show sz c ≤ 1000 by omega)
 have oN := ae.mk hz
 have Si := ae.mk (show bK.length ≤ 10 by omega)
 have DZ := ae.mk (show I64 0 by unfold I64; omega)
 have HT := ae.mk ht
 obtain ⟨z1, hz1⟩ : ∃ r, Ba id 2 0 2147483647 false c = r := ⟨_, rfl⟩
 obtain ⟨e1, he1⟩ : ∃ r, jv id 2 0 2147483647 c = r := ⟨_, rfl⟩
 have HR1 := ae.mk hz1
 have KQ := ae.mk he1
 have he0 := ZX (id := id) ht
 have KN := ae.mk (show pX id [2] c = false by unfold pX; rw [ht, Bool.false_and, Bool.and_false])
 have Fq := ae.mk (show pX id bK c = false by unfold pX; rw [ht, Bool.false_and, Bool.and_false])
 rw [he1] at he0
 have RX := ae.mk he0
 clear he0 hz1 he1
 have h3b : decide ((bK.length : Int) > 10) = false := decide_eq_false (by omega)
 have h3c : decide (10 < (bK.length : Int)) = false := decide_eq_false (by omega)
 have h3d : decide (10 < bK.length) = false := decide_eq_false (by omega)
 clear h3 hz2 hf ht hl
 clear hr hc h1 hz hi hb
 obtain ⟨ck, ⟨cx, cy, cw, ch⟩, aV, l⟩ := c
 simp only [] at S G1 ⊢
 go_enter Try.func33, Try.ntmps33
 go_wp2_with (first
  | (refine boxS 3 _ 26 S ?_; clear S; intro b3 fH S; obtain ⟨bf, bg, bu, bz, dD, dE, cZ⟩ := St.eX S (.head _))
  | (refine bQ (some 15) Try.func34 S (y9 ⟨ck, ⟨cx, cy, cw, ch⟩, aV, l⟩ false G1.out (S.out.tree _ (.head _))) ?_; clear S; intro ik S; clear bf bg bu bz dD dE cZ; obtain ⟨bf, bg, bu, bz, dD, dE, cZ⟩ := St.eX S (.head _))
  | (refine nO (some 25) Try.func122 (EF Sm.out (Ik id ⟨ck, ⟨cx, cy, cw, ch⟩, aV, l⟩ oN.out _ _ _ _ (fC (S.out.tree _ (.head _))))) ?_; rintro e iq ⟨KC, c25, rfl, h1, hb⟩; refine ⟨_, rfl, ?_⟩; skip; replace S := ae.mk (S.out.res h1 hb); clear h1 hb; clear bf bg bu bz dD dE cZ)
  | (refine boxS 7 _ 26 S ?_; clear S; intro b7 nI S)
  | (refine jg 26 7 26 #[.int .u8 leaf.f0, .int .i64 leaf.f1.f0, .int .i64 leaf.f1.f1, .int .i64 leaf.f1.f2, .int .i64 leaf.f1.f3, .int .i64 leaf.f2, .slice KC leaf.f3.length c25] 0 7 S ?_; clear S; intro oH S; obtain ⟨bf, bg, bu, bz, dD, dE, cZ⟩ := St.eX S dG)
  | (refine dW 31 rfl ?_; (refine di (by rfl) ?_; dsimp only); refine bQ (some 31) Try.func84 S (mX HT.out (N7 ⟨ck, ⟨cx, cy, cw, ch⟩, aV, l⟩ oN.out (S.out.tree _ dG))) ?_; clear S; intro uo S; clear bf bg bu bz dD dE cZ)
  | fail)
 go_loopg [9, 10] bK.length (fun gg v9 v10 wr => ∃ (n : Nat), v9 = .bool false ∧ v10 = .int .i64 (n : Int) ∧ ae (n ≤ bK.length) ∧ bK.length - n ≤ gg ∧ ae (St w (fun k => k < w.heap.size) [(some b7, .cells #[.int .u8 leaf.f0, .int .i64 leaf.f1.f0, .int .i64 leaf.f1.f1, .int .i64 leaf.f1.f2, .int .i64 leaf.f1.f3, .int .i64 leaf.f2, .slice KC leaf.f3.length c25] 26 (0, 0)), (some b3, .cells #[.int .u8 ck, .int .i64 cx, .int .i64 cy, .int .i64 cw, .int .i64 ch, .int .i64 aV, .slice A l.length cc] 26 (0, 0))] [] [(.slice KC leaf.f3.length c25, leaf.f3), (.slice A l.length cc, l)] [] wr))
 case atStart => exact ⟨0, rfl, rfl, ⟨Nat.zero_le _⟩, Nat.le_refl _, S⟩
 case round =>
  clear S
  obtain ⟨n, rfl, rfl, HN, hgg, S⟩ := hrel
  by_cases hlt : n < bK.length
  case pos =>
   have xK := ae.mk hlt
   have hlz : (n : Int) < (bK.length : Int) := by omega
   have kX := ae.mk hgg
   have hw : wrap64 ((n : Int) + 1) = ((n + 1 : Nat) : Int) := by have := Si.out; unfold wrap64; omega
   have HW := ae.mk hw
   clear hw hgg
   go_wp2
   refine jL (n := 12) (S := fun w' => St w _ _ _ _ _ w') (ds := []) (bA 12 0) (by kernel_rfl) rfl rfl (S.out.call (bC (Below.refl _ _))) (fun hHeld => ?_); refine fP qU.Rq qU.Kr (fun au fE => ?_)
   replace S := ae.mk (S.out.call (bC (Below.refl _ _)))
   generalize wr.drew = JY at S hHeld ⊢
   refine aC 0 39 (bA 12 1) au ?_
   refine aC 1 40 (bA 12 3) au ?_
   refine mJ 2 41 (bA 12 7) au ?_
   refine mJ 3 42 (bA 12 15) au ?_
   refine mJ 4 43 (bA 12 31) au ?_
   refine mJ 5 44 (bA 12 63) au ?_
   refine mJ 6 45 (bA 12 127) au ?_
   refine mJ 7 46 (bA 12 255) au ?_
   refine mJ 8 47 (bA 12 511) au ?_
   refine mJ 9 48 (bA 12 1023) au ?_
   refine aC 10 49 (bA 12 2047) au ?_
   refine aC 11 9 (bA 12 4095) au ?_
   refine lh (jb au.out (by kernel_rfl)) ?_
   clear hHeld
   go_wp2
   have hw := HW.out
   go_wp2
   go_roundg (bK.length - (n + 1))
   case measure => have := kX.out; have := xK.out; omega
   case rel => exact ⟨n + 1, rfl, (by rw [hw]), ⟨xK.out⟩, Nat.le_refl _, S⟩
  case neg =>
   have hlz : ¬ ((n : Int) < (bK.length : Int)) := by omega
   clear hlt hgg
   have hn0 := RX.out
   have acx : (e1 != 0) = true := bne_iff_ne.mpr hn0
   have acy : (e1 == 0) = false := beq_eq_false_iff_ne.mpr hn0
   have acz : decide (e1 = 0) = false := decide_eq_false hn0
   clear hn0
   obtain ⟨bf, bg, bu, bz, dD, dE, cZ⟩ := St.eX S dG
   go_wp2_with (first
    | (refine oW (some 53) Try.func120 S (yw HR1.out KQ.out (yl ⟨ck, ⟨cx, cy, cw, ch⟩, aV, l⟩ HZ1.out id 2 0 2147483647 false DZ.out _ A cc _ (fC (S.out.tree _ dG)))) ?_; clear S; intro Fe c53 fH S; clear bf bg bu bz dD dE cZ)
    | (refine boxS 11 _ 26 S ?_; clear S; intro b11 ik S)
    | (refine jg 26 11 54 #[.int .u8 z1.f0, .int .i64 z1.f1.f0, .int .i64 z1.f1.f1, .int .i64 z1.f1.f2, .int .i64 z1.f1.f3, .int .i64 z1.f2, .slice Fe z1.f3.length c53] 0 7 S ?_; clear S; intro iq S; obtain ⟨bf, bg, bu, bz, dD, dE, cZ⟩ := St.eX S dX)
    | (refine dW 58 rfl ?_; refine xH (N := 58) rfl rfl 2 S.out ?hr ?_; (case hr => first | (go_simp; done) | (go_simp; rfl)); intro Ab cb1 nI S1 h1; replace S := ae.mk S1; have Bo := ae.mk h1; clear S1 h1; clear bf bg bu bz dD dE cZ)
    | (refine bQ (some 59) Try.func123 S (o6 KN.out (ru id [2] ⟨ck, ⟨cx, cy, cw, ch⟩, aV, l⟩ HZ.out _ _ _ Ab cb1 _ (fC (S.out.tree _ dX)) Bo.out)) ?_; clear S; intro oH S; obtain ⟨bf, bg, bu, bz, dD, dE, cZ⟩ := St.eX S dX)
    | (refine bQ (some 63) Try.func123 S (o6 Fq.out (ru id bK ⟨ck, ⟨cx, cy, cw, ch⟩, aV, l⟩ HZ.out _ _ _ _ _ _ (fC (S.out.tree _ dX)) (Kd.dL HA.out S.out.below))) ?_; clear S; intro uo S; clear bf bg bu bz dD dE cZ)
    | (refine dW 86 rfl ?_; (refine di (by rfl) ?_; dsimp only); refine bQ (some 86) Try.func106 S (rq) ?_; clear S; intro wV S)
    | fail)
   go_ret
   exact ⟨rfl, S.out.below⟩
theorem ac6 (c : ai) (id : Int) (bK : List Int) (A : Option Addr) (cc : Nat) (B : Option Addr) (cb : Nat) (w : World) (hr : Kd.C k26 w A c.f3.length c.f3) (hc : c.f3.length ≤ cc) (hi : Kd.C (Kd.int .u8) w B bK.length bK) (hb : bK.length ≤ cb) (hz : sz c ≤ 1048576) (h1 : ∃ k, iF.f k c.f0 c.f1.f0 c.f1.f1 c.f1.f2 c.f1.f3 c.f2 c.f3 = some false) (h3 : ¬ 10 < bK.length) (hz2 : sz c ≤ 200) (p : List Int) (leaf : ai) (hf : dI id c = some p) (hl : iU c p = some leaf) (ht : bW c = true) :
  Calls Try.prog 33 #[.agg #[.int .u8 c.f0, .int .i64 c.f1.f0, .int .i64 c.f1.f1, .int .i64 c.f1.f2, .int .i64 c.f1.f3, .int .i64 c.f2, .slice A c.f3.length cc], .int .i64 id, .slice B bK.length cb] w fun e w' => e = .returned (.bool true) ∧ Below w.heap.size w w' := by
 have S := ae.mk (St.start (ts := [(.slice A c.f3.length cc, c.f3)]) (b0 := w.heap.size) (w := w) (P := fun k => k < w.heap.size) (fun t ht => by
  rw [List.mem_singleton.1 ht]; exact Kd.tK hc (Kd.Bj nz hr)))
 have G1 := ae.mk h1
 have HA := ae.mk hi
 have Sm := ae.mk (ET hf hl)
 have HZ := ae.mk (show sz c ≤ 1000000 by omega)
 have HZ1 := ae.mk (show sz c ≤ 1000 by omega)
 have oN := ae.mk hz
 have Si := ae.mk (show bK.length ≤ 10 by omega)
 have DZ := ae.mk (show I64 0 by unfold I64; omega)
 have HT := ae.mk ht
 obtain ⟨z1, hz1⟩ : ∃ r, Ba id 2 0 2147483647 false c = r := ⟨_, rfl⟩
 obtain ⟨e1, he1⟩ : ∃ r, jv id 2 0 2147483647 c = r := ⟨_, rfl⟩
 have HR1 := ae.mk hz1
 have KQ := ae.mk he1
 have he0 := Yb hf ht hl
 obtain ⟨cd, hcd⟩ : ∃ r, pX id [2] c = r := ⟨_, rfl⟩
 rw [hcd] at he0
 have KN := ae.mk hcd
 obtain ⟨R, hR⟩ : ∃ r, pX id bK c = r := ⟨_, rfl⟩
 have Fq := ae.mk hR
 have hR0 : (true && (bK.drop 0).all fun x => decide (3 ≤ aI x leaf.f1)) = R := by rw [← hR, OY hf ht hl]; rfl
 have HR := ae.mk hR0
 clear hR hR0 hcd
 rw [he1] at he0
 have RX := ae.mk he0
 clear he0 hz1 he1
 have h3b : decide ((bK.length : Int) > 10) = false := decide_eq_false (by omega)
 have h3c : decide (10 < (bK.length : Int)) = false := decide_eq_false (by omega)
 have h3d : decide (10 < bK.length) = false := decide_eq_false (by omega)
 clear h3 hz2 hf ht hl
 clear hr hc h1 hz hi hb
 obtain ⟨ck, ⟨cx, cy, cw, ch⟩, aV, l⟩ := c
 simp only [] at S G1 ⊢
 go_enter Try.func33, Try.ntmps33
 go_wp2_with (first
  | (refine boxS 3 _ 26 S ?_; clear S; intro b3 fH S; obtain ⟨bf, bg, bu, bz, dD, dE, cZ⟩ := St.eX S (.head _))
  | (refine bQ (some 15) Try.func34 S (y9 ⟨ck, ⟨cx, cy, cw, ch⟩, aV, l⟩ false G1.out (S.out.tree _ (.head _))) ?_; clear S; intro ik S; clear bf bg bu bz dD dE cZ; obtain ⟨bf, bg, bu, bz, dD, dE, cZ⟩ := St.eX S (.head _))
  | (refine nO (some 25) Try.func122 (EF Sm.out (Ik id ⟨ck, ⟨cx, cy, cw, ch⟩, aV, l⟩ oN.out _ _ _ _ (fC (S.out.tree _ (.head _))))) ?_; rintro e iq ⟨KC, c25, rfl, h1, hb⟩; refine ⟨_, rfl, ?_⟩; skip; replace S := ae.mk (S.out.res h1 hb); clear h1 hb; clear bf bg bu bz dD dE cZ)
  | (refine boxS 7 _ 26 S ?_; clear S; intro b7 nI S)
  | (refine jg 26 7 26 #[.int .u8 leaf.f0, .int .i64 leaf.f1.f0, .int .i64 leaf.f1.f1, .int .i64 leaf.f1.f2, .int .i64 leaf.f1.f3, .int .i64 leaf.f2, .slice KC leaf.f3.length c25] 0 7 S ?_; clear S; intro oH S; obtain ⟨bf, bg, bu, bz, dD, dE, cZ⟩ := St.eX S dG)
  | (refine dW 31 rfl ?_; (refine di (by rfl) ?_; dsimp only); refine bQ (some 31) Try.func84 S (mX HT.out (N7 ⟨ck, ⟨cx, cy, cw, ch⟩, aV, l⟩ oN.out (S.out.tree _ dG))) ?_; clear S; intro uo S; clear bf bg bu bz dD dE cZ)
  | fail)
 go_loopg [9, 10] bK.length (fun gg v9 v10 wr => ∃ (n : Nat) (b : Bool), v9 = .bool b ∧ v10 = .int .i64 (n : Int) ∧ ae (n ≤ bK.length) ∧ bK.length - n ≤ gg ∧ ae ((b && (bK.drop n).all fun x => decide (3 ≤ aI x leaf.f1)) = R) ∧ ae (St w (fun k => k < w.heap.size) [(some b7, .cells #[.int .u8 leaf.f0, .int .i64 leaf.f1.f0, .int .i64 leaf.f1.f1, .int .i64 leaf.f1.f2, .int .i64 leaf.f1.f3, .int .i64 leaf.f2, .slice KC leaf.f3.length c25] 26 (0, 0)), (some b3, .cells #[.int .u8 ck, .int .i64 cx, .int .i64 cy, .int .i64 cw, .int .i64 ch, .int .i64 aV, .slice A l.length cc] 26 (0, 0))] [] [(.slice KC leaf.f3.length c25, leaf.f3), (.slice A l.length cc, l)] [] wr))
 case atStart => exact ⟨0, true, rfl, rfl, ⟨Nat.zero_le _⟩, Nat.le_refl _, HR, S⟩
 case round =>
  clear S HR
  obtain ⟨n, b, rfl, rfl, HN, hgg, HR, S⟩ := hrel
  by_cases hlt : n < bK.length
  case pos =>
   have xK := ae.mk hlt
   have hlz : (n : Int) < (bK.length : Int) := by omega
   have kX := ae.mk hgg
   have hw : wrap64 ((n : Int) + 1) = ((n + 1 : Nat) : Int) := by have := Si.out; unfold wrap64; omega
   have HW := ae.mk hw
   clear hw hgg
   cases b with
   | false =>
    go_wp2
    refine jL (n := 12) (S := fun w' => St w _ _ _ _ _ w') (ds := []) (bA 12 0) (by kernel_rfl) rfl rfl (S.out.call (bC (Below.refl _ _))) (fun hHeld => ?_); refine fP qU.Rq qU.Kr (fun au fE => ?_)
    replace S := ae.mk (S.out.call (bC (Below.refl _ _)))
    generalize wr.drew = JY at S hHeld ⊢
    refine aC 0 39 (bA 12 1) au ?_
    refine aC 1 40 (bA 12 3) au ?_
    refine mJ 2 41 (bA 12 7) au ?_
    refine mJ 3 42 (bA 12 15) au ?_
    refine mJ 4 43 (bA 12 31) au ?_
    refine mJ 5 44 (bA 12 63) au ?_
    refine mJ 6 45 (bA 12 127) au ?_
    refine mJ 7 46 (bA 12 255) au ?_
    refine mJ 8 47 (bA 12 511) au ?_
    refine mJ 9 48 (bA 12 1023) au ?_
    refine aC 10 49 (bA 12 2047) au ?_
    refine aC 11 9 (bA 12 4095) au ?_
    refine lh (jb au.out (by kernel_rfl)) ?_
    clear hHeld
    go_wp2
    have hw := HW.out
    go_wp2
    go_roundg (bK.length - (n + 1))
    case measure => have := kX.out; have := xK.out; omega
    case rel => exact ⟨n + 1, false, rfl, (by rw [hw]), ⟨xK.out⟩, Nat.le_refl _, ⟨by have h := HR.out; rw [Bool.false_and] at h ⊢; exact h⟩, S⟩
   | true =>
    obtain ⟨ad, ek, xi⟩ := Kd.o5 HA.out (n : Int) (Int.natCast_nonneg _) hlz
    subst ek
    have hdr : bK.drop n = rd bK (n : Int) :: bK.drop (n + 1) := by
     rw [List.drop_eq_getElem_cons xK.out]
     simp only [rd, Int.toNat_natCast, List.getD_eq_getElem?_getD, List.getElem?_eq_getElem xK.out, Option.getD_some]
    have hr := HR.out
    rw [hdr, Bool.true_and, List.all_cons] at hr
    obtain ⟨x, hx⟩ : ∃ x, x = rd bK (n : Int) := ⟨_, rfl⟩
    rw [← hx] at hr
    obtain ⟨sv, hsv⟩ : ∃ f, aI x leaf.f1 = f := ⟨_, rfl⟩
    rw [hsv] at hr
    have KY := ae.mk hsv
    have HR2 := ae.mk hr
    have FC := ae.mk hlz
    have HXX := ae.mk hx
    have uP := ae.mk (fun (W : World) (h : Below w.heap.size w W) => (show W.cell? (ad.add n) = some (.int .u8 x) by have h2 := Kd.o5 (Kd.dL HA.out h) (n : Int) (Int.natCast_nonneg _) FC.out; obtain ⟨ad2, e1, e2⟩ := h2; injection e1 with e1; subst e1; simp only [Int.toNat_natCast] at e2; rw [e2, HXX.out]))
    clear xi hdr hr hx hsv HR
    go_wp2
    refine jL (n := 12) (S := fun w' => St w _ _ _ _ _ w') (ds := []) (bA 12 0) (by kernel_rfl) rfl rfl (S.out.call (bC (Below.refl _ _))) (fun hHeld => ?_); refine fP qU.Rq qU.Kr (fun au fE => ?_)
    replace S := ae.mk (S.out.call (bC (Below.refl _ _)))
    generalize wr.drew = JY at S hHeld ⊢
    refine aC 0 39 (bA 12 1) au ?_
    refine aC 1 40 (bA 12 3) au ?_
    refine aC 2 41 (bA 12 7) au ?_
    refine eQ 3 42 (bA 12 15) au fE hHeld ?_ (hv := by intro w' hs_; have Kt := (hs_.at (.head _) 1).trans rfl; have Ku := (hs_.at (.head _) 2).trans rfl; have Dz := (hs_.at (.head _) 3).trans rfl; have DC := (hs_.at (.head _) 4).trans rfl; go_simp; with_reducible rfl)
    refine aC 4 43 (bA 12 31) au ?_
    refine aC 5 44 (bA 12 63) au ?_
    refine aC 6 45 (bA 12 127) au ?_
    refine eQ 7 46 (bA 12 255) au fE hHeld ?_ (hv := by intro w' hs_; have xi := uP.out _ hs_.below; go_simp; with_reducible rfl)
    refine lI 8 (some 47) (bA 12 511) au (fun K hK => ?_)
    refine mG Try.func87 #[.agg #[.int .i64 leaf.f1.f0, .int .i64 leaf.f1.f1, .int .i64 leaf.f1.f2, .int .i64 leaf.f1.f3], .int .u8 x] ?_
    refine (ZU KY.out (ZT leaf.f1 x)).mono ?_
    rintro e ik ⟨rfl, hb⟩
    refine ⟨_, rfl, ?_⟩
    replace S := ae.mk (S.out.call hb)
    clear hb
    refine hK.out _ _ S.out (fun hHeld => ?_)
    clear hK K
    refine fK 47 ?_
    refine aC 9 48 (bA 12 1023) au ?_
    refine aC 10 49 (bA 12 2047) au ?_
    refine aC 11 9 (bA 12 4095) au ?_
    refine lh (jb au.out (by kernel_rfl)) ?_
    clear hHeld
    go_wp2
    have hw := HW.out
    go_wp2
    go_roundg (bK.length - (n + 1))
    case measure => have := kX.out; have := xK.out; omega
    case rel => exact ⟨n + 1, _, rfl, (by rw [hw]), ⟨xK.out⟩, Nat.le_refl _, HR2, S⟩
  case neg =>
   have hlz : ¬ ((n : Int) < (bK.length : Int)) := by omega
   have hr := HR.out
   rw [List.drop_eq_nil_of_le (by omega), List.all_nil, Bool.and_true] at hr
   subst hr
   clear HR
   clear hlt hgg
   rcases RX.out with ⟨hcd, he | he⟩ | ⟨hcd, he⟩
   ·skip
    subst hcd he
    obtain ⟨bf, bg, bu, bz, dD, dE, cZ⟩ := St.eX S dG
    go_wp2_with (first
     | (refine oW (some 53) Try.func120 S (yw HR1.out KQ.out (yl ⟨ck, ⟨cx, cy, cw, ch⟩, aV, l⟩ HZ1.out id 2 0 2147483647 false DZ.out _ A cc _ (fC (S.out.tree _ dG)))) ?_; clear S; intro Fe c53 fH S; clear bf bg bu bz dD dE cZ)
     | (refine boxS 11 _ 26 S ?_; clear S; intro b11 ik S)
     | (refine jg 26 11 54 #[.int .u8 z1.f0, .int .i64 z1.f1.f0, .int .i64 z1.f1.f1, .int .i64 z1.f1.f2, .int .i64 z1.f1.f3, .int .i64 z1.f2, .slice Fe z1.f3.length c53] 0 7 S ?_; clear S; intro iq S; obtain ⟨bf, bg, bu, bz, dD, dE, cZ⟩ := St.eX S dX)
     | (refine dW 58 rfl ?_; refine xH (N := 58) rfl rfl 2 S.out ?hr ?_; (case hr => first | (go_simp; done) | (go_simp; rfl)); intro Ab cb1 nI S1 h1; replace S := ae.mk S1; have Bo := ae.mk h1; clear S1 h1; clear bf bg bu bz dD dE cZ)
     | (refine bQ (some 59) Try.func123 S (o6 KN.out (ru id [2] ⟨ck, ⟨cx, cy, cw, ch⟩, aV, l⟩ HZ.out _ _ _ Ab cb1 _ (fC (S.out.tree _ dX)) Bo.out)) ?_; clear S; intro oH S; obtain ⟨bf, bg, bu, bz, dD, dE, cZ⟩ := St.eX S dX)
     | (refine bQ (some 63) Try.func123 S (o6 Fq.out (ru id bK ⟨ck, ⟨cx, cy, cw, ch⟩, aV, l⟩ HZ.out _ _ _ _ _ _ (fC (S.out.tree _ dX)) (Kd.dL HA.out S.out.below))) ?_; clear S; intro uo S; clear bf bg bu bz dD dE cZ)
     | (refine dW 86 rfl ?_; (refine di (by rfl) ?_; dsimp only); refine bQ (some 86) Try.func106 S (rq) ?_; clear S; intro wV S)
     | fail)
    go_ret
    exact ⟨rfl, S.out.below⟩
   ·skip
    subst hcd he
    obtain ⟨bf, bg, bu, bz, dD, dE, cZ⟩ := St.eX S dG
    go_wp2_with (first
     | (refine oW (some 53) Try.func120 S (yw HR1.out KQ.out (yl ⟨ck, ⟨cx, cy, cw, ch⟩, aV, l⟩ HZ1.out id 2 0 2147483647 false DZ.out _ A cc _ (fC (S.out.tree _ dG)))) ?_; clear S; intro Fe c53 fH S; clear bf bg bu bz dD dE cZ)
     | (refine boxS 11 _ 26 S ?_; clear S; intro b11 ik S)
     | (refine jg 26 11 54 #[.int .u8 z1.f0, .int .i64 z1.f1.f0, .int .i64 z1.f1.f1, .int .i64 z1.f1.f2, .int .i64 z1.f1.f3, .int .i64 z1.f2, .slice Fe z1.f3.length c53] 0 7 S ?_; clear S; intro iq S; obtain ⟨bf, bg, bu, bz, dD, dE, cZ⟩ := St.eX S dX)
     | (refine dW 58 rfl ?_; refine xH (N := 58) rfl rfl 2 S.out ?hr ?_; (case hr => first | (go_simp; done) | (go_simp; rfl)); intro Ab cb1 nI S1 h1; replace S := ae.mk S1; have Bo := ae.mk h1; clear S1 h1; clear bf bg bu bz dD dE cZ)
     | (refine bQ (some 59) Try.func123 S (o6 KN.out (ru id [2] ⟨ck, ⟨cx, cy, cw, ch⟩, aV, l⟩ HZ.out _ _ _ Ab cb1 _ (fC (S.out.tree _ dX)) Bo.out)) ?_; clear S; intro oH S; obtain ⟨bf, bg, bu, bz, dD, dE, cZ⟩ := St.eX S dX)
     | (refine bQ (some 63) Try.func123 S (o6 Fq.out (ru id bK ⟨ck, ⟨cx, cy, cw, ch⟩, aV, l⟩ HZ.out _ _ _ _ _ _ (fC (S.out.tree _ dX)) (Kd.dL HA.out S.out.below))) ?_; clear S; intro uo S; clear bf bg bu bz dD dE cZ)
     | (refine dW 86 rfl ?_; (refine di (by rfl) ?_; dsimp only); refine bQ (some 86) Try.func106 S (rq) ?_; clear S; intro wV S)
     | fail)
    go_ret
    exact ⟨rfl, S.out.below⟩
   ·skip
    subst hcd
    have hn0 := he
    have acx : (e1 != 0) = true := bne_iff_ne.mpr hn0
    have acy : (e1 == 0) = false := beq_eq_false_iff_ne.mpr hn0
    have acz : decide (e1 = 0) = false := decide_eq_false hn0
    clear hn0
    clear he
    obtain ⟨bf, bg, bu, bz, dD, dE, cZ⟩ := St.eX S dG
    go_wp2_with (first
     | (refine oW (some 53) Try.func120 S (yw HR1.out KQ.out (yl ⟨ck, ⟨cx, cy, cw, ch⟩, aV, l⟩ HZ1.out id 2 0 2147483647 false DZ.out _ A cc _ (fC (S.out.tree _ dG)))) ?_; clear S; intro Fe c53 fH S; clear bf bg bu bz dD dE cZ)
     | (refine boxS 11 _ 26 S ?_; clear S; intro b11 ik S)
     | (refine jg 26 11 54 #[.int .u8 z1.f0, .int .i64 z1.f1.f0, .int .i64 z1.f1.f1, .int .i64 z1.f1.f2, .int .i64 z1.f1.f3, .int .i64 z1.f2, .slice Fe z1.f3.length c53] 0 7 S ?_; clear S; intro iq S; obtain ⟨bf, bg, bu, bz, dD, dE, cZ⟩ := St.eX S dX)
     | (refine dW 58 rfl ?_; refine xH (N := 58) rfl rfl 2 S.out ?hr ?_; (case hr => first | (go_simp; done) | (go_simp; rfl)); intro Ab cb1 nI S1 h1; replace S := ae.mk S1; have Bo := ae.mk h1; clear S1 h1; clear bf bg bu bz dD dE cZ)
     | (refine bQ (some 59) Try.func123 S (o6 KN.out (ru id [2] ⟨ck, ⟨cx, cy, cw, ch⟩, aV, l⟩ HZ.out _ _ _ Ab cb1 _ (fC (S.out.tree _ dX)) Bo.out)) ?_; clear S; intro oH S; obtain ⟨bf, bg, bu, bz, dD, dE, cZ⟩ := St.eX S dX)
     | (refine bQ (some 63) Try.func123 S (o6 Fq.out (ru id bK ⟨ck, ⟨cx, cy, cw, ch⟩, aV, l⟩ HZ.out _ _ _ _ _ _ (fC (S.out.tree _ dX)) (Kd.dL HA.out S.out.below))) ?_; clear S; intro uo S; clear bf bg bu bz dD dE cZ)
     | (refine dW 86 rfl ?_; (refine di (by rfl) ?_; dsimp only); refine bQ (some 86) Try.func106 S (rq) ?_; clear S; intro wV S)
     | fail)
    go_ret
    exact ⟨rfl, S.out.below⟩
def jZ.f (a0 a1 a2 a3 a4 a5 : Int) (l : List ai) (_ : Int) (_ : List Int) : Option Bool := if sz ⟨a0, ⟨a1, a2, a3, a4⟩, a5, l⟩ ≤ 1048576 then some true else none
theorem J4 (c : ai) (id : Int) (bK : List Int) (A : Option Addr) (cc : Nat) (B : Option Addr) (cb : Nat) (w : World) (hr : Kd.C k26 w A c.f3.length c.f3) (hc : c.f3.length ≤ cc) (hi : Kd.C (Kd.int .u8) w B bK.length bK) (hb : bK.length ≤ cb) (hz : sz c ≤ 1048576) :
  Calls Try.prog 33 #[.agg #[.int .u8 c.f0, .int .i64 c.f1.f0, .int .i64 c.f1.f1, .int .i64 c.f1.f2, .int .i64 c.f1.f3, .int .i64 c.f2, .slice A c.f3.length cc], .int .i64 id, .slice B bK.length cb] w fun e w' => e = .returned (.bool true) ∧ Below w.heap.size w w' := by
 obtain ⟨g, eg, hg⟩ := VS c hz
 cases g with
 | true => exact UL c id bK A cc B cb w hr hc hi hb hz eg.rounds
 | false =>
  by_cases h3 : 10 < bK.length
  ·exact Wy c id bK A cc B cb w hr hc hi hb hz eg.rounds h3
  ·cases hf : dI id c with
   | none => exact WA c id bK A cc B cb w hr hc hi hb hz eg.rounds h3 (hg rfl) hf
   | some p =>
    obtain ⟨leaf, hl, _⟩ := (xG id _).1 c (Nat.le_refl _) p hf
    cases ht : bW c with
    | false => exact ZI c id bK A cc B cb w hr hc hi hb hz eg.rounds h3 (hg rfl) p leaf hf hl ht
    | true => exact ac6 c id bK A cc B cb w hr hc hi hb hz eg.rounds h3 (hg rfl) p leaf hf hl ht
theorem jZ.calls (az aN aH aK dm dn : Int) (eY : Option Addr) (fA : Nat) (aT : List ai) (a1 : Int) (A2 : Option Addr) (c2 : Nat) (l2 : List Int) (r : Bool) (w : World) (tC : Kd.C k26 w eY aT.length aT) (uF : aT.length ≤ fA) (hr2 : Kd.C (Kd.int .u8) w A2 l2.length l2) (hc2 : l2.length ≤ c2) (h : jZ.f az aN aH aK dm dn aT a1 l2 = some r) :
  Calls Try.prog 33 #[.agg #[.int .u8 az, .int .i64 aN, .int .i64 aH, .int .i64 aK, .int .i64 dm, .int .i64 dn, .slice eY aT.length fA], .int .i64 a1, .slice A2 l2.length c2] w fun e w' => e = .returned (.bool r) ∧ Below w.heap.size w w' := by
 unfold jZ.f at h
 split at h
 ·rename_i hz
  injection h with h
  subst h
  exact J4 ⟨az, ⟨aN, aH, aK, dm⟩, dn, aT⟩ a1 l2 eY fA A2 c2 w tC uF hr2 hc2 hz
 ·exact absurd h (by simp)
end Go.Proofs.Ytfdmfgaiblfbhaa.P
namespace Go.Proofs.Ytfdmfgaiblfbhaa.Pure
open Go.RowKit Go.Proofs.Ytfdmfgaiblfbhaa.P Go.Proofs.ag.aA Go.Proofs.ag.a_ Go.Proofs.ag.bG
theorem SplitCan : ∀ (a0 : ai) (a1 : Int) (a2 : List Int), adC a0 → sz a0 ≤ 1048576 → I64 a1 → a2.length ≤ 1048576 → (∀ x, x ∈ a2 → U8 x) → jZ.f a0.f0 a0.f1.f0 a0.f1.f1 a0.f1.f2 a0.f1.f3 a0.f2 a0.f3 a1 a2 = some true := by
 intro c id bK _ hz _ _ _
 unfold jZ.f
 rw [Kv, if_pos hz]
end Go.Proofs.Ytfdmfgaiblfbhaa.Pure
namespace Go.Proofs.Ytfdmfgaiblfbhaa.P
open Go.RowKit
def JE : List Char := [104, 97, 114, 110, 101, 115, 115, 32, 57, 48, 98, 52, 50, 100, 98, 100, 99, 50, 52, 54, 55, 51, 50, 51, 56, 57, 50, 48, 100, 50, 50, 98, 56, 57, 53, 102, 48, 48, 55, 48, 53, 101, 102, 48, 53, 53, 102, 54, 54, 55, 97, 57, 54, 56, 100, 50, 56, 97, 57, 52, 55, 52, 56, 57, 49, 49, 48, 97, 48, 101, 53, 55, 32, 99, 117, 116, 32, 97, 116, 32, 115, 97, 115, 104, 47, 115, 97, 115, 104, 108, 97, 119, 48, 55, 46, 70, 108, 97, 116, 78, 101, 120, 116, 115, 32, 115, 97, 115, 104, 47, 115, 97, 115, 104, 108, 97, 119, 48, 55, 46, 70, 108, 97, 116, 76, 105, 115, 116, 115, 32, 115, 97, 115, 104, 47, 115, 97, 115, 104, 108, 97, 119, 48, 52, 46, 82, 101, 99, 116, 67, 117, 116, 115, 32, 115, 97, 115, 104, 47, 115, 97, 115, 104, 108, 97, 119, 48, 57, 46, 65, 100, 106, 117, 115, 116, 83, 104, 97, 114, 101, 115, 32, 115, 97, 115, 104, 47, 115, 97, 115, 104, 108, 97, 119, 48, 57, 46, 65, 100, 106, 117, 115, 116, 69, 118, 101, 110, 115, 32, 115, 97, 115, 104, 47, 115, 97, 115, 104, 108, 97, 119, 49, 54, 46, 83, 112, 114, 101, 97, 100, 83, 105, 122, 101, 115, 32, 115, 97, 115, 104, 47, 115, 97, 115, 104, 108, 97, 119, 48, 55, 46, 70, 108, 97, 116, 67, 104, 97, 110, 103, 101, 115, 32, 115, 97, 115, 104, 47, 115, 97, 115, 104, 108, 97, 119, 48, 52, 46, 82, 101, 99, 116, 73, 110, 115, 105, 100, 101, 32, 115, 97, 115, 104, 47, 115, 97, 115, 104, 108, 97, 119, 48, 55, 46, 70, 108, 97, 116, 78, 97, 109, 101, 115, 32, 115, 97, 115, 104, 47, 115, 97, 115, 104, 108, 97, 119, 48, 57, 46, 65, 100, 106, 117, 115, 116, 83, 101, 116, 115, 32, 115, 97, 115, 104, 47, 115, 97, 115, 104, 108, 97, 119, 48, 52, 46, 82, 101, 99, 116, 77, 101, 101, 116, 115, 32, 115, 97, 115, 104, 47, 115, 97, 115, 104, 108, 97, 119, 48, 52, 46, 82, 101, 99, 116, 77, 97, 121, 115, 32, 115, 97, 115, 104, 47, 115, 97, 115, 104, 108, 97, 119, 48, 55, 46, 70, 108, 97, 116, 83, 116, 105, 108, 108, 32, 115, 97, 115, 104, 47, 115, 97, 115, 104, 108, 97, 119, 48, 53, 46, 67, 101, 108, 108, 77, 97, 121, 115, 32, 115, 97, 115, 104, 47, 115, 97, 115, 104, 108, 97, 119, 48, 53, 46, 67, 101, 108, 108, 83, 97, 109, 101, 32, 115, 97, 115, 104, 47, 115, 97, 115, 104, 108, 97, 119, 48, 53, 46, 67, 101, 108, 108, 67, 111, 117, 110, 116, 115, 32, 115, 97, 115, 104, 47, 115, 97, 115, 104, 108, 97, 119, 48, 56, 46, 76, 101, 97, 115, 116, 83, 117, 109, 115, 32, 115, 97, 115, 104, 47, 115, 97, 115, 104, 108, 97, 119, 48, 53, 46, 67, 101, 108, 108, 70, 105, 110, 100, 115, 32, 115, 97, 115, 104, 47, 115, 97, 115, 104, 108, 97, 119, 48, 56, 46, 76, 101, 97, 115, 116, 73, 115, 32, 115, 97, 115, 104, 47, 115, 97, 115, 104, 108, 97, 119, 48, 56, 46, 76, 101, 97, 115, 116, 70, 105, 116, 115, 32, 115, 97, 115, 104, 47, 115, 97, 115, 104, 108, 97, 119, 48, 56, 46, 76, 101, 97, 115, 116, 80, 97, 116, 104, 115, 32, 115, 97, 115, 104, 47, 115, 97, 115, 104, 108, 97, 119, 48, 53, 46, 67, 101, 108, 108, 80, 117, 116, 115, 32, 115, 97, 115, 104, 47, 115, 97, 115, 104, 108, 97, 119, 49, 50, 46, 83, 112, 108, 105, 116, 83, 105, 122, 101, 115, 32, 115, 97, 115, 104, 47, 115, 97, 115, 104, 108, 97, 119, 49, 54, 46, 83, 112, 114, 101, 97, 100, 65, 108, 108, 32, 115, 97, 115, 104, 47, 115, 97, 115, 104, 108, 97, 119, 49, 54, 46, 83, 112, 114, 101, 97, 100, 65, 116, 32, 115, 97, 115, 104, 47, 115, 97, 115, 104, 108, 97, 119, 49, 52, 46, 80, 117, 115, 104, 73, 115, 32, 115, 97, 115, 104, 47, 115, 97, 115, 104, 108, 97, 119, 49, 52, 46, 80, 117, 115, 104, 79, 110, 101, 32, 115, 97, 115, 104, 47, 115, 97, 115, 104, 108, 97, 119, 49, 52, 46, 80, 117, 115, 104, 70, 114, 97, 109, 101, 115, 32, 115, 97, 115, 104, 47, 115, 97, 115, 104, 108, 97, 119, 49, 52, 46, 80, 117, 115, 104, 67, 97, 110, 32, 115, 97, 115, 104, 47, 115, 97, 115, 104, 108, 97, 119, 49, 50, 46, 83, 112, 108, 105, 116, 73, 115, 32, 115, 97, 115, 104, 47, 115, 97, 115, 104, 108, 97, 119, 49, 50, 46, 83, 112, 108, 105, 116, 67, 97, 110].map Char.ofNat
def JF : List (List Char) := [[104, 97, 114, 110, 101, 115, 115].map Char.ofNat,
 [57, 48, 98, 52, 50, 100, 98, 100, 99, 50, 52, 54, 55, 51, 50, 51, 56, 57, 50, 48, 100, 50, 50, 98, 56, 57, 53, 102, 48, 48, 55, 48, 53, 101, 102, 48, 53, 53, 102, 54, 54, 55, 97, 57, 54, 56, 100, 50, 56, 97, 57, 52, 55, 52, 56, 57, 49, 49, 48, 97, 48, 101, 53, 55].map Char.ofNat,
 [99, 117, 116].map Char.ofNat,
 [97, 116].map Char.ofNat,
 [115, 97, 115, 104, 47, 115, 97, 115, 104, 108, 97, 119, 48, 55, 46, 70, 108, 97, 116, 78, 101, 120, 116, 115].map Char.ofNat,
 [115, 97, 115, 104, 47, 115, 97, 115, 104, 108, 97, 119, 48, 55, 46, 70, 108, 97, 116, 76, 105, 115, 116, 115].map Char.ofNat,
 [115, 97, 115, 104, 47, 115, 97, 115, 104, 108, 97, 119, 48, 52, 46, 82, 101, 99, 116, 67, 117, 116, 115].map Char.ofNat,
 [115, 97, 115, 104, 47, 115, 97, 115, 104, 108, 97, 119, 48, 57, 46, 65, 100, 106, 117, 115, 116, 83, 104, 97, 114, 101, 115].map Char.ofNat,
 [115, 97, 115, 104, 47, 115, 97, 115, 104, 108, 97, 119, 48, 57, 46, 65, 100, 106, 117, 115, 116, 69, 118, 101, 110, 115].map Char.ofNat,
 [115, 97, 115, 104, 47, 115, 97, 115, 104, 108, 97, 119, 49, 54, 46, 83, 112, 114, 101, 97, 100, 83, 105, 122, 101, 115].map Char.ofNat,
 [115, 97, 115, 104, 47, 115, 97, 115, 104, 108, 97, 119, 48, 55, 46, 70, 108, 97, 116, 67, 104, 97, 110, 103, 101, 115].map Char.ofNat,
 [115, 97, 115, 104, 47, 115, 97, 115, 104, 108, 97, 119, 48, 52, 46, 82, 101, 99, 116, 73, 110, 115, 105, 100, 101].map Char.ofNat,
 [115, 97, 115, 104, 47, 115, 97, 115, 104, 108, 97, 119, 48, 55, 46, 70, 108, 97, 116, 78, 97, 109, 101, 115].map Char.ofNat,
 [115, 97, 115, 104, 47, 115, 97, 115, 104, 108, 97, 119, 48, 57, 46, 65, 100, 106, 117, 115, 116, 83, 101, 116, 115].map Char.ofNat,
 [115, 97, 115, 104, 47, 115, 97, 115, 104, 108, 97, 119, 48, 52, 46, 82, 101, 99, 116, 77, 101, 101, 116, 115].map Char.ofNat,
 [115, 97, 115, 104, 47, 115, 97, 115, 104, 108, 97, 119, 48, 52, 46, 82, 101, 99, 116, 77, 97, 121, 115].map Char.ofNat,
 [115, 97, 115, 104, 47, 115, 97, 115, 104, 108, 97, 119, 48, 55, 46, 70, 108, 97, 116, 83, 116, 105, 108, 108].map Char.ofNat,
 [115, 97, 115, 104, 47, 115, 97, 115, 104, 108, 97, 119, 48, 53, 46, 67, 101, 108, 108, 77, 97, 121, 115].map Char.ofNat,
 [115, 97, 115, 104, 47, 115, 97, 115, 104, 108, 97, 119, 48, 53, 46, 67, 101, 108, 108, 83, 97, 109, 101].map Char.ofNat,
 [115, 97, 115, 104, 47, 115, 97, 115, 104, 108, 97, 119, 48, 53, 46, 67, 101, 108, 108, 67, 111, 117, 110, 116, 115].map Char.ofNat,
 [115, 97, 115, 104, 47, 115, 97, 115, 104, 108, 97, 119, 48, 56, 46, 76, 101, 97, 115, 116, 83, 117, 109, 115].map Char.ofNat,
 [115, 97, 115, 104, 47, 115, 97, 115, 104, 108, 97, 119, 48, 53, 46, 67, 101, 108, 108, 70, 105, 110, 100, 115].map Char.ofNat,
 [115, 97, 115, 104, 47, 115, 97, 115, 104, 108, 97, 119, 48, 56, 46, 76, 101, 97, 115, 116, 73, 115].map Char.ofNat,
 [115, 97, 115, 104, 47, 115, 97, 115, 104, 108, 97, 119, 48, 56, 46, 76, 101, 97, 115, 116, 70, 105, 116, 115].map Char.ofNat,
 [115, 97, 115, 104, 47, 115, 97, 115, 104, 108, 97, 119, 48, 56, 46, 76, 101, 97, 115, 116, 80, 97, 116, 104, 115].map Char.ofNat,
 [115, 97, 115, 104, 47, 115, 97, 115, 104, 108, 97, 119, 48, 53, 46, 67, 101, 108, 108, 80, 117, 116, 115].map Char.ofNat,
 [115, 97, 115, 104, 47, 115, 97, 115, 104, 108, 97, 119, 49, 50, 46, 83, 112, 108, 105, 116, 83, 105, 122, 101, 115].map Char.ofNat,
 [115, 97, 115, 104, 47, 115, 97, 115, 104, 108, 97, 119, 49, 54, 46, 83, 112, 114, 101, 97, 100, 65, 108, 108].map Char.ofNat,
 [115, 97, 115, 104, 47, 115, 97, 115, 104, 108, 97, 119, 49, 54, 46, 83, 112, 114, 101, 97, 100, 65, 116].map Char.ofNat,
 [115, 97, 115, 104, 47, 115, 97, 115, 104, 108, 97, 119, 49, 52, 46, 80, 117, 115, 104, 73, 115].map Char.ofNat,
 [115, 97, 115, 104, 47, 115, 97, 115, 104, 108, 97, 119, 49, 52, 46, 80, 117, 115, 104, 79, 110, 101].map Char.ofNat,
 [115, 97, 115, 104, 47, 115, 97, 115, 104, 108, 97, 119, 49, 52, 46, 80, 117, 115, 104, 70, 114, 97, 109, 101, 115].map Char.ofNat,
 [115, 97, 115, 104, 47, 115, 97, 115, 104, 108, 97, 119, 49, 52, 46, 80, 117, 115, 104, 67, 97, 110].map Char.ofNat,
 [115, 97, 115, 104, 47, 115, 97, 115, 104, 108, 97, 119, 49, 50, 46, 83, 112, 108, 105, 116, 73, 115].map Char.ofNat,
 [115, 97, 115, 104, 47, 115, 97, 115, 104, 108, 97, 119, 49, 50, 46, 83, 112, 108, 105, 116, 67, 97, 110].map Char.ofNat]
theorem TW : Try.prog.initOrder.toList = JE := by
 have e : Try.prog.initOrder = String.ofList JE := by kernel_rfl
 rw [e, String.toList_ofList]
theorem QL : wordsSigns Try.prog.initOrder.toList = JF := by
 rw [TW]
 kernel_rfl
def uV : List (List Char) := JF.drop 3
theorem Om : behindMainWord (wordsSigns Try.prog.initOrder.toList) = ([99, 117, 116].map Char.ofNat) :: uV := by
 rw [QL]
 kernel_rfl
theorem abL : ([99, 117, 116].map Char.ofNat : List Char) = "cut".toList := by decide +kernel
theorem xW : behindMainWord (wordsSigns Try.prog.initOrder.toList) = "cut".toList :: uV := Om.trans (congrArg (fun c => c :: uV) abL)
theorem Ho (rest : List (List Char)) : stripLifts liftWords ("cut".toList :: rest) = ([], "cut".toList :: rest) := by
 have key : ∀ (l : List String), (l.all fun o => !("cut".toList == o.toList)) = true → stripLifts l ("cut".toList :: rest) = ([], "cut".toList :: rest) := by
  intro l
  induction l with
  | nil => intro _; rfl
  | cons o l ih =>
   intro h
   simp only [List.all_cons, Bool.and_eq_true] at h
   unfold stripLifts
   rw [if_neg (by simpa using h.1)]
   exact ih h.2
 exact key _ (by decide +kernel)
theorem ZB (P : Program) (rest : List (List Char)) (h : behindMainWord (wordsSigns P.initOrder.toList) = "cut".toList :: rest) : P.make = some .cut := by
 unfold Program.make
 rw [h]
 simp only
 have h1 : ("cut".toList == "gc".toList) = false := by decide +kernel
 have h2 : ("cut".toList == "spec".toList) = false := by decide +kernel
 rw [h1, h2, if_neg (by simp), if_pos (by simp)]
theorem V_ (P : Program) (rest : List (List Char)) (h : behindMainWord (wordsSigns P.initOrder.toList) = "cut".toList :: rest) : P.headLifts = [] := by
 unfold Program.headLifts
 simp only [h, Ho]
 simp
theorem VR (P : Program) (rest : List (List Char)) (h : behindMainWord (wordsSigns P.initOrder.toList) = "cut".toList :: rest) : P.liftsFinal = false := by
 have h1 : (some "cut".toList == some "carried".toList) = false := by decide +kernel
 unfold Program.liftsFinal
 simp only [h, V_ P rest h, List.head?_cons, h1, Bool.false_and, List.contains_nil, Bool.or_false]
theorem VO (P : Program) (rest : List (List Char)) (h : behindMainWord (wordsSigns P.initOrder.toList) = "cut".toList :: rest) (h1 : P.laysLater = false) (h2 : P.bearsReflect = false) (h3 : P.doorFits [] = true) : P.mayEnter = true := by
 unfold Program.mayEnter
 rw [h]
 simp only [Ho]
 rw [h1, h2, h3]
 simp
theorem TY : Try.prog.make = some .cut := ZB Try.prog uV xW
theorem QI : Try.prog.liftsFinal = false := VR Try.prog uV xW
theorem QK : Try.prog.laysLater = false := by kernel_rfl
theorem Nb : Try.prog.bearsReflect = false := by kernel_rfl
theorem TU : Try.prog.doorFits [] = true := by kernel_rfl
theorem QH : Try.prog.mayEnter = true := VO Try.prog uV xW QK Nb TU
theorem TV : (true == Try.prog.plainKeys) = true := by kernel_rfl
theorem QJ : Try.prog.stopsHeard = true := by kernel_rfl
theorem Uo {P : Program} {f : FuncId} {fn : Func} {s : ChangeSpec} {c : OpenClaim}
  (h0 : (c.wf (OpenSpec.ofChange s)) = true)
  (h1 : (laidOutB P) = true)
  (h2 : (mapsRowed P) = true)
  (h3 : (fn.params.all (P.readableRec ·)) = true)
  (h4 : (namedTie P c.named s.vars) = true)
  (h5 : ((c.stops == [])) = true)
  (h6 : ((P.stops == [])) = true)
  (h7 : ((c.knobs == [])) = true)
  (h8 : ((P.stopKnobs == [])) = true)
  (h9 : ((c.inPlace == P.inPlace f)) = true)
  (h10 : ((c.unfollowed == P.unfollowed f)) = true)
  (h11 : ((c.recurses == P.recurses f)) = true)
  (h12 : ((c.named == P.varsNamed f)) = true)
  (h13 : ((c.maps == (fn.params.toList ++ s.plain.varTypes P).any (P.mapsRec ·))) = true)
  (h14 : ((c.ifaces == (fn.params.toList ++ s.plain.varTypes P).any (P.ifacesRec ·))) = true)
  (h15 : ((c.mapsOut == P.mapsAmong fn.resultTypes.toList)) = true)
  (h16 : ((c.loops == (fn.params.toList ++ s.plain.varTypes P).any (P.loopsFrom ·))) = true)
  (h17 : ((c.wideKeys == (fn.params.toList ++ s.plain.varTypes P ++ fn.resultTypes.toList).any (P.wideKeysFrom ·))) = true)
  (h18 : (s.vars.all (P.varReadable ·)) = true)
  (h19 : (fn.resultTypes.all (fun t => P.readableRec t && decide (t < P.types.size))) = true)
  (h20 : ((c.ifacesOut == fn.resultTypes.toList.any (P.ifacesRec ·))) = true)
  (h21 : ((c.loopsOut == fn.resultTypes.toList.any (P.loopsFrom ·))) = true)
  (h22 : ((c.plainKeys == P.plainKeys)) = true)
  (h23 : (c.shortTexts.isNone) = true)
  (h24 : (P.stopsHeard) = true)
  (h25 : (P.mayEnter) = true)
  (h26 : ((c.lifted == P.liftsFinal)) = true)
  (h27 : ((P.make == some c.make)) = true)
  (hd : c.domain.isEmpty = true) (hk : c.kinds = [])
  (h29 : ((c.pinned == c.pinnedBy)) = true)
  (h30 : ((c.veiled == (fn.params.toList ++ s.plain.varTypes P ++ fn.resultTypes.toList).any (P.veiledRec ·))) = true)
  (h31 : (c.veiledFits P fn.params.toList (fn.params.toList ++ s.plain.varTypes P ++ fn.resultTypes.toList)) = true)
  : joinedFacts P f fn s c = true := by
 unfold joinedFacts
 rw [h0, h1, h2, h3, h4, h5, h6, h7, h8, h9, h10, h11, h12, h13, h14, h15, h16, h17, h18, h19, h20, h21, h22, h23, h24, h25, h26, h27, if_pos hd, hk, h29, h30, h31]
 rfl
end Go.Proofs.Ytfdmfgaiblfbhaa.P
namespace Go.Proofs.Ytfdmfgaiblfbhaa.P
open Go.RowKit Go.Proofs.ag.aA Go.Proofs.ag.a_ Go.Proofs.ag.bG
open Go.ChangeShapes Go.WideShapes Go.ChangeAt Go.Joins Go.Deep
section
variable {H : Type} {enc : TypeId × Value → H} {P : Program} {w : World} {base : Nat} {spare : Nat → Bool} {held : Bool}
theorem LX (d : DataW H) : 1 ≤ Rows.uptoBulk d := by
 cases d with
 | lit l => cases l <;> simp [Rows.uptoBulk]
 | _ => simp [Rows.uptoBulk]
theorem VB (l : List (DataW H)) : l.length ≤ Rows.uptoBulkAll l := by
 induction l with
 | nil => simp
 | cons x xs ih =>
  have := LX x
  simp only [Rows.uptoBulkAll, List.length_cons]
  omega
theorem VC {α : Type} (m : α → Nat) : ∀ (l : List α) (es : List (DataW H)), l.length = es.length → (∀ (i : Nat) (p : α) (e : DataW H), l[i]? = some p → es[i]? = some e → m p ≤ Rows.uptoBulk e) → (l.map m).sum ≤ Rows.uptoBulkAll es := by
 intro l
 induction l with
 | nil => intro es _ _; simp
 | cons x xs ih =>
  intro es hl h
  cases es with
  | nil => simp at hl
  | cons e es =>
   have h0 := h 0 x e rfl rfl
   have h1 := ih es (by simpa using hl) (fun i p e hp he => h (i + 1) p e (by simpa using hp) (by simpa using he))
   simp only [List.map_cons, List.sum_cons, Rows.uptoBulkAll]
   omega
theorem J5 {t : TypeId} {f0 f1 f2 f3 : Field} {fuel : Nat} {cs : List Value} {x : DataW H × List MemPlace} (ht : P.underlying t = some (.struct #[f0, f1, f2, f3])) (h : DataW.trod enc P w base spare held fuel t cs = some x) :
  ∃ y0 y1 y2 y3 n, fuel = n + 1 ∧ x.1 = .agg [y0.1, y1.1, y2.1, y3.1] ∧ cs.length = P.cellsOf t ∧ DataW.trod enc P w base spare held n f0.type ((cs.drop f0.offset).take (P.cellsOf f0.type)) = some y0 ∧
   DataW.trod enc P w base spare held n f1.type ((cs.drop f1.offset).take (P.cellsOf f1.type)) = some y1 ∧ DataW.trod enc P w base spare held n f2.type ((cs.drop f2.offset).take (P.cellsOf f2.type)) = some y2 ∧
   DataW.trod enc P w base spare held n f3.type ((cs.drop f3.offset).take (P.cellsOf f3.type)) = some y3 := by
 obtain ⟨xs, n, hn, rfl, hl, hlen, hf⟩ := DataW.trod_struct ht h
 match xs, hlen with
 | [y0, y1, y2, y3], _ => exact ⟨y0, y1, y2, y3, n, hn, rfl, hl, by simpa using hf 0 f0 rfl, by simpa using hf 1 f1 rfl, by simpa using hf 2 f2 rfl, by simpa using hf 3 f3 rfl⟩
theorem JP {α : Type} {k : Kd α} {ok : α → Prop} (m : α → Nat) {t e : TypeId} {fuel : Nat} {cs : List Value} {x : DataW H × List MemPlace} (ht : P.underlying t = some (.slice e)) (hs : k.sz = P.cellsOf e)
  (hE : ∀ n, n < fuel → ∀ cs y, DataW.trod enc P w base spare held n e cs = some y → ∃ p, k.K w p cs ∧ ok p ∧ m p ≤ Rows.uptoBulk y.1) (h : DataW.trod enc P w base spare held fuel t cs = some x) :
  ∃ A c l, cs = [.slice A (l : List α).length c] ∧ l.length ≤ c ∧ k.C w A l.length l ∧ (∀ p, p ∈ l → ok p) ∧ (l.map m).sum < Rows.uptoBulk x.1 ∧ l.length < Rows.uptoBulk x.1 := by
 rcases DataW.trod_slice ht h with ⟨rfl, rfl⟩ | ⟨a, len, cap, elems, rest, n, hn, rfl, rfl, hb, hl, hm, hlen, hel, hsp, hns⟩
 ·exact ⟨none, 0, [], rfl, Nat.le_refl _, ⟨rfl, by simp, fun h => absurd h (by simp)⟩, (fun p hp => by cases hp), (by simp [Rows.uptoBulk]), (by simp [Rows.uptoBulk])⟩
 ·obtain ⟨l, hl2, hq⟩ := row_of (α := α) (Q := fun i p => ok p ∧ (∃ c, c.length = k.sz ∧ k.K w p c ∧ ∀ j u, c[j]? = some u → w.cell? (a.add (i * k.sz + j)) = some u) ∧ ∀ e, elems[i]? = some e → m p ≤ Rows.uptoBulk e.1) len (fun i hi => by
   have key := hel i hi
   rw [List.getElem?_eq_getElem (by omega)] at key
   obtain ⟨cs', h1, h2⟩ := Option.bind_eq_some_iff.1 key
   obtain ⟨p, hp, hok, hm⟩ := hE n (by omega) cs' _ h2
   obtain ⟨h3, h4⟩ := cells_at h1
   refine ⟨p, hok, ⟨cs', by rw [h3, hs], hp, fun j u hj => ?_⟩, fun e he => ?_⟩
   ·rw [hs, ← Deep.add_add]
    exact h4 j u hj
   ·rw [List.getElem?_eq_getElem (by omega)] at he
    cases he
    exact hm)
  subst hl2
  refine ⟨some a, cap, l, rfl, hl, ⟨rfl, by unfold maxLen at hm; omega, fun _ => ⟨a, rfl, fun j p hj => ?_⟩⟩, fun p hp => ?_, ?_, ?_⟩
  ·obtain ⟨_, ⟨c, h1, h2, h3⟩, _⟩ := hq j p hj
   exact ⟨c, h1, h2, h3⟩
  ·obtain ⟨i, hi, rfl⟩ := List.getElem_of_mem hp
   exact (hq i _ (List.getElem?_eq_getElem hi)).1
  ·have := VC m l (elems.map (·.1)) (by simp [hlen]) (fun i p e hp he => by
    rw [List.getElem?_map] at he
    obtain ⟨e', he', rfl⟩ := Option.map_eq_some_iff.1 he
    exact (hq i p hp).2.2 e' he')
   simp only [Rows.uptoBulk]
   omega
  ·have := VB (elems.map (·.1))
   simp only [List.length_map] at this
   simp only [Rows.uptoBulk]
   omega
end
section
variable {H : Type} {enc : TypeId × Value → H} {w : World} {base : Nat} {spare : Nat → Bool} {held : Bool}
theorem WG : ∀ (fuel : Nat) {cs : List Value} {x : DataW H × List MemPlace} (_ : DataW.trod enc Try.prog w base spare held fuel 26 cs = some x), ∃ r : ai, (Kd.upto OA 7 [26] fuel).K w r cs ∧ DW fuel r ∧ sz r ≤ Rows.uptoBulk x.1 := by
 intro fuel
 induction fuel using Nat.strongRecOn with
 | _ fuel ih =>
 intro cs x h
 cases fuel with
 | zero => simp [DataW.trod] at h
 | succ fuel =>
  obtain ⟨y0, y1, y2, y3, m, hm, hx, hl, h0, h1, h2, h3⟩ := J5 Try.underlying26 h
  obtain rfl : fuel = m := by omega
  rw [cells26] at hl
  match cs, hl with
  | [c0, c1, c2, c3, c4, c5, c6], _ =>
    simp only [cells3, cells5, cells23, cells24, List.drop_zero, List.take_succ_cons, List.take_zero, List.drop_succ_cons] at h0 h1 h2 h3
    obtain ⟨n0, e0, _, w0⟩ := DataW.trod_int Try.underlying5 h0
    obtain ⟨n2, e2, _, w2⟩ := DataW.trod_int Try.underlying3 h2
    simp only [List.cons.injEq, and_true] at e0 e2
    subst e0 e2
    obtain ⟨r, hr, hw⟩ := ada h1
    obtain e1 := EN hr
    simp only [List.cons.injEq, and_true] at e1
    obtain ⟨rfl, rfl, rfl, rfl⟩ := e1
    obtain ⟨A, c, l, e3, hlc, hC, hok, hsum, _⟩ := JP (k := Kd.upto OA 7 [26] fuel) (ok := DW fuel) sz Try.underlying24 (by rw [Ro, cells26]) (fun n hn cs y hy => by
     obtain ⟨p, hp, hok, hz⟩ := ih n (by omega) hy
     exact ⟨p, Kd.CW NI Ro (by omega) hp, Oi (by omega) hok, hz⟩) h3
    simp only [List.cons.injEq, and_true] at e3
    subst e3
    have aet : l.length ≤ 9223372036854775807 := hC.2.1
    refine ⟨⟨n0, r, n2, l⟩, ?_, ⟨XN w0, hw, zh w2, aet, hok⟩, ?_⟩
    ·exact ⟨[.int .u8 n0], [.int .i64 r.f0, .int .i64 r.f1, .int .i64 r.f2, .int .i64 r.f3, .int .i64 n2, .slice A l.length c], rfl, rfl, [.int .i64 r.f0, .int .i64 r.f1, .int .i64 r.f2, .int .i64 r.f3], [.int .i64 n2, .slice A l.length c], rfl, NC w r, [.int .i64 n2], [.slice A l.length c], rfl, rfl, A, c, rfl, hlc, hC⟩
    ·rw [hx, dB]
     have := Z5 l
     simp only [Rows.uptoBulk, Rows.uptoBulkAll]
     have h3 := LX y0.1
     omega
theorem ZO {fuel : Nat} {cs : List Value} {x : DataW H × List MemPlace} (h : DataW.trod enc Try.prog w base spare held fuel 26 cs = some x) : ∃ r : ai, k26.K w r cs ∧ adC r ∧ sz r ≤ Rows.uptoBulk x.1 := by
 obtain ⟨r, hr, hw, hz⟩ := WG fuel h
 exact ⟨r, ⟨fuel, hr⟩, ⟨fuel, hw⟩, hz⟩
end
end Go.Proofs.Ytfdmfgaiblfbhaa.P
namespace Go.Proofs.Ytfdmfgaiblfbhaa.CQ
open Go.ChangeShapes Go.WideShapes Go.ChangeAt Go.RowKit Go.Proofs.Ytfdmfgaiblfbhaa.P Go.Proofs.ag.aA
open Go.ChangeMaps (open_string shut_string)
theorem own : ownKnob Try.prog.godebug = none := by kernel_rfl
theorem laidOut : laidOutB Try.prog = true := by kernel_rfl
theorem lifted (os : Os) (started : os.Started) (H : Type) (enc : TypeId × Value → H) (F : Stop.Interp) :
  ReturnsInHanded {} Try.checked os 33 .any ((Rows.OpenSpec.upto Rows.splitCanSpec).pre6 enc Try.prog Try.f33 Rows.splitCanUptoRow.domain false) (((Rows.OpenSpec.upto Rows.splitCanSpec).at F).post enc Try.prog Try.f33 false true false false) := by
 refine returnsInHanded_of_cond (C := Try.checked) (s := Rows.OpenSpec.upto Rows.splitCanSpec) (k := Rows.uptoSmall) rfl own started (by kernel_rfl) Try.func33
  (OpenSpec.witness (enc := enc) (C := Try.checked) (s := Rows.OpenSpec.upto Rows.splitCanSpec) (k := Rows.uptoSmall) rfl false ⟨#[], #[.agg #[.int .u8 0, .int .i64 0, .int .i64 0, .int .i64 0, .int .i64 0, .int .i64 0, .slice none 0 0], .int .i64 0, .slice none 0 0], []⟩ 8 (by kernel_rfl) (by kernel_rfl) (by kernel_rfl)
   (x := ([.agg [.lit (.int .u8 0), .agg [.lit (.int .i64 0), .lit (.int .i64 0), .lit (.int .i64 0), .lit (.int .i64 0)], .lit (.int .i64 0), .nil], .lit (.int .i64 0), .nil], [], [])) (by kernel_rfl) rfl (by kernel_rfl)) ?_
 intro W base args ds gs before hval0 hW hcnd hk0 _
 have hval : ∀ (j : Nat) t v, Try.f33.params[j]? = some t → args[j]? = some v → Value.okWide Try.prog W .any base t v := hval0
 have hW' := hW
 obtain ⟨p, q, hA0, hV, rfl, hfz, hnd⟩ := hW
 have hA : DataW.TrodAll enc Try.prog W 0 (fun _ => true) true Try.f33.params.toList args.toList ds p := hA0
 rw [Try.params33] at hA hval
 obtain ⟨v0, vs0, d0, ds0, p0, q0, hargs, rfl, rfl, h0, r0⟩ := trodAll_cons hA
 obtain ⟨v1, vs1, d1, ds1, p1, q1, rfl, rfl, rfl, h1, r1⟩ := trodAll_cons r0
 obtain ⟨v2, vs2, d2, ds2, p2, q2, rfl, rfl, rfl, h2, r2⟩ := trodAll_cons r1
 obtain ⟨rfl, rfl, rfl⟩ := trodAll_nil r2
 obtain rfl : args = #[v0, v1, v2] := by cases args; simp_all
 obtain ⟨rfl, rfl⟩ := trodVars_none hV
 have hB := of_decide_eq_true hk0
 simp only [List.cons_append, List.nil_append, List.append_nil, Rows.uptoBulkAll] at hB
 have z0 : Rows.uptoBulk d0 ≤ 1048576 := by omega
 have z2 : Rows.uptoBulk d2 ≤ 1048576 := by omega
 have k0 := h0
 have lt0 : ∀ x ∈ p0, x.block < W.heap.size := by obtain ⟨m, hm⟩ := k0; exact DataW.trod_lt m _ _ _ hm
 obtain ⟨fuel0, hf0⟩ := h0
 obtain ⟨cs0, rfl, _⟩ := okWide_struct Try.underlying26 (hval 0 26 v0 rfl rfl)
 obtain ⟨a0, b0, w0, y0⟩ := ZO hf0
 obtain ⟨A0, c0, e0, hc0, hr0⟩ := Aj b0
 obtain rfl := aa_ e0
 obtain ⟨a1, rfl, rfl, rfl, w1⟩ := open_int Try.underlying3 (hval 1 3 v1 rfl rfl) h1
 have k2 := h2
 have lt2 : ∀ x ∈ p2, x.block < W.heap.size := by obtain ⟨m, hm⟩ := k2; exact DataW.trod_lt m _ _ _ hm
 obtain ⟨aj1, hf2⟩ := h2
 obtain ⟨A2, akl, cap2, rfl⟩ := okWide_slice Try.underlying113 (hval 2 113 v2 rfl rfl)
 obtain ⟨B2, c2, a2, e2, hc2, hr2, w2, s2, y2⟩ := JP (k := Kd.int .u8) (ok := U8) (fun _ => 0) Try.underlying113 (by kernel_rfl) (fun n _ cs y hy => by obtain ⟨x, rfl, _, hw⟩ := DataW.trod_int Try.underlying5 hy; exact ⟨x, rfl, XN hw, Nat.zero_le _⟩) hf2
 simp only [Value.cells, List.cons.injEq, Value.slice.injEq, and_true] at e2
 obtain ⟨rfl, rfl, rfl⟩ := e2
 have hP := Pure.SplitCan a0 a1 a2 w0 (Nat.le_trans y0 z0) (zh w1) (Nat.le_trans (Nat.le_of_lt y2) z2) w2
 refine (jZ.calls a0.f0 a0.f1.f0 a0.f1.f1 a0.f1.f2 a0.f1.f3 a0.f2 _ _ a0.f3 a1 _ _ a2 true W hr0 hc0 hr2 hc2 hP).mono fun e W' ⟨he, afZ⟩ => ?_
 have bel : Below W.heap.size W W' := afZ
 subst he
 exact ⟨_, rfl, _, _, _, [], _, [], hW', trodAll_mk1 (shut_bool Try.underlying4 _), (trodAll_cons_mk (Below.trod laidOut (by kernel_rfl) (of_decide_eq_true (by kernel_rfl)) k0 bel lt0) (trodAll_cons_mk (shut_int Try.underlying3 w1) (trodAll_cons_mk (Below.trod laidOut (by kernel_rfl) (of_decide_eq_true (by kernel_rfl)) k2 bel lt2) trodAll_mk0))), rfl, bel.frame _, fun h => by cases h⟩
theorem j0 : (Rows.splitCanUptoRow.wf (OpenSpec.ofChange (Rows.OpenSpec.upto Rows.splitCanSpec).bare)) = true := by kernel_rfl
theorem j1 : (laidOutB Try.prog) = true := by kernel_rfl
theorem j2 : (mapsRowed Try.prog) = true := by kernel_rfl
theorem j3 : (Try.f33.params.all (Try.prog.readableRec ·)) = true := by kernel_rfl
theorem j4 : (namedTie Try.prog Rows.splitCanUptoRow.named (Rows.OpenSpec.upto Rows.splitCanSpec).bare.vars) = true := by kernel_rfl
theorem j5 : ((Rows.splitCanUptoRow.stops == [])) = true := by kernel_rfl
theorem j6 : ((Try.prog.stops == [])) = true := by kernel_rfl
theorem j7 : ((Rows.splitCanUptoRow.knobs == [])) = true := by kernel_rfl
theorem j8 : ((Try.prog.stopKnobs == [])) = true := by kernel_rfl
theorem j9 : ((Rows.splitCanUptoRow.inPlace == Try.prog.inPlace 33)) = true := by kernel_rfl
theorem j10 : ((Rows.splitCanUptoRow.unfollowed == Try.prog.unfollowed 33)) = true := by kernel_rfl
theorem j11 : ((Rows.splitCanUptoRow.recurses == Try.prog.recurses 33)) = true := by kernel_rfl
theorem j12 : ((Rows.splitCanUptoRow.named == Try.prog.varsNamed 33)) = true := by kernel_rfl
theorem j13 : ((Rows.splitCanUptoRow.maps == (Try.f33.params.toList ++ (Rows.OpenSpec.upto Rows.splitCanSpec).bare.plain.varTypes Try.prog).any (Try.prog.mapsRec ·))) = true := by kernel_rfl
theorem j14 : ((Rows.splitCanUptoRow.ifaces == (Try.f33.params.toList ++ (Rows.OpenSpec.upto Rows.splitCanSpec).bare.plain.varTypes Try.prog).any (Try.prog.ifacesRec ·))) = true := by kernel_rfl
theorem j15 : ((Rows.splitCanUptoRow.mapsOut == Try.prog.mapsAmong Try.f33.resultTypes.toList)) = true := by kernel_rfl
theorem j16 : ((Rows.splitCanUptoRow.loops == (Try.f33.params.toList ++ (Rows.OpenSpec.upto Rows.splitCanSpec).bare.plain.varTypes Try.prog).any (Try.prog.loopsFrom ·))) = true := by kernel_rfl
theorem j17 : ((Rows.splitCanUptoRow.wideKeys == (Try.f33.params.toList ++ (Rows.OpenSpec.upto Rows.splitCanSpec).bare.plain.varTypes Try.prog ++ Try.f33.resultTypes.toList).any (Try.prog.wideKeysFrom ·))) = true := by kernel_rfl
theorem j18 : ((Rows.OpenSpec.upto Rows.splitCanSpec).bare.vars.all (Try.prog.varReadable ·)) = true := by kernel_rfl
theorem j19 : (Try.f33.resultTypes.all (fun t => Try.prog.readableRec t && decide (t < Try.prog.types.size))) = true := by kernel_rfl
theorem j20 : ((Rows.splitCanUptoRow.ifacesOut == Try.f33.resultTypes.toList.any (Try.prog.ifacesRec ·))) = true := by kernel_rfl
theorem j21 : ((Rows.splitCanUptoRow.loopsOut == Try.f33.resultTypes.toList.any (Try.prog.loopsFrom ·))) = true := by kernel_rfl
theorem j23 : (Rows.splitCanUptoRow.shortTexts.isNone) = true := by kernel_rfl
theorem j29 : ((Rows.splitCanUptoRow.pinned == Rows.splitCanUptoRow.pinnedBy)) = true := by kernel_rfl
theorem j30 : ((Rows.splitCanUptoRow.veiled == (Try.f33.params.toList ++ (Rows.OpenSpec.upto Rows.splitCanSpec).bare.plain.varTypes Try.prog ++ Try.f33.resultTypes.toList).any (Try.prog.veiledRec ·))) = true := by kernel_rfl
theorem j31 : (Rows.splitCanUptoRow.veiledFits Try.prog Try.f33.params.toList (Try.f33.params.toList ++ (Rows.OpenSpec.upto Rows.splitCanSpec).bare.plain.varTypes Try.prog ++ Try.f33.resultTypes.toList)) = true := by kernel_rfl
theorem closed : joinedFacts Try.prog 33 Try.f33 (Rows.OpenSpec.upto Rows.splitCanSpec).bare Rows.splitCanUptoRow = true := P.Uo j0 j1 j2 j3 j4 j5 j6 j7 j8 j9 j10 j11 j12 j13 j14 j15 j16 j17 j18 j19 j20 j21 P.TV j23 P.QJ P.QH (by rw [P.QI]; rfl) (by rw [P.TY]; rfl) rfl rfl j29 j30 j31
theorem over : Rows.splitCanUptoRow.holds Try.pinned (Rows.OpenSpec.upto Rows.splitCanSpec) :=
 OpenClaim.holds_of_cond 33 Try.f33 rfl rfl rfl rfl rfl rfl rfl ⟨rfl, rfl, rfl, rfl, rfl⟩ rfl rfl rfl rfl rfl (by kernel_rfl) Try.func33 closed
  (of_decide_eq_true (by kernel_rfl)) (by unfold Func.isWrapper; first | (rw [if_pos (by decide +kernel)]; kernel_rfl) | (rw [if_neg (by decide +kernel)]; exact ⟨rfl, rfl⟩))
  (fun os started H enc _ F => lifted os started H enc F)
theorem proved : Rows.SplitCanUptoSaid := over
#print axioms proved
end Go.Proofs.Ytfdmfgaiblfbhaa.CQ
namespace Go.Proofs.Ytfdmfgaiblfbhaa
theorem splitCanUpto_holds : Rows.SplitCanUptoSaid := CQ.proved
end Go.Proofs.Ytfdmfgaiblfbhaa
