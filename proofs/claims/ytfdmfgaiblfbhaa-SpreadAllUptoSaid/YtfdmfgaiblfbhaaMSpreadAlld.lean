/- SpreadAll: part 4 of 6 of this claim's texts, one behind the other, made small by a program: the words of the kit's printer cut down to those that are used, the claim's own names made short. -/
import Derived.Test.YtfdmfgaiblfbhaaMSpreadAllc
import Derived.WalkSpells
import Derived.Maps.OwnOps
import Derived.Maps.Views
set_option maxHeartbeats 8000000
set_option maxRecDepth 100000
set_option linter.unusedVariables false
set_option linter.unusedSimpArgs false
namespace Go.Proofs.Ytfdmfgaiblfbhaa.P
open Go.RowKit Go.Proofs.ag.aV Go.Proofs.ag.bM Go.Proofs.ag.di
def wF.T20 : Bool × List (List Nat × List Nat) := (true, [([], []), ([], []), ([1], [1]), ([], []), ([2, 3], [2, 3]), ([], []), ([5], [5]), ([], []), ([], []), ([7, 8], [7, 8]), ([9], [9]), ([], []), ([11], [11]), ([4, 6, 10, 12], [4, 6, 10, 12]), ([13], [13]), ([0, 14], [0, 14]), ([15, 15, 0, 1, 2, 3, 4, 5, 6, 7, 8, 9, 10, 11, 12, 13, 14, 15], [0, 15])])
def wF.B20 : List Nat := [0, 0, 2, 0, 14, 0, 32, 0, 0, 384, 896, 0, 2048, 8190, 16382, 32767, 65535]
theorem wF.ad7 : iP .any (opsOf Try.f46 20) = wF.T20 := by kernel_rfl
theorem wF.Z5 : iL wF.T20.2 wF.B20 = true := by kernel_rfl
def wG.T21 : Bool × List (List Nat × List Nat) := (true, [([], []), ([], []), ([1], [1]), ([], []), ([3], [3]), ([], []), ([4, 5], [4, 5]), ([], []), ([7], [7]), ([], []), ([], []), ([9, 10], [9, 10]), ([11], [11]), ([2, 6, 8, 12], [2, 6, 8, 12]), ([13], [13]), ([0, 14], [0, 14]), ([15, 15, 0, 1, 2, 3, 4, 5, 6, 7, 8, 9, 10, 11, 12, 13, 14, 15], [0, 15])])
def wG.B21 : List Nat := [0, 0, 2, 0, 8, 0, 56, 0, 128, 0, 0, 1536, 3584, 8190, 16382, 32767, 65535]
theorem wG.ad8 : iP .any (opsOf Try.f46 21) = wG.T21 := by kernel_rfl
theorem wG.Z7 : iL wG.T21.2 wG.B21 = true := by kernel_rfl
theorem piece1 (s t e n : Int) : mM 1 s t e n = ⟨s, t, n, e⟩ := rfl
theorem piece2 (s t e n : Int) : mM 2 s t e n = ⟨t, s, e, n⟩ := rfl
theorem ab2 (X Y Wd H ax : Int) (sizes : List Int) (hl : sizes.length ≤ 1000000) (B : Option Addr) (cb : Nat) (w : World) (hi : Kd.C (Kd.int .i64) w B sizes.length sizes) :
  Calls Try.prog 46 #[.agg #[.int .i64 X, .int .i64 Y, .int .i64 Wd, .int .i64 H], .int .u8 ax, .slice B sizes.length cb] w (IJ w (qJ X Y Wd H ax sizes)) := by
 have S := ae.mk (St.start (ts := []) (b0 := w.heap.size) (w := w) (P := fun _ => True) (fun _ h => by cases h))
 have HI := ae.mk hi
 have gy := ae.mk hl
 clear hi hl
 by_cases hm : qL X Y Wd H = true
 case neg =>
  have HQ := ae.mk (xC (X := X) (Y := Y) (W := Wd) (H := H) (ax := ax) (sizes := sizes) (.inr (.inl (Bool.eq_false_iff.mpr hm))))
  have vK := ae.mk (Bool.eq_false_iff.mpr hm)
  clear hm
  go_enter Try.func46, Try.ntmps46
  go_wp2_with (first
   | ((with_reducible refine az 3 rfl ?_); refine boxS 3 #[.int .i64 X, .int .i64 Y, .int .i64 Wd, .int .i64 H] 23 S ?_; clear S; intro b3 fF S)
   | ((with_reducible refine az 15 rfl ?_); refine mD k23 23 rfl 15 S ?_; clear S; intro An cn on iw S IQ; obtain ⟨bT, bU, bV, bW⟩ := St.at4 S (.tail _ (.head _)))
   | ((with_reducible refine az 17 rfl ?_); refine dN (some 17) Try.func57 S (BP vK.out) ?_; clear S; intro jT S; clear bT bU bV bW)
   | fail)
  go_ret3
  rw [HQ.out]
  exact ⟨_, _, _, _, .cells #[] 0 (0, 0), .cells #[] 0 (0, 0), rfl, (fun h => by cases h), S.out.below⟩
 have vK := ae.mk hm
 by_cases h1 : ax < 1
 case pos =>
  have HQ := ae.mk (xC (X := X) (Y := Y) (W := Wd) (H := H) (ax := ax) (sizes := sizes) (.inl (by omega)))
  have h1a : decide (ax < 1) = true := decide_eq_true (by omega)
  have h1b : decide (1 > ax) = true := decide_eq_true (by omega)
  clear hm h1
  go_enter Try.func46, Try.ntmps46
  go_wp2_with (first
   | ((with_reducible refine az 3 rfl ?_); refine boxS 3 #[.int .i64 X, .int .i64 Y, .int .i64 Wd, .int .i64 H] 23 S ?_; clear S; intro b3 fF S)
   | ((with_reducible refine az 15 rfl ?_); refine mD k23 23 rfl 15 S ?_; clear S; intro An cn on iw S IQ; obtain ⟨bT, bU, bV, bW⟩ := St.at4 S (.tail _ (.head _)))
   | ((with_reducible refine az 17 rfl ?_); refine dN (some 17) Try.func57 S (BP vK.out) ?_; clear S; intro jT S; clear bT bU bV bW)
   | fail)
  go_ret3
  rw [HQ.out]
  exact ⟨_, _, _, _, .cells #[] 0 (0, 0), .cells #[] 0 (0, 0), rfl, (fun h => by cases h), S.out.below⟩
 have h1a : decide (ax < 1) = false := decide_eq_false (by omega)
 have h1b : decide (1 > ax) = false := decide_eq_false (by omega)
 by_cases h2 : 2 < ax
 case pos =>
  have HQ := ae.mk (xC (X := X) (Y := Y) (W := Wd) (H := H) (ax := ax) (sizes := sizes) (.inl (by omega)))
  have h2a : decide (2 < ax) = true := decide_eq_true (by omega)
  have h2b : decide (ax > 2) = true := decide_eq_true (by omega)
  clear hm h1 h2
  go_enter Try.func46, Try.ntmps46
  go_wp2_with (first
   | ((with_reducible refine az 3 rfl ?_); refine boxS 3 #[.int .i64 X, .int .i64 Y, .int .i64 Wd, .int .i64 H] 23 S ?_; clear S; intro b3 fF S)
   | ((with_reducible refine az 15 rfl ?_); refine mD k23 23 rfl 15 S ?_; clear S; intro An cn on iw S IQ; obtain ⟨bT, bU, bV, bW⟩ := St.at4 S (.tail _ (.head _)))
   | ((with_reducible refine az 17 rfl ?_); refine dN (some 17) Try.func57 S (BP vK.out) ?_; clear S; intro jT S; clear bT bU bV bW)
   | fail)
  go_ret3
  rw [HQ.out]
  exact ⟨_, _, _, _, .cells #[] 0 (0, 0), .cells #[] 0 (0, 0), rfl, (fun h => by cases h), S.out.below⟩
 have h2a : decide (2 < ax) = false := decide_eq_false (by omega)
 have h2b : decide (ax > 2) = false := decide_eq_false (by omega)
 by_cases h0 : sizes.length = 0
 case pos =>
  have HQ := ae.mk (xC (X := X) (Y := Y) (W := Wd) (H := H) (ax := ax) (sizes := sizes) (.inr (.inr h0)))
  have P_ : ((sizes.length : Int) == 0) = true := beq_iff_eq.mpr (by omega)
  have Qa : ((sizes.length : Int) != 0) = false := bne_eq_false_iff_eq.mpr (by omega)
  have Qb : decide ((sizes.length : Int) = 0) = true := decide_eq_true (by omega)
  have Qc : (sizes.length == 0) = true := beq_iff_eq.mpr (by omega)
  have Qd : decide (sizes.length = 0) = true := decide_eq_true (by omega)
  clear hm h1 h2 h0
  go_enter Try.func46, Try.ntmps46
  go_wp2_with (first
   | ((with_reducible refine az 3 rfl ?_); refine boxS 3 #[.int .i64 X, .int .i64 Y, .int .i64 Wd, .int .i64 H] 23 S ?_; clear S; intro b3 fF S)
   | ((with_reducible refine az 15 rfl ?_); refine mD k23 23 rfl 15 S ?_; clear S; intro An cn on iw S IQ; obtain ⟨bT, bU, bV, bW⟩ := St.at4 S (.tail _ (.head _)))
   | ((with_reducible refine az 17 rfl ?_); refine dN (some 17) Try.func57 S (BP vK.out) ?_; clear S; intro jT S; clear bT bU bV bW)
   | fail)
  go_ret3
  rw [HQ.out]
  exact ⟨_, _, _, _, .cells #[] 0 (0, 0), .cells #[] 0 (0, 0), rfl, (fun h => by cases h), S.out.below⟩
 have hax : ax = 1 ∨ ax = 2 := by omega
 have tH := ae.mk hax
 obtain ⟨S0, hS0⟩ : ∃ s, s = tX ax X Y := ⟨_, rfl⟩
 obtain ⟨T0, hT0⟩ : ∃ s, s = tX ax Y X := ⟨_, rfl⟩
 obtain ⟨D, hD⟩ : ∃ s, s = tX ax Wd H := ⟨_, rfl⟩
 obtain ⟨E, hE⟩ : ∃ s, s = tX ax H Wd := ⟨_, rfl⟩
 have ZA := ae.mk (show ax = 1 → S0 = X ∧ T0 = Y ∧ D = Wd ∧ E = H from fun h => by subst h; exact ⟨hS0, hT0, hD, hE⟩)
 have HS2 := ae.mk (show ax = 2 → S0 = Y ∧ T0 = X ∧ D = H ∧ E = Wd from fun h => by subst h; exact ⟨hS0, hT0, hD, hE⟩)
 have hq := P5 hax hm h0
 rw [← hS0, ← hT0, ← hD, ← hE] at hq
 have hb := RY hax hm
 rw [← hS0, ← hD] at hb
 have HB := ae.mk hb
 rw [hq]
 have P_ : ((sizes.length : Int) == 0) = false := beq_eq_false_iff_ne.mpr (by omega)
 have Qa : ((sizes.length : Int) != 0) = true := bne_iff_ne.mpr (by omega)
 have Qb : decide ((sizes.length : Int) = 0) = false := decide_eq_false (by omega)
 have Qc : (sizes.length == 0) = false := beq_eq_false_iff_ne.mpr (by omega)
 have Qd : decide (sizes.length = 0) = false := decide_eq_false (by omega)
 obtain ⟨R, hR⟩ : ∃ R, R = oH ax S0 T0 D E 0 true [] [] sizes := ⟨_, rfl⟩
 rw [← hR]
 have HR := ae.mk hR
 clear hq hb hm h0 h1 h2 hax hS0 hT0 hD hE hR
 go_enter Try.func46, Try.ntmps46
 go_upto_if 37 with (first
  | ((with_reducible refine az 3 rfl ?_); refine boxS 3 #[.int .i64 X, .int .i64 Y, .int .i64 Wd, .int .i64 H] 23 S ?_; clear S; intro b3 fF S)
  | ((with_reducible refine az 15 rfl ?_); refine mD k23 23 rfl 15 S ?_; clear S; intro An cn on iw S IQ; obtain ⟨bT, bU, bV, bW⟩ := St.at4 S (.tail _ (.head _)))
  | ((with_reducible refine az 17 rfl ?_); refine dN (some 17) Try.func57 S (BP vK.out) ?_; clear S; intro jT S; clear bT bU bV bW; have bV := (S.out.at (.tail _ (.head _)) 2).trans rfl)
  | fail)
 clear bV
 (try simp only [Act.put, List.setIfInBounds_toArray, List.set_cons_zero, List.set_cons_succ])
 go_cut [10] (fun v10 wc => v10 = .int .i64 D ∧ ae (St w (fun _ => True) [((Value.slice An 0 cn).ownBlock, on), (some b3, .cells #[.int .i64 X, .int .i64 Y, .int .i64 Wd, .int .i64 H] 23 (0, 0))] [] [] [] wc))
 case first =>
  by_cases hx : ax = 2
  case pos =>
   have hd := (HS2.out hx).2.2.1
   have hxa : (ax == 2) = true := beq_iff_eq.mpr (by omega)
   have hxb : (ax != 2) = false := bne_eq_false_iff_eq.mpr (by omega)
   have hxd : decide (ax = 2) = true := decide_eq_true (by omega)
   have Zq := ae.mk hd
   clear hx hd
   have bW := (S.out.at (.tail _ (.head _)) 3).trans rfl
   go_wp2
   clear bW
   go_meet
   case rel => exact ⟨by rw [Zq.out], S⟩
  case neg =>
   have hd := (ZA.out (by have := tH.out; omega)).2.2.1
   have hxa : (ax == 2) = false := beq_eq_false_iff_ne.mpr (by omega)
   have hxb : (ax != 2) = true := bne_iff_ne.mpr (by omega)
   have hxd : decide (ax = 2) = false := decide_eq_false (by omega)
   have Zq := ae.mk hd
   clear hx hd
   go_wp2
   go_meet
   case rel => exact ⟨by rw [Zq.out], S⟩
 case rest =>
  clear S
  obtain ⟨rfl, S⟩ := hcut
  rename World => wx
  go_wp2_with (first
   | ((with_reducible refine az 40 rfl ?_); refine mD k23 23 rfl 40 S ?_; clear S; intro Ap cp op fF S iM)
   | ((with_reducible refine az 41 rfl ?_); refine mD k23 23 rfl 41 S ?_; clear S; intro Aq cq oq iw S mF)
   | fail)
  clear P_ Qa Qb Qc Qd h1a h1b h2a h2b
  go_loopg [11, 12, 13, 44] sizes.length (fun gg v11 v12 v13 v44 wr => ∃ (pre rest : List Int) (off : Int) (ps ls : List dE) (Ap : Option Addr) (cp : Nat) (op : Obj) (Aq : Option Addr) (cq : Nat) (oq : Obj), v11 = .slice Ap ps.length cp ∧ v12 = .slice Aq ls.length cq ∧ v13 = .int .i64 off ∧ v44 = .int .i64 (pre.length : Int) ∧ ae (pre ++ rest = sizes) ∧ rest.length ≤ gg ∧ ae (0 ≤ off ∧ off ≤ D ∧ ps.length ≤ pre.length ∧ ls.length ≤ pre.length) ∧ ae (oH ax S0 T0 D E off (pre.length == 0) ps ls rest = R) ∧ ae (KR k23 23 w.heap.size (.slice Ap ps.length cp) ps op) ∧ ae (KR k23 23 w.heap.size (.slice Aq ls.length cq) ls oq) ∧ ae (St w (fun _ => True) [((Value.slice Ap ps.length cp).ownBlock, op), ((Value.slice Aq ls.length cq).ownBlock, oq), ((Value.slice An 0 cn).ownBlock, on), (some b3, .cells #[.int .i64 X, .int .i64 Y, .int .i64 Wd, .int .i64 H] 23 (0, 0))] [] [] [] wr))
  case atStart => exact ⟨[], sizes, 0, [], [], _, _, _, _, _, _, rfl, rfl, rfl, rfl, ⟨rfl⟩, Nat.le_refl _, ⟨by have := HB.out; simp; omega⟩, ⟨HR.out.symm⟩, iM, mF, ⟨S.out.qp.qp.Hl.qp⟩⟩
  case round =>
   clear S HR iM mF
   obtain ⟨pre, rest, off, ps, ls, Ap, cp, op, Aq, cq, oq, rfl, rfl, rfl, rfl, HE, hgg, HO, HG, iM, mF, S⟩ := hrel
   cases rest with
   | nil =>
    have hE := HE.out
    rw [List.append_nil] at hE
    subst hE
    clear HE hgg
    have hlt : ¬ ((pre.length : Int) < (pre.length : Int)) := by omega
    have Pq := ae.mk (Js HG.out)
    by_cases hod : off = D
    case pos =>
     have hza : (off == D) = true := beq_iff_eq.mpr (by omega)
     have hzb : (off != D) = false := bne_eq_false_iff_eq.mpr (by omega)
     have hzd : decide (off = D) = true := decide_eq_true (by omega)
     have IV := ae.mk hod
     clear hod
     go_wp2
     go_ret3
     rw [Pq.out, if_pos IV.out]
     exact ⟨Ap, cp, Aq, cq, op, oq, rfl, fun _ => S.out.Rj iM.out mF.out, S.out.below⟩
    case neg =>
     have hza : (off == D) = false := beq_eq_false_iff_ne.mpr (by omega)
     have hzb : (off != D) = true := bne_iff_ne.mpr (by omega)
     have hzd : decide (off = D) = false := decide_eq_false (by omega)
     have IV := ae.mk hod
     clear hod
     go_wp2
     have HQ := ae.mk (Pq.out.trans (if_neg IV.out))
     go_ret3
     rw [HQ.out]
     exact ⟨_, _, _, _, .cells #[] 0 (0, 0), .cells #[] 0 (0, 0), rfl, (fun h => by cases h), S.out.below⟩
   | cons n ns =>
    have hlt : (pre.length : Int) < (sizes.length : Int) := by rw [← HE.out, List.length_append, List.length_cons]; omega
    have hw1 : wrap64 ((pre.length : Int) + 1) = ((pre ++ [n]).length : Int) := by have := gy.out; rw [List.length_append, List.length_singleton]; unfold wrap64; omega
    have HW1 := ae.mk hw1
    have jd := ae.mk hgg
    have Vp := ae.mk hlt
    have yh := ae.mk (show ps.length ≤ 1000000 ∧ ls.length ≤ 1000000 by have := HO.out; have := gy.out; omega)
    clear hgg hw1
    go_upto_if 48 with fail
    (try simp only [Act.put, List.setIfInBounds_toArray, List.set_cons_zero, List.set_cons_succ])
    go_cut [12, 13] (fun v12 v13 wc => ∃ (o' : Int) (ls' : List dE) (Aq : Option Addr) (cq : Nat) (oq : Obj), v12 = .slice Aq ls'.length cq ∧ v13 = .int .i64 o' ∧ ae (0 ≤ o' ∧ o' ≤ D + 1 ∧ ls'.length ≤ pre.length + 1) ∧ ae (yP ax S0 T0 D E o' ps ls' n ns = R) ∧ ae (KR k23 23 w.heap.size (.slice Aq ls'.length cq) ls' oq) ∧ ae (St w (fun _ => True) [((Value.slice Ap ps.length cp).ownBlock, op), ((Value.slice Aq ls'.length cq).ownBlock, oq), ((Value.slice An 0 cn).ownBlock, on), (some b3, .cells #[.int .i64 X, .int .i64 Y, .int .i64 Wd, .int .i64 H] 23 (0, 0))] [] [] [] wc))
    case first =>
     by_cases hp2 : pre.length = 0
     case pos =>
      have hp : (pre.length == 0) = true := beq_iff_eq.mpr hp2
      have hpa : decide (0 < (pre.length : Int)) = false := decide_eq_false (by omega)
      have hpb : decide ((pre.length : Int) > 0) = false := decide_eq_false (by omega)
      have hpc : decide (0 < pre.length) = false := decide_eq_false (by omega)
      have hpe : ¬ (0 < pre.length) := by omega
      have HG2 := ae.mk (show yP ax S0 T0 D E off ps ls n ns = R by have h := HG.out; rw [hp] at h; exact h)
      clear hp hp2
      go_wp2
      go_meet
      case rel => exact ⟨off, ls, _, _, _, rfl, rfl, ⟨by have := HO.out; omega⟩, HG2, mF, S⟩
     case neg =>
      have hp : (pre.length == 0) = false := beq_eq_false_iff_ne.mpr hp2
      have hpa : decide (0 < (pre.length : Int)) = true := decide_eq_true (by omega)
      have hpb : decide ((pre.length : Int) > 0) = true := decide_eq_true (by omega)
      have hpc : decide (0 < pre.length) = true := decide_eq_true (by omega)
      have hpe : 0 < pre.length := by omega
      have Po := ae.mk (show yP ax S0 T0 D E (off + 1) ps (ls ++ [mM ax (S0 + off) T0 E 1]) n ns = R by have h := HG.out; rw [hp] at h; exact h)
      have Lj := ae.mk (show wrap64 (off + 1) = off + 1 by have := HO.out; have := HB.out; unfold wrap64; omega)
      clear hp hp2
      by_cases hx : ax = 1
      case pos =>
       have HX := ae.mk hx
       have hxa : (ax == 1) = true := beq_iff_eq.mpr (by omega)
       have hxb : (ax != 1) = false := bne_eq_false_iff_eq.mpr (by omega)
       have hxd : decide (ax = 1) = true := decide_eq_true (by omega)
       clear hx
       have IW := ae.mk (show mM ax (S0 + off) T0 E 1 = (⟨wrap64 (X + off), Y, 1, H⟩ : dE) by have hb := HB.out; have ho := HO.out; have hs := ZA.out HX.out; rw [HX.out, piece1, hs.1, hs.2.1, hs.2.2.2, show wrap64 (X + off) = X + off by rw [hs.1] at hb; unfold wrap64; omega])
       have HG2 := ae.mk (show yP ax S0 T0 D E (off + 1) ps (ls ++ [(⟨wrap64 (X + off), Y, 1, H⟩ : dE)]) n ns = R by rw [← IW.out]; exact Po.out)
       have bT := (S.out.at (.tail _ (.tail _ (.tail _ (.head _)))) 0).trans rfl
       have bU := (S.out.at (.tail _ (.tail _ (.tail _ (.head _)))) 1).trans rfl
       have bW := (S.out.at (.tail _ (.tail _ (.tail _ (.head _)))) 3).trans rfl
       go_wp2_with (first
        | ((with_reducible refine az 62 rfl ?_); at_builtin; replace S := ae.mk S.out.sO; refine sN k23 23 rfl 51 61 42 _ 32 Try.underlying42 info23 rfl (by decide) (by decide) (by decide) S mF ⟨wrap64 (X + off), Y, 1, H⟩ [.int .i64 (wrap64 (X + off)), .int .i64 Y, .int .i64 1, .int .i64 H] (fun _ _ _ => pX _ _ _ _) (by have := yh.out; omega) ?_; clear S mF; intro Aq2 cq2 oq2 fF S mF; clear bT bU bW)
        | fail)
       go_meet
       case rel => exact ⟨off + 1, _, _, _, _, (by rw [List.length_append]; rfl), (by rw [Lj.out]), ⟨by have := HO.out; rw [List.length_append, List.length_singleton]; omega⟩, HG2, mF, ⟨S.out.qp.qp.Hl.qp⟩⟩
      case neg =>
       have HX := ae.mk (show ax = 2 by have := tH.out; omega)
       have hxa : (ax == 1) = false := beq_eq_false_iff_ne.mpr (by omega)
       have hxb : (ax != 1) = true := bne_iff_ne.mpr (by omega)
       have hxd : decide (ax = 1) = false := decide_eq_false (by omega)
       clear hx
       have IW := ae.mk (show mM ax (S0 + off) T0 E 1 = (⟨X, wrap64 (Y + off), Wd, 1⟩ : dE) by have hb := HB.out; have ho := HO.out; have hs := HS2.out HX.out; rw [HX.out, piece2, hs.1, hs.2.1, hs.2.2.2, show wrap64 (Y + off) = Y + off by rw [hs.1] at hb; unfold wrap64; omega])
       have HG2 := ae.mk (show yP ax S0 T0 D E (off + 1) ps (ls ++ [(⟨X, wrap64 (Y + off), Wd, 1⟩ : dE)]) n ns = R by rw [← IW.out]; exact Po.out)
       have bT := (S.out.at (.tail _ (.tail _ (.tail _ (.head _)))) 0).trans rfl
       have bU := (S.out.at (.tail _ (.tail _ (.tail _ (.head _)))) 1).trans rfl
       have bV := (S.out.at (.tail _ (.tail _ (.tail _ (.head _)))) 2).trans rfl
       go_wp2_with (first
        | ((with_reducible refine az 74 rfl ?_); at_builtin; replace S := ae.mk S.out.sO; refine sN k23 23 rfl 63 73 42 _ 32 Try.underlying42 info23 rfl (by decide) (by decide) (by decide) S mF ⟨X, wrap64 (Y + off), Wd, 1⟩ [.int .i64 X, .int .i64 (wrap64 (Y + off)), .int .i64 Wd, .int .i64 1] (fun _ _ _ => pX _ _ _ _) (by have := yh.out; omega) ?_; clear S mF; intro Aq2 cq2 oq2 fF S mF; clear bT bU bV)
        | fail)
       go_meet
       case rel => exact ⟨off + 1, _, _, _, _, (by rw [List.length_append]; rfl), (by rw [Lj.out]), ⟨by have := HO.out; rw [List.length_append, List.length_singleton]; omega⟩, HG2, mF, ⟨S.out.qp.qp.Hl.qp⟩⟩
    case rest =>
     clear S mF HG
     obtain ⟨o', ls', Aq, cq, oq, rfl, rfl, tK, HG, mF, S⟩ := hcut
     rename World => wy
     have yh := ae.mk (show ps.length ≤ 1000000 ∧ ls'.length ≤ 1000001 by have := HO.out; have := tK.out; have := gy.out; omega)
     have hlt := Vp.out
     have hrd : rd sizes (pre.length : Int) = n := by rw [← HE.out]; simp [rd, List.getD_eq_getElem?_getD]
     obtain ⟨adB, ek, xi⟩ := Kd.iE (Kd.jH HI.out S.out.below) (pre.length : Int) (Int.natCast_nonneg _) hlt
     subst ek
     rw [hrd] at xi
     simp only [Int.toNat_natCast] at xi
     have HXI := fun (W : World) (h : Below w.heap.size w W) => (show W.cell? (adB.add pre.length) = some (.int .i64 n) by have h2 := Kd.iE (Kd.jH HI.out h) (pre.length : Int) (Int.natCast_nonneg _) Vp.out; obtain ⟨ad, e1, e2⟩ := h2; injection e1 with e1; subst e1; simp only [Int.toNat_natCast] at e2; rw [e2, ← HE.out]; simp [rd, List.getD_eq_getElem?_getD])
     have Ep := ae.mk HXI
     clear hrd xi HXI
     by_cases hn : n < 1
     case pos =>
      have hna : decide (n < 1) = true := decide_eq_true (by omega)
      have hnb : decide (1 > n) = true := decide_eq_true (by omega)
      have HQ := ae.mk (HG.out.symm.trans (zi (.inl hn)))
      have xi := Ep.out _ S.out.below
      go_wp2
      clear xi
      go_ret3
      rw [HQ.out]
      exact ⟨_, _, _, _, .cells #[] 0 (0, 0), .cells #[] 0 (0, 0), rfl, (fun h => by cases h), S.out.below⟩
     have hna : decide (n < 1) = false := decide_eq_false (by omega)
     have hnb : decide (1 > n) = false := decide_eq_false (by omega)
     by_cases hd : D < n
     case pos =>
      have hda : decide (D < n) = true := decide_eq_true (by omega)
      have hdb : decide (n > D) = true := decide_eq_true (by omega)
      have HQ := ae.mk (HG.out.symm.trans (zi (.inr (by have := tK.out; omega))))
      have xi := Ep.out _ S.out.below
      go_wp2
      clear xi
      go_ret3
      rw [HQ.out]
      exact ⟨_, _, _, _, .cells #[] 0 (0, 0), .cells #[] 0 (0, 0), rfl, (fun h => by cases h), S.out.below⟩
     have hda : decide (D < n) = false := decide_eq_false (by omega)
     have hdb : decide (n > D) = false := decide_eq_false (by omega)
     have hg : wrap64 (o' + n) = o' + n := by have := HB.out; have := tK.out; unfold wrap64; omega
     have ZE := ae.mk hg
     by_cases he : D < o' + n
     case pos =>
      have hea : decide (D < wrap64 (o' + n)) = true := decide_eq_true (by omega)
      have heb : decide (wrap64 (o' + n) > D) = true := decide_eq_true (by omega)
      have hfa : decide (D < o' + n) = true := decide_eq_true (by omega)
      have hfb : decide (o' + n > D) = true := decide_eq_true (by omega)
      have HQ := ae.mk (HG.out.symm.trans (zi (.inr he)))
      have xi := Ep.out _ S.out.below
      go_wp2
      clear xi
      go_ret3
      rw [HQ.out]
      exact ⟨_, _, _, _, .cells #[] 0 (0, 0), .cells #[] 0 (0, 0), rfl, (fun h => by cases h), S.out.below⟩
     have hea : decide (D < wrap64 (o' + n)) = false := decide_eq_false (by omega)
     have heb : decide (wrap64 (o' + n) > D) = false := decide_eq_false (by omega)
     have hfa : decide (D < o' + n) = false := decide_eq_false (by omega)
     have hfb : decide (o' + n > D) = false := decide_eq_false (by omega)
     have Po := ae.mk ((LH (fun h => h.elim hn he)).symm.trans HG.out)
     have HN := ae.mk hn
     have HD2 := ae.mk he
     clear hn hd he hg
     by_cases hx : ax = 1
     case pos =>
      have HX := ae.mk hx
      have hxa : (ax == 1) = true := beq_iff_eq.mpr (by omega)
      have hxb : (ax != 1) = false := bne_eq_false_iff_eq.mpr (by omega)
      have hxd : decide (ax = 1) = true := decide_eq_true (by omega)
      clear hx
      have IW := ae.mk (show mM ax (S0 + o') T0 E n = (⟨wrap64 (X + o'), Y, n, H⟩ : dE) by have hb := HB.out; have ho := tK.out; have hs := ZA.out HX.out; rw [HX.out, piece1, hs.1, hs.2.1, hs.2.2.2, show wrap64 (X + o') = X + o' by rw [hs.1] at hb; unfold wrap64; omega])
      have HG2 := ae.mk (show oH ax S0 T0 D E (o' + n) false (ps ++ [(⟨wrap64 (X + o'), Y, n, H⟩ : dE)]) ls' ns = R by rw [← IW.out]; exact Po.out)
      have xi := Ep.out _ S.out.below
      go_wp2
      clear xi
      go_wp2
      refine jA (n := 17) (S := fun w' => St w _ _ _ _ _ w') (ds := [15]) (bA 17 0) (by kernel_rfl) rfl rfl (S.out.eH.call (bF (Below.refl _ _))) (fun hHeld => ?_); refine f_ wF.ad7 wF.Z5 (fun au eF => ?_)
      replace S := ae.mk (S.out.call (bF (Below.refl _ _)))
      generalize wy.drew = wd1 at S hHeld ⊢
      refine aG 0 104 (bA 17 1) au ?_
      refine aG 1 105 (bA 17 3) au ?_
      refine dJ 2 106 (bA 17 7) au eF hHeld ?_ (hv := by intro w' hs_; have bT := (hs_.at (.tail _ (.tail _ (.head _))) 0).trans rfl; go_simp; with_reducible rfl)
      refine aG 3 107 (bA 17 15) au ?_
      refine aG 4 108 (bA 17 31) au ?_
      refine aG 5 109 (bA 17 63) au ?_
      refine dJ 6 110 (bA 17 127) au eF hHeld ?_ (hv := by intro w' hs_; have bU := (hs_.at (.tail _ (.tail _ (.head _))) 1).trans rfl; go_simp; with_reducible rfl)
      refine aG 7 111 (bA 17 255) au ?_
      refine aG 8 112 (bA 17 511) au ?_
      refine aG 9 113 (bA 17 1023) au ?_
      refine dJ 10 114 (bA 17 2047) au eF hHeld ?_ (hv := by intro w' hs_; have xi := Ep.out _ hs_.below; go_simp; with_reducible rfl)
      refine aG 11 115 (bA 17 4095) au ?_
      refine dJ 12 116 (bA 17 8191) au eF hHeld ?_ (hv := by intro w' hs_; have bW := (hs_.at (.tail _ (.tail _ (.head _))) 3).trans rfl; go_simp; with_reducible rfl)
      refine aG 13 117 (bA 17 16383) au ?_
      refine gZ (i := 14) (N := some 118) (bA 17 32767) rfl rfl (dG au.out (by kernel_rfl)) (by decide) (fun K hK => ?_)
      refine KE (w1 := ?_) (v := ?_) (by rfl) rfl ?_ ?_
      rotate_left 2
      ·go_simp
       constructor
       ·rfl
       ·rfl
      refine hK.out _ _ (S.out.eH.call (gq (Below.refl _ _) _)) (fun hHeld => ?_)
      clear hK K
      refine ed 118 ?_
      refine qX (i := 15) (N := some 119) (bA 17 65535) rfl rfl (dG au.out (by kernel_rfl)) (by decide) (fun K hK => ?_)
      refine Ji k23 23 rfl 104 118 42 _ 32 Try.underlying42 info23 rfl (by decide) (by decide) (by decide) S iM ⟨wrap64 (X + o'), Y, n, H⟩ [.int .i64 (wrap64 (X + o')), .int .i64 Y, .int .i64 n, .int .i64 H] (fun _ _ _ => pX _ _ _ _) (by have := yh.out; omega) ?_
      clear S iM
      intro IG cp2 J4 jT S iM
      refine hK.out _ _ ?_
      clear hK K
      refine ed 119 ?_
      refine aG 16 11 (bA 17 131071) au ?_
      refine kG (iK au.out (by kernel_rfl)) ?_
      clear hHeld
      have xi := Ep.out _ S.out.below
      go_wp2
      clear xi
      have hw1 := HW1.out
      go_wp2
      go_roundg ns.length
      case measure => exact Nat.lt_of_lt_of_le (Nat.lt_succ_self _) jd.out
      case rel => exact ⟨pre ++ [n], ns, o' + n, _, ls', _, _, _, _, _, _, (by rw [List.length_append]; rfl), rfl, (by rw [ZE.out]), (by rw [hw1]), ⟨by rw [List.append_assoc]; exact HE.out⟩, Nat.le_refl _, ⟨by have := HO.out; have := tK.out; have := HN.out; have := HD2.out; simp only [List.length_append, List.length_singleton]; omega⟩, ⟨by rw [show ((pre ++ [n]).length == 0) = false by simp]; exact HG2.out⟩, iM, mF, ⟨S.out.qp.qp.qp.qp⟩⟩
     case neg =>
      have HX := ae.mk (show ax = 2 by have := tH.out; omega)
      have hxa : (ax == 1) = false := beq_eq_false_iff_ne.mpr (by omega)
      have hxb : (ax != 1) = true := bne_iff_ne.mpr (by omega)
      have hxd : decide (ax = 1) = false := decide_eq_false (by omega)
      clear hx
      have IW := ae.mk (show mM ax (S0 + o') T0 E n = (⟨X, wrap64 (Y + o'), Wd, n⟩ : dE) by have hb := HB.out; have ho := tK.out; have hs := HS2.out HX.out; rw [HX.out, piece2, hs.1, hs.2.1, hs.2.2.2, show wrap64 (Y + o') = Y + o' by rw [hs.1] at hb; unfold wrap64; omega])
      have HG2 := ae.mk (show oH ax S0 T0 D E (o' + n) false (ps ++ [(⟨X, wrap64 (Y + o'), Wd, n⟩ : dE)]) ls' ns = R by rw [← IW.out]; exact Po.out)
      have xi := Ep.out _ S.out.below
      go_wp2
      clear xi
      go_wp2
      refine jA (n := 17) (S := fun w' => St w _ _ _ _ _ w') (ds := [15]) (bA 17 0) (by kernel_rfl) rfl rfl (S.out.eH.call (bF (Below.refl _ _))) (fun hHeld => ?_); refine f_ wG.ad8 wG.Z7 (fun au eF => ?_)
      replace S := ae.mk (S.out.call (bF (Below.refl _ _)))
      generalize wy.drew = wd1 at S hHeld ⊢
      refine aG 0 120 (bA 17 1) au ?_
      refine aG 1 121 (bA 17 3) au ?_
      refine dJ 2 122 (bA 17 7) au eF hHeld ?_ (hv := by intro w' hs_; have bT := (hs_.at (.tail _ (.tail _ (.head _))) 0).trans rfl; go_simp; with_reducible rfl)
      refine aG 3 123 (bA 17 15) au ?_
      refine dJ 4 124 (bA 17 31) au eF hHeld ?_ (hv := by intro w' hs_; have bU := (hs_.at (.tail _ (.tail _ (.head _))) 1).trans rfl; go_simp; with_reducible rfl)
      refine aG 5 125 (bA 17 63) au ?_
      refine aG 6 126 (bA 17 127) au ?_
      refine aG 7 127 (bA 17 255) au ?_
      refine dJ 8 128 (bA 17 511) au eF hHeld ?_ (hv := by intro w' hs_; have bV := (hs_.at (.tail _ (.tail _ (.head _))) 2).trans rfl; go_simp; with_reducible rfl)
      refine aG 9 129 (bA 17 1023) au ?_
      refine aG 10 130 (bA 17 2047) au ?_
      refine aG 11 131 (bA 17 4095) au ?_
      refine dJ 12 132 (bA 17 8191) au eF hHeld ?_ (hv := by intro w' hs_; have xi := Ep.out _ hs_.below; go_simp; with_reducible rfl)
      refine aG 13 133 (bA 17 16383) au ?_
      refine gZ (i := 14) (N := some 134) (bA 17 32767) rfl rfl (dG au.out (by kernel_rfl)) (by decide) (fun K hK => ?_)
      refine KE (w1 := ?_) (v := ?_) (by rfl) rfl ?_ ?_
      rotate_left 2
      ·go_simp
       constructor
       ·rfl
       ·rfl
      refine hK.out _ _ (S.out.eH.call (gq (Below.refl _ _) _)) (fun hHeld => ?_)
      clear hK K
      refine ed 134 ?_
      refine qX (i := 15) (N := some 135) (bA 17 65535) rfl rfl (dG au.out (by kernel_rfl)) (by decide) (fun K hK => ?_)
      refine Ji k23 23 rfl 120 134 42 _ 32 Try.underlying42 info23 rfl (by decide) (by decide) (by decide) S iM ⟨X, wrap64 (Y + o'), Wd, n⟩ [.int .i64 X, .int .i64 (wrap64 (Y + o')), .int .i64 Wd, .int .i64 n] (fun _ _ _ => pX _ _ _ _) (by have := yh.out; omega) ?_
      clear S iM
      intro IG cp2 J4 jT S iM
      refine hK.out _ _ ?_
      clear hK K
      refine ed 135 ?_
      refine aG 16 11 (bA 17 131071) au ?_
      refine kG (iK au.out (by kernel_rfl)) ?_
      clear hHeld
      have xi := Ep.out _ S.out.below
      go_wp2
      clear xi
      have hw1 := HW1.out
      go_wp2
      go_roundg ns.length
      case measure => exact Nat.lt_of_lt_of_le (Nat.lt_succ_self _) jd.out
      case rel => exact ⟨pre ++ [n], ns, o' + n, _, ls', _, _, _, _, _, _, (by rw [List.length_append]; rfl), rfl, (by rw [ZE.out]), (by rw [hw1]), ⟨by rw [List.append_assoc]; exact HE.out⟩, Nat.le_refl _, ⟨by have := HO.out; have := tK.out; have := HN.out; have := HD2.out; simp only [List.length_append, List.length_singleton]; omega⟩, ⟨by rw [show ((pre ++ [n]).length == 0) = false by simp]; exact HG2.out⟩, iM, mF, ⟨S.out.qp.qp.qp.qp⟩⟩
theorem UZ (c : ai) (hl : c.f3.length ≤ 1000000) (b : Nat) (P : Nat → Prop) (A : Option Addr) (cc : Nat) (w : World) (hv : Kd.V k26 26 w b P (.slice A c.f3.length cc) c.f3) :
  Calls Try.prog 194 #[.agg #[.int .u8 c.f0, .int .i64 c.f1.f0, .int .i64 c.f1.f1, .int .i64 c.f1.f2, .int .i64 c.f1.f3, .int .i64 c.f2, .slice A c.f3.length cc]] w fun e w' => ∃ A' c', e = .returned (.slice A' (jY c).length c') ∧ (Kd.int .i64).R 3 w' w.heap.size (fun _ => True) (.slice A' (jY c).length c') (jY c) ∧ Below w.heap.size w w' := by
 have S := ae.mk (St.start (ts := [(.slice A c.f3.length cc, c.f3)]) (b0 := w.heap.size) (w := w) (P := P) (fun t ht => by rw [List.mem_singleton.1 ht]; exact fK hv))
 have gy := ae.mk hl
 clear hl hv
 obtain ⟨ck, ⟨cx, cy, cw, ch⟩, aj, l⟩ := c
 simp only [] at S gy ⊢
 rw [show jY ⟨ck, ⟨cx, cy, cw, ch⟩, aj, l⟩ = l.map (pV ck) from rfl]
 simp only [List.length_map]
 go_enter Try.func194, Try.ntmps194
 go_wp2_with (first
  | ((with_reducible refine az 1 rfl ?_); refine boxS 1 #[.int .u8 ck, .int .i64 cx, .int .i64 cy, .int .i64 cw, .int .i64 ch, .int .i64 aj, .slice A l.length cc] 26 S ?_; clear S; intro b1 fF S)
  | ((with_reducible refine az 5 rfl ?_); refine mD (Kd.int .i64) 3 rfl 5 S ?_; clear S; intro Ap cp op iw S iM; have b_ := (S.out.at (.tail _ (.head _)) 6).trans rfl)
  | fail)
 clear b_
 go_loopg [3, 9] l.length (fun gg v3 v9 wr => ∃ (pre rest : List ai) (Ap : Option Addr) (cp : Nat) (op : Obj), v3 = .slice Ap pre.length cp ∧ v9 = .int .i64 (pre.length : Int) ∧ ae (pre ++ rest = l) ∧ rest.length ≤ gg ∧ ae (KR (Kd.int .i64) 3 w.heap.size (.slice Ap pre.length cp) (pre.map (pV ck)) op) ∧ ae (St w P [((Value.slice Ap pre.length cp).ownBlock, op), (some b1, .cells #[.int .u8 ck, .int .i64 cx, .int .i64 cy, .int .i64 cw, .int .i64 ch, .int .i64 aj, .slice A l.length cc] 26 (0, 0))] [] [(.slice A l.length cc, l)] [] wr))
 case atStart => exact ⟨[], l, _, _, _, rfl, rfl, ⟨rfl⟩, Nat.le_refl _, iM, S⟩
 case round =>
  clear S iM
  obtain ⟨pre, rest, Ap, cp, op, rfl, rfl, HE, hgg, iM, S⟩ := hrel
  cases rest with
  | nil =>
   have hE := HE.out
   rw [List.append_nil] at hE
   have hE2 := hE.symm
   subst hE2
   clear hE HE hgg
   have hlt : ¬ ((l.length : Int) < (l.length : Int)) := by omega
   go_wp2
   go_ret
   exact ⟨_, _, rfl, S.out.OG iM.out (.head _), S.out.below⟩
  | cons k rest =>
   have hk : k ∈ l := by rw [← HE.out]; simp
   have hlt : (pre.length : Int) < (l.length : Int) := by rw [← HE.out, List.length_append, List.length_cons]; omega
   have hw1 : wrap64 ((pre.length : Int) + 1) = ((pre ++ [k]).length : Int) := by have := gy.out; rw [List.length_append, List.length_singleton]; unfold wrap64; omega
   have HW1 := ae.mk hw1
   have jd := ae.mk hgg
   have HK := ae.mk hk
   have qB := ae.mk (show pre.length ≤ 1048576 by have := gy.out; omega)
   obtain ⟨iO, ua, uc, ek, S1⟩ := S.out.elem (.head _) (pre.length : Int) (Int.natCast_nonneg _) hlt
   subst ek
   have hrd : aI l (pre.length : Int) = k := by rw [← HE.out]; exact iZ pre k rest
   rw [hrd] at S1
   simp only [Int.toNat_natCast] at S1
   replace S := ae.mk S1
   clear S1 hrd hk hgg hw1
   by_cases hk2 : ck = 2
   case pos =>
    have hka : (ck == 2) = true := beq_iff_eq.mpr hk2
    have hkb : decide (ck = 2) = true := decide_eq_true hk2
    have yY := ae.mk (show (pre ++ [k]).map (pV ck) = pre.map (pV ck) ++ [k.f1.f2] by rw [List.map_append]; exact congrArg (pre.map (pV ck) ++ [·]) (if_pos hk2))
    clear hk2
    have bG := (S.out.at (.tail _ (.head _)) 0).trans rfl
    have b_ := (S.out.at (.tail _ (.head _)) 6).trans rfl
    have iG := (S.out.cell _ (.tail _ (.tail _ (.tail _ (.head _))))).1
    go_wp2_with (first
     | ((with_reducible refine az 24 rfl ?_); at_builtin; refine sN (Kd.int .i64) 3 rfl 15 23 41 (.int .i64 0) 8 Try.underlying41 info3 rfl (by decide) (by decide) (by decide) S iM k.f1.f2 [.int .i64 k.f1.f2] (fun _ _ _ => rfl) (by have := qB.out; simp only [List.length_map]; omega) ?_; clear S iM; intro IG cp2 J4 jT S iM; clear bG b_ iG)
     | fail)
    have e2 : ((pre.map (pV ck)) ++ [k.f1.f2]).length = (pre ++ [k]).length := by simp
    rw [e2, ← yY.out] at iM
    rw [e2] at S
    have hw1 := HW1.out
    go_wp2
    go_roundg rest.length
    case measure => exact Nat.lt_of_lt_of_le (Nat.lt_succ_self _) jd.out
    case rel => exact ⟨pre ++ [k], rest, _, _, _, (by rw [List.length_append]; rfl), (by rw [hw1]), ⟨by rw [List.append_assoc]; exact HE.out⟩, Nat.le_refl _, iM, ⟨S.out.sO.sO.bH.aU.aU.aU.aU.aU.aU.aU⟩⟩
   case neg =>
    have hka : (ck == 2) = false := beq_eq_false_iff_ne.mpr hk2
    have hkb : decide (ck = 2) = false := decide_eq_false hk2
    have yY := ae.mk (show (pre ++ [k]).map (pV ck) = pre.map (pV ck) ++ [k.f1.f3] by rw [List.map_append]; exact congrArg (pre.map (pV ck) ++ [·]) (if_neg hk2))
    clear hk2
    have bG := (S.out.at (.tail _ (.head _)) 0).trans rfl
    have b_ := (S.out.at (.tail _ (.head _)) 6).trans rfl
    have iH := (S.out.cell _ (.tail _ (.tail _ (.tail _ (.tail _ (.head _)))))).1
    go_wp2_with (first
     | ((with_reducible refine az 34 rfl ?_); at_builtin; refine sN (Kd.int .i64) 3 rfl 25 33 41 (.int .i64 0) 8 Try.underlying41 info3 rfl (by decide) (by decide) (by decide) S iM k.f1.f3 [.int .i64 k.f1.f3] (fun _ _ _ => rfl) (by have := qB.out; simp only [List.length_map]; omega) ?_; clear S iM; intro IG cp2 J4 lQ S iM; clear bG b_ iH)
     | fail)
    have e2 : ((pre.map (pV ck)) ++ [k.f1.f3]).length = (pre ++ [k]).length := by simp
    rw [e2, ← yY.out] at iM
    rw [e2] at S
    have hw1 := HW1.out
    go_wp2
    go_roundg rest.length
    case measure => exact Nat.lt_of_lt_of_le (Nat.lt_succ_self _) jd.out
    case rel => exact ⟨pre ++ [k], rest, _, _, _, (by rw [List.length_append]; rfl), (by rw [hw1]), ⟨by rw [List.append_assoc]; exact HE.out⟩, Nat.le_refl _, iM, ⟨S.out.sO.sO.bH.aU.aU.aU.aU.aU.aU.aU⟩⟩
def rX.T3 : Bool × List (List Nat × List Nat) := (true, [([], []), ([0], [0]), ([], []), ([2], [2]), ([3], [3]), ([], []), ([5], [5]), ([1, 4, 6, 6], [1, 4, 6]), ([7], [7]), ([8], [8]), ([8], [8]), ([8], [8]), ([9, 7, 0, 1, 2, 3, 4, 5, 6, 7, 8, 9], [9]), ([10, 12, 0, 1, 2, 3, 4, 5, 6, 7, 8, 9, 10, 12], [10]), ([11, 13, 0, 1, 2, 3, 4, 5, 6, 7, 8, 9, 10, 11, 12, 13], [11])])
def rX.B3 : List Nat := [0, 1, 0, 4, 12, 0, 32, 127, 255, 511, 511, 511, 1023, 6143, 16383]
theorem rX.BX : iP .any (opsOf Try.f178 3) = rX.T3 := by kernel_rfl
theorem rX.yA : iL rX.T3.2 rX.B3 = true := by kernel_rfl
def rY.T9 : Bool × List (List Nat × List Nat) := (true, [([], []), ([], []), ([0, 1], [0, 1]), ([2], [2]), ([], []), ([4], [4]), ([], []), ([5, 6], [5, 6]), ([7], [7]), ([8], [8]), ([3, 9], [3, 9])])
def rY.B9 : List Nat := [0, 0, 3, 7, 0, 16, 0, 112, 240, 496, 1023]
theorem rY.O3 : iP .any (opsOf Try.f178 9) = rY.T9 := by kernel_rfl
theorem rY.Iq : iL rY.T9.2 rY.B9 = true := by kernel_rfl
theorem Rh (c : ai) (hl : c.f3.length ≤ 1000000) (b : Nat) (P : Nat → Prop) (A : Option Addr) (cc : Nat) (w : World) (hv : Kd.V k26 26 w b P (.slice A c.f3.length cc) c.f3) :
  Calls Try.prog 178 #[.agg #[.int .u8 c.f0, .int .i64 c.f1.f0, .int .i64 c.f1.f1, .int .i64 c.f1.f2, .int .i64 c.f1.f3, .int .i64 c.f2, .slice A c.f3.length cc]] w (NI w c) := by
 have S := ae.mk (St.start (ts := [(.slice A c.f3.length cc, c.f3)]) (b0 := w.heap.size) (w := w) (P := P) (fun t ht => by rw [List.mem_singleton.1 ht]; exact fK hv))
 have gy := ae.mk hl
 have hsz := fun b P A cc w hv => UZ c hl b P A cc w hv
 obtain ⟨T, hT⟩ : ∃ T, T = xB c := ⟨_, rfl⟩
 have hlen : T.2.2 = true → T.1.length = c.f3.length := fun h => by rw [hT] at h ⊢; rw [(Hf h).2.1, TI]; simp [jY]
 have hl2 : T.2.1.length ≤ c.f3.length := by rw [hT]; exact (Jt c).2
 have hcut := fun B cb w hi => ab2 c.f1.f0 c.f1.f1 c.f1.f2 c.f1.f3 ((c.f0 - 1) % 256) (jY c) (by simpa [jY] using hl) B cb w hi
 rw [show qJ c.f1.f0 c.f1.f1 c.f1.f2 c.f1.f3 ((c.f0 - 1) % 256) (jY c) = T by rw [hT, WE]; rfl] at hcut
 have ho : ql c = Gm c T := by rw [hT]; rfl
 generalize jY c = SL at hsz hcut
 unfold NI
 generalize ql c = v at ho ⊢
 clear hT hl hv
 obtain ⟨ck, ⟨cx, cy, cw, ch⟩, aj, l⟩ := c
 obtain ⟨t1, t2, t3⟩ := T
 simp only [Gm] at S gy hsz hlen hl2 hcut ho ⊢
 have HZC := ae.mk hsz
 have HL2 := ae.mk hl2
 clear hsz hl2
 by_cases h1 : ck = 1
 case pos =>
  have hv : v = true := by rw [ho, h1]; rfl
  have ha : (ck == 1) = true := beq_iff_eq.mpr h1
  have hb : decide (ck = 1) = true := decide_eq_true h1
  have HL := ae.mk hv
  clear hv h1 ho hcut hlen
  go_enter Try.func178, Try.ntmps178
  go_wp2_with (first
   | ((with_reducible refine az 1 rfl ?_); refine boxS 1 #[.int .u8 ck, .int .i64 cx, .int .i64 cy, .int .i64 cw, .int .i64 ch, .int .i64 aj, .slice A l.length cc] 26 S ?_; clear S; intro b1 fF S; have bG := (S.out.at (.head _) 0).trans rfl)
   | ((with_reducible refine az 11 rfl ?_); refine mD k23 23 rfl 11 S ?_; clear S; intro aiP ai6 ajn iw S IQ; clear bG)
   | fail)
  go_ret2
  rw [HL.out]
  exact ⟨_, _, _, rfl, fun _ => ⟨[], rfl, Nat.zero_le _, S.out.OG IQ.out (.head _)⟩, S.out.below⟩
 have ha : (ck == 1) = false := beq_eq_false_iff_ne.mpr h1
 have hd : decide (ck = 1) = false := decide_eq_false h1
 rw [ha, Bool.false_or] at ho
 clear h1
 cases t3 with
 | false =>
  rw [Bool.false_and] at ho
  have HL := ae.mk ho
  have Ei := ae.mk (fun B cb w hi => Ju (hcut B cb w hi))
  clear hcut ho hlen
  go_enter Try.func178, Try.ntmps178
  go_wp2_with (first
   | ((with_reducible refine az 1 rfl ?_); refine boxS 1 #[.int .u8 ck, .int .i64 cx, .int .i64 cy, .int .i64 cw, .int .i64 ch, .int .i64 aj, .slice A l.length cc] 26 S ?_; clear S; intro b1 fF S; have bG := (S.out.at (.head _) 0).trans rfl)
   | fail)
  clear bG
  refine jA (n := 15) (S := fun w' => St w _ _ _ _ _ w') (ds := []) (bA 15 0) (by kernel_rfl) rfl rfl (S.out.call (bF (Below.refl _ _))) (fun hHeld => ?_); refine f_ rX.BX rX.yA (fun au eF => ?_)
  replace S := ae.mk (S.out.call (bF (Below.refl _ _)))
  generalize fF.drew = wd2 at S hHeld ⊢
  refine aG 0 13 (bA 15 1) au ?_
  refine dJ 1 14 (bA 15 3) au eF hHeld ?_ (hv := by intro w' hs_; have dV := (hs_.at (.head _) 1).trans rfl; have dW := (hs_.at (.head _) 2).trans rfl; have dZ := (hs_.at (.head _) 3).trans rfl; have d_ := (hs_.at (.head _) 4).trans rfl; go_simp; with_reducible rfl)
  refine aG 2 15 (bA 15 7) au ?_
  refine dJ 3 16 (bA 15 15) au eF hHeld ?_ (hv := by intro w' hs_; have bG := (hs_.at (.head _) 0).trans rfl; go_simp; with_reducible rfl)
  refine aG 4 17 (bA 15 31) au ?_
  refine dJ 5 18 (bA 15 63) au eF hHeld ?_ (hv := by intro w' hs_; have bG := (hs_.at (.head _) 0).trans rfl; have dV := (hs_.at (.head _) 1).trans rfl; have dW := (hs_.at (.head _) 2).trans rfl; have dZ := (hs_.at (.head _) 3).trans rfl; have d_ := (hs_.at (.head _) 4).trans rfl; have fC := (hs_.at (.head _) 5).trans rfl; have b_ := (hs_.at (.head _) 6).trans rfl; go_simp; with_reducible rfl)
  refine gZ (i := 6) (N := some 19) (bA 15 127) rfl rfl (dG au.out (by kernel_rfl)) (by decide) (fun K hK => ?_)
  refine fM Try.func194 (by kernel_rfl) rfl #[.agg #[.int .u8 ck, .int .i64 cx, .int .i64 cy, .int .i64 cw, .int .i64 ch, .int .i64 aj, .slice A l.length cc]] (by rfl) rfl rfl (by (try simp only [List.map_toArray, List.map_cons, List.map_nil]); first | done | rfl) ?_
  refine (HZC.out _ _ _ _ _ (S.out.tree _ (.head _))).mono ?_
  rintro e jT ⟨As, cs, rfl, h1, hb⟩
  refine ⟨_, rfl, ?_⟩
  obtain ⟨os, S1, hI⟩ := S.out.OT (d := Kd.int .i64) (e := 3) rfl h1 hb
  replace S := ae.mk S1
  have Zv := ae.mk hI
  clear S1 hI h1 hb
  refine hK.out _ _ S.out.eH (fun hHeld => ?_)
  clear hK K
  refine ed 19 ?_
  refine gZ (i := 7) (N := some 20) (bA 15 255) rfl rfl (dG au.out (by kernel_rfl)) (by decide) (fun K hK => ?_)
  refine fM Try.func46 (by kernel_rfl) rfl #[.agg #[.int .i64 cx, .int .i64 cy, .int .i64 cw, .int .i64 ch], .int .u8 ((ck - 1) % 256), .slice As SL.length cs] (by rfl) rfl rfl (by (try simp only [List.map_toArray, List.map_cons, List.map_nil]); first | done | rfl) ?_
  refine (Ei.out _ _ _ (Kd.bQ (IX Zv.out S.out (.head _))).2.2).mono ?_
  rintro e lQ ⟨Ap, np, cp, Aq, nq, cq, rfl, hb⟩
  refine ⟨_, rfl, ?_⟩
  replace S := ae.mk (S.out.call hb)
  clear hb
  refine hK.out _ _ S.out.eH (fun hHeld => ?_)
  clear hK K
  refine ed 20 ?_
  refine aG 8 12 (bA 15 511) au ?_
  refine aG 9 21 (bA 15 1023) au ?_
  refine aG 10 22 (bA 15 2047) au ?_
  refine aG 11 23 (bA 15 4095) au ?_
  refine aG 12 4 (bA 15 8191) au ?_
  refine aG 13 5 (bA 15 16383) au ?_
  refine aG 14 6 (bA 15 32767) au ?_
  refine kG (iK au.out (by kernel_rfl)) ?_
  clear hHeld
  go_wp2
  go_ret2
  rw [HL.out]
  exact ⟨_, _, _, rfl, (fun h => by cases h), S.out.below⟩
 | true =>
  replace hlen := hlen rfl
  rw [Bool.true_and, show (l.length == t1.length) = true from beq_iff_eq.mpr hlen.symm, Bool.true_and] at ho
  have HL := ae.mk ho
  have yh := ae.mk hlen
  have Ei := ae.mk (fun B cb w hi => LJ (hcut B cb w hi))
  clear hcut ho hlen
  go_enter Try.func178, Try.ntmps178
  go_wp2_with (first
   | ((with_reducible refine az 1 rfl ?_); refine boxS 1 #[.int .u8 ck, .int .i64 cx, .int .i64 cy, .int .i64 cw, .int .i64 ch, .int .i64 aj, .slice A l.length cc] 26 S ?_; clear S; intro b1 fF S; have bG := (S.out.at (.head _) 0).trans rfl)
   | fail)
  clear bG
  refine jA (n := 15) (S := fun w' => St w _ _ _ _ _ w') (ds := []) (bA 15 0) (by kernel_rfl) rfl rfl (S.out.call (bF (Below.refl _ _))) (fun hHeld => ?_); refine f_ rX.BX rX.yA (fun au eF => ?_)
  replace S := ae.mk (S.out.call (bF (Below.refl _ _)))
  generalize fF.drew = wd2 at S hHeld ⊢
  refine aG 0 13 (bA 15 1) au ?_
  refine dJ 1 14 (bA 15 3) au eF hHeld ?_ (hv := by intro w' hs_; have dV := (hs_.at (.head _) 1).trans rfl; have dW := (hs_.at (.head _) 2).trans rfl; have dZ := (hs_.at (.head _) 3).trans rfl; have d_ := (hs_.at (.head _) 4).trans rfl; go_simp; with_reducible rfl)
  refine aG 2 15 (bA 15 7) au ?_
  refine dJ 3 16 (bA 15 15) au eF hHeld ?_ (hv := by intro w' hs_; have bG := (hs_.at (.head _) 0).trans rfl; go_simp; with_reducible rfl)
  refine aG 4 17 (bA 15 31) au ?_
  refine dJ 5 18 (bA 15 63) au eF hHeld ?_ (hv := by intro w' hs_; have bG := (hs_.at (.head _) 0).trans rfl; have dV := (hs_.at (.head _) 1).trans rfl; have dW := (hs_.at (.head _) 2).trans rfl; have dZ := (hs_.at (.head _) 3).trans rfl; have d_ := (hs_.at (.head _) 4).trans rfl; have fC := (hs_.at (.head _) 5).trans rfl; have b_ := (hs_.at (.head _) 6).trans rfl; go_simp; with_reducible rfl)
  refine gZ (i := 6) (N := some 19) (bA 15 127) rfl rfl (dG au.out (by kernel_rfl)) (by decide) (fun K hK => ?_)
  refine fM Try.func194 (by kernel_rfl) rfl #[.agg #[.int .u8 ck, .int .i64 cx, .int .i64 cy, .int .i64 cw, .int .i64 ch, .int .i64 aj, .slice A l.length cc]] (by rfl) rfl rfl (by (try simp only [List.map_toArray, List.map_cons, List.map_nil]); first | done | rfl) ?_
  refine (HZC.out _ _ _ _ _ (S.out.tree _ (.head _))).mono ?_
  rintro e jT ⟨As, cs, rfl, h1, hb⟩
  refine ⟨_, rfl, ?_⟩
  obtain ⟨os, S1, hI⟩ := S.out.OT (d := Kd.int .i64) (e := 3) rfl h1 hb
  replace S := ae.mk S1
  have Zv := ae.mk hI
  clear S1 hI h1 hb
  refine hK.out _ _ S.out.eH (fun hHeld => ?_)
  clear hK K
  refine ed 19 ?_
  refine gZ (i := 7) (N := some 20) (bA 15 255) rfl rfl (dG au.out (by kernel_rfl)) (by decide) (fun K hK => ?_)
  refine fM Try.func46 (by kernel_rfl) rfl #[.agg #[.int .i64 cx, .int .i64 cy, .int .i64 cw, .int .i64 ch], .int .u8 ((ck - 1) % 256), .slice As SL.length cs] (by rfl) rfl rfl (by (try simp only [List.map_toArray, List.map_cons, List.map_nil]); first | done | rfl) ?_
  refine (Ei.out _ _ _ (Kd.bQ (IX Zv.out S.out (.head _))).2.2).mono ?_
  rintro e lQ ⟨Ap, cp, Aq, cq, op, oq, rfl, h1, hb⟩
  refine ⟨_, rfl, ?_⟩
  obtain ⟨S1, hp, hq⟩ := S.out.two h1 hb
  replace S := ae.mk S1
  have iM := ae.mk hp
  have mF := ae.mk hq
  clear S1 hp hq h1 hb
  refine hK.out _ _ S.out.eH.eH.eH (fun hHeld => ?_)
  clear hK K
  refine ed 20 ?_
  refine aG 8 12 (bA 15 511) au ?_
  refine aG 9 21 (bA 15 1023) au ?_
  refine aG 10 22 (bA 15 2047) au ?_
  refine aG 11 23 (bA 15 4095) au ?_
  refine aG 12 4 (bA 15 8191) au ?_
  refine aG 13 5 (bA 15 16383) au ?_
  refine aG 14 6 (bA 15 32767) au ?_
  refine kG (iK au.out (by kernel_rfl)) ?_
  clear hHeld
  go_wp2
  clear ha hd
  go_loopg [29] t1.length (fun gg v29 wr => ∃ (pre rest : List dE) (pb rb : List ai), v29 = .int .i64 (pre.length : Int) ∧ ae (pre ++ rest = t1) ∧ ae (pb ++ rb = l) ∧ ae (pb.length = pre.length) ∧ ae (rO (fun k r => mf k.f1 r) pb pre = true) ∧ rest.length ≤ gg ∧ ae (St w P [((Value.slice Ap t1.length cp).ownBlock, op), ((Value.slice Aq t2.length cq).ownBlock, oq), ((Value.slice As SL.length cs).ownBlock, os), (some b1, .cells #[.int .u8 ck, .int .i64 cx, .int .i64 cy, .int .i64 cw, .int .i64 ch, .int .i64 aj, .slice A l.length cc] 26 (0, 0))] [] [(.slice A l.length cc, l)] [] wr))
  case atStart => exact ⟨[], t1, [], l, rfl, ⟨rfl⟩, ⟨rfl⟩, ⟨rfl⟩, ⟨FD _ _⟩, Nat.le_refl _, S⟩
  case round =>
   clear S
   obtain ⟨pre, rest, pb, rb, rfl, HE, HE2, yX, Lh, hgg, S⟩ := hrel
   have hlr : rb.length = rest.length := by have h1 := congrArg List.length HE.out; have h2 := congrArg List.length HE2.out; rw [List.length_append] at h1 h2; have := yX.out; have := yh.out; omega
   cases rest with
   | nil =>
    have hrb := List.eq_nil_of_length_eq_zero hlr
    subst hrb
    have hE := HE.out
    rw [List.append_nil] at hE
    have LQ := HE2.out
    rw [List.append_nil] at LQ
    have HV := ae.mk (show v = true by rw [HL.out, ← hE, ← LQ]; exact Lh.out)
    have hlt : ¬ ((pre.length : Int) < (t1.length : Int)) := by rw [hE]; omega
    have afg : ¬ (pre.length < t1.length) := by omega
    clear HE HE2 hgg hlr hE LQ
    go_wp2
    go_ret2
    rw [HV.out]
    exact ⟨_, _, _, rfl, fun _ => ⟨t2, rfl, HL2.out, S.out.OG mF.out (.tail _ (.head _))⟩, S.out.below⟩
   | cons r rest =>
    cases rb with
    | nil => simp at hlr
    | cons k rb =>
     have hlt : (pre.length : Int) < (t1.length : Int) := by rw [← HE.out, List.length_append, List.length_cons]; omega
     have hlt2 : (pb.length : Int) < (l.length : Int) := by rw [← HE2.out, List.length_append, List.length_cons]; omega
     have hlt3 : pre.length < l.length := by have := yX.out; omega
     have afg : pre.length < t1.length := by omega
     have hlt4 : (pre.length : Int) < (l.length : Int) := by omega
     have hw1 : wrap64 ((pre.length : Int) + 1) = ((pre ++ [r]).length : Int) := by have := gy.out; have := yh.out; rw [List.length_append, List.length_singleton]; unfold wrap64; omega
     have HW1 := ae.mk hw1
     have jd := ae.mk hgg
     obtain ⟨iO, ua, uc, ek, S1⟩ := S.out.elem (.head _) (pb.length : Int) (Int.natCast_nonneg _) hlt2
     subst ek
     have hrd : aI l (pb.length : Int) = k := by rw [← HE2.out]; exact iZ pb k rb
     rw [hrd] at S1
     simp only [Int.toNat_natCast] at S1
     rw [yX.out] at S1
     replace S := ae.mk S1
     obtain ⟨adp, ep, hel⟩ := ZG iM.out (S.out.blk _ (.head _)) pre rest r HE.out
     subst ep
     have Ej := ae.mk hel
     clear S1 hrd hgg hw1 hlr hel hlt2
     cases hq : mf k.f1 r with
     | false =>
      have HQ := ae.mk hq
      have HV := ae.mk (show v = false by rw [HL.out, ← HE.out, ← HE2.out, LP yX.out, Lh.out]; simp [rO, hq])
      clear hq
      go_wp2
      refine jA (n := 11) (S := fun w' => St w _ _ _ _ _ w') (ds := []) (bA 11 0) (by kernel_rfl) rfl rfl (S.out.call (bF (Below.refl _ _))) (fun hHeld => ?_); refine f_ rY.O3 rY.Iq (fun au eF => ?_)
      replace S := ae.mk (S.out.call (bF (Below.refl _ _)))
      generalize wr.drew = wd1 at S hHeld ⊢
      refine aG 0 32 (bA 11 1) au ?_
      refine aG 1 33 (bA 11 3) au ?_
      refine aG 2 34 (bA 11 7) au ?_
      refine dJ 3 35 (bA 11 15) au eF hHeld ?_ (hv := by intro w' hs_; have xp0 := (Ej.out _ (hs_.blk _ (.head _))).1; have xp1 := (Ej.out _ (hs_.blk _ (.head _))).2.1; have xp2 := (Ej.out _ (hs_.blk _ (.head _))).2.2.1; have xp3 := (Ej.out _ (hs_.blk _ (.head _))).2.2.2; go_simp; with_reducible rfl)
      refine aG 4 36 (bA 11 31) au ?_
      refine dJ 5 37 (bA 11 63) au eF hHeld ?_ (hv := by intro w' hs_; have b_ := (hs_.at (.tail _ (.tail _ (.tail _ (.head _)))) 6).trans rfl; go_simp; with_reducible rfl)
      refine aG 6 38 (bA 11 127) au ?_
      refine aG 7 39 (bA 11 255) au ?_
      refine aG 8 40 (bA 11 511) au ?_
      refine dJ 9 41 (bA 11 1023) au eF hHeld ?_ (hv := by intro w' hs_; have jb := (hs_.cell _ (.tail _ (.head _))).1; have jc := (hs_.cell _ (.tail _ (.tail _ (.head _)))).1; have iG := (hs_.cell _ (.tail _ (.tail _ (.tail _ (.head _))))).1; have iH := (hs_.cell _ (.tail _ (.tail _ (.tail _ (.tail _ (.head _)))))).1; go_simp; with_reducible rfl)
      refine dJ 10 42 (bA 11 2047) au eF hHeld ?_ (hv := by intro w' hs_; go_simp; exact abR HQ.out _ _)
      refine kG (iK au.out (by kernel_rfl)) ?_
      clear hHeld
      go_wp2_with (first
       | ((with_reducible refine az 43 rfl ?_); refine mD k23 23 rfl 43 S ?_; clear S; intro aiQ ai7 ajo iw S IQ)
       | fail)
      go_ret2
      rw [HV.out]
      exact ⟨_, _, _, rfl, (fun h => by cases h), S.out.below⟩
     | true =>
      have Em := ae.mk (show rO (fun k r => mf k.f1 r) (pb ++ [k]) (pre ++ [r]) = true by rw [LP yX.out, Lh.out]; simp [rO, hq])
      obtain ⟨q0, q1, q2, q3⟩ := r
      unfold mf at hq
      simp only [Bool.and_eq_true, beq_iff_eq] at hq
      obtain ⟨e0, e1, e2, e3⟩ := hq
      subst e0 e1 e2 e3
      simp only [] at Ej
      go_wp2
      refine jA (n := 11) (S := fun w' => St w _ _ _ _ _ w') (ds := []) (bA 11 0) (by kernel_rfl) rfl rfl (S.out.call (bF (Below.refl _ _))) (fun hHeld => ?_); refine f_ rY.O3 rY.Iq (fun au eF => ?_)
      replace S := ae.mk (S.out.call (bF (Below.refl _ _)))
      generalize wr.drew = wd1 at S hHeld ⊢
      refine aG 0 32 (bA 11 1) au ?_
      refine aG 1 33 (bA 11 3) au ?_
      refine aG 2 34 (bA 11 7) au ?_
      refine dJ 3 35 (bA 11 15) au eF hHeld ?_ (hv := by intro w' hs_; have xp0 := (Ej.out _ (hs_.blk _ (.head _))).1; have xp1 := (Ej.out _ (hs_.blk _ (.head _))).2.1; have xp2 := (Ej.out _ (hs_.blk _ (.head _))).2.2.1; have xp3 := (Ej.out _ (hs_.blk _ (.head _))).2.2.2; go_simp; with_reducible rfl)
      refine aG 4 36 (bA 11 31) au ?_
      refine dJ 5 37 (bA 11 63) au eF hHeld ?_ (hv := by intro w' hs_; have b_ := (hs_.at (.tail _ (.tail _ (.tail _ (.head _)))) 6).trans rfl; go_simp; with_reducible rfl)
      refine aG 6 38 (bA 11 127) au ?_
      refine aG 7 39 (bA 11 255) au ?_
      refine aG 8 40 (bA 11 511) au ?_
      refine dJ 9 41 (bA 11 1023) au eF hHeld ?_ (hv := by intro w' hs_; have jb := (hs_.cell _ (.tail _ (.head _))).1; have jc := (hs_.cell _ (.tail _ (.tail _ (.head _)))).1; have iG := (hs_.cell _ (.tail _ (.tail _ (.tail _ (.head _))))).1; have iH := (hs_.cell _ (.tail _ (.tail _ (.tail _ (.tail _ (.head _)))))).1; go_simp; with_reducible rfl)
      refine aG 10 42 (bA 11 2047) au ?_
      refine kG (iK au.out (by kernel_rfl)) ?_
      clear hHeld
      go_wp2
      have hw1 := HW1.out
      go_wp2
      go_roundg rest.length
      case measure => exact Nat.lt_of_lt_of_le (Nat.lt_succ_self _) jd.out
      case rel => exact ⟨pre ++ [_], rest, pb ++ [k], rb, (by rw [hw1]), ⟨by rw [List.append_assoc]; exact HE.out⟩, ⟨by rw [List.append_assoc]; exact HE2.out⟩, ⟨by rw [List.length_append, List.length_append, yX.out]; rfl⟩, Em, Nat.le_refl _, ⟨S.out.bH.aU.aU.aU.aU.aU.aU.aU⟩⟩
def oL (c : ai) : Bool := mY c.f1 && decide (1 ≤ c.f0 ∧ c.f0 ≤ 3) && decide (c.f0 = 1 → c.f3.length = 0 ∧ 0 ≤ c.f2 ∧ c.f2 ≤ 2147483647) && decide (c.f0 > 1 → 2 ≤ c.f3.length ∧ c.f2 = 0)
def fZ : List ai → Bool
 | [] => true
 | x :: xs => (xs.all fun y => decide (y.f2 ≠ x.f2)) && fZ xs
def ny (pre : List ai) (x : ai) : Bool := pre.all fun y => decide (x.f2 ≠ y.f2)
theorem pR (pre : List ai) (x : ai) : fZ (pre ++ [x]) = (fZ pre && ny pre x) := by
 induction pre with
 | nil => simp [fZ, ny]
 | cons y ys ih =>
  have : (decide (x.f2 ≠ y.f2)) = decide (¬ x.f2 = y.f2) := rfl
  simp only [List.cons_append, fZ, ih, ny, List.all_append, List.all_cons, List.all_nil, Bool.and_true]
  cases (ys.all fun z => decide (z.f2 ≠ y.f2)) <;> cases (decide (x.f2 ≠ y.f2)) <;> cases fZ ys <;> cases (ys.all fun z => decide (x.f2 ≠ z.f2)) <;> rfl
theorem wL : ∀ (pre rest : List ai), fZ pre = false → fZ (pre ++ rest) = false := by
 intro pre rest h
 induction rest generalizing pre with
 | nil => rw [List.append_nil]; exact h
 | cons x xs ih =>
  have := ih (pre ++ [x]) (by rw [pR, h, Bool.false_and])
  rwa [List.append_assoc] at this
def lq (c : ai) : Bool := decide (sz c ≤ 20000) && ((gU c).all oL && fZ (nz c))
section
variable {W : World} {b : Nat} {P : Nat → Prop} {A : Option Addr} {cc : Nat}
theorem PQ (c : ai) (hz : sz c ≤ 1048576) (hV : Kd.V k26 26 W b P (.slice A c.f3.length cc) c.f3) :
  Calls Try.prog 79 #[.agg #[.int .u8 c.f0, .int .i64 c.f1.f0, .int .i64 c.f1.f1, .int .i64 c.f1.f2, .int .i64 c.f1.f3, .int .i64 c.f2, .slice A c.f3.length cc]] W fun e w' => ∃ A' c', e = .returned (.slice A' (gU c).length c') ∧ Kd.N k26 26 w' W.heap.size (fun k => P k ∨ W.heap.size ≤ k) (.slice A' (gU c).length c') (gU c) ∧ Below W.heap.size W w' := by
 obtain ⟨k, hk⟩ := (AY (sz c) c (Nat.le_refl _) hz).rounds
 exact (dn.calls k _ _ _ _ _ _ P A cc c.f3 _ W (fK hV) hk).mono (fun e w' ⟨v, he, hN, hB⟩ => by
  obtain ⟨A', c', rfl⟩ := Kd.jU hN
  exact ⟨A', c', he, hN, hB⟩)
theorem Un (c : ai) (hz : sz c ≤ 1048576) (hV : Kd.V k26 26 W b P (.slice A c.f3.length cc) c.f3) :
  Calls Try.prog 126 #[.agg #[.int .u8 c.f0, .int .i64 c.f1.f0, .int .i64 c.f1.f1, .int .i64 c.f1.f2, .int .i64 c.f1.f3, .int .i64 c.f2, .slice A c.f3.length cc]] W fun e w' => ∃ A' c', e = .returned (.slice A' (nz c).length c') ∧ Kd.N k26 26 w' W.heap.size (fun k => P k ∨ W.heap.size ≤ k) (.slice A' (nz c).length c') (nz c) ∧ Below W.heap.size W w' := by
 obtain ⟨k, hk⟩ := (QY c hz).rounds
 exact (dQ.calls k _ _ _ _ _ _ P A cc c.f3 _ W (fK hV) hk).mono (fun e w' ⟨v, he, hN, hB⟩ => by
  obtain ⟨A', c', rfl⟩ := Kd.jU hN
  exact ⟨A', c', he, hN, hB⟩)
theorem rQ {r : dE} {v : Bool} (h : mY r = v) : Calls Try.prog 57 #[.agg #[.int .i64 r.f0, .int .i64 r.f1, .int .i64 r.f2, .int .i64 r.f3]] W fun e w' => e = .returned (.bool v) ∧ Below W.heap.size W w' :=
 nC.calls _ _ _ _ _ W ((Dv _ _ _ _).trans (congrArg some h))
end
def nN (L M : List ai) : Bool := decide (L.length ≤ 20000) && (L.all oL && fZ M)
theorem qM {pre rest M : List ai} {k : ai} (h : oL k = false) : nN (pre ++ k :: rest) M = false := by
 unfold nN
 rw [List.all_append, List.all_cons, h, Bool.false_and, Bool.and_false, Bool.false_and, Bool.and_false]
theorem vS {k : ai} (h : mY k.f1 = false ∨ k.f0 < 1 ∨ 3 < k.f0 ∨ (k.f0 = 1 ∧ (0 < k.f3.length ∨ k.f2 < 0 ∨ 2147483647 < k.f2)) ∨ (1 < k.f0 ∧ (k.f3.length < 2 ∨ k.f2 ≠ 0))) : oL k = false := by
 cases hk : oL k with
 | false => rfl
 | true =>
  exfalso
  unfold oL at hk
  simp only [Bool.and_eq_true, decide_eq_true_eq] at hk
  obtain ⟨⟨⟨h1, h2⟩, h3⟩, h4⟩ := hk
  rcases h with h | h | h | h | h
  ·rw [h1] at h; cases h
  ·omega
  ·omega
  ·have := h3 h.1; omega
  ·have := h4 h.1; omega
theorem MQ {k : ai} (h1 : mY k.f1 = true) (h2 : 1 ≤ k.f0 ∧ k.f0 ≤ 3) (h3 : k.f0 = 1 → k.f3.length = 0 ∧ 0 ≤ k.f2 ∧ k.f2 ≤ 2147483647) (h4 : k.f0 > 1 → 2 ≤ k.f3.length ∧ k.f2 = 0) : oL k = true := by
 unfold oL
 rw [h1, decide_eq_true h2, decide_eq_true h3, decide_eq_true h4]
 rfl
theorem KJ {pre rest : List ai} {k : ai} (h : ny pre k = false) : fZ (pre ++ k :: rest) = false := by
 have h2 : fZ (pre ++ [k]) = false := by rw [pR, h, Bool.and_false]
 have h3 := wL (pre ++ [k]) rest h2
 rwa [List.append_assoc] at h3
theorem adO (c : ai) (hz : sz c ≤ 1048576) (A : Option Addr) (cc : Nat) (w : World) (hr : Kd.C k26 w A c.f3.length c.f3) (hc : c.f3.length ≤ cc) :
  Calls Try.prog 38 #[.agg #[.int .u8 c.f0, .int .i64 c.f1.f0, .int .i64 c.f1.f1, .int .i64 c.f1.f2, .int .i64 c.f1.f3, .int .i64 c.f2, .slice A c.f3.length cc]] w fun e w' => e = .returned (.bool (lq c)) ∧ Below w.heap.size w w' := by
 have S := ae.mk (St.start (ts := [(.slice A c.f3.length cc, c.f3)]) (b0 := w.heap.size) (w := w) (P := fun k => k < w.heap.size) (fun t ht => by
  rw [List.mem_singleton.1 ht]; exact Kd.uN hc (Kd.Dh nZ hr)))
 have HZ := ae.mk hz
 have HM := ae.mk (show lq c = nN (gU c) (nz c) from rfl)
 have Zw := ae.mk (show (gU c).length ≤ 1048576 from hz)
 have Vq := ae.mk (show (nz c).length ≤ 1048576 from Nat.le_trans (List.length_filter_le _ _) hz)
 clear hr hc hz
 obtain ⟨ck, ⟨cx, cy, cw, ch⟩, aj, l⟩ := c
 simp only [] at S HZ HM Zw Vq
 have TZ := fun W b P A cc hV => @PQ W b P A cc ⟨ck, ⟨cx, cy, cw, ch⟩, aj, l⟩ HZ.out hV
 have T_ := fun W b P A cc hV => @Un W b P A cc ⟨ck, ⟨cx, cy, cw, ch⟩, aj, l⟩ HZ.out hV
 rw [HM.out]
 generalize gU ⟨ck, ⟨cx, cy, cw, ch⟩, aj, l⟩ = L at HM Zw TZ ⊢
 generalize nz ⟨ck, ⟨cx, cy, cw, ch⟩, aj, l⟩ = M at HM Vq T_ ⊢
 have HA := ae.mk TZ
 have HLE := ae.mk T_
 clear HM TZ T_
 by_cases hl : 20000 < L.length
 case pos =>
  have hla : decide (20000 < (L.length : Int)) = true := decide_eq_true (by omega)
  have hlb : decide ((L.length : Int) > 20000) = true := decide_eq_true (by omega)
  have hlc : decide (20000 < L.length) = true := decide_eq_true (by omega)
  have HB := ae.mk (show nN L M = false by unfold nN; rw [decide_eq_false (by omega), Bool.false_and])
  clear hl
  go_enter Try.func38, Try.ntmps38
  go_wp2_with (first
   | ((with_reducible refine az 1 rfl ?_); refine boxS 1 #[.int .u8 ck, .int .i64 cx, .int .i64 cy, .int .i64 cw, .int .i64 ch, .int .i64 aj, .slice A l.length cc] 26 S ?_; clear S; intro b1 fF S; obtain ⟨bG, dV, dW, dZ, d_, fC, b_⟩ := St.iJ S (.head _))
   | ((with_reducible refine az 9 rfl ?_); refine uk (some 9) Try.func79 S (HA.out _ _ _ _ _ (S.out.tree _ (.head _))) ?_; clear S; intro Aa ca iw S; clear bG dV dW dZ d_ fC b_)
   | fail)
  go_ret
  refine ⟨?_, S.out.below⟩
  rw [HB.out]
  rfl
 have hla : decide (20000 < (L.length : Int)) = false := decide_eq_false (by omega)
 have hlb : decide ((L.length : Int) > 20000) = false := decide_eq_false (by omega)
 have hlc : decide (20000 < L.length) = false := decide_eq_false (by omega)
 have HL := ae.mk hl
 clear hl
 go_enter Try.func38, Try.ntmps38
 go_wp2_with (first
  | ((with_reducible refine az 1 rfl ?_); refine boxS 1 #[.int .u8 ck, .int .i64 cx, .int .i64 cy, .int .i64 cw, .int .i64 ch, .int .i64 aj, .slice A l.length cc] 26 S ?_; clear S; intro b1 jT S; obtain ⟨bG, dV, dW, dZ, d_, fC, b_⟩ := St.iJ S (.head _))
  | ((with_reducible refine az 9 rfl ?_); refine uk (some 9) Try.func79 S (HA.out _ _ _ _ _ (S.out.tree _ (.head _))) ?_; clear S; intro Aa ca lQ S; clear bG dV dW dZ d_ fC b_)
  | fail)
 clear hla hlb hlc
 go_loopg [15] L.length (fun gg v15 wr => ∃ (pre rest : List ai), v15 = .int .i64 (pre.length : Int) ∧ ae (pre ++ rest = L) ∧ rest.length ≤ gg ∧ ae (pre.all oL = true) ∧ ae (St w (fun k => k < w.heap.size) [(some b1, .cells #[.int .u8 ck, .int .i64 cx, .int .i64 cy, .int .i64 cw, .int .i64 ch, .int .i64 aj, .slice A l.length cc] 26 (0, 0))] [] [(.slice Aa L.length ca, L), (.slice A l.length cc, l)] [] wr))
 case atStart => exact ⟨[], L, rfl, ⟨rfl⟩, Nat.le_refl _, ⟨rfl⟩, ⟨S.out⟩⟩
 case round =>
  clear S
  obtain ⟨pre, rest, rfl, HE, hgg, Py, S⟩ := hrel
  cases rest with
  | cons k rest =>
   have hlt : (pre.length : Int) < (L.length : Int) := by rw [← HE.out, List.length_append, List.length_cons]; omega
   have hw1 : wrap64 ((pre.length : Int) + 1) = ((pre ++ [k]).length : Int) := by have := Zw.out; rw [List.length_append, List.length_singleton]; unfold wrap64; omega
   have HW1 := ae.mk hw1
   have jd := ae.mk hgg
   obtain ⟨iO, ua, uc, ek, S1⟩ := S.out.elem (.head _) (pre.length : Int) (Int.natCast_nonneg _) hlt
   subst ek
   have hrd : aI L (pre.length : Int) = k := by rw [← HE.out]; exact iZ pre k rest
   rw [hrd] at S1
   simp only [Int.toNat_natCast] at S1
   replace S := ae.mk S1
   clear S1 hrd hgg hw1
   cases hmr : mY k.f1 with
   | false =>
    have yj := ae.mk hmr
    clear hmr
    have HB := ae.mk (show nN L M = false by rw [← HE.out]; exact qM (vS (.inl yj.out)))
    have jb := (S.out.cell _ (.tail _ (.head _))).1
    have jc := (S.out.cell _ (.tail _ (.tail _ (.head _)))).1
    have iG := (S.out.cell _ (.tail _ (.tail _ (.tail _ (.head _))))).1
    have iH := (S.out.cell _ (.tail _ (.tail _ (.tail _ (.tail _ (.head _)))))).1
    go_wp2_with (first
     | ((with_reducible refine az 23 rfl ?_); refine dN (some 23) Try.func57 S (rQ yj.out) ?_; clear S; intro tC S; clear jb jc iG iH)
     | fail)
    go_ret
    refine ⟨?_, S.out.below⟩
    rw [HB.out]
    rfl
   | true =>
    have yj := ae.mk hmr
    clear hmr
    by_cases h1 : k.f0 < 1
    case pos =>
     have h1a : decide (k.f0 < 1) = true := decide_eq_true (by omega)
     have h1b : decide (1 > k.f0) = true := decide_eq_true (by omega)
     have HB := ae.mk (show nN L M = false by rw [← HE.out]; exact qM (vS (.inr (.inl h1))))
     have jb := (S.out.cell _ (.tail _ (.head _))).1
     have jc := (S.out.cell _ (.tail _ (.tail _ (.head _)))).1
     have iG := (S.out.cell _ (.tail _ (.tail _ (.tail _ (.head _))))).1
     have iH := (S.out.cell _ (.tail _ (.tail _ (.tail _ (.tail _ (.head _)))))).1
     go_wp2_with (first
      | ((with_reducible refine az 23 rfl ?_); refine dN (some 23) Try.func57 S (rQ yj.out) ?_; clear S; intro Cc S; clear jb jc iG iH; have jB := (S.out.cell _ (.head _)).1)
      | fail)
     clear jB
     go_ret
     refine ⟨?_, S.out.below⟩
     rw [HB.out]
     rfl
    have h1a : decide (k.f0 < 1) = false := decide_eq_false (by omega)
    have h1b : decide (1 > k.f0) = false := decide_eq_false (by omega)
    by_cases h3 : 3 < k.f0
    case pos =>
     have h3a : decide (3 < k.f0) = true := decide_eq_true (by omega)
     have h3b : decide (k.f0 > 3) = true := decide_eq_true (by omega)
     have HB := ae.mk (show nN L M = false by rw [← HE.out]; exact qM (vS (.inr (.inr (.inl h3)))))
     have jb := (S.out.cell _ (.tail _ (.head _))).1
     have jc := (S.out.cell _ (.tail _ (.tail _ (.head _)))).1
     have iG := (S.out.cell _ (.tail _ (.tail _ (.tail _ (.head _))))).1
     have iH := (S.out.cell _ (.tail _ (.tail _ (.tail _ (.tail _ (.head _)))))).1
     go_wp2_with (first
      | ((with_reducible refine az 23 rfl ?_); refine dN (some 23) Try.func57 S (rQ yj.out) ?_; clear S; intro AB S; clear jb jc iG iH; have jB := (S.out.cell _ (.head _)).1)
      | fail)
     clear jB
     go_ret
     refine ⟨?_, S.out.below⟩
     rw [HB.out]
     rfl
    have h3a : decide (3 < k.f0) = false := decide_eq_false (by omega)
    have h3b : decide (k.f0 > 3) = false := decide_eq_false (by omega)
    by_cases h4 : k.f0 = 1
    case pos =>
     have Ba : (k.f0 == 1) = true := beq_iff_eq.mpr h4
     have h4d : decide (k.f0 = 1) = true := decide_eq_true h4
     by_cases h5 : 0 < k.f3.length
     case pos =>
      have h5a : decide (0 < (k.f3.length : Int)) = true := decide_eq_true (by omega)
      have EK : decide ((k.f3.length : Int) > 0) = true := decide_eq_true (by omega)
      have Qe : decide (0 < k.f3.length) = true := decide_eq_true (by omega)
      have HB := ae.mk (show nN L M = false by rw [← HE.out]; exact qM (vS (.inr (.inr (.inr (.inl ⟨h4, .inl h5⟩))))))
      have jb := (S.out.cell _ (.tail _ (.head _))).1
      have jc := (S.out.cell _ (.tail _ (.tail _ (.head _)))).1
      have iG := (S.out.cell _ (.tail _ (.tail _ (.tail _ (.head _))))).1
      have iH := (S.out.cell _ (.tail _ (.tail _ (.tail _ (.tail _ (.head _)))))).1
      go_wp2_with (first
       | ((with_reducible refine az 23 rfl ?_); refine dN (some 23) Try.func57 S (rQ yj.out) ?_; clear S; intro Fb S; clear jb jc iG iH; have jB := (S.out.cell _ (.head _)).1; have jO := (S.out.cell _ (.tail _ (.tail _ (.tail _ (.tail _ (.tail _ (.tail _ (.head _)))))))).1)
       | fail)
      clear jB jO
      go_ret
      refine ⟨?_, S.out.below⟩
      rw [HB.out]
      rfl
     have h5a : decide (0 < (k.f3.length : Int)) = false := decide_eq_false (by omega)
     have EK : decide ((k.f3.length : Int) > 0) = false := decide_eq_false (by omega)
     have Qe : decide (0 < k.f3.length) = false := decide_eq_false (by omega)
     by_cases h6 : k.f2 < 0
     case pos =>
      have h6a : decide (k.f2 < 0) = true := decide_eq_true (by omega)
      have Qg : decide (0 > k.f2) = true := decide_eq_true (by omega)
      have HB := ae.mk (show nN L M = false by rw [← HE.out]; exact qM (vS (.inr (.inr (.inr (.inl ⟨h4, .inr (.inl h6)⟩))))))
      have jb := (S.out.cell _ (.tail _ (.head _))).1
      have jc := (S.out.cell _ (.tail _ (.tail _ (.head _)))).1
      have iG := (S.out.cell _ (.tail _ (.tail _ (.tail _ (.head _))))).1
      have iH := (S.out.cell _ (.tail _ (.tail _ (.tail _ (.tail _ (.head _)))))).1
      go_wp2_with (first
       | ((with_reducible refine az 23 rfl ?_); refine dN (some 23) Try.func57 S (rQ yj.out) ?_; clear S; intro H9 S; clear jb jc iG iH; have jB := (S.out.cell _ (.head _)).1; have jO := (S.out.cell _ (.tail _ (.tail _ (.tail _ (.tail _ (.tail _ (.tail _ (.head _)))))))).1; have jM := (S.out.cell _ (.tail _ (.tail _ (.tail _ (.tail _ (.tail _ (.head _))))))).1)
       | fail)
      clear jB jO jM
      go_ret
      refine ⟨?_, S.out.below⟩
      rw [HB.out]
      rfl
     have h6a : decide (k.f2 < 0) = false := decide_eq_false (by omega)
     have Qg : decide (0 > k.f2) = false := decide_eq_false (by omega)
     by_cases h7 : 2147483647 < k.f2
     case pos =>
      have h7a : decide (2147483647 < k.f2) = true := decide_eq_true (by omega)
      have h7b : decide (k.f2 > 2147483647) = true := decide_eq_true (by omega)
      have HB := ae.mk (show nN L M = false by rw [← HE.out]; exact qM (vS (.inr (.inr (.inr (.inl ⟨h4, .inr (.inr h7)⟩))))))
      have jb := (S.out.cell _ (.tail _ (.head _))).1
      have jc := (S.out.cell _ (.tail _ (.tail _ (.head _)))).1
      have iG := (S.out.cell _ (.tail _ (.tail _ (.tail _ (.head _))))).1
      have iH := (S.out.cell _ (.tail _ (.tail _ (.tail _ (.tail _ (.head _)))))).1
      go_wp2_with (first
       | ((with_reducible refine az 23 rfl ?_); refine dN (some 23) Try.func57 S (rQ yj.out) ?_; clear S; intro Gy S; clear jb jc iG iH; have jB := (S.out.cell _ (.head _)).1; have jO := (S.out.cell _ (.tail _ (.tail _ (.tail _ (.tail _ (.tail _ (.tail _ (.head _)))))))).1; have jM := (S.out.cell _ (.tail _ (.tail _ (.tail _ (.tail _ (.tail _ (.head _))))))).1)
       | fail)
      clear jB jO jM
      go_ret
      refine ⟨?_, S.out.below⟩
      rw [HB.out]
      rfl
     have h7a : decide (2147483647 < k.f2) = false := decide_eq_false (by omega)
     have h7b : decide (k.f2 > 2147483647) = false := decide_eq_false (by omega)
     have h8a : decide (1 < k.f0) = false := decide_eq_false (by omega)
     have h8b : decide (k.f0 > 1) = false := decide_eq_false (by omega)
     have HG := ae.mk (MQ yj.out (by omega) (by omega) (by omega))
     have jb := (S.out.cell _ (.tail _ (.head _))).1
     have jc := (S.out.cell _ (.tail _ (.tail _ (.head _)))).1
     have iG := (S.out.cell _ (.tail _ (.tail _ (.tail _ (.head _))))).1
     have iH := (S.out.cell _ (.tail _ (.tail _ (.tail _ (.tail _ (.head _)))))).1
     go_wp2_with (first
      | ((with_reducible refine az 23 rfl ?_); refine dN (some 23) Try.func57 S (rQ yj.out) ?_; clear S; intro Ee S; clear jb jc iG iH; have jB := (S.out.cell _ (.head _)).1; have jO := (S.out.cell _ (.tail _ (.tail _ (.tail _ (.tail _ (.tail _ (.tail _ (.head _)))))))).1; have jM := (S.out.cell _ (.tail _ (.tail _ (.tail _ (.tail _ (.tail _ (.head _))))))).1)
      | fail)
     clear jB jO jM
     have hw1 := HW1.out
     go_wp2
     go_roundg rest.length
     case measure => exact Nat.lt_of_lt_of_le (Nat.lt_succ_self _) jd.out
     case rel => exact ⟨pre ++ [k], rest, (by rw [hw1]), ⟨by rw [List.append_assoc]; exact HE.out⟩, Nat.le_refl _, ⟨by rw [List.all_append, Py.out, List.all_cons, HG.out]; rfl⟩, ⟨S.out.bH.aU.aU.aU.aU.aU.aU.aU⟩⟩
    have Ba : (k.f0 == 1) = false := beq_eq_false_iff_ne.mpr h4
    have h4d : decide (k.f0 = 1) = false := decide_eq_false h4
    have h8a : decide (1 < k.f0) = true := decide_eq_true (by omega)
    have h8b : decide (k.f0 > 1) = true := decide_eq_true (by omega)
    by_cases h5 : k.f3.length < 2
    case pos =>
     have h5a : decide ((k.f3.length : Int) < 2) = true := decide_eq_true (by omega)
     have EK : decide (2 > (k.f3.length : Int)) = true := decide_eq_true (by omega)
     have Qe : decide (k.f3.length < 2) = true := decide_eq_true (by omega)
     have HB := ae.mk (show nN L M = false by rw [← HE.out]; exact qM (vS (.inr (.inr (.inr (.inr ⟨by omega, .inl h5⟩))))))
     have jb := (S.out.cell _ (.tail _ (.head _))).1
     have jc := (S.out.cell _ (.tail _ (.tail _ (.head _)))).1
     have iG := (S.out.cell _ (.tail _ (.tail _ (.tail _ (.head _))))).1
     have iH := (S.out.cell _ (.tail _ (.tail _ (.tail _ (.tail _ (.head _)))))).1
     go_wp2_with (first
      | ((with_reducible refine az 23 rfl ?_); refine dN (some 23) Try.func57 S (rQ yj.out) ?_; clear S; intro KF S; clear jb jc iG iH; have jB := (S.out.cell _ (.head _)).1; have jO := (S.out.cell _ (.tail _ (.tail _ (.tail _ (.tail _ (.tail _ (.tail _ (.head _)))))))).1)
      | fail)
     clear jB jO
     go_ret
     refine ⟨?_, S.out.below⟩
     rw [HB.out]
     rfl
    have h5a : decide ((k.f3.length : Int) < 2) = false := decide_eq_false (by omega)
    have EK : decide (2 > (k.f3.length : Int)) = false := decide_eq_false (by omega)
    have Qe : decide (k.f3.length < 2) = false := decide_eq_false (by omega)
    by_cases h6 : k.f2 = 0
    case neg =>
     have Qg : (k.f2 != 0) = true := bne_iff_ne.mpr h6
     have h6c : (k.f2 == 0) = false := beq_eq_false_iff_ne.mpr h6
     have h6d : decide (k.f2 = 0) = false := decide_eq_false h6
     have HB := ae.mk (show nN L M = false by rw [← HE.out]; exact qM (vS (.inr (.inr (.inr (.inr ⟨by omega, .inr h6⟩))))))
     have jb := (S.out.cell _ (.tail _ (.head _))).1
     have jc := (S.out.cell _ (.tail _ (.tail _ (.head _)))).1
     have iG := (S.out.cell _ (.tail _ (.tail _ (.tail _ (.head _))))).1
     have iH := (S.out.cell _ (.tail _ (.tail _ (.tail _ (.tail _ (.head _)))))).1
     go_wp2_with (first
      | ((with_reducible refine az 23 rfl ?_); refine dN (some 23) Try.func57 S (rQ yj.out) ?_; clear S; intro KG S; clear jb jc iG iH; have jB := (S.out.cell _ (.head _)).1; have jO := (S.out.cell _ (.tail _ (.tail _ (.tail _ (.tail _ (.tail _ (.tail _ (.head _)))))))).1; have jM := (S.out.cell _ (.tail _ (.tail _ (.tail _ (.tail _ (.tail _ (.head _))))))).1)
      | fail)
     clear jB jO jM
     go_ret
     refine ⟨?_, S.out.below⟩
     rw [HB.out]
     rfl
    have Qg : (k.f2 != 0) = false := bne_eq_false_iff_eq.mpr h6
    have h6c : (k.f2 == 0) = true := beq_iff_eq.mpr h6
    have h6d : decide (k.f2 = 0) = true := decide_eq_true h6
    have HG := ae.mk (MQ yj.out (by omega) (by omega) (by omega))
    have jb := (S.out.cell _ (.tail _ (.head _))).1
    have jc := (S.out.cell _ (.tail _ (.tail _ (.head _)))).1
    have iG := (S.out.cell _ (.tail _ (.tail _ (.tail _ (.head _))))).1
    have iH := (S.out.cell _ (.tail _ (.tail _ (.tail _ (.tail _ (.head _)))))).1
    go_wp2_with (first
     | ((with_reducible refine az 23 rfl ?_); refine dN (some 23) Try.func57 S (rQ yj.out) ?_; clear S; intro U9 S; clear jb jc iG iH; have jB := (S.out.cell _ (.head _)).1; have jO := (S.out.cell _ (.tail _ (.tail _ (.tail _ (.tail _ (.tail _ (.tail _ (.head _)))))))).1; have jM := (S.out.cell _ (.tail _ (.tail _ (.tail _ (.tail _ (.tail _ (.head _))))))).1)
     | fail)
    clear jB jO jM
    have hw1 := HW1.out
    go_wp2
    go_roundg rest.length
    case measure => exact Nat.lt_of_lt_of_le (Nat.lt_succ_self _) jd.out
    case rel => exact ⟨pre ++ [k], rest, (by rw [hw1]), ⟨by rw [List.append_assoc]; exact HE.out⟩, Nat.le_refl _, ⟨by rw [List.all_append, Py.out, List.all_cons, HG.out]; rfl⟩, ⟨S.out.bH.aU.aU.aU.aU.aU.aU.aU⟩⟩
  | nil =>
   have hE := HE.out
   rw [List.append_nil] at hE
   subst hE
   clear HE hgg
   have hlt : ¬ ((pre.length : Int) < (pre.length : Int)) := by omega
   obtain ⟨bG, dV, dW, dZ, d_, fC, b_⟩ := St.iJ S (.head _)
   go_wp2_with (first
    | ((with_reducible refine az 99 rfl ?_); refine uk (some 99) Try.func126 S (HLE.out _ _ _ _ _ (S.out.tree _ (.tail _ (.head _)))) ?_; clear S; intro Al cl O7 S; clear bG dV dW dZ d_ fC b_)
    | fail)
   go_loopg [102] M.length (fun gg afs wr => ∃ (pm rest : List ai), afs = .int .i64 (pm.length : Int) ∧ ae (pm ++ rest = M) ∧ rest.length ≤ gg ∧ ae (fZ pm = true) ∧ ae (St w (fun k => k < w.heap.size) [(some b1, .cells #[.int .u8 ck, .int .i64 cx, .int .i64 cy, .int .i64 cw, .int .i64 ch, .int .i64 aj, .slice A l.length cc] 26 (0, 0))] [] [(.slice Al M.length cl, M), (.slice Aa pre.length ca, pre), (.slice A l.length cc, l)] [] wr))
   case atStart => exact ⟨[], M, rfl, ⟨rfl⟩, Nat.le_refl _, ⟨rfl⟩, ⟨S.out⟩⟩
   case round =>
    clear S
    rename World => wz
    obtain ⟨pm, rest, rfl, HE, hgg, HD, S⟩ := hrel
    cases rest with
    | nil =>
     have hE := HE.out
     rw [List.append_nil] at hE
     subst hE
     have hlt : ¬ ((pm.length : Int) < (pm.length : Int)) := by omega
     have HB := ae.mk (show nN pre pm = true by unfold nN; rw [Py.out, HD.out, decide_eq_true (by have := HL.out; omega)]; rfl)
     go_wp2
     go_ret
     refine ⟨?_, S.out.below⟩
     rw [HB.out]
     rfl
    | cons k rest =>
     have hlt : (pm.length : Int) < (M.length : Int) := by rw [← HE.out, List.length_append, List.length_cons]; omega
     have hw1 : wrap64 ((pm.length : Int) + 1) = ((pm ++ [k]).length : Int) := by have := Vq.out; rw [List.length_append, List.length_singleton]; unfold wrap64; omega
     have HW1 := ae.mk hw1
     have jd := ae.mk hgg
     have HPM := ae.mk (show pm.length ≤ 1048576 by have := Vq.out; omega)
     have Vp := ae.mk hlt
     obtain ⟨iO, ua, uc, ek, S1⟩ := S.out.elem (.head _) (pm.length : Int) (Int.natCast_nonneg _) hlt
     subst ek
     have hrd : aI M (pm.length : Int) = k := by rw [← HE.out]; exact iZ pm k rest
     rw [hrd] at S1
     simp only [Int.toNat_natCast] at S1
     replace S := ae.mk S1
     clear S1 hrd hgg hw1
     go_wp2
     have HK0 := ae.mk (show ny [] k = true from rfl)
     go_loopg [7] pm.length (fun gg v7 wr => ∃ (pa pb : List ai), v7 = .int .i64 (pa.length : Int) ∧ ae (pa ++ pb = pm) ∧ pb.length ≤ gg ∧ ae (ny pa k = true) ∧ ae (St w (fun k => k < w.heap.size) [(some b1, .cells #[.int .u8 ck, .int .i64 cx, .int .i64 cy, .int .i64 cw, .int .i64 ch, .int .i64 aj, .slice A l.length cc] 26 (0, 0))] [] [(.slice ua k.f3.length uc, k.f3), (.slice (some iO) M.length cl, M), (.slice Aa pre.length ca, pre), (.slice A l.length cc, l)] [((iO.add (pm.length * 7)), .int .u8 k.f0), (⟨(iO.add (pm.length * 7)).block, (iO.add (pm.length * 7)).off + 1, none⟩, .int .i64 k.f1.f0), (⟨(iO.add (pm.length * 7)).block, (iO.add (pm.length * 7)).off + 2, none⟩, .int .i64 k.f1.f1), (⟨(iO.add (pm.length * 7)).block, (iO.add (pm.length * 7)).off + 3, none⟩, .int .i64 k.f1.f2), (⟨(iO.add (pm.length * 7)).block, (iO.add (pm.length * 7)).off + 4, none⟩, .int .i64 k.f1.f3), (⟨(iO.add (pm.length * 7)).block, (iO.add (pm.length * 7)).off + 5, none⟩, .int .i64 k.f2), (⟨(iO.add (pm.length * 7)).block, (iO.add (pm.length * 7)).off + 6, none⟩, .slice ua k.f3.length uc)] wr))
     case atStart => exact ⟨[], pm, rfl, ⟨rfl⟩, Nat.le_refl _, ⟨rfl⟩, ⟨S.out⟩⟩
     case round =>
      clear S
      rename World => wy
      obtain ⟨pa, pb, rfl, HE2, hgg, HAP, S⟩ := hrel
      cases pb with
      | nil =>
       have hE := HE2.out
       rw [List.append_nil] at hE
       subst hE
       have hlt : ¬ ((pa.length : Int) < (pa.length : Int)) := by omega
       go_wp2
       have hw1 := HW1.out
       go_wp2
       go_roundg rest.length
       case measure => exact Nat.lt_of_lt_of_le (Nat.lt_succ_self _) jd.out
       case rel => exact ⟨pa ++ [k], rest, (by rw [hw1]), ⟨by rw [List.append_assoc]; exact HE.out⟩, Nat.le_refl _, ⟨by rw [pR, HD.out, HAP.out]; rfl⟩, ⟨S.out.bH.aU.aU.aU.aU.aU.aU.aU⟩⟩
      | cons q pb =>
       have hlt : (pa.length : Int) < (pm.length : Int) := by rw [← HE2.out, List.length_append, List.length_cons]; omega
       have hlt0 := Vp.out
       have hlt2 : (pa.length : Int) < (M.length : Int) := by omega
       have hw1 : wrap64 ((pa.length : Int) + 1) = ((pa ++ [q]).length : Int) := by have := HPM.out; rw [List.length_append, List.length_singleton]; unfold wrap64; omega
       have HW2 := ae.mk hw1
       have aeJ := ae.mk hgg
       obtain ⟨adq, va, vc, P9, S1⟩ := S.out.elem (.tail _ (.head _)) (pa.length : Int) (Int.natCast_nonneg _) hlt2
       injection P9 with P9
       subst P9
       have hrd : aI M (pa.length : Int) = q := by rw [← HE.out, ← HE2.out, List.append_assoc]; exact iZ pa q (pb ++ k :: rest)
       rw [hrd] at S1
       simp only [Int.toNat_natCast] at S1
       replace S := ae.mk S1
       clear S1 hrd hgg hw1
       by_cases hq : k.f2 = q.f2
       case pos =>
        have hqb : (k.f2 == q.f2) = true := beq_iff_eq.mpr hq
        have hqd : decide (k.f2 = q.f2) = true := decide_eq_true hq
        have HQ := ae.mk hq
        clear hq
        have KI := (S.out.cell _ (.tail _ (.tail _ (.tail _ (.tail _ (.tail _ (.tail _ (.tail _ (.tail _ (.tail _ (.tail _ (.tail _ (.tail _ (.head _)))))))))))))).1
        have jM := (S.out.cell _ (.tail _ (.tail _ (.tail _ (.tail _ (.tail _ (.head _))))))).1
        go_wp2
        go_quiet (fail)
        clear KI jM
        replace S := ae.mk (S.out.call (dP (Below.refl _ _) nq))
        generalize wr.drewN nq = ajL at S ⊢
        go_wp2
        have HB := ae.mk (show nN pre M = false by unfold nN; rw [← HE.out, KJ (by rw [← HE2.out]; unfold ny; rw [List.all_append, List.all_cons, decide_eq_false (by have := HQ.out; simpa using this), Bool.false_and, Bool.and_false]), Bool.and_false, Bool.and_false])
        go_ret
        refine ⟨?_, S.out.below⟩
        rw [HB.out]
        rfl
       case neg =>
        have hqb : (k.f2 == q.f2) = false := beq_eq_false_iff_ne.mpr hq
        have hqd : decide (k.f2 = q.f2) = false := decide_eq_false hq
        have HQ := ae.mk hq
        clear hq
        have KI := (S.out.cell _ (.tail _ (.tail _ (.tail _ (.tail _ (.tail _ (.tail _ (.tail _ (.tail _ (.tail _ (.tail _ (.tail _ (.tail _ (.head _)))))))))))))).1
        have jM := (S.out.cell _ (.tail _ (.tail _ (.tail _ (.tail _ (.tail _ (.head _))))))).1
        go_wp2
        go_quiet (fail)
        clear KI jM
        replace S := ae.mk (S.out.call (dP (Below.refl _ _) nq))
        generalize wr.drewN nq = ajM at S ⊢
        go_wp2
        have hw1 := HW2.out
        go_wp2
        go_roundg pb.length
        case measure => exact Nat.lt_of_lt_of_le (Nat.lt_succ_self _) aeJ.out
        case rel => exact ⟨pa ++ [q], pb, (by rw [hw1]), ⟨by rw [List.append_assoc]; exact HE2.out⟩, Nat.le_refl _, ⟨by unfold ny; rw [List.all_append, List.all_cons, decide_eq_true HQ.out]; rw [show (pa.all fun y => decide (k.f2 ≠ y.f2)) = true from HAP.out]; rfl⟩, ⟨S.out.bH.aU.aU.aU.aU.aU.aU.aU⟩⟩
def Y_.f (_ : Nat) (a0 a1 a2 a3 a4 a5 : Int) (l : List ai) : Option Bool := if sz ⟨a0, ⟨a1, a2, a3, a4⟩, a5, l⟩ ≤ 1048576 then some (lq ⟨a0, ⟨a1, a2, a3, a4⟩, a5, l⟩) else none
def fB (c : ai) : Bool := lq c && kW c
theorem oW {c : ai} (h : lq c = true) : sz c ≤ 20000 := by
 unfold lq at h
 simp only [Bool.and_eq_true, decide_eq_true_eq] at h
 omega
theorem ZY : ∀ (N : Nat), (∀ c : ai, sz c ≤ N → ∀ d, d ∈ gU c → sz d ≤ sz c) ∧ (∀ l : List ai, fV l ≤ N → ∀ d, d ∈ allL l → sz d ≤ fV l) := by
 intro N
 induction N with
 | zero =>
  refine ⟨fun c h => ?_, fun l h => ?_⟩
  ·rw [dR] at h; omega
  ·cases l with
   | nil => intro d hd; rw [o_] at hd; cases hd
   | cons z zs => rw [dU, dR] at h; omega
 | succ N ih =>
  have hC : ∀ c : ai, sz c ≤ N + 1 → ∀ d, d ∈ gU c → sz d ≤ sz c := by
   intro c h d hd
   have hs := dR c
   rw [sK] at hd
   rcases List.mem_cons.1 hd with rfl | hd
   ·exact Nat.le_refl _
   ·have := ih.2 c.f3 (by omega) d hd
    omega
  refine ⟨hC, fun l => ?_⟩
  induction l with
  | nil => intro _ d hd; rw [o_] at hd; cases hd
  | cons x xs ihl =>
   intro h d hd
   rw [dU] at h ⊢
   rw [nI] at hd
   rcases List.mem_append.1 hd with hd | hd
   ·have := hC x (by omega) d hd
    omega
   ·have := ihl (by omega) d hd
    omega
theorem Tc {c d : ai} (h : d ∈ gU c) : d.f3.length + 1 ≤ sz c := by
 have h1 := (ZY (sz c)).1 c (Nat.le_refl _) d h
 have h2 := dR d
 have h3 := jJ d.f3
 omega
section
variable {W : World} {b : Nat} {P : Nat → Prop} {A : Option Addr} {cc : Nat}
theorem abV (c : ai) (h : ql c = false) (hl : c.f3.length ≤ 1000000) (hV : Kd.V k26 26 W b P (.slice A c.f3.length cc) c.f3) : Calls Try.prog 178 #[.agg #[.int .u8 c.f0, .int .i64 c.f1.f0, .int .i64 c.f1.f1, .int .i64 c.f1.f2, .int .i64 c.f1.f3, .int .i64 c.f2, .slice A c.f3.length cc]] W fun e w' => ∃ A n cc, e = .returned (.tuple #[.slice A n cc, .bool false]) ∧ Below W.heap.size W w' :=
 (Rh c hl b P A cc W hV).mono (fun _ _ ⟨A, n, cc, h1, _, h3⟩ => ⟨A, n, cc, by rw [h1, h], h3⟩)
theorem YA (c : ai) (h : ql c = true) (hl : c.f3.length ≤ 1000000) (hV : Kd.V k26 26 W b P (.slice A c.f3.length cc) c.f3) : Calls Try.prog 178 #[.agg #[.int .u8 c.f0, .int .i64 c.f1.f0, .int .i64 c.f1.f1, .int .i64 c.f1.f2, .int .i64 c.f1.f3, .int .i64 c.f2, .slice A c.f3.length cc]] W fun e w' => ∃ A cc ls, e = .returned (.tuple #[.slice A ls.length cc, .bool true]) ∧ ls.length ≤ c.f3.length ∧ k23.R 23 w' W.heap.size (fun _ => True) (.slice A ls.length cc) ls ∧ Below W.heap.size W w' :=
 (Rh c hl b P A cc W hV).mono (fun _ _ ⟨A, n, cc, h1, h2, h3⟩ => by
  obtain ⟨ls, rfl, h4, h5⟩ := h2 h
  exact ⟨A, cc, ls, by rw [h1, h], h4, h5, h3⟩)
theorem VS {c : ai} {v : Bool} (h : lq c = v) (hz : sz c ≤ 1048576) (b : Nat) (P : Nat → Prop) (A : Option Addr) (cc : Nat) (W : World) (hV : Kd.V k26 26 W b P (.slice A c.f3.length cc) c.f3) : Calls Try.prog 38 #[.agg #[.int .u8 c.f0, .int .i64 c.f1.f0, .int .i64 c.f1.f1, .int .i64 c.f1.f2, .int .i64 c.f1.f3, .int .i64 c.f2, .slice A c.f3.length cc]] W fun e w' => e = .returned (.bool v) ∧ Below W.heap.size W w' := by
 have h1 := Kd.kz hV
 have h2 := adO c hz A cc W h1.2.2 h1.2.1
 rwa [h] at h2
end
abbrev II (w : World) (c : ai) (e : Ending) (w' : World) : Prop := ∃ A n cc n1 n2, e = .returned (.tuple #[.slice A n cc, .int .i64 n1, .int .i64 n2]) ∧ (n1 == 0) = fB c ∧ Below w.heap.size w w'
theorem Tz (c : ai) (hz : sz c ≤ 1048576) (b : Nat) (P : Nat → Prop) (A : Option Addr) (cc : Nat) (w : World) (hv : Kd.V k26 26 w b P (.slice A c.f3.length cc) c.f3) :
  Calls Try.prog 146 #[.agg #[.int .u8 c.f0, .int .i64 c.f1.f0, .int .i64 c.f1.f1, .int .i64 c.f1.f2, .int .i64 c.f1.f3, .int .i64 c.f2, .slice A c.f3.length cc]] w (II w c) := by
 have S := ae.mk (St.start (ts := [(.slice A c.f3.length cc, c.f3)]) (b0 := w.heap.size) (w := w) (P := P) (fun t ht => by rw [List.mem_singleton.1 ht]; exact fK hv))
 unfold II
 cases hm : lq c with
 | false =>
  have vK := ae.mk (fun b P A cc W hV => VS hm hz b P A cc W hV)
  rw [show fB c = false by unfold fB; rw [hm]; rfl]
  clear hm hv hz
  obtain ⟨ck, ⟨cx, cy, cw, ch⟩, aj, l⟩ := c
  simp only [] at S vK ⊢
  go_enter Try.func146, Try.ntmps146
  go_wp2_with (first
   | ((with_reducible refine az 1 rfl ?_); refine boxS 1 #[.int .u8 ck, .int .i64 cx, .int .i64 cy, .int .i64 cw, .int .i64 ch, .int .i64 aj, .slice A l.length cc] 26 S ?_; clear S; intro b1 fF S)
   | ((with_reducible refine az 11 rfl ?_); refine mD k23 23 rfl 11 S ?_; clear S; intro Ae ce oe iw S HKe; obtain ⟨bG, dV, dW, dZ, d_, fC, b_⟩ := St.iJ S (.tail _ (.head _)))
   | ((with_reducible refine az 13 rfl ?_); refine dN (some 13) Try.func38 S (vK.out _ _ _ _ _ (S.out.tree _ (.head _))) ?_; clear S; intro jT S; clear bG dV dW dZ d_ fC b_)
   | fail)
  go_ret3
  exact ⟨_, _, _, _, _, rfl, rfl, S.out.below⟩
 | true =>
  have vK := ae.mk (fun b P A cc W hV => VS hm hz b P A cc W hV)
  have Zm := ae.mk (fun b P A cc W hV => @PQ W b P A cc c hz hV)
  have hs := oW hm
  have hk : ∀ k, k ∈ gU c → k.f3.length ≤ 20000 := fun k hk => by have := Tc hk; omega
  have hlen : (gU c).length ≤ 20000 := hs
  have ht : fB c = (gU c).all ql := by unfold fB; rw [hm, Bool.true_and]; rfl
  rw [ht]
  generalize gU c = L at Zm hk hlen ⊢
  have gy := ae.mk hlen
  have HKK := ae.mk hk
  clear hm hv hz ht hs hk hlen
  obtain ⟨ck, ⟨cx, cy, cw, ch⟩, aj, l⟩ := c
  simp only [] at S vK Zm ⊢
  go_enter Try.func146, Try.ntmps146
  go_wp2_with (first
   | ((with_reducible refine az 1 rfl ?_); refine boxS 1 #[.int .u8 ck, .int .i64 cx, .int .i64 cy, .int .i64 cw, .int .i64 ch, .int .i64 aj, .slice A l.length cc] 26 S ?_; clear S; intro b1 fF S)
   | ((with_reducible refine az 11 rfl ?_); refine mD k23 23 rfl 11 S ?_; clear S; intro Ae ce oe iw S HKe; obtain ⟨bG, dV, dW, dZ, d_, fC, b_⟩ := St.iJ S (.tail _ (.head _)))
   | ((with_reducible refine az 13 rfl ?_); refine dN (some 13) Try.func38 S (vK.out _ _ _ _ _ (S.out.tree _ (.head _))) ?_; clear S; intro jT S; clear bG dV dW dZ d_ fC b_; obtain ⟨bG, dV, dW, dZ, d_, fC, b_⟩ := St.iJ S (.tail _ (.head _)))
   | ((with_reducible refine az 17 rfl ?_); refine uk (some 17) Try.func79 S (Zm.out _ _ _ _ _ (S.out.tree _ (.head _))) ?_; clear S; intro Aa ca lQ S; clear bG dV dW dZ d_ fC b_)
   | ((with_reducible refine az 18 rfl ?_); refine mD k23 23 rfl 18 S ?_; clear S; intro Ap cp op tC S iM)
   | fail)
  go_loopg [7, 21] L.length (fun gg v7 v21 wr => ∃ (pre rest : List ai) (out : List dE) (Ap : Option Addr) (cp : Nat) (op : Obj), v7 = .slice Ap out.length cp ∧ v21 = .int .i64 (pre.length : Int) ∧ ae (pre ++ rest = L) ∧ ae (pre.all ql = true) ∧ ae (out.length ≤ 20000 * pre.length) ∧ rest.length ≤ gg ∧ ae (KR k23 23 w.heap.size (.slice Ap out.length cp) out op) ∧ ae (St w P [((Value.slice Ap out.length cp).ownBlock, op), ((Value.slice Ae 0 ce).ownBlock, oe), (some b1, .cells #[.int .u8 ck, .int .i64 cx, .int .i64 cy, .int .i64 cw, .int .i64 ch, .int .i64 aj, .slice A l.length cc] 26 (0, 0))] [] [(.slice Aa L.length ca, L), (.slice A l.length cc, l)] [] wr))
  case atStart => exact ⟨[], L, [], _, _, _, rfl, rfl, ⟨rfl⟩, ⟨rfl⟩, ⟨Nat.zero_le _⟩, Nat.le_refl _, iM, S⟩
  case round =>
   clear S iM
   obtain ⟨pre, rest, out, Ap, cp, op, rfl, rfl, HE, HA, HOL, hgg, iM, S⟩ := hrel
   cases rest with
   | nil =>
    have hE := HE.out
    rw [List.append_nil] at hE
    have hE2 := hE.symm
    subst hE2
    clear hE HE hgg
    have hlt : ¬ ((L.length : Int) < (L.length : Int)) := by omega
    go_wp2
    go_ret3
    exact ⟨_, _, _, _, ⟨_, rfl⟩, HA.out.symm, S.out.below⟩
   | cons k rest =>
    have SG := ae.mk (HKK.out k (by rw [← HE.out]; simp))
    have HKL := ae.mk (show k.f3.length ≤ 1000000 by have := SG.out; omega)
    have aeK := ae.mk (show pre.length ≤ 20000 by have := gy.out; rw [← HE.out, List.length_append] at this; omega)
    have hk : k ∈ L := by rw [← HE.out]; simp
    have hlt : (pre.length : Int) < (L.length : Int) := by rw [← HE.out, List.length_append, List.length_cons]; omega
    have hw1 : wrap64 ((pre.length : Int) + 1) = ((pre ++ [k]).length : Int) := by have := gy.out; rw [List.length_append, List.length_singleton]; unfold wrap64; omega
    have HW1 := ae.mk hw1
    have jd := ae.mk hgg
    have HK := ae.mk hk
    have qB := ae.mk (show pre.length ≤ 1048576 by have := gy.out; omega)
    obtain ⟨iO, ua, uc, ek, S1⟩ := S.out.elem (.head _) (pre.length : Int) (Int.natCast_nonneg _) hlt
    subst ek
    have hrd : aI L (pre.length : Int) = k := by rw [← HE.out]; exact iZ pre k rest
    rw [hrd] at S1
    simp only [Int.toNat_natCast] at S1
    replace S := ae.mk S1
    clear S1 hrd hk hgg hw1
    cases ho : ql k with
    | false =>
     have HO := ae.mk ho
     clear ho
     obtain ⟨jB, jb, jc, iG, iH, jM, jO⟩ := St.yD S
     go_wp2_with (first
      | ((with_reducible refine az 29 rfl ?_); refine uj (some 29) Try.func178 (abV k HO.out HKL.out (S.out.tree _ (.head _))) ?_; rintro e fF ⟨Ax, nx, cx', rfl, hb⟩; refine ⟨_, rfl, ?_⟩; replace S := ae.mk (S.out.call hb); clear hb; clear jB jb jc iG iH jM jO)
      | fail)
     go_ret3
     exact ⟨_, _, _, _, _, rfl, (by rw [← HE.out, List.all_append, List.all_cons, HO.out, Bool.false_and, Bool.and_false]; rfl), S.out.below⟩
    | true =>
     have HO := ae.mk ho
     clear ho
     obtain ⟨jB, jb, jc, iG, iH, jM, jO⟩ := St.yD S
     go_wp2_with (first
      | ((with_reducible refine az 29 rfl ?_); refine uj (some 29) Try.func178 (YA k HO.out HKL.out (S.out.tree _ (.head _))) ?_; rintro e fF ⟨Ax, cx', ls, rfl, h0, h1, hb⟩; refine ⟨_, rfl, ?_⟩; obtain ⟨ox, S1, hI⟩ := S.out.OT (d := k23) (e := 23) rfl h1 hb; replace S := ae.mk S1; have HKx := ae.mk hI; have Le := ae.mk h0; clear S1 hI h0 h1 hb; clear jB jb jc iG iH jM jO)
      | ((with_reducible refine az 38 rfl ?_); at_builtin; replace S := ae.mk S.out.sO; refine Ti k23 23 rfl 36 37 42 _ 32 Try.underlying42 info23 rfl (by decide) (by decide) (by decide) S iM ls (ZF HKx.out S.out (.tail _ (.head _))).1 (fun _ _ _ _ _ h => h) (by have := HOL.out; have := Le.out; have := SG.out; have := aeK.out; omega) ?_; clear S iM; intro IG cp2 J4 iw S iM)
      | fail)
     have hw1 := HW1.out
     go_wp2
     go_roundg rest.length
     case measure => exact Nat.lt_of_lt_of_le (Nat.lt_succ_self _) jd.out
     case rel => exact ⟨pre ++ [k], rest, out ++ ls, _, _, _, (by rw [List.length_append]), (by rw [hw1]), ⟨by rw [List.append_assoc]; exact HE.out⟩, ⟨by rw [List.all_append, HA.out, List.all_cons, HO.out]; rfl⟩, ⟨by have := HOL.out; have := Le.out; have := SG.out; rw [List.length_append, List.length_append, List.length_singleton]; omega⟩, Nat.le_refl _, iM, ⟨S.out.sO.eH.Hl.Hl.Hl.bH.aU.aU.aU.aU.aU.aU.aU⟩⟩
theorem UT (c : ai) (hz : sz c ≤ 1048576) (b : Nat) (P : Nat → Prop) (A : Option Addr) (cc : Nat) (w : World) (hv : Kd.V k26 26 w b P (.slice A c.f3.length cc) c.f3) :
  Calls Try.prog 84 #[.agg #[.int .u8 c.f0, .int .i64 c.f1.f0, .int .i64 c.f1.f1, .int .i64 c.f1.f2, .int .i64 c.f1.f3, .int .i64 c.f2, .slice A c.f3.length cc]] w fun e w' => e = .returned (.bool (fB c)) ∧ Below w.heap.size w w' := by
 have S := ae.mk (St.start (ts := [(.slice A c.f3.length cc, c.f3)]) (b0 := w.heap.size) (w := w) (P := P) (fun t ht => by rw [List.mem_singleton.1 ht]; exact fK hv))
 have Vl := ae.mk (fun b P A cc W hV => Tz c hz b P A cc W hV)
 unfold II at Vl
 generalize fB c = v at Vl ⊢
 clear hv hz
 obtain ⟨ck, ⟨cx, cy, cw, ch⟩, aj, l⟩ := c
 simp only [] at S Vl ⊢
 go_enter Try.func84, Try.ntmps84
 go_wp2_with (first
  | ((with_reducible refine az 1 rfl ?_); refine boxS 1 #[.int .u8 ck, .int .i64 cx, .int .i64 cy, .int .i64 cw, .int .i64 ch, .int .i64 aj, .slice A l.length cc] 26 S ?_; clear S; intro b1 fF S; obtain ⟨bG, dV, dW, dZ, d_, fC, b_⟩ := St.iJ S (.head _))
  | ((with_reducible refine az 8 rfl ?_); refine uj (some 8) Try.func146 (Vl.out _ _ _ _ _ (S.out.tree _ (.head _))) ?_; rintro e iw ⟨Ax, nx, cx', n1, n2, rfl, hn, hb⟩; refine ⟨_, rfl, ?_⟩; have hn2 : decide (n1 = 0) = v := (by rw [← hn]; by_cases h : n1 = 0 <;> simp [h]); replace S := ae.mk (S.out.call hb); clear hb; clear bG dV dW dZ d_ fC b_)
  | fail)
 go_ret
 exact ⟨rfl, S.out.below⟩
def lW.f (_ : Nat) (a0 a1 a2 a3 a4 a5 : Int) (l : List ai) : Option Bool := if sz ⟨a0, ⟨a1, a2, a3, a4⟩, a5, l⟩ ≤ 1048576 then some (fB ⟨a0, ⟨a1, a2, a3, a4⟩, a5, l⟩) else none
theorem lW.calls (k : Nat) (ay : Int) (aJ : Int) (aA : Int) (aH : Int) (bu : Int) (bz : Int) (dK : Option Addr) (dL : Nat) (aK : List (ai)) (r : Bool) (w : World) (oC : Kd.C k26 w dK aK.length aK) (pz : aK.length ≤ dL) (h : lW.f k ay aJ aA aH bu bz aK = some r) :
  Calls Try.prog 84 #[.agg #[.int .u8 ay, .int .i64 aJ, .int .i64 aA, .int .i64 aH, .int .i64 bu, .int .i64 bz, .slice dK aK.length dL]] w fun e w' => e = .returned (.bool r) ∧ Below w.heap.size w w' := by
 unfold lW.f at h
 split at h
 ·rename_i hz
  injection h with h
  subst h
  exact UT ⟨ay, ⟨aJ, aA, aH, bu⟩, bz, aK⟩ hz w.heap.size (fun _ => True) dK dL w (Kd.uN pz (Kd.pM (Kd.Dh nZ oC) (fun _ _ => trivial)))
 ·cases h
theorem Kr (c : ai) (hz : sz c ≤ 1048576) : Ev (fun k => lW.f k c.f0 c.f1.f0 c.f1.f1 c.f1.f2 c.f1.f3 c.f2 c.f3) (fB c) := by
 refine Ev.congr (f := fun _ => some (fB c)) (fun k => ?_) (Ev.now _)
 unfold lW.f
 rw [CS, if_pos hz]
end Go.Proofs.Ytfdmfgaiblfbhaa.P
namespace Go.Proofs.Ytfdmfgaiblfbhaa.P
open Go.RowKit Go.Proofs.ag.aV Go.Proofs.ag.bM Go.Proofs.ag.di
attribute [local go_sem] kC kP lh lU jR jS kN kQ
def nS.f (ay : Int) (aJ : Int) (aA : Int) (aH : Int) (bu : Int) (bz : Int) (aK : List (ai)) (a1 : Int) : Option (Bool) := if ay = 2 then (if a1 = 1 then (some true) else (if ay = 3 then (some (a1 == 2)) else (some false))) else (if ay = 3 then (some (a1 == 2)) else (some false))
theorem nS.calls (ay : Int) (aJ : Int) (aA : Int) (aH : Int) (bu : Int) (bz : Int) (dK : Option Addr) (dL : Nat) (aK : List (ai)) (a1 : Int) (r : Bool) (w : World) (oC : Kd.C k26 w dK aK.length aK) (pz : aK.length ≤ dL) (h : nS.f ay aJ aA aH bu bz aK a1 = some r) :
  Calls Try.prog 88 #[.agg #[.int .u8 ay, .int .i64 aJ, .int .i64 aA, .int .i64 aH, .int .i64 bu, .int .i64 bz, .slice dK aK.length dL], .int .u8 a1] w fun e w' => e = .returned (.bool r) ∧ Below w.heap.size w w' := by
 have F7 := Try.underlying26
 clear oC pz
 have HB := ae.mk (Below.refl w.heap.size w)
 have H : (if ay = 2 then (if a1 = 1 then (some true) else (if ay = 3 then (some (a1 == 2)) else (some false))) else (if ay = 3 then (some (a1 == 2)) else (some false))) = some r := h
 clear h
 by_cases c3 : ay = 2
 ·rw [if_pos c3] at H
  have nY : (ay == 2) = true := beq_iff_eq.mpr c3
  have ug : (ay != 2) = false := bne_eq_false_iff_eq.mpr c3
  clear c3
  by_cases c4 : a1 = 1
  ·rw [if_pos c4] at H
   have wK : (a1 == 1) = true := beq_iff_eq.mpr c4
   have Jo : (a1 != 1) = false := bne_eq_false_iff_eq.mpr c4
   clear c4
   obtain rfl := Option.some.inj H
   go_enter Try.func88, Try.ntmps88
   go_wp2_with (((with_reducible refine aC (N := 2) rfl ?_); refine aW ?hg (N := 2) ?hd (cs := #[.int .u8 ay, .int .i64 aJ, .int .i64 aA, .int .i64 aH, .int .i64 bu, .int .i64 bz, .slice dK aK.length dL]) (t := 26) ?hr ?_; (case hd => rfl); (case hg => rfl); (case hr => (go_simp; done)); intro gX hg w5 hbox hb; have dB := ae.mk (hbox); replace HB := ae.mk (ak (by repeat ((with_reducible exact HB.out))) hb); clear hb hbox hg; have Bd : w5.cell? ⟨gX, 0, none⟩ = some (.int .u8 ay) := (af dB.out 0).trans rfl; have Be : w5.cell? ⟨gX, 1, none⟩ = some (.int .i64 aJ) := (af dB.out 1).trans rfl; have Bf : w5.cell? ⟨gX, 2, none⟩ = some (.int .i64 aA) := (af dB.out 2).trans rfl; have Bg : w5.cell? ⟨gX, 3, none⟩ = some (.int .i64 aH) := (af dB.out 3).trans rfl; have Bh : w5.cell? ⟨gX, 4, none⟩ = some (.int .i64 bu) := (af dB.out 4).trans rfl; have Bi : w5.cell? ⟨gX, 5, none⟩ = some (.int .i64 bz) := (af dB.out 5).trans rfl; have Bj : w5.cell? ⟨gX, 6, none⟩ = some (.slice dK aK.length dL) := (af dB.out 6).trans rfl; have Bl := ah dB.out 0; have Bo := ah dB.out 1; have Bq := ah dB.out 2; have Bv := ah dB.out 3; have Bz := ah dB.out 4; have BA := ah dB.out 5; have BB := ah dB.out 6))
   go_ret
   exact ⟨by rfl, by repeat ((with_reducible exact HB.out))⟩
  ·rw [if_neg c4] at H
   have wK : (a1 == 1) = false := beq_eq_false_iff_ne.mpr c4
   have Jo : (a1 != 1) = true := bne_iff_ne.mpr c4
   by_cases c7 : ay = 3
   ·rw [if_pos c7] at H
    have qH : (ay == 3) = true := beq_iff_eq.mpr c7
    have NU : (ay != 3) = false := bne_eq_false_iff_eq.mpr c7
    clear c7
    obtain rfl := Option.some.inj H
    go_enter Try.func88, Try.ntmps88
    go_wp2_with (((with_reducible refine aC (N := 2) rfl ?_); refine aW ?hg (N := 2) ?hd (cs := #[.int .u8 ay, .int .i64 aJ, .int .i64 aA, .int .i64 aH, .int .i64 bu, .int .i64 bz, .slice dK aK.length dL]) (t := 26) ?hr ?_; (case hd => rfl); (case hg => rfl); (case hr => (go_simp; done)); intro gX hg w8 hbox hb; have dB := ae.mk (hbox); replace HB := ae.mk (ak (by repeat ((with_reducible exact HB.out))) hb); clear hb hbox hg; have Qr : w8.cell? ⟨gX, 0, none⟩ = some (.int .u8 ay) := (af dB.out 0).trans rfl; have Qs : w8.cell? ⟨gX, 1, none⟩ = some (.int .i64 aJ) := (af dB.out 1).trans rfl; have Qu : w8.cell? ⟨gX, 2, none⟩ = some (.int .i64 aA) := (af dB.out 2).trans rfl; have Qv : w8.cell? ⟨gX, 3, none⟩ = some (.int .i64 aH) := (af dB.out 3).trans rfl; have Qw : w8.cell? ⟨gX, 4, none⟩ = some (.int .i64 bu) := (af dB.out 4).trans rfl; have Qx : w8.cell? ⟨gX, 5, none⟩ = some (.int .i64 bz) := (af dB.out 5).trans rfl; have Qy : w8.cell? ⟨gX, 6, none⟩ = some (.slice dK aK.length dL) := (af dB.out 6).trans rfl; have QK := ah dB.out 0; have QL := ah dB.out 1; have QM := ah dB.out 2; have QN := ah dB.out 3; have QO := ah dB.out 4; have QP := ah dB.out 5; have QQ := ah dB.out 6))
    go_ret
    exact ⟨by rfl, by repeat ((with_reducible exact HB.out))⟩
   ·rw [if_neg c7] at H
    have qH : (ay == 3) = false := beq_eq_false_iff_ne.mpr c7
    have NU : (ay != 3) = true := bne_iff_ne.mpr c7
    obtain rfl := Option.some.inj H
    go_enter Try.func88, Try.ntmps88
    go_wp2_with (((with_reducible refine aC (N := 2) rfl ?_); refine aW ?hg (N := 2) ?hd (cs := #[.int .u8 ay, .int .i64 aJ, .int .i64 aA, .int .i64 aH, .int .i64 bu, .int .i64 bz, .slice dK aK.length dL]) (t := 26) ?hr ?_; (case hd => rfl); (case hg => rfl); (case hr => (go_simp; done)); intro gX hg w10 hbox hb; have dB := ae.mk (hbox); replace HB := ae.mk (ak (by repeat ((with_reducible exact HB.out))) hb); clear hb hbox hg; have WI : w10.cell? ⟨gX, 0, none⟩ = some (.int .u8 ay) := (af dB.out 0).trans rfl; have WJ : w10.cell? ⟨gX, 1, none⟩ = some (.int .i64 aJ) := (af dB.out 1).trans rfl; have WL : w10.cell? ⟨gX, 2, none⟩ = some (.int .i64 aA) := (af dB.out 2).trans rfl; have WM : w10.cell? ⟨gX, 3, none⟩ = some (.int .i64 aH) := (af dB.out 3).trans rfl; have WN : w10.cell? ⟨gX, 4, none⟩ = some (.int .i64 bu) := (af dB.out 4).trans rfl; have WO : w10.cell? ⟨gX, 5, none⟩ = some (.int .i64 bz) := (af dB.out 5).trans rfl; have WQ : w10.cell? ⟨gX, 6, none⟩ = some (.slice dK aK.length dL) := (af dB.out 6).trans rfl; have Xv := ah dB.out 0; have Xw := ah dB.out 1; have Xx := ah dB.out 2; have Xy := ah dB.out 3; have Xz := ah dB.out 4; have XA := ah dB.out 5; have XB := ah dB.out 6))
    go_ret
    exact ⟨by rfl, by repeat ((with_reducible exact HB.out))⟩
 ·rw [if_neg c3] at H
  have nY : (ay == 2) = false := beq_eq_false_iff_ne.mpr c3
  have ug : (ay != 2) = true := bne_iff_ne.mpr c3
  by_cases c12 : ay = 3
  ·rw [if_pos c12] at H
   have wU : (ay == 3) = true := beq_iff_eq.mpr c12
   have EE : (ay != 3) = false := bne_eq_false_iff_eq.mpr c12
   clear c12
   obtain rfl := Option.some.inj H
   go_enter Try.func88, Try.ntmps88
   go_wp2_with (((with_reducible refine aC (N := 2) rfl ?_); refine aW ?hg (N := 2) ?hd (cs := #[.int .u8 ay, .int .i64 aJ, .int .i64 aA, .int .i64 aH, .int .i64 bu, .int .i64 bz, .slice dK aK.length dL]) (t := 26) ?hr ?_; (case hd => rfl); (case hg => rfl); (case hr => (go_simp; done)); intro gX hg qP hbox hb; have dB := ae.mk (hbox); replace HB := ae.mk (ak (by repeat ((with_reducible exact HB.out))) hb); clear hb hbox hg; have FO : qP.cell? ⟨gX, 0, none⟩ = some (.int .u8 ay) := (af dB.out 0).trans rfl; have FP : qP.cell? ⟨gX, 1, none⟩ = some (.int .i64 aJ) := (af dB.out 1).trans rfl; have FQ : qP.cell? ⟨gX, 2, none⟩ = some (.int .i64 aA) := (af dB.out 2).trans rfl; have FT : qP.cell? ⟨gX, 3, none⟩ = some (.int .i64 aH) := (af dB.out 3).trans rfl; have WZ : qP.cell? ⟨gX, 4, none⟩ = some (.int .i64 bu) := (af dB.out 4).trans rfl; have W9 : qP.cell? ⟨gX, 5, none⟩ = some (.int .i64 bz) := (af dB.out 5).trans rfl; have W_ : qP.cell? ⟨gX, 6, none⟩ = some (.slice dK aK.length dL) := (af dB.out 6).trans rfl; have FU := ah dB.out 0; have FV := ah dB.out 1; have FW := ah dB.out 2; have FX := ah dB.out 3; have XK := ah dB.out 4; have XL := ah dB.out 5; have XM := ah dB.out 6))
   go_ret
   exact ⟨by rfl, by repeat ((with_reducible exact HB.out))⟩
  ·rw [if_neg c12] at H
   have wU : (ay == 3) = false := beq_eq_false_iff_ne.mpr c12
   have EE : (ay != 3) = true := bne_iff_ne.mpr c12
   obtain rfl := Option.some.inj H
   go_enter Try.func88, Try.ntmps88
   go_wp2_with (((with_reducible refine aC (N := 2) rfl ?_); refine aW ?hg (N := 2) ?hd (cs := #[.int .u8 ay, .int .i64 aJ, .int .i64 aA, .int .i64 aH, .int .i64 bu, .int .i64 bz, .slice dK aK.length dL]) (t := 26) ?hr ?_; (case hd => rfl); (case hg => rfl); (case hr => (go_simp; done)); intro gX hg ry hbox hb; have dB := ae.mk (hbox); replace HB := ae.mk (ak (by repeat ((with_reducible exact HB.out))) hb); clear hb hbox hg; have LZ : ry.cell? ⟨gX, 0, none⟩ = some (.int .u8 ay) := (af dB.out 0).trans rfl; have L6 : ry.cell? ⟨gX, 1, none⟩ = some (.int .i64 aJ) := (af dB.out 1).trans rfl; have L8 : ry.cell? ⟨gX, 2, none⟩ = some (.int .i64 aA) := (af dB.out 2).trans rfl; have L9 : ry.cell? ⟨gX, 3, none⟩ = some (.int .i64 aH) := (af dB.out 3).trans rfl; have Xa : ry.cell? ⟨gX, 4, none⟩ = some (.int .i64 bu) := (af dB.out 4).trans rfl; have Xb : ry.cell? ⟨gX, 5, none⟩ = some (.int .i64 bz) := (af dB.out 5).trans rfl; have Xc : ry.cell? ⟨gX, 6, none⟩ = some (.slice dK aK.length dL) := (af dB.out 6).trans rfl; have MB := ah dB.out 0; have MC := ah dB.out 1; have MF := ah dB.out 2; have MG := ah dB.out 3; have XN := ah dB.out 4; have XO := ah dB.out 5; have XP := ah dB.out 6))
   go_ret
   exact ⟨by rfl, by repeat ((with_reducible exact HB.out))⟩
def p_.f (ay : Int) (aJ : Int) (aA : Int) (aH : Int) (bu : Int) (bz : Int) (aK : List (ai)) (a1 : Int) : Option (Bool) := if ay = 2 then (if a1 = 1 then (some true) else (if ay = 3 then (some (a1 == 2)) else (some false))) else (if ay = 3 then (some (a1 == 2)) else (some false))
theorem p_.calls (ay : Int) (aJ : Int) (aA : Int) (aH : Int) (bu : Int) (bz : Int) (dK : Option Addr) (dL : Nat) (aK : List (ai)) (a1 : Int) (r : Bool) (w : World) (oC : Kd.C k26 w dK aK.length aK) (pz : aK.length ≤ dL) (h : p_.f ay aJ aA aH bu bz aK a1 = some r) :
  Calls Try.prog 99 #[.agg #[.int .u8 ay, .int .i64 aJ, .int .i64 aA, .int .i64 aH, .int .i64 bu, .int .i64 bz, .slice dK aK.length dL], .int .u8 a1] w fun e w' => e = .returned (.bool r) ∧ Below w.heap.size w w' := by
 have F7 := Try.underlying26
 clear oC pz
 have HB := ae.mk (Below.refl w.heap.size w)
 have H : (if ay = 2 then (if a1 = 1 then (some true) else (if ay = 3 then (some (a1 == 2)) else (some false))) else (if ay = 3 then (some (a1 == 2)) else (some false))) = some r := h
 clear h
 by_cases c3 : ay = 2
 ·rw [if_pos c3] at H
  have nY : (ay == 2) = true := beq_iff_eq.mpr c3
  have ug : (ay != 2) = false := bne_eq_false_iff_eq.mpr c3
  clear c3
  by_cases c4 : a1 = 1
  ·rw [if_pos c4] at H
   have wK : (a1 == 1) = true := beq_iff_eq.mpr c4
   have Jo : (a1 != 1) = false := bne_eq_false_iff_eq.mpr c4
   clear c4
   obtain rfl := Option.some.inj H
   go_enter Try.func99, Try.ntmps99
   go_wp2_with (((with_reducible refine aC (N := 2) rfl ?_); refine aW ?hg (N := 2) ?hd (cs := #[.int .u8 ay, .int .i64 aJ, .int .i64 aA, .int .i64 aH, .int .i64 bu, .int .i64 bz, .slice dK aK.length dL]) (t := 26) ?hr ?_; (case hd => rfl); (case hg => rfl); (case hr => (go_simp; done)); intro gW hg w5 hbox hb; have dA := ae.mk (hbox); replace HB := ae.mk (ak (by repeat ((with_reducible exact HB.out))) hb); clear hb hbox hg; have Bd : w5.cell? ⟨gW, 0, none⟩ = some (.int .u8 ay) := (af dA.out 0).trans rfl; have Be : w5.cell? ⟨gW, 1, none⟩ = some (.int .i64 aJ) := (af dA.out 1).trans rfl; have Bf : w5.cell? ⟨gW, 2, none⟩ = some (.int .i64 aA) := (af dA.out 2).trans rfl; have Bg : w5.cell? ⟨gW, 3, none⟩ = some (.int .i64 aH) := (af dA.out 3).trans rfl; have Bh : w5.cell? ⟨gW, 4, none⟩ = some (.int .i64 bu) := (af dA.out 4).trans rfl; have Bi : w5.cell? ⟨gW, 5, none⟩ = some (.int .i64 bz) := (af dA.out 5).trans rfl; have Bj : w5.cell? ⟨gW, 6, none⟩ = some (.slice dK aK.length dL) := (af dA.out 6).trans rfl; have Bl := ah dA.out 0; have Bo := ah dA.out 1; have Bq := ah dA.out 2; have Bv := ah dA.out 3; have Bz := ah dA.out 4; have BA := ah dA.out 5; have BB := ah dA.out 6))
   go_ret
   exact ⟨by rfl, by repeat ((with_reducible exact HB.out))⟩
  ·rw [if_neg c4] at H
   have wK : (a1 == 1) = false := beq_eq_false_iff_ne.mpr c4
   have Jo : (a1 != 1) = true := bne_iff_ne.mpr c4
   by_cases c7 : ay = 3
   ·rw [if_pos c7] at H
    have qH : (ay == 3) = true := beq_iff_eq.mpr c7
    have NU : (ay != 3) = false := bne_eq_false_iff_eq.mpr c7
    clear c7
    obtain rfl := Option.some.inj H
    go_enter Try.func99, Try.ntmps99
    go_wp2_with (((with_reducible refine aC (N := 2) rfl ?_); refine aW ?hg (N := 2) ?hd (cs := #[.int .u8 ay, .int .i64 aJ, .int .i64 aA, .int .i64 aH, .int .i64 bu, .int .i64 bz, .slice dK aK.length dL]) (t := 26) ?hr ?_; (case hd => rfl); (case hg => rfl); (case hr => (go_simp; done)); intro gW hg w8 hbox hb; have dA := ae.mk (hbox); replace HB := ae.mk (ak (by repeat ((with_reducible exact HB.out))) hb); clear hb hbox hg; have Qr : w8.cell? ⟨gW, 0, none⟩ = some (.int .u8 ay) := (af dA.out 0).trans rfl; have Qs : w8.cell? ⟨gW, 1, none⟩ = some (.int .i64 aJ) := (af dA.out 1).trans rfl; have Qu : w8.cell? ⟨gW, 2, none⟩ = some (.int .i64 aA) := (af dA.out 2).trans rfl; have Qv : w8.cell? ⟨gW, 3, none⟩ = some (.int .i64 aH) := (af dA.out 3).trans rfl; have Qw : w8.cell? ⟨gW, 4, none⟩ = some (.int .i64 bu) := (af dA.out 4).trans rfl; have Qx : w8.cell? ⟨gW, 5, none⟩ = some (.int .i64 bz) := (af dA.out 5).trans rfl; have Qy : w8.cell? ⟨gW, 6, none⟩ = some (.slice dK aK.length dL) := (af dA.out 6).trans rfl; have QK := ah dA.out 0; have QL := ah dA.out 1; have QM := ah dA.out 2; have QN := ah dA.out 3; have QO := ah dA.out 4; have QP := ah dA.out 5; have QQ := ah dA.out 6))
    go_ret
    exact ⟨by rfl, by repeat ((with_reducible exact HB.out))⟩
   ·rw [if_neg c7] at H
    have qH : (ay == 3) = false := beq_eq_false_iff_ne.mpr c7
    have NU : (ay != 3) = true := bne_iff_ne.mpr c7
    obtain rfl := Option.some.inj H
    go_enter Try.func99, Try.ntmps99
    go_wp2_with (((with_reducible refine aC (N := 2) rfl ?_); refine aW ?hg (N := 2) ?hd (cs := #[.int .u8 ay, .int .i64 aJ, .int .i64 aA, .int .i64 aH, .int .i64 bu, .int .i64 bz, .slice dK aK.length dL]) (t := 26) ?hr ?_; (case hd => rfl); (case hg => rfl); (case hr => (go_simp; done)); intro gW hg w10 hbox hb; have dA := ae.mk (hbox); replace HB := ae.mk (ak (by repeat ((with_reducible exact HB.out))) hb); clear hb hbox hg; have WI : w10.cell? ⟨gW, 0, none⟩ = some (.int .u8 ay) := (af dA.out 0).trans rfl; have WJ : w10.cell? ⟨gW, 1, none⟩ = some (.int .i64 aJ) := (af dA.out 1).trans rfl; have WL : w10.cell? ⟨gW, 2, none⟩ = some (.int .i64 aA) := (af dA.out 2).trans rfl; have WM : w10.cell? ⟨gW, 3, none⟩ = some (.int .i64 aH) := (af dA.out 3).trans rfl; have WN : w10.cell? ⟨gW, 4, none⟩ = some (.int .i64 bu) := (af dA.out 4).trans rfl; have WO : w10.cell? ⟨gW, 5, none⟩ = some (.int .i64 bz) := (af dA.out 5).trans rfl; have WQ : w10.cell? ⟨gW, 6, none⟩ = some (.slice dK aK.length dL) := (af dA.out 6).trans rfl; have Xv := ah dA.out 0; have Xw := ah dA.out 1; have Xx := ah dA.out 2; have Xy := ah dA.out 3; have Xz := ah dA.out 4; have XA := ah dA.out 5; have XB := ah dA.out 6))
    go_ret
    exact ⟨by rfl, by repeat ((with_reducible exact HB.out))⟩
 ·rw [if_neg c3] at H
  have nY : (ay == 2) = false := beq_eq_false_iff_ne.mpr c3
  have ug : (ay != 2) = true := bne_iff_ne.mpr c3
  by_cases c12 : ay = 3
  ·rw [if_pos c12] at H
   have wU : (ay == 3) = true := beq_iff_eq.mpr c12
   have EE : (ay != 3) = false := bne_eq_false_iff_eq.mpr c12
   clear c12
   obtain rfl := Option.some.inj H
   go_enter Try.func99, Try.ntmps99
   go_wp2_with (((with_reducible refine aC (N := 2) rfl ?_); refine aW ?hg (N := 2) ?hd (cs := #[.int .u8 ay, .int .i64 aJ, .int .i64 aA, .int .i64 aH, .int .i64 bu, .int .i64 bz, .slice dK aK.length dL]) (t := 26) ?hr ?_; (case hd => rfl); (case hg => rfl); (case hr => (go_simp; done)); intro gW hg qP hbox hb; have dA := ae.mk (hbox); replace HB := ae.mk (ak (by repeat ((with_reducible exact HB.out))) hb); clear hb hbox hg; have FO : qP.cell? ⟨gW, 0, none⟩ = some (.int .u8 ay) := (af dA.out 0).trans rfl; have FP : qP.cell? ⟨gW, 1, none⟩ = some (.int .i64 aJ) := (af dA.out 1).trans rfl; have FQ : qP.cell? ⟨gW, 2, none⟩ = some (.int .i64 aA) := (af dA.out 2).trans rfl; have FT : qP.cell? ⟨gW, 3, none⟩ = some (.int .i64 aH) := (af dA.out 3).trans rfl; have WZ : qP.cell? ⟨gW, 4, none⟩ = some (.int .i64 bu) := (af dA.out 4).trans rfl; have W9 : qP.cell? ⟨gW, 5, none⟩ = some (.int .i64 bz) := (af dA.out 5).trans rfl; have W_ : qP.cell? ⟨gW, 6, none⟩ = some (.slice dK aK.length dL) := (af dA.out 6).trans rfl; have FU := ah dA.out 0; have FV := ah dA.out 1; have FW := ah dA.out 2; have FX := ah dA.out 3; have XK := ah dA.out 4; have XL := ah dA.out 5; have XM := ah dA.out 6))
   go_ret
   exact ⟨by rfl, by repeat ((with_reducible exact HB.out))⟩
  ·rw [if_neg c12] at H
   have wU : (ay == 3) = false := beq_eq_false_iff_ne.mpr c12
   have EE : (ay != 3) = true := bne_iff_ne.mpr c12
   obtain rfl := Option.some.inj H
   go_enter Try.func99, Try.ntmps99
   go_wp2_with (((with_reducible refine aC (N := 2) rfl ?_); refine aW ?hg (N := 2) ?hd (cs := #[.int .u8 ay, .int .i64 aJ, .int .i64 aA, .int .i64 aH, .int .i64 bu, .int .i64 bz, .slice dK aK.length dL]) (t := 26) ?hr ?_; (case hd => rfl); (case hg => rfl); (case hr => (go_simp; done)); intro gW hg ry hbox hb; have dA := ae.mk (hbox); replace HB := ae.mk (ak (by repeat ((with_reducible exact HB.out))) hb); clear hb hbox hg; have LZ : ry.cell? ⟨gW, 0, none⟩ = some (.int .u8 ay) := (af dA.out 0).trans rfl; have L6 : ry.cell? ⟨gW, 1, none⟩ = some (.int .i64 aJ) := (af dA.out 1).trans rfl; have L8 : ry.cell? ⟨gW, 2, none⟩ = some (.int .i64 aA) := (af dA.out 2).trans rfl; have L9 : ry.cell? ⟨gW, 3, none⟩ = some (.int .i64 aH) := (af dA.out 3).trans rfl; have Xa : ry.cell? ⟨gW, 4, none⟩ = some (.int .i64 bu) := (af dA.out 4).trans rfl; have Xb : ry.cell? ⟨gW, 5, none⟩ = some (.int .i64 bz) := (af dA.out 5).trans rfl; have Xc : ry.cell? ⟨gW, 6, none⟩ = some (.slice dK aK.length dL) := (af dA.out 6).trans rfl; have MB := ah dA.out 0; have MC := ah dA.out 1; have MF := ah dA.out 2; have MG := ah dA.out 3; have XN := ah dA.out 4; have XO := ah dA.out 5; have XP := ah dA.out 6))
   go_ret
   exact ⟨by rfl, by repeat ((with_reducible exact HB.out))⟩
end Go.Proofs.Ytfdmfgaiblfbhaa.P
namespace Go.Proofs.Ytfdmfgaiblfbhaa.P
open Go.RowKit Go.Proofs.ag.aV Go.Proofs.ag.bM Go.Proofs.ag.di
def jf (ax k : Int) : Bool := (k == 2 && ax == 1) || (k == 3 && ax == 2)
theorem zJ (c : ai) (ax : Int) : p_.f c.f0 c.f1.f0 c.f1.f1 c.f1.f2 c.f1.f3 c.f2 c.f3 ax = some (jf ax c.f0) := by
 unfold p_.f jf
 by_cases h2 : c.f0 = 2
 ·by_cases h1 : ax = 1
  ·rw [if_pos h2, if_pos h1]; simp [h2, h1]
  ·rw [if_pos h2, if_neg h1, if_neg (by omega)]; simp [h2, h1]
 ·rw [if_neg h2]
  by_cases h3 : c.f0 = 3
  ·rw [if_pos h3]; simp [h3]
  ·rw [if_neg h3]; simp [h2, h3]
theorem Dt (c : ai) (ax : Int) : nS.f c.f0 c.f1.f0 c.f1.f1 c.f1.f2 c.f1.f3 c.f2 c.f3 ax = some (jf ax c.f0) := zJ c ax
mutual
def dF (ax : Int) : ai → Int
 | ⟨a, _, _, l⟩ => if a = 1 then 1 else if jf ax a = true then ((l.length : Int) - 1) + mr ax l else oD ax 0 l
def mr (ax : Int) : List ai → Int
 | [] => 0
 | k :: ks => dF ax k + mr ax ks
def oD (ax : Int) : Int → List ai → Int
 | m, [] => m
 | m, k :: ks => oD ax (mx m (dF ax k)) ks
end
theorem vN (ax : Int) (c : ai) : dF ax c = if c.f0 = 1 then 1 else if jf ax c.f0 = true then ((c.f3.length : Int) - 1) + mr ax c.f3 else oD ax 0 c.f3 := by cases c; simp [dF]
theorem sF (ax : Int) : mr ax [] = 0 := by simp [mr]
theorem sV (ax : Int) (k : ai) (ks : List ai) : mr ax (k :: ks) = dF ax k + mr ax ks := by simp [mr]
theorem U2 (ax : Int) (a b : List ai) : mr ax (a ++ b) = mr ax a + mr ax b := by
 induction a with
 | nil => rw [List.nil_append, sF]; omega
 | cons x xs ih => rw [List.cons_append, sV, sV, ih]; omega
theorem qN (ax m : Int) : oD ax m [] = m := by simp [oD]
theorem pI (ax m : Int) (k : ai) (ks : List ai) : oD ax m (k :: ks) = oD ax (mx m (dF ax k)) ks := by simp [oD]
theorem VT {a b c : Int} (h : a ≤ c) (k : b ≤ c) : mx a b ≤ c := by unfold mx; split <;> omega
theorem QX (a b : Int) : a ≤ mx a b := by unfold mx; split <;> omega
theorem abM (a b : Int) : b ≤ mx a b := by unfold mx; split <;> omega
theorem Hw (ax : Int) : ∀ (N : Nat), (∀ c : ai, sz c ≤ N → -(sz c : Int) ≤ dF ax c ∧ dF ax c ≤ 2 * (sz c : Int) - 1) ∧
  (∀ l : List ai, fV l ≤ N → -(fV l : Int) ≤ mr ax l ∧ mr ax l ≤ 2 * (fV l : Int) - (l.length : Int)) ∧ (∀ l : List ai, fV l ≤ N → ∀ m : Int, m ≤ oD ax m l ∧ ∀ u, m ≤ u → 2 * (fV l : Int) ≤ u → oD ax m l ≤ u) := by
 intro N
 induction N with
 | zero =>
  refine ⟨fun c h => ?_, fun l h => ?_, fun l h => ?_⟩
  ·rw [dR] at h; omega
  ·cases l with
   | nil => rw [sF, qf]; simp
   | cons z zs => rw [dU, dR] at h; omega
  ·cases l with
   | nil => intro m; rw [qN]; exact ⟨Int.le_refl _, fun u h _ => h⟩
   | cons z zs => rw [dU, dR] at h; omega
 | succ N ih =>
  have hC : ∀ c : ai, sz c ≤ N + 1 → -(sz c : Int) ≤ dF ax c ∧ dF ax c ≤ 2 * (sz c : Int) - 1 := by
   intro c h
   have hs := dR c
   have h1 := ih.2.1 c.f3 (by omega)
   have h2 := ih.2.2 c.f3 (by omega) 0
   have h3 := h2.2 (2 * (fV c.f3 : Int)) (by omega) (Int.le_refl _)
   rw [vN]
   split
   ·omega
   ·split
    ·omega
    ·omega
  refine ⟨hC, fun l => ?_, fun l => ?_⟩
  ·induction l with
   | nil => intro _; rw [sF, qf]; simp
   | cons x xs ihl =>
    intro h
    rw [dU] at h ⊢
    have h1 := hC x (by omega)
    have h2 := ihl (by omega)
    rw [sV, List.length_cons]
    omega
  ·induction l with
   | nil => intro _ m; rw [qN]; exact ⟨Int.le_refl _, fun u h _ => h⟩
   | cons x xs ihl =>
    intro h m
    rw [dU] at h ⊢
    have h1 := hC x (by omega)
    have h2 := ihl (by omega) (mx m (dF ax x))
    rw [pI]
    refine ⟨Int.le_trans (QX m (dF ax x)) h2.1, fun u hu hu2 => h2.2 u (VT hu (by omega)) (by omega)⟩
theorem Gl {c x : ai} (h : (gU c).all oL = true) (hx : x ∈ c.f3) : (gU x).all oL = true := by
 rw [sK, List.all_cons, Bool.and_eq_true] at h
 obtain ⟨p, q, e⟩ := List.append_of_mem hx
 have h2 := h.2
 rw [e, zI, nI, List.all_append, List.all_append] at h2
 simp only [Bool.and_eq_true] at h2
 exact h2.2.1
theorem uX {c : ai} (h : (gU c).all oL = true) : oL c = true := by
 rw [sK, List.all_cons, Bool.and_eq_true] at h
 exact h.1
theorem J3 {c : ai} (h : oL c = true) : (c.f0 = 1 ∧ c.f3.length = 0) ∨ ((c.f0 = 2 ∨ c.f0 = 3) ∧ 2 ≤ c.f3.length) := by
 unfold oL at h
 simp only [Bool.and_eq_true, decide_eq_true_eq] at h
 obtain ⟨⟨⟨_, h1⟩, h2⟩, h3⟩ := h
 by_cases e : c.f0 = 1
 ·exact .inl ⟨e, (h2 e).1⟩
 ·exact .inr ⟨by omega, (h3 (by omega)).1⟩
theorem zX (ax m : Int) (l : List ai) (k : ai) : oD ax m (l ++ [k]) = mx (oD ax m l) (dF ax k) := by
 induction l generalizing m with
 | nil => rw [List.nil_append, pI, qN, qN]
 | cons x xs ih => rw [List.cons_append, pI, pI, ih]
def rU (ax : Int) (a : Bool) (pre : List ai) : Int := if a = true then mr ax pre + (if pre.length = 0 then 0 else (pre.length : Int) - 1) else oD ax 0 pre
theorem BU (ax : Int) (pre : List ai) (k : ai) : mr ax (pre ++ [k]) = mr ax pre + dF ax k := by rw [U2, sV, sF, Int.add_zero]
theorem KA {ax : Int} {pre : List ai} {k : ai} (h : fV pre + sz k ≤ 1048576) : -2097152 ≤ mr ax pre ∧ mr ax pre ≤ 2097152 ∧ -2097152 ≤ dF ax k ∧ dF ax k ≤ 2097152 := by
 have b1 := (Hw ax (sz k)).1 k (Nat.le_refl _)
 have b2 := (Hw ax (fV pre)).2.1 pre (Nat.le_refl _)
 omega
theorem Q_ {ax : Int} {pre : List ai} {k : ai} (h : fV pre + sz k ≤ 1048576) (hp : pre.length = 0) : wrap64 (rU ax true pre + dF ax k) = rU ax true (pre ++ [k]) := by
 have b := KA (ax := ax) h
 unfold rU
 rw [if_pos rfl, if_pos rfl, if_pos hp, BU, List.length_append, List.length_singleton, hp, if_neg (by omega), wq (by omega) (by omega)]
 omega
theorem Uz {ax : Int} {pre : List ai} {k : ai} (h : fV pre + sz k ≤ 1048576) (hp : 0 < pre.length) : wrap64 (wrap64 (rU ax true pre + dF ax k) + 1) = rU ax true (pre ++ [k]) := by
 have b := KA (ax := ax) h
 have hl := jJ pre
 unfold rU
 rw [if_pos rfl, if_pos rfl, if_neg (by omega), BU, List.length_append, List.length_singleton, if_neg (by omega), wq (x := mr ax pre + ((pre.length : Int) - 1) + dF ax k) (by omega) (by omega), wq (by omega) (by omega)]
 omega
theorem abT {ax : Int} {pre : List ai} {k : ai} (h : rU ax false pre < dF ax k) : dF ax k = rU ax false (pre ++ [k]) := by
 unfold rU at h ⊢
 rw [if_neg (by simp)] at h ⊢
 rw [zX]
 unfold mx
 split <;> omega
theorem UA {ax : Int} {pre : List ai} {k : ai} (h : ¬ rU ax false pre < dF ax k) : rU ax false pre = rU ax false (pre ++ [k]) := by
 unfold rU at h ⊢
 rw [if_neg (by simp)] at h ⊢
 rw [if_neg (by simp), zX]
 unfold mx
 split <;> omega
theorem MP {ax : Int} {c : ai} (h1 : ¬ c.f0 = 1) (h2 : c.f3.length ≠ 0) : rU ax (jf ax c.f0) c.f3 = dF ax c := by
 rw [vN, if_neg h1]
 unfold rU
 rw [if_neg h2]
 split <;> omega
theorem OD {ax : Int} {pre : List ai} {k : ai} {n : Int} (h : fV pre + sz k ≤ 1048576) (hn : -1 ≤ n ∧ n ≤ 1048576) : wrap64 (n + mr ax pre + dF ax k) = n + mr ax (pre ++ [k]) := by
 have b := KA (ax := ax) h
 rw [BU, wq (by omega) (by omega)]
 omega
theorem RX {l : List ai} {k : ai} (h : k ∈ l) : sz k ≤ fV l := by
 obtain ⟨p, q, e⟩ := List.append_of_mem h
 rw [e, oQ, dU]
 omega
def atC (c : ai) : List Int → Option ai
 | [] => some c
 | i :: is => if i < 0 ∨ i ≥ (c.f3.length : Int) then none else atC (aI c.f3 i) is
end Go.Proofs.Ytfdmfgaiblfbhaa.P
namespace Go.Proofs.Ytfdmfgaiblfbhaa.P
open Go.RowKit Go.Proofs.ag.aV Go.Proofs.ag.bM Go.Proofs.ag.di
attribute [local go_sem] kC lh
section
variable {W : World} {b : Nat} {P : Nat → Prop} {A : Option Addr} {cc : Nat}
theorem Lr {c : ai} {ax : Int} {v : Bool} (h : jf ax c.f0 = v) (hV : Kd.V k26 26 W b P (.slice A c.f3.length cc) c.f3) :
  Calls Try.prog 99 #[.agg #[.int .u8 c.f0, .int .i64 c.f1.f0, .int .i64 c.f1.f1, .int .i64 c.f1.f2, .int .i64 c.f1.f3, .int .i64 c.f2, .slice A c.f3.length cc], .int .u8 ax] W fun e w' => e = .returned (.bool v) ∧ Below W.heap.size W w' :=
 have h2 := Kd.kz hV
 p_.calls _ _ _ _ _ _ A cc c.f3 ax _ W h2.2.2 h2.2.1 ((zJ c ax).trans (congrArg some h))
end
theorem Ul (ax : Int) : ∀ (N : Nat) (c : ai), sz c ≤ N → N ≤ 1048576 → ∀ (b : Nat) (P : Nat → Prop) (A : Option Addr) (cc : Nat) (w : World), Kd.V k26 26 w b P (.slice A c.f3.length cc) c.f3 →
  Calls Try.prog 149 #[.agg #[.int .u8 c.f0, .int .i64 c.f1.f0, .int .i64 c.f1.f1, .int .i64 c.f1.f2, .int .i64 c.f1.f3, .int .i64 c.f2, .slice A c.f3.length cc], .int .u8 ax] w fun e w' => e = .returned (.int .i64 (dF ax c)) ∧ Below w.heap.size w w' := by
 intro N
 induction N with
 | zero => intro c h; rw [dR] at h; omega
 | succ N ih =>
  intro c hc hN b P A cc w hv
  have hsz := dR c
  have hlen := jJ c.f3
  have S := ae.mk (St.start (ts := [(.slice A c.f3.length cc, c.f3)]) (b0 := w.heap.size) (w := w) (P := P) (fun t ht => by rw [List.mem_singleton.1 ht]; exact fK hv))
  have gy := ae.mk (show c.f3.length ≤ 1048576 by omega)
  have xw := ae.mk (show fV c.f3 ≤ 1048576 by omega)
  have IH := ae.mk fun (k : ai) (hk : k ∈ c.f3) A cc w {b P} h => ih k (by have := RX hk; omega) (by omega) b P A cc w h
  have hE := fun h1 h2 => @MP ax c h1 h2
  have hL := vN ax c
  generalize dF ax c = R at hE hL ⊢
  obtain ⟨ck, ⟨cx, cy, cw, ch⟩, aj, l⟩ := c
  simp only [] at S gy xw IH hE hL ⊢
  clear ih hc hN hv hsz hlen
  by_cases h1 : ck = 1
  case pos =>
   have HR := ae.mk (show R = 1 by rw [hL, if_pos h1])
   have h1a : (ck == 1) = true := beq_iff_eq.mpr (by omega)
   have h1b : (ck != 1) = false := bne_eq_false_iff_eq.mpr (by omega)
   have h1d : decide (ck = 1) = true := decide_eq_true (by omega)
   clear h1 hE hL
   go_enter Try.func149, Try.ntmps149
   go_wp2_with (first
    | ((with_reducible refine az 2 rfl ?_); refine boxS 2 #[.int .u8 ck, .int .i64 cx, .int .i64 cy, .int .i64 cw, .int .i64 ch, .int .i64 aj, .slice A l.length cc] 26 S ?_; clear S; intro b2 fF S; have jZ := (S.out.at (.head _) 0).trans rfl)
    | fail)
   clear jZ
   go_ret
   rw [HR.out]
   exact ⟨rfl, S.out.below⟩
  rw [if_neg h1] at hL
  have HR := ae.mk hL
  have h1a : (ck == 1) = false := beq_eq_false_iff_ne.mpr (by omega)
  have h1b : (ck != 1) = true := bne_iff_ne.mpr (by omega)
  have h1d : decide (ck = 1) = false := decide_eq_false (by omega)
  have HWL := ae.mk (show wrap64 ((l.length : Int) - 1) = (l.length : Int) - 1 by have := gy.out; unfold wrap64; omega)
  clear h1 hE hL
  go_enter Try.func149, Try.ntmps149
  go_wp2_with (first
   | ((with_reducible refine az 2 rfl ?_); refine boxS 2 #[.int .u8 ck, .int .i64 cx, .int .i64 cy, .int .i64 cw, .int .i64 ch, .int .i64 aj, .slice A l.length cc] 26 S ?_; clear S; intro b2 iw S; have jZ := (S.out.at (.head _) 0).trans rfl; have jl := (S.out.at (.head _) 6).trans rfl)
   | fail)
  clear jZ jl
  go_loopg [5, 6, 20] l.length (fun gg v5 v6 v20 wr => ∃ (pre rest : List ai), v5 = .int .i64 ((l.length : Int) - 1 + mr ax pre) ∧ v6 = .int .i64 (oD ax 0 pre) ∧ v20 = .int .i64 (pre.length : Int) ∧ ae (pre ++ rest = l) ∧ rest.length ≤ gg ∧ ae (St w P [(some b2, .cells #[.int .u8 ck, .int .i64 cx, .int .i64 cy, .int .i64 cw, .int .i64 ch, .int .i64 aj, .slice A l.length cc] 26 (0, 0))] [] [(.slice A l.length cc, l)] [] wr))
  case atStart => exact ⟨[], l, (by rw [sF, Int.add_zero, HWL.out]), (by rw [qN]), rfl, ⟨rfl⟩, Nat.le_refl _, S⟩
  case round =>
   clear S
   obtain ⟨pre, rest, rfl, rfl, rfl, HE, hgg, S⟩ := hrel
   cases rest with
   | nil =>
    have hE := HE.out
    rw [List.append_nil] at hE
    have hE2 := hE.symm
    subst hE2
    clear hE HE hgg
    have hlt : ¬ ((l.length : Int) < (l.length : Int)) := by omega
    cases ha : jf ax ck with
    | true =>
     have HA := ae.mk ha
     rw [ha] at HR
     clear ha
     obtain ⟨jZ, lG, lH, lI, lJ, nJ, jl⟩ := St.iJ S (.head _)
     go_wp2_with (first
      | ((with_reducible refine az 36 rfl ?_); refine dN (some 36) Try.func99 S (Lr (c := ⟨ck, ⟨cx, cy, cw, ch⟩, aj, l⟩) HA.out (S.out.tree _ (.head _))) ?_; clear S; intro fF S; clear jZ lG lH lI lJ nJ jl)
      | fail)
     go_ret
     rw [HR.out]
     exact ⟨rfl, S.out.below⟩
    | false =>
     have HA := ae.mk ha
     rw [ha] at HR
     clear ha
     obtain ⟨jZ, lG, lH, lI, lJ, nJ, jl⟩ := St.iJ S (.head _)
     go_wp2_with (first
      | ((with_reducible refine az 36 rfl ?_); refine dN (some 36) Try.func99 S (Lr (c := ⟨ck, ⟨cx, cy, cw, ch⟩, aj, l⟩) HA.out (S.out.tree _ (.head _))) ?_; clear S; intro fF S; clear jZ lG lH lI lJ nJ jl)
      | fail)
     go_ret
     rw [HR.out]
     exact ⟨rfl, S.out.below⟩
   | cons k rest =>
    have hk : k ∈ l := by rw [← HE.out]; simp
    have hlt : (pre.length : Int) < (l.length : Int) := by rw [← HE.out, List.length_append, List.length_cons]; omega
    have hw1 : wrap64 ((pre.length : Int) + 1) = ((pre ++ [k]).length : Int) := by have := gy.out; rw [List.length_append, List.length_singleton]; unfold wrap64; omega
    have HW1 := ae.mk hw1
    have jd := ae.mk hgg
    have HK := ae.mk hk
    have qB := ae.mk (show pre.length ≤ 1048576 by have := gy.out; omega)
    have Vs := ae.mk (show fV pre + sz k ≤ 1048576 by have h := xw.out; rw [← HE.out, oQ, dU] at h; omega)
    obtain ⟨iO, ua, uc, ek, S1⟩ := S.out.elem (.head _) (pre.length : Int) (Int.natCast_nonneg _) hlt
    subst ek
    have hrd : aI l (pre.length : Int) = k := by rw [← HE.out]; exact iZ pre k rest
    rw [hrd] at S1
    simp only [Int.toNat_natCast] at S1
    replace S := ae.mk S1
    clear S1 hrd hk hgg hw1
    obtain ⟨jB, jb, jc, iG, iH, jM, jO⟩ := St.yD S
    go_wp2_with (first
     | ((with_reducible refine az 8 rfl ?_); refine boxS 8 #[.int .u8 0, .int .i64 0, .int .i64 0, .int .i64 0, .int .i64 0, .int .i64 0, .slice none 0 0] 26 S ?_; clear S; intro b8 fF S; clear jB jb jc iG iH jM jO)
     | ((with_reducible refine fP 26 (.tmp 8) (.tmp 23) rfl ?_); refine kD 26 8 23 #[.int .u8 k.f0, .int .i64 k.f1.f0, .int .i64 k.f1.f1, .int .i64 k.f1.f2, .int .i64 k.f1.f3, .int .i64 k.f2, .slice ua k.f3.length uc] 0 7 S ?_; clear S; intro iw S; obtain ⟨adz, adA, adC, adD, adE, adF, adG⟩ := St.iJ S (.head _))
     | ((with_reducible refine az 26 rfl ?_); refine dN (some 26) Try.func149 S (IH.out k HK.out ua uc _ (S.out.tree _ (.head _))) ?_; clear S; intro jT S; clear adz adA adC adD adE adF adG)
     | fail)
    all_goals
     have hw1 := HW1.out
     go_wp2
     go_roundg rest.length
     case measure => exact Nat.lt_of_lt_of_le (Nat.lt_succ_self _) jd.out
     case rel => exact ⟨pre ++ [k], rest, (by rw [OD Vs.out (by have := gy.out; omega)]), (by rw [zX]; congr 1; unfold mx; split <;> omega), (by rw [hw1]), ⟨by rw [List.append_assoc]; exact HE.out⟩, Nat.le_refl _, ⟨S.out.eH.bH.aU.aU.aU.aU.aU.aU.aU⟩⟩
def kL.f (_ : Nat) (a0 a1 a2 a3 a4 a5 : Int) (l : List ai) (ax : Int) : Option Int := if sz ⟨a0, ⟨a1, a2, a3, a4⟩, a5, l⟩ ≤ 1048576 then some (dF ax ⟨a0, ⟨a1, a2, a3, a4⟩, a5, l⟩) else none
theorem kL.calls (k : Nat) (ay : Int) (aJ : Int) (aA : Int) (aH : Int) (bu : Int) (bz : Int) (dK : Option Addr) (dL : Nat) (aK : List (ai)) (a1 : Int) (r : Int) (w : World) (oC : Kd.C k26 w dK aK.length aK) (pz : aK.length ≤ dL) (h : kL.f k ay aJ aA aH bu bz aK a1 = some r) :
  Calls Try.prog 149 #[.agg #[.int .u8 ay, .int .i64 aJ, .int .i64 aA, .int .i64 aH, .int .i64 bu, .int .i64 bz, .slice dK aK.length dL], .int .u8 a1] w fun e w' => e = .returned (.int .i64 r) ∧ Below w.heap.size w w' := by
 unfold kL.f at h
 split at h
 ·rename_i hz
  injection h with h
  subst h
  exact Ul a1 _ ⟨ay, ⟨aJ, aA, aH, bu⟩, bz, aK⟩ (Nat.le_refl _) hz w.heap.size (fun _ => True) dK dL w (Kd.uN pz (Kd.pM (Kd.Dh nZ oC) (fun _ _ => trivial)))
 ·cases h
theorem Um (ax : Int) (N : Nat) (c : ai) (hc : sz c ≤ N) (hN : N ≤ 1048576) : Ev (fun k => kL.f k c.f0 c.f1.f0 c.f1.f1 c.f1.f2 c.f1.f3 c.f2 c.f3 ax) (dF ax c) := by
 refine Ev.congr (f := fun _ => some (dF ax c)) (fun k => ?_) (Ev.now _)
 unfold kL.f
 rw [CS, if_pos (Nat.le_trans hc hN)]
end Go.Proofs.Ytfdmfgaiblfbhaa.P
namespace Go.Proofs.Ytfdmfgaiblfbhaa.P
open Go.RowKit Go.Proofs.ag.aV Go.Proofs.ag.bM Go.Proofs.ag.di
section
variable {W : World} {b : Nat} {P : Nat → Prop} {A : Option Addr} {cc : Nat}
theorem z_ {c : ai} {ax : Int} {v : Bool} (h : jf ax c.f0 = v) (hV : Kd.V k26 26 W b P (.slice A c.f3.length cc) c.f3) :
  Calls Try.prog 88 #[.agg #[.int .u8 c.f0, .int .i64 c.f1.f0, .int .i64 c.f1.f1, .int .i64 c.f1.f2, .int .i64 c.f1.f3, .int .i64 c.f2, .slice A c.f3.length cc], .int .u8 ax] W fun e w' => e = .returned (.bool v) ∧ Below W.heap.size W w' :=
 have h2 := Kd.kz hV
 nS.calls _ _ _ _ _ _ A cc c.f3 ax _ W h2.2.2 h2.2.1 ((Dt c ax).trans (congrArg some h))
end
theorem adW (ax : Int) : ∀ (N : Nat) (c : ai), sz c ≤ N → N ≤ 1048576 → (gU c).all oL = true → ∀ (b : Nat) (P : Nat → Prop) (A : Option Addr) (cc : Nat) (w : World), Kd.V k26 26 w b P (.slice A c.f3.length cc) c.f3 →
  Calls Try.prog 152 #[.agg #[.int .u8 c.f0, .int .i64 c.f1.f0, .int .i64 c.f1.f1, .int .i64 c.f1.f2, .int .i64 c.f1.f3, .int .i64 c.f2, .slice A c.f3.length cc], .int .u8 ax] w fun e w' => e = .returned (.int .i64 (dF ax c)) ∧ Below w.heap.size w w' := by
 intro N
 induction N with
 | zero => intro c h; rw [dR] at h; omega
 | succ N ih =>
  intro c hc hN hok b P A cc w hv
  have hsz := dR c
  have hlen := jJ c.f3
  have S := ae.mk (St.start (ts := [(.slice A c.f3.length cc, c.f3)]) (b0 := w.heap.size) (w := w) (P := P) (fun t ht => by rw [List.mem_singleton.1 ht]; exact fK hv))
  have gy := ae.mk (show c.f3.length ≤ 1048576 by omega)
  have xw := ae.mk (show fV c.f3 ≤ 1048576 by omega)
  have IH := ae.mk fun (k : ai) (hk : k ∈ c.f3) A cc w {b P} h => ih k (by have := RX hk; omega) (by omega) (Gl hok hk) b P A cc w h
  have hE := fun h1 h2 => @MP ax c h1 h2
  have hL := vN ax c
  have hkd := J3 (uX hok)
  generalize dF ax c = R at hE hL ⊢
  obtain ⟨ck, ⟨cx, cy, cw, ch⟩, aj, l⟩ := c
  simp only [] at S gy xw IH hE hL ⊢
  clear ih hc hN hv hsz hlen
  simp only [] at hkd
  by_cases hz : l.length = 0
  case pos =>
   have HR := ae.mk (show R = 1 by rw [hL, if_pos (by omega)])
   have hza : ((l.length : Int) == 0) = true := beq_iff_eq.mpr (by omega)
   have hzb : ((l.length : Int) != 0) = false := bne_eq_false_iff_eq.mpr (by omega)
   have hzd : decide ((l.length : Int) = 0) = true := decide_eq_true (by omega)
   have hze : (l.length == 0) = true := beq_iff_eq.mpr (by omega)
   have hzf : decide (l.length = 0) = true := decide_eq_true (by omega)
   clear hkd hz hE hL
   go_enter Try.func152, Try.ntmps152
   go_wp2_with (first
    | ((with_reducible refine az 2 rfl ?_); refine boxS 2 #[.int .u8 ck, .int .i64 cx, .int .i64 cy, .int .i64 cw, .int .i64 ch, .int .i64 aj, .slice A l.length cc] 26 S ?_; clear S; intro b2 fF S; have jl := (S.out.at (.head _) 6).trans rfl)
    | fail)
   clear jl
   go_ret
   rw [HR.out]
   exact ⟨rfl, S.out.below⟩
  have HR := ae.mk (hE (by omega) hz)
  have hza : ((l.length : Int) == 0) = false := beq_eq_false_iff_ne.mpr (by omega)
  have hzb : ((l.length : Int) != 0) = true := bne_iff_ne.mpr (by omega)
  have hzd : decide ((l.length : Int) = 0) = false := decide_eq_false (by omega)
  have hze : (l.length == 0) = false := beq_eq_false_iff_ne.mpr (by omega)
  have hzf : decide (l.length = 0) = false := decide_eq_false (by omega)
  clear hkd hz hE hL
  generalize ha : jf ax ck = a at HR
  have HA := ae.mk ha
  clear ha
  go_enter Try.func152, Try.ntmps152
  go_wp2_with (first
   | ((with_reducible refine az 2 rfl ?_); refine boxS 2 #[.int .u8 ck, .int .i64 cx, .int .i64 cy, .int .i64 cw, .int .i64 ch, .int .i64 aj, .slice A l.length cc] 26 S ?_; clear S; intro b2 iw S; have jl := (S.out.at (.head _) 6).trans rfl)
   | fail)
  clear jl
  go_loopg [5, 15] l.length (fun gg v5 v15 wr => ∃ (pre rest : List ai), v5 = .int .i64 (rU ax a pre) ∧ v15 = .int .i64 (pre.length : Int) ∧ ae (pre ++ rest = l) ∧ rest.length ≤ gg ∧ ae (St w P [(some b2, .cells #[.int .u8 ck, .int .i64 cx, .int .i64 cy, .int .i64 cw, .int .i64 ch, .int .i64 aj, .slice A l.length cc] 26 (0, 0))] [] [(.slice A l.length cc, l)] [] wr))
  case atStart => exact ⟨[], l, (by cases a <;> rfl), rfl, ⟨rfl⟩, Nat.le_refl _, S⟩
  case round =>
   clear S
   obtain ⟨pre, rest, rfl, rfl, HE, hgg, S⟩ := hrel
   cases rest with
   | nil =>
    have hE := HE.out
    rw [List.append_nil] at hE
    have hE2 := hE.symm
    subst hE2
    clear hE HE hgg
    have hlt : ¬ ((l.length : Int) < (l.length : Int)) := by omega
    go_wp2
    go_ret
    rw [← HR.out]
    exact ⟨rfl, S.out.below⟩
   | cons k rest =>
    have hk : k ∈ l := by rw [← HE.out]; simp
    have hlt : (pre.length : Int) < (l.length : Int) := by rw [← HE.out, List.length_append, List.length_cons]; omega
    have hw1 : wrap64 ((pre.length : Int) + 1) = ((pre ++ [k]).length : Int) := by have := gy.out; rw [List.length_append, List.length_singleton]; unfold wrap64; omega
    have HW1 := ae.mk hw1
    have jd := ae.mk hgg
    have HK := ae.mk hk
    have qB := ae.mk (show pre.length ≤ 1048576 by have := gy.out; omega)
    have Vs := ae.mk (show fV pre + sz k ≤ 1048576 by have h := xw.out; rw [← HE.out, oQ, dU] at h; omega)
    obtain ⟨iO, ua, uc, ek, S1⟩ := S.out.elem (.head _) (pre.length : Int) (Int.natCast_nonneg _) hlt
    subst ek
    have hrd : aI l (pre.length : Int) = k := by rw [← HE.out]; exact iZ pre k rest
    rw [hrd] at S1
    simp only [Int.toNat_natCast] at S1
    replace S := ae.mk S1
    clear S1 hrd hk hgg hw1
    cases a with
    | true =>
     by_cases hp : pre.length = 0
     case pos =>
      have HP := ae.mk hp
      have hpn : ¬ (0 < pre.length) := by omega
      have hqa : decide (0 < (pre.length : Int)) = false := decide_eq_false (by omega)
      have hqb : decide ((pre.length : Int) > 0) = false := decide_eq_false (by omega)
      have hqc : decide (0 < pre.length) = false := decide_eq_false (by omega)
      have hqe : ¬ (0 < pre.length) := by omega
      clear hp
      obtain ⟨jB, jb, jc, iG, iH, jM, jO⟩ := St.yD S
      have jl := (S.out.at (.head _) 6).trans rfl
      go_wp2_with (first
       | ((with_reducible refine az 24 rfl ?_); refine dN (some 24) Try.func152 S (IH.out k HK.out ua uc _ (S.out.tree _ (.head _))) ?_; clear S; intro fF S; clear jB jb jc iG iH jM jO jl; obtain ⟨jZ, lG, lH, lI, lJ, nJ, jl⟩ := St.iJ S (.head _))
       | ((with_reducible refine az 27 rfl ?_); refine dN (some 27) Try.func88 S (z_ (c := ⟨ck, ⟨cx, cy, cw, ch⟩, aj, l⟩) HA.out (S.out.tree _ (.tail _ (.head _)))) ?_; clear S; intro iw S; clear jZ lG lH lI lJ nJ jl)
       | fail)
      have hw1 := HW1.out
      go_wp2
      go_roundg rest.length
      case measure => exact Nat.lt_of_lt_of_le (Nat.lt_succ_self _) jd.out
      case rel => exact ⟨pre ++ [k], rest, (by rw [Q_ Vs.out HP.out]), (by first | rw [hw1] | (rw [List.length_append]; rfl)), ⟨by rw [List.append_assoc]; exact HE.out⟩, Nat.le_refl _, ⟨S.out.bH.aU.aU.aU.aU.aU.aU.aU⟩⟩
     case neg =>
      have HP := ae.mk (show 0 < pre.length by omega)
      have hpn : 0 < pre.length := HP.out
      have hqa : decide (0 < (pre.length : Int)) = true := decide_eq_true (by omega)
      have hqb : decide ((pre.length : Int) > 0) = true := decide_eq_true (by omega)
      have hqc : decide (0 < pre.length) = true := decide_eq_true (by omega)
      have hqe : 0 < pre.length := by omega
      clear hp
      obtain ⟨jB, jb, jc, iG, iH, jM, jO⟩ := St.yD S
      have jl := (S.out.at (.head _) 6).trans rfl
      go_wp2_with (first
       | ((with_reducible refine az 24 rfl ?_); refine dN (some 24) Try.func152 S (IH.out k HK.out ua uc _ (S.out.tree _ (.head _))) ?_; clear S; intro fF S; clear jB jb jc iG iH jM jO jl; obtain ⟨jZ, lG, lH, lI, lJ, nJ, jl⟩ := St.iJ S (.head _))
       | ((with_reducible refine az 27 rfl ?_); refine dN (some 27) Try.func88 S (z_ (c := ⟨ck, ⟨cx, cy, cw, ch⟩, aj, l⟩) HA.out (S.out.tree _ (.tail _ (.head _)))) ?_; clear S; intro iw S; clear jZ lG lH lI lJ nJ jl)
       | fail)
      have hw1 := HW1.out
      go_wp2
      go_roundg rest.length
      case measure => exact Nat.lt_of_lt_of_le (Nat.lt_succ_self _) jd.out
      case rel => exact ⟨pre ++ [k], rest, (by rw [Uz Vs.out HP.out]), (by first | rw [hw1] | (rw [List.length_append]; rfl)), ⟨by rw [List.append_assoc]; exact HE.out⟩, Nat.le_refl _, ⟨S.out.bH.aU.aU.aU.aU.aU.aU.aU⟩⟩
    | false =>
     by_cases hp : rU ax false pre < dF ax k
     case pos =>
      have HP := ae.mk hp
      have hpa : decide (rU ax false pre < dF ax k) = true := decide_eq_true (by omega)
      have hpb : decide (dF ax k > rU ax false pre) = true := decide_eq_true (by omega)
      clear hp
      obtain ⟨jB, jb, jc, iG, iH, jM, jO⟩ := St.yD S
      have jl := (S.out.at (.head _) 6).trans rfl
      go_wp2_with (first
       | ((with_reducible refine az 24 rfl ?_); refine dN (some 24) Try.func152 S (IH.out k HK.out ua uc _ (S.out.tree _ (.head _))) ?_; clear S; intro fF S; clear jB jb jc iG iH jM jO jl; obtain ⟨jZ, lG, lH, lI, lJ, nJ, jl⟩ := St.iJ S (.head _))
       | ((with_reducible refine az 27 rfl ?_); refine dN (some 27) Try.func88 S (z_ (c := ⟨ck, ⟨cx, cy, cw, ch⟩, aj, l⟩) HA.out (S.out.tree _ (.tail _ (.head _)))) ?_; clear S; intro iw S; clear jZ lG lH lI lJ nJ jl)
       | fail)
      have hw1 := HW1.out
      go_wp2
      go_roundg rest.length
      case measure => exact Nat.lt_of_lt_of_le (Nat.lt_succ_self _) jd.out
      case rel => exact ⟨pre ++ [k], rest, (by rw [abT HP.out]), (by first | rw [hw1] | (rw [List.length_append]; rfl)), ⟨by rw [List.append_assoc]; exact HE.out⟩, Nat.le_refl _, ⟨S.out.bH.aU.aU.aU.aU.aU.aU.aU⟩⟩
     case neg =>
      have HP := ae.mk hp
      have hpa : decide (rU ax false pre < dF ax k) = false := decide_eq_false (by omega)
      have hpb : decide (dF ax k > rU ax false pre) = false := decide_eq_false (by omega)
      clear hp
      obtain ⟨jB, jb, jc, iG, iH, jM, jO⟩ := St.yD S
      have jl := (S.out.at (.head _) 6).trans rfl
      go_wp2_with (first
       | ((with_reducible refine az 24 rfl ?_); refine dN (some 24) Try.func152 S (IH.out k HK.out ua uc _ (S.out.tree _ (.head _))) ?_; clear S; intro fF S; clear jB jb jc iG iH jM jO jl; obtain ⟨jZ, lG, lH, lI, lJ, nJ, jl⟩ := St.iJ S (.head _))
       | ((with_reducible refine az 27 rfl ?_); refine dN (some 27) Try.func88 S (z_ (c := ⟨ck, ⟨cx, cy, cw, ch⟩, aj, l⟩) HA.out (S.out.tree _ (.tail _ (.head _)))) ?_; clear S; intro iw S; clear jZ lG lH lI lJ nJ jl)
       | fail)
      have hw1 := HW1.out
      go_wp2
      go_roundg rest.length
      case measure => exact Nat.lt_of_lt_of_le (Nat.lt_succ_self _) jd.out
      case rel => exact ⟨pre ++ [k], rest, (by rw [UA (Int.not_lt.mpr HP.out)]), (by first | rw [hw1] | (rw [List.length_append]; rfl)), ⟨by rw [List.append_assoc]; exact HE.out⟩, Nat.le_refl _, ⟨S.out.bH.aU.aU.aU.aU.aU.aU.aU⟩⟩
def acd.f (_ : Nat) (a0 a1 a2 a3 a4 a5 : Int) (l : List ai) (ax : Int) : Option Int := if sz ⟨a0, ⟨a1, a2, a3, a4⟩, a5, l⟩ ≤ 1048576 ∧ (gU ⟨a0, ⟨a1, a2, a3, a4⟩, a5, l⟩).all oL = true then some (dF ax ⟨a0, ⟨a1, a2, a3, a4⟩, a5, l⟩) else none
end Go.Proofs.Ytfdmfgaiblfbhaa.P

namespace Go.Proofs.Ytfdmfgaiblfbhaa.P
open Go.RowKit Go.Proofs.ag.aV Go.Proofs.ag.bM Go.Proofs.ag.di
attribute [local go_sem] kC kP lh lU jR jS kN kQ
def nM.f (ay : Int) (aJ : Int) (aA : Int) (aH : Int) (a1 : Int) : Option (Int) := if a1 = 2 then (some aH) else (if a1 = 1 then (some aA) else (some 0))
theorem nM.calls (ay : Int) (aJ : Int) (aA : Int) (aH : Int) (a1 : Int) (r : Int) (w : World) (h : nM.f ay aJ aA aH a1 = some r) :
  Calls Try.prog 98 #[.agg #[.int .i64 ay, .int .i64 aJ, .int .i64 aA, .int .i64 aH], .int .u8 a1] w fun e w' => e = .returned (.int .i64 r) ∧ Below w.heap.size w w' := by
 have JQ := Try.underlying23
 have HB := ae.mk (Below.refl w.heap.size w)
 have H : (if a1 = 2 then (some aH) else (if a1 = 1 then (some aA) else (some 0))) = some r := h
 clear h
 by_cases c3 : a1 = 2
 ·rw [if_pos c3] at H
  have nY : (a1 == 2) = true := beq_iff_eq.mpr c3
  have ug : (a1 != 2) = false := bne_eq_false_iff_eq.mpr c3
  clear c3
  obtain rfl := Option.some.inj H
  go_enter Try.func98, Try.ntmps98
  go_wp2_with (((with_reducible refine aC (N := 2) rfl ?_); refine aW ?hg (N := 2) ?hd (cs := #[.int .i64 ay, .int .i64 aJ, .int .i64 aA, .int .i64 aH]) (t := 23) ?hr ?_; (case hd => rfl); (case hg => rfl); (case hr => (go_simp; done)); intro qV hg w4 hbox hb; have mV := ae.mk (hbox); have Ny := ae.mk ((by rw [hg]; exact (bP (by repeat ((with_reducible exact HB.out)))) : w.heap.size ≤ qV)); replace HB := ae.mk (ak (by repeat ((with_reducible exact HB.out))) hb); clear hb hbox hg; have aa3 : w4.cell? ⟨qV, 0, none⟩ = some (.int .i64 ay) := (af mV.out 0).trans rfl; have aa4 : w4.cell? ⟨qV, 1, none⟩ = some (.int .i64 aJ) := (af mV.out 1).trans rfl; have aa5 : w4.cell? ⟨qV, 2, none⟩ = some (.int .i64 aA) := (af mV.out 2).trans rfl; have aa6 : w4.cell? ⟨qV, 3, none⟩ = some (.int .i64 aH) := (af mV.out 3).trans rfl; have abl := ah mV.out 0; have abm := ah mV.out 1; have abn := ah mV.out 2; have abo := ah mV.out 3))
  go_ret
  exact ⟨by rfl, by repeat ((with_reducible first | exact HB.out | refine lL ?_ Ny.out))⟩
 ·rw [if_neg c3] at H
  have nY : (a1 == 2) = false := beq_eq_false_iff_ne.mpr c3
  have ug : (a1 != 2) = true := bne_iff_ne.mpr c3
  by_cases c6 : a1 = 1
  ·rw [if_pos c6] at H
   have uh : (a1 == 1) = true := beq_iff_eq.mpr c6
   have Tv : (a1 != 1) = false := bne_eq_false_iff_eq.mpr c6
   clear c6
   obtain rfl := Option.some.inj H
   go_enter Try.func98, Try.ntmps98
   go_wp2_with (((with_reducible refine aC (N := 2) rfl ?_); refine aW ?hg (N := 2) ?hd (cs := #[.int .i64 ay, .int .i64 aJ, .int .i64 aA, .int .i64 aH]) (t := 23) ?hr ?_; (case hd => rfl); (case hg => rfl); (case hr => (go_simp; done)); intro qV hg w7 hbox hb; have mV := ae.mk (hbox); have Ny := ae.mk ((by rw [hg]; exact (bP (by repeat ((with_reducible exact HB.out)))) : w.heap.size ≤ qV)); replace HB := ae.mk (ak (by repeat ((with_reducible exact HB.out))) hb); clear hb hbox hg; have Qn : w7.cell? ⟨qV, 0, none⟩ = some (.int .i64 ay) := (af mV.out 0).trans rfl; have Qo : w7.cell? ⟨qV, 1, none⟩ = some (.int .i64 aJ) := (af mV.out 1).trans rfl; have Qp : w7.cell? ⟨qV, 2, none⟩ = some (.int .i64 aA) := (af mV.out 2).trans rfl; have Qq : w7.cell? ⟨qV, 3, none⟩ = some (.int .i64 aH) := (af mV.out 3).trans rfl; have QG := ah mV.out 0; have QH := ah mV.out 1; have QI := ah mV.out 2; have QJ := ah mV.out 3))
   go_ret
   exact ⟨by rfl, by repeat ((with_reducible exact HB.out))⟩
  ·rw [if_neg c6] at H
   have uh : (a1 == 1) = false := beq_eq_false_iff_ne.mpr c6
   have Tv : (a1 != 1) = true := bne_iff_ne.mpr c6
   obtain rfl := Option.some.inj H
   go_enter Try.func98, Try.ntmps98
   go_wp2_with (((with_reducible refine aC (N := 2) rfl ?_); refine aW ?hg (N := 2) ?hd (cs := #[.int .i64 ay, .int .i64 aJ, .int .i64 aA, .int .i64 aH]) (t := 23) ?hr ?_; (case hd => rfl); (case hg => rfl); (case hr => (go_simp; done)); intro qV hg w9 hbox hb; have mV := ae.mk (hbox); have Ny := ae.mk ((by rw [hg]; exact (bP (by repeat ((with_reducible exact HB.out)))) : w.heap.size ≤ qV)); replace HB := ae.mk (ak (by repeat ((with_reducible exact HB.out))) hb); clear hb hbox hg))
   go_ret
   exact ⟨by rfl, by repeat ((with_reducible exact HB.out))⟩
end Go.Proofs.Ytfdmfgaiblfbhaa.P
namespace Go.Proofs.Ytfdmfgaiblfbhaa.P
open Go.RowKit Go.Proofs.ag.aV Go.Proofs.ag.bM Go.Proofs.ag.di
def bC (ax : Int) (r : dE) : Int := if ax = 1 then r.f2 else if ax = 2 then r.f3 else 0
theorem H7 (r : dE) (ax : Int) : nM.f r.f0 r.f1 r.f2 r.f3 ax = some (bC ax r) := by
 unfold nM.f bC
 by_cases h1 : ax = 1
 ·rw [if_neg (by omega), if_pos h1, if_pos h1]
 ·by_cases h2 : ax = 2
  ·rw [if_pos h2, if_neg h1, if_pos h2]
  ·rw [if_neg h2, if_neg h1, if_neg h1, if_neg h2]
end Go.Proofs.Ytfdmfgaiblfbhaa.P
namespace Go.Proofs.Ytfdmfgaiblfbhaa.P
open Go.RowKit Go.Proofs.ag.aV Go.Proofs.ag.bM Go.Proofs.ag.di
attribute [local go_sem] kC kP lh lU jR jS kN kQ
def ku.f (a0 : Int) : Option (Bool) := if a0 = 1 then (some true) else (some (a0 == 2))
theorem ku.aae (a0 : Int) (r : Bool) (w : World) (h : ku.f a0 = some r) :
  Calls Try.prog 147 #[.int .u8 a0] w fun e w' => e = .returned (.bool r) ∧ jK w w' := by
 have H : (if a0 = 1 then (some true) else (some (a0 == 2))) = some r := h
 clear h
 by_cases c2 : a0 = 1
 ·rw [if_pos c2] at H
  have Jn : (a0 == 1) = true := beq_iff_eq.mpr c2
  have aeO : (a0 != 1) = false := bne_eq_false_iff_eq.mpr c2
  clear c2
  obtain rfl := Option.some.inj H
  go_enter Try.func147, Try.ntmps147
  go_wp2
  go_ret
  exact ⟨by rfl, by repeat (exact jK.refl _)⟩
 ·rw [if_neg c2] at H
  have Jn : (a0 == 1) = false := beq_eq_false_iff_ne.mpr c2
  have aeO : (a0 != 1) = true := bne_iff_ne.mpr c2
  obtain rfl := Option.some.inj H
  go_enter Try.func147, Try.ntmps147
  go_wp2
  go_ret
  exact ⟨by rfl, by repeat (exact jK.refl _)⟩
theorem ku.calls (a0 : Int) (r : Bool) (w : World) (h : ku.f a0 = some r) :
  Calls Try.prog 147 #[.int .u8 a0] w fun e w' => e = .returned (.bool r) ∧ Below w.heap.size w w' := by
 refine (ku.aae a0 r w h).mono ?_
 rintro e w' ⟨he, n, rfl⟩
 exact ⟨he, dP (Below.refl _ _) n⟩
end Go.Proofs.Ytfdmfgaiblfbhaa.P
namespace Go.Proofs.Ytfdmfgaiblfbhaa.P
open Go.RowKit Go.Proofs.ag.aV Go.Proofs.ag.bM Go.Proofs.ag.di
theorem Yn (Inv : List ai → World → Prop) (r : ai → Bool) (g : Nat) (lb : Array Value) (eg : ∀ args w, (callFunc g args).run Try.prog w = .ok (.enter g args) w) (l : List ai) (A : Option Addr) (c : Nat)
  (w0 : World) (hR : Kd.C k26 w0 A l.length l) (hW : ∀ s W, Inv s W → Below w0.heap.size w0 W) (hD : ∀ s W n, Inv s W → Inv s (W.drewN n))
  (hcall : ∀ (x : ai) (rest : List ai) (W : World) (B : Option Addr) (cb : Nat), x ∈ l → (∃ pre, pre ++ x :: rest = l) → Inv (x :: rest) W → Kd.C k26 w0 B x.f3.length x.f3 → x.f3.length ≤ cb → Calls Try.prog g (#[.agg #[.int .u8 x.f0, .int .i64 x.f1.f0, .int .i64 x.f1.f1, .int .i64 x.f1.f2, .int .i64 x.f1.f3, .int .i64 x.f2, .slice B x.f3.length cb]] ++ lb) W fun e w' => e = .returned (.bool (r x)) ∧ Inv (if r x = true then [] else rest) w')
  (w : World) (hI : Inv l w) (hl : l.length ≤ 9223372036854775807) :
  Calls Try.prog 192 #[.slice A l.length c, .func (.func g) #[] lb] w fun e w' => ∃ i : Int, e = .returned (.int .i64 i) ∧ decide (i ≥ 0) = l.any r ∧ Inv [] w' := by
 have HR := ae.mk hR
 have HW := ae.mk hW
 have HD := ae.mk hD
 have HI := ae.mk hI
 have wQ := ae.mk hcall
 clear hR hW hcall hD hI
 go_enter Try.func192, Try.ntmps192
 go_wp2
 go_loopg [5, 8] l.length (fun gg _ v8 wr => ∃ (kk : Nat), kk ≤ l.length ∧ l.length - kk ≤ gg ∧ v8 = .int .i64 kk ∧ ae (Inv (l.drop kk) wr) ∧ ae (l.any r = (l.drop kk).any r))
 case atStart => exact ⟨0, Nat.zero_le _, by omega, rfl, ⟨by simpa using HI.out⟩, ⟨by simp⟩⟩
 case round =>
  clear HI
  obtain ⟨kk, hkk, hg, rfl, HI, HS⟩ := hrel
  by_cases hlt : kk < l.length
  ·have hltz : (kk : Int) < (l.length : Int) := by omega
   obtain ⟨ad, B, cb, rfl, hc0, hc1, hc2, hc3, hc4, hc5, hc6, hlb, hgb⟩ := t_ HR.out (kk : Int) (by omega) (by omega)
   have hbw := HW.out _ wr HI.out
   replace hc0 := (hbw.cell (World.block_lt_of_cell? w0 _ hc0)).trans hc0
   replace hc1 := (hbw.cell (World.block_lt_of_cell? w0 _ hc1)).trans hc1
   replace hc2 := (hbw.cell (World.block_lt_of_cell? w0 _ hc2)).trans hc2
   replace hc3 := (hbw.cell (World.block_lt_of_cell? w0 _ hc3)).trans hc3
   replace hc4 := (hbw.cell (World.block_lt_of_cell? w0 _ hc4)).trans hc4
   replace hc5 := (hbw.cell (World.block_lt_of_cell? w0 _ hc5)).trans hc5
   replace hc6 := (hbw.cell (World.block_lt_of_cell? w0 _ hc6)).trans hc6
   clear hbw
   have hmem : (aI l (kk : Int)) ∈ l := Ad z26 l kk hlt
   have hdr : l.drop kk = aI l (kk : Int) :: l.drop (kk + 1) := by
    rw [List.drop_eq_getElem_cons hlt]
    simp only [aI, Int.toNat_natCast, List.getD_eq_getElem?_getD, List.getElem?_eq_getElem hlt, Option.getD_some]
   have HX : ae ((l.drop kk).any r = (r (aI l (kk : Int)) || (l.drop (kk + 1)).any r)) := ⟨by rw [hdr, List.any_cons]⟩
   have hcall := wQ.out _ (l.drop (kk + 1)) wr B cb hmem ⟨l.take kk, by rw [← hdr]; exact List.take_append_drop kk l⟩ (by rw [← hdr]; exact HI.out) hgb hlb
   clear hmem hgb hlb hdr
   simp only [Int.toNat_natCast] at hc0 hc1 hc2 hc3 hc4 hc5 hc6
   generalize aI l (kk : Int) = x at hc0 hc1 hc2 hc3 hc4 hc5 hc6 HX hcall
   have HC := ae.mk hcall
   clear hcall
   cases hq : r x with
   | true =>
    have h := HC.out
    rw [hq, if_pos rfl] at h
    have HH := ae.mk h
    have HQ := ae.mk hq
    clear hq HC h
    go_wp2_with fail
    refine HH.out.mono ?_
    rintro e w' ⟨rfl, hb'⟩
    have HB := ae.mk hb'
    clear hb'
    go_wp2
    go_ret
    refine ⟨_, rfl, ?_, HB.out⟩
    rw [HS.out, HX.out, HQ.out, Bool.true_or]
    exact decide_eq_true (by omega)
   | false =>
    have h := HC.out
    rw [hq, if_neg (by simp)] at h
    have HH := ae.mk h
    have HQ := ae.mk hq
    clear hq HC h
    go_wp2_with fail
    refine HH.out.mono ?_
    rintro e w' ⟨rfl, hb'⟩
    have HB := ae.mk hb'
    clear hb'
    go_wp2
    go_roundg (l.length - (kk + 1))
    case measure => omega
    case rel =>
     refine ⟨kk + 1, by omega, by omega, by go_num, HB, ⟨?_⟩⟩
     rw [HS.out, HX.out, HQ.out, Bool.false_or]
  ·have hltz : ¬ (kk : Int) < (l.length : Int) := by omega
   have hd : l.drop kk = [] := List.drop_eq_nil_of_le (by omega)
   have HI2 := ae.mk (hd ▸ HI.out)
   have HS2 := ae.mk (hd ▸ HS.out)
   clear HI HS hd
   go_wp2
   go_ret
   refine ⟨_, rfl, ?_, HI2.out⟩
   rw [HS2.out]
   rfl
theorem LG (Inv : List ai → World → Prop) (r : ai → Bool) (g : Nat) (lb : Array Value) (eg : ∀ args w, (callFunc g args).run Try.prog w = .ok (.enter g args) w) (l : List ai) (A : Option Addr) (c : Nat)
  (w0 : World) (hR : Kd.C k26 w0 A l.length l) (hW : ∀ s W, Inv s W → Below w0.heap.size w0 W) (hD : ∀ s W n, Inv s W → Inv s (W.drewN n))
  (hcall : ∀ (x : ai) (rest : List ai) (W : World) (B : Option Addr) (cb : Nat), x ∈ l → (∃ pre, pre ++ x :: rest = l) → Inv (x :: rest) W → Kd.C k26 w0 B x.f3.length x.f3 → x.f3.length ≤ cb → Calls Try.prog g (#[.agg #[.int .u8 x.f0, .int .i64 x.f1.f0, .int .i64 x.f1.f1, .int .i64 x.f1.f2, .int .i64 x.f1.f3, .int .i64 x.f2, .slice B x.f3.length cb]] ++ lb) W fun e w' => e = .returned (.bool (r x)) ∧ Inv (if r x = true then [] else rest) w')
  (w : World) (hI : Inv l w) (hl : l.length ≤ 9223372036854775807) :
  Calls Try.prog 174 #[.slice A l.length c, .func (.func g) #[] lb] w fun e w' => e = .returned (.bool (l.any r)) ∧ Inv [] w' := by
 have hi := Yn Inv r g lb eg l A c w0 hR hW hD hcall w hI hl
 clear hR hW hD hcall hI
 have HI := ae.mk hi
 clear hi
 go_enter Try.func174, Try.ntmps174
 go_wp2_with fail
 refine HI.out.mono ?_
 rintro e w' ⟨i, rfl, hd, hb'⟩
 have HB := ae.mk hb'
 have HN := ae.mk hd
 clear hb' hd
 go_wp2
 go_ret
 exact ⟨by rw [← HN.out]; rfl, HB.out⟩
theorem aaH (r : ai → dE → Bool) (g : Nat) (eg : ∀ args w, (callFunc g args).run Try.prog w = .ok (.enter g args) w) (la : List ai) (lb : List dE) (A B : Option Addr) (ca cb : Nat) (w : World) (hA : Kd.C k26 w A la.length la) (hB : Kd.C k23 w B lb.length lb)
  (hcall : ∀ W (x : ai) (X : Option Addr) (cx : Nat) (y : dE), x ∈ la → Below w.heap.size w W → Kd.C k26 w X x.f3.length x.f3 → x.f3.length ≤ cx → Calls Try.prog g #[.agg #[.int .u8 x.f0, .int .i64 x.f1.f0, .int .i64 x.f1.f1, .int .i64 x.f1.f2, .int .i64 x.f1.f3, .int .i64 x.f2, .slice X x.f3.length cx], .agg #[.int .i64 y.f0, .int .i64 y.f1, .int .i64 y.f2, .int .i64 y.f3]] W fun e w' => e = .returned (.bool (r x y)) ∧ Below W.heap.size W w') :
  Calls Try.prog 211 #[.slice A la.length ca, .slice B lb.length cb, .func (.func g) #[] #[]] w fun e w' => e = .returned (.bool (la.length == lb.length && rO r la lb)) ∧ Below w.heap.size w w' := by
 have HA := ae.mk hA
 have HLB := ae.mk hB
 have HC := ae.mk hcall
 have HB := ae.mk (Below.refl w.heap.size w)
 have HL := ae.mk (show la.length ≤ 9223372036854775807 from hA.2.1)
 clear hA hB hcall
 by_cases hl : la.length = lb.length
 ·have hl1 : ((la.length : Int) != (lb.length : Int)) = false := by simp [hl]
  have hl2 : (la.length == lb.length) = true := by simp [hl]
  rw [hl2, Bool.true_and]
  have HE := ae.mk hl
  clear hl hl2
  go_enter Try.func211, Try.ntmps211
  go_wp2
  go_loopg [17] la.length (fun gg v17 wr => ∃ (kk : Nat), kk ≤ la.length ∧ la.length - kk ≤ gg ∧ v17 = .int .i64 kk ∧ ae (rO r la lb = rO r (la.drop kk) (lb.drop kk)) ∧ ae (Below w.heap.size w wr))
  case atStart => exact ⟨0, Nat.zero_le _, by omega, rfl, ⟨by simp⟩, HB⟩
  case round =>
   clear HB
   obtain ⟨kk, hkk, hgg, rfl, HS, HB⟩ := hrel
   by_cases hlt : kk < la.length
   ·have hltz : (kk : Int) < (la.length : Int) := by omega
    have aff : (kk : Int) < (lb.length : Int) := by have := HE.out; omega
    have hw : wrap64 ((kk : Int) + 1) = ((kk + 1 : Nat) : Int) := by unfold wrap64; have := HL.out; omega
    have HX := ae.mk (aaG r z26 z23 la lb kk hlt (by omega))
    have hmem : aI la (kk : Int) ∈ la := Ad z26 la kk hlt
    obtain ⟨cd, X, cx, rfl, c0, c1, c2, c3, c4, c5, c6, cl, cg⟩ := t_ HA.out (kk : Int) (by omega) hltz
    obtain ⟨dd, rfl, d0, d1, d2, d3⟩ := Jj HLB.out (kk : Int) (by omega) aff
    simp only [Int.toNat_natCast] at c0 c1 c2 c3 c4 c5 c6 d0 d1 d2 d3
    replace c0 := (HB.out.cell (World.block_lt_of_cell? w _ c0)).trans c0
    replace c1 := (HB.out.cell (World.block_lt_of_cell? w _ c1)).trans c1
    replace c2 := (HB.out.cell (World.block_lt_of_cell? w _ c2)).trans c2
    replace c3 := (HB.out.cell (World.block_lt_of_cell? w _ c3)).trans c3
    replace c4 := (HB.out.cell (World.block_lt_of_cell? w _ c4)).trans c4
    replace c5 := (HB.out.cell (World.block_lt_of_cell? w _ c5)).trans c5
    replace c6 := (HB.out.cell (World.block_lt_of_cell? w _ c6)).trans c6
    have D0 := ae.mk d0
    have D1 := ae.mk d1
    have D2 := ae.mk d2
    have D3 := ae.mk d3
    clear d0 d1 d2 d3
    have HX := ae.mk (show rO r (la.drop kk) (lb.drop kk) = (r (aI la (kk : Int)) (oO lb (kk : Int)) && rO r (la.drop (kk + 1)) (lb.drop (kk + 1))) from HX.out)
    have cG := ae.mk cg
    have cL := ae.mk cl
    clear cg cl
    have HM := ae.mk hmem
    clear hmem
    generalize aI la (kk : Int) = x at *
    generalize oO lb (kk : Int) = y at *
    have HCx := ae.mk (fun W hW => HC.out W x X cx y HM.out hW cG.out cL.out )
    have HW := ae.mk hw
    have HKK := ae.mk (show kk + 1 ≤ la.length from hlt)
    have jd := ae.mk hgg
    clear hw hlt hgg hkk HM
    go_wp2_with (first | ((with_reducible refine aC (N := 8) rfl ?_); refine aW ?hg (N := 8) ?hd (cs := #[.int .u8 0, .int .i64 0, .int .i64 0, .int .i64 0, .int .i64 0, .int .i64 0, .slice none 0 0]) (t := 26) ?hr ?_; (case hd => rfl); (case hg => rfl); (case hr => (go_simp; done)); intro b8 hg wb8 hbox hb; have K8 := ae.mk hbox; have G8 := ae.mk (show w.heap.size ≤ b8 by rw [hg]; exact HB.out.size); have q_ := ae.mk (ak HB.out hb); clear HB; have HB := q_; clear q_; clear hb hbox hg) | ((with_reducible refine nK (.store 26 (.tmp 8) (.tmp 21)) rfl ?_); go_loud (refine jg (w0 := w) rfl rfl 26 (.tmp 8) (.tmp 21) rfl (g := b8) (j := 0) (base := w.heap.size) #[.int .u8 x.f0, .int .i64 x.f1.f0, .int .i64 x.f1.f1, .int .i64 x.f1.f2, .int .i64 x.f1.f3, .int .i64 x.f2, .slice X x.f3.length cx] (u := .agg #[.int .u8 x.f0, .int .i64 x.f1.f0, .int .i64 x.f1.f1, .int .i64 x.f1.f2, .int .i64 x.f1.f3, .int .i64 x.f2, .slice X x.f3.length cx]) (bI := [.int .u8 x.f0, .int .i64 x.f1.f0, .int .i64 x.f1.f1, .int .i64 x.f1.f2, .int .i64 x.f1.f3, .int .i64 x.f2, .slice X x.f3.length cx]) ?sA ?sX rfl ?sT ?s1 K8.out ?sJ rfl HB.out HB.out.size G8.out ?_; (case sA => rfl); (case sX => rfl); (case sT => rfl); (case s1 => (simp [Value.oneCell'])); (case sJ => (simp)); intro ws8 hbk hbb hgg; clear K8 HB; have K8 := ae.mk hbk; have HB := ae.mk hbb; clear hbk hbb hgg; clear c0 c1 c2 c3 c4 c5 c6; have d0 := (HB.out.cell (World.block_lt_of_cell? w _ D0.out)).trans D0.out; have d1 := (HB.out.cell (World.block_lt_of_cell? w _ D1.out)).trans D1.out; have d2 := (HB.out.cell (World.block_lt_of_cell? w _ D2.out)).trans D2.out; have d3 := (HB.out.cell (World.block_lt_of_cell? w _ D3.out)).trans D3.out)) | ((with_reducible refine aC (N := 9) rfl ?_); refine aW ?hg (N := 9) ?hd (cs := #[.int .i64 0, .int .i64 0, .int .i64 0, .int .i64 0]) (t := 23) ?hr ?_; (case hd => rfl); (case hg => rfl); (case hr => (go_simp; done)); intro b9 hg wb9 hbox hb; have K9 := ae.mk hbox; have G9 := ae.mk (show w.heap.size ≤ b9 by rw [hg]; exact HB.out.size); have NE := ae.mk (show b8 ≠ b9 by rw [hg]; exact Nat.ne_of_lt (iy K8.out)); have Rt := ae.mk (aY K8.out hb); clear K8; have K8 := Rt; clear Rt; have q_ := ae.mk (ak HB.out hb); clear HB; have HB := q_; clear q_; clear hb hbox hg d0 d1 d2 d3) | ((with_reducible refine nK (.store 23 (.tmp 9) (.tmp 25)) rfl ?_); go_loud (refine jg (w0 := w) rfl rfl 23 (.tmp 9) (.tmp 25) rfl (g := b9) (j := 0) (base := w.heap.size) #[.int .i64 y.f0, .int .i64 y.f1, .int .i64 y.f2, .int .i64 y.f3] (u := .agg #[.int .i64 y.f0, .int .i64 y.f1, .int .i64 y.f2, .int .i64 y.f3]) (bI := [.int .i64 y.f0, .int .i64 y.f1, .int .i64 y.f2, .int .i64 y.f3]) ?sA ?sX rfl ?sT ?s1 K9.out ?sJ rfl HB.out HB.out.size G9.out ?_; (case sA => rfl); (case sX => rfl); (case sT => rfl); (case s1 => (simp [Value.oneCell'])); (case sJ => (simp)); intro ws9 hbk hbb hgg; have Rt := ae.mk (dM K8.out hgg (fun e_ => absurd (Option.some.inj e_) NE.out)); clear K8; have K8 := Rt; clear Rt; clear K9 HB; have K9 := ae.mk hbk; have HB := ae.mk hbb; clear hbk hbb hgg; have e0 := (af K8.out 0).trans rfl; have e1 := (af K8.out 1).trans rfl; have e2 := (af K8.out 2).trans rfl; have e3 := (af K8.out 3).trans rfl; have e4 := (af K8.out 4).trans rfl; have e5 := (af K8.out 5).trans rfl; have e6 := (af K8.out 6).trans rfl; have f0 := (af K9.out 0).trans rfl; have f1 := (af K9.out 1).trans rfl; have f2 := (af K9.out 2).trans rfl; have f3 := (af K9.out 3).trans rfl)))
    clear e0 e1 e2 e3 e4 e5 e6 f0 f1 f2 f3 K8 K9 NE G8 G9
    refine (HCx.out _ HB.out).mono ?_
    rintro e w' ⟨rfl, hb⟩
    have q_ := ae.mk (ak HB.out hb); clear HB; have HB := q_; clear q_
    clear hb
    cases hq : r x y with
    | true =>
     have HQ := ae.mk hq
     clear hq
     go_wp2
     go_roundg (la.length - (kk + 1))
     case measure => have h1 := jd.out; have h2 := HKK.out; omega
     case rel => exact ⟨kk + 1, HKK.out, Nat.le_refl _, (by rw [HW.out]), ⟨by rw [HS.out, HX.out, HQ.out, Bool.true_and]⟩, HB⟩
    | false =>
     have HQ := ae.mk hq
     clear hq
     go_wp2
     go_ret
     rw [HS.out, HX.out, HQ.out, Bool.false_and]
     exact ⟨rfl, HB.out⟩
   ·have hltz : ¬ (kk : Int) < (la.length : Int) := by omega
    go_wp2
    go_ret
    rw [HS.out, List.drop_eq_nil_of_le (by omega), FD]
    exact ⟨rfl, HB.out⟩
 ·have hl1 : ((la.length : Int) != (lb.length : Int)) = true := by simp; omega
  have hl2 : (la.length == lb.length) = false := by simp [hl]
  rw [hl2, Bool.false_and]
  clear hl hl2
  go_enter Try.func211, Try.ntmps211
  go_wp2
  go_ret
  exact ⟨rfl, HB.out⟩
theorem adI (X Y Wd H ax : Int) (sizes : List Int) (hl : sizes.length ≤ 1000000) (B : Option Addr) (cb : Nat) (w : World) (hi : Kd.C (Kd.int .i64) w B sizes.length sizes) :
  Calls Try.prog 45 #[.agg #[.int .i64 X, .int .i64 Y, .int .i64 Wd, .int .i64 H], .int .u8 ax, .slice B sizes.length cb] w (IJ w (qJ X Y Wd H ax sizes)) := by
 have S := ae.mk (St.start (ts := []) (b0 := w.heap.size) (w := w) (P := fun _ => True) (fun _ h => by cases h))
 have HI := ae.mk hi
 have gy := ae.mk hl
 clear hi hl
 by_cases hax : ax = 1 ∨ ax = 2
 case neg =>
  have HQ := ae.mk (xC (X := X) (Y := Y) (W := Wd) (H := H) (sizes := sizes) (.inl hax))
  have tH := ae.mk hax
  clear hax
  go_enter Try.func45, Try.ntmps45
  go_wp2_with (first
   | ((with_reducible refine az 3 rfl ?_); refine boxS 3 #[.int .i64 X, .int .i64 Y, .int .i64 Wd, .int .i64 H] 23 S ?_; clear S; intro b3 fF S; obtain ⟨bT, bU, bV, bW⟩ := St.at4 S (.head _))
   | ((with_reducible refine az 23 rfl ?_); refine dN (some 23) Try.func127 S (R_ tH.out _ _ _ _) ?_; clear S; intro iw S; clear bT bU bV bW)
   | ((with_reducible refine az 9 rfl ?_); refine boxS 9 #[.int .i64 0, .int .i64 0, .int .i64 0, .int .i64 0] 23 S ?_; clear S; intro b9 jT S)
   | ((with_reducible refine fP 23 (.tmp 9) (.tmp 24) rfl ?_); refine kD 23 9 24 #[.int .i64 0, .int .i64 0, .int .i64 0, .int .i64 0] 0 4 S ?_; clear S; intro lQ S)
   | fail)
  go_ret3
  rw [HQ.out]
  exact ⟨none, 0, none, 0, .cells #[] 0 (0, 0), .cells #[] 0 (0, 0), rfl, (fun h => by cases h), S.out.below⟩
 have tH := ae.mk hax
 obtain ⟨S0, hS0⟩ : ∃ s, s = tX ax X Y := ⟨_, rfl⟩
 obtain ⟨T0, hT0⟩ : ∃ s, s = tX ax Y X := ⟨_, rfl⟩
 obtain ⟨D, hD⟩ : ∃ s, s = tX ax Wd H := ⟨_, rfl⟩
 obtain ⟨E, hE⟩ : ∃ s, s = tX ax H Wd := ⟨_, rfl⟩
 have ZC := ae.mk (fun (W : World) => show Calls Try.prog 127 #[.agg #[.int .i64 X, .int .i64 Y, .int .i64 Wd, .int .i64 H], .int .u8 ax] W fun e w' => e = .returned (.tuple #[.agg #[.int .i64 S0, .int .i64 T0, .int .i64 D, .int .i64 E], .bool true]) ∧ Below W.heap.size W w' by rw [hS0, hT0, hD, hE]; exact Ed hax X Y Wd H)
 by_cases hm : qL X Y Wd H = true
 case neg =>
  have hm2 := Bool.eq_false_iff.mpr hm
  have HQ := ae.mk (xC (ax := ax) (sizes := sizes) (.inr (.inl hm2)))
  have vK := ae.mk hm2
  clear hm hm2 hax hS0 hT0 hD hE
  go_enter Try.func45, Try.ntmps45
  go_wp2_with (first
   | ((with_reducible refine az 3 rfl ?_); refine boxS 3 #[.int .i64 X, .int .i64 Y, .int .i64 Wd, .int .i64 H] 23 S ?_; clear S; intro b3 fF S; obtain ⟨bT, bU, bV, bW⟩ := St.at4 S (.head _))
   | ((with_reducible refine az 23 rfl ?_); refine dN (some 23) Try.func127 S (ZC.out _) ?_; clear S; intro iw S; clear bT bU bV bW)
   | ((with_reducible refine az 9 rfl ?_); refine boxS 9 #[.int .i64 0, .int .i64 0, .int .i64 0, .int .i64 0] 23 S ?_; clear S; intro b9 jT S)
   | ((with_reducible refine fP 23 (.tmp 9) (.tmp 24) rfl ?_); refine kD 23 9 24 #[.int .i64 S0, .int .i64 T0, .int .i64 D, .int .i64 E] 0 4 S ?_; clear S; intro lQ S; obtain ⟨bT, bU, bV, bW⟩ := St.at4 S (.tail _ (.head _)))
   | ((with_reducible refine az 30 rfl ?_); (refine fQ (by rfl) ?_; dsimp only); refine dN (some 30) Try.func128 S (J9 vK.out) ?_; clear S; intro tC S; clear bT bU bV bW)
   | fail)
  go_ret3
  rw [HQ.out]
  exact ⟨none, 0, none, 0, .cells #[] 0 (0, 0), .cells #[] 0 (0, 0), rfl, (fun h => by cases h), S.out.below⟩
 have vK := ae.mk hm
 by_cases h0 : sizes.length = 0
 case pos =>
  have HQ := ae.mk (xC (X := X) (Y := Y) (W := Wd) (H := H) (ax := ax) (.inr (.inr h0)))
  have P_ : ((sizes.length : Int) == 0) = true := beq_iff_eq.mpr (by omega)
  have Qa : ((sizes.length : Int) != 0) = false := bne_eq_false_iff_eq.mpr (by omega)
  have Qb : decide ((sizes.length : Int) = 0) = true := decide_eq_true (by omega)
  have Qc : (sizes.length == 0) = true := beq_iff_eq.mpr (by omega)
  have Qd : decide (sizes.length = 0) = true := decide_eq_true (by omega)
  clear hm h0 hax hS0 hT0 hD hE
  go_enter Try.func45, Try.ntmps45
  go_wp2_with (first
   | ((with_reducible refine az 3 rfl ?_); refine boxS 3 #[.int .i64 X, .int .i64 Y, .int .i64 Wd, .int .i64 H] 23 S ?_; clear S; intro b3 fF S; obtain ⟨bT, bU, bV, bW⟩ := St.at4 S (.head _))
   | ((with_reducible refine az 23 rfl ?_); refine dN (some 23) Try.func127 S (ZC.out _) ?_; clear S; intro iw S; clear bT bU bV bW)
   | ((with_reducible refine az 9 rfl ?_); refine boxS 9 #[.int .i64 0, .int .i64 0, .int .i64 0, .int .i64 0] 23 S ?_; clear S; intro b9 jT S)
   | ((with_reducible refine fP 23 (.tmp 9) (.tmp 24) rfl ?_); refine kD 23 9 24 #[.int .i64 S0, .int .i64 T0, .int .i64 D, .int .i64 E] 0 4 S ?_; clear S; intro lQ S; obtain ⟨bT, bU, bV, bW⟩ := St.at4 S (.tail _ (.head _)))
   | ((with_reducible refine az 30 rfl ?_); (refine fQ (by rfl) ?_; dsimp only); refine dN (some 30) Try.func128 S (J9 vK.out) ?_; clear S; intro tC S; clear bT bU bV bW)
   | fail)
  go_ret3
  rw [HQ.out]
  exact ⟨none, 0, none, 0, .cells #[] 0 (0, 0), .cells #[] 0 (0, 0), rfl, (fun h => by cases h), S.out.below⟩
 have hq := P5 hax hm h0
 rw [← hS0, ← hT0, ← hD, ← hE] at hq
 have hb := RY hax hm
 rw [← hS0, ← hD] at hb
 have HB := ae.mk hb
 rw [hq]
 have P_ : ((sizes.length : Int) == 0) = false := beq_eq_false_iff_ne.mpr (by omega)
 have Qa : ((sizes.length : Int) != 0) = true := bne_iff_ne.mpr (by omega)
 have Qb : decide ((sizes.length : Int) = 0) = false := decide_eq_false (by omega)
 have Qc : (sizes.length == 0) = false := beq_eq_false_iff_ne.mpr (by omega)
 have Qd : decide (sizes.length = 0) = false := decide_eq_false (by omega)
 obtain ⟨R, hR⟩ : ∃ R, R = oH ax S0 T0 D E 0 true [] [] sizes := ⟨_, rfl⟩
 rw [← hR]
 have HR := ae.mk hR
 clear hq hb hm h0 hax hS0 hT0 hD hE hR
 go_enter Try.func45, Try.ntmps45
 go_wp2_with (first
  | ((with_reducible refine az 3 rfl ?_); refine boxS 3 #[.int .i64 X, .int .i64 Y, .int .i64 Wd, .int .i64 H] 23 S ?_; clear S; intro b3 fF S; obtain ⟨bT, bU, bV, bW⟩ := St.at4 S (.head _))
  | ((with_reducible refine az 23 rfl ?_); refine dN (some 23) Try.func127 S (ZC.out _) ?_; clear S; intro iw S; clear bT bU bV bW)
  | ((with_reducible refine az 9 rfl ?_); refine boxS 9 #[.int .i64 0, .int .i64 0, .int .i64 0, .int .i64 0] 23 S ?_; clear S; intro b9 jT S)
  | ((with_reducible refine fP 23 (.tmp 9) (.tmp 24) rfl ?_); refine kD 23 9 24 #[.int .i64 S0, .int .i64 T0, .int .i64 D, .int .i64 E] 0 4 S ?_; clear S; intro lQ S; obtain ⟨bT, bU, bV, bW⟩ := St.at4 S (.tail _ (.head _)))
  | ((with_reducible refine az 30 rfl ?_); (refine fQ (by rfl) ?_; dsimp only); refine dN (some 30) Try.func128 S (J9 vK.out) ?_; clear S; intro tC S; clear bT bU bV bW; have qo := (S.out.at (.head _) 0).trans rfl)
  | fail)
 clear qo
 clear P_ Qa Qb Qc Qd
 go_loopg [11, 12, 13, 42] sizes.length (fun gg v11 v12 v13 v42 wr => ∃ (pre rest : List Int) (off : Int) (ps ls : List dE) (Ap : Option Addr) (cp : Nat) (op : Obj) (Aq : Option Addr) (cq : Nat) (oq : Obj), v11 = .slice Ap ps.length cp ∧ v12 = .slice Aq ls.length cq ∧ v13 = .int .i64 (S0 + off) ∧ v42 = .int .i64 (pre.length : Int) ∧ ae (pre ++ rest = sizes) ∧ rest.length ≤ gg ∧ ae (0 ≤ off ∧ off ≤ D ∧ ps.length ≤ pre.length ∧ ls.length ≤ pre.length) ∧ ae (oH ax S0 T0 D E off (pre.length == 0) ps ls rest = R) ∧ ae (KR k23 23 w.heap.size (.slice Ap ps.length cp) ps op) ∧ ae (KR k23 23 w.heap.size (.slice Aq ls.length cq) ls oq) ∧ ae (St w (fun _ => True) [((Value.slice Aq ls.length cq).ownBlock, oq), ((Value.slice Ap ps.length cp).ownBlock, op), (some b9, .cells #[.int .i64 S0, .int .i64 T0, .int .i64 D, .int .i64 E] 23 (0, 0)), (some b3, .cells #[.int .i64 X, .int .i64 Y, .int .i64 Wd, .int .i64 H] 23 (0, 0))] [] [] [] wr))
 case atStart => exact ⟨[], sizes, 0, [], [], none, 0, _, none, 0, _, rfl, rfl, by rw [Int.add_zero], rfl, ⟨rfl⟩, Nat.le_refl _, ⟨by have := HB.out; simp; omega⟩, ⟨HR.out.symm⟩, ⟨IY _ _ _⟩, ⟨IY _ _ _⟩, ⟨S.out.noK.noK⟩⟩
 case round =>
  clear S HR
  obtain ⟨pre, rest, off, ps, ls, Ap, cp, op, Aq, cq, oq, rfl, rfl, rfl, rfl, HE, hgg, HO, HG, iM, mF, S⟩ := hrel
  cases rest with
  | nil =>
   have hE := HE.out
   rw [List.append_nil] at hE
   subst hE
   clear HE hgg
   have hlt : ¬ ((pre.length : Int) < (pre.length : Int)) := by omega
   have hw : wrap64 (S0 + D) = S0 + D := by have := HB.out; unfold wrap64; omega
   have Pq := ae.mk (Js HG.out)
   by_cases hod : off = D
   case pos =>
    have hza : ((S0 + off) == wrap64 (S0 + D)) = true := beq_iff_eq.mpr (by omega)
    have hzb : ((S0 + off) != wrap64 (S0 + D)) = false := bne_eq_false_iff_eq.mpr (by omega)
    have hzd : decide ((S0 + off) = wrap64 (S0 + D)) = true := decide_eq_true (by omega)
    have hya : ((S0 + off) == (S0 + D)) = true := beq_iff_eq.mpr (by omega)
    have hyb : ((S0 + off) != (S0 + D)) = false := bne_eq_false_iff_eq.mpr (by omega)
    have hyd : decide ((S0 + off) = (S0 + D)) = true := decide_eq_true (by omega)
    have IV := ae.mk hod
    clear hod hw
    have qo := (S.out.at (.tail _ (.tail _ (.head _))) 0).trans rfl
    have qU := (S.out.at (.tail _ (.tail _ (.head _))) 2).trans rfl
    go_wp2
    clear qo qU
    go_ret3
    rw [Pq.out, if_pos IV.out]
    have S2 := S.out.sO
    exact ⟨Ap, cp, Aq, cq, op, oq, rfl, fun _ => S2.Rj iM.out mF.out, S.out.below⟩
   case neg =>
    have hza : ((S0 + off) == wrap64 (S0 + D)) = false := beq_eq_false_iff_ne.mpr (by omega)
    have hzb : ((S0 + off) != wrap64 (S0 + D)) = true := bne_iff_ne.mpr (by omega)
    have hzd : decide ((S0 + off) = wrap64 (S0 + D)) = false := decide_eq_false (by omega)
    have hya : ((S0 + off) == (S0 + D)) = false := beq_eq_false_iff_ne.mpr (by omega)
    have hyb : ((S0 + off) != (S0 + D)) = true := bne_iff_ne.mpr (by omega)
    have hyd : decide ((S0 + off) = (S0 + D)) = false := decide_eq_false (by omega)
    have IV := ae.mk hod
    clear hod hw
    have qo := (S.out.at (.tail _ (.tail _ (.head _))) 0).trans rfl
    have qU := (S.out.at (.tail _ (.tail _ (.head _))) 2).trans rfl
    go_wp2
    clear qo qU
    have HQ := ae.mk (Pq.out.trans (if_neg IV.out))
    go_ret3
    rw [HQ.out]
    exact ⟨none, 0, none, 0, .cells #[] 0 (0, 0), .cells #[] 0 (0, 0), rfl, (fun h => by cases h), S.out.below⟩
  | cons n ns =>
   have hlt : (pre.length : Int) < (sizes.length : Int) := by rw [← HE.out, List.length_append, List.length_cons]; omega
   have hw1 : wrap64 ((pre.length : Int) + 1) = ((pre ++ [n]).length : Int) := by have := gy.out; rw [List.length_append, List.length_singleton]; unfold wrap64; omega
   have HW1 := ae.mk hw1
   have jd := ae.mk hgg
   have yh := ae.mk (show ps.length ≤ 1000000 ∧ ls.length ≤ 1000000 by have := HO.out; have := gy.out; omega)
   have hrd : rd sizes (pre.length : Int) = n := by rw [← HE.out]; simp [rd, List.getD_eq_getElem?_getD]
   obtain ⟨adB, ek, xi⟩ := Kd.iE (Kd.jH HI.out S.out.below) (pre.length : Int) (Int.natCast_nonneg _) hlt
   subst ek
   rw [hrd] at xi
   simp only [Int.toNat_natCast] at xi
   clear hrd hgg hw1
   go_upto_if 48 with fail
   clear xi
   go_cut [12, 13] (fun v12 v13 wc => ∃ (o' : Int) (ls' : List dE) (Aq : Option Addr) (cq : Nat) (oq : Obj), v12 = .slice Aq ls'.length cq ∧ v13 = .int .i64 (S0 + o') ∧ ae (0 ≤ o' ∧ o' ≤ D + 1 ∧ ls'.length ≤ pre.length + 1) ∧ ae (yP ax S0 T0 D E o' ps ls' n ns = R) ∧ ae (KR k23 23 w.heap.size (.slice Aq ls'.length cq) ls' oq) ∧ ae (St w (fun _ => True) [((Value.slice Aq ls'.length cq).ownBlock, oq), ((Value.slice Ap ps.length cp).ownBlock, op), (some b9, .cells #[.int .i64 S0, .int .i64 T0, .int .i64 D, .int .i64 E] 23 (0, 0)), (some b3, .cells #[.int .i64 X, .int .i64 Y, .int .i64 Wd, .int .i64 H] 23 (0, 0))] [] [] [] wc))
   case first =>
    by_cases hp2 : pre.length = 0
    case pos =>
     have hp : (pre.length == 0) = true := beq_iff_eq.mpr hp2
     have hpa : decide (0 < (pre.length : Int)) = false := decide_eq_false (by omega)
     have hpb : decide ((pre.length : Int) > 0) = false := decide_eq_false (by omega)
     have hpc : decide (0 < pre.length) = false := decide_eq_false (by omega)
     have hpe : ¬ (0 < pre.length) := by omega
     have HG2 := ae.mk (show yP ax S0 T0 D E off ps ls n ns = R by have h := HG.out; rw [hp] at h; exact h)
     clear hp hp2
     go_wp2
     go_meet
     case rel => exact ⟨off, ls, _, _, _, rfl, rfl, ⟨by have := HO.out; omega⟩, HG2, mF, S⟩
    case neg =>
     have hp : (pre.length == 0) = false := beq_eq_false_iff_ne.mpr hp2
     have hpa : decide (0 < (pre.length : Int)) = true := decide_eq_true (by omega)
     have hpb : decide ((pre.length : Int) > 0) = true := decide_eq_true (by omega)
     have hpc : decide (0 < pre.length) = true := decide_eq_true (by omega)
     have hpe : 0 < pre.length := by omega
     have HG2 := ae.mk (show yP ax S0 T0 D E (off + 1) ps (ls ++ [mM ax (S0 + off) T0 E 1]) n ns = R by have h := HG.out; rw [hp] at h; exact h)
     have Lj := ae.mk (show wrap64 ((S0 + off) + 1) = S0 + (off + 1) by have := HO.out; have := HB.out; unfold wrap64; omega)
     clear hp hp2
     have wV := (S.out.at (.tail _ (.tail _ (.head _))) 1).trans rfl
     have wW := (S.out.at (.tail _ (.tail _ (.head _))) 3).trans rfl
     go_wp2_with (first
      | ((with_reducible refine az 57 rfl ?_); refine dN (some 57) Try.func127 S (Ed tH.out (S0 + off) T0 1 E) ?_; clear S; intro fF S; clear wV wW)
      | ((with_reducible refine az 16 rfl ?_); refine boxS 16 #[.int .i64 0, .int .i64 0, .int .i64 0, .int .i64 0] 23 S ?_; clear S; intro b16 iw S)
      | ((with_reducible refine fP 23 (.tmp 16) (.tmp 58) rfl ?_); refine kD 23 16 58 #[.int .i64 (tX ax (S0 + off) T0), .int .i64 (tX ax T0 (S0 + off)), .int .i64 (tX ax 1 E), .int .i64 (tX ax E 1)] 0 4 S ?_; clear S; intro jT S; obtain ⟨aam, aan, aao, aap⟩ := St.at4 S (.head _))
      | ((with_reducible refine az 63 rfl ?_); at_builtin; replace S := ae.mk S.out.sO; refine sN k23 23 rfl 60 62 42 _ 32 Try.underlying42 info23 rfl (by decide) (by decide) (by decide) S mF ⟨tX ax (S0 + off) T0, tX ax T0 (S0 + off), tX ax 1 E, tX ax E 1⟩ [.int .i64 (tX ax (S0 + off) T0), .int .i64 (tX ax T0 (S0 + off)), .int .i64 (tX ax 1 E), .int .i64 (tX ax E 1)] (fun _ _ _ => pX _ _ _ _) (by have := yh.out; omega) ?_; clear S mF; intro Aq2 cq2 oq2 lQ S mF; clear aam aan aao aap)
      | fail)
     go_meet
     case rel => exact ⟨off + 1, _, _, _, _, (by rw [List.length_append]; rfl), (by rw [Lj.out]), ⟨by have := HO.out; rw [List.length_append, List.length_singleton]; omega⟩, HG2, mF, ⟨S.out.sO.eH.qp.qp.qp.qp⟩⟩
   case rest =>
    clear S mF HG
    obtain ⟨o', ls', Aq, cq, oq, rfl, rfl, tK, HG, mF, S⟩ := hcut
    rename World => wx
    have yh := ae.mk (show ps.length ≤ 1000000 ∧ ls'.length ≤ 1000001 by have := HO.out; have := tK.out; have := gy.out; omega)
    have hg : wrap64 (wrap64 (S0 + D) - (S0 + o')) = D - o' := by have := HB.out; have := tK.out; unfold wrap64; omega
    have ZE := ae.mk hg
    by_cases hn : n < 1
    case pos =>
     have hna : decide (n < 1) = true := decide_eq_true (by omega)
     have hnb : decide (1 > n) = true := decide_eq_true (by omega)
     have HQ := ae.mk (HG.out.symm.trans (zi (.inl hn)))
     go_wp2
     go_ret3
     rw [HQ.out]
     exact ⟨none, 0, none, 0, .cells #[] 0 (0, 0), .cells #[] 0 (0, 0), rfl, (fun h => by cases h), S.out.below⟩
    have hna : decide (n < 1) = false := decide_eq_false (by omega)
    have hnb : decide (1 > n) = false := decide_eq_false (by omega)
    by_cases hd : D < o' + n
    case pos =>
     have hda : decide (wrap64 (wrap64 (S0 + D) - (S0 + o')) < n) = true := decide_eq_true (by omega)
     have hdb : decide (n > wrap64 (wrap64 (S0 + D) - (S0 + o'))) = true := decide_eq_true (by omega)
     have hea : decide (D - o' < n) = true := decide_eq_true (by omega)
     have heb : decide (n > D - o') = true := decide_eq_true (by omega)
     have HQ := ae.mk (HG.out.symm.trans (zi (.inr hd)))
     have qo := (S.out.at (.tail _ (.tail _ (.head _))) 0).trans rfl
     have qU := (S.out.at (.tail _ (.tail _ (.head _))) 2).trans rfl
     go_wp2
     clear qo qU
     go_ret3
     rw [HQ.out]
     exact ⟨none, 0, none, 0, .cells #[] 0 (0, 0), .cells #[] 0 (0, 0), rfl, (fun h => by cases h), S.out.below⟩
    have hda : decide (wrap64 (wrap64 (S0 + D) - (S0 + o')) < n) = false := decide_eq_false (by omega)
    have hdb : decide (n > wrap64 (wrap64 (S0 + D) - (S0 + o'))) = false := decide_eq_false (by omega)
    have hea : decide (D - o' < n) = false := decide_eq_false (by omega)
    have heb : decide (n > D - o') = false := decide_eq_false (by omega)
    have HG2 := ae.mk ((LH (fun h => h.elim hn hd)).symm.trans HG.out)
    have HN := ae.mk hn
    have HD2 := ae.mk hd
    have Lj := ae.mk (show wrap64 ((S0 + o') + n) = S0 + (o' + n) by have := tK.out; have := HB.out; unfold wrap64; omega)
    clear hn hd hg
    obtain ⟨qo, wV, qU, wW⟩ := St.at4 S (.tail _ (.tail _ (.head _)))
    go_wp2_with (first
     | ((with_reducible refine az 88 rfl ?_); refine dN (some 88) Try.func127 S (Ed tH.out (S0 + o') T0 n E) ?_; clear S; intro fF S; clear qo wV qU wW)
     | ((with_reducible refine az 18 rfl ?_); refine boxS 18 #[.int .i64 0, .int .i64 0, .int .i64 0, .int .i64 0] 23 S ?_; clear S; intro b18 iw S)
     | ((with_reducible refine fP 23 (.tmp 18) (.tmp 89) rfl ?_); refine kD 23 18 89 #[.int .i64 (tX ax (S0 + o') T0), .int .i64 (tX ax T0 (S0 + o')), .int .i64 (tX ax n E), .int .i64 (tX ax E n)] 0 4 S ?_; clear S; intro jT S; obtain ⟨aaq, aar, aas, aat⟩ := St.at4 S (.head _))
     | ((with_reducible refine az 94 rfl ?_); at_builtin; replace S := ae.mk S.out.Hl; refine sN k23 23 rfl 91 93 42 _ 32 Try.underlying42 info23 rfl (by decide) (by decide) (by decide) S iM ⟨tX ax (S0 + o') T0, tX ax T0 (S0 + o'), tX ax n E, tX ax E n⟩ [.int .i64 (tX ax (S0 + o') T0), .int .i64 (tX ax T0 (S0 + o')), .int .i64 (tX ax n E), .int .i64 (tX ax E n)] (fun _ _ _ => pX _ _ _ _) (by have := yh.out; omega) ?_; clear S iM; intro IG cp2 J4 lQ S iM; clear aaq aar aas aat)
     | fail)
    have hw1 := HW1.out
    go_wp2
    go_roundg ns.length
    case measure => exact Nat.lt_of_lt_of_le (Nat.lt_succ_self _) jd.out
    case rel => exact ⟨pre ++ [n], ns, o' + n, _, ls', _, _, _, _, _, _, (by rw [List.length_append]; rfl), rfl, (by rw [Lj.out]), (by rw [hw1]), ⟨by rw [List.append_assoc]; exact HE.out⟩, Nat.le_refl _, ⟨by have := HO.out; have := tK.out; have := HN.out; have := HD2.out; simp only [List.length_append, List.length_singleton]; omega⟩, ⟨by rw [show ((pre ++ [n]).length == 0) = false by simp]; exact HG2.out⟩, iM, mF, ⟨S.out.sO.eH.qp.qp.Hl.qp⟩⟩
def afm.f (_ : Nat) (X Y Wd H ax : Int) (sizes : List Int) : Option (List dE × List dE × Bool) := if sizes.length ≤ 1000000 then some (qJ X Y Wd H ax sizes) else none
theorem Two.lower {α β : Type} {d : Kd α} {e : TypeId} {d' : Kd β} {e' : TypeId} {w W W1 : World} {v v' : Value} {l : List α} {l' : List β} {o o' : Obj} (h : Two d e d' e' W W1 v l v' l' o o') (hs : w.heap.size ≤ W.heap.size) : Two d e d' e' w W1 v l v' l' o o' :=
 ⟨zD h.one hs, zD h.two hs, fun g hg => ⟨Nat.le_trans hs (h.ZZ g hg).1, (h.ZZ g hg).2⟩, fun g hg => ⟨Nat.le_trans hs (h.at2 g hg).1, (h.at2 g hg).2⟩, h.ne⟩
theorem aaB (c : ai) (hl : c.f3.length ≤ 1000000) (b : Nat) (P : Nat → Prop) (A : Option Addr) (cc : Nat) (w : World) (hv : Kd.V k26 26 w b P (.slice A c.f3.length cc) c.f3) :
  Calls Try.prog 210 #[.agg #[.int .u8 c.f0, .int .i64 c.f1.f0, .int .i64 c.f1.f1, .int .i64 c.f1.f2, .int .i64 c.f1.f3, .int .i64 c.f2, .slice A c.f3.length cc]] w (IJ w (xB c)) := by
 have S := ae.mk (St.start (ts := [(.slice A c.f3.length cc, c.f3)]) (b0 := w.heap.size) (w := w) (P := P) (fun t ht => by rw [List.mem_singleton.1 ht]; exact fK hv))
 have gy := ae.mk hl
 clear hl hv
 obtain ⟨ck, ⟨cx, cy, cw, ch⟩, aj, l⟩ := c
 simp only [] at S gy ⊢
 rw [show xB ⟨ck, ⟨cx, cy, cw, ch⟩, aj, l⟩ = qJ cx cy cw ch (((ck - 2) % 256 + 1) % 256) (l.map (pV ck)) from rfl]
 obtain ⟨T, hT⟩ : ∃ T, T = qJ cx cy cw ch (((ck - 2) % 256 + 1) % 256) (l.map (pV ck)) := ⟨_, rfl⟩
 rw [← hT]
 have HT := ae.mk hT
 clear hT
 go_enter Try.func210, Try.ntmps210
 go_wp2_with (first
  | ((with_reducible refine az 1 rfl ?_); refine boxS 1 #[.int .u8 ck, .int .i64 cx, .int .i64 cy, .int .i64 cw, .int .i64 ch, .int .i64 aj, .slice A l.length cc] 26 S ?_; clear S; intro b1 fF S; have b_ := (S.out.at (.head _) 6).trans rfl)
  | fail)
 clear b_
 go_loopg [5, 11] l.length (fun gg v3 v9 wr => ∃ (pre rest : List ai) (Ap : Option Addr) (cp : Nat) (op : Obj), v3 = .slice Ap pre.length cp ∧ v9 = .int .i64 (pre.length : Int) ∧ ae (pre ++ rest = l) ∧ rest.length ≤ gg ∧ ae (KR (Kd.int .i64) 3 w.heap.size (.slice Ap pre.length cp) (pre.map (pV ck)) op) ∧ ae (St w P [((Value.slice Ap pre.length cp).ownBlock, op), (some b1, .cells #[.int .u8 ck, .int .i64 cx, .int .i64 cy, .int .i64 cw, .int .i64 ch, .int .i64 aj, .slice A l.length cc] 26 (0, 0))] [] [(.slice A l.length cc, l)] [] wr))
 case atStart => exact ⟨[], l, _, _, _, rfl, rfl, ⟨rfl⟩, Nat.le_refl _, ⟨IY _ _ _⟩, ⟨S.out.noK⟩⟩
 case round =>
  clear S
  obtain ⟨pre, rest, Ap, cp, op, rfl, rfl, HE, hgg, iM, S⟩ := hrel
  cases rest with
  | nil =>
   have hE := HE.out
   rw [List.append_nil] at hE
   have hE2 := hE.symm
   subst hE2
   clear hE HE hgg
   have hlt : ¬ ((l.length : Int) < (l.length : Int)) := by omega
   have hlm : (l.map (pV ck)).length = l.length := List.length_map _
   have hcut := fun W hi => adI cx cy cw ch (((ck - 2) % 256 + 1) % 256) (l.map (pV ck)) (by have := gy.out; simpa using this) Ap cp W hi
   rw [hlm, ← HT.out] at hcut
   have Ei := ae.mk hcut
   clear hcut hlm
   have dV := (S.out.at (.tail _ (.head _)) 1).trans rfl
   have dW := (S.out.at (.tail _ (.head _)) 2).trans rfl
   have dZ := (S.out.at (.tail _ (.head _)) 3).trans rfl
   have d_ := (S.out.at (.tail _ (.head _)) 4).trans rfl
   have bG := (S.out.at (.tail _ (.head _)) 0).trans rfl
   go_wp2_with (first
    | ((with_reducible refine az 38 rfl ?_); refine uj (some 38) Try.func45 (Ei.out _ (by have h := (Kd.bQ (IX iM.out S.out (.head _))).2.2; rw [List.length_map] at h; exact h)) ?_; rintro e iw ⟨A1, c1, A2, c2, o1, o2, rfl, h1, hb⟩; refine ⟨_, rfl, ?_⟩; have HCU := ae.mk (fun h => (h1 h).lower S.out.below.size); replace S := ae.mk (S.out.call hb); clear h1 hb; clear dV dW dZ d_ bG)
    | fail)
   go_ret3
   exact ⟨_, _, _, _, _, _, rfl, HCU.out, S.out.below⟩
  | cons k rest =>
   have hk : k ∈ l := by rw [← HE.out]; simp
   have hlt : (pre.length : Int) < (l.length : Int) := by rw [← HE.out, List.length_append, List.length_cons]; omega
   have hw1 : wrap64 ((pre.length : Int) + 1) = ((pre ++ [k]).length : Int) := by have := gy.out; rw [List.length_append, List.length_singleton]; unfold wrap64; omega
   have HW1 := ae.mk hw1
   have jd := ae.mk hgg
   have HK := ae.mk hk
   have qB := ae.mk (show pre.length ≤ 1048576 by have := gy.out; omega)
   obtain ⟨iO, ua, uc, ek, S1⟩ := S.out.elem (.head _) (pre.length : Int) (Int.natCast_nonneg _) hlt
   subst ek
   have hrd : aI l (pre.length : Int) = k := by rw [← HE.out]; exact iZ pre k rest
   rw [hrd] at S1
   simp only [Int.toNat_natCast] at S1
   replace S := ae.mk S1
   clear S1 hrd hk hgg hw1
   by_cases hk2 : ck = 2
   case pos =>
    have hka : (ck == 2) = true := beq_iff_eq.mpr hk2
    have hkb : decide (ck = 2) = true := decide_eq_true hk2
    have yY := ae.mk (show (pre ++ [k]).map (pV ck) = pre.map (pV ck) ++ [k.f1.f2] by rw [List.map_append]; exact congrArg (pre.map (pV ck) ++ [·]) (if_pos hk2))
    clear hk2
    obtain ⟨jB, jb, jc, iG, iH, jM, jO⟩ := St.yD S
    go_wp2_with (first
     | ((with_reducible refine az 7 rfl ?_); refine boxS 7 #[.int .u8 0, .int .i64 0, .int .i64 0, .int .i64 0, .int .i64 0, .int .i64 0, .slice none 0 0] 26 S ?_; clear S; intro b7 jT S; clear jB jb jc iG iH jM jO)
     | ((with_reducible refine fP 26 (.tmp 7) (.tmp 14) rfl ?_); refine kD 26 7 14 #[.int .u8 k.f0, .int .i64 k.f1.f0, .int .i64 k.f1.f1, .int .i64 k.f1.f2, .int .i64 k.f1.f3, .int .i64 k.f2, .slice ua k.f3.length uc] 0 7 S ?_; clear S; intro lQ S; have bG := (S.out.at (.tail _ (.tail _ (.head _))) 0).trans rfl; have adx := (S.out.at (.head _) 3).trans rfl)
     | ((with_reducible refine az 23 rfl ?_); at_builtin; replace S := ae.mk S.out.sO; refine sN (Kd.int .i64) 3 rfl 18 22 41 (.int .i64 0) 8 Try.underlying41 info3 rfl (by decide) (by decide) (by decide) S iM k.f1.f2 [.int .i64 k.f1.f2] (fun _ _ _ => rfl) (by have := qB.out; simp only [List.length_map]; omega) ?_; clear S iM; intro IG cp2 J4 tC S iM; clear bG adx)
     | fail)
    have e2 : ((pre.map (pV ck)) ++ [k.f1.f2]).length = (pre ++ [k]).length := by simp
    rw [e2, ← yY.out] at iM
    rw [e2] at S
    have hw1 := HW1.out
    go_wp2
    go_roundg rest.length
    case measure => exact Nat.lt_of_lt_of_le (Nat.lt_succ_self _) jd.out
    case rel => exact ⟨pre ++ [k], rest, _, _, _, (by rw [List.length_append]; rfl), (by rw [hw1]), ⟨by rw [List.append_assoc]; exact HE.out⟩, Nat.le_refl _, iM, ⟨S.out.sO.eH.sO.sO.bH.aU.aU.aU.aU.aU.aU.aU⟩⟩
   case neg =>
    have hka : (ck == 2) = false := beq_eq_false_iff_ne.mpr hk2
    have hkb : decide (ck = 2) = false := decide_eq_false hk2
    have yY := ae.mk (show (pre ++ [k]).map (pV ck) = pre.map (pV ck) ++ [k.f1.f3] by rw [List.map_append]; exact congrArg (pre.map (pV ck) ++ [·]) (if_neg hk2))
    clear hk2
    obtain ⟨jB, jb, jc, iG, iH, jM, jO⟩ := St.yD S
    go_wp2_with (first
     | ((with_reducible refine az 7 rfl ?_); refine boxS 7 #[.int .u8 0, .int .i64 0, .int .i64 0, .int .i64 0, .int .i64 0, .int .i64 0, .slice none 0 0] 26 S ?_; clear S; intro b7 Cc S; clear jB jb jc iG iH jM jO)
     | ((with_reducible refine fP 26 (.tmp 7) (.tmp 14) rfl ?_); refine kD 26 7 14 #[.int .u8 k.f0, .int .i64 k.f1.f0, .int .i64 k.f1.f1, .int .i64 k.f1.f2, .int .i64 k.f1.f3, .int .i64 k.f2, .slice ua k.f3.length uc] 0 7 S ?_; clear S; intro AB S; have bG := (S.out.at (.tail _ (.tail _ (.head _))) 0).trans rfl; have ady := (S.out.at (.head _) 4).trans rfl)
     | ((with_reducible refine az 29 rfl ?_); at_builtin; replace S := ae.mk S.out.sO; refine sN (Kd.int .i64) 3 rfl 24 28 41 (.int .i64 0) 8 Try.underlying41 info3 rfl (by decide) (by decide) (by decide) S iM k.f1.f3 [.int .i64 k.f1.f3] (fun _ _ _ => rfl) (by have := qB.out; simp only [List.length_map]; omega) ?_; clear S iM; intro IG cp2 J4 Fb S iM; clear bG ady)
     | fail)
    have e2 : ((pre.map (pV ck)) ++ [k.f1.f3]).length = (pre ++ [k]).length := by simp
    rw [e2, ← yY.out] at iM
    rw [e2] at S
    have hw1 := HW1.out
    go_wp2
    go_roundg rest.length
    case measure => exact Nat.lt_of_lt_of_le (Nat.lt_succ_self _) jd.out
    case rel => exact ⟨pre ++ [k], rest, _, _, _, (by rw [List.length_append]; rfl), (by rw [hw1]), ⟨by rw [List.append_assoc]; exact HE.out⟩, Nat.le_refl _, iM, ⟨S.out.sO.eH.sO.sO.bH.aU.aU.aU.aU.aU.aU.aU⟩⟩
theorem aay (k : ai) (r : dE) (A : Option Addr) (cc : Nat) (w : World) :
  Calls Try.prog 212 #[.agg #[.int .u8 k.f0, .int .i64 k.f1.f0, .int .i64 k.f1.f1, .int .i64 k.f1.f2, .int .i64 k.f1.f3, .int .i64 k.f2, .slice A k.f3.length cc], .agg #[.int .i64 r.f0, .int .i64 r.f1, .int .i64 r.f2, .int .i64 r.f3]] w fun e w' => e = .returned (.bool (mf k.f1 r)) ∧ Below w.heap.size w w' := by
 have S := ae.mk (St.start (ts := []) (b0 := w.heap.size) (w := w) (P := fun _ => True) (fun _ h => by cases h))
 go_enter Try.func212, Try.ntmps212
 go_wp2_with (first
  | ((with_reducible refine az 2 rfl ?_); refine boxS 2 #[.int .u8 k.f0, .int .i64 k.f1.f0, .int .i64 k.f1.f1, .int .i64 k.f1.f2, .int .i64 k.f1.f3, .int .i64 k.f2, .slice A k.f3.length cc] 26 S ?_; clear S; intro b2 fF S)
  | ((with_reducible refine az 3 rfl ?_); refine boxS 3 #[.int .i64 r.f0, .int .i64 r.f1, .int .i64 r.f2, .int .i64 r.f3] 23 S ?_; clear S; intro b3 iw S; obtain ⟨bT, bU, bV, bW⟩ := St.at4 S (.head _); have lG := (S.out.at (.tail _ (.head _)) 1).trans rfl; have lH := (S.out.at (.tail _ (.head _)) 2).trans rfl; have lI := (S.out.at (.tail _ (.head _)) 3).trans rfl; have lJ := (S.out.at (.tail _ (.head _)) 4).trans rfl)
  | fail)
 clear bT bU bV bW lG lH lI lJ
 all_goals (go_ret; refine ⟨?_, S.out.below⟩; clear S; simp [mf, *])
theorem Ur (c : ai) (hl : c.f3.length ≤ 1000000) (b : Nat) (P : Nat → Prop) (A : Option Addr) (cc : Nat) (w : World) (hv : Kd.V k26 26 w b P (.slice A c.f3.length cc) c.f3) :
  Calls Try.prog 206 #[.agg #[.int .u8 c.f0, .int .i64 c.f1.f0, .int .i64 c.f1.f1, .int .i64 c.f1.f2, .int .i64 c.f1.f3, .int .i64 c.f2, .slice A c.f3.length cc]] w (NI w c) := by
 have S := ae.mk (St.start (ts := [(.slice A c.f3.length cc, c.f3)]) (b0 := w.heap.size) (w := w) (P := P) (fun t ht => by rw [List.mem_singleton.1 ht]; exact fK hv))
 have hcut := fun b P A cc W hV => aaB c hl b P A cc W hV
 have ho : ql c = Gm c (xB c) := rfl
 have hl2 := (Jt c).2
 unfold NI
 generalize ql c = v at ho ⊢
 generalize xB c = T at ho hl2 hcut
 clear hl hv
 obtain ⟨ck, ⟨cx, cy, cw, ch⟩, aj, l⟩ := c
 obtain ⟨t1, t2, t3⟩ := T
 simp only [Gm] at S hl2 hcut ho ⊢
 have HL2 := ae.mk hl2
 clear hl2
 by_cases h1 : ck = 1
 case pos =>
  have hv : v = true := by rw [ho, h1]; rfl
  have ha : (ck == 1) = true := beq_iff_eq.mpr h1
  have hb : decide (ck = 1) = true := decide_eq_true h1
  have HL := ae.mk hv
  clear hv h1 ho hcut
  go_enter Try.func206, Try.ntmps206
  go_wp2_with (first
   | ((with_reducible refine az 1 rfl ?_); refine boxS 1 #[.int .u8 ck, .int .i64 cx, .int .i64 cy, .int .i64 cw, .int .i64 ch, .int .i64 aj, .slice A l.length cc] 26 S ?_; clear S; intro b1 fF S; have bG := (S.out.at (.head _) 0).trans rfl)
   | fail)
  clear bG
  go_ret2
  rw [HL.out]
  exact ⟨_, _, _, rfl, fun _ => ⟨[], rfl, Nat.zero_le _, Kd.qR _ _ _ _ _⟩, S.out.below⟩
 have ha : (ck == 1) = false := beq_eq_false_iff_ne.mpr h1
 have hd : decide (ck = 1) = false := decide_eq_false h1
 rw [ha, Bool.false_or] at ho
 clear h1
 cases t3 with
 | false =>
  rw [Bool.false_and] at ho
  have HL := ae.mk ho
  have Ei := ae.mk (fun b P A cc W hV => Ju (hcut b P A cc W hV))
  clear hcut ho
  go_enter Try.func206, Try.ntmps206
  go_wp2_with (first
   | ((with_reducible refine az 1 rfl ?_); refine boxS 1 #[.int .u8 ck, .int .i64 cx, .int .i64 cy, .int .i64 cw, .int .i64 ch, .int .i64 aj, .slice A l.length cc] 26 S ?_; clear S; intro b1 fF S; obtain ⟨bG, dV, dW, dZ, d_, fC, b_⟩ := St.iJ S (.head _))
   | ((with_reducible refine az 12 rfl ?_); refine uj (some 12) Try.func210 (Ei.out _ _ _ _ _ (S.out.tree _ (.head _))) ?_; rintro e iw ⟨Ap, np, cp, Aq, nq, cq, rfl, hb⟩; refine ⟨_, rfl, ?_⟩; replace S := ae.mk (S.out.call hb); clear hb; clear bG dV dW dZ d_ fC b_)
   | fail)
  go_ret2
  rw [HL.out]
  exact ⟨_, _, _, rfl, (fun h => by cases h), S.out.below⟩
 | true =>
  rw [Bool.true_and] at ho
  have Ei := ae.mk (fun b P A cc W hV => LJ (hcut b P A cc W hV))
  have HEF := ae.mk (fun (A B : Option Addr) (ca cb : Nat) (W : World) (h1 : Kd.C k26 W A l.length l) (h2 : Kd.C k23 W B t1.length t1) => (show Calls Try.prog 211 #[.slice A l.length ca, .slice B t1.length cb, .func (.func 212) #[] #[]] W fun e w' => e = .returned (.bool v) ∧ Below W.heap.size W w' by rw [ho]; exact aaH (fun k r => mf k.f1 r) 212 (qK Try.func212 (by decide +kernel) (by kernel_rfl)) l t1 A B ca cb W h1 h2 (fun W x X cx y _ _ _ _ => aay x y X cx W)))
  clear hcut ho
  go_enter Try.func206, Try.ntmps206
  go_wp2_with (first
   | ((with_reducible refine az 1 rfl ?_); refine boxS 1 #[.int .u8 ck, .int .i64 cx, .int .i64 cy, .int .i64 cw, .int .i64 ch, .int .i64 aj, .slice A l.length cc] 26 S ?_; clear S; intro b1 fF S; obtain ⟨bG, dV, dW, dZ, d_, fC, b_⟩ := St.iJ S (.head _))
   | ((with_reducible refine az 12 rfl ?_); refine uj (some 12) Try.func210 (Ei.out _ _ _ _ _ (S.out.tree _ (.head _))) ?_; rintro e iw ⟨Ap, cp, Aq, cq, op, oq, rfl, h1, hb⟩; refine ⟨_, rfl, ?_⟩; obtain ⟨S1, hp, hq⟩ := S.out.two h1 hb; replace S := ae.mk S1; have iM := ae.mk hp; have mF := ae.mk hq; clear S1 hp hq h1 hb; clear bG dV dW dZ d_ fC b_; have b_ := (S.out.at (.tail _ (.tail _ (.head _))) 6).trans rfl)
   | ((with_reducible refine az 22 rfl ?_); (refine fQ (by rfl) ?_; dsimp only); refine dN (some 22) Try.func211 S (HEF.out _ _ _ _ _ (Kd.kz (S.out.tree _ (.head _))).2.2 (ZF iM.out S.out (.head _)).1) ?_; clear S; intro jT S; clear b_)
   | fail)
  go_ret2
  exact ⟨_, _, _, rfl, fun _ => ⟨t2, rfl, HL2.out, S.out.OG mF.out (.tail _ (.head _))⟩, S.out.below⟩
def oz (w0 : World) (gw j : Nat) (W : World) : Prop := Below w0.heap.size w0 W ∧ ∃ (n : Int) (v : Value) (ls : List dE), W.heap[gw]? = some (.cells #[.int .i64 n, v] 182 (0, 0)) ∧ Kd.R k23 23 W w0.heap.size (fun _ => True) v ls ∧ ls.length ≤ j
def Fr (gw : Nat) (W W' : World) : Prop := ∀ k cs t, k ≠ gw → t ≠ 23 → W.heap[k]? = some (.cells cs t (0, 0)) → W'.heap[k]? = some (.cells cs t (0, 0))
theorem Fr.refl (gw : Nat) (W : World) : Fr gw W W := fun _ _ _ _ _ h => h
theorem Fr.trans {gw : Nat} {W W1 W2 : World} (h : Fr gw W W1) (k : Fr gw W1 W2) : Fr gw W W2 := fun i cs t hi ht hb => k i cs t hi ht (h i cs t hi ht hb)
theorem Fr.below {gw : Nat} {W W1 : World} (h : Below W.heap.size W W1) : Fr gw W W1 := fun _ _ _ _ _ hb => aY hb h
theorem Fr.store {gw : Nat} {W W1 : World} (h : W.grownBy W1 (some gw)) : Fr gw W W1 := fun _ _ _ hi _ hb => dM hb h (fun e => absurd (Option.some.inj e) hi)
theorem Fr.append {gw base : Nat} {W W1 : World} {v : Value} {xs : List dE} {ok : Nat → Prop} (hv : Kd.R k23 23 W base ok v xs) (h : W.grownBy W1 v.ownBlock) : Fr gw W W1 := fun _ _ _ _ ht hb => dM hb h (Kd.DN hv hb (fun e => ht e.symm))
theorem oz.below {w0 W W1 : World} {gw j : Nat} (h : oz w0 gw j W) (hb : Below W.heap.size W W1) : oz w0 gw j W1 := by
 obtain ⟨h1, n, v, ls, h2, h3, h4⟩ := h
 exact ⟨ak h1 hb, n, v, ls, aY h2 hb, Kd.pW h3 hb, h4⟩
theorem oz.mono {w0 W : World} {gw j j' : Nat} (h : oz w0 gw j W) (hj : j ≤ j') : oz w0 gw j' W := by
 obtain ⟨h1, n, v, ls, h2, h3, h4⟩ := h
 exact ⟨h1, n, v, ls, h2, h3, Nat.le_trans h4 hj⟩
theorem aax (x : ai) (B : Option Addr) (cb b3 gw : Nat) (r : Bool) (R : World → Prop) (W : World) (hk : W.heap[b3]? = some (.cells #[.pointer (some ⟨gw, 0, none⟩)] 180 (0, 0)))
  (h : ∀ W1, Below W.heap.size W W1 → Calls Try.prog 197 #[.pointer (some ⟨gw, 0, none⟩), .agg #[.int .u8 x.f0, .int .i64 x.f1.f0, .int .i64 x.f1.f1, .int .i64 x.f1.f2, .int .i64 x.f1.f3, .int .i64 x.f2, .slice B x.f3.length cb]] W1 fun e w' => e = .returned (.bool r) ∧ R w') :
  Calls Try.prog 207 (#[.agg #[.int .u8 x.f0, .int .i64 x.f1.f0, .int .i64 x.f1.f1, .int .i64 x.f1.f2, .int .i64 x.f1.f3, .int .i64 x.f2, .slice B x.f3.length cb]] ++ #[.pointer (some ⟨b3, 0, none⟩)]) W fun e w' => e = .returned (.bool (!r)) ∧ R w' := by
 have HK := ae.mk hk
 have H := ae.mk h
 clear hk h
 simp only [List.append_toArray, List.cons_append, List.nil_append]
 cases r
 all_goals
  go_enter Try.func207, Try.ntmps207
  go_wp2_with (first
   | ((with_reducible refine aC (N := 2) rfl ?_); refine aW ?hg (N := 2) ?hd (cs := #[.int .u8 x.f0, .int .i64 x.f1.f0, .int .i64 x.f1.f1, .int .i64 x.f1.f2, .int .i64 x.f1.f3, .int .i64 x.f2, .slice B x.f3.length cb]) (t := 26) ?hr ?_; (case hd => rfl); (case hg => rfl); (case hr => first | (go_simp; done) | (go_simp; rfl)); intro b2 hg V5 hbox hb; have lF := ae.mk hbox; have HB := ae.mk hb; have K3 := ae.mk (aY HK.out hb); have d0 := (af K3.out 0).trans rfl; have c0 := (af lF.out 0).trans rfl; have c1 := (af lF.out 1).trans rfl; have c2 := (af lF.out 2).trans rfl; have c3 := (af lF.out 3).trans rfl; have c4 := (af lF.out 4).trans rfl; have c5 := (af lF.out 5).trans rfl; have c6 := (af lF.out 6).trans rfl; clear hb hbox hg)
   | fail)
  clear c0 c1 c2 c3 c4 c5 c6 d0
  refine (H.out _ HB.out).mono ?_
  rintro e w' ⟨rfl, hR⟩
  have HR := ae.mk hR
  clear hR
  go_wp2
  go_ret
  exact ⟨rfl, HR.out⟩
def o6.T5 : Bool × List (List Nat × List Nat) := (true, [([], []), ([], []), ([1], [1]), ([2], [2]), ([3], [3]), ([], []), ([4, 5], [4, 5]), ([0, 0, 1, 2, 3, 4, 5, 6], [0]), ([7, 0, 1, 2, 3, 4, 5, 6], [7]), ([8, 6, 6, 0, 1, 2, 3, 4, 5, 6], [6, 8])])
def o6.B5 : List Nat := [0, 0, 2, 6, 14, 0, 62, 127, 255, 511]
theorem o6.O1 : iP .any (opsOf Try.f197 5) = o6.T5 := by kernel_rfl
theorem o6.Ip : iL o6.T5.2 o6.B5 = true := by kernel_rfl
theorem YU (w0 : World) (gw : Nat) (hgw : w0.heap.size ≤ gw) : ∀ (N : Nat) (c : ai), sz c ≤ N → N ≤ 20000 → ∀ (A : Option Addr) (cc : Nat), Kd.C k26 w0 A c.f3.length c.f3 → c.f3.length ≤ cc → ∀ (j : Nat) (W : World), j + fV c.f3 ≤ 1000000 → oz w0 gw j W →
  Calls Try.prog 197 #[.pointer (some ⟨gw, 0, none⟩), .agg #[.int .u8 c.f0, .int .i64 c.f1.f0, .int .i64 c.f1.f1, .int .i64 c.f1.f2, .int .i64 c.f1.f3, .int .i64 c.f2, .slice A c.f3.length cc]] W fun e w' => e = .returned (.bool (kW c)) ∧ oz w0 gw (j + fV c.f3) w' ∧ Fr gw W w' := by
 intro N
 induction N with
 | zero => intro c h; rw [dR] at h; omega
 | succ N ih =>
  intro c hc hN A cc hr hlc j W hj hI
  have hsz := dR c
  have hlen := jJ c.f3
  have VI : ∀ (b2 j1 : Nat) (W1 : World), b2 ≠ gw → W1.heap[b2]? = some (.cells #[.pointer (some ⟨gw, 0, none⟩)] 180 (0, 0)) → oz w0 gw j1 W1 → j1 ≤ j + c.f3.length →
    Calls Try.prog 174 #[.slice A c.f3.length cc, .func (.func 207) #[] #[.pointer (some ⟨b2, 0, none⟩)]] W1 fun e w' => e = .returned (.bool (!(c.f3.all kW))) ∧ oz w0 gw (j + fV c.f3) w' ∧ Fr gw W1 w' := by
   intro b2 j1 W1 hne hk hi hj1
   have hcon := LG (fun rest w' => (∃ i, oz w0 gw i w' ∧ i + fV rest ≤ (j + fV c.f3) + rest.length) ∧ Fr gw W1 w') (fun x => !kW x) 207 #[.pointer (some ⟨b2, 0, none⟩)] (qK Try.func207 (by decide +kernel) (by kernel_rfl)) c.f3 A cc w0 hr
    (fun s w' h => by obtain ⟨⟨i, h1, _⟩, _⟩ := h; exact h1.1)
    (fun s w' n h => by obtain ⟨⟨i, h1, h2⟩, h3⟩ := h; exact ⟨⟨i, h1.below (dP (Below.refl _ _) n), h2⟩, h3.trans (Fr.below (dP (Below.refl _ _) n))⟩)
    (fun x rest w' B cb hx hp h hCx hlx => by
     obtain ⟨⟨i, h1, h2⟩, h3⟩ := h
     obtain ⟨pre, hp⟩ := hp
     have e1 : fV c.f3 = fV pre + (sz x + fV rest) := by rw [← hp, oQ, dU]
     have e2 := dR x
     have e3 := jJ rest
     have e4 := jJ pre
     rw [dU, List.length_cons] at h2
     refine (aax x B cb b2 gw (kW x) (fun w'' => oz w0 gw (i + fV x.f3) w'' ∧ Fr gw W1 w'') w' (h3 b2 _ 180 hne (by decide) hk) (fun W2 hb2 => ?_)).mono ?_
     ·refine (ih x (by omega) (by omega) B cb hCx hlx i W2 (by omega) (h1.below hb2)).mono ?_
      rintro e w'' ⟨he, hi2, hf⟩
      exact ⟨he, hi2, h3.trans ((Fr.below hb2).trans hf)⟩
     ·rintro e w'' ⟨he, hi2, hf⟩
      refine ⟨he, ⟨⟨i + fV x.f3, hi2, ?_⟩, hf⟩⟩
      split
      ·rw [qf]; show _ ≤ _ + 0; omega
      ·omega)
    W1 ⟨⟨j1, hi, by omega⟩, Fr.refl gw W1⟩ hr.2.1
   refine hcon.mono ?_
   rintro e w' ⟨he, ⟨i, h1, h2⟩, h3⟩
   rw [qf] at h2
   refine ⟨?_, h1.mono (by simpa using h2), h3⟩
   rw [he, List.not_all_eq_any_not]
  have hL : ∀ W1, Below w0.heap.size w0 W1 → Calls Try.prog 206 #[.agg #[.int .u8 c.f0, .int .i64 c.f1.f0, .int .i64 c.f1.f1, .int .i64 c.f1.f2, .int .i64 c.f1.f3, .int .i64 c.f2, .slice A c.f3.length cc]] W1 fun e w' => ∃ Au n cu, e = .returned (.tuple #[.slice Au n cu, .bool (ql c)]) ∧ (ql c = true → ∃ us : List dE, n = us.length ∧ us.length ≤ c.f3.length ∧ k23.R 23 w' W1.heap.size (fun _ => True) (.slice Au us.length cu) us) ∧ Below W1.heap.size W1 w' := fun W1 hb => Ur c (by omega) W1.heap.size (fun _ => True) A cc W1 (Kd.uN hlc (Kd.pM (Kd.Dh nZ (Kd.jH hr hb)) (fun _ _ => trivial)))
  rw [BZ]
  obtain ⟨hB, n, v, ls, hK, hV, hls⟩ := hI
  obtain ⟨Av, cv, ev⟩ := Kd.fG hV
  subst ev
  have HB := ae.mk hB
  have KW := ae.mk hK
  have RV := ae.mk hV
  have FR := ae.mk (Fr.refl gw W)
  have Di := ae.mk hgw
  have Nz := ae.mk VI
  have HL := ae.mk hL
  have Le := ae.mk hls
  have HJ := ae.mk hj
  have HN := ae.mk hlen
  clear hB hK hV VI hL hls hj hlen hsz ih hr hlc hc hN
  obtain ⟨ck, ⟨cx, cy, cw, ch⟩, aj, l⟩ := c
  simp only [] at Nz HL HJ HN ⊢
  generalize ql ⟨ck, ⟨cx, cy, cw, ch⟩, aj, l⟩ = q at HL ⊢
  generalize l.all kW = p at Nz ⊢
  cases q with
  | false =>
   rw [Bool.false_and]
   go_enter Try.func197, Try.ntmps197
   go_wp2_with (first
    | ((with_reducible refine aC (N := 2) rfl ?_); refine aW ?hg (N := 2) ?hd (cs := #[.pointer (some ⟨gw, 0, none⟩)]) (t := 180) ?hr ?_; (case hd => rfl); (case hg => rfl); (case hr => first | (go_simp; done) | (go_simp; rfl)); intro b2 hg V5 hbox hb; have lF := ae.mk hbox; have Vu := ae.mk (show b2 ≠ gw by rw [hg]; exact Nat.ne_of_gt (iy KW.out)); have df := ae.mk (ak HB.out hb); have oN := ae.mk (aY KW.out hb); have mP := ae.mk (Kd.pW RV.out hb); have mO := ae.mk (FR.out.trans (Fr.below hb)); clear HB KW RV FR; have HB := df; have KW := oN; have RV := mP; have FR := mO; clear df oN mP mO; clear hb hbox hg)
    | ((with_reducible refine aC (N := 3) rfl ?_); refine aW ?hg (N := 3) ?hd (cs := #[.int .u8 ck, .int .i64 cx, .int .i64 cy, .int .i64 cw, .int .i64 ch, .int .i64 aj, .slice A l.length cc]) (t := 26) ?hr ?_; (case hd => rfl); (case hg => rfl); (case hr => first | (go_simp; done) | (go_simp; rfl)); intro b3 hg V6 hbox hb; have fD := ae.mk hbox; have ZH := ae.mk (show b3 ≠ gw by rw [hg]; exact Nat.ne_of_gt (iy KW.out)); have df := ae.mk (ak HB.out hb); have oN := ae.mk (aY KW.out hb); have mP := ae.mk (Kd.pW RV.out hb); have mO := ae.mk (FR.out.trans (Fr.below hb)); have nP := ae.mk (aY lF.out hb); clear HB KW RV FR lF; have HB := df; have KW := oN; have RV := mP; have FR := mO; have lF := nP; clear df oN mP mO nP; have c0 := (af fD.out 0).trans rfl; have c1 := (af fD.out 1).trans rfl; have c2 := (af fD.out 2).trans rfl; have c3 := (af fD.out 3).trans rfl; have c4 := (af fD.out 4).trans rfl; have c5 := (af fD.out 5).trans rfl; have c6 := (af fD.out 6).trans rfl; clear hb hbox hg)
    | fail)
   clear c0 c1 c2 c3 c4 c5 c6
   refine (HL.out _ HB.out).mono ?_
   rintro e w1 ⟨Au, nu, cu, rfl, _, hb⟩
   have df := ae.mk (ak HB.out hb); have oN := ae.mk (aY KW.out hb); have mP := ae.mk (Kd.pW RV.out hb); have mO := ae.mk (FR.out.trans (Fr.below hb)); have nP := ae.mk (aY lF.out hb); have uz := ae.mk (aY fD.out hb); clear HB KW RV FR lF fD; have HB := df; have KW := oN; have RV := mP; have FR := mO; have lF := nP; have fD := uz; clear df oN mP mO nP uz
   clear hb
   go_wp2
   go_ret
   exact ⟨rfl, ⟨HB.out, n, _, ls, KW.out, RV.out, by have := Le.out; omega⟩, FR.out⟩
  | true =>
   rw [Bool.true_and]
   go_enter Try.func197, Try.ntmps197
   go_wp2_with (first
    | ((with_reducible refine aC (N := 2) rfl ?_); refine aW ?hg (N := 2) ?hd (cs := #[.pointer (some ⟨gw, 0, none⟩)]) (t := 180) ?hr ?_; (case hd => rfl); (case hg => rfl); (case hr => first | (go_simp; done) | (go_simp; rfl)); intro b2 hg V5 hbox hb; have lF := ae.mk hbox; have Vu := ae.mk (show b2 ≠ gw by rw [hg]; exact Nat.ne_of_gt (iy KW.out)); have df := ae.mk (ak HB.out hb); have oN := ae.mk (aY KW.out hb); have mP := ae.mk (Kd.pW RV.out hb); have mO := ae.mk (FR.out.trans (Fr.below hb)); clear HB KW RV FR; have HB := df; have KW := oN; have RV := mP; have FR := mO; clear df oN mP mO; clear hb hbox hg)
    | ((with_reducible refine aC (N := 3) rfl ?_); refine aW ?hg (N := 3) ?hd (cs := #[.int .u8 ck, .int .i64 cx, .int .i64 cy, .int .i64 cw, .int .i64 ch, .int .i64 aj, .slice A l.length cc]) (t := 26) ?hr ?_; (case hd => rfl); (case hg => rfl); (case hr => first | (go_simp; done) | (go_simp; rfl)); intro b3 hg V6 hbox hb; have fD := ae.mk hbox; have ZH := ae.mk (show b3 ≠ gw by rw [hg]; exact Nat.ne_of_gt (iy KW.out)); have df := ae.mk (ak HB.out hb); have oN := ae.mk (aY KW.out hb); have mP := ae.mk (Kd.pW RV.out hb); have mO := ae.mk (FR.out.trans (Fr.below hb)); have nP := ae.mk (aY lF.out hb); clear HB KW RV FR lF; have HB := df; have KW := oN; have RV := mP; have FR := mO; have lF := nP; clear df oN mP mO nP; have c0 := (af fD.out 0).trans rfl; have c1 := (af fD.out 1).trans rfl; have c2 := (af fD.out 2).trans rfl; have c3 := (af fD.out 3).trans rfl; have c4 := (af fD.out 4).trans rfl; have c5 := (af fD.out 5).trans rfl; have c6 := (af fD.out 6).trans rfl; clear hb hbox hg)
    | fail)
   clear c0 c1 c2 c3 c4 c5 c6
   refine (HL.out _ HB.out).mono ?_
   rintro e w1 ⟨Au, nu, cu, rfl, hu, hb⟩
   obtain ⟨us, eu, hul, hu2⟩ := hu trivial
   subst eu
   have gy := ae.mk hul
   have HU := ae.mk (Kd.iV hu2 HB.out.size)
   clear hul hu hu2
   have df := ae.mk (ak HB.out hb); have oN := ae.mk (aY KW.out hb); have mP := ae.mk (Kd.pW RV.out hb); have mO := ae.mk (FR.out.trans (Fr.below hb)); have nP := ae.mk (aY lF.out hb); have uz := ae.mk (aY fD.out hb); clear HB KW RV FR lF fD; have HB := df; have KW := oN; have RV := mP; have FR := mO; have lF := nP; have fD := uz; clear df oN mP mO nP uz
   clear hb
   have d0 := (af lF.out 0).trans rfl
   have e0 := (af KW.out 0).trans rfl
   have e1 := (af KW.out 1).trans rfl
   go_wp2_with (first
    | ((with_reducible refine nK (.store 3 (.tmp 20) (.tmp 18)) rfl ?_); go_loud (refine jg (w0 := w0) rfl rfl 3 (.tmp 20) (.tmp 18) rfl (g := gw) (j := 0) (base := w0.heap.size) #[.int .i64 (wrap64 (n + 1)), .slice Av ls.length cv] (u := .int .i64 (wrap64 (n + 1))) (bI := [.int .i64 (wrap64 (n + 1))]) ?sA ?sX rfl ?sT ?s1 KW.out ?sJ rfl HB.out HB.out.size Di.out ?_; (case sA => rfl); (case sX => rfl); (case sT => rfl); (case s1 => (simp [Value.oneCell'])); (case sJ => (first | decide | simp)); intro ws hbk hbb hgg; have mP := ae.mk (Kd.DL RV.out rfl hgg (fun k_ hk => hk ▸ Kd.DN RV.out KW.out (by decide))); have Ko := ae.mk (Kd.DL HU.out rfl hgg (fun k_ hk => hk ▸ Kd.DN HU.out KW.out (by decide))); have mO := ae.mk (FR.out.trans (Fr.store hgg)); have nP := ae.mk (dM lF.out hgg (fun e_ => absurd (Option.some.inj e_) Vu.out)); have uz := ae.mk (dM fD.out hgg (fun e_ => absurd (Option.some.inj e_) ZH.out)); clear RV HU FR lF fD; have RV := mP; have HU := Ko; have FR := mO; have lF := nP; have fD := uz; clear mP Ko mO nP uz; clear KW HB d0 e0 e1; have KW := ae.mk hbk; have HB := ae.mk hbb; clear hbk hbb hgg))
    | fail)
   have hb : Below ws.heap.size ws ws.drew := bF (Below.refl _ _)
   have df := ae.mk (ak HB.out hb); have oN := ae.mk (aY KW.out hb); have mP := ae.mk (Kd.pW RV.out hb); have mO := ae.mk (FR.out.trans (Fr.below hb)); have nP := ae.mk (aY lF.out hb); have uz := ae.mk (aY fD.out hb); have Ko := ae.mk (Kd.pW HU.out hb); clear HB KW RV FR lF fD HU; have HB := df; have KW := oN; have RV := mP; have FR := mO; have lF := nP; have fD := uz; have HU := Ko; clear df oN mP mO nP uz Ko
   clear hb
   refine jA (n := 10) (S := fun w' => Below w0.heap.size w0 w' ∧ w'.heap[b2]? = some (.cells #[.pointer (some ⟨gw, 0, none⟩)] 180 (0, 0)) ∧ w'.heap[gw]? = some (.cells #[.int .i64 (wrap64 (n + 1)), .slice Av ls.length cv] 182 (0, 0))) (ds := [9]) (bA 10 0) (by kernel_rfl) rfl rfl ⟨HB.out, lF.out, KW.out⟩ (fun hHeld => ?_); refine f_ o6.O1 o6.Ip (fun au eF => ?_)
   generalize ws.drew = wd at HB KW RV FR lF fD HU hHeld ⊢
   refine dJ 0 21 (bA 10 1) au eF hHeld ?_ (hv := by intro w' hs_; have c := (af hs_.2.1 0).trans rfl; go_simp; with_reducible rfl)
   refine dJ 1 22 (bA 10 3) au eF hHeld ?_ (hv := by intro w' hs_; have c := (af hs_.2.1 0).trans rfl; go_simp; with_reducible rfl)
   refine aG 2 23 (bA 10 7) au ?_
   refine aG 3 24 (bA 10 15) au ?_
   refine dJ 4 25 (bA 10 31) au eF hHeld ?_ (hv := by intro w' hs_; have c := (af hs_.2.2 1).trans rfl; go_simp; with_reducible rfl)
   refine aG 5 26 (bA 10 63) au ?_
   refine gZ (i := 6) (N := some 27) (bA 10 127) rfl rfl (dG au.out (by kernel_rfl)) (by decide) (fun K hK => ?_)
   refine Kd.AV k23 (w0 := w0) w0.heap.size (by rfl) (.tmp 25) (.tmp 26) 42 23 (.agg #[(.int .i64 0), (.int .i64 0), (.int .i64 0), (.int .i64 0)]) 32 rfl Try.underlying42 info23 rfl (by decide) (by omega) (.slice Av ls.length cv) ls us Au us.length cu (fun _ => True) (fun _ => False) rfl rfl RV.out (Kd.bQ HU.out).2.2 (fun _ _ h => h) (fun _ h => h.elim) (fun _ _ => trivial) HB.out HB.out.size (by have h1 := Le.out; have h2 := gy.out; have h3 := HJ.out; have h4 := HN.out; omega) ?_
   intro v1 wk ho hb hg hat
   have q1 := ae.mk (FR.out.trans (Fr.append RV.out hg))
   have q2 := ae.mk (dM lF.out hg (Kd.DN RV.out lF.out (by decide)))
   have q3 := ae.mk (dM fD.out hg (Kd.DN RV.out fD.out (by decide)))
   have q4 := ae.mk (dM KW.out hg (Kd.DN RV.out KW.out (by decide)))
   clear FR lF fD KW HB RV HU
   have FR := q1
   have lF := q2
   have fD := q3
   have KW := q4
   have HB := ae.mk hb
   have RV := ae.mk ho
   clear q1 q2 q3 q4 hb ho hg hat
   obtain ⟨A1, c1, e1⟩ := Kd.fG RV.out
   subst e1
   refine hK.out _ _ ⟨HB.out, lF.out, KW.out⟩ (fun hHeld => ?_)
   clear hK K
   refine ed 27 ?_
   refine aG 7 28 (bA 10 255) au ?_
   refine aG 8 29 (bA 10 511) au ?_
   refine qX (i := 9) (N := none) (bA 10 1023) rfl rfl (dG au.out (by kernel_rfl)) (by decide) (fun K hK => ?_)
   obtain ⟨w9, JR⟩ : ∃ w9, w9 = wk.setCells gw 1 [.slice A1 (ls ++ us).length c1] := ⟨_, rfl⟩
   have hst := A8 (j := 1) (cs' := #[.int .i64 (wrap64 (n + 1)), .slice A1 (ls ++ us).length c1]) (bI := [.slice A1 (ls ++ us).length c1]) KW.out (by first | decide | simp) rfl
   rw [← JR] at hst
   refine Iz (w1 := w9) (by rfl) rfl ?_ ?_
   ·rw [JR]; exact Af 42 (.tmp 29) (.tmp 27) rfl (cs := #[.int .i64 (wrap64 (n + 1)), .slice Av ls.length cv]) (t0 := 182) (bI := [.slice A1 (ls ++ us).length c1]) rfl rfl rfl (by kernel_rfl) (by simp [Value.oneCell']) KW.out (by first | decide | simp)
   have Pn := ae.mk (grown_below HB.out hst.2 Di.out HB.out.size)
   have RV9 := ae.mk (Kd.DL RV.out rfl hst.2 (fun k_ hk => hk ▸ Kd.DN RV.out KW.out (by decide)))
   have FR9 := ae.mk (FR.out.trans (Fr.store hst.2))
   have K29 := ae.mk (dM lF.out hst.2 (fun e_ => absurd (Option.some.inj e_) Vu.out))
   have K39 := ae.mk (dM fD.out hst.2 (fun e_ => absurd (Option.some.inj e_) ZH.out))
   have KW9 := ae.mk hst.1
   clear hst
   refine hK.out _ _ ?_
   clear hK K JR
   refine kG (iK au.out (by kernel_rfl)) ?_
   have c6 := (af K39.out 6).trans rfl
   cases p
   all_goals
    go_wp2_with fail
    refine (Nz.out b2 (j + us.length) _ Vu.out K29.out ⟨Pn.out, _, _, _, KW9.out, RV9.out, by have := Le.out; rw [List.length_append]; omega⟩ (by have := gy.out; omega)).mono ?_
    rintro e w2 ⟨rfl, hi, hf⟩
    have HI := ae.mk hi
    have HF := ae.mk (FR9.out.trans hf)
    clear hi hf
    go_wp2
    go_ret
    exact ⟨rfl, HI.out, HF.out⟩
theorem abJ : (Try.prog.info? 9).map (fun i => (i.zero, i.size, i.bytes)) = some (some (.string ⟨#[]⟩), 1, 16) := by kernel_rfl
theorem Q9 (e at_ : Int) (he : e ≠ 0) (w : World) : Calls Try.prog 196 #[.int .i64 e, .int .i64 at_] w fun x w' => (∃ t v, x = .returned (.iface t v)) ∧ Below w.heap.size w w' := by
 have hb : (e == 0) = false := beq_eq_false_iff_ne.mpr he
 clear he
 go_enter Try.func196, Try.ntmps196
 go_wp2
 go_ret
 exact ⟨⟨_, _, rfl⟩, gq (Below.refl _ _) _⟩
theorem TC (ad : Addr) (c0 : Nat) (l0 : List ByteArray) (hl : l0.length ≤ 1000) (w : World) (hr0 : Kd.C Kd.string w (some ad) l0.length l0) (hc0 : l0.length ≤ c0) :
  Calls Try.prog 205 #[.slice (some ad) l0.length c0] w fun e w' => ∃ A n c, e = .returned (.slice A n c) ∧ Below w.heap.size w w' := by
 have heq : ∀ W : World, (binOp .eql 190 (.slice (some ad) l0.length c0) (.slice none 0 0)).run Try.prog W = .ok (.bool false) W := fun W => Lib.run_eql_slice_nil W 190 9 (some ad) l0.length c0 0 0 Try.underlying190
 have HR := ae.mk hr0
 have HL := ae.mk hl
 clear hl hr0
 go_enter Try.func205, Try.ntmps205
 go_wp2_with (first | ((with_reducible refine aC (N := 5) rfl ?_); refine Kd.o8 Kd.string w.heap.size 9 ?hg (N := 5) ?hd (xs := ([] : List ByteArray)) (inner := []) (ok := fun _ => True) (fH := fun _ => True) ?hr ?hp (fun _ hk => hk) trivial (Below.refl _ _) (Nat.le_refl _) (by simp) ?_; (case hd => rfl); (case hg => rfl); (case hr => (go_simp; done)); (case hp => exact bD.none _ _); intro v5 w5 ho hb kF gQ; clear kF gQ; have HO := ae.mk ho; have HB := ae.mk hb; clear ho hb; obtain ⟨Ao, co, eo⟩ := Kd.fG HO.out; subst eo) | ((with_reducible refine oI (b := .append) (xs := #[.tmp 5, .tmp 6]) rfl ?_); at_builtin; refine Kd.wI (Rr := Kd.string.K w) Kd.string (w0 := w) w.heap.size rfl (.tmp 5) (.tmp 6) 190 9 (.string ⟨#[]⟩) 16 rfl Try.underlying190 abJ rfl (by decide) (by omega) (.slice Ao ([] : List ByteArray).length co) ([] : List ByteArray) l0 _ _ _ (fun _ => True) (fun _ => False) rfl rfl HO.out ?aR (fun _ _ h => h) (fun _ h => h.elim) (fun _ _ => trivial) HB.out HB.out.size ?aL ?_; (case aR => exact Kd.jH HR.out HB.out); (case aL => have := HL.out; simp; omega); intro v7 w7 ho hb kF afc; have Zz := ae.mk ho; have Zn := ae.mk hb; clear ho hb kF afc))
 obtain ⟨A7, c7, e7⟩ := Kd.fG Zz.out
 subst e7
 go_ret
 exact ⟨_, _, _, rfl, Zn.out⟩
theorem VP (tv : TypeId) (v : Value) (ad : Addr) (c0 : Nat) (x : ByteArray) (w : World) (hr0 : Kd.C Kd.string w (some ad) 1 [x]) (hc0 : 1 ≤ c0) :
  Calls Try.prog 195 #[.iface tv v, .slice (some ad) 1 c0] w fun e w' => (∃ t u, e = .returned (.iface t u)) ∧ Below w.heap.size w w' := by
 have HCl := ae.mk (TC ad c0 [x] (by simp) w hr0 hc0)
 clear hr0
 go_enter Try.func195, Try.ntmps195
 go_wp2_with fail
 refine HCl.out.mono ?_
 rintro e w' ⟨A, n, c, rfl, hb⟩
 have HB := ae.mk hb
 clear hb
 go_wp2
 go_ret
 exact ⟨⟨_, _, rfl⟩, gq HB.out _⟩
section
variable {σ : Type} (step : σ → ai → Bool × σ)
mutual
def qj : ai → σ → Bool × σ
 | ⟨a, b, d, l⟩, s => if (step s ⟨a, b, d, l⟩).1 = true then qw l (step s ⟨a, b, d, l⟩).2 else (false, (step s ⟨a, b, d, l⟩).2)
def qw : List ai → σ → Bool × σ
 | [], s => (true, s)
 | k :: ks, s => if (qj k s).1 = true then qw ks (qj k s).2 else (false, (qj k s).2)
end
theorem Lp (c : ai) (s : σ) : qj step c s = if (step s c).1 = true then qw step c.f3 (step s c).2 else (false, (step s c).2) := by cases c; simp [qj]
theorem BK (s : σ) : qw step [] s = (true, s) := by simp [qw]
theorem EO (k : ai) (ks : List ai) (s : σ) : qw step (k :: ks) s = if (qj step k s).1 = true then qw step ks (qj step k s).2 else (false, (qj step k s).2) := by simp [qw]
theorem RJ : ∀ (l : List ai) (s : σ), qx (fun s k => (!(qj step k s).1, (qj step k s).2)) s l = (!(qw step l s).1, (qw step l s).2) := by
 intro l
 induction l with
 | nil => intro s; rw [BK]; rfl
 | cons k ks ih =>
  intro s
  rw [EO]
  simp only [qx]
  cases h : (qj step k s).1 with
  | true => simp [ih]
  | false => simp
def rC : List ai → σ → Bool × σ
 | [], s => (true, s)
 | k :: ks, s => if (step s k).1 = true then rC ks (step s k).2 else (false, (step s k).2)
theorem UU : ∀ (a b : List ai) (s : σ), rC step (a ++ b) s = if (rC step a s).1 = true then rC step b (rC step a s).2 else (false, (rC step a s).2) := by
 intro a
 induction a with
 | nil => intro b s; simp [rC]
 | cons k ks ih =>
  intro b s
  simp only [List.cons_append, rC]
  by_cases h : (step s k).1 = true
  ·simp [h, ih]
  ·simp [h]
theorem S_ : ∀ (N : Nat), (∀ c : ai, sz c ≤ N → ∀ s, qj step c s = rC step (gU c) s) ∧ (∀ l : List ai, fV l ≤ N → ∀ s, qw step l s = rC step (allL l) s) := by
 intro N
 induction N with
 | zero =>
  refine ⟨fun c h => ?_, fun l h => ?_⟩
  ·rw [dR] at h; omega
  ·cases l with
   | nil => intro s; rw [BK, o_]; rfl
   | cons x xs => rw [dU, dR] at h; omega
 | succ N ih =>
  have hC : ∀ c : ai, sz c ≤ N + 1 → ∀ s, qj step c s = rC step (gU c) s := by
   intro c h s
   rw [dR] at h
   rw [Lp, sK]
   simp only [rC]
   rw [ih.2 c.f3 (by omega)]
  refine ⟨hC, fun l => ?_⟩
  induction l with
  | nil => intro _ s; rw [BK, o_]; rfl
  | cons x xs ihl =>
   intro h s
   rw [dU] at h
   rw [EO, nI, UU, hC x (by omega), ihl (by omega)]
end
theorem abI {σ : Type} (Inv : σ → World → Prop) (step : σ → ai → Bool × σ) (g : Nat) (lb : Array Value) (eg : ∀ args w, (callFunc g args).run Try.prog w = .ok (.enter g args) w) (l : List ai) (A : Option Addr) (c : Nat)
  (w0 : World) (hR : Kd.C k26 w0 A l.length l) (hW : ∀ s W, Inv s W → Below w0.heap.size w0 W) (hD : ∀ s W n, Inv s W → Inv s (W.drewN n))
  (hcall : ∀ s W (x : ai) (B : Option Addr) (cb : Nat), x ∈ l → Inv s W → Kd.C k26 w0 B x.f3.length x.f3 → x.f3.length ≤ cb → Calls Try.prog g (#[.agg #[.int .u8 x.f0, .int .i64 x.f1.f0, .int .i64 x.f1.f1, .int .i64 x.f1.f2, .int .i64 x.f1.f3, .int .i64 x.f2, .slice B x.f3.length cb]] ++ lb) W fun e w' => e = .returned (.bool (step s x).1) ∧ Inv (step s x).2 w')
  (s : σ) (w : World) (hI : Inv s w) (hl : l.length ≤ 9223372036854775807) :
  Calls Try.prog 192 #[.slice A l.length c, .func (.func g) #[] lb] w fun e w' => e = .returned (.int .i64 (kK step 0 s l).1) ∧ Inv (kK step 0 s l).2 w' := by
 have HR := ae.mk hR
 have HW := ae.mk hW
 have HI := ae.mk hI
 have wQ := ae.mk hcall
 clear hR hW hcall hD hI
 go_enter Try.func192, Try.ntmps192
 go_wp2
 go_loopg [5, 8] l.length (fun gg _ v8 wr => ∃ (kk : Nat) (t : σ), kk ≤ l.length ∧ l.length - kk ≤ gg ∧ v8 = .int .i64 kk ∧ ae (Inv t wr) ∧ ae (kK step 0 s l = kK step kk t (l.drop kk)))
 case atStart => exact ⟨0, s, Nat.zero_le _, by omega, rfl, HI, ⟨by simp⟩⟩
 case round =>
  clear HI
  obtain ⟨kk, t, hkk, hg, rfl, HI, HS⟩ := hrel
  by_cases hlt : kk < l.length
  ·have hltz : (kk : Int) < (l.length : Int) := by omega
   obtain ⟨ad, B, cb, rfl, hc0, hc1, hc2, hc3, hc4, hc5, hc6, hlb, hgb⟩ := t_ HR.out (kk : Int) (by omega) (by omega)
   have hbw := HW.out t wr HI.out
   replace hc0 := (hbw.cell (World.block_lt_of_cell? w0 _ hc0)).trans hc0
   replace hc1 := (hbw.cell (World.block_lt_of_cell? w0 _ hc1)).trans hc1
   replace hc2 := (hbw.cell (World.block_lt_of_cell? w0 _ hc2)).trans hc2
   replace hc3 := (hbw.cell (World.block_lt_of_cell? w0 _ hc3)).trans hc3
   replace hc4 := (hbw.cell (World.block_lt_of_cell? w0 _ hc4)).trans hc4
   replace hc5 := (hbw.cell (World.block_lt_of_cell? w0 _ hc5)).trans hc5
   replace hc6 := (hbw.cell (World.block_lt_of_cell? w0 _ hc6)).trans hc6
   clear hbw
   have HX : ae (kK step kk t (l.drop kk) = if (step t (aI l (kk : Int))).1 = true then ((kk : Int), (step t (aI l (kk : Int))).2) else kK step ((kk + 1 : Nat) : Int) (step t (aI l (kk : Int))).2 (l.drop (kk + 1))) := ⟨MW step z26 l kk hlt t⟩
   have hmem : (aI l (kk : Int)) ∈ l := Ad z26 l kk hlt
   have hcall := wQ.out t wr _ B cb hmem HI.out hgb hlb
   clear hmem hgb hlb
   simp only [Int.toNat_natCast] at hc0 hc1 hc2 hc3 hc4 hc5 hc6
   generalize aI l (kk : Int) = x at hc0 hc1 hc2 hc3 hc4 hc5 hc6 HX hcall
   have HC := ae.mk hcall
   clear hcall
   cases hq : (step t x).1 with
   | true =>
    have h := HC.out
    rw [hq] at h
    have HH := ae.mk h
    have HQ := ae.mk hq
    clear hq HC h
    go_wp2_with fail
    refine HH.out.mono ?_
    rintro e w' ⟨rfl, hb'⟩
    have HB := ae.mk hb'
    clear hb'
    go_wp2
    go_ret
    rw [HS.out, HX.out, if_pos HQ.out]
    exact ⟨rfl, HB.out⟩
   | false =>
    have h := HC.out
    rw [hq] at h
    have HH := ae.mk h
    have HQ := ae.mk hq
    clear hq HC h
    go_wp2_with fail
    refine HH.out.mono ?_
    rintro e w' ⟨rfl, hb'⟩
    have HB := ae.mk hb'
    clear hb'
    go_wp2
    go_roundg (l.length - (kk + 1))
    case measure => omega
    case rel =>
     refine ⟨kk + 1, (step t x).2, by omega, by omega, by go_num, HB, ⟨?_⟩⟩
     rw [HS.out, HX.out, if_neg (by rw [HQ.out]; simp)]
  ·have hltz : ¬ (kk : Int) < (l.length : Int) := by omega
   go_wp2
   go_ret
   rw [HS.out, List.drop_eq_nil_of_le (by omega)]
   exact ⟨rfl, HI.out⟩
theorem PW {σ : Type} (Inv : σ → World → Prop) (step : σ → ai → Bool × σ) (g : Nat) (lb : Array Value) (eg : ∀ args w, (callFunc g args).run Try.prog w = .ok (.enter g args) w) (l : List ai) (A : Option Addr) (c : Nat)
  (w0 : World) (hR : Kd.C k26 w0 A l.length l) (hW : ∀ s W, Inv s W → Below w0.heap.size w0 W) (hD : ∀ s W n, Inv s W → Inv s (W.drewN n))
  (hcall : ∀ s W (x : ai) (B : Option Addr) (cb : Nat), x ∈ l → Inv s W → Kd.C k26 w0 B x.f3.length x.f3 → x.f3.length ≤ cb → Calls Try.prog g (#[.agg #[.int .u8 x.f0, .int .i64 x.f1.f0, .int .i64 x.f1.f1, .int .i64 x.f1.f2, .int .i64 x.f1.f3, .int .i64 x.f2, .slice B x.f3.length cb]] ++ lb) W fun e w' => e = .returned (.bool (step s x).1) ∧ Inv (step s x).2 w')
  (s : σ) (w : World) (hI : Inv s w) (hl : l.length ≤ 9223372036854775807) :
  Calls Try.prog 174 #[.slice A l.length c, .func (.func g) #[] lb] w fun e w' => e = .returned (.bool (qx step s l).1) ∧ Inv (qx step s l).2 w' := by
 have hi := abI Inv step g lb eg l A c w0 hR hW hD hcall s w hI hl
 rw [Kw]
 clear hR hW hD hcall hI
 generalize kK step 0 s l = r at hi
 have HI := ae.mk hi
 clear hi
 go_enter Try.func174, Try.ntmps174
 go_wp2_with fail
 refine HI.out.mono ?_
 rintro e w' ⟨rfl, hb'⟩
 have HB := ae.mk hb'
 clear hb'
 go_wp2
 go_ret
 exact ⟨rfl, HB.out⟩
theorem MN (l : List ai) (A : Option Addr) (c : Nat) (g : Nat) (lb : Array Value) (Q : World → Prop) (b : Bool) (w : World)
  (h : Calls Try.prog 174 #[.slice A l.length c, .func (.func g) #[] lb] w fun e w' => e = .returned (.bool b) ∧ Q w') (hD : ∀ W n, Q W → Q (W.drewN n)) :
  Calls Try.prog 142 #[.slice A l.length c, .func (.func g) #[] lb] w fun e w' => e = .returned (.bool (!b)) ∧ Q w' := by
 have H := ae.mk h
 clear h hD
 cases b
 all_goals
  go_enter Try.func142, Try.ntmps142
  go_wp2_with fail
  refine H.out.mono ?_
  rintro e w' ⟨rfl, hb⟩
  have HB := ae.mk hb
  clear hb
  go_wp2
  go_ret
  exact ⟨rfl, HB.out⟩
structure Kp (S : Nat → Prop) (W W' : World) : Prop where
 size : W.heap.size ≤ W'.heap.size
 blk : ∀ k, k < W.heap.size → ¬ S k → W'.heap[k]? = W.heap[k]?
theorem Kp.refl (S : Nat → Prop) (W : World) : Kp S W W := ⟨Nat.le_refl _, fun _ _ _ => rfl⟩
theorem Kp.trans {S : Nat → Prop} {W W1 W2 : World} (h : Kp S W W1) (k : Kp S W1 W2) : Kp S W W2 := ⟨Nat.le_trans h.size k.size, fun i hi hs => (k.blk i (Nat.lt_of_lt_of_le hi h.size) hs).trans (h.blk i hi hs)⟩
theorem Kp.below {S : Nat → Prop} {W W1 : World} (h : Below W.heap.size W W1) : Kp S W W1 := ⟨h.size, fun i hi _ => h.block i hi⟩
theorem Kp.at {S : Nat → Prop} {W W1 : World} {g : Nat} {o : Obj} (h : Kp S W W1) (hb : W.heap[g]? = some o) (hs : ¬ S g) : W1.heap[g]? = some o := (h.blk g (iy hb) hs).trans hb
theorem aaw (x : ai) (B : Option Addr) (cb g : Nat) (lb : Array Value) (b3 : Nat) (r : Bool) (R : World → Prop) (W : World) (hk : W.heap[b3]? = some (.cells #[.func (.func g) #[] lb] 27 (0, 0)))
  (h : ∀ W1, Below W.heap.size W W1 → Calls Try.prog 175 #[.agg #[.int .u8 x.f0, .int .i64 x.f1.f0, .int .i64 x.f1.f1, .int .i64 x.f1.f2, .int .i64 x.f1.f3, .int .i64 x.f2, .slice B x.f3.length cb], .func (.func g) #[] lb] W1 fun e w' => e = .returned (.bool r) ∧ R w') :
  Calls Try.prog 193 (#[.agg #[.int .u8 x.f0, .int .i64 x.f1.f0, .int .i64 x.f1.f1, .int .i64 x.f1.f2, .int .i64 x.f1.f3, .int .i64 x.f2, .slice B x.f3.length cb]] ++ #[.pointer (some ⟨b3, 0, none⟩)]) W fun e w' => e = .returned (.bool (!r)) ∧ R w' := by
 have HK := ae.mk hk
 have H := ae.mk h
 clear hk h
 simp only [List.append_toArray, List.cons_append, List.nil_append]
 cases r
 all_goals
  go_enter Try.func193, Try.ntmps193
  go_wp2_with (((with_reducible refine aC (N := 2) rfl ?_); refine aW ?hg (N := 2) ?hd (cs := #[.int .u8 x.f0, .int .i64 x.f1.f0, .int .i64 x.f1.f1, .int .i64 x.f1.f2, .int .i64 x.f1.f3, .int .i64 x.f2, .slice B x.f3.length cb]) (t := 26) ?hr ?_; (case hd => rfl); (case hg => rfl); (case hr => (go_simp; done)); intro b2 hg w2 hbox hb; have HB := ae.mk hb; have K2 := ae.mk hbox; have K3 := ae.mk (aY HK.out hb); clear hb hbox hg; have c0 := (af K2.out 0).trans rfl; have c1 := (af K2.out 1).trans rfl; have c2 := (af K2.out 2).trans rfl; have c3 := (af K2.out 3).trans rfl; have c4 := (af K2.out 4).trans rfl; have c5 := (af K2.out 5).trans rfl; have c6 := (af K2.out 6).trans rfl; have d0 := (af K3.out 0).trans rfl))
  clear c0 c1 c2 c3 c4 c5 c6 d0
  refine (H.out _ HB.out).mono ?_
  rintro e w' ⟨rfl, hR⟩
  have HR := ae.mk hR
  clear hR
  go_wp2
  go_ret
  exact ⟨rfl, HR.out⟩
theorem ZX {σ : Type} (S : Nat → Prop) (Inv : σ → World → Prop) (step : σ → ai → Bool × σ) (g : Nat) (lb : Array Value) (eg : ∀ args w, (callFunc g args).run Try.prog w = .ok (.enter g args) w) (w0 : World)
  (hW : ∀ s W, Inv s W → Below w0.heap.size w0 W) (hB : ∀ s W W', Inv s W → Below W.heap.size W W' → Inv s W') (hS : ∀ s W, Inv s W → ∀ k, S k → k < W.heap.size)
  (hcall : ∀ s W (x : ai) (B : Option Addr) (cb : Nat), Inv s W → Kd.C k26 w0 B x.f3.length x.f3 → x.f3.length ≤ cb → Calls Try.prog g (#[.agg #[.int .u8 x.f0, .int .i64 x.f1.f0, .int .i64 x.f1.f1, .int .i64 x.f1.f2, .int .i64 x.f1.f3, .int .i64 x.f2, .slice B x.f3.length cb]] ++ lb) W fun e w' => e = .returned (.bool (step s x).1) ∧ Inv (step s x).2 w' ∧ Kp S W w') :
  ∀ (N : Nat) (c : ai), sz c ≤ N → ∀ (A : Option Addr) (cc : Nat), Kd.C k26 w0 A c.f3.length c.f3 → c.f3.length ≤ cc → ∀ s W, Inv s W →
   Calls Try.prog 175 #[.agg #[.int .u8 c.f0, .int .i64 c.f1.f0, .int .i64 c.f1.f1, .int .i64 c.f1.f2, .int .i64 c.f1.f3, .int .i64 c.f2, .slice A c.f3.length cc], .func (.func g) #[] lb] W fun e w' => e = .returned (.bool (qj step c s).1) ∧ Inv (qj step c s).2 w' ∧ Kp S W w' := by
 intro N
 induction N with
 | zero => intro c h; rw [dR] at h; omega
 | succ N ih =>
  intro c hc A cc hr hlc s W hI
  have hsz := dR c
  have VJ : ∀ (b3 : Nat) (s1 : σ) (W1 : World), Inv s1 W1 → W1.heap[b3]? = some (.cells #[.func (.func g) #[] lb] 27 (0, 0)) → ¬ S b3 →
    Calls Try.prog 142 #[.slice A c.f3.length cc, .func (.func 193) #[] #[.pointer (some ⟨b3, 0, none⟩)]] W1 fun e w' => e = .returned (.bool (qw step c.f3 s1).1) ∧ Inv (qw step c.f3 s1).2 w' ∧ Kp S W1 w' := by
   intro b3 s1 W1 hI1 hk3 hs3
   have hcon := PW (fun t w' => Inv t w' ∧ Kp S W1 w') (fun t k => (!(qj step k t).1, (qj step k t).2)) 193 #[.pointer (some ⟨b3, 0, none⟩)] (qK Try.func193 (by decide +kernel) (by kernel_rfl)) c.f3 A cc w0 hr (fun t w' h => hW t w' h.1)
    (fun t w' n h => ⟨hB t w' _ h.1 (dP (Below.refl _ _) n), h.2.trans (Kp.below (dP (Below.refl _ _) n))⟩)
    (fun t w' x B cb hx h hCx hlx => by
     refine aaw x B cb g lb b3 _ _ w' (h.2.at hk3 hs3) (fun W2 hb2 => ?_)
     refine (ih x ?_ B cb hCx hlx t W2 (hB t w' W2 h.1 hb2)).mono fun e w'' ⟨he, hi, hk⟩ => ⟨he, hi, (h.2.trans (Kp.below hb2)).trans hk⟩
     have : sz x ≤ fV c.f3 := by
      obtain ⟨p, q, e⟩ := List.append_of_mem hx
      rw [e, oQ, dU]; omega
     omega) s1 W1 ⟨hI1, Kp.refl S W1⟩ hr.2.1
   rw [RJ] at hcon
   have := MN c.f3 A cc 193 _ _ _ W1 hcon (fun w' n h => ⟨hB _ w' _ h.1 (dP (Below.refl _ _) n), h.2.trans (Kp.below (dP (Below.refl _ _) n))⟩)
   rw [Bool.not_not] at this
   exact this
  have aaP : ∀ k, S k → k < W.heap.size := hS s W hI
  have hE := Lp step c s
  have hcl := fun W1 (h : Inv s W1) => hcall s W1 c A cc h hr hlc
  rcases hst : step s c with ⟨q, s1⟩
  rw [hst] at hE hcl
  simp only [] at hE hcl
  rw [hE]
  have HN := ae.mk fun b3 W1 => VJ b3 s1 W1
  have HI := ae.mk hI
  have wQ := ae.mk hcl
  have Vk := ae.mk hB
  have HS := ae.mk hS
  have HS0 := ae.mk aaP
  have HK := ae.mk (Kp.refl S W)
  clear VJ hI hcall hB hS ih hr hlc hsz hc hW hE hcl hst aaP
  obtain ⟨ck, ⟨cx, cy, cw, ch⟩, aj, l⟩ := c
  simp only [] at HN wQ ⊢
  generalize qw step l s1 = ns at HN ⊢
  obtain ⟨n1, n2⟩ := ns
  cases q with
  | false =>
   simp only [Bool.false_eq_true, if_false]
   clear HN
   go_enter Try.func175, Try.ntmps175
   go_wp2_with (first | ((with_reducible refine aC (N := 2) rfl ?_); refine aW ?hg (N := 2) ?hd (cs := #[.int .u8 ck, .int .i64 cx, .int .i64 cy, .int .i64 cw, .int .i64 ch, .int .i64 aj, .slice A l.length cc]) (t := 26) ?hr ?_; (case hd => rfl); (case hg => rfl); (case hr => (go_simp; done)); intro b2 hg V5 hbox hb; have K2 := ae.mk hbox; have HS2 := ae.mk (show ¬ b2 < W.heap.size by rw [hg]; exact Nat.lt_irrefl _); have eY := ae.mk (Vk.out _ _ _ HI.out hb); have fA := ae.mk (HK.out.trans (Kp.below hb)); clear HI HK; have HI := eY; have HK := fA; clear eY fA; clear hb hbox hg) | ((with_reducible refine aC (N := 3) rfl ?_); refine aW ?hg (N := 3) ?hd (cs := #[.func (.func g) #[] lb]) (t := 27) ?hr ?_; (case hd => rfl); (case hg => rfl); (case hr => (go_simp; done)); intro b3 hg V6 hbox hb; have K3 := ae.mk hbox; have iq := ae.mk (aY K2.out hb); have NS := ae.mk (fun h => Nat.lt_irrefl _ (Nat.lt_of_lt_of_le (hg ▸ HS.out _ _ HI.out b3 h) (Nat.le_refl _)) : ¬ S b3); have NS2 := ae.mk (fun h => HS2.out (HS0.out b2 h) : ¬ S b2); clear K2; have K2 := iq; clear iq; have eY := ae.mk (Vk.out _ _ _ HI.out hb); have fA := ae.mk (HK.out.trans (Kp.below hb)); clear HI HK; have HI := eY; have HK := fA; clear eY fA; clear hb hbox hg; have c0 := (af K2.out 0).trans rfl; have c1 := (af K2.out 1).trans rfl; have c2 := (af K2.out 2).trans rfl; have c3 := (af K2.out 3).trans rfl; have c4 := (af K2.out 4).trans rfl; have c5 := (af K2.out 5).trans rfl; have c6 := (af K2.out 6).trans rfl; have d0 := (af K3.out 0).trans rfl))
   clear c0 c1 c2 c3 c4 c5 c6 d0
   refine (wQ.out _ HI.out).mono ?_
   rintro e w' ⟨rfl, hi, hk⟩
   have Zt := ae.mk hi
   have Zu := ae.mk (HK.out.trans hk)
   clear hi hk
   go_wp2
   go_ret
   exact ⟨rfl, Zt.out, Zu.out⟩
  | true =>
   simp only [if_true]
   cases n1
   all_goals
    go_enter Try.func175, Try.ntmps175
    go_wp2_with (first | ((with_reducible refine aC (N := 2) rfl ?_); refine aW ?hg (N := 2) ?hd (cs := #[.int .u8 ck, .int .i64 cx, .int .i64 cy, .int .i64 cw, .int .i64 ch, .int .i64 aj, .slice A l.length cc]) (t := 26) ?hr ?_; (case hd => rfl); (case hg => rfl); (case hr => (go_simp; done)); intro b2 hg V5 hbox hb; have K2 := ae.mk hbox; have HS2 := ae.mk (show ¬ b2 < W.heap.size by rw [hg]; exact Nat.lt_irrefl _); have eY := ae.mk (Vk.out _ _ _ HI.out hb); have fA := ae.mk (HK.out.trans (Kp.below hb)); clear HI HK; have HI := eY; have HK := fA; clear eY fA; clear hb hbox hg) | ((with_reducible refine aC (N := 3) rfl ?_); refine aW ?hg (N := 3) ?hd (cs := #[.func (.func g) #[] lb]) (t := 27) ?hr ?_; (case hd => rfl); (case hg => rfl); (case hr => (go_simp; done)); intro b3 hg V6 hbox hb; have K3 := ae.mk hbox; have iq := ae.mk (aY K2.out hb); have NS := ae.mk (fun h => Nat.lt_irrefl _ (Nat.lt_of_lt_of_le (hg ▸ HS.out _ _ HI.out b3 h) (Nat.le_refl _)) : ¬ S b3); have NS2 := ae.mk (fun h => HS2.out (HS0.out b2 h) : ¬ S b2); clear K2; have K2 := iq; clear iq; have eY := ae.mk (Vk.out _ _ _ HI.out hb); have fA := ae.mk (HK.out.trans (Kp.below hb)); clear HI HK; have HI := eY; have HK := fA; clear eY fA; clear hb hbox hg; have c0 := (af K2.out 0).trans rfl; have c1 := (af K2.out 1).trans rfl; have c2 := (af K2.out 2).trans rfl; have c3 := (af K2.out 3).trans rfl; have c4 := (af K2.out 4).trans rfl; have c5 := (af K2.out 5).trans rfl; have c6 := (af K2.out 6).trans rfl; have d0 := (af K3.out 0).trans rfl))
    clear c0 c1 c2 c3 c4 c5 c6 d0
    refine (wQ.out _ HI.out).mono ?_
    rintro e w' ⟨rfl, hi, hk⟩
    have Zt := ae.mk hi
    have Zu := ae.mk (HK.out.trans hk)
    have K3' := ae.mk (hk.at K3.out NS.out)
    have K2' := ae.mk (hk.at K2.out NS2.out)
    clear hi hk
    have c6 : w'.cell? ⟨b2, 6, none⟩ = some (.slice A l.length cc) := (af K2'.out 6).trans rfl
    go_wp2_with fail
    clear c6
    refine (HN.out b3 w' Zt.out K3'.out NS.out).mono ?_
    rintro e w'' ⟨rfl, hi, hk⟩
    have HI2 := ae.mk hi
    have tJ := ae.mk (Zu.out.trans hk)
    clear hi hk
    go_wp2
    go_ret
    exact ⟨rfl, HI2.out, tJ.out⟩
def uq (x : ai) : Bool := if x.f0 = 1 then decide (x.f3.length = 0) && (decide (0 ≤ x.f2) && decide (x.f2 ≤ 2147483647)) else if x.f0 = 2 ∨ x.f0 = 3 then decide (2 ≤ x.f3.length) && decide (x.f2 = 0) else false
theorem xK (x : ai) : oL x = (uq x && mY x.f1) := by
 unfold oL uq
 by_cases h1 : x.f0 = 1
 ·simp [h1, Bool.and_comm, Bool.and_assoc]
 ·by_cases h2 : x.f0 = 2
  ·simp [h2, Bool.and_comm]
  ·by_cases h3 : x.f0 = 3
   ·simp [h3, Bool.and_comm]
   ·have : ¬ (1 ≤ x.f0 ∧ x.f0 ≤ 3) := by omega
    simp [h1, h2, h3, this]
def je (s : Int × List Int) (x : ai) : Bool × (Int × List Int) :=
 if 20000 < wrap64 (s.1 + 1) then (false, (wrap64 (s.1 + 1), s.2))
 else if oL x = false then (false, (wrap64 (s.1 + 1), s.2))
 else if x.f0 = 1 then (if x.f2 ∈ s.2 then (false, (wrap64 (s.1 + 1), s.2)) else (true, (wrap64 (s.1 + 1), x.f2 :: s.2)))
 else (true, (wrap64 (s.1 + 1), s.2))
def lv (l : List ai) : List ai := l.filter fun x => decide (x.f0 = 1)
theorem Q4 : ∀ (rest pre : List ai), (pre ++ rest).length ≤ 1048576 → pre.length ≤ 20000 → fZ (lv pre) = true →
  (rC je rest ((pre.length : Int), ((lv pre).map (·.f2)).reverse)).1 = (decide (pre.length + rest.length ≤ 20000) && (rest.all oL && fZ (lv (pre ++ rest)))) := by
 intro rest
 induction rest with
 | nil =>
  intro pre _ h2 h3
  simp [rC, h3]
  exact h2
 | cons x xs ih =>
  intro pre h1 h2 h3
  have hlen : (pre ++ x :: xs).length = pre.length + xs.length + 1 := by simp; omega
  have hw : wrap64 ((pre.length : Int) + 1) = ((pre.length + 1 : Nat) : Int) := (wq (by omega) (by omega)).trans (by omega)
  have hsp : pre ++ x :: xs = (pre ++ [x]) ++ xs := by simp
  simp only [rC]
  unfold je
  simp only [hw]
  by_cases c1 : (20000 : Int) < ((pre.length + 1 : Nat) : Int)
  ·rw [if_pos c1]
   simp
   intro h
   omega
  ·rw [if_neg c1]
   cases c2 : oL x with
   | false => simp [c2]
   | true =>
    simp only [Bool.true_eq_false, if_false, List.all_cons, c2, Bool.true_and]
    have hl1 : (pre ++ [x]).length = pre.length + 1 := by simp
    have hcnt : decide (pre.length + (x :: xs).length ≤ 20000) = decide ((pre ++ [x]).length + xs.length ≤ 20000) := by
     rw [hl1, List.length_cons, decide_eq_decide]; omega
    rw [hcnt]
    by_cases c3 : x.f0 = 1
    ·rw [if_pos c3]
     have hlv : lv (pre ++ [x]) = lv pre ++ [x] := by simp [lv, c3]
     have hmem : x.f2 ∈ ((lv pre).map (·.f2)).reverse ↔ ny (lv pre) x = false := by
      simp [ny]
      constructor
      ·rintro ⟨y, hy, e⟩; exact ⟨y, hy, e.symm⟩
      ·rintro ⟨y, hy, e⟩; exact ⟨y, hy, e.symm⟩
     by_cases c4 : x.f2 ∈ ((lv pre).map (·.f2)).reverse
     ·rw [if_pos c4]
      have hd : fZ (lv (pre ++ x :: xs)) = false := by
       rw [hsp]
       unfold lv
       rw [List.filter_append]
       apply wL
       have : List.filter (fun x => decide (x.f0 = 1)) (pre ++ [x]) = lv pre ++ [x] := hlv
       rw [this, pR, hmem.1 c4, Bool.and_false]
      simp [hd]
     ·rw [if_neg c4]
      have ha : ny (lv pre) x = true := by
       cases h : ny (lv pre) x with
       | true => rfl
       | false => exact absurd (hmem.2 h) c4
      have e := ih (pre ++ [x]) (by rw [← hsp]; exact h1) (by rw [hl1]; omega) (by rw [hlv, pR, h3, ha]; rfl)
      rw [hlv, List.map_append, List.reverse_append, hl1, ← hsp] at e
      simp only [if_true]
      rw [hl1]
      exact e
    ·rw [if_neg c3]
     have hlv : lv (pre ++ [x]) = lv pre := by simp [lv, c3]
     have e := ih (pre ++ [x]) (by rw [← hsp]; exact h1) (by rw [hl1]; omega) (by rw [hlv]; exact h3)
     rw [hlv, hl1, ← hsp] at e
     simp only [if_true]
     rw [hl1]
     exact e
theorem S9 (c : ai) (h : sz c ≤ 1048576) : (qj je c (0, [])).1 = lq c := by
 rw [(S_ je (sz c)).1 c (Nat.le_refl _)]
 have e := Q4 (gU c) [] (by rw [List.nil_append]; exact h) (by simp) rfl
 have e2 : (rC je (gU c) (0, [])).1 = (decide (0 + (gU c).length ≤ 20000) && ((gU c).all oL && fZ (lv ([] ++ gU c)))) := e
 rw [e2, Nat.zero_add, List.nil_append]
 rfl
theorem Uy : ∀ (N : Nat) (l : List Int), l.Nodup → (∀ i ∈ l, 0 ≤ i ∧ i < (N : Int)) → l.length ≤ N := by
 intro N
 induction N with
 | zero =>
  intro l _ h
  cases l with
  | nil => simp
  | cons x xs => have := h x (by simp); omega
 | succ N ih =>
  intro l hn h
  have h1 := ih (l.filter fun i => decide (i ≠ (N : Int))) (hn.filter _) (fun i hi => by
   have h2 := List.mem_filter.1 hi
   have h3 := h i h2.1
   have h4 := of_decide_eq_true h2.2
   omega)
  have h5 : ∀ (m : List Int), m.Nodup → m.length ≤ (m.filter fun i => decide (i ≠ (N : Int))).length + 1 := by
   intro m
   induction m with
   | nil => intro _; simp
   | cons y ys ihm =>
    intro hm
    rw [List.nodup_cons] at hm
    by_cases hy : y = (N : Int)
    ·have : ys.filter (fun i => decide (i ≠ (N : Int))) = ys := by
      rw [List.filter_eq_self]
      intro i hi
      exact decide_eq_true (fun e => hm.1 (by rw [hy, ← e]; exact hi))
     rw [List.filter_cons_of_neg (by simp [hy]), this, List.length_cons]
     exact Nat.le_refl _
    ·rw [List.filter_cons_of_pos (by simpa using hy), List.length_cons, List.length_cons]
     have := ihm hm.2
     omega
  have := h5 l hn
  omega
def Ea (ids : List Int) : DataW Unit := ids.foldr (fun i D => D.put (.int .i64 i) (.lit (.bool true))) (.map [])
theorem UW : ∀ ids : List Int, Maps.IsMap (Ea ids) := by
 intro ids
 induction ids with
 | nil => exact Maps.isMap_empty
 | cons x xs ih => exact Maps.IsMap.put ih _ _
theorem M_ (i : Int) : ∀ ids : List Int, (Ea ids).atKey (.int .i64 i) (.lit (.bool false)) = .lit (.bool (decide (i ∈ ids))) := by
 intro ids
 induction ids with
 | nil => rfl
 | cons x xs ih =>
  show (DataW.put (Ea xs) (.int .i64 x) (.lit (.bool true))).atKey (.int .i64 i) (.lit (.bool false)) = _
  by_cases h : i = x
  ·subst h
   rw [Maps.atKey_put_same (UW xs) (by simp [WideAt.IsKeyLit])]
   simp
  ·rw [Maps.atKey_put_other (by intro e; injection e with _ e; exact h e), ih]
   simp [h]
structure kY (w0 : World) (bn bm B : Nat) (s : Int × List Int) (W : World) : Prop where
 hn : W.heap[bn]? = some (.cells #[.int .i64 s.1] 3 (0, 0))
 hm : W.heap[bm]? = some (.cells #[.map (some B)] 161 (0, 0))
 map : W.ownsMap (H := Unit) Try.prog 3 (plainElem Try.prog 4) B s.2.length (Ea s.2)
 below : Below w0.heap.size w0 W
 gn : w0.heap.size ≤ bn
 gB : w0.heap.size ≤ B
 nd : s.2.Nodup
 rg : ∀ i ∈ s.2, 0 ≤ i ∧ i ≤ 2147483647
theorem below_grown {W W' : World} (h : Below W.heap.size W W') : W.grownBy W' none := ⟨h.os, h.tape, h.output, h.size, fun k hk _ => h.block k hk⟩
theorem kY.step {w0 W W' : World} {bn bm B : Nat} {s : Int × List Int} (h : kY w0 bn bm B s W) (hb : Below W.heap.size W W') : kY w0 bn bm B s W' :=
 ⟨aY h.hn hb, aY h.hm hb, h.map.kept (below_grown hb) (by simp), ak h.below hb, h.gn, h.gB, h.nd, h.rg⟩
theorem kY.VU {w0 W : World} {bn bm B : Nat} {s : Int × List Int} (h : kY w0 bn bm B s W) : bn ≠ B ∧ bm ≠ B ∧ bm ≠ bn := by
 obtain ⟨es, cl, hB, _⟩ := h.map
 refine ⟨fun e => ?_, fun e => ?_, rJ h.hm h.hn (by decide)⟩
 ·have := h.hn; rw [e, hB] at this; cases this
 ·have := h.hm; rw [e, hB] at this; cases this
def tN (bn B : Nat) (k : Nat) : Prop := k = bn ∨ k = B
section
variable {P : Program} {ops : Array Oper} {rest : List Oper} {o : Oper} {a : Act} {Q : Exit → Act → World → Prop}
theorem Dp (w : World) (hg : o.guard = none) (m x : Operand) (t : TypeId) (hop : o.op = Op.lookup t m x false)
  (k e : TypeId) (K : Maps.Keyed P k) (ht : P.underlying t = some (.map k e)) (he : P.underlying e = some .bool) (hz : (zeroValue e).run P w = .ok (.bool false) w) (b n : Nat) (D : DataW Unit)
  (hm : a.eval m = .map (some b)) (hown : w.ownsMap P k (plainElem P e) b n D) (key : Value) (kl : Lit) (hx : a.eval x = key) (hkey : keyOf P k key = some kl) (r : Bool) (hr : D.atKey kl (.lit (.bool false)) = .lit (.bool r))
  (hK : wpList P ops Q rest (a.put o.dst (.bool r)) w) : wpList P ops Q (o :: rest) a w := by
 refine wpList_plain hg fun K' hK' => ?_
 obtain ⟨v, ps, hrun, hv⟩ := hown.lookup K ht hz (plainElem_bool he false) hkey
 have hv2 : v = .bool r := by
  rw [hr] at hv
  unfold plainElem at hv
  rw [he] at hv
  cases v with
  | bool q =>
   simp only [Option.some.injEq, Prod.mk.injEq, DataW.lit.injEq, Lit.bool.injEq] at hv
   rw [hv.1]
  | _ => cases hv
 subst hv2
 unfold Oper.wp
 simp [execOp, hop, hm, hx, hrun, Result.andThen]
 exact hK' _ _ hK
end
theorem zn (x : ai) (B : Option Addr) (cb : Nat) (w : World) : Calls Try.prog 177 #[.agg #[.int .u8 x.f0, .int .i64 x.f1.f0, .int .i64 x.f1.f1, .int .i64 x.f1.f2, .int .i64 x.f1.f3, .int .i64 x.f2, .slice B x.f3.length cb]] w fun e w' => e = .returned (.bool (uq x)) ∧ Below w.heap.size w w' := by
 unfold uq
 by_cases k1 : x.f0 = 1
 ·rw [if_pos k1]
  have k1b : (x.f0 == 1) = true := beq_iff_eq.mpr k1
  clear k1
  by_cases l0 : x.f3.length = 0
  ·rw [decide_eq_true l0, Bool.true_and]
   have l1 : ((x.f3.length : Int) == 0) = true := by simp [l0]
   have l2 : (x.f3.length == 0) = true := by simp [l0]
   clear l0
   by_cases i0 : 0 ≤ x.f2
   ·rw [decide_eq_true i0, Bool.true_and]
    have QU : decide (0 ≤ x.f2) = true := decide_eq_true i0
    by_cases i1 : x.f2 ≤ 2147483647
    ·rw [decide_eq_true i1]
     have i1b : decide (x.f2 ≤ 2147483647) = true := decide_eq_true i1
     go_enter Try.func177, Try.ntmps177
     go_wp2_with (((with_reducible refine aC (N := 1) rfl ?_); refine aW ?hg (N := 1) ?hd (cs := #[.int .u8 x.f0, .int .i64 x.f1.f0, .int .i64 x.f1.f1, .int .i64 x.f1.f2, .int .i64 x.f1.f3, .int .i64 x.f2, .slice B x.f3.length cb]) (t := 26) ?hr ?_; (case hd => rfl); (case hg => rfl); (case hr => (go_simp; done)); intro b1 hg w1 hbox hb; have HB := ae.mk hb; have K1 := ae.mk hbox; clear hb hbox hg; have c0 := (af K1.out 0).trans rfl; have c1 := (af K1.out 1).trans rfl; have c2 := (af K1.out 2).trans rfl; have c3 := (af K1.out 3).trans rfl; have c4 := (af K1.out 4).trans rfl; have c5 := (af K1.out 5).trans rfl; have c6 := (af K1.out 6).trans rfl))
     go_ret
     exact ⟨rfl, HB.out⟩
    ·rw [decide_eq_false i1]
     have i1b : decide (x.f2 ≤ 2147483647) = false := decide_eq_false i1
     go_enter Try.func177, Try.ntmps177
     go_wp2_with (((with_reducible refine aC (N := 1) rfl ?_); refine aW ?hg (N := 1) ?hd (cs := #[.int .u8 x.f0, .int .i64 x.f1.f0, .int .i64 x.f1.f1, .int .i64 x.f1.f2, .int .i64 x.f1.f3, .int .i64 x.f2, .slice B x.f3.length cb]) (t := 26) ?hr ?_; (case hd => rfl); (case hg => rfl); (case hr => (go_simp; done)); intro b1 hg w1 hbox hb; have HB := ae.mk hb; have K1 := ae.mk hbox; clear hb hbox hg; have c0 := (af K1.out 0).trans rfl; have c1 := (af K1.out 1).trans rfl; have c2 := (af K1.out 2).trans rfl; have c3 := (af K1.out 3).trans rfl; have c4 := (af K1.out 4).trans rfl; have c5 := (af K1.out 5).trans rfl; have c6 := (af K1.out 6).trans rfl))
     go_ret
     exact ⟨rfl, HB.out⟩
   ·rw [decide_eq_false i0, Bool.false_and]
    have QU : decide (0 ≤ x.f2) = false := decide_eq_false i0
    go_enter Try.func177, Try.ntmps177
    go_wp2_with (((with_reducible refine aC (N := 1) rfl ?_); refine aW ?hg (N := 1) ?hd (cs := #[.int .u8 x.f0, .int .i64 x.f1.f0, .int .i64 x.f1.f1, .int .i64 x.f1.f2, .int .i64 x.f1.f3, .int .i64 x.f2, .slice B x.f3.length cb]) (t := 26) ?hr ?_; (case hd => rfl); (case hg => rfl); (case hr => (go_simp; done)); intro b1 hg w1 hbox hb; have HB := ae.mk hb; have K1 := ae.mk hbox; clear hb hbox hg; have c0 := (af K1.out 0).trans rfl; have c1 := (af K1.out 1).trans rfl; have c2 := (af K1.out 2).trans rfl; have c3 := (af K1.out 3).trans rfl; have c4 := (af K1.out 4).trans rfl; have c5 := (af K1.out 5).trans rfl; have c6 := (af K1.out 6).trans rfl))
    go_ret
    exact ⟨rfl, HB.out⟩
  ·rw [decide_eq_false l0, Bool.false_and]
   have l1 : ((x.f3.length : Int) == 0) = false := by simp; intro h; exact l0 (by simp [h])
   have l2 : (x.f3.length == 0) = false := by simpa using l0
   clear l0
   go_enter Try.func177, Try.ntmps177
   go_wp2_with (((with_reducible refine aC (N := 1) rfl ?_); refine aW ?hg (N := 1) ?hd (cs := #[.int .u8 x.f0, .int .i64 x.f1.f0, .int .i64 x.f1.f1, .int .i64 x.f1.f2, .int .i64 x.f1.f3, .int .i64 x.f2, .slice B x.f3.length cb]) (t := 26) ?hr ?_; (case hd => rfl); (case hg => rfl); (case hr => (go_simp; done)); intro b1 hg w1 hbox hb; have HB := ae.mk hb; have K1 := ae.mk hbox; clear hb hbox hg; have c0 := (af K1.out 0).trans rfl; have c1 := (af K1.out 1).trans rfl; have c2 := (af K1.out 2).trans rfl; have c3 := (af K1.out 3).trans rfl; have c4 := (af K1.out 4).trans rfl; have c5 := (af K1.out 5).trans rfl; have c6 := (af K1.out 6).trans rfl))
   go_ret
   exact ⟨rfl, HB.out⟩
 ·rw [if_neg k1]
  have k1b : (x.f0 == 1) = false := beq_eq_false_iff_ne.mpr k1
  by_cases k2 : x.f0 = 2
  ·rw [if_pos (.inl k2)]
   have k2b : (x.f0 == 2) = true := beq_iff_eq.mpr k2
   clear k2 k1
   by_cases l0 : 2 ≤ x.f3.length
   ·rw [decide_eq_true l0, Bool.true_and]
    have l1 : (2 : Int) ≤ (x.f3.length : Int) := by omega
    by_cases i0 : x.f2 = 0
    ·rw [decide_eq_true i0]
     have QU : (x.f2 == 0) = true := beq_iff_eq.mpr i0
     clear i0
     go_enter Try.func177, Try.ntmps177
     go_wp2_with (((with_reducible refine aC (N := 1) rfl ?_); refine aW ?hg (N := 1) ?hd (cs := #[.int .u8 x.f0, .int .i64 x.f1.f0, .int .i64 x.f1.f1, .int .i64 x.f1.f2, .int .i64 x.f1.f3, .int .i64 x.f2, .slice B x.f3.length cb]) (t := 26) ?hr ?_; (case hd => rfl); (case hg => rfl); (case hr => (go_simp; done)); intro b1 hg w1 hbox hb; have HB := ae.mk hb; have K1 := ae.mk hbox; clear hb hbox hg; have c0 := (af K1.out 0).trans rfl; have c1 := (af K1.out 1).trans rfl; have c2 := (af K1.out 2).trans rfl; have c3 := (af K1.out 3).trans rfl; have c4 := (af K1.out 4).trans rfl; have c5 := (af K1.out 5).trans rfl; have c6 := (af K1.out 6).trans rfl))
     go_ret
     exact ⟨rfl, HB.out⟩
    ·rw [decide_eq_false i0]
     have QU : (x.f2 == 0) = false := beq_eq_false_iff_ne.mpr i0
     clear i0
     go_enter Try.func177, Try.ntmps177
     go_wp2_with (((with_reducible refine aC (N := 1) rfl ?_); refine aW ?hg (N := 1) ?hd (cs := #[.int .u8 x.f0, .int .i64 x.f1.f0, .int .i64 x.f1.f1, .int .i64 x.f1.f2, .int .i64 x.f1.f3, .int .i64 x.f2, .slice B x.f3.length cb]) (t := 26) ?hr ?_; (case hd => rfl); (case hg => rfl); (case hr => (go_simp; done)); intro b1 hg w1 hbox hb; have HB := ae.mk hb; have K1 := ae.mk hbox; clear hb hbox hg; have c0 := (af K1.out 0).trans rfl; have c1 := (af K1.out 1).trans rfl; have c2 := (af K1.out 2).trans rfl; have c3 := (af K1.out 3).trans rfl; have c4 := (af K1.out 4).trans rfl; have c5 := (af K1.out 5).trans rfl; have c6 := (af K1.out 6).trans rfl))
     go_ret
     exact ⟨rfl, HB.out⟩
   ·rw [decide_eq_false l0, Bool.false_and]
    have l1 : ¬ (2 : Int) ≤ (x.f3.length : Int) := by omega
    go_enter Try.func177, Try.ntmps177
    go_wp2_with (((with_reducible refine aC (N := 1) rfl ?_); refine aW ?hg (N := 1) ?hd (cs := #[.int .u8 x.f0, .int .i64 x.f1.f0, .int .i64 x.f1.f1, .int .i64 x.f1.f2, .int .i64 x.f1.f3, .int .i64 x.f2, .slice B x.f3.length cb]) (t := 26) ?hr ?_; (case hd => rfl); (case hg => rfl); (case hr => (go_simp; done)); intro b1 hg w1 hbox hb; have HB := ae.mk hb; have K1 := ae.mk hbox; clear hb hbox hg; have c0 := (af K1.out 0).trans rfl; have c1 := (af K1.out 1).trans rfl; have c2 := (af K1.out 2).trans rfl; have c3 := (af K1.out 3).trans rfl; have c4 := (af K1.out 4).trans rfl; have c5 := (af K1.out 5).trans rfl; have c6 := (af K1.out 6).trans rfl))
    go_ret
    exact ⟨rfl, HB.out⟩
  ·by_cases k3 : x.f0 = 3
   ·rw [if_pos (.inr k3)]
    have k2b : (x.f0 == 2) = false := beq_eq_false_iff_ne.mpr k2
    have k3b : (x.f0 == 3) = true := beq_iff_eq.mpr k3
    clear k3 k2 k1
    by_cases l0 : 2 ≤ x.f3.length
    ·rw [decide_eq_true l0, Bool.true_and]
     have l1 : (2 : Int) ≤ (x.f3.length : Int) := by omega
     by_cases i0 : x.f2 = 0
     ·rw [decide_eq_true i0]
      have QU : (x.f2 == 0) = true := beq_iff_eq.mpr i0
      clear i0
      go_enter Try.func177, Try.ntmps177
      go_wp2_with (((with_reducible refine aC (N := 1) rfl ?_); refine aW ?hg (N := 1) ?hd (cs := #[.int .u8 x.f0, .int .i64 x.f1.f0, .int .i64 x.f1.f1, .int .i64 x.f1.f2, .int .i64 x.f1.f3, .int .i64 x.f2, .slice B x.f3.length cb]) (t := 26) ?hr ?_; (case hd => rfl); (case hg => rfl); (case hr => (go_simp; done)); intro b1 hg w1 hbox hb; have HB := ae.mk hb; have K1 := ae.mk hbox; clear hb hbox hg; have c0 := (af K1.out 0).trans rfl; have c1 := (af K1.out 1).trans rfl; have c2 := (af K1.out 2).trans rfl; have c3 := (af K1.out 3).trans rfl; have c4 := (af K1.out 4).trans rfl; have c5 := (af K1.out 5).trans rfl; have c6 := (af K1.out 6).trans rfl))
      go_ret
      exact ⟨rfl, HB.out⟩
     ·rw [decide_eq_false i0]
      have QU : (x.f2 == 0) = false := beq_eq_false_iff_ne.mpr i0
      clear i0
      go_enter Try.func177, Try.ntmps177
      go_wp2_with (((with_reducible refine aC (N := 1) rfl ?_); refine aW ?hg (N := 1) ?hd (cs := #[.int .u8 x.f0, .int .i64 x.f1.f0, .int .i64 x.f1.f1, .int .i64 x.f1.f2, .int .i64 x.f1.f3, .int .i64 x.f2, .slice B x.f3.length cb]) (t := 26) ?hr ?_; (case hd => rfl); (case hg => rfl); (case hr => (go_simp; done)); intro b1 hg w1 hbox hb; have HB := ae.mk hb; have K1 := ae.mk hbox; clear hb hbox hg; have c0 := (af K1.out 0).trans rfl; have c1 := (af K1.out 1).trans rfl; have c2 := (af K1.out 2).trans rfl; have c3 := (af K1.out 3).trans rfl; have c4 := (af K1.out 4).trans rfl; have c5 := (af K1.out 5).trans rfl; have c6 := (af K1.out 6).trans rfl))
      go_ret
      exact ⟨rfl, HB.out⟩
    ·rw [decide_eq_false l0, Bool.false_and]
     have l1 : ¬ (2 : Int) ≤ (x.f3.length : Int) := by omega
     go_enter Try.func177, Try.ntmps177
     go_wp2_with (((with_reducible refine aC (N := 1) rfl ?_); refine aW ?hg (N := 1) ?hd (cs := #[.int .u8 x.f0, .int .i64 x.f1.f0, .int .i64 x.f1.f1, .int .i64 x.f1.f2, .int .i64 x.f1.f3, .int .i64 x.f2, .slice B x.f3.length cb]) (t := 26) ?hr ?_; (case hd => rfl); (case hg => rfl); (case hr => (go_simp; done)); intro b1 hg w1 hbox hb; have HB := ae.mk hb; have K1 := ae.mk hbox; clear hb hbox hg; have c0 := (af K1.out 0).trans rfl; have c1 := (af K1.out 1).trans rfl; have c2 := (af K1.out 2).trans rfl; have c3 := (af K1.out 3).trans rfl; have c4 := (af K1.out 4).trans rfl; have c5 := (af K1.out 5).trans rfl; have c6 := (af K1.out 6).trans rfl))
     go_ret
     exact ⟨rfl, HB.out⟩
   ·rw [if_neg (fun h => h.elim k2 k3)]
    have k2b : (x.f0 == 2) = false := beq_eq_false_iff_ne.mpr k2
    have k3b : (x.f0 == 3) = false := beq_eq_false_iff_ne.mpr k3
    go_enter Try.func177, Try.ntmps177
    go_wp2_with (((with_reducible refine aC (N := 1) rfl ?_); refine aW ?hg (N := 1) ?hd (cs := #[.int .u8 x.f0, .int .i64 x.f1.f0, .int .i64 x.f1.f1, .int .i64 x.f1.f2, .int .i64 x.f1.f3, .int .i64 x.f2, .slice B x.f3.length cb]) (t := 26) ?hr ?_; (case hd => rfl); (case hg => rfl); (case hr => (go_simp; done)); intro b1 hg w1 hbox hb; have HB := ae.mk hb; have K1 := ae.mk hbox; clear hb hbox hg; have c0 := (af K1.out 0).trans rfl; have c1 := (af K1.out 1).trans rfl; have c2 := (af K1.out 2).trans rfl; have c3 := (af K1.out 3).trans rfl; have c4 := (af K1.out 4).trans rfl; have c5 := (af K1.out 5).trans rfl; have c6 := (af K1.out 6).trans rfl))
    go_ret
    exact ⟨rfl, HB.out⟩
theorem abH {σ : Type} (Inv : σ → World → Prop) (step : σ → dE → Bool × σ) (g : Nat) (lb : Array Value) (eg : ∀ args w, (callFunc g args).run Try.prog w = .ok (.enter g args) w) (l : List dE) (A : Option Addr) (c : Nat)
  (hR : ∀ s W, Inv s W → Kd.C k23 W A l.length l) (hD : ∀ s W n, Inv s W → Inv s (W.drewN n))
  (hcall : ∀ s W (x : dE), x ∈ l → Inv s W → Calls Try.prog g (#[.agg #[.int .i64 x.f0, .int .i64 x.f1, .int .i64 x.f2, .int .i64 x.f3]] ++ lb) W fun e w' => e = .returned (.bool (step s x).1) ∧ Inv (step s x).2 w')
  (s : σ) (w : World) (hI : Inv s w) (hl : l.length ≤ 9223372036854775807) :
  Calls Try.prog 173 #[.slice A l.length c, .func (.func g) #[] lb] w fun e w' => e = .returned (.int .i64 (kK step 0 s l).1) ∧ Inv (kK step 0 s l).2 w' := by
 have HR := ae.mk hR
 have HI := ae.mk hI
 have wQ := ae.mk hcall
 clear hR hcall hD hI
 go_enter Try.func173, Try.ntmps173
 go_wp2
 go_loopg [5, 8] l.length (fun gg _ v8 wr => ∃ (kk : Nat) (t : σ), kk ≤ l.length ∧ l.length - kk ≤ gg ∧ v8 = .int .i64 kk ∧ ae (Inv t wr) ∧ ae (kK step 0 s l = kK step kk t (l.drop kk)))
 case atStart => exact ⟨0, s, Nat.zero_le _, by omega, rfl, HI, ⟨by simp⟩⟩
 case round =>
  clear HI
  obtain ⟨kk, t, hkk, hg, rfl, HI, HS⟩ := hrel
  by_cases hlt : kk < l.length
  ·have hltz : (kk : Int) < (l.length : Int) := by omega
   obtain ⟨ad, rfl, hc0, hc1, hc2, hc3⟩ := Jj (HR.out t wr HI.out) (kk : Int) (by omega) (by omega)
   have HX : ae (kK step kk t (l.drop kk) = if (step t (oO l (kk : Int))).1 = true then ((kk : Int), (step t (oO l (kk : Int))).2) else kK step ((kk + 1 : Nat) : Int) (step t (oO l (kk : Int))).2 (l.drop (kk + 1))) := ⟨MW step z23 l kk hlt t⟩
   have hmem : (oO l (kk : Int)) ∈ l := Ad z23 l kk hlt
   have hcall := wQ.out t wr _ hmem HI.out
   clear hmem
   simp only [Int.toNat_natCast] at hc0 hc1 hc2 hc3
   generalize oO l (kk : Int) = x at hc0 hc1 hc2 hc3 HX hcall
   have HC := ae.mk hcall
   clear hcall
   cases hq : (step t x).1 with
   | true =>
    have h := HC.out
    rw [hq] at h
    have HH := ae.mk h
    have HQ := ae.mk hq
    clear hq HC h
    go_wp2_with fail
    refine HH.out.mono ?_
    rintro e w' ⟨rfl, hb'⟩
    have HB := ae.mk hb'
    clear hb'
    go_wp2
    go_ret
    rw [HS.out, HX.out, if_pos HQ.out]
    exact ⟨rfl, HB.out⟩
   | false =>
    have h := HC.out
    rw [hq] at h
    have HH := ae.mk h
    have HQ := ae.mk hq
    clear hq HC h
    go_wp2_with fail
    refine HH.out.mono ?_
    rintro e w' ⟨rfl, hb'⟩
    have HB := ae.mk hb'
    clear hb'
    go_wp2
    go_roundg (l.length - (kk + 1))
    case measure => omega
    case rel =>
     refine ⟨kk + 1, (step t x).2, by omega, by omega, by go_num, HB, ⟨?_⟩⟩
     rw [HS.out, HX.out, if_neg (by rw [HQ.out]; simp)]
  ·have hltz : ¬ (kk : Int) < (l.length : Int) := by omega
   go_wp2
   go_ret
   rw [HS.out, List.drop_eq_nil_of_le (by omega)]
   exact ⟨rfl, HI.out⟩
theorem aaz {σ : Type} (Inv : σ → World → Prop) (step : σ → dE → Bool × σ) (g : Nat) (lb : Array Value) (eg : ∀ args w, (callFunc g args).run Try.prog w = .ok (.enter g args) w) (l : List dE) (A : Option Addr) (c : Nat)
  (hR : ∀ s W, Inv s W → Kd.C k23 W A l.length l) (hD : ∀ s W n, Inv s W → Inv s (W.drewN n))
  (hcall : ∀ s W (x : dE), x ∈ l → Inv s W → Calls Try.prog g (#[.agg #[.int .i64 x.f0, .int .i64 x.f1, .int .i64 x.f2, .int .i64 x.f3]] ++ lb) W fun e w' => e = .returned (.bool (step s x).1) ∧ Inv (step s x).2 w')
  (s : σ) (w : World) (hI : Inv s w) (hl : l.length ≤ 9223372036854775807) :
  Calls Try.prog 134 #[.slice A l.length c, .func (.func g) #[] lb] w fun e w' => e = .returned (.bool (qx step s l).1) ∧ Inv (qx step s l).2 w' := by
 have hi := abH Inv step g lb eg l A c hR hD hcall s w hI hl
 rw [Kw]
 clear hR hD hcall hI
 generalize kK step 0 s l = r at hi
 have HI := ae.mk hi
 clear hi
 go_enter Try.func134, Try.ntmps134
 go_wp2_with fail
 refine HI.out.mono ?_
 rintro e w' ⟨rfl, hb'⟩
 have HB := ae.mk hb'
 clear hb'
 go_wp2
 go_ret
 exact ⟨rfl, HB.out⟩
theorem may1 (x : dE) (w : World) : Calls Try.prog 138 #[.agg #[.int .i64 x.f0, .int .i64 x.f1, .int .i64 x.f2, .int .i64 x.f3]] w fun e w' => e = .returned (.bool (!mY x)) ∧ Below w.heap.size w w' := by
 have hc := fun W => uZ.calls x.f0 x.f1 x.f2 x.f3 (mY x) W (JY _ _ _ _)
 have HC := ae.mk hc
 clear hc
 cases hm : mY x with
 | true =>
  rw [hm] at HC
  clear hm
  go_enter Try.func138, Try.ntmps138
  go_wp2_with fail
  refine (HC.out _).mono ?_
  rintro e w' ⟨rfl, hb⟩
  have HB := ae.mk hb
  clear hb
  go_wp2
  go_ret
  exact ⟨rfl, uf (gq (Below.refl _ _) _) (by simp) HB.out⟩
 | false =>
  rw [hm] at HC
  clear hm
  go_enter Try.func138, Try.ntmps138
  go_wp2_with fail
  refine (HC.out _).mono ?_
  rintro e w' ⟨rfl, hb⟩
  have HB := ae.mk hb
  clear hb
  go_wp2
  go_ret
  exact ⟨rfl, uf (gq (Below.refl _ _) _) (by simp) HB.out⟩
def kR.f (l0 : List (dE)) : Option Bool := some (l0.all mY)
theorem kR.calls (A0 : Option Addr) (c0 : Nat) (l0 : List (dE)) (r : Bool) (w : World) (hr0 : Kd.C k23 w A0 l0.length l0) (aeM : l0.length ≤ c0) (h : kR.f l0 = some r) :
  Calls Try.prog 68 #[.slice A0 l0.length c0] w fun e w' => e = .returned (.bool r) ∧ Below w.heap.size w w' := by
 have hcon := aaz (fun (_ : Unit) W => Below w.heap.size w W) (fun _ x => (!mY x, ())) 138 #[] (qK Try.func138 (by decide +kernel) (by kernel_rfl)) l0 A0 c0 (fun _ W hW => Kd.jH hr0 hW) (fun _ W n hW => dP hW n)
  (fun _ W x _ hW => by
   rw [show (#[Value.agg #[.int .i64 x.f0, .int .i64 x.f1, .int .i64 x.f2, .int .i64 x.f3]] ++ #[] : Array Value) = #[.agg #[.int .i64 x.f0, .int .i64 x.f1, .int .i64 x.f2, .int .i64 x.f3]] by simp]
   exact (may1 x W).mono fun e w' ⟨he, hb⟩ => ⟨he, uf hW hW.size hb⟩) () w (Below.refl _ _) hr0.2.1
 rw [H5] at hcon
 have e1 : r = !(l0.any fun x => !mY x) := by
  injection h with h
  rw [← h]
  clear h hcon hr0 aeM
  induction l0 with
  | nil => rfl
  | cons x xs ih => simp only [List.all_cons, List.any_cons, ih, Bool.not_or, Bool.not_not]
 subst e1
 generalize (l0.any fun x => !mY x) = b at hcon
 have HC := ae.mk hcon
 clear hcon h hr0
 go_enter Try.func68, Try.ntmps68
 go_wp2_with fail
 refine HC.out.mono ?_
 rintro e w' ⟨rfl, hb⟩
 have HB := ae.mk hb
 clear hb
 go_wp2
 go_ret
 exact ⟨rfl, HB.out⟩
theorem Kp.grown {S : Nat → Prop} {W W1 : World} {g : Nat} (h : W.grownBy W1 (some g)) (hs : S g) : Kp S W W1 := ⟨h.size, fun k hk hn => h.block k hk (fun e => hn (by injection e with e; rw [e]; exact hs))⟩
theorem kY.count {w0 W W1 : World} {bn bm B : Nat} {s : Int × List Int} {n : Int} (h : kY w0 bn bm B s W) (hk : W1.heap[bn]? = some (.cells #[.int .i64 n] 3 (0, 0))) (hb : Below w0.heap.size w0 W1) (hg : W.grownBy W1 (some bn)) : kY w0 bn bm B (n, s.2) W1 :=
 ⟨hk, dM h.hm hg (fun e => h.VU.2.2 (Option.some.inj e)), h.map.kept hg (fun e => h.VU.1 (Option.some.inj e).symm), hb, h.gn, h.gB, h.nd, h.rg⟩
theorem kY.met {w0 W W1 : World} {bn bm B : Nat} {s : Int × List Int} {i : Int} (h : kY w0 bn bm B s W) (hm : W1.ownsMap (H := Unit) Try.prog 3 (plainElem Try.prog 4) B (s.2.length + 1) ((Ea s.2).put (.int .i64 i) (.lit (.bool true)))) (hg : W.grownBy W1 (some B)) (hi : i ∉ s.2) (h0 : 0 ≤ i) (h1 : i ≤ 2147483647) : kY w0 bn bm B (s.1, i :: s.2) W1 :=
 ⟨dM h.hn hg (fun e => h.VU.1 (Option.some.inj e)), dM h.hm hg (fun e => h.VU.2.1 (Option.some.inj e)), hm, grown_below h.below hg h.gB h.below.size, h.gn, h.gB, List.nodup_cons.2 ⟨hi, h.nd⟩, fun j hj => by
  rcases List.mem_cons.1 hj with rfl | hj
  ·exact ⟨h0, h1⟩
  ·exact h.rg j hj⟩
theorem V8 (w : World) : (zeroValue 4).run Try.prog w = .ok (.bool false) w := by kernel_rfl
theorem adP (w0 : World) (bn bm B : Nat) (s : Int × List Int) (W : World) (x : ai) (A : Option Addr) (cb : Nat) (hI : kY w0 bn bm B s W) (h1 : 20000 < wrap64 (s.1 + 1)) :
  Calls Try.prog 176 (#[.agg #[.int .u8 x.f0, .int .i64 x.f1.f0, .int .i64 x.f1.f1, .int .i64 x.f1.f2, .int .i64 x.f1.f3, .int .i64 x.f2, .slice A x.f3.length cb]] ++ #[.pointer (some ⟨bn, 0, none⟩), .pointer (some ⟨bm, 0, none⟩)]) W fun e w' => e = .returned (.bool (je s x).1) ∧ kY w0 bn bm B (je s x).2 w' ∧ Kp (tN bn B) W w' := by
 rw [show je s x = (false, (wrap64 (s.1 + 1), s.2)) from by unfold je; rw [if_pos h1]]
 have HI := ae.mk hI
 have HK := ae.mk (Kp.refl (tN bn B) W)
 clear hI
 simp only [List.append_toArray, List.cons_append, List.nil_append]
 go_enter Try.func176, Try.ntmps176
 go_wp2_with (first | ((with_reducible refine aC (N := 3) rfl ?_); refine aW ?hg (N := 3) ?hd (cs := #[.int .u8 x.f0, .int .i64 x.f1.f0, .int .i64 x.f1.f1, .int .i64 x.f1.f2, .int .i64 x.f1.f3, .int .i64 x.f2, .slice A x.f3.length cb]) (t := 26) ?hr ?_; (case hd => rfl); (case hg => rfl); (case hr => (go_simp; done)); intro b3 hg w3 hbox hb; have K3 := ae.mk hbox; have eY := ae.mk (HI.out.step hb); have fA := ae.mk (HK.out.trans (Kp.below hb)); clear HI HK; have HI := eY; have HK := fA; clear eY fA; clear hb hbox hg; have cn := (af HI.out.hn 0).trans rfl) | ((with_reducible refine nK (.store 3 (.tmp 1) (.tmp 6)) rfl ?_); go_loud (clear cn; refine jg (w0 := w0) rfl rfl 3 (.tmp 1) (.tmp 6) rfl (g := bn) (j := 0) (base := w0.heap.size) #[.int .i64 (wrap64 (s.1 + 1))] (u := .int .i64 (wrap64 (s.1 + 1))) (bI := [.int .i64 (wrap64 (s.1 + 1))]) ?sA ?sX rfl ?sT ?s1 HI.out.hn ?sJ rfl HI.out.below HI.out.below.size HI.out.gn ?_; (case sA => rfl); (case sX => rfl); (case sT => rfl); (case s1 => (simp [Value.oneCell'])); (case sJ => (simp)); intro ws hbk hbb hgg; have eY := ae.mk (HI.out.count hbk hbb hgg); have fA := ae.mk (HK.out.trans (Kp.grown hgg (Or.inl rfl))); have iq := ae.mk (dM K3.out hgg (fun e_ => rJ K3.out HI.out.hn (by decide) (Option.some.inj e_))); clear HI HK K3 hbk hbb hgg; have HI := eY; have HK := fA; have K3 := iq; clear eY fA iq; have cn := (af HI.out.hn 0).trans rfl; have c0 := (af K3.out 0).trans rfl; have c1 := (af K3.out 1).trans rfl; have c2 := (af K3.out 2).trans rfl; have c3 := (af K3.out 3).trans rfl; have c4 := (af K3.out 4).trans rfl; have c5 := (af K3.out 5).trans rfl; have c6 := (af K3.out 6).trans rfl)))
 go_ret
 exact ⟨rfl, HI.out, HK.out⟩
theorem adQ (w0 : World) (bn bm B : Nat) (s : Int × List Int) (W : World) (x : ai) (A : Option Addr) (cb : Nat) (hI : kY w0 bn bm B s W) (h1 : ¬ 20000 < wrap64 (s.1 + 1)) (h2 : uq x = false) :
  Calls Try.prog 176 (#[.agg #[.int .u8 x.f0, .int .i64 x.f1.f0, .int .i64 x.f1.f1, .int .i64 x.f1.f2, .int .i64 x.f1.f3, .int .i64 x.f2, .slice A x.f3.length cb]] ++ #[.pointer (some ⟨bn, 0, none⟩), .pointer (some ⟨bm, 0, none⟩)]) W fun e w' => e = .returned (.bool (je s x).1) ∧ kY w0 bn bm B (je s x).2 w' ∧ Kp (tN bn B) W w' := by
 rw [show je s x = (false, (wrap64 (s.1 + 1), s.2)) from by unfold je; rw [if_neg h1, xK, h2]; simp]
 have HN := ae.mk fun W => zn x A cb W
 rw [h2] at HN
 clear h2
 have HI := ae.mk hI
 have HK := ae.mk (Kp.refl (tN bn B) W)
 clear hI
 simp only [List.append_toArray, List.cons_append, List.nil_append]
 go_enter Try.func176, Try.ntmps176
 go_wp2_with (first | ((with_reducible refine aC (N := 3) rfl ?_); refine aW ?hg (N := 3) ?hd (cs := #[.int .u8 x.f0, .int .i64 x.f1.f0, .int .i64 x.f1.f1, .int .i64 x.f1.f2, .int .i64 x.f1.f3, .int .i64 x.f2, .slice A x.f3.length cb]) (t := 26) ?hr ?_; (case hd => rfl); (case hg => rfl); (case hr => (go_simp; done)); intro b3 hg w3 hbox hb; have K3 := ae.mk hbox; have eY := ae.mk (HI.out.step hb); have fA := ae.mk (HK.out.trans (Kp.below hb)); clear HI HK; have HI := eY; have HK := fA; clear eY fA; clear hb hbox hg; have cn := (af HI.out.hn 0).trans rfl) | ((with_reducible refine nK (.store 3 (.tmp 1) (.tmp 6)) rfl ?_); go_loud (clear cn; refine jg (w0 := w0) rfl rfl 3 (.tmp 1) (.tmp 6) rfl (g := bn) (j := 0) (base := w0.heap.size) #[.int .i64 (wrap64 (s.1 + 1))] (u := .int .i64 (wrap64 (s.1 + 1))) (bI := [.int .i64 (wrap64 (s.1 + 1))]) ?sA ?sX rfl ?sT ?s1 HI.out.hn ?sJ rfl HI.out.below HI.out.below.size HI.out.gn ?_; (case sA => rfl); (case sX => rfl); (case sT => rfl); (case s1 => (simp [Value.oneCell'])); (case sJ => (simp)); intro ws hbk hbb hgg; have eY := ae.mk (HI.out.count hbk hbb hgg); have fA := ae.mk (HK.out.trans (Kp.grown hgg (Or.inl rfl))); have iq := ae.mk (dM K3.out hgg (fun e_ => rJ K3.out HI.out.hn (by decide) (Option.some.inj e_))); clear HI HK K3 hbk hbb hgg; have HI := eY; have HK := fA; have K3 := iq; clear eY fA iq; have cn := (af HI.out.hn 0).trans rfl; have c0 := (af K3.out 0).trans rfl; have c1 := (af K3.out 1).trans rfl; have c2 := (af K3.out 2).trans rfl; have c3 := (af K3.out 3).trans rfl; have c4 := (af K3.out 4).trans rfl; have c5 := (af K3.out 5).trans rfl; have c6 := (af K3.out 6).trans rfl)))
 clear cn
 clear c0 c1 c2 c3 c4 c5 c6
 refine (HN.out _).mono ?_
 rintro e wk ⟨rfl, hb⟩
 have iq := ae.mk (aY K3.out hb)
 clear K3
 have K3 := iq
 clear iq
 have eY := ae.mk (HI.out.step hb); have fA := ae.mk (HK.out.trans (Kp.below hb)); clear HI HK; have HI := eY; have HK := fA; clear eY fA
 clear hb
 go_wp2
 go_ret
 exact ⟨rfl, HI.out, HK.out⟩
theorem adR (w0 : World) (bn bm B : Nat) (s : Int × List Int) (W : World) (x : ai) (A : Option Addr) (cb : Nat) (hI : kY w0 bn bm B s W) (h1 : ¬ 20000 < wrap64 (s.1 + 1)) (h2 : uq x = true) (h3 : mY x.f1 = false) :
  Calls Try.prog 176 (#[.agg #[.int .u8 x.f0, .int .i64 x.f1.f0, .int .i64 x.f1.f1, .int .i64 x.f1.f2, .int .i64 x.f1.f3, .int .i64 x.f2, .slice A x.f3.length cb]] ++ #[.pointer (some ⟨bn, 0, none⟩), .pointer (some ⟨bm, 0, none⟩)]) W fun e w' => e = .returned (.bool (je s x).1) ∧ kY w0 bn bm B (je s x).2 w' ∧ Kp (tN bn B) W w' := by
 rw [show je s x = (false, (wrap64 (s.1 + 1), s.2)) from by unfold je; rw [if_neg h1, xK, h2, h3]; simp]
 have HN := ae.mk fun W => zn x A cb W
 rw [h2] at HN
 clear h2
 have M1 := ae.mk (show kR.f [x.f1] = some false by simp [kR.f, h3])
 clear h3
 have HI := ae.mk hI
 have HK := ae.mk (Kp.refl (tN bn B) W)
 clear hI
 simp only [List.append_toArray, List.cons_append, List.nil_append]
 go_enter Try.func176, Try.ntmps176
 go_wp2_with (first | ((with_reducible refine aC (N := 3) rfl ?_); refine aW ?hg (N := 3) ?hd (cs := #[.int .u8 x.f0, .int .i64 x.f1.f0, .int .i64 x.f1.f1, .int .i64 x.f1.f2, .int .i64 x.f1.f3, .int .i64 x.f2, .slice A x.f3.length cb]) (t := 26) ?hr ?_; (case hd => rfl); (case hg => rfl); (case hr => (go_simp; done)); intro b3 hg w3 hbox hb; have K3 := ae.mk hbox; have eY := ae.mk (HI.out.step hb); have fA := ae.mk (HK.out.trans (Kp.below hb)); clear HI HK; have HI := eY; have HK := fA; clear eY fA; clear hb hbox hg; have cn := (af HI.out.hn 0).trans rfl) | ((with_reducible refine nK (.store 3 (.tmp 1) (.tmp 6)) rfl ?_); go_loud (clear cn; refine jg (w0 := w0) rfl rfl 3 (.tmp 1) (.tmp 6) rfl (g := bn) (j := 0) (base := w0.heap.size) #[.int .i64 (wrap64 (s.1 + 1))] (u := .int .i64 (wrap64 (s.1 + 1))) (bI := [.int .i64 (wrap64 (s.1 + 1))]) ?sA ?sX rfl ?sT ?s1 HI.out.hn ?sJ rfl HI.out.below HI.out.below.size HI.out.gn ?_; (case sA => rfl); (case sX => rfl); (case sT => rfl); (case s1 => (simp [Value.oneCell'])); (case sJ => (simp)); intro ws hbk hbb hgg; have eY := ae.mk (HI.out.count hbk hbb hgg); have fA := ae.mk (HK.out.trans (Kp.grown hgg (Or.inl rfl))); have iq := ae.mk (dM K3.out hgg (fun e_ => rJ K3.out HI.out.hn (by decide) (Option.some.inj e_))); clear HI HK K3 hbk hbb hgg; have HI := eY; have HK := fA; have K3 := iq; clear eY fA iq; have cn := (af HI.out.hn 0).trans rfl; have c0 := (af K3.out 0).trans rfl; have c1 := (af K3.out 1).trans rfl; have c2 := (af K3.out 2).trans rfl; have c3 := (af K3.out 3).trans rfl; have c4 := (af K3.out 4).trans rfl; have c5 := (af K3.out 5).trans rfl; have c6 := (af K3.out 6).trans rfl)))
 clear cn
 clear c0 c1 c2 c3 c4 c5 c6
 refine (HN.out _).mono ?_
 rintro e wk ⟨rfl, hb⟩
 have iq := ae.mk (aY K3.out hb)
 clear K3
 have K3 := iq
 clear iq
 have eY := ae.mk (HI.out.step hb); have fA := ae.mk (HK.out.trans (Kp.below hb)); clear HI HK; have HI := eY; have HK := fA; clear eY fA
 clear hb
 have c0 := (af K3.out 0).trans rfl
 have c1 := (af K3.out 1).trans rfl
 have c2 := (af K3.out 2).trans rfl
 have c3 := (af K3.out 3).trans rfl
 have c4 := (af K3.out 4).trans rfl
 have c5 := (af K3.out 5).trans rfl
 have c6 := (af K3.out 6).trans rfl
 go_wp2_with (((with_reducible refine aC (N := 17) rfl ?_); (try (refine fQ (by rfl) ?_; dsimp only)); refine Kd.o8 k23 _ 23 ?hg (N := 17) ?hd (xs := ([x.f1] : List dE)) (inner := [.int .i64 x.f1.f0, .int .i64 x.f1.f1, .int .i64 x.f1.f2, .int .i64 x.f1.f3]) (ok := fun _ => True) (fH := fun _ => True) ?hr ?hp (fun _ hk => hk) trivial (Below.refl _ _) (Nat.le_refl _) (by simp) ?_; (case hd => rfl); (case hg => rfl); (case hr => (go_simp; done)); (case hp => exact (bD.c4 (show Kd.M k23 _ _ _ x.f1 [.int .i64 x.f1.f0, .int .i64 x.f1.f1, .int .i64 x.f1.f2, .int .i64 x.f1.f3] from pX _ _ _ x.f1) (bD.none _ _))); intro vr wr ho hb kF gQ; clear kF gQ; obtain ⟨Ar, cr, er⟩ := Kd.fG ho; subst er; have iq := ae.mk (aY K3.out hb); clear K3; have K3 := iq; clear iq; have eY := ae.mk (HI.out.step hb); have fA := ae.mk (HK.out.trans (Kp.below hb)); clear HI HK; have HI := eY; have HK := fA; clear eY fA; have HR := ae.mk (Kd.bQ ho).2.2; have LR := ae.mk (Kd.bQ ho).2.1; clear ho hb))
 clear c0 c1 c2 c3 c4 c5 c6
 refine (kR.calls Ar cr [x.f1] false _ HR.out LR.out M1.out).mono ?_
 rintro e wk ⟨rfl, hb⟩
 have iq := ae.mk (aY K3.out hb)
 clear K3
 have K3 := iq
 clear iq
 have eY := ae.mk (HI.out.step hb); have fA := ae.mk (HK.out.trans (Kp.below hb)); clear HI HK; have HI := eY; have HK := fA; clear eY fA
 clear hb
 go_wp2
 go_ret
 exact ⟨rfl, HI.out, HK.out⟩
theorem adS (w0 : World) (bn bm B : Nat) (s : Int × List Int) (W : World) (x : ai) (A : Option Addr) (cb : Nat) (hI : kY w0 bn bm B s W) (h1 : ¬ 20000 < wrap64 (s.1 + 1)) (h2 : uq x = true) (h3 : mY x.f1 = true) (h4 : x.f0 ≠ 1) :
  Calls Try.prog 176 (#[.agg #[.int .u8 x.f0, .int .i64 x.f1.f0, .int .i64 x.f1.f1, .int .i64 x.f1.f2, .int .i64 x.f1.f3, .int .i64 x.f2, .slice A x.f3.length cb]] ++ #[.pointer (some ⟨bn, 0, none⟩), .pointer (some ⟨bm, 0, none⟩)]) W fun e w' => e = .returned (.bool (je s x).1) ∧ kY w0 bn bm B (je s x).2 w' ∧ Kp (tN bn B) W w' := by
 rw [show je s x = (true, (wrap64 (s.1 + 1), s.2)) from by unfold je; rw [if_neg h1, xK, h2, h3, if_neg (by simp), if_neg h4]]
 have HN := ae.mk fun W => zn x A cb W
 rw [h2] at HN
 clear h2
 have M1 := ae.mk (show kR.f [x.f1] = some true by simp [kR.f, h3])
 clear h3
 have Ba : (x.f0 == 1) = false := beq_eq_false_iff_ne.mpr h4
 clear h4
 have HI := ae.mk hI
 have HK := ae.mk (Kp.refl (tN bn B) W)
 clear hI
 simp only [List.append_toArray, List.cons_append, List.nil_append]
 go_enter Try.func176, Try.ntmps176
 go_wp2_with (first | ((with_reducible refine aC (N := 3) rfl ?_); refine aW ?hg (N := 3) ?hd (cs := #[.int .u8 x.f0, .int .i64 x.f1.f0, .int .i64 x.f1.f1, .int .i64 x.f1.f2, .int .i64 x.f1.f3, .int .i64 x.f2, .slice A x.f3.length cb]) (t := 26) ?hr ?_; (case hd => rfl); (case hg => rfl); (case hr => (go_simp; done)); intro b3 hg w3 hbox hb; have K3 := ae.mk hbox; have eY := ae.mk (HI.out.step hb); have fA := ae.mk (HK.out.trans (Kp.below hb)); clear HI HK; have HI := eY; have HK := fA; clear eY fA; clear hb hbox hg; have cn := (af HI.out.hn 0).trans rfl) | ((with_reducible refine nK (.store 3 (.tmp 1) (.tmp 6)) rfl ?_); go_loud (clear cn; refine jg (w0 := w0) rfl rfl 3 (.tmp 1) (.tmp 6) rfl (g := bn) (j := 0) (base := w0.heap.size) #[.int .i64 (wrap64 (s.1 + 1))] (u := .int .i64 (wrap64 (s.1 + 1))) (bI := [.int .i64 (wrap64 (s.1 + 1))]) ?sA ?sX rfl ?sT ?s1 HI.out.hn ?sJ rfl HI.out.below HI.out.below.size HI.out.gn ?_; (case sA => rfl); (case sX => rfl); (case sT => rfl); (case s1 => (simp [Value.oneCell'])); (case sJ => (simp)); intro ws hbk hbb hgg; have eY := ae.mk (HI.out.count hbk hbb hgg); have fA := ae.mk (HK.out.trans (Kp.grown hgg (Or.inl rfl))); have iq := ae.mk (dM K3.out hgg (fun e_ => rJ K3.out HI.out.hn (by decide) (Option.some.inj e_))); clear HI HK K3 hbk hbb hgg; have HI := eY; have HK := fA; have K3 := iq; clear eY fA iq; have cn := (af HI.out.hn 0).trans rfl; have c0 := (af K3.out 0).trans rfl; have c1 := (af K3.out 1).trans rfl; have c2 := (af K3.out 2).trans rfl; have c3 := (af K3.out 3).trans rfl; have c4 := (af K3.out 4).trans rfl; have c5 := (af K3.out 5).trans rfl; have c6 := (af K3.out 6).trans rfl)))
 clear cn
 clear c0 c1 c2 c3 c4 c5 c6
 refine (HN.out _).mono ?_
 rintro e wk ⟨rfl, hb⟩
 have iq := ae.mk (aY K3.out hb)
 clear K3
 have K3 := iq
 clear iq
 have eY := ae.mk (HI.out.step hb); have fA := ae.mk (HK.out.trans (Kp.below hb)); clear HI HK; have HI := eY; have HK := fA; clear eY fA
 clear hb
 have c0 := (af K3.out 0).trans rfl
 have c1 := (af K3.out 1).trans rfl
 have c2 := (af K3.out 2).trans rfl
 have c3 := (af K3.out 3).trans rfl
 have c4 := (af K3.out 4).trans rfl
 have c5 := (af K3.out 5).trans rfl
 have c6 := (af K3.out 6).trans rfl
 go_wp2_with (((with_reducible refine aC (N := 17) rfl ?_); (try (refine fQ (by rfl) ?_; dsimp only)); refine Kd.o8 k23 _ 23 ?hg (N := 17) ?hd (xs := ([x.f1] : List dE)) (inner := [.int .i64 x.f1.f0, .int .i64 x.f1.f1, .int .i64 x.f1.f2, .int .i64 x.f1.f3]) (ok := fun _ => True) (fH := fun _ => True) ?hr ?hp (fun _ hk => hk) trivial (Below.refl _ _) (Nat.le_refl _) (by simp) ?_; (case hd => rfl); (case hg => rfl); (case hr => (go_simp; done)); (case hp => exact (bD.c4 (show Kd.M k23 _ _ _ x.f1 [.int .i64 x.f1.f0, .int .i64 x.f1.f1, .int .i64 x.f1.f2, .int .i64 x.f1.f3] from pX _ _ _ x.f1) (bD.none _ _))); intro vr wr ho hb kF gQ; clear kF gQ; obtain ⟨Ar, cr, er⟩ := Kd.fG ho; subst er; have iq := ae.mk (aY K3.out hb); clear K3; have K3 := iq; clear iq; have eY := ae.mk (HI.out.step hb); have fA := ae.mk (HK.out.trans (Kp.below hb)); clear HI HK; have HI := eY; have HK := fA; clear eY fA; have HR := ae.mk (Kd.bQ ho).2.2; have LR := ae.mk (Kd.bQ ho).2.1; clear ho hb))
 clear c0 c1 c2 c3 c4 c5 c6
 refine (kR.calls Ar cr [x.f1] true _ HR.out LR.out M1.out).mono ?_
 rintro e wk ⟨rfl, hb⟩
 have iq := ae.mk (aY K3.out hb)
 clear K3
 have K3 := iq
 clear iq
 have eY := ae.mk (HI.out.step hb); have fA := ae.mk (HK.out.trans (Kp.below hb)); clear HI HK; have HI := eY; have HK := fA; clear eY fA
 clear hb
 have c0 := (af K3.out 0).trans rfl
 have c1 := (af K3.out 1).trans rfl
 have c2 := (af K3.out 2).trans rfl
 have c3 := (af K3.out 3).trans rfl
 have c4 := (af K3.out 4).trans rfl
 have c5 := (af K3.out 5).trans rfl
 have c6 := (af K3.out 6).trans rfl
 go_wp2
 go_ret
 exact ⟨rfl, HI.out, HK.out⟩
theorem adT (w0 : World) (bn bm B : Nat) (s : Int × List Int) (W : World) (x : ai) (A : Option Addr) (cb : Nat) (hI : kY w0 bn bm B s W) (h1 : ¬ 20000 < wrap64 (s.1 + 1)) (h2 : uq x = true) (h3 : mY x.f1 = true) (h4 : x.f0 = 1) (h5 : 0 ≤ x.f2) (h6 : x.f2 ≤ 2147483647) (h7 : x.f2 ∈ s.2) :
  Calls Try.prog 176 (#[.agg #[.int .u8 x.f0, .int .i64 x.f1.f0, .int .i64 x.f1.f1, .int .i64 x.f1.f2, .int .i64 x.f1.f3, .int .i64 x.f2, .slice A x.f3.length cb]] ++ #[.pointer (some ⟨bn, 0, none⟩), .pointer (some ⟨bm, 0, none⟩)]) W fun e w' => e = .returned (.bool (je s x).1) ∧ kY w0 bn bm B (je s x).2 w' ∧ Kp (tN bn B) W w' := by
 rw [show je s x = (false, (wrap64 (s.1 + 1), s.2)) from by unfold je; rw [if_neg h1, xK, h2, h3, if_neg (by simp), if_pos h4, if_pos h7]]
 have HN := ae.mk fun W => zn x A cb W
 rw [h2] at HN
 clear h2
 have M1 := ae.mk (show kR.f [x.f1] = some true by simp [kR.f, h3])
 clear h3
 have LK : ae ((Ea s.2).atKey (.int .i64 x.f2) (.lit (.bool false)) = .lit (.bool true)) := ⟨by rw [M_, decide_eq_true h7]⟩
 clear h7
 have WF : ae ((Lit.int .i64 x.f2).wf = true) := ⟨WalkArith.wf_i64 (by omega)⟩
 have Ba : (x.f0 == 1) = true := beq_iff_eq.mpr h4
 clear h4 h5 h6
 have HI := ae.mk hI
 have HK := ae.mk (Kp.refl (tN bn B) W)
 clear hI
 simp only [List.append_toArray, List.cons_append, List.nil_append]
 go_enter Try.func176, Try.ntmps176
 go_wp2_with (first | ((with_reducible refine aC (N := 3) rfl ?_); refine aW ?hg (N := 3) ?hd (cs := #[.int .u8 x.f0, .int .i64 x.f1.f0, .int .i64 x.f1.f1, .int .i64 x.f1.f2, .int .i64 x.f1.f3, .int .i64 x.f2, .slice A x.f3.length cb]) (t := 26) ?hr ?_; (case hd => rfl); (case hg => rfl); (case hr => (go_simp; done)); intro b3 hg w3 hbox hb; have K3 := ae.mk hbox; have eY := ae.mk (HI.out.step hb); have fA := ae.mk (HK.out.trans (Kp.below hb)); clear HI HK; have HI := eY; have HK := fA; clear eY fA; clear hb hbox hg; have cn := (af HI.out.hn 0).trans rfl) | ((with_reducible refine nK (.store 3 (.tmp 1) (.tmp 6)) rfl ?_); go_loud (clear cn; refine jg (w0 := w0) rfl rfl 3 (.tmp 1) (.tmp 6) rfl (g := bn) (j := 0) (base := w0.heap.size) #[.int .i64 (wrap64 (s.1 + 1))] (u := .int .i64 (wrap64 (s.1 + 1))) (bI := [.int .i64 (wrap64 (s.1 + 1))]) ?sA ?sX rfl ?sT ?s1 HI.out.hn ?sJ rfl HI.out.below HI.out.below.size HI.out.gn ?_; (case sA => rfl); (case sX => rfl); (case sT => rfl); (case s1 => (simp [Value.oneCell'])); (case sJ => (simp)); intro ws hbk hbb hgg; have eY := ae.mk (HI.out.count hbk hbb hgg); have fA := ae.mk (HK.out.trans (Kp.grown hgg (Or.inl rfl))); have iq := ae.mk (dM K3.out hgg (fun e_ => rJ K3.out HI.out.hn (by decide) (Option.some.inj e_))); clear HI HK K3 hbk hbb hgg; have HI := eY; have HK := fA; have K3 := iq; clear eY fA iq; have cn := (af HI.out.hn 0).trans rfl; have c0 := (af K3.out 0).trans rfl; have c1 := (af K3.out 1).trans rfl; have c2 := (af K3.out 2).trans rfl; have c3 := (af K3.out 3).trans rfl; have c4 := (af K3.out 4).trans rfl; have c5 := (af K3.out 5).trans rfl; have c6 := (af K3.out 6).trans rfl)))
 clear cn
 clear c0 c1 c2 c3 c4 c5 c6
 refine (HN.out _).mono ?_
 rintro e wk ⟨rfl, hb⟩
 have iq := ae.mk (aY K3.out hb)
 clear K3
 have K3 := iq
 clear iq
 have eY := ae.mk (HI.out.step hb); have fA := ae.mk (HK.out.trans (Kp.below hb)); clear HI HK; have HI := eY; have HK := fA; clear eY fA
 clear hb
 have c0 := (af K3.out 0).trans rfl
 have c1 := (af K3.out 1).trans rfl
 have c2 := (af K3.out 2).trans rfl
 have c3 := (af K3.out 3).trans rfl
 have c4 := (af K3.out 4).trans rfl
 have c5 := (af K3.out 5).trans rfl
 have c6 := (af K3.out 6).trans rfl
 go_wp2_with (((with_reducible refine aC (N := 17) rfl ?_); (try (refine fQ (by rfl) ?_; dsimp only)); refine Kd.o8 k23 _ 23 ?hg (N := 17) ?hd (xs := ([x.f1] : List dE)) (inner := [.int .i64 x.f1.f0, .int .i64 x.f1.f1, .int .i64 x.f1.f2, .int .i64 x.f1.f3]) (ok := fun _ => True) (fH := fun _ => True) ?hr ?hp (fun _ hk => hk) trivial (Below.refl _ _) (Nat.le_refl _) (by simp) ?_; (case hd => rfl); (case hg => rfl); (case hr => (go_simp; done)); (case hp => exact (bD.c4 (show Kd.M k23 _ _ _ x.f1 [.int .i64 x.f1.f0, .int .i64 x.f1.f1, .int .i64 x.f1.f2, .int .i64 x.f1.f3] from pX _ _ _ x.f1) (bD.none _ _))); intro vr wr ho hb kF gQ; clear kF gQ; obtain ⟨Ar, cr, er⟩ := Kd.fG ho; subst er; have iq := ae.mk (aY K3.out hb); clear K3; have K3 := iq; clear iq; have eY := ae.mk (HI.out.step hb); have fA := ae.mk (HK.out.trans (Kp.below hb)); clear HI HK; have HI := eY; have HK := fA; clear eY fA; have HR := ae.mk (Kd.bQ ho).2.2; have LR := ae.mk (Kd.bQ ho).2.1; clear ho hb))
 clear c0 c1 c2 c3 c4 c5 c6
 refine (kR.calls Ar cr [x.f1] true _ HR.out LR.out M1.out).mono ?_
 rintro e wk ⟨rfl, hb⟩
 have iq := ae.mk (aY K3.out hb)
 clear K3
 have K3 := iq
 clear iq
 have eY := ae.mk (HI.out.step hb); have fA := ae.mk (HK.out.trans (Kp.below hb)); clear HI HK; have HI := eY; have HK := fA; clear eY fA
 clear hb
 have c0 := (af K3.out 0).trans rfl
 have c1 := (af K3.out 1).trans rfl
 have c2 := (af K3.out 2).trans rfl
 have c3 := (af K3.out 3).trans rfl
 have c4 := (af K3.out 4).trans rfl
 have c5 := (af K3.out 5).trans rfl
 have c6 := (af K3.out 6).trans rfl
 have cm := (af HI.out.hm 0).trans rfl
 go_wp2_with (((with_reducible refine aC (N := 29) rfl ?_); (try (refine fQ (by rfl) ?_; dsimp only)); refine Dp _ rfl _ _ 161 rfl 3 4 (Maps.int_keyed Try.underlying3) Try.underlying161 Try.underlying4 (V8 _) B _ _ rfl HI.out.map _ (.int .i64 x.f2) rfl (Maps.keyOf_int_mk Try.underlying3 WF.out) true LK.out ?_))
 go_ret
 exact ⟨rfl, HI.out, HK.out⟩
theorem adU (w0 : World) (bn bm B : Nat) (s : Int × List Int) (W : World) (x : ai) (A : Option Addr) (cb : Nat) (hI : kY w0 bn bm B s W) (h1 : ¬ 20000 < wrap64 (s.1 + 1)) (h2 : uq x = true) (h3 : mY x.f1 = true) (h4 : x.f0 = 1) (h5 : 0 ≤ x.f2) (h6 : x.f2 ≤ 2147483647) (h7 : x.f2 ∉ s.2) :
  Calls Try.prog 176 (#[.agg #[.int .u8 x.f0, .int .i64 x.f1.f0, .int .i64 x.f1.f1, .int .i64 x.f1.f2, .int .i64 x.f1.f3, .int .i64 x.f2, .slice A x.f3.length cb]] ++ #[.pointer (some ⟨bn, 0, none⟩), .pointer (some ⟨bm, 0, none⟩)]) W fun e w' => e = .returned (.bool (je s x).1) ∧ kY w0 bn bm B (je s x).2 w' ∧ Kp (tN bn B) W w' := by
 rw [show je s x = (true, (wrap64 (s.1 + 1), x.f2 :: s.2)) from by unfold je; rw [if_neg h1, xK, h2, h3, if_neg (by simp), if_pos h4, if_neg h7]]
 have HN := ae.mk fun W => zn x A cb W
 rw [h2] at HN
 clear h2
 have M1 := ae.mk (show kR.f [x.f1] = some true by simp [kR.f, h3])
 clear h3
 have LK : ae ((Ea s.2).atKey (.int .i64 x.f2) (.lit (.bool false)) = .lit (.bool false)) := ⟨by rw [M_, decide_eq_false h7]⟩
 have NM := ae.mk h7
 clear h7
 have yh : ae (s.2.length < maxLen) := ⟨by have h8 := Uy 2147483648 s.2 hI.nd (fun i hi => by have := hI.rg i hi; omega); unfold maxLen; omega⟩
 have I0 := ae.mk h5
 have I1 := ae.mk h6
 have WF : ae ((Lit.int .i64 x.f2).wf = true) := ⟨WalkArith.wf_i64 (by omega)⟩
 have Ba : (x.f0 == 1) = true := beq_iff_eq.mpr h4
 clear h4 h5 h6
 have HI := ae.mk hI
 have HK := ae.mk (Kp.refl (tN bn B) W)
 clear hI
 simp only [List.append_toArray, List.cons_append, List.nil_append]
 go_enter Try.func176, Try.ntmps176
 go_wp2_with (first | ((with_reducible refine aC (N := 3) rfl ?_); refine aW ?hg (N := 3) ?hd (cs := #[.int .u8 x.f0, .int .i64 x.f1.f0, .int .i64 x.f1.f1, .int .i64 x.f1.f2, .int .i64 x.f1.f3, .int .i64 x.f2, .slice A x.f3.length cb]) (t := 26) ?hr ?_; (case hd => rfl); (case hg => rfl); (case hr => (go_simp; done)); intro b3 hg w3 hbox hb; have K3 := ae.mk hbox; have eY := ae.mk (HI.out.step hb); have fA := ae.mk (HK.out.trans (Kp.below hb)); clear HI HK; have HI := eY; have HK := fA; clear eY fA; clear hb hbox hg; have cn := (af HI.out.hn 0).trans rfl) | ((with_reducible refine nK (.store 3 (.tmp 1) (.tmp 6)) rfl ?_); go_loud (clear cn; refine jg (w0 := w0) rfl rfl 3 (.tmp 1) (.tmp 6) rfl (g := bn) (j := 0) (base := w0.heap.size) #[.int .i64 (wrap64 (s.1 + 1))] (u := .int .i64 (wrap64 (s.1 + 1))) (bI := [.int .i64 (wrap64 (s.1 + 1))]) ?sA ?sX rfl ?sT ?s1 HI.out.hn ?sJ rfl HI.out.below HI.out.below.size HI.out.gn ?_; (case sA => rfl); (case sX => rfl); (case sT => rfl); (case s1 => (simp [Value.oneCell'])); (case sJ => (simp)); intro ws hbk hbb hgg; have eY := ae.mk (HI.out.count hbk hbb hgg); have fA := ae.mk (HK.out.trans (Kp.grown hgg (Or.inl rfl))); have iq := ae.mk (dM K3.out hgg (fun e_ => rJ K3.out HI.out.hn (by decide) (Option.some.inj e_))); clear HI HK K3 hbk hbb hgg; have HI := eY; have HK := fA; have K3 := iq; clear eY fA iq; have cn := (af HI.out.hn 0).trans rfl; have c0 := (af K3.out 0).trans rfl; have c1 := (af K3.out 1).trans rfl; have c2 := (af K3.out 2).trans rfl; have c3 := (af K3.out 3).trans rfl; have c4 := (af K3.out 4).trans rfl; have c5 := (af K3.out 5).trans rfl; have c6 := (af K3.out 6).trans rfl)))
 clear cn
 clear c0 c1 c2 c3 c4 c5 c6
 refine (HN.out _).mono ?_
 rintro e wk ⟨rfl, hb⟩
 have iq := ae.mk (aY K3.out hb)
 clear K3
 have K3 := iq
 clear iq
 have eY := ae.mk (HI.out.step hb); have fA := ae.mk (HK.out.trans (Kp.below hb)); clear HI HK; have HI := eY; have HK := fA; clear eY fA
 clear hb
 have c0 := (af K3.out 0).trans rfl
 have c1 := (af K3.out 1).trans rfl
 have c2 := (af K3.out 2).trans rfl
 have c3 := (af K3.out 3).trans rfl
 have c4 := (af K3.out 4).trans rfl
 have c5 := (af K3.out 5).trans rfl
 have c6 := (af K3.out 6).trans rfl
 go_wp2_with (((with_reducible refine aC (N := 17) rfl ?_); (try (refine fQ (by rfl) ?_; dsimp only)); refine Kd.o8 k23 _ 23 ?hg (N := 17) ?hd (xs := ([x.f1] : List dE)) (inner := [.int .i64 x.f1.f0, .int .i64 x.f1.f1, .int .i64 x.f1.f2, .int .i64 x.f1.f3]) (ok := fun _ => True) (fH := fun _ => True) ?hr ?hp (fun _ hk => hk) trivial (Below.refl _ _) (Nat.le_refl _) (by simp) ?_; (case hd => rfl); (case hg => rfl); (case hr => (go_simp; done)); (case hp => exact (bD.c4 (show Kd.M k23 _ _ _ x.f1 [.int .i64 x.f1.f0, .int .i64 x.f1.f1, .int .i64 x.f1.f2, .int .i64 x.f1.f3] from pX _ _ _ x.f1) (bD.none _ _))); intro vr wr ho hb kF gQ; clear kF gQ; obtain ⟨Ar, cr, er⟩ := Kd.fG ho; subst er; have iq := ae.mk (aY K3.out hb); clear K3; have K3 := iq; clear iq; have eY := ae.mk (HI.out.step hb); have fA := ae.mk (HK.out.trans (Kp.below hb)); clear HI HK; have HI := eY; have HK := fA; clear eY fA; have HR := ae.mk (Kd.bQ ho).2.2; have LR := ae.mk (Kd.bQ ho).2.1; clear ho hb))
 clear c0 c1 c2 c3 c4 c5 c6
 refine (kR.calls Ar cr [x.f1] true _ HR.out LR.out M1.out).mono ?_
 rintro e wk ⟨rfl, hb⟩
 have iq := ae.mk (aY K3.out hb)
 clear K3
 have K3 := iq
 clear iq
 have eY := ae.mk (HI.out.step hb); have fA := ae.mk (HK.out.trans (Kp.below hb)); clear HI HK; have HI := eY; have HK := fA; clear eY fA
 clear hb
 have c0 := (af K3.out 0).trans rfl
 have c1 := (af K3.out 1).trans rfl
 have c2 := (af K3.out 2).trans rfl
 have c3 := (af K3.out 3).trans rfl
 have c4 := (af K3.out 4).trans rfl
 have c5 := (af K3.out 5).trans rfl
 have c6 := (af K3.out 6).trans rfl
 have cm := (af HI.out.hm 0).trans rfl
 go_wp2_with (first | ((with_reducible refine aC (N := 29) rfl ?_); (try (refine fQ (by rfl) ?_; dsimp only)); refine Dp _ rfl _ _ 161 rfl 3 4 (Maps.int_keyed Try.underlying3) Try.underlying161 Try.underlying4 (V8 _) B _ _ rfl HI.out.map _ (.int .i64 x.f2) rfl (Maps.keyOf_int_mk Try.underlying3 WF.out) false LK.out ?_) | (at_mapUpdate; refine wpList_mapUpdate_own _ rfl _ _ _ 161 rfl 3 4 (Maps.int_keyed Try.underlying3) Try.underlying161 _ B _ _ rfl HI.out.map yh.out _ _ (.int .i64 x.f2) rfl rfl (Maps.keyOf_int_mk Try.underlying3 WF.out) (.lit (.bool true)) [] (plainElem_bool Try.underlying4 true) ?_; intro wu hown1 hgrow1; have eY := ae.mk (HI.out.met hown1 hgrow1 NM.out I0.out I1.out); have fA := ae.mk (HK.out.trans (Kp.grown hgrow1 (Or.inr rfl))); clear HI HK hown1 hgrow1; have HI := eY; have HK := fA; clear eY fA))
 go_ret
 exact ⟨rfl, HI.out, HK.out⟩
theorem abQ (w0 : World) (bn bm B : Nat) (s : Int × List Int) (W : World) (x : ai) (A : Option Addr) (cb : Nat) (hI : kY w0 bn bm B s W) :
  Calls Try.prog 176 (#[.agg #[.int .u8 x.f0, .int .i64 x.f1.f0, .int .i64 x.f1.f1, .int .i64 x.f1.f2, .int .i64 x.f1.f3, .int .i64 x.f2, .slice A x.f3.length cb]] ++ #[.pointer (some ⟨bn, 0, none⟩), .pointer (some ⟨bm, 0, none⟩)]) W fun e w' => e = .returned (.bool (je s x).1) ∧ kY w0 bn bm B (je s x).2 w' ∧ Kp (tN bn B) W w' := by
 by_cases h1 : 20000 < wrap64 (s.1 + 1)
 ·exact adP w0 bn bm B s W x A cb hI h1
 ·cases h2 : uq x with
  | false => exact adQ w0 bn bm B s W x A cb hI h1 h2
  | true =>
   cases h3 : mY x.f1 with
   | false => exact adR w0 bn bm B s W x A cb hI h1 h2 h3
   | true =>
    by_cases h4 : x.f0 = 1
    ·have h8 := h2
     unfold uq at h8
     rw [if_pos h4] at h8
     simp only [Bool.and_eq_true, decide_eq_true_eq] at h8
     by_cases h7 : x.f2 ∈ s.2
     ·exact adT w0 bn bm B s W x A cb hI h1 h2 h3 h4 h8.2.1 h8.2.2 h7
     ·exact adU w0 bn bm B s W x A cb hI h1 h2 h3 h4 h8.2.1 h8.2.2 h7
    ·exact adS w0 bn bm B s W x A cb hI h1 h2 h3 h4
section
variable {P : Program} {ops : Array Oper} {rest : List Oper} {o : Oper} {a : Act} {Q : Exit → Act → World → Prop}
theorem Q5 {W : World} (hgd : o.guard = none) {N : Tmp} (_hd : o.dst = some N) (t k e : TypeId) (ho : o.op = .makeMap t none)
  (h : ∀ g, g = W.heap.size → ∀ w1, Below W.heap.size W w1 → w1.ownsMap (H := Unit) P k (plainElem P e) g 0 (.map []) → wpList P ops Q rest (a.put o.dst (.map (some g))) w1) : wpList P ops Q (o :: rest) a W := by
 refine Kd.A_ hgd (w1 := W.alloc (.map #[] 0)) (v := .map (some W.heap.size)) ?_ (h _ rfl _ (gq (Below.refl _ _) _) (World.ownsMap_made W P k _))
 unfold execOp
 simp [ho, run_makeMap, Result.andThen]
end
theorem abP (c : ai) (A : Option Addr) (cc : Nat) (W : World) (hz : sz c ≤ 1048576) (hr : Kd.C k26 W A c.f3.length c.f3) (hc : c.f3.length ≤ cc) : Calls Try.prog 144 #[.agg #[.int .u8 c.f0, .int .i64 c.f1.f0, .int .i64 c.f1.f1, .int .i64 c.f1.f2, .int .i64 c.f1.f3, .int .i64 c.f2, .slice A c.f3.length cc]] W fun e w' => e = .returned (.bool (lq c)) ∧ Below W.heap.size W w' := by
 have SC := ae.mk fun (bn bm B : Nat) (W1 : World) (hI : kY W bn bm B (0, []) W1) => ZX (tN bn B) (kY W bn bm B) je 176 #[.pointer (some ⟨bn, 0, none⟩), .pointer (some ⟨bm, 0, none⟩)] (qK Try.func176 (by decide +kernel) (by kernel_rfl)) W (fun s w h => h.below) (fun s w w' h hb => h.step hb)
  (fun s w h k hk => hk.elim (fun e => e ▸ iy h.hn) (fun e => e ▸ h.map.lt)) (fun s w x B' cb h _ _ => abQ W bn bm B s w x B' cb h) (sz c) c (Nat.le_refl _) A cc hr hc (0, []) W1 hI
 rw [S9 c hz] at SC
 have HB := ae.mk (Below.refl W.heap.size W)
 clear hr hc hz
 generalize lq c = r at SC ⊢
 go_enter Try.func144, Try.ntmps144
 go_wp2_with (first | ((with_reducible refine aC (N := 1) rfl ?_); refine aW ?hg (N := 1) ?hd (cs := #[.int .u8 c.f0, .int .i64 c.f1.f0, .int .i64 c.f1.f1, .int .i64 c.f1.f2, .int .i64 c.f1.f3, .int .i64 c.f2, .slice A c.f3.length cc]) (t := 26) ?hr ?_; (case hd => rfl); (case hg => rfl); (case hr => (go_simp; done)); intro b1 hg V4 hbox hb; have dY := ae.mk hbox; have df := ae.mk (ak HB.out hb); clear HB; have HB := df; clear df; clear hb hbox hg) | ((with_reducible refine aC (N := 5) rfl ?_); refine Q5 rfl (N := 5) rfl 161 3 4 rfl ?_; intro B hg wB hb hM; have GB := ae.mk (show W.heap.size ≤ B by rw [hg]; exact HB.out.size); have HM := ae.mk hM; have df := ae.mk (ak HB.out hb); have gI := ae.mk (aY dY.out hb); clear HB dY; have HB := df; have dY := gI; clear df gI; clear hb hM hg) | ((with_reducible refine aC (N := 3) rfl ?_); refine aW ?hg (N := 3) ?hd (cs := #[.map none]) (t := 161) ?hr ?_; (case hd => rfl); (case hg => rfl); (case hr => (go_simp; done)); intro bm hg wbm hbox hb; have yZ := ae.mk hbox; have Gbm := ae.mk (show W.heap.size ≤ bm by rw [hg]; exact HB.out.size); have df := ae.mk (ak HB.out hb); have gI := ae.mk (aY dY.out hb); have xW := ae.mk (HM.out.kept (below_grown hb) (by simp)); clear HB dY HM; have HB := df; have dY := gI; have HM := xW; clear df gI xW; clear hb hbox hg) | ((with_reducible refine nK (.store 161 (.tmp 3) (.tmp 5)) rfl ?_); go_loud (refine jg (w0 := W) rfl rfl 161 (.tmp 3) (.tmp 5) rfl (g := bm) (j := 0) (base := W.heap.size) #[.map (some B)] (u := .map (some B)) (bI := [.map (some B)]) ?sA ?sX rfl ?sT ?s1 yZ.out ?sJ rfl HB.out HB.out.size Gbm.out ?_; (case sA => rfl); (case sX => rfl); (case sT => rfl); (case s1 => (simp [Value.oneCell'])); (case sJ => (simp)); intro ajO hbk hbb hgg; have NB : ae (B ≠ bm) := ⟨fun e => by have hq := yZ.out; obtain ⟨es, cl, hB, _⟩ := HM.out; rw [← e, hB] at hq; cases hq⟩; have gI := ae.mk (dM dY.out hgg (fun e_ => rJ dY.out yZ.out (by decide) (Option.some.inj e_))); have xW := ae.mk (HM.out.kept hgg (fun e_ => NB.out (Option.some.inj e_))); clear dY HM; have dY := gI; have HM := xW; clear gI xW; clear yZ HB; have yZ := ae.mk hbk; have HB := ae.mk hbb; clear hbk hbb hgg)) | ((with_reducible refine aC (N := 4) rfl ?_); refine aW ?hg (N := 4) ?hd (cs := #[.int .i64 0]) (t := 3) ?hr ?_; (case hd => rfl); (case hg => rfl); (case hr => (go_simp; done)); intro bn hg wbn hbox hb; have IZ := ae.mk hbox; have Gbn := ae.mk (show W.heap.size ≤ bn by rw [hg]; exact HB.out.size); have df := ae.mk (ak HB.out hb); have gI := ae.mk (aY dY.out hb); have ES := ae.mk (aY yZ.out hb); have xW := ae.mk (HM.out.kept (below_grown hb) (by simp)); clear HB dY yZ HM; have HB := df; have dY := gI; have yZ := ES; have HM := xW; clear df gI ES xW; clear hb hbox hg) | ((with_reducible refine nK (.store 3 (.tmp 4) (.const (.int .i64 0))) rfl ?_); go_loud (refine jg (w0 := W) rfl rfl 3 (.tmp 4) (.const (.int .i64 0)) rfl (g := bn) (j := 0) (base := W.heap.size) #[.int .i64 0] (u := .int .i64 0) (bI := [.int .i64 0]) ?sA ?sX rfl ?sT ?s1 IZ.out ?sJ rfl HB.out HB.out.size Gbn.out ?_; (case sA => rfl); (case sX => rfl); (case sT => rfl); (case s1 => (simp [Value.oneCell'])); (case sJ => (decide)); intro ajP hbk hbb hgg; have NN : ae (B ≠ bn) := ⟨fun e => by have hq := IZ.out; obtain ⟨es, cl, hB, _⟩ := HM.out; rw [← e, hB] at hq; cases hq⟩; have gI := ae.mk (dM dY.out hgg (fun e_ => rJ dY.out IZ.out (by decide) (Option.some.inj e_))); have ES := ae.mk (dM yZ.out hgg (fun e_ => rJ yZ.out IZ.out (by decide) (Option.some.inj e_))); have xW := ae.mk (HM.out.kept hgg (fun e_ => NN.out (Option.some.inj e_))); clear dY yZ HM; have dY := gI; have yZ := ES; have HM := xW; clear gI ES xW; clear IZ HB; have IZ := ae.mk hbk; have HB := ae.mk hbb; clear hbk hbb hgg; have c0 := (af dY.out 0).trans rfl; have c1 := (af dY.out 1).trans rfl; have c2 := (af dY.out 2).trans rfl; have c3 := (af dY.out 3).trans rfl; have c4 := (af dY.out 4).trans rfl; have c5 := (af dY.out 5).trans rfl; have c6 := (af dY.out 6).trans rfl)))
 clear c0 c1 c2 c3 c4 c5 c6
 refine (SC.out bn bm B _ ⟨IZ.out, yZ.out, HM.out, HB.out, Gbn.out, GB.out, List.nodup_nil, fun i hi => absurd hi (by simp)⟩).mono ?_
 rintro e w' ⟨rfl, hi, _⟩
 have HI := ae.mk hi.below
 clear hi
 go_wp2
 go_ret
 exact ⟨rfl, HI.out⟩
theorem abO (c : ai) (A : Option Addr) (cc : Nat) (W : World) (hz : sz c ≤ 1048576) (hr : Kd.C k26 W A c.f3.length c.f3) (hc : c.f3.length ≤ cc) : Calls Try.prog 143 #[.agg #[.int .u8 c.f0, .int .i64 c.f1.f0, .int .i64 c.f1.f1, .int .i64 c.f1.f2, .int .i64 c.f1.f3, .int .i64 c.f2, .slice A c.f3.length cc]] W fun e w' => e = .returned (.bool (!lq c)) ∧ Below W.heap.size W w' := by
 have H := ae.mk fun (W1 : World) (hb : Below W.heap.size W W1) => abP c A cc W1 hz (Kd.jH hr hb) hc
 clear hr hc hz
 cases hm : lq c
 all_goals
  rw [hm] at H
  clear hm
  go_enter Try.func143, Try.ntmps143
  go_wp2_with (((with_reducible refine aC (N := 1) rfl ?_); refine aW ?hg (N := 1) ?hd (cs := #[.int .u8 c.f0, .int .i64 c.f1.f0, .int .i64 c.f1.f1, .int .i64 c.f1.f2, .int .i64 c.f1.f3, .int .i64 c.f2, .slice A c.f3.length cc]) (t := 26) ?hr ?_; (case hd => rfl); (case hg => rfl); (case hr => (go_simp; done)); intro b1 hg w1 hbox hb; have HB := ae.mk hb; have K1 := ae.mk hbox; clear hb hbox hg; have c0 := (af K1.out 0).trans rfl; have c1 := (af K1.out 1).trans rfl; have c2 := (af K1.out 2).trans rfl; have c3 := (af K1.out 3).trans rfl; have c4 := (af K1.out 4).trans rfl; have c5 := (af K1.out 5).trans rfl; have c6 := (af K1.out 6).trans rfl))
  clear c0 c1 c2 c3 c4 c5 c6
  refine (H.out _ HB.out).mono ?_
  rintro e w' ⟨rfl, hb⟩
  have HB2 := ae.mk (ak HB.out hb)
  clear hb
  go_wp2
  go_ret
  exact ⟨rfl, HB2.out⟩
def qI.f (l0 : List ai) : Option Bool := if l0.all (fun c => decide (sz c ≤ 1048576)) = true then some (l0.all lq) else none
theorem qI.calls (A0 : Option Addr) (c0 : Nat) (l0 : List ai) (r : Bool) (w : World) (hr0 : Kd.C k26 w A0 l0.length l0) (hc0 : l0.length ≤ c0) (h : qI.f l0 = some r) :
  Calls Try.prog 76 #[.slice A0 l0.length c0] w fun e w' => e = .returned (.bool r) ∧ Below w.heap.size w w' := by
 unfold qI.f at h
 split at h
 ·rename_i hz
  injection h with h
  have hcon := PW (fun (_ : Unit) W => Below w.heap.size w W) (fun _ x => (!lq x, ())) 143 #[] (qK Try.func143 (by decide +kernel) (by kernel_rfl)) l0 A0 c0 w hr0 (fun _ W hW => hW) (fun _ W n hW => dP hW n)
   (fun _ W x B cb hx hW hC hl => by
    rw [show (#[Value.agg #[.int .u8 x.f0, .int .i64 x.f1.f0, .int .i64 x.f1.f1, .int .i64 x.f1.f2, .int .i64 x.f1.f3, .int .i64 x.f2, .slice B x.f3.length cb]] ++ #[] : Array Value) = #[.agg #[.int .u8 x.f0, .int .i64 x.f1.f0, .int .i64 x.f1.f1, .int .i64 x.f1.f2, .int .i64 x.f1.f3, .int .i64 x.f2, .slice B x.f3.length cb]] by simp]
    exact (abO x B cb W (of_decide_eq_true (List.all_eq_true.1 hz x hx)) (Kd.jH hC hW) hl).mono fun e w' ⟨he, hb⟩ => ⟨he, uf hW hW.size hb⟩) () w (Below.refl _ _) hr0.2.1
  rw [H5] at hcon
  have hnone := MN l0 A0 c0 143 #[] _ _ w hcon (fun W n hW => dP hW n)
  have e1 : r = !(l0.any fun x => !lq x) := by
   rw [← h]
   clear h hcon hr0 hc0 hz hnone
   induction l0 with
   | nil => rfl
   | cons x xs ih => simp only [List.all_cons, List.any_cons, ih, Bool.not_or, Bool.not_not]
  subst e1
  generalize (l0.any fun x => !lq x) = b at hnone
  have HC := ae.mk hnone
  clear hcon h hr0 hnone hz
  go_enter Try.func76, Try.ntmps76
  go_wp2_with fail
  refine HC.out.mono ?_
  rintro e w' ⟨rfl, hb⟩
  have HB := ae.mk hb
  clear hb
  go_wp2
  go_ret
  exact ⟨rfl, HB.out⟩
 ·exact absurd h (by simp)
end Go.Proofs.Ytfdmfgaiblfbhaa.P
