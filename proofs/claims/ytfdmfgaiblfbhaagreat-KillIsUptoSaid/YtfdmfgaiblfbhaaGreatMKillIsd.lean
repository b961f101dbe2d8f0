/- KillIs: part 4 of 7 of this claim's texts, one behind the other, made small by a program: the words of the kit's printer cut down to those that are used, the claim's own names made short. -/
import Derived.Test.YtfdmfgaiblfbhaaGreatMKillIsc
import Derived.WalkSpells
import Derived.Maps.OwnOps
import Derived.Maps.Views
set_option maxHeartbeats 8000000
set_option maxRecDepth 100000
set_option linter.unusedVariables false
set_option linter.unusedSimpArgs false
namespace Go.Proofs.YtfdmfgaiblfbhaaGreat.P
open Go.RowKit Go.Proofs.ag.aU Go.Proofs.ag.bK Go.Proofs.ag.cO
def AB.T20 : Bool × List (List Nat × List Nat) := (true, [([], []), ([], []), ([1], [1]), ([], []), ([2, 3], [2, 3]), ([], []), ([5], [5]), ([], []), ([], []), ([7, 8], [7, 8]), ([9], [9]), ([], []), ([11], [11]), ([4, 6, 10, 12], [4, 6, 10, 12]), ([13], [13]), ([0, 14], [0, 14]), ([15, 15, 0, 1, 2, 3, 4, 5, 6, 7, 8, 9, 10, 11, 12, 13, 14, 15], [0, 15])])
def AB.B20 : List Nat := [0, 0, 2, 0, 14, 0, 32, 0, 0, 384, 896, 0, 2048, 8190, 16382, 32767, 65535]
theorem AB.aly : je .any (opsOf Tryz.f76 20) = AB.T20 := by kernel_rfl
theorem AB.ahb : iM AB.T20.2 AB.B20 = true := by kernel_rfl
def AL.T21 : Bool × List (List Nat × List Nat) := (true, [([], []), ([], []), ([1], [1]), ([], []), ([3], [3]), ([], []), ([4, 5], [4, 5]), ([], []), ([7], [7]), ([], []), ([], []), ([9, 10], [9, 10]), ([11], [11]), ([2, 6, 8, 12], [2, 6, 8, 12]), ([13], [13]), ([0, 14], [0, 14]), ([15, 15, 0, 1, 2, 3, 4, 5, 6, 7, 8, 9, 10, 11, 12, 13, 14, 15], [0, 15])])
def AL.B21 : List Nat := [0, 0, 2, 0, 8, 0, 56, 0, 128, 0, 0, 1536, 3584, 8190, 16382, 32767, 65535]
theorem AL.alz : je .any (opsOf Tryz.f76 21) = AL.T21 := by kernel_rfl
theorem AL.ahc : iM AL.T21.2 AL.B21 = true := by kernel_rfl
theorem piece1 (s t e n : Int) : qo 1 s t e n = ⟨s, t, n, e⟩ := rfl
theorem piece2 (s t e n : Int) : qo 2 s t e n = ⟨t, s, e, n⟩ := rfl
theorem ajb (X Y Wd H ax : Int) (sizes : List Int) (hl : sizes.length ≤ 1000000) (B : Option Addr) (cb : Nat) (w : World) (hi : Kd.C (Kd.int .i64) w B sizes.length sizes) :
  Calls Tryz.prog 76 #[.agg #[.int .i64 X, .int .i64 Y, .int .i64 Wd, .int .i64 H], .int .u8 ax, .slice B sizes.length cb] w (PR w (ui X Y Wd H ax sizes)) := by
 have S := ae.mk (St.start (ts := []) (b0 := w.heap.size) (w := w) (P := fun _ => True) (fun _ h => by cases h))
 have HI := ae.mk hi
 have gZ := ae.mk hl
 clear hi hl
 by_cases hm : qN X Y Wd H = true
 case neg =>
  have HQ := ae.mk (BI (X := X) (Y := Y) (W := Wd) (H := H) (ax := ax) (sizes := sizes) (.inr (.inl (Bool.eq_false_iff.mpr hm))))
  have zK := ae.mk (Bool.eq_false_iff.mpr hm)
  clear hm
  go_enter Tryz.func76, Tryz.ntmps76
  go_wp2_with (first | (refine boxS 3 _ 23 S ?_; clear S; intro b3 eU S) | (refine ik 15 rfl ?_; refine p_ k23 23 rfl 15 S ?_; clear S; intro An cn on fM S PZ; obtain ⟨dm, dn, dA, dB⟩ := St.at4 S bf) | (refine cZ (some 17) Tryz.func75 S (GZ zK.out) ?_; clear S; intro iq S; clear dm dn dA dB))
  go_ret3
  rw [HQ.out]
  exact ⟨_, _, _, _, .cells #[] 0 (0, 0), .cells #[] 0 (0, 0), rfl, (fun h => by cases h), S.out.below⟩
 have zK := ae.mk hm
 by_cases h1 : ax < 1
 case pos =>
  have HQ := ae.mk (BI (X := X) (Y := Y) (W := Wd) (H := H) (ax := ax) (sizes := sizes) (.inl (by omega)))
  obtain ⟨h1a, h1b⟩ := wL (a := ax) (b := 1) (by omega)
  clear hm h1
  go_enter Tryz.func76, Tryz.ntmps76
  go_wp2_with (first | (refine boxS 3 _ 23 S ?_; clear S; intro b3 eU S) | (refine ik 15 rfl ?_; refine p_ k23 23 rfl 15 S ?_; clear S; intro An cn on fM S PZ; obtain ⟨dm, dn, dA, dB⟩ := St.at4 S bf) | (refine cZ (some 17) Tryz.func75 S (GZ zK.out) ?_; clear S; intro iq S; clear dm dn dA dB))
  go_ret3
  rw [HQ.out]
  exact ⟨_, _, _, _, .cells #[] 0 (0, 0), .cells #[] 0 (0, 0), rfl, (fun h => by cases h), S.out.below⟩
 obtain ⟨h1a, h1b⟩ := vF (a := ax) (b := 1) (by omega)
 by_cases h2 : 2 < ax
 case pos =>
  have HQ := ae.mk (BI (X := X) (Y := Y) (W := Wd) (H := H) (ax := ax) (sizes := sizes) (.inl (by omega)))
  obtain ⟨h2a, h2b⟩ := wL (a := 2) (b := ax) (by omega)
  clear hm h1 h2
  go_enter Tryz.func76, Tryz.ntmps76
  go_wp2_with (first | (refine boxS 3 _ 23 S ?_; clear S; intro b3 eU S) | (refine ik 15 rfl ?_; refine p_ k23 23 rfl 15 S ?_; clear S; intro An cn on fM S PZ; obtain ⟨dm, dn, dA, dB⟩ := St.at4 S bf) | (refine cZ (some 17) Tryz.func75 S (GZ zK.out) ?_; clear S; intro iq S; clear dm dn dA dB))
  go_ret3
  rw [HQ.out]
  exact ⟨_, _, _, _, .cells #[] 0 (0, 0), .cells #[] 0 (0, 0), rfl, (fun h => by cases h), S.out.below⟩
 obtain ⟨h2a, h2b⟩ := vF (a := 2) (b := ax) (by omega)
 by_cases h0 : sizes.length = 0
 case pos =>
  have HQ := ae.mk (BI (X := X) (Y := Y) (W := Wd) (H := H) (ax := ax) (sizes := sizes) (.inr (.inr h0)))
  obtain ⟨OJ, KH, XR⟩ := yB (a := (sizes.length : Int)) (b := 0) (by omega)
  have XT : (sizes.length == 0) = true := beq_iff_eq.mpr (by omega)
  have XU : decide (sizes.length = 0) = true := decide_eq_true (by omega)
  clear hm h1 h2 h0
  go_enter Tryz.func76, Tryz.ntmps76
  go_wp2_with (first | (refine boxS 3 _ 23 S ?_; clear S; intro b3 eU S) | (refine ik 15 rfl ?_; refine p_ k23 23 rfl 15 S ?_; clear S; intro An cn on fM S PZ; obtain ⟨dm, dn, dA, dB⟩ := St.at4 S bf) | (refine cZ (some 17) Tryz.func75 S (GZ zK.out) ?_; clear S; intro iq S; clear dm dn dA dB))
  go_ret3
  rw [HQ.out]
  exact ⟨_, _, _, _, .cells #[] 0 (0, 0), .cells #[] 0 (0, 0), rfl, (fun h => by cases h), S.out.below⟩
 have hax : ax = 1 ∨ ax = 2 := by omega
 have D5 := ae.mk hax
 obtain ⟨S0, hS0⟩ : ∃ s, s = tX ax X Y := ⟨_, rfl⟩
 obtain ⟨T0, hT0⟩ : ∃ s, s = tX ax Y X := ⟨_, rfl⟩
 obtain ⟨D, hD⟩ : ∃ s, s = tX ax Wd H := ⟨_, rfl⟩
 obtain ⟨E, hE⟩ : ∃ s, s = tX ax H Wd := ⟨_, rfl⟩
 have HS1 := ae.mk (show ax = 1 → S0 = X ∧ T0 = Y ∧ D = Wd ∧ E = H from fun h => by subst h; exact ⟨hS0, hT0, hD, hE⟩)
 have HS2 := ae.mk (show ax = 2 → S0 = Y ∧ T0 = X ∧ D = H ∧ E = Wd from fun h => by subst h; exact ⟨hS0, hT0, hD, hE⟩)
 have hq := XK hax hm h0
 rw [← hS0, ← hT0, ← hD, ← hE] at hq
 have hb := Zw hax hm
 rw [← hS0, ← hD] at hb
 have HB := ae.mk hb
 rw [hq]
 obtain ⟨OJ, KH, XR⟩ := eqF (a := (sizes.length : Int)) (b := 0) (by omega)
 have XT : (sizes.length == 0) = false := beq_eq_false_iff_ne.mpr (by omega)
 have XU : decide (sizes.length = 0) = false := decide_eq_false (by omega)
 obtain ⟨R, hR⟩ : ∃ R, R = qj ax S0 T0 D E 0 true [] [] sizes := ⟨_, rfl⟩
 rw [← hR]
 have HR := ae.mk hR
 clear hq hb hm h0 h1 h2 hax hS0 hT0 hD hE hR
 go_enter Tryz.func76, Tryz.ntmps76
 go_upto_if 37 with (first | (refine boxS 3 _ 23 S ?_; clear S; intro b3 eU S) | (refine ik 15 rfl ?_; refine p_ k23 23 rfl 15 S ?_; clear S; intro An cn on fM S PZ; obtain ⟨dm, dn, dA, dB⟩ := St.at4 S bf) | (refine cZ (some 17) Tryz.func75 S (GZ zK.out) ?_; clear S; intro iq S; clear dm dn dA dB; have dA := (S.out.at bf 2).trans rfl))
 clear dA
 (skip)
 go_cut [10] (fun v10 wc => v10 = .int .i64 D ∧ ae (St w (fun _ => True) [((Value.slice An 0 cn).ownBlock, on), (some b3, .cells #[.int .i64 X, .int .i64 Y, .int .i64 Wd, .int .i64 H] 23 (0, 0))] [] [] [] wc))
 case first =>
  by_cases hx : ax = 2
  case pos =>
   have hd := (HS2.out hx).2.2.1
   obtain ⟨hxa, hxb, hxd⟩ := yB (a := ax) (b := 2) (by omega)
   have HDD := ae.mk hd
   clear hx hd
   have dB := (S.out.at bf 3).trans rfl
   go_wp2
   clear dB
   go_meet
   case rel => exact ⟨by rw [HDD.out], S⟩
  case neg =>
   have hd := (HS1.out (by have := D5.out; omega)).2.2.1
   obtain ⟨hxa, hxb, hxd⟩ := eqF (a := ax) (b := 2) (by omega)
   have HDD := ae.mk hd
   clear hx hd
   go_wp2
   go_meet
   case rel => exact ⟨by rw [HDD.out], S⟩
 case rest =>
  clear S
  obtain ⟨rfl, S⟩ := hcut
  rename World => wx
  go_wp2_with (first | (refine ik 40 rfl ?_; refine p_ k23 23 rfl 40 S ?_; clear S; intro Ap cp op eU S jI) | (refine ik 41 rfl ?_; refine p_ k23 23 rfl 41 S ?_; clear S; intro Aq cq oq fM S qc))
  clear OJ KH XR XT XU h1a h1b h2a h2b
  go_loopg [11, 12, 13, 44] sizes.length (fun gg v11 v12 v13 v44 wr => ∃ (pre rest : List Int) (off : Int) (ps ls : List dW) (Ap : Option Addr) (cp : Nat) (op : Obj) (Aq : Option Addr) (cq : Nat) (oq : Obj), v11 = .slice Ap ps.length cp ∧ v12 = .slice Aq ls.length cq ∧ v13 = .int .i64 off ∧ v44 = .int .i64 (pre.length : Int) ∧ ae (pre ++ rest = sizes) ∧ rest.length ≤ gg ∧ ae (0 ≤ off ∧ off ≤ D ∧ ps.length ≤ pre.length ∧ ls.length ≤ pre.length) ∧ ae (qj ax S0 T0 D E off (pre.length == 0) ps ls rest = R) ∧ ae (KR k23 23 w.heap.size (.slice Ap ps.length cp) ps op) ∧ ae (KR k23 23 w.heap.size (.slice Aq ls.length cq) ls oq) ∧ ae (St w (fun _ => True) [((Value.slice Ap ps.length cp).ownBlock, op), ((Value.slice Aq ls.length cq).ownBlock, oq), ((Value.slice An 0 cn).ownBlock, on), (some b3, .cells #[.int .i64 X, .int .i64 Y, .int .i64 Wd, .int .i64 H] 23 (0, 0))] [] [] [] wr))
  case atStart => exact ⟨[], sizes, 0, [], [], _, _, _, _, _, _, rfl, rfl, rfl, rfl, ⟨rfl⟩, Nat.le_refl _, ⟨by have := HB.out; simp; omega⟩, ⟨HR.out.symm⟩, jI, qc, ⟨S.out.uN.uN.OI.uN⟩⟩
  case round =>
   clear S HR jI qc
   obtain ⟨pre, rest, off, ps, ls, Ap, cp, op, Aq, cq, oq, rfl, rfl, rfl, rfl, HE, hgg, HO, HG, jI, qc, S⟩ := hrel
   cases rest with
   | nil =>
    have hE := HE.out
    rw [List.append_nil] at hE
    subst hE
    clear HE hgg
    have hlt : ¬ ((pre.length : Int) < (pre.length : Int)) := by omega
    have Xf := ae.mk (Rk HG.out)
    by_cases hod : off = D
    case pos =>
     obtain ⟨hza, hzb, hzd⟩ := yB (a := off) (b := D) (by omega)
     have P7 := ae.mk hod
     clear hod
     go_wp2
     go_ret3
     rw [Xf.out, if_pos P7.out]
     exact ⟨Ap, cp, Aq, cq, op, oq, rfl, fun _ => S.out.Y4 jI.out qc.out, S.out.below⟩
    case neg =>
     obtain ⟨hza, hzb, hzd⟩ := eqF (a := off) (b := D) (by omega)
     have P7 := ae.mk hod
     clear hod
     go_wp2
     have HQ := ae.mk (Xf.out.trans (if_neg P7.out))
     go_ret3
     rw [HQ.out]
     exact ⟨_, _, _, _, .cells #[] 0 (0, 0), .cells #[] 0 (0, 0), rfl, (fun h => by cases h), S.out.below⟩
   | cons n ns =>
    have hlt : (pre.length : Int) < (sizes.length : Int) := by rw [← HE.out, List.length_append, List.length_cons]; omega
    have hw1 : wrap64 ((pre.length : Int) + 1) = ((pre ++ [n]).length : Int) := by have := gZ.out; rw [List.length_append, List.length_singleton]; unfold wrap64; omega
    have HW1 := ae.mk hw1
    have jl := ae.mk hgg
    have Ub := ae.mk hlt
    have CZ := ae.mk (show ps.length ≤ 1000000 ∧ ls.length ≤ 1000000 by have := HO.out; have := gZ.out; omega)
    clear hgg hw1
    go_upto_if 48 with fail
    (skip)
    go_cut [12, 13] (fun v12 v13 wc => ∃ (o' : Int) (ls' : List dW) (Aq : Option Addr) (cq : Nat) (oq : Obj), v12 = .slice Aq ls'.length cq ∧ v13 = .int .i64 o' ∧ ae (0 ≤ o' ∧ o' ≤ D + 1 ∧ ls'.length ≤ pre.length + 1) ∧ ae (DN ax S0 T0 D E o' ps ls' n ns = R) ∧ ae (KR k23 23 w.heap.size (.slice Aq ls'.length cq) ls' oq) ∧ ae (St w (fun _ => True) [((Value.slice Ap ps.length cp).ownBlock, op), ((Value.slice Aq ls'.length cq).ownBlock, oq), ((Value.slice An 0 cn).ownBlock, on), (some b3, .cells #[.int .i64 X, .int .i64 Y, .int .i64 Wd, .int .i64 H] 23 (0, 0))] [] [] [] wc))
    case first =>
     by_cases hp2 : pre.length = 0
     case pos =>
      have hp : (pre.length == 0) = true := beq_iff_eq.mpr hp2
      obtain ⟨hpa, hpb⟩ := vF (a := 0) (b := (pre.length : Int)) (by omega)
      have hpc : decide (0 < pre.length) = false := decide_eq_false (by omega)
      have hpe : ¬ (0 < pre.length) := by omega
      have HG2 := ae.mk (show DN ax S0 T0 D E off ps ls n ns = R by have h := HG.out; rw [hp] at h; exact h)
      clear hp hp2
      go_wp2
      go_meet
      case rel => exact ⟨off, ls, _, _, _, rfl, rfl, ⟨by have := HO.out; omega⟩, HG2, qc, S⟩
     case neg =>
      have hp : (pre.length == 0) = false := beq_eq_false_iff_ne.mpr hp2
      obtain ⟨hpa, hpb⟩ := wL (a := 0) (b := (pre.length : Int)) (by omega)
      have hpc : decide (0 < pre.length) = true := decide_eq_true (by omega)
      have hpe : 0 < pre.length := by omega
      have Xe := ae.mk (show DN ax S0 T0 D E (off + 1) ps (ls ++ [qo ax (S0 + off) T0 E 1]) n ns = R by have h := HG.out; rw [hp] at h; exact h)
      have OA := ae.mk (show wrap64 (off + 1) = off + 1 by have := HO.out; have := HB.out; unfold wrap64; omega)
      clear hp hp2
      by_cases hx : ax = 1
      case pos =>
       have HX := ae.mk hx
       obtain ⟨hxa, hxb, hxd⟩ := yB (a := ax) (b := 1) (by omega)
       clear hx
       have P9 := ae.mk (show qo ax (S0 + off) T0 E 1 = (⟨wrap64 (X + off), Y, 1, H⟩ : dW) by have hb := HB.out; have ho := HO.out; have hs := HS1.out HX.out; rw [HX.out, piece1, hs.1, hs.2.1, hs.2.2.2, show wrap64 (X + off) = X + off by rw [hs.1] at hb; unfold wrap64; omega])
       have HG2 := ae.mk (show DN ax S0 T0 D E (off + 1) ps (ls ++ [(⟨wrap64 (X + off), Y, 1, H⟩ : dW)]) n ns = R by rw [← P9.out]; exact Xe.out)
       have dm := (S.out.at jy 0).trans rfl
       have dn := (S.out.at jy 1).trans rfl
       have dB := (S.out.at jy 3).trans rfl
       go_wp2_with ((refine ik 62 rfl ?_; at_builtin; replace S := ae.mk S.out.wK; refine xO k23 23 rfl 51 61 67 _ 32 Tryz.underlying67 info23 rfl (by decide) (by decide) (by decide) S qc ⟨wrap64 (X + off), Y, 1, H⟩ [.int .i64 (wrap64 (X + off)), .int .i64 Y, .int .i64 1, .int .i64 H] (fun _ _ _ => uB _ _ _ _) (by have := CZ.out; omega) ?_; clear S qc; intro Aq2 cq2 oq2 eU S qc; clear dm dn dB))
       go_meet
       case rel => exact ⟨off + 1, _, _, _, _, (by rw [List.length_append]; rfl), (by rw [OA.out]), ⟨by have := HO.out; rw [List.length_append, List.length_singleton]; omega⟩, HG2, qc, ⟨S.out.uN.uN.OI.uN⟩⟩
      case neg =>
       have HX := ae.mk (show ax = 2 by have := D5.out; omega)
       obtain ⟨hxa, hxb, hxd⟩ := eqF (a := ax) (b := 1) (by omega)
       clear hx
       have P9 := ae.mk (show qo ax (S0 + off) T0 E 1 = (⟨X, wrap64 (Y + off), Wd, 1⟩ : dW) by have hb := HB.out; have ho := HO.out; have hs := HS2.out HX.out; rw [HX.out, piece2, hs.1, hs.2.1, hs.2.2.2, show wrap64 (Y + off) = Y + off by rw [hs.1] at hb; unfold wrap64; omega])
       have HG2 := ae.mk (show DN ax S0 T0 D E (off + 1) ps (ls ++ [(⟨X, wrap64 (Y + off), Wd, 1⟩ : dW)]) n ns = R by rw [← P9.out]; exact Xe.out)
       have dm := (S.out.at jy 0).trans rfl
       have dn := (S.out.at jy 1).trans rfl
       have dA := (S.out.at jy 2).trans rfl
       go_wp2_with ((refine ik 74 rfl ?_; at_builtin; replace S := ae.mk S.out.wK; refine xO k23 23 rfl 63 73 67 _ 32 Tryz.underlying67 info23 rfl (by decide) (by decide) (by decide) S qc ⟨X, wrap64 (Y + off), Wd, 1⟩ [.int .i64 X, .int .i64 (wrap64 (Y + off)), .int .i64 Wd, .int .i64 1] (fun _ _ _ => uB _ _ _ _) (by have := CZ.out; omega) ?_; clear S qc; intro Aq2 cq2 oq2 eU S qc; clear dm dn dA))
       go_meet
       case rel => exact ⟨off + 1, _, _, _, _, (by rw [List.length_append]; rfl), (by rw [OA.out]), ⟨by have := HO.out; rw [List.length_append, List.length_singleton]; omega⟩, HG2, qc, ⟨S.out.uN.uN.OI.uN⟩⟩
    case rest =>
     clear S qc HG
     obtain ⟨o', ls', Aq, cq, oq, rfl, rfl, sO, HG, qc, S⟩ := hcut
     rename World => wy
     have CZ := ae.mk (show ps.length ≤ 1000000 ∧ ls'.length ≤ 1000001 by have := HO.out; have := sO.out; have := gZ.out; omega)
     have hlt := Ub.out
     have hrd : rd sizes (pre.length : Int) = n := by rw [← HE.out]; simp [rd, List.getD_eq_getElem?_getD]
     obtain ⟨adB, ek, xi⟩ := Kd.ja (Kd.g_ HI.out S.out.below) (pre.length : Int) (Int.natCast_nonneg _) hlt
     subst ek
     rw [hrd] at xi
     simp only [Int.toNat_natCast] at xi
     have HXI := fun (W : World) (h : Below w.heap.size w W) => (show W.cell? (adB.add pre.length) = some (.int .i64 n) by have h2 := Kd.ja (Kd.g_ HI.out h) (pre.length : Int) (Int.natCast_nonneg _) Ub.out; obtain ⟨ad, e1, e2⟩ := h2; injection e1 with e1; subst e1; simp only [Int.toNat_natCast] at e2; rw [e2, ← HE.out]; simp [rd, List.getD_eq_getElem?_getD])
     have D7 := ae.mk HXI
     clear hrd xi HXI
     by_cases hn : n < 1
     case pos =>
      obtain ⟨hna, hnb⟩ := wL (a := n) (b := 1) (by omega)
      have HQ := ae.mk (HG.out.symm.trans (Ee (.inl hn)))
      have xi := D7.out _ S.out.below
      go_wp2
      clear xi
      go_ret3
      rw [HQ.out]
      exact ⟨_, _, _, _, .cells #[] 0 (0, 0), .cells #[] 0 (0, 0), rfl, (fun h => by cases h), S.out.below⟩
     obtain ⟨hna, hnb⟩ := vF (a := n) (b := 1) (by omega)
     by_cases hd : D < n
     case pos =>
      obtain ⟨hda, hdb⟩ := wL (a := D) (b := n) (by omega)
      have HQ := ae.mk (HG.out.symm.trans (Ee (.inr (by have := sO.out; omega))))
      have xi := D7.out _ S.out.below
      go_wp2
      clear xi
      go_ret3
      rw [HQ.out]
      exact ⟨_, _, _, _, .cells #[] 0 (0, 0), .cells #[] 0 (0, 0), rfl, (fun h => by cases h), S.out.below⟩
     obtain ⟨hda, hdb⟩ := vF (a := D) (b := n) (by omega)
     have hg : wrap64 (o' + n) = o' + n := by have := HB.out; have := sO.out; unfold wrap64; omega
     have HWG := ae.mk hg
     by_cases he : D < o' + n
     case pos =>
      obtain ⟨hea, heb⟩ := wL (a := D) (b := wrap64 (o' + n)) (by omega)
      obtain ⟨hfa, hfb⟩ := wL (a := D) (b := o' + n) (by omega)
      have HQ := ae.mk (HG.out.symm.trans (Ee (.inr he)))
      have xi := D7.out _ S.out.below
      go_wp2
      clear xi
      go_ret3
      rw [HQ.out]
      exact ⟨_, _, _, _, .cells #[] 0 (0, 0), .cells #[] 0 (0, 0), rfl, (fun h => by cases h), S.out.below⟩
     obtain ⟨hea, heb⟩ := vF (a := D) (b := wrap64 (o' + n)) (by omega)
     obtain ⟨hfa, hfb⟩ := vF (a := D) (b := o' + n) (by omega)
     have Xe := ae.mk ((Un (fun h => h.elim hn he)).symm.trans HG.out)
     have HN := ae.mk hn
     have HD2 := ae.mk he
     clear hn hd he hg
     by_cases hx : ax = 1
     case pos =>
      have HX := ae.mk hx
      obtain ⟨hxa, hxb, hxd⟩ := yB (a := ax) (b := 1) (by omega)
      clear hx
      have P9 := ae.mk (show qo ax (S0 + o') T0 E n = (⟨wrap64 (X + o'), Y, n, H⟩ : dW) by have hb := HB.out; have ho := sO.out; have hs := HS1.out HX.out; rw [HX.out, piece1, hs.1, hs.2.1, hs.2.2.2, show wrap64 (X + o') = X + o' by rw [hs.1] at hb; unfold wrap64; omega])
      have HG2 := ae.mk (show qj ax S0 T0 D E (o' + n) false (ps ++ [(⟨wrap64 (X + o'), Y, n, H⟩ : dW)]) ls' ns = R by rw [← P9.out]; exact Xe.out)
      have xi := D7.out _ S.out.below
      go_wp2
      clear xi
      go_wp2
      refine jT (n := 17) (S := fun w' => St w _ _ _ _ _ w') (ds := [15]) (bA 17 0) (by kernel_rfl) rfl rfl (S.out.eP.call (bI (Below.refl _ _))) (fun hHeld => ?_); refine gG AB.aly AB.ahb (fun ak fC => ?_)
      replace S := ae.mk (S.out.call (bI (Below.refl _ _)))
      generalize wy.drew = Ph at S hHeld ⊢
      refine ay 0 104 (bA 17 1) ak ?_
      refine ay 1 105 (bA 17 3) ak ?_
      refine dM 2 106 (bA 17 7) ak fC hHeld ?_ (hv := by intro w' hs_; have dm := (hs_.at gy 0).trans rfl; go_simp; with_reducible rfl)
      refine ay 3 107 (bA 17 15) ak ?_
      refine ay 4 108 (bA 17 31) ak ?_
      refine ay 5 109 (bA 17 63) ak ?_
      refine dM 6 110 (bA 17 127) ak fC hHeld ?_ (hv := by intro w' hs_; have dn := (hs_.at gy 1).trans rfl; go_simp; with_reducible rfl)
      refine ay 7 111 (bA 17 255) ak ?_
      refine ay 8 112 (bA 17 511) ak ?_
      refine ay 9 113 (bA 17 1023) ak ?_
      refine dM 10 114 (bA 17 2047) ak fC hHeld ?_ (hv := by intro w' hs_; have xi := D7.out _ hs_.below; go_simp; with_reducible rfl)
      refine ay 11 115 (bA 17 4095) ak ?_
      refine dM 12 116 (bA 17 8191) ak fC hHeld ?_ (hv := by intro w' hs_; have dB := (hs_.at gy 3).trans rfl; go_simp; with_reducible rfl)
      refine ay 13 117 (bA 17 16383) ak ?_
      refine iH 14 (some 118) (bA 17 32767) ak (fun K hK => ?_)
      refine TJ (w1 := ?_) (v := ?_) (by rfl) rfl ?_ ?_
      rotate_left 2
      ·go_simp
       constructor
       ·rfl
       ·rfl
      refine hK.out _ _ (S.out.eP.call (aY (Below.refl _ _) _)) (fun hHeld => ?_)
      clear hK K
      refine dO 118 ?_
      refine sK 15 (some 119) (bA 17 65535) ak (fun K hK => ?_)
      refine Qv k23 23 rfl 104 118 67 _ 32 Tryz.underlying67 info23 rfl (by decide) (by decide) (by decide) S jI ⟨wrap64 (X + o'), Y, n, H⟩ [.int .i64 (wrap64 (X + o')), .int .i64 Y, .int .i64 n, .int .i64 H] (fun _ _ _ => uB _ _ _ _) (by have := CZ.out; omega) ?_
      clear S jI
      intro PN cp2 SN iq S jI
      refine hK.out _ _ ?_
      clear hK K
      refine dO 119 ?_
      refine ay 16 11 (bA 17 131071) ak ?_
      refine lJ (jc ak.out (by kernel_rfl)) ?_
      clear hHeld
      have xi := D7.out _ S.out.below
      go_wp2
      clear xi
      have hw1 := HW1.out
      go_wp2
      go_roundg ns.length
      case measure => exact Nat.lt_of_lt_of_le (Nat.lt_succ_self _) jl.out
      case rel => exact ⟨pre ++ [n], ns, o' + n, _, ls', _, _, _, _, _, _, (by rw [List.length_append]; rfl), rfl, (by rw [HWG.out]), (by rw [hw1]), ⟨by rw [List.append_assoc]; exact HE.out⟩, Nat.le_refl _, ⟨by have := HO.out; have := sO.out; have := HN.out; have := HD2.out; simp only [List.length_append, List.length_singleton]; omega⟩, ⟨by rw [show ((pre ++ [n]).length == 0) = false by simp]; exact HG2.out⟩, jI, qc, ⟨S.out.uN.uN.uN.uN⟩⟩
     case neg =>
      have HX := ae.mk (show ax = 2 by have := D5.out; omega)
      obtain ⟨hxa, hxb, hxd⟩ := eqF (a := ax) (b := 1) (by omega)
      clear hx
      have P9 := ae.mk (show qo ax (S0 + o') T0 E n = (⟨X, wrap64 (Y + o'), Wd, n⟩ : dW) by have hb := HB.out; have ho := sO.out; have hs := HS2.out HX.out; rw [HX.out, piece2, hs.1, hs.2.1, hs.2.2.2, show wrap64 (Y + o') = Y + o' by rw [hs.1] at hb; unfold wrap64; omega])
      have HG2 := ae.mk (show qj ax S0 T0 D E (o' + n) false (ps ++ [(⟨X, wrap64 (Y + o'), Wd, n⟩ : dW)]) ls' ns = R by rw [← P9.out]; exact Xe.out)
      have xi := D7.out _ S.out.below
      go_wp2
      clear xi
      go_wp2
      refine jT (n := 17) (S := fun w' => St w _ _ _ _ _ w') (ds := [15]) (bA 17 0) (by kernel_rfl) rfl rfl (S.out.eP.call (bI (Below.refl _ _))) (fun hHeld => ?_); refine gG AL.alz AL.ahc (fun ak fC => ?_)
      replace S := ae.mk (S.out.call (bI (Below.refl _ _)))
      generalize wy.drew = Ph at S hHeld ⊢
      refine ay 0 120 (bA 17 1) ak ?_
      refine ay 1 121 (bA 17 3) ak ?_
      refine dM 2 122 (bA 17 7) ak fC hHeld ?_ (hv := by intro w' hs_; have dm := (hs_.at gy 0).trans rfl; go_simp; with_reducible rfl)
      refine ay 3 123 (bA 17 15) ak ?_
      refine dM 4 124 (bA 17 31) ak fC hHeld ?_ (hv := by intro w' hs_; have dn := (hs_.at gy 1).trans rfl; go_simp; with_reducible rfl)
      refine ay 5 125 (bA 17 63) ak ?_
      refine ay 6 126 (bA 17 127) ak ?_
      refine ay 7 127 (bA 17 255) ak ?_
      refine dM 8 128 (bA 17 511) ak fC hHeld ?_ (hv := by intro w' hs_; have dA := (hs_.at gy 2).trans rfl; go_simp; with_reducible rfl)
      refine ay 9 129 (bA 17 1023) ak ?_
      refine ay 10 130 (bA 17 2047) ak ?_
      refine ay 11 131 (bA 17 4095) ak ?_
      refine dM 12 132 (bA 17 8191) ak fC hHeld ?_ (hv := by intro w' hs_; have xi := D7.out _ hs_.below; go_simp; with_reducible rfl)
      refine ay 13 133 (bA 17 16383) ak ?_
      refine iH 14 (some 134) (bA 17 32767) ak (fun K hK => ?_)
      refine TJ (w1 := ?_) (v := ?_) (by rfl) rfl ?_ ?_
      rotate_left 2
      ·go_simp
       constructor
       ·rfl
       ·rfl
      refine hK.out _ _ (S.out.eP.call (aY (Below.refl _ _) _)) (fun hHeld => ?_)
      clear hK K
      refine dO 134 ?_
      refine sK 15 (some 135) (bA 17 65535) ak (fun K hK => ?_)
      refine Qv k23 23 rfl 120 134 67 _ 32 Tryz.underlying67 info23 rfl (by decide) (by decide) (by decide) S jI ⟨X, wrap64 (Y + o'), Wd, n⟩ [.int .i64 X, .int .i64 (wrap64 (Y + o')), .int .i64 Wd, .int .i64 n] (fun _ _ _ => uB _ _ _ _) (by have := CZ.out; omega) ?_
      clear S jI
      intro PN cp2 SN iq S jI
      refine hK.out _ _ ?_
      clear hK K
      refine dO 135 ?_
      refine ay 16 11 (bA 17 131071) ak ?_
      refine lJ (jc ak.out (by kernel_rfl)) ?_
      clear hHeld
      have xi := D7.out _ S.out.below
      go_wp2
      clear xi
      have hw1 := HW1.out
      go_wp2
      go_roundg ns.length
      case measure => exact Nat.lt_of_lt_of_le (Nat.lt_succ_self _) jl.out
      case rel => exact ⟨pre ++ [n], ns, o' + n, _, ls', _, _, _, _, _, _, (by rw [List.length_append]; rfl), rfl, (by rw [HWG.out]), (by rw [hw1]), ⟨by rw [List.append_assoc]; exact HE.out⟩, Nat.le_refl _, ⟨by have := HO.out; have := sO.out; have := HN.out; have := HD2.out; simp only [List.length_append, List.length_singleton]; omega⟩, ⟨by rw [show ((pre ++ [n]).length == 0) = false by simp]; exact HG2.out⟩, jI, qc, ⟨S.out.uN.uN.uN.uN⟩⟩
theorem abH (c : ai) (hl : c.f3.length ≤ 1000000) (b : Nat) (P : Nat → Prop) (A : Option Addr) (cc : Nat) (w : World) (hv : Kd.V k26 26 w b P (.slice A c.f3.length cc) c.f3) :
  Calls Tryz.prog 77 #[.agg #[.int .u8 c.f0, .int .i64 c.f1.f0, .int .i64 c.f1.f1, .int .i64 c.f1.f2, .int .i64 c.f1.f3, .int .i64 c.f2, .slice A c.f3.length cc]] w fun e w' => ∃ A' c', e = .returned (.slice A' (kM c).length c') ∧ (Kd.int .i64).R 3 w' w.heap.size (fun _ => True) (.slice A' (kM c).length c') (kM c) ∧ Below w.heap.size w w' := by
 have S := ae.mk (St.start (ts := [(.slice A c.f3.length cc, c.f3)]) (b0 := w.heap.size) (w := w) (P := P) (fun t ht => by rw [List.mem_singleton.1 ht]; exact d_ hv))
 have gZ := ae.mk hl
 clear hl hv
 obtain ⟨ck, ⟨cx, cy, cw, ch⟩, aJ, l⟩ := c
 simp only [] at S gZ ⊢
 rw [show kM ⟨ck, ⟨cx, cy, cw, ch⟩, aJ, l⟩ = l.map (tV ck) from rfl]
 simp only [List.length_map]
 go_enter Tryz.func77, Tryz.ntmps77
 go_wp2_with (first
  | (refine boxS 1 _ 26 S ?_; clear S; intro b1 eU S)
  | (refine ik 5 rfl ?_; refine p_ (Kd.int .i64) 3 rfl 5 S ?_; clear S; intro Ap cp op fM S jI; have jM := (S.out.at bf 6).trans rfl)
  | fail)
 clear jM
 go_loopg [3, 9] l.length (fun gg v3 v9 wr => ∃ (pre rest : List ai) (Ap : Option Addr) (cp : Nat) (op : Obj), v3 = .slice Ap pre.length cp ∧ v9 = .int .i64 (pre.length : Int) ∧ ae (pre ++ rest = l) ∧ rest.length ≤ gg ∧ ae (KR (Kd.int .i64) 3 w.heap.size (.slice Ap pre.length cp) (pre.map (tV ck)) op) ∧ ae (St w P [((Value.slice Ap pre.length cp).ownBlock, op), (some b1, .cells #[.int .u8 ck, .int .i64 cx, .int .i64 cy, .int .i64 cw, .int .i64 ch, .int .i64 aJ, .slice A l.length cc] 26 (0, 0))] [] [(.slice A l.length cc, l)] [] wr))
 case atStart => exact ⟨[], l, _, _, _, rfl, rfl, ⟨rfl⟩, Nat.le_refl _, jI, S⟩
 case round =>
  clear S jI
  obtain ⟨pre, rest, Ap, cp, op, rfl, rfl, HE, hgg, jI, S⟩ := hrel
  cases rest with
  | nil =>
   have hE := HE.out
   rw [List.append_nil] at hE
   have hE2 := hE.symm
   subst hE2
   clear hE HE hgg
   have hlt : ¬ ((l.length : Int) < (l.length : Int)) := by omega
   go_wp2
   go_ret
   exact ⟨_, _, rfl, S.out.We jI.out (.head _), S.out.below⟩
  | cons k rest =>
   have hk : k ∈ l := by rw [← HE.out]; simp
   have hlt : (pre.length : Int) < (l.length : Int) := by rw [← HE.out, List.length_append, List.length_cons]; omega
   have hw1 : wrap64 ((pre.length : Int) + 1) = ((pre ++ [k]).length : Int) := by have := gZ.out; rw [List.length_append, List.length_singleton]; unfold wrap64; omega
   have HW1 := ae.mk hw1
   have jl := ae.mk hgg
   have HK := ae.mk hk
   have wI := ae.mk (show pre.length ≤ 1048576 by have := gZ.out; omega)
   obtain ⟨ed, ua, uc, ek, S1⟩ := S.out.elem (.head _) (pre.length : Int) (Int.natCast_nonneg _) hlt
   subst ek
   have hrd : aj l (pre.length : Int) = k := by rw [← HE.out]; exact jd pre k rest
   rw [hrd] at S1
   simp only [Int.toNat_natCast] at S1
   replace S := ae.mk S1
   clear S1 hrd hk hgg hw1
   by_cases hk2 : ck = 2
   case pos =>
    have hka : (ck == 2) = true := beq_iff_eq.mpr hk2
    have hkb : decide (ck = 2) = true := decide_eq_true hk2
    have J6 := ae.mk (show (pre ++ [k]).map (tV ck) = pre.map (tV ck) ++ [k.f1.f2] by rw [List.map_append]; exact congrArg (pre.map (tV ck) ++ [·]) (if_pos hk2))
    clear hk2
    have iK := (S.out.at bf 0).trans rfl
    have jM := (S.out.at bf 6).trans rfl
    have iC := (S.out.cell _ jy).1
    go_wp2_with (first
     | (refine ik 24 rfl ?_; at_builtin; refine xO (Kd.int .i64) 3 rfl 15 23 41 (.int .i64 0) 8 Tryz.underlying41 info3 rfl (by decide) (by decide) (by decide) S jI k.f1.f2 [.int .i64 k.f1.f2] (fun _ _ _ => rfl) (by have := wI.out; simp only [List.length_map]; omega) ?_; clear S jI; intro PN cp2 SN iq S jI; clear iK jM iC)
     | fail)
    have e2 : ((pre.map (tV ck)) ++ [k.f1.f2]).length = (pre ++ [k]).length := by simp
    rw [e2, ← J6.out] at jI
    rw [e2] at S
    have hw1 := HW1.out
    go_wp2
    go_roundg rest.length
    case measure => exact Nat.lt_of_lt_of_le (Nat.lt_succ_self _) jl.out
    case rel => exact ⟨pre ++ [k], rest, _, _, _, (by rw [List.length_append]; rfl), (by rw [hw1]), ⟨by rw [List.append_assoc]; exact HE.out⟩, Nat.le_refl _, jI, ⟨S.out.wK.wK.bD.aG.aG.aG.aG.aG.aG.aG⟩⟩
   case neg =>
    have hka : (ck == 2) = false := beq_eq_false_iff_ne.mpr hk2
    have hkb : decide (ck = 2) = false := decide_eq_false hk2
    have J6 := ae.mk (show (pre ++ [k]).map (tV ck) = pre.map (tV ck) ++ [k.f1.f3] by rw [List.map_append]; exact congrArg (pre.map (tV ck) ++ [·]) (if_neg hk2))
    clear hk2
    have iK := (S.out.at bf 0).trans rfl
    have jM := (S.out.at bf 6).trans rfl
    have iD := (S.out.cell _ su).1
    go_wp2_with (first
     | (refine ik 34 rfl ?_; at_builtin; refine xO (Kd.int .i64) 3 rfl 25 33 41 (.int .i64 0) 8 Tryz.underlying41 info3 rfl (by decide) (by decide) (by decide) S jI k.f1.f3 [.int .i64 k.f1.f3] (fun _ _ _ => rfl) (by have := wI.out; simp only [List.length_map]; omega) ?_; clear S jI; intro PN cp2 SN jD S jI; clear iK jM iD)
     | fail)
    have e2 : ((pre.map (tV ck)) ++ [k.f1.f3]).length = (pre ++ [k]).length := by simp
    rw [e2, ← J6.out] at jI
    rw [e2] at S
    have hw1 := HW1.out
    go_wp2
    go_roundg rest.length
    case measure => exact Nat.lt_of_lt_of_le (Nat.lt_succ_self _) jl.out
    case rel => exact ⟨pre ++ [k], rest, _, _, _, (by rw [List.length_append]; rfl), (by rw [hw1]), ⟨by rw [List.append_assoc]; exact HE.out⟩, Nat.le_refl _, jI, ⟨S.out.wK.wK.bD.aG.aG.aG.aG.aG.aG.aG⟩⟩
def xg.T3 : Bool × List (List Nat × List Nat) := (true, [([], []), ([0], [0]), ([], []), ([2], [2]), ([3], [3]), ([], []), ([5], [5]), ([1, 4, 6, 6], [1, 4, 6]), ([7], [7]), ([8], [8]), ([8], [8]), ([8], [8]), ([9, 7, 0, 1, 2, 3, 4, 5, 6, 7, 8, 9], [9]), ([10, 12, 0, 1, 2, 3, 4, 5, 6, 7, 8, 9, 10, 12], [10]), ([11, 13, 0, 1, 2, 3, 4, 5, 6, 7, 8, 9, 10, 11, 12, 13], [11])])
def xg.B3 : List Nat := [0, 1, 0, 4, 12, 0, 32, 127, 255, 511, 511, 511, 1023, 6143, 16383]
theorem xg.Ho : je .any (opsOf Tryz.f58 3) = xg.T3 := by kernel_rfl
theorem xg.Dk : iM xg.T3.2 xg.B3 = true := by kernel_rfl
def xh.T9 : Bool × List (List Nat × List Nat) := (true, [([], []), ([], []), ([0, 1], [0, 1]), ([2], [2]), ([], []), ([4], [4]), ([], []), ([5, 6], [5, 6]), ([7], [7]), ([8], [8]), ([3, 9], [3, 9])])
def xh.B9 : List Nat := [0, 0, 3, 7, 0, 16, 0, 112, 240, 496, 1023]
theorem xh.Hq : je .any (opsOf Tryz.f58 9) = xh.T9 := by kernel_rfl
theorem xh.Dn : iM xh.T9.2 xh.B9 = true := by kernel_rfl
theorem Y2 (c : ai) (hl : c.f3.length ≤ 1000000) (b : Nat) (P : Nat → Prop) (A : Option Addr) (cc : Nat) (w : World) (hv : Kd.V k26 26 w b P (.slice A c.f3.length cc) c.f3) :
  Calls Tryz.prog 58 #[.agg #[.int .u8 c.f0, .int .i64 c.f1.f0, .int .i64 c.f1.f1, .int .i64 c.f1.f2, .int .i64 c.f1.f3, .int .i64 c.f2, .slice A c.f3.length cc]] w (VA w c) := by
 have S := ae.mk (St.start (ts := [(.slice A c.f3.length cc, c.f3)]) (b0 := w.heap.size) (w := w) (P := P) (fun t ht => by rw [List.mem_singleton.1 ht]; exact d_ hv))
 have gZ := ae.mk hl
 have hsz := fun b P A cc w hv => abH c hl b P A cc w hv
 obtain ⟨T, hT⟩ : ∃ T, T = AU c := ⟨_, rfl⟩
 have hlen : T.2.2 = true → T.1.length = c.f3.length := fun h => by rw [hT] at h ⊢; rw [(Gp h).2.1, Rl]; simp [kM]
 have hl2 : T.2.1.length ≤ c.f3.length := by rw [hT]; exact (Rn c).2
 have hcut := fun B cb w hi => ajb c.f1.f0 c.f1.f1 c.f1.f2 c.f1.f3 ((c.f0 - 1) % 256) (kM c) (by simpa [kM] using hl) B cb w hi
 rw [show ui c.f1.f0 c.f1.f1 c.f1.f2 c.f1.f3 ((c.f0 - 1) % 256) (kM c) = T by rw [hT, ado]; rfl] at hcut
 have ho : pz c = Fb c T := by rw [hT]; rfl
 generalize kM c = SL at hsz hcut
 unfold VA
 generalize pz c = v at ho ⊢
 clear hT hl hv
 obtain ⟨ck, ⟨cx, cy, cw, ch⟩, aJ, l⟩ := c
 obtain ⟨t1, t2, t3⟩ := T
 simp only [Fb] at S gZ hsz hlen hl2 hcut ho ⊢
 have HZC := ae.mk hsz
 have HL2 := ae.mk hl2
 clear hsz hl2
 by_cases h1 : ck = 1
 case pos =>
  have hv : v = true := by rw [ho, h1]; rfl
  have ha : (ck == 1) = true := beq_iff_eq.mpr h1
  have hb : decide (ck = 1) = true := decide_eq_true h1
  have HL := ae.mk hv
  clear hv h1 ho hcut hlen
  go_enter Tryz.func58, Tryz.ntmps58
  go_wp2_with (first | (refine boxS 1 _ 26 S ?_; clear S; intro b1 eU S; have iK := (S.out.at (.head _) 0).trans rfl) | (refine ik 11 rfl ?_; refine p_ k23 23 rfl 11 S ?_; clear S; intro arb arw arK fM S PZ; clear iK))
  go_ret2
  rw [HL.out]
  exact ⟨_, _, _, rfl, fun _ => ⟨[], rfl, Nat.zero_le _, S.out.We PZ.out (.head _)⟩, S.out.below⟩
 have ha : (ck == 1) = false := beq_eq_false_iff_ne.mpr h1
 have hd : decide (ck = 1) = false := decide_eq_false h1
 rw [ha, Bool.false_or] at ho
 clear h1
 cases t3 with
 | false =>
  rw [Bool.false_and] at ho
  have HL := ae.mk ho
  have JU := ae.mk (fun B cb w hi => Ro (hcut B cb w hi))
  clear hcut ho hlen
  go_enter Tryz.func58, Tryz.ntmps58
  go_wp2_with ((refine boxS 1 _ 26 S ?_; clear S; intro b1 eU S; have iK := (S.out.at (.head _) 0).trans rfl))
  clear iK
  refine jT (n := 15) (S := fun w' => St w _ _ _ _ _ w') (ds := []) (bA 15 0) (by kernel_rfl) rfl rfl (S.out.call (bI (Below.refl _ _))) (fun hHeld => ?_); refine gG xg.Ho xg.Dk (fun ak fC => ?_)
  replace S := ae.mk (S.out.call (bI (Below.refl _ _)))
  generalize eU.drew = wd2 at S hHeld ⊢
  refine ay 0 13 (bA 15 1) ak ?_
  refine dM 1 14 (bA 15 3) ak fC hHeld ?_ (hv := by intro w' hs_; have mi := (hs_.at (.head _) 1).trans rfl; have mr := (hs_.at (.head _) 2).trans rfl; have mD := (hs_.at (.head _) 3).trans rfl; have mF := (hs_.at (.head _) 4).trans rfl; go_simp; with_reducible rfl)
  refine ay 2 15 (bA 15 7) ak ?_
  refine dM 3 16 (bA 15 15) ak fC hHeld ?_ (hv := by intro w' hs_; have iK := (hs_.at (.head _) 0).trans rfl; go_simp; with_reducible rfl)
  refine ay 4 17 (bA 15 31) ak ?_
  refine dM 5 18 (bA 15 63) ak fC hHeld ?_ (hv := by intro w' hs_; have iK := (hs_.at (.head _) 0).trans rfl; have mi := (hs_.at (.head _) 1).trans rfl; have mr := (hs_.at (.head _) 2).trans rfl; have mD := (hs_.at (.head _) 3).trans rfl; have mF := (hs_.at (.head _) 4).trans rfl; have oH := (hs_.at (.head _) 5).trans rfl; have jM := (hs_.at (.head _) 6).trans rfl; go_simp; with_reducible rfl)
  refine iH 6 (some 19) (bA 15 127) ak (fun K hK => ?_)
  refine fO Tryz.func77 (by kernel_rfl) rfl #[.agg #[.int .u8 ck, .int .i64 cx, .int .i64 cy, .int .i64 cw, .int .i64 ch, .int .i64 aJ, .slice A l.length cc]] (by rfl) rfl rfl (by (try simp only [List.map_toArray, List.map_cons, List.map_nil]); rfl) ?_
  refine (HZC.out _ _ _ _ _ (S.out.tree _ (.head _))).mono ?_
  rintro e iq ⟨As, cs, rfl, h1, hb⟩
  refine ⟨_, rfl, ?_⟩
  obtain ⟨os, S1, hI⟩ := S.out.WA (d := Kd.int .i64) (e := 3) rfl h1 hb
  replace S := ae.mk S1
  have HKs := ae.mk hI
  clear S1 hI h1 hb
  refine hK.out _ _ S.out.eP (fun hHeld => ?_)
  clear hK K
  refine dO 19 ?_
  refine iH 7 (some 20) (bA 15 255) ak (fun K hK => ?_)
  refine fO Tryz.func76 (by kernel_rfl) rfl #[.agg #[.int .i64 cx, .int .i64 cy, .int .i64 cw, .int .i64 ch], .int .u8 ((ck - 1) % 256), .slice As SL.length cs] (by rfl) rfl rfl (by (try simp only [List.map_toArray, List.map_cons, List.map_nil]); rfl) ?_
  refine (JU.out _ _ _ (Kd.eX (Qa HKs.out S.out (.head _))).2.2).mono ?_
  rintro e jD ⟨Ap, np, cp, Aq, nq, cq, rfl, hb⟩
  refine ⟨_, rfl, ?_⟩
  replace S := ae.mk (S.out.call hb)
  clear hb
  refine hK.out _ _ S.out.eP (fun hHeld => ?_)
  clear hK K
  refine dO 20 ?_
  refine ay 8 12 (bA 15 511) ak ?_
  refine ay 9 21 (bA 15 1023) ak ?_
  refine ay 10 22 (bA 15 2047) ak ?_
  refine ay 11 23 (bA 15 4095) ak ?_
  refine ay 12 4 (bA 15 8191) ak ?_
  refine ay 13 5 (bA 15 16383) ak ?_
  refine ay 14 6 (bA 15 32767) ak ?_
  refine lJ (jc ak.out (by kernel_rfl)) ?_
  clear hHeld
  go_wp2
  go_ret2
  rw [HL.out]
  exact ⟨_, _, _, rfl, (fun h => by cases h), S.out.below⟩
 | true =>
  replace hlen := hlen rfl
  rw [Bool.true_and, show (l.length == t1.length) = true from beq_iff_eq.mpr hlen.symm, Bool.true_and] at ho
  have HL := ae.mk ho
  have CZ := ae.mk hlen
  have JU := ae.mk (fun B cb w hi => Uo (hcut B cb w hi))
  clear hcut ho hlen
  go_enter Tryz.func58, Tryz.ntmps58
  go_wp2_with ((refine boxS 1 _ 26 S ?_; clear S; intro b1 eU S; have iK := (S.out.at (.head _) 0).trans rfl))
  clear iK
  refine jT (n := 15) (S := fun w' => St w _ _ _ _ _ w') (ds := []) (bA 15 0) (by kernel_rfl) rfl rfl (S.out.call (bI (Below.refl _ _))) (fun hHeld => ?_); refine gG xg.Ho xg.Dk (fun ak fC => ?_)
  replace S := ae.mk (S.out.call (bI (Below.refl _ _)))
  generalize eU.drew = wd2 at S hHeld ⊢
  refine ay 0 13 (bA 15 1) ak ?_
  refine dM 1 14 (bA 15 3) ak fC hHeld ?_ (hv := by intro w' hs_; have mi := (hs_.at (.head _) 1).trans rfl; have mr := (hs_.at (.head _) 2).trans rfl; have mD := (hs_.at (.head _) 3).trans rfl; have mF := (hs_.at (.head _) 4).trans rfl; go_simp; with_reducible rfl)
  refine ay 2 15 (bA 15 7) ak ?_
  refine dM 3 16 (bA 15 15) ak fC hHeld ?_ (hv := by intro w' hs_; have iK := (hs_.at (.head _) 0).trans rfl; go_simp; with_reducible rfl)
  refine ay 4 17 (bA 15 31) ak ?_
  refine dM 5 18 (bA 15 63) ak fC hHeld ?_ (hv := by intro w' hs_; have iK := (hs_.at (.head _) 0).trans rfl; have mi := (hs_.at (.head _) 1).trans rfl; have mr := (hs_.at (.head _) 2).trans rfl; have mD := (hs_.at (.head _) 3).trans rfl; have mF := (hs_.at (.head _) 4).trans rfl; have oH := (hs_.at (.head _) 5).trans rfl; have jM := (hs_.at (.head _) 6).trans rfl; go_simp; with_reducible rfl)
  refine iH 6 (some 19) (bA 15 127) ak (fun K hK => ?_)
  refine fO Tryz.func77 (by kernel_rfl) rfl #[.agg #[.int .u8 ck, .int .i64 cx, .int .i64 cy, .int .i64 cw, .int .i64 ch, .int .i64 aJ, .slice A l.length cc]] (by rfl) rfl rfl (by (try simp only [List.map_toArray, List.map_cons, List.map_nil]); rfl) ?_
  refine (HZC.out _ _ _ _ _ (S.out.tree _ (.head _))).mono ?_
  rintro e iq ⟨As, cs, rfl, h1, hb⟩
  refine ⟨_, rfl, ?_⟩
  obtain ⟨os, S1, hI⟩ := S.out.WA (d := Kd.int .i64) (e := 3) rfl h1 hb
  replace S := ae.mk S1
  have HKs := ae.mk hI
  clear S1 hI h1 hb
  refine hK.out _ _ S.out.eP (fun hHeld => ?_)
  clear hK K
  refine dO 19 ?_
  refine iH 7 (some 20) (bA 15 255) ak (fun K hK => ?_)
  refine fO Tryz.func76 (by kernel_rfl) rfl #[.agg #[.int .i64 cx, .int .i64 cy, .int .i64 cw, .int .i64 ch], .int .u8 ((ck - 1) % 256), .slice As SL.length cs] (by rfl) rfl rfl (by (try simp only [List.map_toArray, List.map_cons, List.map_nil]); rfl) ?_
  refine (JU.out _ _ _ (Kd.eX (Qa HKs.out S.out (.head _))).2.2).mono ?_
  rintro e jD ⟨Ap, cp, Aq, cq, op, oq, rfl, h1, hb⟩
  refine ⟨_, rfl, ?_⟩
  obtain ⟨S1, hp, hq⟩ := S.out.two h1 hb
  replace S := ae.mk S1
  have jI := ae.mk hp
  have qc := ae.mk hq
  clear S1 hp hq h1 hb
  refine hK.out _ _ S.out.eP.eP.eP (fun hHeld => ?_)
  clear hK K
  refine dO 20 ?_
  refine ay 8 12 (bA 15 511) ak ?_
  refine ay 9 21 (bA 15 1023) ak ?_
  refine ay 10 22 (bA 15 2047) ak ?_
  refine ay 11 23 (bA 15 4095) ak ?_
  refine ay 12 4 (bA 15 8191) ak ?_
  refine ay 13 5 (bA 15 16383) ak ?_
  refine ay 14 6 (bA 15 32767) ak ?_
  refine lJ (jc ak.out (by kernel_rfl)) ?_
  clear hHeld
  go_wp2
  clear ha hd
  go_loopg [29] t1.length (fun gg v29 wr => ∃ (pre rest : List dW) (pb rb : List ai), v29 = .int .i64 (pre.length : Int) ∧ ae (pre ++ rest = t1) ∧ ae (pb ++ rb = l) ∧ ae (pb.length = pre.length) ∧ ae (vw (fun k r => o7 k.f1 r) pb pre = true) ∧ rest.length ≤ gg ∧ ae (St w P [((Value.slice Ap t1.length cp).ownBlock, op), ((Value.slice Aq t2.length cq).ownBlock, oq), ((Value.slice As SL.length cs).ownBlock, os), (some b1, .cells #[.int .u8 ck, .int .i64 cx, .int .i64 cy, .int .i64 cw, .int .i64 ch, .int .i64 aJ, .slice A l.length cc] 26 (0, 0))] [] [(.slice A l.length cc, l)] [] wr))
  case atStart => exact ⟨[], t1, [], l, rfl, ⟨rfl⟩, ⟨rfl⟩, ⟨rfl⟩, ⟨MJ _ _⟩, Nat.le_refl _, S⟩
  case round =>
   clear S
   obtain ⟨pre, rest, pb, rb, rfl, HE, HE2, zJ, Ue, hgg, S⟩ := hrel
   have hlr : rb.length = rest.length := by have h1 := congrArg List.length HE.out; have h2 := congrArg List.length HE2.out; rw [List.length_append] at h1 h2; have := zJ.out; have := CZ.out; omega
   cases rest with
   | nil =>
    have hrb := List.eq_nil_of_length_eq_zero hlr
    subst hrb
    have hE := HE.out
    rw [List.append_nil] at hE
    have Uw := HE2.out
    rw [List.append_nil] at Uw
    have HV := ae.mk (show v = true by rw [HL.out, ← hE, ← Uw]; exact Ue.out)
    have hlt : ¬ ((pre.length : Int) < (t1.length : Int)) := by rw [hE]; omega
    have aiD : ¬ (pre.length < t1.length) := by omega
    clear HE HE2 hgg hlr hE Uw
    go_wp2
    go_ret2
    rw [HV.out]
    exact ⟨_, _, _, rfl, fun _ => ⟨t2, rfl, HL2.out, S.out.We qc.out bf⟩, S.out.below⟩
   | cons r rest =>
    cases rb with
    | nil => simp at hlr
    | cons k rb =>
     have hlt : (pre.length : Int) < (t1.length : Int) := by rw [← HE.out, List.length_append, List.length_cons]; omega
     have hlt2 : (pb.length : Int) < (l.length : Int) := by rw [← HE2.out, List.length_append, List.length_cons]; omega
     have hlt3 : pre.length < l.length := by have := zJ.out; omega
     have aiD : pre.length < t1.length := by omega
     have hlt4 : (pre.length : Int) < (l.length : Int) := by omega
     have hw1 : wrap64 ((pre.length : Int) + 1) = ((pre ++ [r]).length : Int) := by have := gZ.out; have := CZ.out; rw [List.length_append, List.length_singleton]; unfold wrap64; omega
     have HW1 := ae.mk hw1
     have jl := ae.mk hgg
     obtain ⟨ed, ua, uc, ek, S1⟩ := S.out.elem (.head _) (pb.length : Int) (Int.natCast_nonneg _) hlt2
     subst ek
     have hrd : aj l (pb.length : Int) = k := by rw [← HE2.out]; exact jd pb k rb
     rw [hrd] at S1
     simp only [Int.toNat_natCast] at S1
     rw [zJ.out] at S1
     replace S := ae.mk S1
     obtain ⟨IK, ep, hel⟩ := agQ jI.out (S.out.blk _ (.head _)) pre rest r HE.out
     subst ep
     have JV := ae.mk hel
     clear S1 hrd hgg hw1 hlr hel hlt2
     cases hq : o7 k.f1 r with
     | false =>
      have HQ := ae.mk hq
      have HV := ae.mk (show v = false by rw [HL.out, ← HE.out, ← HE2.out, Ut zJ.out, Ue.out]; simp [vw, hq])
      clear hq
      go_wp2
      refine jT (n := 11) (S := fun w' => St w _ _ _ _ _ w') (ds := []) (bA 11 0) (by kernel_rfl) rfl rfl (S.out.call (bI (Below.refl _ _))) (fun hHeld => ?_); refine gG xh.Hq xh.Dn (fun ak fC => ?_)
      replace S := ae.mk (S.out.call (bI (Below.refl _ _)))
      generalize wr.drew = Ph at S hHeld ⊢
      refine ay 0 32 (bA 11 1) ak ?_
      refine ay 1 33 (bA 11 3) ak ?_
      refine ay 2 34 (bA 11 7) ak ?_
      refine dM 3 35 (bA 11 15) ak fC hHeld ?_ (hv := by intro w' hs_; have xp0 := (JV.out _ (hs_.blk _ (.head _))).1; have xp1 := (JV.out _ (hs_.blk _ (.head _))).2.1; have xp2 := (JV.out _ (hs_.blk _ (.head _))).2.2.1; have xp3 := (JV.out _ (hs_.blk _ (.head _))).2.2.2; go_simp; with_reducible rfl)
      refine ay 4 36 (bA 11 31) ak ?_
      refine dM 5 37 (bA 11 63) ak fC hHeld ?_ (hv := by intro w' hs_; have jM := (hs_.at jy 6).trans rfl; go_simp; with_reducible rfl)
      refine ay 6 38 (bA 11 127) ak ?_
      refine ay 7 39 (bA 11 255) ak ?_
      refine ay 8 40 (bA 11 511) ak ?_
      refine dM 9 41 (bA 11 1023) ak fC hHeld ?_ (hv := by intro w' hs_; have iQ := (hs_.cell _ bf).1; have iR := (hs_.cell _ gy).1; have iC := (hs_.cell _ jy).1; have iD := (hs_.cell _ su).1; go_simp; with_reducible rfl)
      refine dM 10 42 (bA 11 2047) ak fC hHeld ?_ (hv := by intro w' hs_; go_simp; exact ai1 HQ.out _ _)
      refine lJ (jc ak.out (by kernel_rfl)) ?_
      clear hHeld
      go_wp2_with ((refine ik 43 rfl ?_; refine p_ k23 23 rfl 43 S ?_; clear S; intro arc arx arL fM S PZ))
      go_ret2
      rw [HV.out]
      exact ⟨_, _, _, rfl, (fun h => by cases h), S.out.below⟩
     | true =>
      have JW := ae.mk (show vw (fun k r => o7 k.f1 r) (pb ++ [k]) (pre ++ [r]) = true by rw [Ut zJ.out, Ue.out]; simp [vw, hq])
      obtain ⟨q0, q1, q2, q3⟩ := r
      unfold o7 at hq
      simp only [Bool.and_eq_true, beq_iff_eq] at hq
      obtain ⟨e0, e1, e2, e3⟩ := hq
      subst e0 e1 e2 e3
      simp only [] at JV
      go_wp2
      refine jT (n := 11) (S := fun w' => St w _ _ _ _ _ w') (ds := []) (bA 11 0) (by kernel_rfl) rfl rfl (S.out.call (bI (Below.refl _ _))) (fun hHeld => ?_); refine gG xh.Hq xh.Dn (fun ak fC => ?_)
      replace S := ae.mk (S.out.call (bI (Below.refl _ _)))
      generalize wr.drew = Ph at S hHeld ⊢
      refine ay 0 32 (bA 11 1) ak ?_
      refine ay 1 33 (bA 11 3) ak ?_
      refine ay 2 34 (bA 11 7) ak ?_
      refine dM 3 35 (bA 11 15) ak fC hHeld ?_ (hv := by intro w' hs_; have xp0 := (JV.out _ (hs_.blk _ (.head _))).1; have xp1 := (JV.out _ (hs_.blk _ (.head _))).2.1; have xp2 := (JV.out _ (hs_.blk _ (.head _))).2.2.1; have xp3 := (JV.out _ (hs_.blk _ (.head _))).2.2.2; go_simp; with_reducible rfl)
      refine ay 4 36 (bA 11 31) ak ?_
      refine dM 5 37 (bA 11 63) ak fC hHeld ?_ (hv := by intro w' hs_; have jM := (hs_.at jy 6).trans rfl; go_simp; with_reducible rfl)
      refine ay 6 38 (bA 11 127) ak ?_
      refine ay 7 39 (bA 11 255) ak ?_
      refine ay 8 40 (bA 11 511) ak ?_
      refine dM 9 41 (bA 11 1023) ak fC hHeld ?_ (hv := by intro w' hs_; have iQ := (hs_.cell _ bf).1; have iR := (hs_.cell _ gy).1; have iC := (hs_.cell _ jy).1; have iD := (hs_.cell _ su).1; go_simp; with_reducible rfl)
      refine ay 10 42 (bA 11 2047) ak ?_
      refine lJ (jc ak.out (by kernel_rfl)) ?_
      clear hHeld
      go_wp2
      have hw1 := HW1.out
      go_wp2
      go_roundg rest.length
      case measure => exact Nat.lt_of_lt_of_le (Nat.lt_succ_self _) jl.out
      case rel => exact ⟨pre ++ [_], rest, pb ++ [k], rb, (by rw [hw1]), ⟨by rw [List.append_assoc]; exact HE.out⟩, ⟨by rw [List.append_assoc]; exact HE2.out⟩, ⟨by rw [List.length_append, List.length_append, zJ.out]; rfl⟩, JW, Nat.le_refl _, ⟨S.out.bD.aG.aG.aG.aG.aG.aG.aG⟩⟩
def mg (c : ai) : Bool := lV c.f1 && decide (1 ≤ c.f0 ∧ c.f0 ≤ 3) && decide (c.f0 = 1 → c.f3.length = 0 ∧ 0 ≤ c.f2 ∧ c.f2 ≤ 2147483647) && decide (c.f0 > 1 → 2 ≤ c.f3.length ∧ c.f2 = 0)
def fA : List ai → Bool
 | [] => true
 | x :: xs => (xs.all fun y => decide (y.f2 ≠ x.f2)) && fA xs
def qP (pre : List ai) (x : ai) : Bool := pre.all fun y => decide (x.f2 ≠ y.f2)
theorem uy (pre : List ai) (x : ai) : fA (pre ++ [x]) = (fA pre && qP pre x) := by
 induction pre with
 | nil => simp [fA, qP]
 | cons y ys ih =>
  have : (decide (x.f2 ≠ y.f2)) = decide (¬ x.f2 = y.f2) := rfl
  simp only [List.cons_append, fA, ih, qP, List.all_append, List.all_cons, List.all_nil, Bool.and_true]
  cases (ys.all fun z => decide (z.f2 ≠ y.f2)) <;> cases (decide (x.f2 ≠ y.f2)) <;> cases fA ys <;> cases (ys.all fun z => decide (x.f2 ≠ z.f2)) <;> rfl
theorem AV : ∀ (pre rest : List ai), fA pre = false → fA (pre ++ rest) = false := by
 intro pre rest h
 induction rest generalizing pre with
 | nil => rw [List.append_nil]; exact h
 | cons x xs ih =>
  have := ih (pre ++ [x]) (by rw [uy, h, Bool.false_and])
  rwa [List.append_assoc] at this
def mZ (c : ai) : Bool := decide (sz c ≤ 20000) && ((fU c).all mg && fA (gX c))
section
variable {W : World} {b : Nat} {P : Nat → Prop} {A : Option Addr} {cc : Nat}
theorem Qu (c : ai) (hz : sz c ≤ 1048576) (hV : Kd.V k26 26 W b P (.slice A c.f3.length cc) c.f3) :
  Calls Tryz.prog 5 #[.agg #[.int .u8 c.f0, .int .i64 c.f1.f0, .int .i64 c.f1.f1, .int .i64 c.f1.f2, .int .i64 c.f1.f3, .int .i64 c.f2, .slice A c.f3.length cc]] W fun e w' => ∃ A' c', e = .returned (.slice A' (fU c).length c') ∧ Kd.N k26 26 w' W.heap.size (fun k => P k ∨ W.heap.size ≤ k) (.slice A' (fU c).length c') (fU c) ∧ Below W.heap.size W w' := by
 obtain ⟨k, hk⟩ := (OC (sz c) c (Nat.le_refl _) hz).rounds
 exact (eF.calls k _ _ _ _ _ _ P A cc c.f3 _ W (d_ hV) hk).mono (fun e w' ⟨v, he, hN, hB⟩ => by
  obtain ⟨A', c', rfl⟩ := Kd.jO hN
  exact ⟨A', c', he, hN, hB⟩)
theorem aa6 (c : ai) (hz : sz c ≤ 1048576) (hV : Kd.V k26 26 W b P (.slice A c.f3.length cc) c.f3) :
  Calls Tryz.prog 38 #[.agg #[.int .u8 c.f0, .int .i64 c.f1.f0, .int .i64 c.f1.f1, .int .i64 c.f1.f2, .int .i64 c.f1.f3, .int .i64 c.f2, .slice A c.f3.length cc]] W fun e w' => ∃ A' c', e = .returned (.slice A' (gX c).length c') ∧ Kd.N k26 26 w' W.heap.size (fun k => P k ∨ W.heap.size ≤ k) (.slice A' (gX c).length c') (gX c) ∧ Below W.heap.size W w' := by
 obtain ⟨k, hk⟩ := (GH c hz).rounds
 exact (dL.calls k _ _ _ _ _ _ P A cc c.f3 _ W (d_ hV) hk).mono (fun e w' ⟨v, he, hN, hB⟩ => by
  obtain ⟨A', c', rfl⟩ := Kd.jO hN
  exact ⟨A', c', he, hN, hB⟩)
theorem w_ {r : dW} {v : Bool} (h : lV r = v) : Calls Tryz.prog 75 #[.agg #[.int .i64 r.f0, .int .i64 r.f1, .int .i64 r.f2, .int .i64 r.f3]] W fun e w' => e = .returned (.bool v) ∧ Below W.heap.size W w' :=
 qR.calls _ _ _ _ _ W ((IX _ _ _ _).trans (congrArg some h))
end
def rC (L M : List ai) : Bool := decide (L.length ≤ 20000) && (L.all mg && fA M)
theorem vG {pre rest M : List ai} {k : ai} (h : mg k = false) : rC (pre ++ k :: rest) M = false := by
 unfold rC
 rw [List.all_append, List.all_cons, h, Bool.false_and, Bool.and_false, Bool.false_and, Bool.and_false]
theorem zT {k : ai} (h : lV k.f1 = false ∨ k.f0 < 1 ∨ 3 < k.f0 ∨ (k.f0 = 1 ∧ (0 < k.f3.length ∨ k.f2 < 0 ∨ 2147483647 < k.f2)) ∨ (1 < k.f0 ∧ (k.f3.length < 2 ∨ k.f2 ≠ 0))) : mg k = false := by
 cases hk : mg k with
 | false => rfl
 | true =>
  exfalso
  unfold mg at hk
  simp only [Bool.and_eq_true, decide_eq_true_eq] at hk
  obtain ⟨⟨⟨h1, h2⟩, h3⟩, h4⟩ := hk
  rcases h with h | h | h | h | h
  ·rw [h1] at h; cases h
  ·omega
  ·omega
  ·have := h3 h.1; omega
  ·have := h4 h.1; omega
theorem U4 {k : ai} (h1 : lV k.f1 = true) (h2 : 1 ≤ k.f0 ∧ k.f0 ≤ 3) (h3 : k.f0 = 1 → k.f3.length = 0 ∧ 0 ≤ k.f2 ∧ k.f2 ≤ 2147483647) (h4 : k.f0 > 1 → 2 ≤ k.f3.length ∧ k.f2 = 0) : mg k = true := by
 unfold mg
 rw [h1, decide_eq_true h2, decide_eq_true h3, decide_eq_true h4]
 rfl
theorem TP {pre rest : List ai} {k : ai} (h : qP pre k = false) : fA (pre ++ k :: rest) = false := by
 have h2 : fA (pre ++ [k]) = false := by rw [uy, h, Bool.and_false]
 have h3 := AV (pre ++ [k]) rest h2
 rwa [List.append_assoc] at h3
theorem ak' (c : ai) (hz : sz c ≤ 1048576) (A : Option Addr) (cc : Nat) (w : World) (hr : Kd.C k26 w A c.f3.length c.f3) (hc : c.f3.length ≤ cc) :
  Calls Tryz.prog 57 #[.agg #[.int .u8 c.f0, .int .i64 c.f1.f0, .int .i64 c.f1.f1, .int .i64 c.f1.f2, .int .i64 c.f1.f3, .int .i64 c.f2, .slice A c.f3.length cc]] w fun e w' => e = .returned (.bool (mZ c)) ∧ Below w.heap.size w w' := by
 have S := ae.mk (St.start (ts := [(.slice A c.f3.length cc, c.f3)]) (b0 := w.heap.size) (w := w) (P := fun k => k < w.heap.size) (fun t ht => by
  rw [List.mem_singleton.1 ht]; exact Kd.wR hc (Kd.F7 ql hr)))
 have HZ := ae.mk hz
 have HM := ae.mk (show mZ c = rC (fU c) (gX c) from rfl)
 have P5 := ae.mk (show (fU c).length ≤ 1048576 from hz)
 have HMZ := ae.mk (show (gX c).length ≤ 1048576 from Nat.le_trans (List.length_filter_le _ _) hz)
 clear hr hc hz
 obtain ⟨ck, ⟨cx, cy, cw, ch⟩, aJ, l⟩ := c
 simp only [] at S HZ HM P5 HMZ
 have aaG := fun W b P A cc hV => @Qu W b P A cc ⟨ck, ⟨cx, cy, cw, ch⟩, aJ, l⟩ HZ.out hV
 have aaH := fun W b P A cc hV => @aa6 W b P A cc ⟨ck, ⟨cx, cy, cw, ch⟩, aJ, l⟩ HZ.out hV
 rw [HM.out]
 generalize fU ⟨ck, ⟨cx, cy, cw, ch⟩, aJ, l⟩ = L at HM P5 aaG ⊢
 generalize gX ⟨ck, ⟨cx, cy, cw, ch⟩, aJ, l⟩ = M at HM HMZ aaH ⊢
 have HA := ae.mk aaG
 have HLE := ae.mk aaH
 clear HM aaG aaH
 by_cases hl : 20000 < L.length
 case pos =>
  obtain ⟨hla, hlb⟩ := wL (a := 20000) (b := (L.length : Int)) (by omega)
  have hlc : decide (20000 < L.length) = true := decide_eq_true (by omega)
  have HB := ae.mk (show rC L M = false by unfold rC; rw [decide_eq_false (by omega), Bool.false_and])
  clear hl
  go_enter Tryz.func57, Tryz.ntmps57
  go_wp2_with (first
   | (refine boxS 1 _ 26 S ?_; clear S; intro b1 eU S; obtain ⟨iK, mi, mr, mD, mF, oH, jM⟩ := St.fF S (.head _))
   | (refine uO (some 9) Tryz.func5 S (HA.out _ _ _ _ _ (S.out.tree _ (.head _))) ?_; clear S; intro Aa ca fM S; clear iK mi mr mD mF oH jM)
   | fail)
  go_ret
  refine ⟨?_, S.out.below⟩
  rw [HB.out]
  rfl
 obtain ⟨hla, hlb⟩ := vF (a := 20000) (b := (L.length : Int)) (by omega)
 have hlc : decide (20000 < L.length) = false := decide_eq_false (by omega)
 have HL := ae.mk hl
 clear hl
 go_enter Tryz.func57, Tryz.ntmps57
 go_wp2_with (first
  | (refine boxS 1 _ 26 S ?_; clear S; intro b1 iq S; obtain ⟨iK, mi, mr, mD, mF, oH, jM⟩ := St.fF S (.head _))
  | (refine uO (some 9) Tryz.func5 S (HA.out _ _ _ _ _ (S.out.tree _ (.head _))) ?_; clear S; intro Aa ca jD S; clear iK mi mr mD mF oH jM)
  | fail)
 clear hla hlb hlc
 go_loopg [15] L.length (fun gg v15 wr => ∃ (pre rest : List ai), v15 = .int .i64 (pre.length : Int) ∧ ae (pre ++ rest = L) ∧ rest.length ≤ gg ∧ ae (pre.all mg = true) ∧ ae (St w (fun k => k < w.heap.size) [(some b1, .cells #[.int .u8 ck, .int .i64 cx, .int .i64 cy, .int .i64 cw, .int .i64 ch, .int .i64 aJ, .slice A l.length cc] 26 (0, 0))] [] [(.slice Aa L.length ca, L), (.slice A l.length cc, l)] [] wr))
 case atStart => exact ⟨[], L, rfl, ⟨rfl⟩, Nat.le_refl _, ⟨rfl⟩, ⟨S.out⟩⟩
 case round =>
  clear S
  obtain ⟨pre, rest, rfl, HE, hgg, P8, S⟩ := hrel
  cases rest with
  | cons k rest =>
   have hlt : (pre.length : Int) < (L.length : Int) := by rw [← HE.out, List.length_append, List.length_cons]; omega
   have hw1 : wrap64 ((pre.length : Int) + 1) = ((pre ++ [k]).length : Int) := by have := P5.out; rw [List.length_append, List.length_singleton]; unfold wrap64; omega
   have HW1 := ae.mk hw1
   have jl := ae.mk hgg
   obtain ⟨ed, ua, uc, ek, S1⟩ := S.out.elem (.head _) (pre.length : Int) (Int.natCast_nonneg _) hlt
   subst ek
   have hrd : aj L (pre.length : Int) = k := by rw [← HE.out]; exact jd pre k rest
   rw [hrd] at S1
   simp only [Int.toNat_natCast] at S1
   replace S := ae.mk S1
   clear S1 hrd hgg hw1
   cases hmr : lV k.f1 with
   | false =>
    have C9 := ae.mk hmr
    clear hmr
    have HB := ae.mk (show rC L M = false by rw [← HE.out]; exact vG (zT (.inl C9.out)))
    have iQ := (S.out.cell _ bf).1
    have iR := (S.out.cell _ gy).1
    have iC := (S.out.cell _ jy).1
    have iD := (S.out.cell _ su).1
    go_wp2_with (first
     | (refine cZ (some 23) Tryz.func75 S (w_ C9.out) ?_; clear S; intro mQ S; clear iQ iR iC iD)
     | fail)
    go_ret
    refine ⟨?_, S.out.below⟩
    rw [HB.out]
    rfl
   | true =>
    have C9 := ae.mk hmr
    clear hmr
    by_cases h1 : k.f0 < 1
    case pos =>
     obtain ⟨h1a, h1b⟩ := wL (a := k.f0) (b := 1) (by omega)
     have HB := ae.mk (show rC L M = false by rw [← HE.out]; exact vG (zT (.inr (.inl h1))))
     have iQ := (S.out.cell _ bf).1
     have iR := (S.out.cell _ gy).1
     have iC := (S.out.cell _ jy).1
     have iD := (S.out.cell _ su).1
     go_wp2_with (first
      | (refine cZ (some 23) Tryz.func75 S (w_ C9.out) ?_; clear S; intro vS S; clear iQ iR iC iD; have iP := (S.out.cell _ (.head _)).1)
      | fail)
     clear iP
     go_ret
     refine ⟨?_, S.out.below⟩
     rw [HB.out]
     rfl
    obtain ⟨h1a, h1b⟩ := vF (a := k.f0) (b := 1) (by omega)
    by_cases h3 : 3 < k.f0
    case pos =>
     obtain ⟨h3a, h3b⟩ := wL (a := 3) (b := k.f0) (by omega)
     have HB := ae.mk (show rC L M = false by rw [← HE.out]; exact vG (zT (.inr (.inr (.inl h3)))))
     have iQ := (S.out.cell _ bf).1
     have iR := (S.out.cell _ gy).1
     have iC := (S.out.cell _ jy).1
     have iD := (S.out.cell _ su).1
     go_wp2_with (first
      | (refine cZ (some 23) Tryz.func75 S (w_ C9.out) ?_; clear S; intro xY S; clear iQ iR iC iD; have iP := (S.out.cell _ (.head _)).1)
      | fail)
     clear iP
     go_ret
     refine ⟨?_, S.out.below⟩
     rw [HB.out]
     rfl
    obtain ⟨h3a, h3b⟩ := vF (a := 3) (b := k.f0) (by omega)
    by_cases h4 : k.f0 = 1
    case pos =>
     have Gt : (k.f0 == 1) = true := beq_iff_eq.mpr h4
     have h4d : decide (k.f0 = 1) = true := decide_eq_true h4
     by_cases h5 : 0 < k.f3.length
     case pos =>
      obtain ⟨h5a, KI⟩ := wL (a := 0) (b := (k.f3.length : Int)) (by omega)
      have XW : decide (0 < k.f3.length) = true := decide_eq_true (by omega)
      have HB := ae.mk (show rC L M = false by rw [← HE.out]; exact vG (zT (.inr (.inr (.inr (.inl ⟨h4, .inl h5⟩))))))
      have iQ := (S.out.cell _ bf).1
      have iR := (S.out.cell _ gy).1
      have iC := (S.out.cell _ jy).1
      have iD := (S.out.cell _ su).1
      go_wp2_with (first
       | (refine cZ (some 23) Tryz.func75 S (w_ C9.out) ?_; clear S; intro A_ S; clear iQ iR iC iD; have iP := (S.out.cell _ (.head _)).1; have jE := (S.out.cell _ yM).1)
       | fail)
      clear iP jE
      go_ret
      refine ⟨?_, S.out.below⟩
      rw [HB.out]
      rfl
     obtain ⟨h5a, KI⟩ := vF (a := 0) (b := (k.f3.length : Int)) (by omega)
     have XW : decide (0 < k.f3.length) = false := decide_eq_false (by omega)
     by_cases h6 : k.f2 < 0
     case pos =>
      obtain ⟨h6a, XX⟩ := wL (a := k.f2) (b := 0) (by omega)
      have HB := ae.mk (show rC L M = false by rw [← HE.out]; exact vG (zT (.inr (.inr (.inr (.inl ⟨h4, .inr (.inl h6)⟩))))))
      have iQ := (S.out.cell _ bf).1
      have iR := (S.out.cell _ gy).1
      have iC := (S.out.cell _ jy).1
      have iD := (S.out.cell _ su).1
      go_wp2_with (first
       | (refine cZ (some 23) Tryz.func75 S (w_ C9.out) ?_; clear S; intro FZ S; clear iQ iR iC iD; have iP := (S.out.cell _ (.head _)).1; have jE := (S.out.cell _ yM).1; have jk := (S.out.cell _ vH).1)
       | fail)
      clear iP jE jk
      go_ret
      refine ⟨?_, S.out.below⟩
      rw [HB.out]
      rfl
     obtain ⟨h6a, XX⟩ := vF (a := k.f2) (b := 0) (by omega)
     by_cases h7 : 2147483647 < k.f2
     case pos =>
      obtain ⟨h7a, h7b⟩ := wL (a := 2147483647) (b := k.f2) (by omega)
      have HB := ae.mk (show rC L M = false by rw [← HE.out]; exact vG (zT (.inr (.inr (.inr (.inl ⟨h4, .inr (.inr h7)⟩))))))
      have iQ := (S.out.cell _ bf).1
      have iR := (S.out.cell _ gy).1
      have iC := (S.out.cell _ jy).1
      have iD := (S.out.cell _ su).1
      go_wp2_with (first
       | (refine cZ (some 23) Tryz.func75 S (w_ C9.out) ?_; clear S; intro CW S; clear iQ iR iC iD; have iP := (S.out.cell _ (.head _)).1; have jE := (S.out.cell _ yM).1; have jk := (S.out.cell _ vH).1)
       | fail)
      clear iP jE jk
      go_ret
      refine ⟨?_, S.out.below⟩
      rw [HB.out]
      rfl
     obtain ⟨h7a, h7b⟩ := vF (a := 2147483647) (b := k.f2) (by omega)
     obtain ⟨h8a, h8b⟩ := vF (a := 1) (b := k.f0) (by omega)
     have HG := ae.mk (U4 C9.out (by omega) (by omega) (by omega))
     have iQ := (S.out.cell _ bf).1
     have iR := (S.out.cell _ gy).1
     have iC := (S.out.cell _ jy).1
     have iD := (S.out.cell _ su).1
     go_wp2_with (first
      | (refine cZ (some 23) Tryz.func75 S (w_ C9.out) ?_; clear S; intro DV S; clear iQ iR iC iD; have iP := (S.out.cell _ (.head _)).1; have jE := (S.out.cell _ yM).1; have jk := (S.out.cell _ vH).1)
      | fail)
     clear iP jE jk
     have hw1 := HW1.out
     go_wp2
     go_roundg rest.length
     case measure => exact Nat.lt_of_lt_of_le (Nat.lt_succ_self _) jl.out
     case rel => exact ⟨pre ++ [k], rest, (by rw [hw1]), ⟨by rw [List.append_assoc]; exact HE.out⟩, Nat.le_refl _, ⟨by rw [List.all_append, P8.out, List.all_cons, HG.out]; rfl⟩, ⟨S.out.bD.aG.aG.aG.aG.aG.aG.aG⟩⟩
    have Gt : (k.f0 == 1) = false := beq_eq_false_iff_ne.mpr h4
    have h4d : decide (k.f0 = 1) = false := decide_eq_false h4
    obtain ⟨h8a, h8b⟩ := wL (a := 1) (b := k.f0) (by omega)
    by_cases h5 : k.f3.length < 2
    case pos =>
     obtain ⟨h5a, KI⟩ := wL (a := (k.f3.length : Int)) (b := 2) (by omega)
     have XW : decide (k.f3.length < 2) = true := decide_eq_true (by omega)
     have HB := ae.mk (show rC L M = false by rw [← HE.out]; exact vG (zT (.inr (.inr (.inr (.inr ⟨by omega, .inl h5⟩))))))
     have iQ := (S.out.cell _ bf).1
     have iR := (S.out.cell _ gy).1
     have iC := (S.out.cell _ jy).1
     have iD := (S.out.cell _ su).1
     go_wp2_with (first
      | (refine cZ (some 23) Tryz.func75 S (w_ C9.out) ?_; clear S; intro FM S; clear iQ iR iC iD; have iP := (S.out.cell _ (.head _)).1; have jE := (S.out.cell _ yM).1)
      | fail)
     clear iP jE
     go_ret
     refine ⟨?_, S.out.below⟩
     rw [HB.out]
     rfl
    obtain ⟨h5a, KI⟩ := vF (a := (k.f3.length : Int)) (b := 2) (by omega)
    have XW : decide (k.f3.length < 2) = false := decide_eq_false (by omega)
    by_cases h6 : k.f2 = 0
    case neg =>
     have XX : (k.f2 != 0) = true := bne_iff_ne.mpr h6
     have h6c : (k.f2 == 0) = false := beq_eq_false_iff_ne.mpr h6
     have h6d : decide (k.f2 = 0) = false := decide_eq_false h6
     have HB := ae.mk (show rC L M = false by rw [← HE.out]; exact vG (zT (.inr (.inr (.inr (.inr ⟨by omega, .inr h6⟩))))))
     have iQ := (S.out.cell _ bf).1
     have iR := (S.out.cell _ gy).1
     have iC := (S.out.cell _ jy).1
     have iD := (S.out.cell _ su).1
     go_wp2_with (first
      | (refine cZ (some 23) Tryz.func75 S (w_ C9.out) ?_; clear S; intro JK S; clear iQ iR iC iD; have iP := (S.out.cell _ (.head _)).1; have jE := (S.out.cell _ yM).1; have jk := (S.out.cell _ vH).1)
      | fail)
     clear iP jE jk
     go_ret
     refine ⟨?_, S.out.below⟩
     rw [HB.out]
     rfl
    have XX : (k.f2 != 0) = false := bne_eq_false_iff_eq.mpr h6
    have h6c : (k.f2 == 0) = true := beq_iff_eq.mpr h6
    have h6d : decide (k.f2 = 0) = true := decide_eq_true h6
    have HG := ae.mk (U4 C9.out (by omega) (by omega) (by omega))
    have iQ := (S.out.cell _ bf).1
    have iR := (S.out.cell _ gy).1
    have iC := (S.out.cell _ jy).1
    have iD := (S.out.cell _ su).1
    go_wp2_with (first
     | (refine cZ (some 23) Tryz.func75 S (w_ C9.out) ?_; clear S; intro TK S; clear iQ iR iC iD; have iP := (S.out.cell _ (.head _)).1; have jE := (S.out.cell _ yM).1; have jk := (S.out.cell _ vH).1)
     | fail)
    clear iP jE jk
    have hw1 := HW1.out
    go_wp2
    go_roundg rest.length
    case measure => exact Nat.lt_of_lt_of_le (Nat.lt_succ_self _) jl.out
    case rel => exact ⟨pre ++ [k], rest, (by rw [hw1]), ⟨by rw [List.append_assoc]; exact HE.out⟩, Nat.le_refl _, ⟨by rw [List.all_append, P8.out, List.all_cons, HG.out]; rfl⟩, ⟨S.out.bD.aG.aG.aG.aG.aG.aG.aG⟩⟩
  | nil =>
   have hE := HE.out
   rw [List.append_nil] at hE
   subst hE
   clear HE hgg
   have hlt : ¬ ((pre.length : Int) < (pre.length : Int)) := by omega
   obtain ⟨iK, mi, mr, mD, mF, oH, jM⟩ := St.fF S (.head _)
   go_wp2_with (first
    | (refine uO (some 99) Tryz.func38 S (HLE.out _ _ _ _ _ (S.out.tree _ bf)) ?_; clear S; intro Al cl WR S; clear iK mi mr mD mF oH jM)
    | fail)
   go_loopg [102] M.length (fun gg anD wr => ∃ (pm rest : List ai), anD = .int .i64 (pm.length : Int) ∧ ae (pm ++ rest = M) ∧ rest.length ≤ gg ∧ ae (fA pm = true) ∧ ae (St w (fun k => k < w.heap.size) [(some b1, .cells #[.int .u8 ck, .int .i64 cx, .int .i64 cy, .int .i64 cw, .int .i64 ch, .int .i64 aJ, .slice A l.length cc] 26 (0, 0))] [] [(.slice Al M.length cl, M), (.slice Aa pre.length ca, pre), (.slice A l.length cc, l)] [] wr))
   case atStart => exact ⟨[], M, rfl, ⟨rfl⟩, Nat.le_refl _, ⟨rfl⟩, ⟨S.out⟩⟩
   case round =>
    clear S
    rename World => wz
    obtain ⟨pm, rest, rfl, HE, hgg, HD, S⟩ := hrel
    cases rest with
    | nil =>
     have hE := HE.out
     rw [List.append_nil] at hE
     subst hE
     have hlt : ¬ ((pm.length : Int) < (pm.length : Int)) := by omega
     have HB := ae.mk (show rC pre pm = true by unfold rC; rw [P8.out, HD.out, decide_eq_true (by have := HL.out; omega)]; rfl)
     go_wp2
     go_ret
     refine ⟨?_, S.out.below⟩
     rw [HB.out]
     rfl
    | cons k rest =>
     have hlt : (pm.length : Int) < (M.length : Int) := by rw [← HE.out, List.length_append, List.length_cons]; omega
     have hw1 : wrap64 ((pm.length : Int) + 1) = ((pm ++ [k]).length : Int) := by have := HMZ.out; rw [List.length_append, List.length_singleton]; unfold wrap64; omega
     have HW1 := ae.mk hw1
     have jl := ae.mk hgg
     have HPM := ae.mk (show pm.length ≤ 1048576 by have := HMZ.out; omega)
     have Ub := ae.mk hlt
     obtain ⟨ed, ua, uc, ek, S1⟩ := S.out.elem (.head _) (pm.length : Int) (Int.natCast_nonneg _) hlt
     subst ek
     have hrd : aj M (pm.length : Int) = k := by rw [← HE.out]; exact jd pm k rest
     rw [hrd] at S1
     simp only [Int.toNat_natCast] at S1
     replace S := ae.mk S1
     clear S1 hrd hgg hw1
     go_wp2
     have HK0 := ae.mk (show qP [] k = true from rfl)
     go_loopg [7] pm.length (fun gg v7 wr => ∃ (pa pb : List ai), v7 = .int .i64 (pa.length : Int) ∧ ae (pa ++ pb = pm) ∧ pb.length ≤ gg ∧ ae (qP pa k = true) ∧ ae (St w (fun k => k < w.heap.size) [(some b1, .cells #[.int .u8 ck, .int .i64 cx, .int .i64 cy, .int .i64 cw, .int .i64 ch, .int .i64 aJ, .slice A l.length cc] 26 (0, 0))] [] [(.slice ua k.f3.length uc, k.f3), (.slice (some ed) M.length cl, M), (.slice Aa pre.length ca, pre), (.slice A l.length cc, l)] [((ed.add (pm.length * 7)), .int .u8 k.f0), (⟨(ed.add (pm.length * 7)).block, (ed.add (pm.length * 7)).off + 1, none⟩, .int .i64 k.f1.f0), (⟨(ed.add (pm.length * 7)).block, (ed.add (pm.length * 7)).off + 2, none⟩, .int .i64 k.f1.f1), (⟨(ed.add (pm.length * 7)).block, (ed.add (pm.length * 7)).off + 3, none⟩, .int .i64 k.f1.f2), (⟨(ed.add (pm.length * 7)).block, (ed.add (pm.length * 7)).off + 4, none⟩, .int .i64 k.f1.f3), (⟨(ed.add (pm.length * 7)).block, (ed.add (pm.length * 7)).off + 5, none⟩, .int .i64 k.f2), (⟨(ed.add (pm.length * 7)).block, (ed.add (pm.length * 7)).off + 6, none⟩, .slice ua k.f3.length uc)] wr))
     case atStart => exact ⟨[], pm, rfl, ⟨rfl⟩, Nat.le_refl _, ⟨rfl⟩, ⟨S.out⟩⟩
     case round =>
      clear S
      rename World => wy
      obtain ⟨pa, pb, rfl, HE2, hgg, HAP, S⟩ := hrel
      cases pb with
      | nil =>
       have hE := HE2.out
       rw [List.append_nil] at hE
       subst hE
       have hlt : ¬ ((pa.length : Int) < (pa.length : Int)) := by omega
       go_wp2
       have hw1 := HW1.out
       go_wp2
       go_roundg rest.length
       case measure => exact Nat.lt_of_lt_of_le (Nat.lt_succ_self _) jl.out
       case rel => exact ⟨pa ++ [k], rest, (by rw [hw1]), ⟨by rw [List.append_assoc]; exact HE.out⟩, Nat.le_refl _, ⟨by rw [uy, HD.out, HAP.out]; rfl⟩, ⟨S.out.bD.aG.aG.aG.aG.aG.aG.aG⟩⟩
      | cons q pb =>
       have hlt : (pa.length : Int) < (pm.length : Int) := by rw [← HE2.out, List.length_append, List.length_cons]; omega
       have hlt0 := Ub.out
       have hlt2 : (pa.length : Int) < (M.length : Int) := by omega
       have hw1 : wrap64 ((pa.length : Int) + 1) = ((pa ++ [q]).length : Int) := by have := HPM.out; rw [List.length_append, List.length_singleton]; unfold wrap64; omega
       have HW2 := ae.mk hw1
       have amD := ae.mk hgg
       obtain ⟨adq, va, vc, XP, S1⟩ := S.out.elem bf (pa.length : Int) (Int.natCast_nonneg _) hlt2
       injection XP with XP
       subst XP
       have hrd : aj M (pa.length : Int) = q := by rw [← HE.out, ← HE2.out, List.append_assoc]; exact jd pa q (pb ++ k :: rest)
       rw [hrd] at S1
       simp only [Int.toNat_natCast] at S1
       replace S := ae.mk S1
       clear S1 hrd hgg hw1
       by_cases hq : k.f2 = q.f2
       case pos =>
        have UX : (k.f2 == q.f2) = true := beq_iff_eq.mpr hq
        have hqd : decide (k.f2 = q.f2) = true := decide_eq_true hq
        have HQ := ae.mk hq
        clear hq
        have JL := (S.out.cell _ (.tail _ (.tail _ (.tail _ wM)))).1
        have jk := (S.out.cell _ vH).1
        go_wp2
        go_quiet (fail)
        clear JL jk
        replace S := ae.mk (S.out.call (aT (Below.refl _ _) nq))
        generalize wr.drewN nq = asa at S ⊢
        go_wp2
        have HB := ae.mk (show rC pre M = false by unfold rC; rw [← HE.out, TP (by rw [← HE2.out]; unfold qP; rw [List.all_append, List.all_cons, decide_eq_false (by have := HQ.out; simpa using this), Bool.false_and, Bool.and_false]), Bool.and_false, Bool.and_false])
        go_ret
        refine ⟨?_, S.out.below⟩
        rw [HB.out]
        rfl
       case neg =>
        have UX : (k.f2 == q.f2) = false := beq_eq_false_iff_ne.mpr hq
        have hqd : decide (k.f2 = q.f2) = false := decide_eq_false hq
        have HQ := ae.mk hq
        clear hq
        have JL := (S.out.cell _ (.tail _ (.tail _ (.tail _ wM)))).1
        have jk := (S.out.cell _ vH).1
        go_wp2
        go_quiet (fail)
        clear JL jk
        replace S := ae.mk (S.out.call (aT (Below.refl _ _) nq))
        generalize wr.drewN nq = asb at S ⊢
        go_wp2
        have hw1 := HW2.out
        go_wp2
        go_roundg pb.length
        case measure => exact Nat.lt_of_lt_of_le (Nat.lt_succ_self _) amD.out
        case rel => exact ⟨pa ++ [q], pb, (by rw [hw1]), ⟨by rw [List.append_assoc]; exact HE2.out⟩, Nat.le_refl _, ⟨by unfold qP; rw [List.all_append, List.all_cons, decide_eq_true HQ.out]; rw [show (pa.all fun y => decide (k.f2 ≠ y.f2)) = true from HAP.out]; rfl⟩, ⟨S.out.bD.aG.aG.aG.aG.aG.aG.aG⟩⟩
def af2.f (_ : Nat) (a0 a1 a2 a3 a4 a5 : Int) (l : List ai) : Option Bool := if sz ⟨a0, ⟨a1, a2, a3, a4⟩, a5, l⟩ ≤ 1048576 then some (mZ ⟨a0, ⟨a1, a2, a3, a4⟩, a5, l⟩) else none
def dF (c : ai) : Bool := mZ c && mP c
theorem pW {c : ai} (h : mZ c = true) : sz c ≤ 20000 := by
 unfold mZ at h
 simp only [Bool.and_eq_true, decide_eq_true_eq] at h
 omega
theorem ag7 : ∀ (N : Nat), (∀ c : ai, sz c ≤ N → ∀ d, d ∈ fU c → sz d ≤ sz c) ∧ (∀ l : List ai, dY l ≤ N → ∀ d, d ∈ allL l → sz d ≤ dY l) := by
 intro N
 induction N with
 | zero =>
  refine ⟨fun c h => ?_, fun l h => ?_⟩
  ·rw [bJ] at h; omega
  ·cases l with
   | nil => intro d hd; rw [kS] at hd; cases hd
   | cons z zs => rw [bH, bJ] at h; omega
 | succ N ih =>
  have hC : ∀ c : ai, sz c ≤ N + 1 → ∀ d, d ∈ fU c → sz d ≤ sz c := by
   intro c h d hd
   have hs := bJ c
   rw [lZ] at hd
   rcases List.mem_cons.1 hd with rfl | hd
   ·exact Nat.le_refl _
   ·have := ih.2 c.f3 (by omega) d hd
    omega
  refine ⟨hC, fun l => ?_⟩
  induction l with
  | nil => intro _ d hd; rw [kS] at hd; cases hd
  | cons x xs ihl =>
   intro h d hd
   rw [bH] at h ⊢
   rw [iE] at hd
   rcases List.mem_append.1 hd with hd | hd
   ·have := hC x (by omega) d hd
    omega
   ·have := ihl (by omega) d hd
    omega
theorem Z4 {c d : ai} (h : d ∈ fU c) : d.f3.length + 1 ≤ sz c := by
 have h1 := (ag7 (sz c)).1 c (Nat.le_refl _) d h
 have h2 := bJ d
 have h3 := jf d.f3
 omega
section
variable {W : World} {b : Nat} {P : Nat → Prop} {A : Option Addr} {cc : Nat}
theorem ai6 (c : ai) (h : pz c = false) (hl : c.f3.length ≤ 1000000) (hV : Kd.V k26 26 W b P (.slice A c.f3.length cc) c.f3) : Calls Tryz.prog 58 #[.agg #[.int .u8 c.f0, .int .i64 c.f1.f0, .int .i64 c.f1.f1, .int .i64 c.f1.f2, .int .i64 c.f1.f3, .int .i64 c.f2, .slice A c.f3.length cc]] W fun e w' => ∃ A n cc, e = .returned (.tuple #[.slice A n cc, .bool false]) ∧ Below W.heap.size W w' :=
 (Y2 c hl b P A cc W hV).mono (fun _ _ ⟨A, n, cc, h1, _, h3⟩ => ⟨A, n, cc, by rw [h1, h], h3⟩)
theorem afj (c : ai) (h : pz c = true) (hl : c.f3.length ≤ 1000000) (hV : Kd.V k26 26 W b P (.slice A c.f3.length cc) c.f3) : Calls Tryz.prog 58 #[.agg #[.int .u8 c.f0, .int .i64 c.f1.f0, .int .i64 c.f1.f1, .int .i64 c.f1.f2, .int .i64 c.f1.f3, .int .i64 c.f2, .slice A c.f3.length cc]] W fun e w' => ∃ A cc ls, e = .returned (.tuple #[.slice A ls.length cc, .bool true]) ∧ ls.length ≤ c.f3.length ∧ k23.R 23 w' W.heap.size (fun _ => True) (.slice A ls.length cc) ls ∧ Below W.heap.size W w' :=
 (Y2 c hl b P A cc W hV).mono (fun _ _ ⟨A, n, cc, h1, h2, h3⟩ => by
  obtain ⟨ls, rfl, h4, h5⟩ := h2 h
  exact ⟨A, cc, ls, by rw [h1, h], h4, h5, h3⟩)
theorem acH {c : ai} {v : Bool} (h : mZ c = v) (hz : sz c ≤ 1048576) (b : Nat) (P : Nat → Prop) (A : Option Addr) (cc : Nat) (W : World) (hV : Kd.V k26 26 W b P (.slice A c.f3.length cc) c.f3) : Calls Tryz.prog 57 #[.agg #[.int .u8 c.f0, .int .i64 c.f1.f0, .int .i64 c.f1.f1, .int .i64 c.f1.f2, .int .i64 c.f1.f3, .int .i64 c.f2, .slice A c.f3.length cc]] W fun e w' => e = .returned (.bool v) ∧ Below W.heap.size W w' := by
 have h1 := Kd.lF hV
 have h2 := ak' c hz A cc W h1.2.2 h1.2.1
 rwa [h] at h2
end
abbrev PQ (w : World) (c : ai) (e : Ending) (w' : World) : Prop := ∃ A n cc n1 n2, e = .returned (.tuple #[.slice A n cc, .int .i64 n1, .int .i64 n2]) ∧ (n1 == 0) = dF c ∧ Below w.heap.size w w'
theorem aal (c : ai) (hz : sz c ≤ 1048576) (b : Nat) (P : Nat → Prop) (A : Option Addr) (cc : Nat) (w : World) (hv : Kd.V k26 26 w b P (.slice A c.f3.length cc) c.f3) :
  Calls Tryz.prog 37 #[.agg #[.int .u8 c.f0, .int .i64 c.f1.f0, .int .i64 c.f1.f1, .int .i64 c.f1.f2, .int .i64 c.f1.f3, .int .i64 c.f2, .slice A c.f3.length cc]] w (PQ w c) := by
 have S := ae.mk (St.start (ts := [(.slice A c.f3.length cc, c.f3)]) (b0 := w.heap.size) (w := w) (P := P) (fun t ht => by rw [List.mem_singleton.1 ht]; exact d_ hv))
 unfold PQ
 cases hm : mZ c with
 | false =>
  have zK := ae.mk (fun b P A cc W hV => acH hm hz b P A cc W hV)
  rw [show dF c = false by unfold dF; rw [hm]; rfl]
  clear hm hv hz
  obtain ⟨ck, ⟨cx, cy, cw, ch⟩, aJ, l⟩ := c
  simp only [] at S zK ⊢
  go_enter Tryz.func37, Tryz.ntmps37
  go_wp2_with (first
   | (refine boxS 1 _ 26 S ?_; clear S; intro b1 eU S)
   | (refine ik 11 rfl ?_; refine p_ k23 23 rfl 11 S ?_; clear S; intro Ae ce oe fM S HKe; obtain ⟨iK, mi, mr, mD, mF, oH, jM⟩ := St.fF S bf)
   | (refine cZ (some 13) Tryz.func57 S (zK.out _ _ _ _ _ (S.out.tree _ (.head _))) ?_; clear S; intro iq S; clear iK mi mr mD mF oH jM)
   | fail)
  go_ret3
  exact ⟨_, _, _, _, _, rfl, rfl, S.out.below⟩
 | true =>
  have zK := ae.mk (fun b P A cc W hV => acH hm hz b P A cc W hV)
  have HAL := ae.mk (fun b P A cc W hV => @Qu W b P A cc c hz hV)
  have hs := pW hm
  have hk : ∀ k, k ∈ fU c → k.f3.length ≤ 20000 := fun k hk => by have := Z4 hk; omega
  have hlen : (fU c).length ≤ 20000 := hs
  have ht : dF c = (fU c).all pz := by unfold dF; rw [hm, Bool.true_and]; rfl
  rw [ht]
  generalize fU c = L at HAL hk hlen ⊢
  have gZ := ae.mk hlen
  have HKK := ae.mk hk
  clear hm hv hz ht hs hk hlen
  obtain ⟨ck, ⟨cx, cy, cw, ch⟩, aJ, l⟩ := c
  simp only [] at S zK HAL ⊢
  go_enter Tryz.func37, Tryz.ntmps37
  go_wp2_with (first
   | (refine boxS 1 _ 26 S ?_; clear S; intro b1 eU S)
   | (refine ik 11 rfl ?_; refine p_ k23 23 rfl 11 S ?_; clear S; intro Ae ce oe fM S HKe; obtain ⟨iK, mi, mr, mD, mF, oH, jM⟩ := St.fF S bf)
   | (refine cZ (some 13) Tryz.func57 S (zK.out _ _ _ _ _ (S.out.tree _ (.head _))) ?_; clear S; intro iq S; clear iK mi mr mD mF oH jM; obtain ⟨iK, mi, mr, mD, mF, oH, jM⟩ := St.fF S bf)
   | (refine uO (some 17) Tryz.func5 S (HAL.out _ _ _ _ _ (S.out.tree _ (.head _))) ?_; clear S; intro Aa ca jD S; clear iK mi mr mD mF oH jM)
   | (refine ik 18 rfl ?_; refine p_ k23 23 rfl 18 S ?_; clear S; intro Ap cp op mQ S jI)
   | fail)
  go_loopg [7, 21] L.length (fun gg v7 v21 wr => ∃ (pre rest : List ai) (out : List dW) (Ap : Option Addr) (cp : Nat) (op : Obj), v7 = .slice Ap out.length cp ∧ v21 = .int .i64 (pre.length : Int) ∧ ae (pre ++ rest = L) ∧ ae (pre.all pz = true) ∧ ae (out.length ≤ 20000 * pre.length) ∧ rest.length ≤ gg ∧ ae (KR k23 23 w.heap.size (.slice Ap out.length cp) out op) ∧ ae (St w P [((Value.slice Ap out.length cp).ownBlock, op), ((Value.slice Ae 0 ce).ownBlock, oe), (some b1, .cells #[.int .u8 ck, .int .i64 cx, .int .i64 cy, .int .i64 cw, .int .i64 ch, .int .i64 aJ, .slice A l.length cc] 26 (0, 0))] [] [(.slice Aa L.length ca, L), (.slice A l.length cc, l)] [] wr))
  case atStart => exact ⟨[], L, [], _, _, _, rfl, rfl, ⟨rfl⟩, ⟨rfl⟩, ⟨Nat.zero_le _⟩, Nat.le_refl _, jI, S⟩
  case round =>
   clear S jI
   obtain ⟨pre, rest, out, Ap, cp, op, rfl, rfl, HE, HA, HOL, hgg, jI, S⟩ := hrel
   cases rest with
   | nil =>
    have hE := HE.out
    rw [List.append_nil] at hE
    have hE2 := hE.symm
    subst hE2
    clear hE HE hgg
    have hlt : ¬ ((L.length : Int) < (L.length : Int)) := by omega
    go_wp2
    go_ret3
    exact ⟨_, _, _, _, ⟨_, rfl⟩, HA.out.symm, S.out.below⟩
   | cons k rest =>
    have ZP := ae.mk (HKK.out k (by rw [← HE.out]; simp))
    have Xg := ae.mk (show k.f3.length ≤ 1000000 by have := ZP.out; omega)
    have amE := ae.mk (show pre.length ≤ 20000 by have := gZ.out; rw [← HE.out, List.length_append] at this; omega)
    have hk : k ∈ L := by rw [← HE.out]; simp
    have hlt : (pre.length : Int) < (L.length : Int) := by rw [← HE.out, List.length_append, List.length_cons]; omega
    have hw1 : wrap64 ((pre.length : Int) + 1) = ((pre ++ [k]).length : Int) := by have := gZ.out; rw [List.length_append, List.length_singleton]; unfold wrap64; omega
    have HW1 := ae.mk hw1
    have jl := ae.mk hgg
    have HK := ae.mk hk
    have wI := ae.mk (show pre.length ≤ 1048576 by have := gZ.out; omega)
    obtain ⟨ed, ua, uc, ek, S1⟩ := S.out.elem (.head _) (pre.length : Int) (Int.natCast_nonneg _) hlt
    subst ek
    have hrd : aj L (pre.length : Int) = k := by rw [← HE.out]; exact jd pre k rest
    rw [hrd] at S1
    simp only [Int.toNat_natCast] at S1
    replace S := ae.mk S1
    clear S1 hrd hk hgg hw1
    cases ho : pz k with
    | false =>
     have HO := ae.mk ho
     clear ho
     obtain ⟨iP, iQ, iR, iC, iD, jk, jE⟩ := St.yA S
     go_wp2_with (first
      | (refine lK (some 29) Tryz.func58 (ai6 k HO.out Xg.out (S.out.tree _ (.head _))) ?_; rintro e eU ⟨Ax, nx, cx', rfl, hb⟩; refine ⟨_, rfl, ?_⟩; replace S := ae.mk (S.out.call hb); clear hb; clear iP iQ iR iC iD jk jE)
      | fail)
     go_ret3
     exact ⟨_, _, _, _, _, rfl, (by rw [← HE.out, List.all_append, List.all_cons, HO.out, Bool.false_and, Bool.and_false]; rfl), S.out.below⟩
    | true =>
     have HO := ae.mk ho
     clear ho
     obtain ⟨iP, iQ, iR, iC, iD, jk, jE⟩ := St.yA S
     go_wp2_with (first
      | (refine lK (some 29) Tryz.func58 (afj k HO.out Xg.out (S.out.tree _ (.head _))) ?_; rintro e eU ⟨Ax, cx', ls, rfl, h0, h1, hb⟩; refine ⟨_, rfl, ?_⟩; obtain ⟨ox, S1, hI⟩ := S.out.WA (d := k23) (e := 23) rfl h1 hb; replace S := ae.mk S1; have HKx := ae.mk hI; have JY := ae.mk h0; clear S1 hI h0 h1 hb; clear iP iQ iR iC iD jk jE)
      | (refine ik 38 rfl ?_; at_builtin; replace S := ae.mk S.out.wK; refine Z8 k23 23 rfl 36 37 67 _ 32 Tryz.underlying67 info23 rfl (by decide) (by decide) (by decide) S jI ls (agP HKx.out S.out bf).1 (fun _ _ _ _ _ h => h) (by have := HOL.out; have := JY.out; have := ZP.out; have := amE.out; omega) ?_; clear S jI; intro PN cp2 SN fM S jI)
      | fail)
     have hw1 := HW1.out
     go_wp2
     go_roundg rest.length
     case measure => exact Nat.lt_of_lt_of_le (Nat.lt_succ_self _) jl.out
     case rel => exact ⟨pre ++ [k], rest, out ++ ls, _, _, _, (by rw [List.length_append]), (by rw [hw1]), ⟨by rw [List.append_assoc]; exact HE.out⟩, ⟨by rw [List.all_append, HA.out, List.all_cons, HO.out]; rfl⟩, ⟨by have := HOL.out; have := JY.out; have := ZP.out; rw [List.length_append, List.length_append, List.length_singleton]; omega⟩, Nat.le_refl _, jI, ⟨S.out.wK.eP.OI.OI.OI.bD.aG.aG.aG.aG.aG.aG.aG⟩⟩
theorem abA (c : ai) (hz : sz c ≤ 1048576) (b : Nat) (P : Nat → Prop) (A : Option Addr) (cc : Nat) (w : World) (hv : Kd.V k26 26 w b P (.slice A c.f3.length cc) c.f3) :
  Calls Tryz.prog 20 #[.agg #[.int .u8 c.f0, .int .i64 c.f1.f0, .int .i64 c.f1.f1, .int .i64 c.f1.f2, .int .i64 c.f1.f3, .int .i64 c.f2, .slice A c.f3.length cc]] w fun e w' => e = .returned (.bool (dF c)) ∧ Below w.heap.size w w' := by
 have S := ae.mk (St.start (ts := [(.slice A c.f3.length cc, c.f3)]) (b0 := w.heap.size) (w := w) (P := P) (fun t ht => by rw [List.mem_singleton.1 ht]; exact d_ hv))
 have HCH := ae.mk (fun b P A cc W hV => aal c hz b P A cc W hV)
 unfold PQ at HCH
 generalize dF c = v at HCH ⊢
 clear hv hz
 obtain ⟨ck, ⟨cx, cy, cw, ch⟩, aJ, l⟩ := c
 simp only [] at S HCH ⊢
 go_enter Tryz.func20, Tryz.ntmps20
 go_wp2_with (first
  | (refine boxS 1 _ 26 S ?_; clear S; intro b1 eU S; obtain ⟨iK, mi, mr, mD, mF, oH, jM⟩ := St.fF S (.head _))
  | (refine lK (some 8) Tryz.func37 (HCH.out _ _ _ _ _ (S.out.tree _ (.head _))) ?_; rintro e fM ⟨Ax, nx, cx', n1, n2, rfl, hn, hb⟩; refine ⟨_, rfl, ?_⟩; have hn2 : decide (n1 = 0) = v := (by rw [← hn]; by_cases h : n1 = 0 <;> simp [h]); replace S := ae.mk (S.out.call hb); clear hb; clear iK mi mr mD mF oH jM)
  | fail)
 go_ret
 exact ⟨rfl, S.out.below⟩
def o8.f (_ : Nat) (a0 a1 a2 a3 a4 a5 : Int) (l : List ai) : Option Bool := if sz ⟨a0, ⟨a1, a2, a3, a4⟩, a5, l⟩ ≤ 1048576 then some (dF ⟨a0, ⟨a1, a2, a3, a4⟩, a5, l⟩) else none
theorem o8.calls (k : Nat) (az : Int) (aI : Int) (aC : Int) (aH : Int) (bu : Int) (bC : Int) (dP : Option Addr) (dQ : Nat) (aK : List (ai)) (r : Bool) (w : World) (pR : Kd.C k26 w dP aK.length aK) (qL : aK.length ≤ dQ) (h : o8.f k az aI aC aH bu bC aK = some r) :
  Calls Tryz.prog 20 #[.agg #[.int .u8 az, .int .i64 aI, .int .i64 aC, .int .i64 aH, .int .i64 bu, .int .i64 bC, .slice dP aK.length dQ]] w fun e w' => e = .returned (.bool r) ∧ Below w.heap.size w w' := by
 unfold o8.f at h
 split at h
 ·rename_i hz
  injection h with h
  subst h
  exact abA ⟨az, ⟨aI, aC, aH, bu⟩, bC, aK⟩ hz w.heap.size (fun _ => True) dP dQ w (Kd.wR qL (Kd.uo (Kd.F7 ql pR) (fun _ _ => trivial)))
 ·cases h
theorem Tn (c : ai) (hz : sz c ≤ 1048576) : Ev (fun k => o8.f k c.f0 c.f1.f0 c.f1.f1 c.f1.f2 c.f1.f3 c.f2 c.f3) (dF c) := by
 refine Ev.congr (f := fun _ => some (dF c)) (fun k => ?_) (Ev.now _)
 unfold o8.f
 rw [Ik, if_pos hz]
end Go.Proofs.YtfdmfgaiblfbhaaGreat.P
namespace Go.Proofs.YtfdmfgaiblfbhaaGreat.P
open Go.RowKit Go.Proofs.ag.aU Go.Proofs.ag.bK Go.Proofs.ag.cO
attribute [local go_sem] jG jR kQ lq jJ jK kT kU
def rG.f (az : Int) (aI : Int) (aC : Int) (aH : Int) (bu : Int) (bC : Int) (aK : List (ai)) (a1 : Int) : Option (Bool) := if az = 2 then (if a1 = 1 then (some true) else (if az = 3 then (some (a1 == 2)) else (some false))) else (if az = 3 then (some (a1 == 2)) else (some false))
theorem rG.calls (az : Int) (aI : Int) (aC : Int) (aH : Int) (bu : Int) (bC : Int) (dP : Option Addr) (dQ : Nat) (aK : List (ai)) (a1 : Int) (r : Bool) (w : World) (pR : Kd.C k26 w dP aK.length aK) (qL : aK.length ≤ dQ) (h : rG.f az aI aC aH bu bC aK a1 = some r) :
  Calls Tryz.prog 78 #[.agg #[.int .u8 az, .int .i64 aI, .int .i64 aC, .int .i64 aH, .int .i64 bu, .int .i64 bC, .slice dP aK.length dQ], .int .u8 a1] w fun e w' => e = .returned (.bool r) ∧ Below w.heap.size w w' := by
 have EX := Tryz.underlying26
 clear pR qL
 have HB := ae.mk (Below.refl w.heap.size w)
 have H : (if az = 2 then (if a1 = 1 then (some true) else (if az = 3 then (some (a1 == 2)) else (some false))) else (if az = 3 then (some (a1 == 2)) else (some false))) = some r := h
 clear h
 by_cases c3 : az = 2
 ·rw [if_pos c3] at H
  have sU : (az == 2) = true := beq_iff_eq.mpr c3
  have BG : (az != 2) = false := bne_eq_false_iff_eq.mpr c3
  clear c3
  by_cases c4 : a1 = 1
  ·rw [if_pos c4] at H
   have uH : (a1 == 1) = true := beq_iff_eq.mpr c4
   have QD : (a1 != 1) = false := bne_eq_false_iff_eq.mpr c4
   clear c4
   obtain rfl := Option.some.inj H
   go_enter Tryz.func78, Tryz.ntmps78
   go_wp2_with (((with_reducible refine aA (N := 2) rfl ?_); refine aV ?hg (N := 2) ?hd (cs := #[.int .u8 az, .int .i64 aI, .int .i64 aC, .int .i64 aH, .int .i64 bu, .int .i64 bC, .slice dP aK.length dQ]) (t := 26) ?hr ?_; (case hd => rfl); (case hg => rfl); (case hr => (go_simp; done)); intro iY hg w5 hbox hb; have dV := ae.mk (hbox); replace HB := ae.mk (au (by repeat ((with_reducible exact HB.out))) hb); clear hb hbox hg; have BJ : w5.cell? ⟨iY, 0, none⟩ = some (.int .u8 az) := (af dV.out 0).trans rfl; have BK : w5.cell? ⟨iY, 1, none⟩ = some (.int .i64 aI) := (af dV.out 1).trans rfl; have BL : w5.cell? ⟨iY, 2, none⟩ = some (.int .i64 aC) := (af dV.out 2).trans rfl; have BM : w5.cell? ⟨iY, 3, none⟩ = some (.int .i64 aH) := (af dV.out 3).trans rfl; have BN : w5.cell? ⟨iY, 4, none⟩ = some (.int .i64 bu) := (af dV.out 4).trans rfl; have BO : w5.cell? ⟨iY, 5, none⟩ = some (.int .i64 bC) := (af dV.out 5).trans rfl; have BP : w5.cell? ⟨iY, 6, none⟩ = some (.slice dP aK.length dQ) := (af dV.out 6).trans rfl; have BQ := ah dV.out 0; have BR := ah dV.out 1; have BU := ah dV.out 2; have BV := ah dV.out 3; have BX := ah dV.out 4; have BZ := ah dV.out 5; have B_ := ah dV.out 6))
   go_ret
   exact ⟨by rfl, by repeat ((with_reducible exact HB.out))⟩
  ·rw [if_neg c4] at H
   have uH : (a1 == 1) = false := beq_eq_false_iff_ne.mpr c4
   have QD : (a1 != 1) = true := bne_iff_ne.mpr c4
   by_cases c7 : az = 3
   ·rw [if_pos c7] at H
    have yT : (az == 3) = true := beq_iff_eq.mpr c7
    have aai : (az != 3) = false := bne_eq_false_iff_eq.mpr c7
    clear c7
    obtain rfl := Option.some.inj H
    go_enter Tryz.func78, Tryz.ntmps78
    go_wp2_with (((with_reducible refine aA (N := 2) rfl ?_); refine aV ?hg (N := 2) ?hd (cs := #[.int .u8 az, .int .i64 aI, .int .i64 aC, .int .i64 aH, .int .i64 bu, .int .i64 bC, .slice dP aK.length dQ]) (t := 26) ?hr ?_; (case hd => rfl); (case hg => rfl); (case hr => (go_simp; done)); intro iY hg w8 hbox hb; have dV := ae.mk (hbox); replace HB := ae.mk (au (by repeat ((with_reducible exact HB.out))) hb); clear hb hbox hg; have Yd : w8.cell? ⟨iY, 0, none⟩ = some (.int .u8 az) := (af dV.out 0).trans rfl; have Ye : w8.cell? ⟨iY, 1, none⟩ = some (.int .i64 aI) := (af dV.out 1).trans rfl; have Yf : w8.cell? ⟨iY, 2, none⟩ = some (.int .i64 aC) := (af dV.out 2).trans rfl; have Yg : w8.cell? ⟨iY, 3, none⟩ = some (.int .i64 aH) := (af dV.out 3).trans rfl; have Yh : w8.cell? ⟨iY, 4, none⟩ = some (.int .i64 bu) := (af dV.out 4).trans rfl; have Yi : w8.cell? ⟨iY, 5, none⟩ = some (.int .i64 bC) := (af dV.out 5).trans rfl; have Yj : w8.cell? ⟨iY, 6, none⟩ = some (.slice dP aK.length dQ) := (af dV.out 6).trans rfl; have Yw := ah dV.out 0; have Yx := ah dV.out 1; have Yy := ah dV.out 2; have Yz := ah dV.out 3; have YA := ah dV.out 4; have YB := ah dV.out 5; have YC := ah dV.out 6))
    go_ret
    exact ⟨by rfl, by repeat ((with_reducible exact HB.out))⟩
   ·rw [if_neg c7] at H
    have yT : (az == 3) = false := beq_eq_false_iff_ne.mpr c7
    have aai : (az != 3) = true := bne_iff_ne.mpr c7
    obtain rfl := Option.some.inj H
    go_enter Tryz.func78, Tryz.ntmps78
    go_wp2_with (((with_reducible refine aA (N := 2) rfl ?_); refine aV ?hg (N := 2) ?hd (cs := #[.int .u8 az, .int .i64 aI, .int .i64 aC, .int .i64 aH, .int .i64 bu, .int .i64 bC, .slice dP aK.length dQ]) (t := 26) ?hr ?_; (case hd => rfl); (case hg => rfl); (case hr => (go_simp; done)); intro iY hg w10 hbox hb; have dV := ae.mk (hbox); replace HB := ae.mk (au (by repeat ((with_reducible exact HB.out))) hb); clear hb hbox hg; have adG : w10.cell? ⟨iY, 0, none⟩ = some (.int .u8 az) := (af dV.out 0).trans rfl; have adH : w10.cell? ⟨iY, 1, none⟩ = some (.int .i64 aI) := (af dV.out 1).trans rfl; have adI : w10.cell? ⟨iY, 2, none⟩ = some (.int .i64 aC) := (af dV.out 2).trans rfl; have adJ : w10.cell? ⟨iY, 3, none⟩ = some (.int .i64 aH) := (af dV.out 3).trans rfl; have adK : w10.cell? ⟨iY, 4, none⟩ = some (.int .i64 bu) := (af dV.out 4).trans rfl; have adL : w10.cell? ⟨iY, 5, none⟩ = some (.int .i64 bC) := (af dV.out 5).trans rfl; have adM : w10.cell? ⟨iY, 6, none⟩ = some (.slice dP aK.length dQ) := (af dV.out 6).trans rfl; have aem := ah dV.out 0; have aen := ah dV.out 1; have aeo := ah dV.out 2; have aep := ah dV.out 3; have aeq := ah dV.out 4; have aer := ah dV.out 5; have aes := ah dV.out 6))
    go_ret
    exact ⟨by rfl, by repeat ((with_reducible exact HB.out))⟩
 ·rw [if_neg c3] at H
  have sU : (az == 2) = false := beq_eq_false_iff_ne.mpr c3
  have BG : (az != 2) = true := bne_iff_ne.mpr c3
  by_cases c12 : az = 3
  ·rw [if_pos c12] at H
   have EN : (az == 3) = true := beq_iff_eq.mpr c12
   have Kt : (az != 3) = false := bne_eq_false_iff_eq.mpr c12
   clear c12
   obtain rfl := Option.some.inj H
   go_enter Tryz.func78, Tryz.ntmps78
   go_wp2_with (((with_reducible refine aA (N := 2) rfl ?_); refine aV ?hg (N := 2) ?hd (cs := #[.int .u8 az, .int .i64 aI, .int .i64 aC, .int .i64 aH, .int .i64 bu, .int .i64 bC, .slice dP aK.length dQ]) (t := 26) ?hr ?_; (case hd => rfl); (case hg => rfl); (case hr => (go_simp; done)); intro iY hg uU hbox hb; have dV := ae.mk (hbox); replace HB := ae.mk (au (by repeat ((with_reducible exact HB.out))) hb); clear hb hbox hg; have MW : uU.cell? ⟨iY, 0, none⟩ = some (.int .u8 az) := (af dV.out 0).trans rfl; have MX : uU.cell? ⟨iY, 1, none⟩ = some (.int .i64 aI) := (af dV.out 1).trans rfl; have MZ : uU.cell? ⟨iY, 2, none⟩ = some (.int .i64 aC) := (af dV.out 2).trans rfl; have M_ : uU.cell? ⟨iY, 3, none⟩ = some (.int .i64 aH) := (af dV.out 3).trans rfl; have adU : uU.cell? ⟨iY, 4, none⟩ = some (.int .i64 bu) := (af dV.out 4).trans rfl; have adV : uU.cell? ⟨iY, 5, none⟩ = some (.int .i64 bC) := (af dV.out 5).trans rfl; have adW : uU.cell? ⟨iY, 6, none⟩ = some (.slice dP aK.length dQ) := (af dV.out 6).trans rfl; have Nl := ah dV.out 0; have Np := ah dV.out 1; have Nq := ah dV.out 2; have Nr := ah dV.out 3; have aeA := ah dV.out 4; have aeB := ah dV.out 5; have aeC := ah dV.out 6))
   go_ret
   exact ⟨by rfl, by repeat ((with_reducible exact HB.out))⟩
  ·rw [if_neg c12] at H
   have EN : (az == 3) = false := beq_eq_false_iff_ne.mpr c12
   have Kt : (az != 3) = true := bne_iff_ne.mpr c12
   obtain rfl := Option.some.inj H
   go_enter Tryz.func78, Tryz.ntmps78
   go_wp2_with (((with_reducible refine aA (N := 2) rfl ?_); refine aV ?hg (N := 2) ?hd (cs := #[.int .u8 az, .int .i64 aI, .int .i64 aC, .int .i64 aH, .int .i64 bu, .int .i64 bC, .slice dP aK.length dQ]) (t := 26) ?hr ?_; (case hd => rfl); (case hg => rfl); (case hr => (go_simp; done)); intro iY hg wP hbox hb; have dV := ae.mk (hbox); replace HB := ae.mk (au (by repeat ((with_reducible exact HB.out))) hb); clear hb hbox hg; have UC : wP.cell? ⟨iY, 0, none⟩ = some (.int .u8 az) := (af dV.out 0).trans rfl; have UD : wP.cell? ⟨iY, 1, none⟩ = some (.int .i64 aI) := (af dV.out 1).trans rfl; have UE : wP.cell? ⟨iY, 2, none⟩ = some (.int .i64 aC) := (af dV.out 2).trans rfl; have UF : wP.cell? ⟨iY, 3, none⟩ = some (.int .i64 aH) := (af dV.out 3).trans rfl; have adX : wP.cell? ⟨iY, 4, none⟩ = some (.int .i64 bu) := (af dV.out 4).trans rfl; have adY : wP.cell? ⟨iY, 5, none⟩ = some (.int .i64 bC) := (af dV.out 5).trans rfl; have adZ : wP.cell? ⟨iY, 6, none⟩ = some (.slice dP aK.length dQ) := (af dV.out 6).trans rfl; have UK := ah dV.out 0; have UL := ah dV.out 1; have UM := ah dV.out 2; have UN := ah dV.out 3; have aeD := ah dV.out 4; have aeE := ah dV.out 5; have aeF := ah dV.out 6))
   go_ret
   exact ⟨by rfl, by repeat ((with_reducible exact HB.out))⟩
def uC.f (az : Int) (aI : Int) (aC : Int) (aH : Int) (bu : Int) (bC : Int) (aK : List (ai)) (a1 : Int) : Option (Bool) := if az = 2 then (if a1 = 1 then (some true) else (if az = 3 then (some (a1 == 2)) else (some false))) else (if az = 3 then (some (a1 == 2)) else (some false))
theorem uC.calls (az : Int) (aI : Int) (aC : Int) (aH : Int) (bu : Int) (bC : Int) (dP : Option Addr) (dQ : Nat) (aK : List (ai)) (a1 : Int) (r : Bool) (w : World) (pR : Kd.C k26 w dP aK.length aK) (qL : aK.length ≤ dQ) (h : uC.f az aI aC aH bu bC aK a1 = some r) :
  Calls Tryz.prog 49 #[.agg #[.int .u8 az, .int .i64 aI, .int .i64 aC, .int .i64 aH, .int .i64 bu, .int .i64 bC, .slice dP aK.length dQ], .int .u8 a1] w fun e w' => e = .returned (.bool r) ∧ Below w.heap.size w w' := by
 have EX := Tryz.underlying26
 clear pR qL
 have HB := ae.mk (Below.refl w.heap.size w)
 have H : (if az = 2 then (if a1 = 1 then (some true) else (if az = 3 then (some (a1 == 2)) else (some false))) else (if az = 3 then (some (a1 == 2)) else (some false))) = some r := h
 clear h
 by_cases c3 : az = 2
 ·rw [if_pos c3] at H
  have sU : (az == 2) = true := beq_iff_eq.mpr c3
  have BG : (az != 2) = false := bne_eq_false_iff_eq.mpr c3
  clear c3
  by_cases c4 : a1 = 1
  ·rw [if_pos c4] at H
   have uH : (a1 == 1) = true := beq_iff_eq.mpr c4
   have QD : (a1 != 1) = false := bne_eq_false_iff_eq.mpr c4
   clear c4
   obtain rfl := Option.some.inj H
   go_enter Tryz.func49, Tryz.ntmps49
   go_wp2_with (((with_reducible refine aA (N := 2) rfl ?_); refine aV ?hg (N := 2) ?hd (cs := #[.int .u8 az, .int .i64 aI, .int .i64 aC, .int .i64 aH, .int .i64 bu, .int .i64 bC, .slice dP aK.length dQ]) (t := 26) ?hr ?_; (case hd => rfl); (case hg => rfl); (case hr => (go_simp; done)); intro iW hg w5 hbox hb; have dU := ae.mk (hbox); replace HB := ae.mk (au (by repeat ((with_reducible exact HB.out))) hb); clear hb hbox hg; have BJ : w5.cell? ⟨iW, 0, none⟩ = some (.int .u8 az) := (af dU.out 0).trans rfl; have BK : w5.cell? ⟨iW, 1, none⟩ = some (.int .i64 aI) := (af dU.out 1).trans rfl; have BL : w5.cell? ⟨iW, 2, none⟩ = some (.int .i64 aC) := (af dU.out 2).trans rfl; have BM : w5.cell? ⟨iW, 3, none⟩ = some (.int .i64 aH) := (af dU.out 3).trans rfl; have BN : w5.cell? ⟨iW, 4, none⟩ = some (.int .i64 bu) := (af dU.out 4).trans rfl; have BO : w5.cell? ⟨iW, 5, none⟩ = some (.int .i64 bC) := (af dU.out 5).trans rfl; have BP : w5.cell? ⟨iW, 6, none⟩ = some (.slice dP aK.length dQ) := (af dU.out 6).trans rfl; have BQ := ah dU.out 0; have BR := ah dU.out 1; have BU := ah dU.out 2; have BV := ah dU.out 3; have BX := ah dU.out 4; have BZ := ah dU.out 5; have B_ := ah dU.out 6))
   go_ret
   exact ⟨by rfl, by repeat ((with_reducible exact HB.out))⟩
  ·rw [if_neg c4] at H
   have uH : (a1 == 1) = false := beq_eq_false_iff_ne.mpr c4
   have QD : (a1 != 1) = true := bne_iff_ne.mpr c4
   by_cases c7 : az = 3
   ·rw [if_pos c7] at H
    have yT : (az == 3) = true := beq_iff_eq.mpr c7
    have aai : (az != 3) = false := bne_eq_false_iff_eq.mpr c7
    clear c7
    obtain rfl := Option.some.inj H
    go_enter Tryz.func49, Tryz.ntmps49
    go_wp2_with (((with_reducible refine aA (N := 2) rfl ?_); refine aV ?hg (N := 2) ?hd (cs := #[.int .u8 az, .int .i64 aI, .int .i64 aC, .int .i64 aH, .int .i64 bu, .int .i64 bC, .slice dP aK.length dQ]) (t := 26) ?hr ?_; (case hd => rfl); (case hg => rfl); (case hr => (go_simp; done)); intro iW hg w8 hbox hb; have dU := ae.mk (hbox); replace HB := ae.mk (au (by repeat ((with_reducible exact HB.out))) hb); clear hb hbox hg; have Yd : w8.cell? ⟨iW, 0, none⟩ = some (.int .u8 az) := (af dU.out 0).trans rfl; have Ye : w8.cell? ⟨iW, 1, none⟩ = some (.int .i64 aI) := (af dU.out 1).trans rfl; have Yf : w8.cell? ⟨iW, 2, none⟩ = some (.int .i64 aC) := (af dU.out 2).trans rfl; have Yg : w8.cell? ⟨iW, 3, none⟩ = some (.int .i64 aH) := (af dU.out 3).trans rfl; have Yh : w8.cell? ⟨iW, 4, none⟩ = some (.int .i64 bu) := (af dU.out 4).trans rfl; have Yi : w8.cell? ⟨iW, 5, none⟩ = some (.int .i64 bC) := (af dU.out 5).trans rfl; have Yj : w8.cell? ⟨iW, 6, none⟩ = some (.slice dP aK.length dQ) := (af dU.out 6).trans rfl; have Yw := ah dU.out 0; have Yx := ah dU.out 1; have Yy := ah dU.out 2; have Yz := ah dU.out 3; have YA := ah dU.out 4; have YB := ah dU.out 5; have YC := ah dU.out 6))
    go_ret
    exact ⟨by rfl, by repeat ((with_reducible exact HB.out))⟩
   ·rw [if_neg c7] at H
    have yT : (az == 3) = false := beq_eq_false_iff_ne.mpr c7
    have aai : (az != 3) = true := bne_iff_ne.mpr c7
    obtain rfl := Option.some.inj H
    go_enter Tryz.func49, Tryz.ntmps49
    go_wp2_with (((with_reducible refine aA (N := 2) rfl ?_); refine aV ?hg (N := 2) ?hd (cs := #[.int .u8 az, .int .i64 aI, .int .i64 aC, .int .i64 aH, .int .i64 bu, .int .i64 bC, .slice dP aK.length dQ]) (t := 26) ?hr ?_; (case hd => rfl); (case hg => rfl); (case hr => (go_simp; done)); intro iW hg w10 hbox hb; have dU := ae.mk (hbox); replace HB := ae.mk (au (by repeat ((with_reducible exact HB.out))) hb); clear hb hbox hg; have adG : w10.cell? ⟨iW, 0, none⟩ = some (.int .u8 az) := (af dU.out 0).trans rfl; have adH : w10.cell? ⟨iW, 1, none⟩ = some (.int .i64 aI) := (af dU.out 1).trans rfl; have adI : w10.cell? ⟨iW, 2, none⟩ = some (.int .i64 aC) := (af dU.out 2).trans rfl; have adJ : w10.cell? ⟨iW, 3, none⟩ = some (.int .i64 aH) := (af dU.out 3).trans rfl; have adK : w10.cell? ⟨iW, 4, none⟩ = some (.int .i64 bu) := (af dU.out 4).trans rfl; have adL : w10.cell? ⟨iW, 5, none⟩ = some (.int .i64 bC) := (af dU.out 5).trans rfl; have adM : w10.cell? ⟨iW, 6, none⟩ = some (.slice dP aK.length dQ) := (af dU.out 6).trans rfl; have aem := ah dU.out 0; have aen := ah dU.out 1; have aeo := ah dU.out 2; have aep := ah dU.out 3; have aeq := ah dU.out 4; have aer := ah dU.out 5; have aes := ah dU.out 6))
    go_ret
    exact ⟨by rfl, by repeat ((with_reducible exact HB.out))⟩
 ·rw [if_neg c3] at H
  have sU : (az == 2) = false := beq_eq_false_iff_ne.mpr c3
  have BG : (az != 2) = true := bne_iff_ne.mpr c3
  by_cases c12 : az = 3
  ·rw [if_pos c12] at H
   have EN : (az == 3) = true := beq_iff_eq.mpr c12
   have Kt : (az != 3) = false := bne_eq_false_iff_eq.mpr c12
   clear c12
   obtain rfl := Option.some.inj H
   go_enter Tryz.func49, Tryz.ntmps49
   go_wp2_with (((with_reducible refine aA (N := 2) rfl ?_); refine aV ?hg (N := 2) ?hd (cs := #[.int .u8 az, .int .i64 aI, .int .i64 aC, .int .i64 aH, .int .i64 bu, .int .i64 bC, .slice dP aK.length dQ]) (t := 26) ?hr ?_; (case hd => rfl); (case hg => rfl); (case hr => (go_simp; done)); intro iW hg uU hbox hb; have dU := ae.mk (hbox); replace HB := ae.mk (au (by repeat ((with_reducible exact HB.out))) hb); clear hb hbox hg; have MW : uU.cell? ⟨iW, 0, none⟩ = some (.int .u8 az) := (af dU.out 0).trans rfl; have MX : uU.cell? ⟨iW, 1, none⟩ = some (.int .i64 aI) := (af dU.out 1).trans rfl; have MZ : uU.cell? ⟨iW, 2, none⟩ = some (.int .i64 aC) := (af dU.out 2).trans rfl; have M_ : uU.cell? ⟨iW, 3, none⟩ = some (.int .i64 aH) := (af dU.out 3).trans rfl; have adU : uU.cell? ⟨iW, 4, none⟩ = some (.int .i64 bu) := (af dU.out 4).trans rfl; have adV : uU.cell? ⟨iW, 5, none⟩ = some (.int .i64 bC) := (af dU.out 5).trans rfl; have adW : uU.cell? ⟨iW, 6, none⟩ = some (.slice dP aK.length dQ) := (af dU.out 6).trans rfl; have Nl := ah dU.out 0; have Np := ah dU.out 1; have Nq := ah dU.out 2; have Nr := ah dU.out 3; have aeA := ah dU.out 4; have aeB := ah dU.out 5; have aeC := ah dU.out 6))
   go_ret
   exact ⟨by rfl, by repeat ((with_reducible exact HB.out))⟩
  ·rw [if_neg c12] at H
   have EN : (az == 3) = false := beq_eq_false_iff_ne.mpr c12
   have Kt : (az != 3) = true := bne_iff_ne.mpr c12
   obtain rfl := Option.some.inj H
   go_enter Tryz.func49, Tryz.ntmps49
   go_wp2_with (((with_reducible refine aA (N := 2) rfl ?_); refine aV ?hg (N := 2) ?hd (cs := #[.int .u8 az, .int .i64 aI, .int .i64 aC, .int .i64 aH, .int .i64 bu, .int .i64 bC, .slice dP aK.length dQ]) (t := 26) ?hr ?_; (case hd => rfl); (case hg => rfl); (case hr => (go_simp; done)); intro iW hg wP hbox hb; have dU := ae.mk (hbox); replace HB := ae.mk (au (by repeat ((with_reducible exact HB.out))) hb); clear hb hbox hg; have UC : wP.cell? ⟨iW, 0, none⟩ = some (.int .u8 az) := (af dU.out 0).trans rfl; have UD : wP.cell? ⟨iW, 1, none⟩ = some (.int .i64 aI) := (af dU.out 1).trans rfl; have UE : wP.cell? ⟨iW, 2, none⟩ = some (.int .i64 aC) := (af dU.out 2).trans rfl; have UF : wP.cell? ⟨iW, 3, none⟩ = some (.int .i64 aH) := (af dU.out 3).trans rfl; have adX : wP.cell? ⟨iW, 4, none⟩ = some (.int .i64 bu) := (af dU.out 4).trans rfl; have adY : wP.cell? ⟨iW, 5, none⟩ = some (.int .i64 bC) := (af dU.out 5).trans rfl; have adZ : wP.cell? ⟨iW, 6, none⟩ = some (.slice dP aK.length dQ) := (af dU.out 6).trans rfl; have UK := ah dU.out 0; have UL := ah dU.out 1; have UM := ah dU.out 2; have UN := ah dU.out 3; have aeD := ah dU.out 4; have aeE := ah dU.out 5; have aeF := ah dU.out 6))
   go_ret
   exact ⟨by rfl, by repeat ((with_reducible exact HB.out))⟩
end Go.Proofs.YtfdmfgaiblfbhaaGreat.P
namespace Go.Proofs.YtfdmfgaiblfbhaaGreat.P
open Go.RowKit Go.Proofs.ag.aU Go.Proofs.ag.bK Go.Proofs.ag.cO
def iF (ax k : Int) : Bool := (k == 2 && ax == 1) || (k == 3 && ax == 2)
theorem EL (c : ai) (ax : Int) : uC.f c.f0 c.f1.f0 c.f1.f1 c.f1.f2 c.f1.f3 c.f2 c.f3 ax = some (iF ax c.f0) := by
 unfold uC.f iF
 by_cases h2 : c.f0 = 2
 ·by_cases h1 : ax = 1
  ·rw [if_pos h2, if_pos h1]; simp [h2, h1]
  ·rw [if_pos h2, if_neg h1, if_neg (by omega)]; simp [h2, h1]
 ·rw [if_neg h2]
  by_cases h3 : c.f0 = 3
  ·rw [if_pos h3]; simp [h3]
  ·rw [if_neg h3]; simp [h2, h3]
theorem IV (c : ai) (ax : Int) : rG.f c.f0 c.f1.f0 c.f1.f1 c.f1.f2 c.f1.f3 c.f2 c.f3 ax = some (iF ax c.f0) := EL c ax
mutual
def dG (ax : Int) : ai → Int
 | ⟨a, _, _, l⟩ => if a = 1 then 1 else if iF ax a = true then ((l.length : Int) - 1) + oz ax l else nR ax 0 l
def oz (ax : Int) : List ai → Int
 | [] => 0
 | k :: ks => dG ax k + oz ax ks
def nR (ax : Int) : Int → List ai → Int
 | m, [] => m
 | m, k :: ks => nR ax (mx m (dG ax k)) ks
end
theorem rq (ax : Int) (c : ai) : dG ax c = if c.f0 = 1 then 1 else if iF ax c.f0 = true then ((c.f3.length : Int) - 1) + oz ax c.f3 else nR ax 0 c.f3 := by cases c; simp [dG]
theorem vN (ax : Int) : oz ax [] = 0 := by simp [oz]
theorem rM (ax : Int) (k : ai) (ks : List ai) : oz ax (k :: ks) = dG ax k + oz ax ks := by simp [oz]
theorem abI (ax : Int) (a b : List ai) : oz ax (a ++ b) = oz ax a + oz ax b := by
 induction a with
 | nil => rw [List.nil_append, vN]; omega
 | cons x xs ih => rw [List.cons_append, rM, rM, ih]; omega
theorem tN (ax m : Int) : nR ax m [] = m := by simp [nR]
theorem mJ (ax m : Int) (k : ai) (ks : List ai) : nR ax m (k :: ks) = nR ax (mx m (dG ax k)) ks := by simp [nR]
theorem acJ {a b c : Int} (h : a ≤ c) (k : b ≤ c) : mx a b ≤ c := by unfold mx; split <;> omega
theorem YN (a b : Int) : a ≤ mx a b := by unfold mx; split <;> omega
theorem YO (a b : Int) : b ≤ mx a b := by unfold mx; split <;> omega
theorem OU (ax : Int) : ∀ (N : Nat), (∀ c : ai, sz c ≤ N → -(sz c : Int) ≤ dG ax c ∧ dG ax c ≤ 2 * (sz c : Int) - 1) ∧
  (∀ l : List ai, dY l ≤ N → -(dY l : Int) ≤ oz ax l ∧ oz ax l ≤ 2 * (dY l : Int) - (l.length : Int)) ∧ (∀ l : List ai, dY l ≤ N → ∀ m : Int, m ≤ nR ax m l ∧ ∀ u, m ≤ u → 2 * (dY l : Int) ≤ u → nR ax m l ≤ u) := by
 intro N
 induction N with
 | zero =>
  refine ⟨fun c h => ?_, fun l h => ?_, fun l h => ?_⟩
  ·rw [bJ] at h; omega
  ·cases l with
   | nil => rw [vN, l9]; simp
   | cons z zs => rw [bH, bJ] at h; omega
  ·cases l with
   | nil => intro m; rw [tN]; exact ⟨Int.le_refl _, fun u h _ => h⟩
   | cons z zs => rw [bH, bJ] at h; omega
 | succ N ih =>
  have hC : ∀ c : ai, sz c ≤ N + 1 → -(sz c : Int) ≤ dG ax c ∧ dG ax c ≤ 2 * (sz c : Int) - 1 := by
   intro c h
   have hs := bJ c
   have h1 := ih.2.1 c.f3 (by omega)
   have h2 := ih.2.2 c.f3 (by omega) 0
   have h3 := h2.2 (2 * (dY c.f3 : Int)) (by omega) (Int.le_refl _)
   rw [rq]
   split
   ·omega
   ·split
    ·omega
    ·omega
  refine ⟨hC, fun l => ?_, fun l => ?_⟩
  ·induction l with
   | nil => intro _; rw [vN, l9]; simp
   | cons x xs ihl =>
    intro h
    rw [bH] at h ⊢
    have h1 := hC x (by omega)
    have h2 := ihl (by omega)
    rw [rM, List.length_cons]
    omega
  ·induction l with
   | nil => intro _ m; rw [tN]; exact ⟨Int.le_refl _, fun u h _ => h⟩
   | cons x xs ihl =>
    intro h m
    rw [bH] at h ⊢
    have h1 := hC x (by omega)
    have h2 := ihl (by omega) (mx m (dG ax x))
    rw [mJ]
    refine ⟨Int.le_trans (YN m (dG ax x)) h2.1, fun u hu hu2 => h2.2 u (acJ hu (by omega)) (by omega)⟩
theorem xU {c x : ai} (h : (fU c).all mg = true) (hx : x ∈ c.f3) : (fU x).all mg = true := by
 rw [lZ, List.all_cons, Bool.and_eq_true] at h
 obtain ⟨p, q, e⟩ := List.append_of_mem hx
 have h2 := h.2
 rw [e, uf, iE, List.all_append, List.all_append] at h2
 simp only [Bool.and_eq_true] at h2
 exact h2.2.1
theorem lM {c : ai} (h : (fU c).all mg = true) : mg c = true := by
 rw [lZ, List.all_cons, Bool.and_eq_true] at h
 exact h.1
theorem qm {c : ai} (h : mg c = true) : (c.f0 = 1 ∧ c.f3.length = 0) ∨ ((c.f0 = 2 ∨ c.f0 = 3) ∧ 2 ≤ c.f3.length) := by
 unfold mg at h
 simp only [Bool.and_eq_true, decide_eq_true_eq] at h
 obtain ⟨⟨⟨_, h1⟩, h2⟩, h3⟩ := h
 by_cases e : c.f0 = 1
 ·exact .inl ⟨e, (h2 e).1⟩
 ·exact .inr ⟨by omega, (h3 (by omega)).1⟩
theorem Fa (ax m : Int) (l : List ai) (k : ai) : nR ax m (l ++ [k]) = mx (nR ax m l) (dG ax k) := by
 induction l generalizing m with
 | nil => rw [List.nil_append, mJ, tN, tN]
 | cons x xs ih => rw [List.cons_append, mJ, mJ, ih]
def yF (ax : Int) (a : Bool) (pre : List ai) : Int := if a = true then oz ax pre + (if pre.length = 0 then 0 else (pre.length : Int) - 1) else nR ax 0 pre
theorem He (ax : Int) (pre : List ai) (k : ai) : oz ax (pre ++ [k]) = oz ax pre + dG ax k := by rw [abI, rM, vN, Int.add_zero]
theorem TC {ax : Int} {pre : List ai} {k : ai} (h : dY pre + sz k ≤ 1048576) : -2097152 ≤ oz ax pre ∧ oz ax pre ≤ 2097152 ∧ -2097152 ≤ dG ax k ∧ dG ax k ≤ 2097152 := by
 have b1 := (OU ax (sz k)).1 k (Nat.le_refl _)
 have b2 := (OU ax (dY pre)).2.1 pre (Nat.le_refl _)
 omega
theorem Y0 {ax : Int} {pre : List ai} {k : ai} (h : dY pre + sz k ≤ 1048576) (hp : pre.length = 0) : wrap64 (yF ax true pre + dG ax k) = yF ax true (pre ++ [k]) := by
 have b := TC (ax := ax) h
 unfold yF
 rw [if_pos rfl, if_pos rfl, if_pos hp, He, List.length_append, List.length_singleton, hp, if_neg (by omega), wq (by omega) (by omega)]
 omega
theorem abd {ax : Int} {pre : List ai} {k : ai} (h : dY pre + sz k ≤ 1048576) (hp : 0 < pre.length) : wrap64 (wrap64 (yF ax true pre + dG ax k) + 1) = yF ax true (pre ++ [k]) := by
 have b := TC (ax := ax) h
 have hl := jf pre
 unfold yF
 rw [if_pos rfl, if_pos rfl, if_neg (by omega), He, List.length_append, List.length_singleton, if_neg (by omega), wq (x := oz ax pre + ((pre.length : Int) - 1) + dG ax k) (by omega) (by omega), wq (by omega) (by omega)]
 omega
theorem ai3 {ax : Int} {pre : List ai} {k : ai} (h : yF ax false pre < dG ax k) : dG ax k = yF ax false (pre ++ [k]) := by
 unfold yF at h ⊢
 rw [if_neg (by simp)] at h ⊢
 rw [Fa]
 unfold mx
 split <;> omega
theorem abe {ax : Int} {pre : List ai} {k : ai} (h : ¬ yF ax false pre < dG ax k) : yF ax false pre = yF ax false (pre ++ [k]) := by
 unfold yF at h ⊢
 rw [if_neg (by simp)] at h ⊢
 rw [if_neg (by simp), Fa]
 unfold mx
 split <;> omega
theorem U3 {ax : Int} {c : ai} (h1 : ¬ c.f0 = 1) (h2 : c.f3.length ≠ 0) : yF ax (iF ax c.f0) c.f3 = dG ax c := by
 rw [rq, if_neg h1]
 unfold yF
 rw [if_neg h2]
 split <;> omega
theorem V7 {ax : Int} {pre : List ai} {k : ai} {n : Int} (h : dY pre + sz k ≤ 1048576) (hn : -1 ≤ n ∧ n ≤ 1048576) : wrap64 (n + oz ax pre + dG ax k) = n + oz ax (pre ++ [k]) := by
 have b := TC (ax := ax) h
 rw [He, wq (by omega) (by omega)]
 omega
theorem GU (l : List ai) (i : Int) (h0 : 0 ≤ i) (h1 : i < (l.length : Int)) : aj l i ∈ l := by
 unfold aj
 rw [List.getD_eq_getElem?_getD, List.getElem?_eq_getElem (by omega), Option.getD_some]
 exact List.getElem_mem _
theorem nS {l : List ai} {k : ai} (h : k ∈ l) : sz k ≤ dY l := by
 obtain ⟨p, q, e⟩ := List.append_of_mem h
 rw [e, l7, bH]
 omega
def jX (c : ai) : List Int → Option ai
 | [] => some c
 | i :: is => if i < 0 ∨ i ≥ (c.f3.length : Int) then none else jX (aj c.f3 i) is
end Go.Proofs.YtfdmfgaiblfbhaaGreat.P
namespace Go.Proofs.YtfdmfgaiblfbhaaGreat.P
open Go.RowKit Go.Proofs.ag.aU Go.Proofs.ag.bK Go.Proofs.ag.cO
attribute [local go_sem] jG kQ
section
variable {W : World} {b : Nat} {P : Nat → Prop} {A : Option Addr} {cc : Nat}
theorem Uj {c : ai} {ax : Int} {v : Bool} (h : iF ax c.f0 = v) (hV : Kd.V k26 26 W b P (.slice A c.f3.length cc) c.f3) :
  Calls Tryz.prog 49 #[.agg #[.int .u8 c.f0, .int .i64 c.f1.f0, .int .i64 c.f1.f1, .int .i64 c.f1.f2, .int .i64 c.f1.f3, .int .i64 c.f2, .slice A c.f3.length cc], .int .u8 ax] W fun e w' => e = .returned (.bool v) ∧ Below W.heap.size W w' :=
 have h2 := Kd.lF hV
 uC.calls _ _ _ _ _ _ A cc c.f3 ax _ W h2.2.2 h2.2.1 ((EL c ax).trans (congrArg some h))
end
theorem aa4 (ax : Int) : ∀ (N : Nat) (c : ai), sz c ≤ N → N ≤ 1048576 → ∀ (b : Nat) (P : Nat → Prop) (A : Option Addr) (cc : Nat) (w : World), Kd.V k26 26 w b P (.slice A c.f3.length cc) c.f3 →
  Calls Tryz.prog 55 #[.agg #[.int .u8 c.f0, .int .i64 c.f1.f0, .int .i64 c.f1.f1, .int .i64 c.f1.f2, .int .i64 c.f1.f3, .int .i64 c.f2, .slice A c.f3.length cc], .int .u8 ax] w fun e w' => e = .returned (.int .i64 (dG ax c)) ∧ Below w.heap.size w w' := by
 intro N
 induction N with
 | zero => intro c h; rw [bJ] at h; omega
 | succ N ih =>
  intro c hc hN b P A cc w hv
  have hsz := bJ c
  have hlen := jf c.f3
  have S := ae.mk (St.start (ts := [(.slice A c.f3.length cc, c.f3)]) (b0 := w.heap.size) (w := w) (P := P) (fun t ht => by rw [List.mem_singleton.1 ht]; exact d_ hv))
  have gZ := ae.mk (show c.f3.length ≤ 1048576 by omega)
  have Gg := ae.mk (show dY c.f3 ≤ 1048576 by omega)
  have IH := ae.mk fun (k : ai) (hk : k ∈ c.f3) A cc w {b P} h => ih k (by have := nS hk; omega) (by omega) b P A cc w h
  have hE := fun h1 h2 => @U3 ax c h1 h2
  have hL := rq ax c
  generalize dG ax c = R at hE hL ⊢
  obtain ⟨ck, ⟨cx, cy, cw, ch⟩, aJ, l⟩ := c
  simp only [] at S gZ Gg IH hE hL ⊢
  clear ih hc hN hv hsz hlen
  by_cases h1 : ck = 1
  case pos =>
   have HR := ae.mk (show R = 1 by rw [hL, if_pos h1])
   obtain ⟨h1a, h1b, h1d⟩ := yB (a := ck) (b := 1) (by omega)
   clear h1 hE hL
   go_enter Tryz.func55, Tryz.ntmps55
   go_wp2_with ((refine boxS 2 _ 26 S ?_; clear S; intro b2 eU S; have bG := (S.out.at (.head _) 0).trans rfl))
   clear bG
   go_ret
   rw [HR.out]
   exact ⟨rfl, S.out.below⟩
  rw [if_neg h1] at hL
  have HR := ae.mk hL
  obtain ⟨h1a, h1b, h1d⟩ := eqF (a := ck) (b := 1) (by omega)
  have HWL := ae.mk (show wrap64 ((l.length : Int) - 1) = (l.length : Int) - 1 by have := gZ.out; unfold wrap64; omega)
  clear h1 hE hL
  go_enter Tryz.func55, Tryz.ntmps55
  go_wp2_with ((refine boxS 2 _ 26 S ?_; clear S; intro b2 fM S; have bG := (S.out.at (.head _) 0).trans rfl; have a_ := (S.out.at (.head _) 6).trans rfl))
  clear bG a_
  go_loopg [5, 6, 20] l.length (fun gg v5 v6 v20 wr => ∃ (pre rest : List ai), v5 = .int .i64 ((l.length : Int) - 1 + oz ax pre) ∧ v6 = .int .i64 (nR ax 0 pre) ∧ v20 = .int .i64 (pre.length : Int) ∧ ae (pre ++ rest = l) ∧ rest.length ≤ gg ∧ ae (St w P [(some b2, .cells #[.int .u8 ck, .int .i64 cx, .int .i64 cy, .int .i64 cw, .int .i64 ch, .int .i64 aJ, .slice A l.length cc] 26 (0, 0))] [] [(.slice A l.length cc, l)] [] wr))
  case atStart => exact ⟨[], l, (by rw [vN, Int.add_zero, HWL.out]), (by rw [tN]), rfl, ⟨rfl⟩, Nat.le_refl _, S⟩
  case round =>
   clear S
   obtain ⟨pre, rest, rfl, rfl, rfl, HE, hgg, S⟩ := hrel
   cases rest with
   | nil =>
    have hE := HE.out
    rw [List.append_nil] at hE
    have hE2 := hE.symm
    subst hE2
    clear hE HE hgg
    have hlt : ¬ ((l.length : Int) < (l.length : Int)) := by omega
    cases ha : iF ax ck with
    | true =>
     have HA := ae.mk ha
     rw [ha] at HR
     clear ha
     obtain ⟨bG, bP, bQ, bY, bZ, b_, a_⟩ := St.fF S (.head _)
     go_wp2_with ((refine cZ (some 36) Tryz.func49 S (Uj (c := ⟨ck, ⟨cx, cy, cw, ch⟩, aJ, l⟩) HA.out (S.out.tree _ (.head _))) ?_; clear S; intro eU S; clear bG bP bQ bY bZ b_ a_))
     go_ret
     rw [HR.out]
     exact ⟨rfl, S.out.below⟩
    | false =>
     have HA := ae.mk ha
     rw [ha] at HR
     clear ha
     obtain ⟨bG, bP, bQ, bY, bZ, b_, a_⟩ := St.fF S (.head _)
     go_wp2_with ((refine cZ (some 36) Tryz.func49 S (Uj (c := ⟨ck, ⟨cx, cy, cw, ch⟩, aJ, l⟩) HA.out (S.out.tree _ (.head _))) ?_; clear S; intro eU S; clear bG bP bQ bY bZ b_ a_))
     go_ret
     rw [HR.out]
     exact ⟨rfl, S.out.below⟩
   | cons k rest =>
    have hk : k ∈ l := by rw [← HE.out]; simp
    have hlt : (pre.length : Int) < (l.length : Int) := by rw [← HE.out, List.length_append, List.length_cons]; omega
    have hw1 : wrap64 ((pre.length : Int) + 1) = ((pre ++ [k]).length : Int) := by have := gZ.out; rw [List.length_append, List.length_singleton]; unfold wrap64; omega
    have HW1 := ae.mk hw1
    have jl := ae.mk hgg
    have HK := ae.mk hk
    have J5 := ae.mk (show dY pre + sz k ≤ 1048576 by have h := Gg.out; rw [← HE.out, l7, bH] at h; omega)
    obtain ⟨ed, ua, uc, ek, S1⟩ := S.out.elem (.head _) (pre.length : Int) (Int.natCast_nonneg _) hlt
    subst ek
    have hrd : aj l (pre.length : Int) = k := by rw [← HE.out]; exact jd pre k rest
    rw [hrd] at S1
    simp only [Int.toNat_natCast] at S1
    replace S := ae.mk S1
    clear S1 hrd hk hgg hw1
    obtain ⟨iP, iQ, iR, iC, iD, jk, jE⟩ := St.yA S
    go_wp2_with (first | (refine boxS 8 _ 26 S ?_; clear S; intro b8 eU S; clear iP iQ iR iC iD jk jE) | (refine gY 26 8 23 #[.int .u8 k.f0, .int .i64 k.f1.f0, .int .i64 k.f1.f1, .int .i64 k.f1.f2, .int .i64 k.f1.f3, .int .i64 k.f2, .slice ua k.f3.length uc] 0 7 S ?_; clear S; intro fM S; obtain ⟨akR, akS, akT, akU, akV, akW, akX⟩ := St.fF S (.head _)) | (refine cZ (some 26) Tryz.func55 S (IH.out k HK.out ua uc _ (S.out.tree _ (.head _))) ?_; clear S; intro iq S; clear akR akS akT akU akV akW akX))
    all_goals
     have hw1 := HW1.out
     go_wp2
     go_roundg rest.length
     case measure => exact Nat.lt_of_lt_of_le (Nat.lt_succ_self _) jl.out
     case rel => exact ⟨pre ++ [k], rest, (by rw [V7 J5.out (by have := gZ.out; omega)]), (by rw [Fa]; congr 1; unfold mx; split <;> omega), (by rw [hw1]), ⟨by rw [List.append_assoc]; exact HE.out⟩, Nat.le_refl _, ⟨S.out.eP.bD.aG.aG.aG.aG.aG.aG.aG⟩⟩
def m_.f (_ : Nat) (a0 a1 a2 a3 a4 a5 : Int) (l : List ai) (ax : Int) : Option Int := if sz ⟨a0, ⟨a1, a2, a3, a4⟩, a5, l⟩ ≤ 1048576 then some (dG ax ⟨a0, ⟨a1, a2, a3, a4⟩, a5, l⟩) else none
theorem m_.calls (k : Nat) (az : Int) (aI : Int) (aC : Int) (aH : Int) (bu : Int) (bC : Int) (dP : Option Addr) (dQ : Nat) (aK : List (ai)) (a1 : Int) (r : Int) (w : World) (pR : Kd.C k26 w dP aK.length aK) (qL : aK.length ≤ dQ) (h : m_.f k az aI aC aH bu bC aK a1 = some r) :
  Calls Tryz.prog 55 #[.agg #[.int .u8 az, .int .i64 aI, .int .i64 aC, .int .i64 aH, .int .i64 bu, .int .i64 bC, .slice dP aK.length dQ], .int .u8 a1] w fun e w' => e = .returned (.int .i64 r) ∧ Below w.heap.size w w' := by
 unfold m_.f at h
 split at h
 ·rename_i hz
  injection h with h
  subst h
  exact aa4 a1 _ ⟨az, ⟨aI, aC, aH, bu⟩, bC, aK⟩ (Nat.le_refl _) hz w.heap.size (fun _ => True) dP dQ w (Kd.wR qL (Kd.uo (Kd.F7 ql pR) (fun _ _ => trivial)))
 ·cases h
theorem aa5 (ax : Int) (N : Nat) (c : ai) (hc : sz c ≤ N) (hN : N ≤ 1048576) : Ev (fun k => m_.f k c.f0 c.f1.f0 c.f1.f1 c.f1.f2 c.f1.f3 c.f2 c.f3 ax) (dG ax c) := by
 refine Ev.congr (f := fun _ => some (dG ax c)) (fun k => ?_) (Ev.now _)
 unfold m_.f
 rw [Ik, if_pos (Nat.le_trans hc hN)]
end Go.Proofs.YtfdmfgaiblfbhaaGreat.P
namespace Go.Proofs.YtfdmfgaiblfbhaaGreat.P
open Go.RowKit Go.Proofs.ag.aU Go.Proofs.ag.bK Go.Proofs.ag.cO
section
variable {W : World} {b : Nat} {P : Nat → Prop} {A : Option Addr} {cc : Nat}
theorem Fq {c : ai} {ax : Int} {v : Bool} (h : iF ax c.f0 = v) (hV : Kd.V k26 26 W b P (.slice A c.f3.length cc) c.f3) :
  Calls Tryz.prog 78 #[.agg #[.int .u8 c.f0, .int .i64 c.f1.f0, .int .i64 c.f1.f1, .int .i64 c.f1.f2, .int .i64 c.f1.f3, .int .i64 c.f2, .slice A c.f3.length cc], .int .u8 ax] W fun e w' => e = .returned (.bool v) ∧ Below W.heap.size W w' :=
 have h2 := Kd.lF hV
 rG.calls _ _ _ _ _ _ A cc c.f3 ax _ W h2.2.2 h2.2.1 ((IV c ax).trans (congrArg some h))
end
theorem alj (ax : Int) : ∀ (N : Nat) (c : ai), sz c ≤ N → N ≤ 1048576 → (fU c).all mg = true → ∀ (b : Nat) (P : Nat → Prop) (A : Option Addr) (cc : Nat) (w : World), Kd.V k26 26 w b P (.slice A c.f3.length cc) c.f3 →
  Calls Tryz.prog 59 #[.agg #[.int .u8 c.f0, .int .i64 c.f1.f0, .int .i64 c.f1.f1, .int .i64 c.f1.f2, .int .i64 c.f1.f3, .int .i64 c.f2, .slice A c.f3.length cc], .int .u8 ax] w fun e w' => e = .returned (.int .i64 (dG ax c)) ∧ Below w.heap.size w w' := by
 intro N
 induction N with
 | zero => intro c h; rw [bJ] at h; omega
 | succ N ih =>
  intro c hc hN hok b P A cc w hv
  have hsz := bJ c
  have hlen := jf c.f3
  have S := ae.mk (St.start (ts := [(.slice A c.f3.length cc, c.f3)]) (b0 := w.heap.size) (w := w) (P := P) (fun t ht => by rw [List.mem_singleton.1 ht]; exact d_ hv))
  have gZ := ae.mk (show c.f3.length ≤ 1048576 by omega)
  have Gg := ae.mk (show dY c.f3 ≤ 1048576 by omega)
  have IH := ae.mk fun (k : ai) (hk : k ∈ c.f3) A cc w {b P} h => ih k (by have := nS hk; omega) (by omega) (xU hok hk) b P A cc w h
  have hE := fun h1 h2 => @U3 ax c h1 h2
  have hL := rq ax c
  have hkd := qm (lM hok)
  generalize dG ax c = R at hE hL ⊢
  obtain ⟨ck, ⟨cx, cy, cw, ch⟩, aJ, l⟩ := c
  simp only [] at S gZ Gg IH hE hL ⊢
  clear ih hc hN hv hsz hlen
  simp only [] at hkd
  by_cases hz : l.length = 0
  case pos =>
   have HR := ae.mk (show R = 1 by rw [hL, if_pos (by omega)])
   obtain ⟨hza, hzb, hzd⟩ := yB (a := (l.length : Int)) (b := 0) (by omega)
   have hze : (l.length == 0) = true := beq_iff_eq.mpr (by omega)
   have hzf : decide (l.length = 0) = true := decide_eq_true (by omega)
   clear hkd hz hE hL
   go_enter Tryz.func59, Tryz.ntmps59
   go_wp2_with ((refine boxS 2 _ 26 S ?_; clear S; intro b2 eU S; have a_ := (S.out.at (.head _) 6).trans rfl))
   clear a_
   go_ret
   rw [HR.out]
   exact ⟨rfl, S.out.below⟩
  have HR := ae.mk (hE (by omega) hz)
  obtain ⟨hza, hzb, hzd⟩ := eqF (a := (l.length : Int)) (b := 0) (by omega)
  have hze : (l.length == 0) = false := beq_eq_false_iff_ne.mpr (by omega)
  have hzf : decide (l.length = 0) = false := decide_eq_false (by omega)
  clear hkd hz hE hL
  generalize ha : iF ax ck = a at HR
  have HA := ae.mk ha
  clear ha
  go_enter Tryz.func59, Tryz.ntmps59
  go_wp2_with ((refine boxS 2 _ 26 S ?_; clear S; intro b2 fM S; have a_ := (S.out.at (.head _) 6).trans rfl))
  clear a_
  go_loopg [5, 15] l.length (fun gg v5 v15 wr => ∃ (pre rest : List ai), v5 = .int .i64 (yF ax a pre) ∧ v15 = .int .i64 (pre.length : Int) ∧ ae (pre ++ rest = l) ∧ rest.length ≤ gg ∧ ae (St w P [(some b2, .cells #[.int .u8 ck, .int .i64 cx, .int .i64 cy, .int .i64 cw, .int .i64 ch, .int .i64 aJ, .slice A l.length cc] 26 (0, 0))] [] [(.slice A l.length cc, l)] [] wr))
  case atStart => exact ⟨[], l, (by cases a <;> rfl), rfl, ⟨rfl⟩, Nat.le_refl _, S⟩
  case round =>
   clear S
   obtain ⟨pre, rest, rfl, rfl, HE, hgg, S⟩ := hrel
   cases rest with
   | nil =>
    have hE := HE.out
    rw [List.append_nil] at hE
    have hE2 := hE.symm
    subst hE2
    clear hE HE hgg
    have hlt : ¬ ((l.length : Int) < (l.length : Int)) := by omega
    go_wp2
    go_ret
    rw [← HR.out]
    exact ⟨rfl, S.out.below⟩
   | cons k rest =>
    have hk : k ∈ l := by rw [← HE.out]; simp
    have hlt : (pre.length : Int) < (l.length : Int) := by rw [← HE.out, List.length_append, List.length_cons]; omega
    have hw1 : wrap64 ((pre.length : Int) + 1) = ((pre ++ [k]).length : Int) := by have := gZ.out; rw [List.length_append, List.length_singleton]; unfold wrap64; omega
    have HW1 := ae.mk hw1
    have jl := ae.mk hgg
    have HK := ae.mk hk
    have J5 := ae.mk (show dY pre + sz k ≤ 1048576 by have h := Gg.out; rw [← HE.out, l7, bH] at h; omega)
    obtain ⟨ed, ua, uc, ek, S1⟩ := S.out.elem (.head _) (pre.length : Int) (Int.natCast_nonneg _) hlt
    subst ek
    have hrd : aj l (pre.length : Int) = k := by rw [← HE.out]; exact jd pre k rest
    rw [hrd] at S1
    simp only [Int.toNat_natCast] at S1
    replace S := ae.mk S1
    clear S1 hrd hk hgg hw1
    cases a with
    | true =>
     by_cases hp : pre.length = 0
     case pos =>
      have HP := ae.mk hp
      have hpn : ¬ (0 < pre.length) := by omega
      obtain ⟨hqa, UX⟩ := vF (a := 0) (b := (pre.length : Int)) (by omega)
      have hqc : decide (0 < pre.length) = false := decide_eq_false (by omega)
      have hqe : ¬ (0 < pre.length) := by omega
      clear hp
      obtain ⟨iP, iQ, iR, iC, iD, jk, jE⟩ := St.yA S
      have a_ := (S.out.at (.head _) 6).trans rfl
      go_wp2_with (first | (refine cZ (some 24) Tryz.func59 S (IH.out k HK.out ua uc _ (S.out.tree _ (.head _))) ?_; clear S; intro eU S; clear iP iQ iR iC iD jk jE a_; obtain ⟨bG, bP, bQ, bY, bZ, b_, a_⟩ := St.fF S (.head _)) | (refine cZ (some 27) Tryz.func78 S (Fq (c := ⟨ck, ⟨cx, cy, cw, ch⟩, aJ, l⟩) HA.out (S.out.tree _ bf)) ?_; clear S; intro fM S; clear bG bP bQ bY bZ b_ a_))
      have hw1 := HW1.out
      go_wp2
      go_roundg rest.length
      case measure => exact Nat.lt_of_lt_of_le (Nat.lt_succ_self _) jl.out
      case rel => exact ⟨pre ++ [k], rest, (by rw [Y0 J5.out HP.out]), (by (rw [List.length_append]; rfl)), ⟨by rw [List.append_assoc]; exact HE.out⟩, Nat.le_refl _, ⟨S.out.bD.aG.aG.aG.aG.aG.aG.aG⟩⟩
     case neg =>
      have HP := ae.mk (show 0 < pre.length by omega)
      have hpn : 0 < pre.length := HP.out
      obtain ⟨hqa, UX⟩ := wL (a := 0) (b := (pre.length : Int)) (by omega)
      have hqc : decide (0 < pre.length) = true := decide_eq_true (by omega)
      have hqe : 0 < pre.length := by omega
      clear hp
      obtain ⟨iP, iQ, iR, iC, iD, jk, jE⟩ := St.yA S
      have a_ := (S.out.at (.head _) 6).trans rfl
      go_wp2_with (first | (refine cZ (some 24) Tryz.func59 S (IH.out k HK.out ua uc _ (S.out.tree _ (.head _))) ?_; clear S; intro eU S; clear iP iQ iR iC iD jk jE a_; obtain ⟨bG, bP, bQ, bY, bZ, b_, a_⟩ := St.fF S (.head _)) | (refine cZ (some 27) Tryz.func78 S (Fq (c := ⟨ck, ⟨cx, cy, cw, ch⟩, aJ, l⟩) HA.out (S.out.tree _ bf)) ?_; clear S; intro fM S; clear bG bP bQ bY bZ b_ a_))
      have hw1 := HW1.out
      go_wp2
      go_roundg rest.length
      case measure => exact Nat.lt_of_lt_of_le (Nat.lt_succ_self _) jl.out
      case rel => exact ⟨pre ++ [k], rest, (by rw [abd J5.out HP.out]), (by rw [hw1]), ⟨by rw [List.append_assoc]; exact HE.out⟩, Nat.le_refl _, ⟨S.out.bD.aG.aG.aG.aG.aG.aG.aG⟩⟩
    | false =>
     by_cases hp : yF ax false pre < dG ax k
     case pos =>
      have HP := ae.mk hp
      obtain ⟨hpa, hpb⟩ := wL (a := yF ax false pre) (b := dG ax k) (by omega)
      clear hp
      obtain ⟨iP, iQ, iR, iC, iD, jk, jE⟩ := St.yA S
      have a_ := (S.out.at (.head _) 6).trans rfl
      go_wp2_with (first | (refine cZ (some 24) Tryz.func59 S (IH.out k HK.out ua uc _ (S.out.tree _ (.head _))) ?_; clear S; intro eU S; clear iP iQ iR iC iD jk jE a_; obtain ⟨bG, bP, bQ, bY, bZ, b_, a_⟩ := St.fF S (.head _)) | (refine cZ (some 27) Tryz.func78 S (Fq (c := ⟨ck, ⟨cx, cy, cw, ch⟩, aJ, l⟩) HA.out (S.out.tree _ bf)) ?_; clear S; intro fM S; clear bG bP bQ bY bZ b_ a_))
      have hw1 := HW1.out
      go_wp2
      go_roundg rest.length
      case measure => exact Nat.lt_of_lt_of_le (Nat.lt_succ_self _) jl.out
      case rel => exact ⟨pre ++ [k], rest, (by rw [ai3 HP.out]), (by rw [hw1]), ⟨by rw [List.append_assoc]; exact HE.out⟩, Nat.le_refl _, ⟨S.out.bD.aG.aG.aG.aG.aG.aG.aG⟩⟩
     case neg =>
      have HP := ae.mk hp
      obtain ⟨hpa, hpb⟩ := vF (a := yF ax false pre) (b := dG ax k) (by omega)
      clear hp
      obtain ⟨iP, iQ, iR, iC, iD, jk, jE⟩ := St.yA S
      have a_ := (S.out.at (.head _) 6).trans rfl
      go_wp2_with (first | (refine cZ (some 24) Tryz.func59 S (IH.out k HK.out ua uc _ (S.out.tree _ (.head _))) ?_; clear S; intro eU S; clear iP iQ iR iC iD jk jE a_; obtain ⟨bG, bP, bQ, bY, bZ, b_, a_⟩ := St.fF S (.head _)) | (refine cZ (some 27) Tryz.func78 S (Fq (c := ⟨ck, ⟨cx, cy, cw, ch⟩, aJ, l⟩) HA.out (S.out.tree _ bf)) ?_; clear S; intro fM S; clear bG bP bQ bY bZ b_ a_))
      have hw1 := HW1.out
      go_wp2
      go_roundg rest.length
      case measure => exact Nat.lt_of_lt_of_le (Nat.lt_succ_self _) jl.out
      case rel => exact ⟨pre ++ [k], rest, (by rw [abe (Int.not_lt.mpr HP.out)]), (by rw [hw1]), ⟨by rw [List.append_assoc]; exact HE.out⟩, Nat.le_refl _, ⟨S.out.bD.aG.aG.aG.aG.aG.aG.aG⟩⟩
def ajl.f (_ : Nat) (a0 a1 a2 a3 a4 a5 : Int) (l : List ai) (ax : Int) : Option Int := if sz ⟨a0, ⟨a1, a2, a3, a4⟩, a5, l⟩ ≤ 1048576 ∧ (fU ⟨a0, ⟨a1, a2, a3, a4⟩, a5, l⟩).all mg = true then some (dG ax ⟨a0, ⟨a1, a2, a3, a4⟩, a5, l⟩) else none
end Go.Proofs.YtfdmfgaiblfbhaaGreat.P

namespace Go.Proofs.YtfdmfgaiblfbhaaGreat.P
open Go.RowKit Go.Proofs.ag.aU Go.Proofs.ag.bK Go.Proofs.ag.cO
attribute [local go_sem] jG jR kQ lq jJ jK kT kU
def ru.f (az : Int) (aI : Int) (aC : Int) (aH : Int) (a1 : Int) : Option (Int) := if a1 = 2 then (some aH) else (if a1 = 1 then (some aC) else (some 0))
theorem ru.calls (az : Int) (aI : Int) (aC : Int) (aH : Int) (a1 : Int) (r : Int) (w : World) (h : ru.f az aI aC aH a1 = some r) :
  Calls Tryz.prog 17 #[.agg #[.int .i64 az, .int .i64 aI, .int .i64 aC, .int .i64 aH], .int .u8 a1] w fun e w' => e = .returned (.int .i64 r) ∧ Below w.heap.size w w' := by
 have Sj := Tryz.underlying23
 have HB := ae.mk (Below.refl w.heap.size w)
 have H : (if a1 = 2 then (some aH) else (if a1 = 1 then (some aC) else (some 0))) = some r := h
 clear h
 by_cases c3 : a1 = 2
 ·rw [if_pos c3] at H
  have sU : (a1 == 2) = true := beq_iff_eq.mpr c3
  have BG : (a1 != 2) = false := bne_eq_false_iff_eq.mpr c3
  clear c3
  obtain rfl := Option.some.inj H
  go_enter Tryz.func17, Tryz.ntmps17
  go_wp2_with (((with_reducible refine aA (N := 2) rfl ?_); refine aV ?hg (N := 2) ?hd (cs := #[.int .i64 az, .int .i64 aI, .int .i64 aC, .int .i64 aH]) (t := 23) ?hr ?_; (case hd => rfl); (case hg => rfl); (case hr => (go_simp; done)); intro vW hg w4 hbox hb; have qB := ae.mk (hbox); have Vt := ae.mk ((by rw [hg]; exact (dE (by repeat ((with_reducible exact HB.out)))) : w.heap.size ≤ vW)); replace HB := ae.mk (au (by repeat ((with_reducible exact HB.out))) hb); clear hb hbox hg; have aic : w4.cell? ⟨vW, 0, none⟩ = some (.int .i64 az) := (af qB.out 0).trans rfl; have aid : w4.cell? ⟨vW, 1, none⟩ = some (.int .i64 aI) := (af qB.out 1).trans rfl; have aie : w4.cell? ⟨vW, 2, none⟩ = some (.int .i64 aC) := (af qB.out 2).trans rfl; have aif : w4.cell? ⟨vW, 3, none⟩ = some (.int .i64 aH) := (af qB.out 3).trans rfl; have aiq := ah qB.out 0; have air := ah qB.out 1; have ais := ah qB.out 2; have ait := ah qB.out 3))
  go_ret
  exact ⟨by rfl, by repeat ((with_reducible first | exact HB.out | refine eY ?_ Vt.out))⟩
 ·rw [if_neg c3] at H
  have sU : (a1 == 2) = false := beq_eq_false_iff_ne.mpr c3
  have BG : (a1 != 2) = true := bne_iff_ne.mpr c3
  by_cases c6 : a1 = 1
  ·rw [if_pos c6] at H
   have BH : (a1 == 1) = true := beq_iff_eq.mpr c6
   have QE : (a1 != 1) = false := bne_eq_false_iff_eq.mpr c6
   clear c6
   obtain rfl := Option.some.inj H
   go_enter Tryz.func17, Tryz.ntmps17
   go_wp2_with (((with_reducible refine aA (N := 2) rfl ?_); refine aV ?hg (N := 2) ?hd (cs := #[.int .i64 az, .int .i64 aI, .int .i64 aC, .int .i64 aH]) (t := 23) ?hr ?_; (case hd => rfl); (case hg => rfl); (case hr => (go_simp; done)); intro vW hg w7 hbox hb; have qB := ae.mk (hbox); have Vt := ae.mk ((by rw [hg]; exact (dE (by repeat ((with_reducible exact HB.out)))) : w.heap.size ≤ vW)); replace HB := ae.mk (au (by repeat ((with_reducible exact HB.out))) hb); clear hb hbox hg; have X_ : w7.cell? ⟨vW, 0, none⟩ = some (.int .i64 az) := (af qB.out 0).trans rfl; have Ya : w7.cell? ⟨vW, 1, none⟩ = some (.int .i64 aI) := (af qB.out 1).trans rfl; have Yb : w7.cell? ⟨vW, 2, none⟩ = some (.int .i64 aC) := (af qB.out 2).trans rfl; have Yc : w7.cell? ⟨vW, 3, none⟩ = some (.int .i64 aH) := (af qB.out 3).trans rfl; have Yr := ah qB.out 0; have Yt := ah qB.out 1; have Yu := ah qB.out 2; have Yv := ah qB.out 3))
   go_ret
   exact ⟨by rfl, by repeat ((with_reducible exact HB.out))⟩
  ·rw [if_neg c6] at H
   have BH : (a1 == 1) = false := beq_eq_false_iff_ne.mpr c6
   have QE : (a1 != 1) = true := bne_iff_ne.mpr c6
   obtain rfl := Option.some.inj H
   go_enter Tryz.func17, Tryz.ntmps17
   go_wp2_with (((with_reducible refine aA (N := 2) rfl ?_); refine aV ?hg (N := 2) ?hd (cs := #[.int .i64 az, .int .i64 aI, .int .i64 aC, .int .i64 aH]) (t := 23) ?hr ?_; (case hd => rfl); (case hg => rfl); (case hr => (go_simp; done)); intro vW hg w9 hbox hb; have qB := ae.mk (hbox); have Vt := ae.mk ((by rw [hg]; exact (dE (by repeat ((with_reducible exact HB.out)))) : w.heap.size ≤ vW)); replace HB := ae.mk (au (by repeat ((with_reducible exact HB.out))) hb); clear hb hbox hg))
   go_ret
   exact ⟨by rfl, by repeat ((with_reducible exact HB.out))⟩
end Go.Proofs.YtfdmfgaiblfbhaaGreat.P
namespace Go.Proofs.YtfdmfgaiblfbhaaGreat.P
open Go.RowKit Go.Proofs.ag.aU Go.Proofs.ag.bK Go.Proofs.ag.cO
def aQ (ax : Int) (r : dW) : Int := if ax = 1 then r.f2 else if ax = 2 then r.f3 else 0
theorem O7 (r : dW) (ax : Int) : ru.f r.f0 r.f1 r.f2 r.f3 ax = some (aQ ax r) := by
 unfold ru.f aQ
 by_cases h1 : ax = 1
 ·rw [if_neg (by omega), if_pos h1, if_pos h1]
 ·by_cases h2 : ax = 2
  ·rw [if_pos h2, if_neg h1, if_pos h2]
  ·rw [if_neg h2, if_neg h1, if_neg h1, if_neg h2]
end Go.Proofs.YtfdmfgaiblfbhaaGreat.P
namespace Go.Proofs.YtfdmfgaiblfbhaaGreat.P
open Go.RowKit Go.Proofs.ag.aU Go.Proofs.ag.bK Go.Proofs.ag.cO
attribute [local go_sem] jG jR kQ lq jJ jK kT kU
def mG.f (a0 : Int) : Option (Bool) := if a0 = 1 then (some true) else (some (a0 == 2))
theorem mG.ahj (a0 : Int) (r : Bool) (w : World) (h : mG.f a0 = some r) :
  Calls Tryz.prog 54 #[.int .u8 a0] w fun e w' => e = .returned (.bool r) ∧ kz w w' := by
 have H : (if a0 = 1 then (some true) else (some (a0 == 2))) = some r := h
 clear h
 by_cases c2 : a0 = 1
 ·rw [if_pos c2] at H
  have EO : (a0 == 1) = true := beq_iff_eq.mpr c2
  have amO : (a0 != 1) = false := bne_eq_false_iff_eq.mpr c2
  clear c2
  obtain rfl := Option.some.inj H
  go_enter Tryz.func54, Tryz.ntmps54
  go_wp2
  go_ret
  exact ⟨by rfl, by repeat (exact kz.refl _)⟩
 ·rw [if_neg c2] at H
  have EO : (a0 == 1) = false := beq_eq_false_iff_ne.mpr c2
  have amO : (a0 != 1) = true := bne_iff_ne.mpr c2
  obtain rfl := Option.some.inj H
  go_enter Tryz.func54, Tryz.ntmps54
  go_wp2
  go_ret
  exact ⟨by rfl, by repeat (exact kz.refl _)⟩
theorem mG.calls (a0 : Int) (r : Bool) (w : World) (h : mG.f a0 = some r) :
  Calls Tryz.prog 54 #[.int .u8 a0] w fun e w' => e = .returned (.bool r) ∧ Below w.heap.size w w' := by
 refine (mG.ahj a0 r w h).mono ?_
 rintro e w' ⟨he, n, rfl⟩
 exact ⟨he, aT (Below.refl _ _) n⟩
end Go.Proofs.YtfdmfgaiblfbhaaGreat.P
namespace Go.Proofs.YtfdmfgaiblfbhaaGreat.P
open Go.RowKit Go.Proofs.ag.aU Go.Proofs.ag.bK Go.Proofs.ag.cO
theorem ae' (Inv : List ai → World → Prop) (r : ai → Bool) (g : Nat) (lb : Array Value) (eg : ∀ args w, (callFunc g args).run Tryz.prog w = .ok (.enter g args) w) (l : List ai) (A : Option Addr) (c : Nat)
  (w0 : World) (hR : Kd.C k26 w0 A l.length l) (hW : ∀ s W, Inv s W → Below w0.heap.size w0 W) (hD : ∀ s W n, Inv s W → Inv s (W.drewN n))
  (hcall : ∀ (x : ai) (rest : List ai) (W : World) (B : Option Addr) (cb : Nat), x ∈ l → (∃ pre, pre ++ x :: rest = l) → Inv (x :: rest) W → Kd.C k26 w0 B x.f3.length x.f3 → x.f3.length ≤ cb → Calls Tryz.prog g (#[.agg #[.int .u8 x.f0, .int .i64 x.f1.f0, .int .i64 x.f1.f1, .int .i64 x.f1.f2, .int .i64 x.f1.f3, .int .i64 x.f2, .slice B x.f3.length cb]] ++ lb) W fun e w' => e = .returned (.bool (r x)) ∧ Inv (if r x = true then [] else rest) w')
  (w : World) (hI : Inv l w) (hl : l.length ≤ 9223372036854775807) :
  Calls Tryz.prog 61 #[.slice A l.length c, .func (.func g) #[] lb] w fun e w' => ∃ i : Int, e = .returned (.int .i64 i) ∧ decide (i ≥ 0) = l.any r ∧ Inv [] w' := by
 have HR := ae.mk hR
 have HW := ae.mk hW
 have HD := ae.mk hD
 have HI := ae.mk hI
 have Bc := ae.mk hcall
 clear hR hW hcall hD hI
 go_enter Tryz.func61, Tryz.ntmps61
 go_wp2
 go_loopg [5, 8] l.length (fun gg _ v8 wr => ∃ (kk : Nat), kk ≤ l.length ∧ l.length - kk ≤ gg ∧ v8 = .int .i64 kk ∧ ae (Inv (l.drop kk) wr) ∧ ae (l.any r = (l.drop kk).any r))
 case atStart => exact ⟨0, Nat.zero_le _, by omega, rfl, ⟨by simpa using HI.out⟩, ⟨by simp⟩⟩
 case round =>
  clear HI
  obtain ⟨kk, hkk, hg, rfl, HI, HS⟩ := hrel
  by_cases hlt : kk < l.length
  ·have hltz : (kk : Int) < (l.length : Int) := by omega
   obtain ⟨ad, B, cb, rfl, hc0, hc1, hc2, hc3, hc4, hc5, hc6, hlb, hgb⟩ := qi HR.out (kk : Int) (by omega) (by omega)
   have hbw := HW.out _ wr HI.out
   replace hc0 := (hbw.cell (World.block_lt_of_cell? w0 _ hc0)).trans hc0
   replace hc1 := (hbw.cell (World.block_lt_of_cell? w0 _ hc1)).trans hc1
   replace hc2 := (hbw.cell (World.block_lt_of_cell? w0 _ hc2)).trans hc2
   replace hc3 := (hbw.cell (World.block_lt_of_cell? w0 _ hc3)).trans hc3
   replace hc4 := (hbw.cell (World.block_lt_of_cell? w0 _ hc4)).trans hc4
   replace hc5 := (hbw.cell (World.block_lt_of_cell? w0 _ hc5)).trans hc5
   replace hc6 := (hbw.cell (World.block_lt_of_cell? w0 _ hc6)).trans hc6
   clear hbw
   have hmem : (aj l (kk : Int)) ∈ l := FB z26 l kk hlt
   have hdr : l.drop kk = aj l (kk : Int) :: l.drop (kk + 1) := by
    rw [List.drop_eq_getElem_cons hlt]
    simp only [aj, Int.toNat_natCast, List.getD_eq_getElem?_getD, List.getElem?_eq_getElem hlt, Option.getD_some]
   have HX : ae ((l.drop kk).any r = (r (aj l (kk : Int)) || (l.drop (kk + 1)).any r)) := ⟨by rw [hdr, List.any_cons]⟩
   have hcall := Bc.out _ (l.drop (kk + 1)) wr B cb hmem ⟨l.take kk, by rw [← hdr]; exact List.take_append_drop kk l⟩ (by rw [← hdr]; exact HI.out) hgb hlb
   clear hmem hgb hlb hdr
   simp only [Int.toNat_natCast] at hc0 hc1 hc2 hc3 hc4 hc5 hc6
   generalize aj l (kk : Int) = x at hc0 hc1 hc2 hc3 hc4 hc5 hc6 HX hcall
   have HC := ae.mk hcall
   clear hcall
   cases hq : r x with
   | true =>
    have h := HC.out
    rw [hq, if_pos rfl] at h
    have HH := ae.mk h
    have HQ := ae.mk hq
    clear hq HC h
    go_wp2_with fail
    refine HH.out.mono ?_
    rintro e w' ⟨rfl, hb'⟩
    have HB := ae.mk hb'
    clear hb'
    go_wp2
    go_ret
    refine ⟨_, rfl, ?_, HB.out⟩
    rw [HS.out, HX.out, HQ.out, Bool.true_or]
    exact decide_eq_true (by omega)
   | false =>
    have h := HC.out
    rw [hq, if_neg (by simp)] at h
    have HH := ae.mk h
    have HQ := ae.mk hq
    clear hq HC h
    go_wp2_with fail
    refine HH.out.mono ?_
    rintro e w' ⟨rfl, hb'⟩
    have HB := ae.mk hb'
    clear hb'
    go_wp2
    go_roundg (l.length - (kk + 1))
    case measure => omega
    case rel =>
     refine ⟨kk + 1, by omega, by omega, by go_num, HB, ⟨?_⟩⟩
     rw [HS.out, HX.out, HQ.out, Bool.false_or]
  ·have hltz : ¬ (kk : Int) < (l.length : Int) := by omega
   have hd : l.drop kk = [] := List.drop_eq_nil_of_le (by omega)
   have HI2 := ae.mk (hd ▸ HI.out)
   have HS2 := ae.mk (hd ▸ HS.out)
   clear HI HS hd
   go_wp2
   go_ret
   refine ⟨_, rfl, ?_, HI2.out⟩
   rw [HS2.out]
   rfl
theorem Um (Inv : List ai → World → Prop) (r : ai → Bool) (g : Nat) (lb : Array Value) (eg : ∀ args w, (callFunc g args).run Tryz.prog w = .ok (.enter g args) w) (l : List ai) (A : Option Addr) (c : Nat)
  (w0 : World) (hR : Kd.C k26 w0 A l.length l) (hW : ∀ s W, Inv s W → Below w0.heap.size w0 W) (hD : ∀ s W n, Inv s W → Inv s (W.drewN n))
  (hcall : ∀ (x : ai) (rest : List ai) (W : World) (B : Option Addr) (cb : Nat), x ∈ l → (∃ pre, pre ++ x :: rest = l) → Inv (x :: rest) W → Kd.C k26 w0 B x.f3.length x.f3 → x.f3.length ≤ cb → Calls Tryz.prog g (#[.agg #[.int .u8 x.f0, .int .i64 x.f1.f0, .int .i64 x.f1.f1, .int .i64 x.f1.f2, .int .i64 x.f1.f3, .int .i64 x.f2, .slice B x.f3.length cb]] ++ lb) W fun e w' => e = .returned (.bool (r x)) ∧ Inv (if r x = true then [] else rest) w')
  (w : World) (hI : Inv l w) (hl : l.length ≤ 9223372036854775807) :
  Calls Tryz.prog 44 #[.slice A l.length c, .func (.func g) #[] lb] w fun e w' => e = .returned (.bool (l.any r)) ∧ Inv [] w' := by
 have hi := ae' Inv r g lb eg l A c w0 hR hW hD hcall w hI hl
 clear hR hW hD hcall hI
 have HI := ae.mk hi
 clear hi
 go_enter Tryz.func44, Tryz.ntmps44
 go_wp2_with fail
 refine HI.out.mono ?_
 rintro e w' ⟨i, rfl, hd, hb'⟩
 have HB := ae.mk hb'
 have HN := ae.mk hd
 clear hb' hd
 go_wp2
 go_ret
 exact ⟨by rw [← HN.out]; rfl, HB.out⟩
theorem ahK (r : ai → dW → Bool) (g : Nat) (eg : ∀ args w, (callFunc g args).run Tryz.prog w = .ok (.enter g args) w) (la : List ai) (lb : List dW) (A B : Option Addr) (ca cb : Nat) (w : World) (hA : Kd.C k26 w A la.length la) (hB : Kd.C k23 w B lb.length lb)
  (hcall : ∀ W (x : ai) (X : Option Addr) (cx : Nat) (y : dW), x ∈ la → Below w.heap.size w W → Kd.C k26 w X x.f3.length x.f3 → x.f3.length ≤ cx → Calls Tryz.prog g #[.agg #[.int .u8 x.f0, .int .i64 x.f1.f0, .int .i64 x.f1.f1, .int .i64 x.f1.f2, .int .i64 x.f1.f3, .int .i64 x.f2, .slice X x.f3.length cx], .agg #[.int .i64 y.f0, .int .i64 y.f1, .int .i64 y.f2, .int .i64 y.f3]] W fun e w' => e = .returned (.bool (r x y)) ∧ Below W.heap.size W w') :
  Calls Tryz.prog 93 #[.slice A la.length ca, .slice B lb.length cb, .func (.func g) #[] #[]] w fun e w' => e = .returned (.bool (la.length == lb.length && vw r la lb)) ∧ Below w.heap.size w w' := by
 have HA := ae.mk hA
 have HLB := ae.mk hB
 have HC := ae.mk hcall
 have HB := ae.mk (Below.refl w.heap.size w)
 have HL := ae.mk (show la.length ≤ 9223372036854775807 from hA.2.1)
 clear hA hB hcall
 by_cases hl : la.length = lb.length
 ·have hl1 : ((la.length : Int) != (lb.length : Int)) = false := by simp [hl]
  have hl2 : (la.length == lb.length) = true := by simp [hl]
  rw [hl2, Bool.true_and]
  have HE := ae.mk hl
  clear hl hl2
  go_enter Tryz.func93, Tryz.ntmps93
  go_wp2
  go_loopg [17] la.length (fun gg v17 wr => ∃ (kk : Nat), kk ≤ la.length ∧ la.length - kk ≤ gg ∧ v17 = .int .i64 kk ∧ ae (vw r la lb = vw r (la.drop kk) (lb.drop kk)) ∧ ae (Below w.heap.size w wr))
  case atStart => exact ⟨0, Nat.zero_le _, by omega, rfl, ⟨by simp⟩, HB⟩
  case round =>
   clear HB
   obtain ⟨kk, hkk, hgg, rfl, HS, HB⟩ := hrel
   by_cases hlt : kk < la.length
   ·have hltz : (kk : Int) < (la.length : Int) := by omega
    have ann : (kk : Int) < (lb.length : Int) := by have := HE.out; omega
    have hw : wrap64 ((kk : Int) + 1) = ((kk + 1 : Nat) : Int) := by unfold wrap64; have := HL.out; omega
    have HX := ae.mk (ahJ r z26 z23 la lb kk hlt (by omega))
    have hmem : aj la (kk : Int) ∈ la := FB z26 la kk hlt
    obtain ⟨cd, X, cx, rfl, c0, c1, c2, c3, c4, c5, c6, cl, cg⟩ := qi HA.out (kk : Int) (by omega) hltz
    obtain ⟨dd, rfl, d0, d1, d2, d3⟩ := Qw HLB.out (kk : Int) (by omega) ann
    simp only [Int.toNat_natCast] at c0 c1 c2 c3 c4 c5 c6 d0 d1 d2 d3
    replace c0 := (HB.out.cell (World.block_lt_of_cell? w _ c0)).trans c0
    replace c1 := (HB.out.cell (World.block_lt_of_cell? w _ c1)).trans c1
    replace c2 := (HB.out.cell (World.block_lt_of_cell? w _ c2)).trans c2
    replace c3 := (HB.out.cell (World.block_lt_of_cell? w _ c3)).trans c3
    replace c4 := (HB.out.cell (World.block_lt_of_cell? w _ c4)).trans c4
    replace c5 := (HB.out.cell (World.block_lt_of_cell? w _ c5)).trans c5
    replace c6 := (HB.out.cell (World.block_lt_of_cell? w _ c6)).trans c6
    have D0 := ae.mk d0
    have D1 := ae.mk d1
    have D2 := ae.mk d2
    have D3 := ae.mk d3
    clear d0 d1 d2 d3
    have HX := ae.mk (show vw r (la.drop kk) (lb.drop kk) = (r (aj la (kk : Int)) (tC lb (kk : Int)) && vw r (la.drop (kk + 1)) (lb.drop (kk + 1))) from HX.out)
    have cG := ae.mk cg
    have cL := ae.mk cl
    clear cg cl
    have HM := ae.mk hmem
    clear hmem
    generalize aj la (kk : Int) = x at *
    generalize tC lb (kk : Int) = y at *
    have HCx := ae.mk (fun W hW => HC.out W x X cx y HM.out hW cG.out cL.out )
    have HW := ae.mk hw
    have HKK := ae.mk (show kk + 1 ≤ la.length from hlt)
    have jl := ae.mk hgg
    clear hw hlt hgg hkk HM
    go_wp2_with (first | ((with_reducible refine aA (N := 8) rfl ?_); refine aV ?hg (N := 8) ?hd (cs := #[.int .u8 0, .int .i64 0, .int .i64 0, .int .i64 0, .int .i64 0, .int .i64 0, .slice none 0 0]) (t := 26) ?hr ?_; (case hd => rfl); (case hg => rfl); (case hr => (go_simp; done)); intro b8 hg wb8 hbox hb; have K8 := ae.mk hbox; have G8 := ae.mk (show w.heap.size ≤ b8 by rw [hg]; exact HB.out.size); have q_ := ae.mk (au HB.out hb); clear HB; have HB := q_; clear q_; clear hb hbox hg) | ((with_reducible refine mV (.store 26 (.tmp 8) (.tmp 21)) rfl ?_); go_loud (refine iO (w0 := w) rfl rfl 26 (.tmp 8) (.tmp 21) rfl (g := b8) (j := 0) (base := w.heap.size) #[.int .u8 x.f0, .int .i64 x.f1.f0, .int .i64 x.f1.f1, .int .i64 x.f1.f2, .int .i64 x.f1.f3, .int .i64 x.f2, .slice X x.f3.length cx] (u := .agg #[.int .u8 x.f0, .int .i64 x.f1.f0, .int .i64 x.f1.f1, .int .i64 x.f1.f2, .int .i64 x.f1.f3, .int .i64 x.f2, .slice X x.f3.length cx]) (df := [.int .u8 x.f0, .int .i64 x.f1.f0, .int .i64 x.f1.f1, .int .i64 x.f1.f2, .int .i64 x.f1.f3, .int .i64 x.f2, .slice X x.f3.length cx]) ?sA ?sX rfl ?sT ?s1 K8.out ?sJ rfl HB.out HB.out.size G8.out ?_; (case sA => rfl); (case sX => rfl); (case sT => rfl); (case s1 => (simp [Value.oneCell'])); (case sJ => (simp)); intro ws8 hbk hbb hgg; clear K8 HB; have K8 := ae.mk hbk; have HB := ae.mk hbb; clear hbk hbb hgg; clear c0 c1 c2 c3 c4 c5 c6; have d0 := (HB.out.cell (World.block_lt_of_cell? w _ D0.out)).trans D0.out; have d1 := (HB.out.cell (World.block_lt_of_cell? w _ D1.out)).trans D1.out; have d2 := (HB.out.cell (World.block_lt_of_cell? w _ D2.out)).trans D2.out; have d3 := (HB.out.cell (World.block_lt_of_cell? w _ D3.out)).trans D3.out)) | ((with_reducible refine aA (N := 9) rfl ?_); refine aV ?hg (N := 9) ?hd (cs := #[.int .i64 0, .int .i64 0, .int .i64 0, .int .i64 0]) (t := 23) ?hr ?_; (case hd => rfl); (case hg => rfl); (case hr => (go_simp; done)); intro b9 hg wb9 hbox hb; have K9 := ae.mk hbox; have G9 := ae.mk (show w.heap.size ≤ b9 by rw [hg]; exact HB.out.size); have NE := ae.mk (show b8 ≠ b9 by rw [hg]; exact Nat.ne_of_lt (gU K8.out)); have Y_ := ae.mk (aW K8.out hb); clear K8; have K8 := Y_; clear Y_; have q_ := ae.mk (au HB.out hb); clear HB; have HB := q_; clear q_; clear hb hbox hg d0 d1 d2 d3) | ((with_reducible refine mV (.store 23 (.tmp 9) (.tmp 25)) rfl ?_); go_loud (refine iO (w0 := w) rfl rfl 23 (.tmp 9) (.tmp 25) rfl (g := b9) (j := 0) (base := w.heap.size) #[.int .i64 y.f0, .int .i64 y.f1, .int .i64 y.f2, .int .i64 y.f3] (u := .agg #[.int .i64 y.f0, .int .i64 y.f1, .int .i64 y.f2, .int .i64 y.f3]) (df := [.int .i64 y.f0, .int .i64 y.f1, .int .i64 y.f2, .int .i64 y.f3]) ?sA ?sX rfl ?sT ?s1 K9.out ?sJ rfl HB.out HB.out.size G9.out ?_; (case sA => rfl); (case sX => rfl); (case sT => rfl); (case s1 => (simp [Value.oneCell'])); (case sJ => (simp)); intro ws9 hbk hbb hgg; have Y_ := ae.mk (dH K8.out hgg (fun e_ => absurd (Option.some.inj e_) NE.out)); clear K8; have K8 := Y_; clear Y_; clear K9 HB; have K9 := ae.mk hbk; have HB := ae.mk hbb; clear hbk hbb hgg; have e0 := (af K8.out 0).trans rfl; have e1 := (af K8.out 1).trans rfl; have e2 := (af K8.out 2).trans rfl; have e3 := (af K8.out 3).trans rfl; have e4 := (af K8.out 4).trans rfl; have e5 := (af K8.out 5).trans rfl; have e6 := (af K8.out 6).trans rfl; have f0 := (af K9.out 0).trans rfl; have f1 := (af K9.out 1).trans rfl; have f2 := (af K9.out 2).trans rfl; have f3 := (af K9.out 3).trans rfl)))
    clear e0 e1 e2 e3 e4 e5 e6 f0 f1 f2 f3 K8 K9 NE G8 G9
    refine (HCx.out _ HB.out).mono ?_
    rintro e w' ⟨rfl, hb⟩
    have q_ := ae.mk (au HB.out hb); clear HB; have HB := q_; clear q_
    clear hb
    cases hq : r x y with
    | true =>
     have HQ := ae.mk hq
     clear hq
     go_wp2
     go_roundg (la.length - (kk + 1))
     case measure => have h1 := jl.out; have h2 := HKK.out; omega
     case rel => exact ⟨kk + 1, HKK.out, Nat.le_refl _, (by rw [HW.out]), ⟨by rw [HS.out, HX.out, HQ.out, Bool.true_and]⟩, HB⟩
    | false =>
     have HQ := ae.mk hq
     clear hq
     go_wp2
     go_ret
     rw [HS.out, HX.out, HQ.out, Bool.false_and]
     exact ⟨rfl, HB.out⟩
   ·have hltz : ¬ (kk : Int) < (la.length : Int) := by omega
    go_wp2
    go_ret
    rw [HS.out, List.drop_eq_nil_of_le (by omega), MJ]
    exact ⟨rfl, HB.out⟩
 ·have hl1 : ((la.length : Int) != (lb.length : Int)) = true := by simp; omega
  have hl2 : (la.length == lb.length) = false := by simp [hl]
  rw [hl2, Bool.false_and]
  clear hl hl2
  go_enter Tryz.func93, Tryz.ntmps93
  go_wp2
  go_ret
  exact ⟨rfl, HB.out⟩
theorem akZ (X Y Wd H ax : Int) (sizes : List Int) (hl : sizes.length ≤ 1000000) (B : Option Addr) (cb : Nat) (w : World) (hi : Kd.C (Kd.int .i64) w B sizes.length sizes) :
  Calls Tryz.prog 100 #[.agg #[.int .i64 X, .int .i64 Y, .int .i64 Wd, .int .i64 H], .int .u8 ax, .slice B sizes.length cb] w (PR w (ui X Y Wd H ax sizes)) := by
 have S := ae.mk (St.start (ts := []) (b0 := w.heap.size) (w := w) (P := fun _ => True) (fun _ h => by cases h))
 have HI := ae.mk hi
 have gZ := ae.mk hl
 clear hi hl
 by_cases hax : ax = 1 ∨ ax = 2
 case neg =>
  have HQ := ae.mk (BI (X := X) (Y := Y) (W := Wd) (H := H) (sizes := sizes) (.inl hax))
  have D5 := ae.mk hax
  clear hax
  go_enter Tryz.func100, Tryz.ntmps100
  go_wp2_with (first | (refine boxS 3 _ 23 S ?_; clear S; intro b3 eU S; obtain ⟨dm, dn, dA, dB⟩ := St.at4 S (.head _)) | (refine cZ (some 23) Tryz.func102 S (Zy D5.out _ _ _ _) ?_; clear S; intro fM S; clear dm dn dA dB) | (refine boxS 9 _ 23 S ?_; clear S; intro b9 iq S) | (refine gY 23 9 24 #[.int .i64 0, .int .i64 0, .int .i64 0, .int .i64 0] 0 4 S ?_; clear S; intro jD S))
  go_ret3
  rw [HQ.out]
  exact ⟨none, 0, none, 0, .cells #[] 0 (0, 0), .cells #[] 0 (0, 0), rfl, (fun h => by cases h), S.out.below⟩
 have D5 := ae.mk hax
 obtain ⟨S0, hS0⟩ : ∃ s, s = tX ax X Y := ⟨_, rfl⟩
 obtain ⟨T0, hT0⟩ : ∃ s, s = tX ax Y X := ⟨_, rfl⟩
 obtain ⟨D, hD⟩ : ∃ s, s = tX ax Wd H := ⟨_, rfl⟩
 obtain ⟨E, hE⟩ : ∃ s, s = tX ax H Wd := ⟨_, rfl⟩
 have HTU := ae.mk (fun (W : World) => show Calls Tryz.prog 102 #[.agg #[.int .i64 X, .int .i64 Y, .int .i64 Wd, .int .i64 H], .int .u8 ax] W fun e w' => e = .returned (.tuple #[.agg #[.int .i64 S0, .int .i64 T0, .int .i64 D, .int .i64 E], .bool true]) ∧ Below W.heap.size W w' by rw [hS0, hT0, hD, hE]; exact JJ hax X Y Wd H)
 by_cases hm : qN X Y Wd H = true
 case neg =>
  have hm2 := Bool.eq_false_iff.mpr hm
  have HQ := ae.mk (BI (ax := ax) (sizes := sizes) (.inr (.inl hm2)))
  have zK := ae.mk hm2
  clear hm hm2 hax hS0 hT0 hD hE
  go_enter Tryz.func100, Tryz.ntmps100
  go_wp2_with (first | (refine boxS 3 _ 23 S ?_; clear S; intro b3 eU S; obtain ⟨dm, dn, dA, dB⟩ := St.at4 S (.head _)) | (refine cZ (some 23) Tryz.func102 S (HTU.out _) ?_; clear S; intro fM S; clear dm dn dA dB) | (refine boxS 9 _ 23 S ?_; clear S; intro b9 iq S) | (refine gY 23 9 24 #[.int .i64 S0, .int .i64 T0, .int .i64 D, .int .i64 E] 0 4 S ?_; clear S; intro jD S; obtain ⟨dm, dn, dA, dB⟩ := St.at4 S bf) | (refine ik 30 rfl ?_; (refine gW (by rfl) ?_; dsimp only); refine cZ (some 30) Tryz.func99 S (SY zK.out) ?_; clear S; intro mQ S; clear dm dn dA dB))
  go_ret3
  rw [HQ.out]
  exact ⟨none, 0, none, 0, .cells #[] 0 (0, 0), .cells #[] 0 (0, 0), rfl, (fun h => by cases h), S.out.below⟩
 have zK := ae.mk hm
 by_cases h0 : sizes.length = 0
 case pos =>
  have HQ := ae.mk (BI (X := X) (Y := Y) (W := Wd) (H := H) (ax := ax) (.inr (.inr h0)))
  obtain ⟨OJ, KH, XR⟩ := yB (a := (sizes.length : Int)) (b := 0) (by omega)
  have XT : (sizes.length == 0) = true := beq_iff_eq.mpr (by omega)
  have XU : decide (sizes.length = 0) = true := decide_eq_true (by omega)
  clear hm h0 hax hS0 hT0 hD hE
  go_enter Tryz.func100, Tryz.ntmps100
  go_wp2_with (first | (refine boxS 3 _ 23 S ?_; clear S; intro b3 eU S; obtain ⟨dm, dn, dA, dB⟩ := St.at4 S (.head _)) | (refine cZ (some 23) Tryz.func102 S (HTU.out _) ?_; clear S; intro fM S; clear dm dn dA dB) | (refine boxS 9 _ 23 S ?_; clear S; intro b9 iq S) | (refine gY 23 9 24 #[.int .i64 S0, .int .i64 T0, .int .i64 D, .int .i64 E] 0 4 S ?_; clear S; intro jD S; obtain ⟨dm, dn, dA, dB⟩ := St.at4 S bf) | (refine ik 30 rfl ?_; (refine gW (by rfl) ?_; dsimp only); refine cZ (some 30) Tryz.func99 S (SY zK.out) ?_; clear S; intro mQ S; clear dm dn dA dB))
  go_ret3
  rw [HQ.out]
  exact ⟨none, 0, none, 0, .cells #[] 0 (0, 0), .cells #[] 0 (0, 0), rfl, (fun h => by cases h), S.out.below⟩
 have hq := XK hax hm h0
 rw [← hS0, ← hT0, ← hD, ← hE] at hq
 have hb := Zw hax hm
 rw [← hS0, ← hD] at hb
 have HB := ae.mk hb
 rw [hq]
 obtain ⟨OJ, KH, XR⟩ := eqF (a := (sizes.length : Int)) (b := 0) (by omega)
 have XT : (sizes.length == 0) = false := beq_eq_false_iff_ne.mpr (by omega)
 have XU : decide (sizes.length = 0) = false := decide_eq_false (by omega)
 obtain ⟨R, hR⟩ : ∃ R, R = qj ax S0 T0 D E 0 true [] [] sizes := ⟨_, rfl⟩
 rw [← hR]
 have HR := ae.mk hR
 clear hq hb hm h0 hax hS0 hT0 hD hE hR
 go_enter Tryz.func100, Tryz.ntmps100
 go_wp2_with (first | (refine boxS 3 _ 23 S ?_; clear S; intro b3 eU S; obtain ⟨dm, dn, dA, dB⟩ := St.at4 S (.head _)) | (refine cZ (some 23) Tryz.func102 S (HTU.out _) ?_; clear S; intro fM S; clear dm dn dA dB) | (refine boxS 9 _ 23 S ?_; clear S; intro b9 iq S) | (refine gY 23 9 24 #[.int .i64 S0, .int .i64 T0, .int .i64 D, .int .i64 E] 0 4 S ?_; clear S; intro jD S; obtain ⟨dm, dn, dA, dB⟩ := St.at4 S bf) | (refine ik 30 rfl ?_; (refine gW (by rfl) ?_; dsimp only); refine cZ (some 30) Tryz.func99 S (SY zK.out) ?_; clear S; intro mQ S; clear dm dn dA dB; have nO := (S.out.at (.head _) 0).trans rfl))
 clear nO
 clear OJ KH XR XT XU
 go_loopg [11, 12, 13, 42] sizes.length (fun gg v11 v12 v13 v42 wr => ∃ (pre rest : List Int) (off : Int) (ps ls : List dW) (Ap : Option Addr) (cp : Nat) (op : Obj) (Aq : Option Addr) (cq : Nat) (oq : Obj), v11 = .slice Ap ps.length cp ∧ v12 = .slice Aq ls.length cq ∧ v13 = .int .i64 (S0 + off) ∧ v42 = .int .i64 (pre.length : Int) ∧ ae (pre ++ rest = sizes) ∧ rest.length ≤ gg ∧ ae (0 ≤ off ∧ off ≤ D ∧ ps.length ≤ pre.length ∧ ls.length ≤ pre.length) ∧ ae (qj ax S0 T0 D E off (pre.length == 0) ps ls rest = R) ∧ ae (KR k23 23 w.heap.size (.slice Ap ps.length cp) ps op) ∧ ae (KR k23 23 w.heap.size (.slice Aq ls.length cq) ls oq) ∧ ae (St w (fun _ => True) [((Value.slice Aq ls.length cq).ownBlock, oq), ((Value.slice Ap ps.length cp).ownBlock, op), (some b9, .cells #[.int .i64 S0, .int .i64 T0, .int .i64 D, .int .i64 E] 23 (0, 0)), (some b3, .cells #[.int .i64 X, .int .i64 Y, .int .i64 Wd, .int .i64 H] 23 (0, 0))] [] [] [] wr))
 case atStart => exact ⟨[], sizes, 0, [], [], none, 0, _, none, 0, _, rfl, rfl, by rw [Int.add_zero], rfl, ⟨rfl⟩, Nat.le_refl _, ⟨by have := HB.out; simp; omega⟩, ⟨HR.out.symm⟩, ⟨Qb _ _ _⟩, ⟨Qb _ _ _⟩, ⟨S.out.noK.noK⟩⟩
 case round =>
  clear S HR
  obtain ⟨pre, rest, off, ps, ls, Ap, cp, op, Aq, cq, oq, rfl, rfl, rfl, rfl, HE, hgg, HO, HG, jI, qc, S⟩ := hrel
  cases rest with
  | nil =>
   have hE := HE.out
   rw [List.append_nil] at hE
   subst hE
   clear HE hgg
   have hlt : ¬ ((pre.length : Int) < (pre.length : Int)) := by omega
   have hw : wrap64 (S0 + D) = S0 + D := by have := HB.out; unfold wrap64; omega
   have Xf := ae.mk (Rk HG.out)
   by_cases hod : off = D
   case pos =>
    obtain ⟨hza, hzb, hzd⟩ := yB (a := (S0 + off)) (b := wrap64 (S0 + D)) (by omega)
    obtain ⟨hya, hyb, hyd⟩ := yB (a := (S0 + off)) (b := (S0 + D)) (by omega)
    have P7 := ae.mk hod
    clear hod hw
    have nO := (S.out.at gy 0).trans rfl
    have oZ := (S.out.at gy 2).trans rfl
    go_wp2
    clear nO oZ
    go_ret3
    rw [Xf.out, if_pos P7.out]
    have S2 := S.out.wK
    exact ⟨Ap, cp, Aq, cq, op, oq, rfl, fun _ => S2.Y4 jI.out qc.out, S.out.below⟩
   case neg =>
    obtain ⟨hza, hzb, hzd⟩ := eqF (a := (S0 + off)) (b := wrap64 (S0 + D)) (by omega)
    obtain ⟨hya, hyb, hyd⟩ := eqF (a := (S0 + off)) (b := (S0 + D)) (by omega)
    have P7 := ae.mk hod
    clear hod hw
    have nO := (S.out.at gy 0).trans rfl
    have oZ := (S.out.at gy 2).trans rfl
    go_wp2
    clear nO oZ
    have HQ := ae.mk (Xf.out.trans (if_neg P7.out))
    go_ret3
    rw [HQ.out]
    exact ⟨none, 0, none, 0, .cells #[] 0 (0, 0), .cells #[] 0 (0, 0), rfl, (fun h => by cases h), S.out.below⟩
  | cons n ns =>
   have hlt : (pre.length : Int) < (sizes.length : Int) := by rw [← HE.out, List.length_append, List.length_cons]; omega
   have hw1 : wrap64 ((pre.length : Int) + 1) = ((pre ++ [n]).length : Int) := by have := gZ.out; rw [List.length_append, List.length_singleton]; unfold wrap64; omega
   have HW1 := ae.mk hw1
   have jl := ae.mk hgg
   have CZ := ae.mk (show ps.length ≤ 1000000 ∧ ls.length ≤ 1000000 by have := HO.out; have := gZ.out; omega)
   have hrd : rd sizes (pre.length : Int) = n := by rw [← HE.out]; simp [rd, List.getD_eq_getElem?_getD]
   obtain ⟨adB, ek, xi⟩ := Kd.ja (Kd.g_ HI.out S.out.below) (pre.length : Int) (Int.natCast_nonneg _) hlt
   subst ek
   rw [hrd] at xi
   simp only [Int.toNat_natCast] at xi
   clear hrd hgg hw1
   go_upto_if 48 with fail
   clear xi
   go_cut [12, 13] (fun v12 v13 wc => ∃ (o' : Int) (ls' : List dW) (Aq : Option Addr) (cq : Nat) (oq : Obj), v12 = .slice Aq ls'.length cq ∧ v13 = .int .i64 (S0 + o') ∧ ae (0 ≤ o' ∧ o' ≤ D + 1 ∧ ls'.length ≤ pre.length + 1) ∧ ae (DN ax S0 T0 D E o' ps ls' n ns = R) ∧ ae (KR k23 23 w.heap.size (.slice Aq ls'.length cq) ls' oq) ∧ ae (St w (fun _ => True) [((Value.slice Aq ls'.length cq).ownBlock, oq), ((Value.slice Ap ps.length cp).ownBlock, op), (some b9, .cells #[.int .i64 S0, .int .i64 T0, .int .i64 D, .int .i64 E] 23 (0, 0)), (some b3, .cells #[.int .i64 X, .int .i64 Y, .int .i64 Wd, .int .i64 H] 23 (0, 0))] [] [] [] wc))
   case first =>
    by_cases hp2 : pre.length = 0
    case pos =>
     have hp : (pre.length == 0) = true := beq_iff_eq.mpr hp2
     obtain ⟨hpa, hpb⟩ := vF (a := 0) (b := (pre.length : Int)) (by omega)
     have hpc : decide (0 < pre.length) = false := decide_eq_false (by omega)
     have hpe : ¬ (0 < pre.length) := by omega
     have HG2 := ae.mk (show DN ax S0 T0 D E off ps ls n ns = R by have h := HG.out; rw [hp] at h; exact h)
     clear hp hp2
     go_wp2
     go_meet
     case rel => exact ⟨off, ls, _, _, _, rfl, rfl, ⟨by have := HO.out; omega⟩, HG2, qc, S⟩
    case neg =>
     have hp : (pre.length == 0) = false := beq_eq_false_iff_ne.mpr hp2
     obtain ⟨hpa, hpb⟩ := wL (a := 0) (b := (pre.length : Int)) (by omega)
     have hpc : decide (0 < pre.length) = true := decide_eq_true (by omega)
     have hpe : 0 < pre.length := by omega
     have HG2 := ae.mk (show DN ax S0 T0 D E (off + 1) ps (ls ++ [qo ax (S0 + off) T0 E 1]) n ns = R by have h := HG.out; rw [hp] at h; exact h)
     have OA := ae.mk (show wrap64 ((S0 + off) + 1) = S0 + (off + 1) by have := HO.out; have := HB.out; unfold wrap64; omega)
     clear hp hp2
     have sG := (S.out.at gy 1).trans rfl
     have sH := (S.out.at gy 3).trans rfl
     go_wp2_with (first | (refine cZ (some 57) Tryz.func102 S (JJ D5.out (S0 + off) T0 1 E) ?_; clear S; intro eU S; clear sG sH) | (refine boxS 16 _ 23 S ?_; clear S; intro b16 fM S) | (refine gY 23 16 58 #[.int .i64 (tX ax (S0 + off) T0), .int .i64 (tX ax T0 (S0 + off)), .int .i64 (tX ax 1 E), .int .i64 (tX ax E 1)] 0 4 S ?_; clear S; intro iq S; obtain ⟨QT, QU, QV, QW⟩ := St.at4 S (.head _)) | (refine ik 63 rfl ?_; at_builtin; replace S := ae.mk S.out.wK; refine xO k23 23 rfl 60 62 67 _ 32 Tryz.underlying67 info23 rfl (by decide) (by decide) (by decide) S qc ⟨tX ax (S0 + off) T0, tX ax T0 (S0 + off), tX ax 1 E, tX ax E 1⟩ [.int .i64 (tX ax (S0 + off) T0), .int .i64 (tX ax T0 (S0 + off)), .int .i64 (tX ax 1 E), .int .i64 (tX ax E 1)] (fun _ _ _ => uB _ _ _ _) (by have := CZ.out; omega) ?_; clear S qc; intro Aq2 cq2 oq2 jD S qc; clear QT QU QV QW))
     go_meet
     case rel => exact ⟨off + 1, _, _, _, _, (by rw [List.length_append]; rfl), (by rw [OA.out]), ⟨by have := HO.out; rw [List.length_append, List.length_singleton]; omega⟩, HG2, qc, ⟨S.out.wK.eP.uN.uN.uN.uN⟩⟩
   case rest =>
    clear S qc HG
    obtain ⟨o', ls', Aq, cq, oq, rfl, rfl, sO, HG, qc, S⟩ := hcut
    rename World => wx
    have CZ := ae.mk (show ps.length ≤ 1000000 ∧ ls'.length ≤ 1000001 by have := HO.out; have := sO.out; have := gZ.out; omega)
    have hg : wrap64 (wrap64 (S0 + D) - (S0 + o')) = D - o' := by have := HB.out; have := sO.out; unfold wrap64; omega
    by_cases hn : n < 1
    case pos =>
     obtain ⟨hna, hnb⟩ := wL (a := n) (b := 1) (by omega)
     have HQ := ae.mk (HG.out.symm.trans (Ee (.inl hn)))
     go_wp2
     go_ret3
     rw [HQ.out]
     exact ⟨none, 0, none, 0, .cells #[] 0 (0, 0), .cells #[] 0 (0, 0), rfl, (fun h => by cases h), S.out.below⟩
    obtain ⟨hna, hnb⟩ := vF (a := n) (b := 1) (by omega)
    by_cases hd : D < o' + n
    case pos =>
     obtain ⟨hda, hdb⟩ := wL (a := wrap64 (wrap64 (S0 + D) - (S0 + o'))) (b := n) (by omega)
     obtain ⟨hea, heb⟩ := wL (a := D - o') (b := n) (by omega)
     have HQ := ae.mk (HG.out.symm.trans (Ee (.inr hd)))
     have nO := (S.out.at gy 0).trans rfl
     have oZ := (S.out.at gy 2).trans rfl
     go_wp2
     clear nO oZ
     go_ret3
     rw [HQ.out]
     exact ⟨none, 0, none, 0, .cells #[] 0 (0, 0), .cells #[] 0 (0, 0), rfl, (fun h => by cases h), S.out.below⟩
    obtain ⟨hda, hdb⟩ := vF (a := wrap64 (wrap64 (S0 + D) - (S0 + o'))) (b := n) (by omega)
    obtain ⟨hea, heb⟩ := vF (a := D - o') (b := n) (by omega)
    have HG2 := ae.mk ((Un (fun h => h.elim hn hd)).symm.trans HG.out)
    have HN := ae.mk hn
    have HD2 := ae.mk hd
    have OA := ae.mk (show wrap64 ((S0 + o') + n) = S0 + (o' + n) by have := sO.out; have := HB.out; unfold wrap64; omega)
    clear hn hd hg
    obtain ⟨nO, sG, oZ, sH⟩ := St.at4 S gy
    go_wp2_with (first | (refine cZ (some 88) Tryz.func102 S (JJ D5.out (S0 + o') T0 n E) ?_; clear S; intro eU S; clear nO sG oZ sH) | (refine boxS 18 _ 23 S ?_; clear S; intro b18 fM S) | (refine gY 23 18 89 #[.int .i64 (tX ax (S0 + o') T0), .int .i64 (tX ax T0 (S0 + o')), .int .i64 (tX ax n E), .int .i64 (tX ax E n)] 0 4 S ?_; clear S; intro iq S; obtain ⟨ahq, ahr, ahs, aht⟩ := St.at4 S (.head _)) | (refine ik 94 rfl ?_; at_builtin; replace S := ae.mk S.out.OI; refine xO k23 23 rfl 91 93 67 _ 32 Tryz.underlying67 info23 rfl (by decide) (by decide) (by decide) S jI ⟨tX ax (S0 + o') T0, tX ax T0 (S0 + o'), tX ax n E, tX ax E n⟩ [.int .i64 (tX ax (S0 + o') T0), .int .i64 (tX ax T0 (S0 + o')), .int .i64 (tX ax n E), .int .i64 (tX ax E n)] (fun _ _ _ => uB _ _ _ _) (by have := CZ.out; omega) ?_; clear S jI; intro PN cp2 SN jD S jI; clear ahq ahr ahs aht))
    have hw1 := HW1.out
    go_wp2
    go_roundg ns.length
    case measure => exact Nat.lt_of_lt_of_le (Nat.lt_succ_self _) jl.out
    case rel => exact ⟨pre ++ [n], ns, o' + n, _, ls', _, _, _, _, _, _, (by rw [List.length_append]; rfl), rfl, (by rw [OA.out]), (by rw [hw1]), ⟨by rw [List.append_assoc]; exact HE.out⟩, Nat.le_refl _, ⟨by have := HO.out; have := sO.out; have := HN.out; have := HD2.out; simp only [List.length_append, List.length_singleton]; omega⟩, ⟨by rw [show ((pre ++ [n]).length == 0) = false by simp]; exact HG2.out⟩, jI, qc, ⟨S.out.wK.eP.uN.uN.OI.uN⟩⟩
def anv.f (_ : Nat) (X Y Wd H ax : Int) (sizes : List Int) : Option (List dW × List dW × Bool) := if sizes.length ≤ 1000000 then some (ui X Y Wd H ax sizes) else none
theorem Two.lower {α β : Type} {d : Kd α} {e : TypeId} {d' : Kd β} {e' : TypeId} {w W W1 : World} {v v' : Value} {l : List α} {l' : List β} {o o' : Obj} (h : Two d e d' e' W W1 v l v' l' o o') (hs : w.heap.size ≤ W.heap.size) : Two d e d' e' w W1 v l v' l' o o' :=
 ⟨EF h.one hs, EF h.two hs, fun g hg => ⟨Nat.le_trans hs (h.at1 g hg).1, (h.at1 g hg).2⟩, fun g hg => ⟨Nat.le_trans hs (h.at2 g hg).1, (h.at2 g hg).2⟩, h.ne⟩
theorem ahB (c : ai) (hl : c.f3.length ≤ 1000000) (b : Nat) (P : Nat → Prop) (A : Option Addr) (cc : Nat) (w : World) (hv : Kd.V k26 26 w b P (.slice A c.f3.length cc) c.f3) :
  Calls Tryz.prog 92 #[.agg #[.int .u8 c.f0, .int .i64 c.f1.f0, .int .i64 c.f1.f1, .int .i64 c.f1.f2, .int .i64 c.f1.f3, .int .i64 c.f2, .slice A c.f3.length cc]] w (PR w (AU c)) := by
 have S := ae.mk (St.start (ts := [(.slice A c.f3.length cc, c.f3)]) (b0 := w.heap.size) (w := w) (P := P) (fun t ht => by rw [List.mem_singleton.1 ht]; exact d_ hv))
 have gZ := ae.mk hl
 clear hl hv
 obtain ⟨ck, ⟨cx, cy, cw, ch⟩, aJ, l⟩ := c
 simp only [] at S gZ ⊢
 rw [show AU ⟨ck, ⟨cx, cy, cw, ch⟩, aJ, l⟩ = ui cx cy cw ch (((ck - 2) % 256 + 1) % 256) (l.map (tV ck)) from rfl]
 obtain ⟨T, hT⟩ : ∃ T, T = ui cx cy cw ch (((ck - 2) % 256 + 1) % 256) (l.map (tV ck)) := ⟨_, rfl⟩
 rw [← hT]
 have HT := ae.mk hT
 clear hT
 go_enter Tryz.func92, Tryz.ntmps92
 go_wp2_with (first
  | (refine boxS 1 _ 26 S ?_; clear S; intro b1 eU S; have jM := (S.out.at (.head _) 6).trans rfl)
  | fail)
 clear jM
 go_loopg [5, 11] l.length (fun gg v3 v9 wr => ∃ (pre rest : List ai) (Ap : Option Addr) (cp : Nat) (op : Obj), v3 = .slice Ap pre.length cp ∧ v9 = .int .i64 (pre.length : Int) ∧ ae (pre ++ rest = l) ∧ rest.length ≤ gg ∧ ae (KR (Kd.int .i64) 3 w.heap.size (.slice Ap pre.length cp) (pre.map (tV ck)) op) ∧ ae (St w P [((Value.slice Ap pre.length cp).ownBlock, op), (some b1, .cells #[.int .u8 ck, .int .i64 cx, .int .i64 cy, .int .i64 cw, .int .i64 ch, .int .i64 aJ, .slice A l.length cc] 26 (0, 0))] [] [(.slice A l.length cc, l)] [] wr))
 case atStart => exact ⟨[], l, _, _, _, rfl, rfl, ⟨rfl⟩, Nat.le_refl _, ⟨Qb _ _ _⟩, ⟨S.out.noK⟩⟩
 case round =>
  clear S
  obtain ⟨pre, rest, Ap, cp, op, rfl, rfl, HE, hgg, jI, S⟩ := hrel
  cases rest with
  | nil =>
   have hE := HE.out
   rw [List.append_nil] at hE
   have hE2 := hE.symm
   subst hE2
   clear hE HE hgg
   have hlt : ¬ ((l.length : Int) < (l.length : Int)) := by omega
   have hlm : (l.map (tV ck)).length = l.length := List.length_map _
   have hcut := fun W hi => akZ cx cy cw ch (((ck - 2) % 256 + 1) % 256) (l.map (tV ck)) (by have := gZ.out; simpa using this) Ap cp W hi
   rw [hlm, ← HT.out] at hcut
   have JU := ae.mk hcut
   clear hcut hlm
   have mi := (S.out.at bf 1).trans rfl
   have mr := (S.out.at bf 2).trans rfl
   have mD := (S.out.at bf 3).trans rfl
   have mF := (S.out.at bf 4).trans rfl
   have iK := (S.out.at bf 0).trans rfl
   go_wp2_with (first
    | (refine lK (some 38) Tryz.func100 (JU.out _ (by have h := (Kd.eX (Qa jI.out S.out (.head _))).2.2; rw [List.length_map] at h; exact h)) ?_; rintro e fM ⟨A1, c1, A2, c2, o1, o2, rfl, h1, hb⟩; refine ⟨_, rfl, ?_⟩; have HCU := ae.mk (fun h => (h1 h).lower S.out.below.size); replace S := ae.mk (S.out.call hb); clear h1 hb; clear mi mr mD mF iK)
    | fail)
   go_ret3
   exact ⟨_, _, _, _, _, _, rfl, HCU.out, S.out.below⟩
  | cons k rest =>
   have hk : k ∈ l := by rw [← HE.out]; simp
   have hlt : (pre.length : Int) < (l.length : Int) := by rw [← HE.out, List.length_append, List.length_cons]; omega
   have hw1 : wrap64 ((pre.length : Int) + 1) = ((pre ++ [k]).length : Int) := by have := gZ.out; rw [List.length_append, List.length_singleton]; unfold wrap64; omega
   have HW1 := ae.mk hw1
   have jl := ae.mk hgg
   have HK := ae.mk hk
   have wI := ae.mk (show pre.length ≤ 1048576 by have := gZ.out; omega)
   obtain ⟨ed, ua, uc, ek, S1⟩ := S.out.elem (.head _) (pre.length : Int) (Int.natCast_nonneg _) hlt
   subst ek
   have hrd : aj l (pre.length : Int) = k := by rw [← HE.out]; exact jd pre k rest
   rw [hrd] at S1
   simp only [Int.toNat_natCast] at S1
   replace S := ae.mk S1
   clear S1 hrd hk hgg hw1
   by_cases hk2 : ck = 2
   case pos =>
    have hka : (ck == 2) = true := beq_iff_eq.mpr hk2
    have hkb : decide (ck = 2) = true := decide_eq_true hk2
    have J6 := ae.mk (show (pre ++ [k]).map (tV ck) = pre.map (tV ck) ++ [k.f1.f2] by rw [List.map_append]; exact congrArg (pre.map (tV ck) ++ [·]) (if_pos hk2))
    clear hk2
    obtain ⟨iP, iQ, iR, iC, iD, jk, jE⟩ := St.yA S
    go_wp2_with (first
     | (refine boxS 7 _ 26 S ?_; clear S; intro b7 iq S; clear iP iQ iR iC iD jk jE)
     | (refine gY 26 7 14 #[.int .u8 k.f0, .int .i64 k.f1.f0, .int .i64 k.f1.f1, .int .i64 k.f1.f2, .int .i64 k.f1.f3, .int .i64 k.f2, .slice ua k.f3.length uc] 0 7 S ?_; clear S; intro jD S; have iK := (S.out.at gy 0).trans rfl; have Kw := (S.out.at (.head _) 3).trans rfl)
     | (refine ik 23 rfl ?_; at_builtin; replace S := ae.mk S.out.wK; refine xO (Kd.int .i64) 3 rfl 18 22 41 (.int .i64 0) 8 Tryz.underlying41 info3 rfl (by decide) (by decide) (by decide) S jI k.f1.f2 [.int .i64 k.f1.f2] (fun _ _ _ => rfl) (by have := wI.out; simp only [List.length_map]; omega) ?_; clear S jI; intro PN cp2 SN mQ S jI; clear iK Kw)
     | fail)
    have e2 : ((pre.map (tV ck)) ++ [k.f1.f2]).length = (pre ++ [k]).length := by simp
    rw [e2, ← J6.out] at jI
    rw [e2] at S
    have hw1 := HW1.out
    go_wp2
    go_roundg rest.length
    case measure => exact Nat.lt_of_lt_of_le (Nat.lt_succ_self _) jl.out
    case rel => exact ⟨pre ++ [k], rest, _, _, _, (by rw [List.length_append]; rfl), (by rw [hw1]), ⟨by rw [List.append_assoc]; exact HE.out⟩, Nat.le_refl _, jI, ⟨S.out.wK.eP.wK.wK.bD.aG.aG.aG.aG.aG.aG.aG⟩⟩
   case neg =>
    have hka : (ck == 2) = false := beq_eq_false_iff_ne.mpr hk2
    have hkb : decide (ck = 2) = false := decide_eq_false hk2
    have J6 := ae.mk (show (pre ++ [k]).map (tV ck) = pre.map (tV ck) ++ [k.f1.f3] by rw [List.map_append]; exact congrArg (pre.map (tV ck) ++ [·]) (if_neg hk2))
    clear hk2
    obtain ⟨iP, iQ, iR, iC, iD, jk, jE⟩ := St.yA S
    go_wp2_with (first
     | (refine boxS 7 _ 26 S ?_; clear S; intro b7 vS S; clear iP iQ iR iC iD jk jE)
     | (refine gY 26 7 14 #[.int .u8 k.f0, .int .i64 k.f1.f0, .int .i64 k.f1.f1, .int .i64 k.f1.f2, .int .i64 k.f1.f3, .int .i64 k.f2, .slice ua k.f3.length uc] 0 7 S ?_; clear S; intro xY S; have iK := (S.out.at gy 0).trans rfl; have Ky := (S.out.at (.head _) 4).trans rfl)
     | (refine ik 29 rfl ?_; at_builtin; replace S := ae.mk S.out.wK; refine xO (Kd.int .i64) 3 rfl 24 28 41 (.int .i64 0) 8 Tryz.underlying41 info3 rfl (by decide) (by decide) (by decide) S jI k.f1.f3 [.int .i64 k.f1.f3] (fun _ _ _ => rfl) (by have := wI.out; simp only [List.length_map]; omega) ?_; clear S jI; intro PN cp2 SN A_ S jI; clear iK Ky)
     | fail)
    have e2 : ((pre.map (tV ck)) ++ [k.f1.f3]).length = (pre ++ [k]).length := by simp
    rw [e2, ← J6.out] at jI
    rw [e2] at S
    have hw1 := HW1.out
    go_wp2
    go_roundg rest.length
    case measure => exact Nat.lt_of_lt_of_le (Nat.lt_succ_self _) jl.out
    case rel => exact ⟨pre ++ [k], rest, _, _, _, (by rw [List.length_append]; rfl), (by rw [hw1]), ⟨by rw [List.append_assoc]; exact HE.out⟩, Nat.le_refl _, jI, ⟨S.out.wK.eP.wK.wK.bD.aG.aG.aG.aG.aG.aG.aG⟩⟩
theorem ahy (k : ai) (r : dW) (A : Option Addr) (cc : Nat) (w : World) :
  Calls Tryz.prog 94 #[.agg #[.int .u8 k.f0, .int .i64 k.f1.f0, .int .i64 k.f1.f1, .int .i64 k.f1.f2, .int .i64 k.f1.f3, .int .i64 k.f2, .slice A k.f3.length cc], .agg #[.int .i64 r.f0, .int .i64 r.f1, .int .i64 r.f2, .int .i64 r.f3]] w fun e w' => e = .returned (.bool (o7 k.f1 r)) ∧ Below w.heap.size w w' := by
 have S := ae.mk (St.start (ts := []) (b0 := w.heap.size) (w := w) (P := fun _ => True) (fun _ h => by cases h))
 go_enter Tryz.func94, Tryz.ntmps94
 go_wp2_with (first
  | (refine boxS 2 _ 26 S ?_; clear S; intro b2 eU S)
  | (refine boxS 3 _ 23 S ?_; clear S; intro b3 fM S; obtain ⟨dm, dn, dA, dB⟩ := St.at4 S (.head _); have bP := (S.out.at bf 1).trans rfl; have bQ := (S.out.at bf 2).trans rfl; have bY := (S.out.at bf 3).trans rfl; have bZ := (S.out.at bf 4).trans rfl)
  | fail)
 clear dm dn dA dB bP bQ bY bZ
 all_goals (go_ret; refine ⟨?_, S.out.below⟩; clear S; simp [o7, *])
theorem aa8 (c : ai) (hl : c.f3.length ≤ 1000000) (b : Nat) (P : Nat → Prop) (A : Option Addr) (cc : Nat) (w : World) (hv : Kd.V k26 26 w b P (.slice A c.f3.length cc) c.f3) :
  Calls Tryz.prog 84 #[.agg #[.int .u8 c.f0, .int .i64 c.f1.f0, .int .i64 c.f1.f1, .int .i64 c.f1.f2, .int .i64 c.f1.f3, .int .i64 c.f2, .slice A c.f3.length cc]] w (VA w c) := by
 have S := ae.mk (St.start (ts := [(.slice A c.f3.length cc, c.f3)]) (b0 := w.heap.size) (w := w) (P := P) (fun t ht => by rw [List.mem_singleton.1 ht]; exact d_ hv))
 have hcut := fun b P A cc W hV => ahB c hl b P A cc W hV
 have ho : pz c = Fb c (AU c) := rfl
 have hl2 := (Rn c).2
 unfold VA
 generalize pz c = v at ho ⊢
 generalize AU c = T at ho hl2 hcut
 clear hl hv
 obtain ⟨ck, ⟨cx, cy, cw, ch⟩, aJ, l⟩ := c
 obtain ⟨t1, t2, t3⟩ := T
 simp only [Fb] at S hl2 hcut ho ⊢
 have HL2 := ae.mk hl2
 clear hl2
 by_cases h1 : ck = 1
 case pos =>
  have hv : v = true := by rw [ho, h1]; rfl
  have ha : (ck == 1) = true := beq_iff_eq.mpr h1
  have hb : decide (ck = 1) = true := decide_eq_true h1
  have HL := ae.mk hv
  clear hv h1 ho hcut
  go_enter Tryz.func84, Tryz.ntmps84
  go_wp2_with (first
   | (refine boxS 1 _ 26 S ?_; clear S; intro b1 eU S; have iK := (S.out.at (.head _) 0).trans rfl)
   | fail)
  clear iK
  go_ret2
  rw [HL.out]
  exact ⟨_, _, _, rfl, fun _ => ⟨[], rfl, Nat.zero_le _, Kd.t_ _ _ _ _ _⟩, S.out.below⟩
 have ha : (ck == 1) = false := beq_eq_false_iff_ne.mpr h1
 have hd : decide (ck = 1) = false := decide_eq_false h1
 rw [ha, Bool.false_or] at ho
 clear h1
 cases t3 with
 | false =>
  rw [Bool.false_and] at ho
  have HL := ae.mk ho
  have JU := ae.mk (fun b P A cc W hV => Ro (hcut b P A cc W hV))
  clear hcut ho
  go_enter Tryz.func84, Tryz.ntmps84
  go_wp2_with (first
   | (refine boxS 1 _ 26 S ?_; clear S; intro b1 eU S; obtain ⟨iK, mi, mr, mD, mF, oH, jM⟩ := St.fF S (.head _))
   | (refine lK (some 12) Tryz.func92 (JU.out _ _ _ _ _ (S.out.tree _ (.head _))) ?_; rintro e fM ⟨Ap, np, cp, Aq, nq, cq, rfl, hb⟩; refine ⟨_, rfl, ?_⟩; replace S := ae.mk (S.out.call hb); clear hb; clear iK mi mr mD mF oH jM)
   | fail)
  go_ret2
  rw [HL.out]
  exact ⟨_, _, _, rfl, (fun h => by cases h), S.out.below⟩
 | true =>
  rw [Bool.true_and] at ho
  have JU := ae.mk (fun b P A cc W hV => Uo (hcut b P A cc W hV))
  have HEF := ae.mk (fun (A B : Option Addr) (ca cb : Nat) (W : World) (h1 : Kd.C k26 W A l.length l) (h2 : Kd.C k23 W B t1.length t1) => (show Calls Tryz.prog 93 #[.slice A l.length ca, .slice B t1.length cb, .func (.func 94) #[] #[]] W fun e w' => e = .returned (.bool v) ∧ Below W.heap.size W w' by rw [ho]; exact ahK (fun k r => o7 k.f1 r) 94 (vk Tryz.func94 (by decide +kernel) (by kernel_rfl)) l t1 A B ca cb W h1 h2 (fun W x X cx y _ _ _ _ => ahy x y X cx W)))
  clear hcut ho
  go_enter Tryz.func84, Tryz.ntmps84
  go_wp2_with (first
   | (refine boxS 1 _ 26 S ?_; clear S; intro b1 eU S; obtain ⟨iK, mi, mr, mD, mF, oH, jM⟩ := St.fF S (.head _))
   | (refine lK (some 12) Tryz.func92 (JU.out _ _ _ _ _ (S.out.tree _ (.head _))) ?_; rintro e fM ⟨Ap, cp, Aq, cq, op, oq, rfl, h1, hb⟩; refine ⟨_, rfl, ?_⟩; obtain ⟨S1, hp, hq⟩ := S.out.two h1 hb; replace S := ae.mk S1; have jI := ae.mk hp; have qc := ae.mk hq; clear S1 hp hq h1 hb; clear iK mi mr mD mF oH jM; have jM := (S.out.at gy 6).trans rfl)
   | (refine ik 22 rfl ?_; (refine gW (by rfl) ?_; dsimp only); refine cZ (some 22) Tryz.func93 S (HEF.out _ _ _ _ _ (Kd.lF (S.out.tree _ (.head _))).2.2 (agP jI.out S.out (.head _)).1) ?_; clear S; intro iq S; clear jM)
   | fail)
  go_ret2
  exact ⟨_, _, _, rfl, fun _ => ⟨t2, rfl, HL2.out, S.out.We qc.out bf⟩, S.out.below⟩
def sF (w0 : World) (gw j : Nat) (W : World) : Prop := Below w0.heap.size w0 W ∧ ∃ (n : Int) (v : Value) (ls : List dW), W.heap[gw]? = some (.cells #[.int .i64 n, v] 92 (0, 0)) ∧ Kd.R k23 23 W w0.heap.size (fun _ => True) v ls ∧ ls.length ≤ j
def Fr (gw : Nat) (W W' : World) : Prop := ∀ k cs t, k ≠ gw → t ≠ 23 → W.heap[k]? = some (.cells cs t (0, 0)) → W'.heap[k]? = some (.cells cs t (0, 0))
theorem Fr.refl (gw : Nat) (W : World) : Fr gw W W := fun _ _ _ _ _ h => h
theorem Fr.trans {gw : Nat} {W W1 W2 : World} (h : Fr gw W W1) (k : Fr gw W1 W2) : Fr gw W W2 := fun i cs t hi ht hb => k i cs t hi ht (h i cs t hi ht hb)
theorem Fr.below {gw : Nat} {W W1 : World} (h : Below W.heap.size W W1) : Fr gw W W1 := fun _ _ _ _ _ hb => aW hb h
theorem Fr.store {gw : Nat} {W W1 : World} (h : W.grownBy W1 (some gw)) : Fr gw W W1 := fun _ _ _ hi _ hb => dH hb h (fun e => absurd (Option.some.inj e) hi)
theorem Fr.append {gw base : Nat} {W W1 : World} {v : Value} {xs : List dW} {ok : Nat → Prop} (hv : Kd.R k23 23 W base ok v xs) (h : W.grownBy W1 v.ownBlock) : Fr gw W W1 := fun _ _ _ _ ht hb => dH hb h (Kd.BC hv hb (fun e => ht e.symm))
theorem sF.below {w0 W W1 : World} {gw j : Nat} (h : sF w0 gw j W) (hb : Below W.heap.size W W1) : sF w0 gw j W1 := by
 obtain ⟨h1, n, v, ls, h2, h3, h4⟩ := h
 exact ⟨au h1 hb, n, v, ls, aW h2 hb, Kd.mM h3 hb, h4⟩
theorem sF.mono {w0 W : World} {gw j j' : Nat} (h : sF w0 gw j W) (hj : j ≤ j') : sF w0 gw j' W := by
 obtain ⟨h1, n, v, ls, h2, h3, h4⟩ := h
 exact ⟨h1, n, v, ls, h2, h3, Nat.le_trans h4 hj⟩
theorem ahx (x : ai) (B : Option Addr) (cb b3 gw : Nat) (r : Bool) (R : World → Prop) (W : World) (hk : W.heap[b3]? = some (.cells #[.pointer (some ⟨gw, 0, none⟩)] 90 (0, 0)))
  (h : ∀ W1, Below W.heap.size W W1 → Calls Tryz.prog 65 #[.pointer (some ⟨gw, 0, none⟩), .agg #[.int .u8 x.f0, .int .i64 x.f1.f0, .int .i64 x.f1.f1, .int .i64 x.f1.f2, .int .i64 x.f1.f3, .int .i64 x.f2, .slice B x.f3.length cb]] W1 fun e w' => e = .returned (.bool r) ∧ R w') :
  Calls Tryz.prog 85 (#[.agg #[.int .u8 x.f0, .int .i64 x.f1.f0, .int .i64 x.f1.f1, .int .i64 x.f1.f2, .int .i64 x.f1.f3, .int .i64 x.f2, .slice B x.f3.length cb]] ++ #[.pointer (some ⟨b3, 0, none⟩)]) W fun e w' => e = .returned (.bool (!r)) ∧ R w' := by
 have HK := ae.mk hk
 have H := ae.mk h
 clear hk h
 simp only [List.append_toArray, List.cons_append, List.nil_append]
 cases r
 all_goals
  go_enter Tryz.func85, Tryz.ntmps85
  go_wp2_with (first
   | ((with_reducible refine aA (N := 2) rfl ?_); refine aV ?hg (N := 2) ?hd (cs := #[.int .u8 x.f0, .int .i64 x.f1.f0, .int .i64 x.f1.f1, .int .i64 x.f1.f2, .int .i64 x.f1.f3, .int .i64 x.f2, .slice B x.f3.length cb]) (t := 26) ?hr ?_; (case hd => rfl); (case hg => rfl); (case hr => first | (go_simp; done) | (go_simp; rfl)); intro b2 hg wb2 hbox hb; have oD := ae.mk hbox; have HB := ae.mk hb; have K3 := ae.mk (aW HK.out hb); have d0 := (af K3.out 0).trans rfl; have c0 := (af oD.out 0).trans rfl; have c1 := (af oD.out 1).trans rfl; have c2 := (af oD.out 2).trans rfl; have c3 := (af oD.out 3).trans rfl; have c4 := (af oD.out 4).trans rfl; have c5 := (af oD.out 5).trans rfl; have c6 := (af oD.out 6).trans rfl; clear hb hbox hg)
   | fail)
  clear c0 c1 c2 c3 c4 c5 c6 d0
  refine (H.out _ HB.out).mono ?_
  rintro e w' ⟨rfl, hR⟩
  have HR := ae.mk hR
  clear hR
  go_wp2
  go_ret
  exact ⟨rfl, HR.out⟩
def tY.T5 : Bool × List (List Nat × List Nat) := (true, [([], []), ([], []), ([1], [1]), ([2], [2]), ([3], [3]), ([], []), ([4, 5], [4, 5]), ([0, 0, 1, 2, 3, 4, 5, 6], [0]), ([7, 0, 1, 2, 3, 4, 5, 6], [7]), ([8, 6, 6, 0, 1, 2, 3, 4, 5, 6], [6, 8])])
def tY.B5 : List Nat := [0, 0, 2, 6, 14, 0, 62, 127, 255, 511]
theorem tY.TE : je .any (opsOf Tryz.f65 5) = tY.T5 := by kernel_rfl
theorem tY.Kr : iM tY.T5.2 tY.B5 = true := by kernel_rfl
theorem afJ (w0 : World) (gw : Nat) (hgw : w0.heap.size ≤ gw) : ∀ (N : Nat) (c : ai), sz c ≤ N → N ≤ 20000 → ∀ (A : Option Addr) (cc : Nat), Kd.C k26 w0 A c.f3.length c.f3 → c.f3.length ≤ cc → ∀ (j : Nat) (W : World), j + dY c.f3 ≤ 1000000 → sF w0 gw j W →
  Calls Tryz.prog 65 #[.pointer (some ⟨gw, 0, none⟩), .agg #[.int .u8 c.f0, .int .i64 c.f1.f0, .int .i64 c.f1.f1, .int .i64 c.f1.f2, .int .i64 c.f1.f3, .int .i64 c.f2, .slice A c.f3.length cc]] W fun e w' => e = .returned (.bool (mP c)) ∧ sF w0 gw (j + dY c.f3) w' ∧ Fr gw W w' := by
 intro N
 induction N with
 | zero => intro c h; rw [bJ] at h; omega
 | succ N ih =>
  intro c hc hN A cc hr hlc j W hj hI
  have hsz := bJ c
  have hlen := jf c.f3
  have acs : ∀ (b2 j1 : Nat) (W1 : World), b2 ≠ gw → W1.heap[b2]? = some (.cells #[.pointer (some ⟨gw, 0, none⟩)] 90 (0, 0)) → sF w0 gw j1 W1 → j1 ≤ j + c.f3.length →
    Calls Tryz.prog 44 #[.slice A c.f3.length cc, .func (.func 85) #[] #[.pointer (some ⟨b2, 0, none⟩)]] W1 fun e w' => e = .returned (.bool (!(c.f3.all mP))) ∧ sF w0 gw (j + dY c.f3) w' ∧ Fr gw W1 w' := by
   intro b2 j1 W1 hne hk hi hj1
   have hcon := Um (fun rest w' => (∃ i, sF w0 gw i w' ∧ i + dY rest ≤ (j + dY c.f3) + rest.length) ∧ Fr gw W1 w') (fun x => !mP x) 85 #[.pointer (some ⟨b2, 0, none⟩)] (vk Tryz.func85 (by decide +kernel) (by kernel_rfl)) c.f3 A cc w0 hr
    (fun s w' h => by obtain ⟨⟨i, h1, _⟩, _⟩ := h; exact h1.1)
    (fun s w' n h => by obtain ⟨⟨i, h1, h2⟩, h3⟩ := h; exact ⟨⟨i, h1.below (aT (Below.refl _ _) n), h2⟩, h3.trans (Fr.below (aT (Below.refl _ _) n))⟩)
    (fun x rest w' B cb hx hp h hCx hlx => by
     obtain ⟨⟨i, h1, h2⟩, h3⟩ := h
     obtain ⟨pre, hp⟩ := hp
     have e1 : dY c.f3 = dY pre + (sz x + dY rest) := by rw [← hp, l7, bH]
     have e2 := bJ x
     have e3 := jf rest
     have e4 := jf pre
     rw [bH, List.length_cons] at h2
     refine (ahx x B cb b2 gw (mP x) (fun w'' => sF w0 gw (i + dY x.f3) w'' ∧ Fr gw W1 w'') w' (h3 b2 _ 90 hne (by decide) hk) (fun W2 hb2 => ?_)).mono ?_
     ·refine (ih x (by omega) (by omega) B cb hCx hlx i W2 (by omega) (h1.below hb2)).mono ?_
      rintro e w'' ⟨he, hi2, hf⟩
      exact ⟨he, hi2, h3.trans ((Fr.below hb2).trans hf)⟩
     ·rintro e w'' ⟨he, hi2, hf⟩
      refine ⟨he, ⟨⟨i + dY x.f3, hi2, ?_⟩, hf⟩⟩
      split
      ·rw [l9]; show _ ≤ _ + 0; omega
      ·omega)
    W1 ⟨⟨j1, hi, by omega⟩, Fr.refl gw W1⟩ hr.2.1
   refine hcon.mono ?_
   rintro e w' ⟨he, ⟨i, h1, h2⟩, h3⟩
   rw [l9] at h2
   refine ⟨?_, h1.mono (by simpa using h2), h3⟩
   rw [he, List.not_all_eq_any_not]
  have hL : ∀ W1, Below w0.heap.size w0 W1 → Calls Tryz.prog 84 #[.agg #[.int .u8 c.f0, .int .i64 c.f1.f0, .int .i64 c.f1.f1, .int .i64 c.f1.f2, .int .i64 c.f1.f3, .int .i64 c.f2, .slice A c.f3.length cc]] W1 fun e w' => ∃ Au n cu, e = .returned (.tuple #[.slice Au n cu, .bool (pz c)]) ∧ (pz c = true → ∃ us : List dW, n = us.length ∧ us.length ≤ c.f3.length ∧ k23.R 23 w' W1.heap.size (fun _ => True) (.slice Au us.length cu) us) ∧ Below W1.heap.size W1 w' := fun W1 hb => aa8 c (by omega) W1.heap.size (fun _ => True) A cc W1 (Kd.wR hlc (Kd.uo (Kd.F7 ql (Kd.g_ hr hb)) (fun _ _ => trivial)))
  rw [vO]
  obtain ⟨hB, n, v, ls, hK, hV, hls⟩ := hI
  obtain ⟨Av, cv, ev⟩ := Kd.ig hV
  subst ev
  have HB := ae.mk hB
  have KW := ae.mk hK
  have RV := ae.mk hV
  have FR := ae.mk (Fr.refl gw W)
  have IJ := ae.mk hgw
  have Vw := ae.mk acs
  have HL := ae.mk hL
  have JY := ae.mk hls
  have HJ := ae.mk hj
  have HN := ae.mk hlen
  clear hB hK hV acs hL hls hj hlen hsz ih hr hlc hc hN
  obtain ⟨ck, ⟨cx, cy, cw, ch⟩, aJ, l⟩ := c
  simp only [] at Vw HL HJ HN ⊢
  generalize pz ⟨ck, ⟨cx, cy, cw, ch⟩, aJ, l⟩ = q at HL ⊢
  generalize l.all mP = p at Vw ⊢
  cases q with
  | false =>
   rw [Bool.false_and]
   go_enter Tryz.func65, Tryz.ntmps65
   go_wp2_with (first
    | ((with_reducible refine aA (N := 2) rfl ?_); refine aV ?hg (N := 2) ?hd (cs := #[.pointer (some ⟨gw, 0, none⟩)]) (t := 90) ?hr ?_; (case hd => rfl); (case hg => rfl); (case hr => first | (go_simp; done) | (go_simp; rfl)); intro b2 hg wb2 hbox hb; have oD := ae.mk hbox; have NE2 := ae.mk (show b2 ≠ gw by rw [hg]; exact Nat.ne_of_gt (gU KW.out)); have dR := ae.mk (au HB.out hb); have tq := ae.mk (aW KW.out hb); have qy := ae.mk (Kd.mM RV.out hb); have qx := ae.mk (FR.out.trans (Fr.below hb)); clear HB KW RV FR; have HB := dR; have KW := tq; have RV := qy; have FR := qx; clear dR tq qy qx; clear hb hbox hg)
    | ((with_reducible refine aA (N := 3) rfl ?_); refine aV ?hg (N := 3) ?hd (cs := #[.int .u8 ck, .int .i64 cx, .int .i64 cy, .int .i64 cw, .int .i64 ch, .int .i64 aJ, .slice A l.length cc]) (t := 26) ?hr ?_; (case hd => rfl); (case hg => rfl); (case hr => first | (go_simp; done) | (go_simp; rfl)); intro b3 hg ZG hbox hb; have dN := ae.mk hbox; have NE3 := ae.mk (show b3 ≠ gw by rw [hg]; exact Nat.ne_of_gt (gU KW.out)); have dR := ae.mk (au HB.out hb); have tq := ae.mk (aW KW.out hb); have qy := ae.mk (Kd.mM RV.out hb); have qx := ae.mk (FR.out.trans (Fr.below hb)); have rE := ae.mk (aW oD.out hb); clear HB KW RV FR oD; have HB := dR; have KW := tq; have RV := qy; have FR := qx; have oD := rE; clear dR tq qy qx rE; have c0 := (af dN.out 0).trans rfl; have c1 := (af dN.out 1).trans rfl; have c2 := (af dN.out 2).trans rfl; have c3 := (af dN.out 3).trans rfl; have c4 := (af dN.out 4).trans rfl; have c5 := (af dN.out 5).trans rfl; have c6 := (af dN.out 6).trans rfl; clear hb hbox hg)
    | fail)
   clear c0 c1 c2 c3 c4 c5 c6
   refine (HL.out _ HB.out).mono ?_
   rintro e w1 ⟨Au, nu, cu, rfl, _, hb⟩
   have dR := ae.mk (au HB.out hb); have tq := ae.mk (aW KW.out hb); have qy := ae.mk (Kd.mM RV.out hb); have qx := ae.mk (FR.out.trans (Fr.below hb)); have rE := ae.mk (aW oD.out hb); have yH := ae.mk (aW dN.out hb); clear HB KW RV FR oD dN; have HB := dR; have KW := tq; have RV := qy; have FR := qx; have oD := rE; have dN := yH; clear dR tq qy qx rE yH
   clear hb
   go_wp2
   go_ret
   exact ⟨rfl, ⟨HB.out, n, _, ls, KW.out, RV.out, by have := JY.out; omega⟩, FR.out⟩
  | true =>
   rw [Bool.true_and]
   go_enter Tryz.func65, Tryz.ntmps65
   go_wp2_with (first
    | ((with_reducible refine aA (N := 2) rfl ?_); refine aV ?hg (N := 2) ?hd (cs := #[.pointer (some ⟨gw, 0, none⟩)]) (t := 90) ?hr ?_; (case hd => rfl); (case hg => rfl); (case hr => first | (go_simp; done) | (go_simp; rfl)); intro b2 hg wb2 hbox hb; have oD := ae.mk hbox; have NE2 := ae.mk (show b2 ≠ gw by rw [hg]; exact Nat.ne_of_gt (gU KW.out)); have dR := ae.mk (au HB.out hb); have tq := ae.mk (aW KW.out hb); have qy := ae.mk (Kd.mM RV.out hb); have qx := ae.mk (FR.out.trans (Fr.below hb)); clear HB KW RV FR; have HB := dR; have KW := tq; have RV := qy; have FR := qx; clear dR tq qy qx; clear hb hbox hg)
    | ((with_reducible refine aA (N := 3) rfl ?_); refine aV ?hg (N := 3) ?hd (cs := #[.int .u8 ck, .int .i64 cx, .int .i64 cy, .int .i64 cw, .int .i64 ch, .int .i64 aJ, .slice A l.length cc]) (t := 26) ?hr ?_; (case hd => rfl); (case hg => rfl); (case hr => first | (go_simp; done) | (go_simp; rfl)); intro b3 hg ZG hbox hb; have dN := ae.mk hbox; have NE3 := ae.mk (show b3 ≠ gw by rw [hg]; exact Nat.ne_of_gt (gU KW.out)); have dR := ae.mk (au HB.out hb); have tq := ae.mk (aW KW.out hb); have qy := ae.mk (Kd.mM RV.out hb); have qx := ae.mk (FR.out.trans (Fr.below hb)); have rE := ae.mk (aW oD.out hb); clear HB KW RV FR oD; have HB := dR; have KW := tq; have RV := qy; have FR := qx; have oD := rE; clear dR tq qy qx rE; have c0 := (af dN.out 0).trans rfl; have c1 := (af dN.out 1).trans rfl; have c2 := (af dN.out 2).trans rfl; have c3 := (af dN.out 3).trans rfl; have c4 := (af dN.out 4).trans rfl; have c5 := (af dN.out 5).trans rfl; have c6 := (af dN.out 6).trans rfl; clear hb hbox hg)
    | fail)
   clear c0 c1 c2 c3 c4 c5 c6
   refine (HL.out _ HB.out).mono ?_
   rintro e w1 ⟨Au, nu, cu, rfl, hu, hb⟩
   obtain ⟨us, eu, hul, hu2⟩ := hu trivial
   subst eu
   have gZ := ae.mk hul
   have HU := ae.mk (Kd.oQ hu2 HB.out.size)
   clear hul hu hu2
   have dR := ae.mk (au HB.out hb); have tq := ae.mk (aW KW.out hb); have qy := ae.mk (Kd.mM RV.out hb); have qx := ae.mk (FR.out.trans (Fr.below hb)); have rE := ae.mk (aW oD.out hb); have yH := ae.mk (aW dN.out hb); clear HB KW RV FR oD dN; have HB := dR; have KW := tq; have RV := qy; have FR := qx; have oD := rE; have dN := yH; clear dR tq qy qx rE yH
   clear hb
   have d0 := (af oD.out 0).trans rfl
   have e0 := (af KW.out 0).trans rfl
   have e1 := (af KW.out 1).trans rfl
   go_wp2_with (first
    | ((with_reducible refine mV (.store 3 (.tmp 20) (.tmp 18)) rfl ?_); go_loud (refine iO (w0 := w0) rfl rfl 3 (.tmp 20) (.tmp 18) rfl (g := gw) (j := 0) (base := w0.heap.size) #[.int .i64 (wrap64 (n + 1)), .slice Av ls.length cv] (u := .int .i64 (wrap64 (n + 1))) (df := [.int .i64 (wrap64 (n + 1))]) ?sA ?sX rfl ?sT ?s1 KW.out ?sJ rfl HB.out HB.out.size IJ.out ?_; (case sA => rfl); (case sX => rfl); (case sT => rfl); (case s1 => (simp [Value.oneCell'])); (case sJ => (first | decide | simp)); intro ws hbk hbb hgg; have qy := ae.mk (Kd.Jf RV.out rfl hgg (fun k_ hk => hk ▸ Kd.BC RV.out KW.out (by decide))); have Td := ae.mk (Kd.Jf HU.out rfl hgg (fun k_ hk => hk ▸ Kd.BC HU.out KW.out (by decide))); have qx := ae.mk (FR.out.trans (Fr.store hgg)); have rE := ae.mk (dH oD.out hgg (fun e_ => absurd (Option.some.inj e_) NE2.out)); have yH := ae.mk (dH dN.out hgg (fun e_ => absurd (Option.some.inj e_) NE3.out)); clear RV HU FR oD dN; have RV := qy; have HU := Td; have FR := qx; have oD := rE; have dN := yH; clear qy Td qx rE yH; clear KW HB d0 e0 e1; have KW := ae.mk hbk; have HB := ae.mk hbb; clear hbk hbb hgg))
    | fail)
   have hb : Below ws.heap.size ws ws.drew := bI (Below.refl _ _)
   have dR := ae.mk (au HB.out hb); have tq := ae.mk (aW KW.out hb); have qy := ae.mk (Kd.mM RV.out hb); have qx := ae.mk (FR.out.trans (Fr.below hb)); have rE := ae.mk (aW oD.out hb); have yH := ae.mk (aW dN.out hb); have Td := ae.mk (Kd.mM HU.out hb); clear HB KW RV FR oD dN HU; have HB := dR; have KW := tq; have RV := qy; have FR := qx; have oD := rE; have dN := yH; have HU := Td; clear dR tq qy qx rE yH Td
   clear hb
   refine jT (n := 10) (S := fun w' => Below w0.heap.size w0 w' ∧ w'.heap[b2]? = some (.cells #[.pointer (some ⟨gw, 0, none⟩)] 90 (0, 0)) ∧ w'.heap[gw]? = some (.cells #[.int .i64 (wrap64 (n + 1)), .slice Av ls.length cv] 92 (0, 0))) (ds := [9]) (bA 10 0) (by kernel_rfl) rfl rfl ⟨HB.out, oD.out, KW.out⟩ (fun hHeld => ?_); refine gG tY.TE tY.Kr (fun ak fC => ?_)
   generalize ws.drew = wd at HB KW RV FR oD dN HU hHeld ⊢
   refine dM 0 21 (bA 10 1) ak fC hHeld ?_ (hv := by intro w' hs_; have c := (af hs_.2.1 0).trans rfl; go_simp; with_reducible rfl)
   refine dM 1 22 (bA 10 3) ak fC hHeld ?_ (hv := by intro w' hs_; have c := (af hs_.2.1 0).trans rfl; go_simp; with_reducible rfl)
   refine ay 2 23 (bA 10 7) ak ?_
   refine ay 3 24 (bA 10 15) ak ?_
   refine dM 4 25 (bA 10 31) ak fC hHeld ?_ (hv := by intro w' hs_; have c := (af hs_.2.2 1).trans rfl; go_simp; with_reducible rfl)
   refine ay 5 26 (bA 10 63) ak ?_
   refine iH 6 (some 27) (bA 10 127) ak (fun K hK => ?_)
   refine Kd.Gj k23 (w0 := w0) w0.heap.size (by rfl) (.tmp 25) (.tmp 26) 67 23 (.agg #[(.int .i64 0), (.int .i64 0), (.int .i64 0), (.int .i64 0)]) 32 rfl Tryz.underlying67 info23 rfl (by decide) (by omega) (.slice Av ls.length cv) ls us Au us.length cu (fun _ => True) (fun _ => False) rfl rfl RV.out (Kd.eX HU.out).2.2 (fun _ _ h => h) (fun _ h => h.elim) (fun _ _ => trivial) HB.out HB.out.size (by have h1 := JY.out; have h2 := gZ.out; have h3 := HJ.out; have h4 := HN.out; omega) ?_
   intro v1 wk ho hb hg hat
   have q1 := ae.mk (FR.out.trans (Fr.append RV.out hg))
   have q2 := ae.mk (dH oD.out hg (Kd.BC RV.out oD.out (by decide)))
   have q3 := ae.mk (dH dN.out hg (Kd.BC RV.out dN.out (by decide)))
   have q4 := ae.mk (dH KW.out hg (Kd.BC RV.out KW.out (by decide)))
   clear FR oD dN KW HB RV HU
   have FR := q1
   have oD := q2
   have dN := q3
   have KW := q4
   have HB := ae.mk hb
   have RV := ae.mk ho
   clear q1 q2 q3 q4 hb ho hg hat
   obtain ⟨A1, c1, e1⟩ := Kd.ig RV.out
   subst e1
   refine hK.out _ _ ⟨HB.out, oD.out, KW.out⟩ (fun hHeld => ?_)
   clear hK K
   refine dO 27 ?_
   refine ay 7 28 (bA 10 255) ak ?_
   refine ay 8 29 (bA 10 511) ak ?_
   refine sK 9 none (bA 10 1023) ak (fun K hK => ?_)
   obtain ⟨w9, Gw⟩ : ∃ w9, w9 = wk.setCells gw 1 [.slice A1 (ls ++ us).length c1] := ⟨_, rfl⟩
   have hst := tK (j := 1) (cs' := #[.int .i64 (wrap64 (n + 1)), .slice A1 (ls ++ us).length c1]) (df := [.slice A1 (ls ++ us).length c1]) KW.out (by first | decide | simp) rfl
   rw [← Gw] at hst
   refine Lt (w1 := w9) (by rfl) rfl ?_ ?_
   ·rw [Gw]; exact FD 67 (.tmp 29) (.tmp 27) rfl (cs := #[.int .i64 (wrap64 (n + 1)), .slice Av ls.length cv]) (t0 := 92) (df := [.slice A1 (ls ++ us).length c1]) rfl rfl rfl (by kernel_rfl) (by simp [Value.oneCell']) KW.out (by first | decide | simp)
   have JS := ae.mk (grown_below HB.out hst.2 IJ.out HB.out.size)
   have RV9 := ae.mk (Kd.Jf RV.out rfl hst.2 (fun k_ hk => hk ▸ Kd.BC RV.out KW.out (by decide)))
   have FR9 := ae.mk (FR.out.trans (Fr.store hst.2))
   have K29 := ae.mk (dH oD.out hst.2 (fun e_ => absurd (Option.some.inj e_) NE2.out))
   have K39 := ae.mk (dH dN.out hst.2 (fun e_ => absurd (Option.some.inj e_) NE3.out))
   have KW9 := ae.mk hst.1
   clear hst
   refine hK.out _ _ ?_
   clear hK K Gw
   refine lJ (jc ak.out (by kernel_rfl)) ?_
   have c6 := (af K39.out 6).trans rfl
   cases p
   all_goals
    go_wp2_with fail
    refine (Vw.out b2 (j + us.length) _ NE2.out K29.out ⟨JS.out, _, _, _, KW9.out, RV9.out, by have := JY.out; rw [List.length_append]; omega⟩ (by have := gZ.out; omega)).mono ?_
    rintro e w2 ⟨rfl, hi, hf⟩
    have HI := ae.mk hi
    have HF := ae.mk (FR9.out.trans hf)
    clear hi hf
    go_wp2
    go_ret
    exact ⟨rfl, HI.out, HF.out⟩
theorem aiS : (Tryz.prog.info? 9).map (fun i => (i.zero, i.size, i.bytes)) = some (some (.string ⟨#[]⟩), 1, 16) := by kernel_rfl
theorem YZ (e at_ : Int) (he : e ≠ 0) (w : World) : Calls Tryz.prog 64 #[.int .i64 e, .int .i64 at_] w fun x w' => (∃ t v, x = .returned (.iface t v)) ∧ Below w.heap.size w w' := by
 have hb : (e == 0) = false := beq_eq_false_iff_ne.mpr he
 clear he
 go_enter Tryz.func64, Tryz.ntmps64
 go_wp2
 go_ret
 exact ⟨⟨_, _, rfl⟩, aY (Below.refl _ _) _⟩
theorem aap (ad : Addr) (c0 : Nat) (l0 : List ByteArray) (hl : l0.length ≤ 1000) (w : World) (hr0 : Kd.C Kd.string w (some ad) l0.length l0) (hc0 : l0.length ≤ c0) :
  Calls Tryz.prog 83 #[.slice (some ad) l0.length c0] w fun e w' => ∃ A n c, e = .returned (.slice A n c) ∧ Below w.heap.size w w' := by
 have heq : ∀ W : World, (binOp .eql 108 (.slice (some ad) l0.length c0) (.slice none 0 0)).run Tryz.prog W = .ok (.bool false) W := fun W => Lib.run_eql_slice_nil W 108 9 (some ad) l0.length c0 0 0 Tryz.underlying108
 have HR := ae.mk hr0
 have HL := ae.mk hl
 clear hl hr0
 go_enter Tryz.func83, Tryz.ntmps83
 go_wp2_with (first | ((with_reducible refine aA (N := 5) rfl ?_); refine Kd.xk Kd.string w.heap.size 9 ?hg (N := 5) ?hd (xs := ([] : List ByteArray)) (inner := []) (ok := fun _ => True) (gz := fun _ => True) ?hr ?hp (fun _ hk => hk) trivial (Below.refl _ _) (Nat.le_refl _) (by simp) ?_; (case hd => rfl); (case hg => rfl); (case hr => (go_simp; done)); (case hp => exact dC.none _ _); intro v5 w5 ho hb pG jZ; clear pG jZ; have HO := ae.mk ho; have HB := ae.mk hb; clear ho hb; obtain ⟨Ao, co, eo⟩ := Kd.ig HO.out; subst eo) | ((with_reducible refine oJ (b := .append) (xs := #[.tmp 5, .tmp 6]) rfl ?_); at_builtin; refine Kd.uu (Rr := Kd.string.K w) Kd.string (w0 := w) w.heap.size rfl (.tmp 5) (.tmp 6) 108 9 (.string ⟨#[]⟩) 16 rfl Tryz.underlying108 aiS rfl (by decide) (by omega) (.slice Ao ([] : List ByteArray).length co) ([] : List ByteArray) l0 _ _ _ (fun _ => True) (fun _ => False) rfl rfl HO.out ?aR (fun _ _ h => h) (fun _ h => h.elim) (fun _ _ => trivial) HB.out HB.out.size ?aL ?_; (case aR => exact Kd.g_ HR.out HB.out); (case aL => have := HL.out; simp; omega); intro v7 w7 ho hb pG ang; have HO7 := ae.mk ho; have HB7 := ae.mk hb; clear ho hb pG ang))
 obtain ⟨A7, c7, e7⟩ := Kd.ig HO7.out
 subst e7
 go_ret
 exact ⟨_, _, _, rfl, HB7.out⟩
theorem acC (tv : TypeId) (v : Value) (ad : Addr) (c0 : Nat) (x : ByteArray) (w : World) (hr0 : Kd.C Kd.string w (some ad) 1 [x]) (hc0 : 1 ≤ c0) :
  Calls Tryz.prog 63 #[.iface tv v, .slice (some ad) 1 c0] w fun e w' => (∃ t u, e = .returned (.iface t u)) ∧ Below w.heap.size w w' := by
 have HCl := ae.mk (aap ad c0 [x] (by simp) w hr0 hc0)
 clear hr0
 go_enter Tryz.func63, Tryz.ntmps63
 go_wp2_with fail
 refine HCl.out.mono ?_
 rintro e w' ⟨A, n, c, rfl, hb⟩
 have HB := ae.mk hb
 clear hb
 go_wp2
 go_ret
 exact ⟨⟨_, _, rfl⟩, aY HB.out _⟩
section
variable {σ : Type} (step : σ → ai → Bool × σ)
mutual
def uG : ai → σ → Bool × σ
 | ⟨a, b, d, l⟩, s => if (step s ⟨a, b, d, l⟩).1 = true then uQ l (step s ⟨a, b, d, l⟩).2 else (false, (step s ⟨a, b, d, l⟩).2)
def uQ : List ai → σ → Bool × σ
 | [], s => (true, s)
 | k :: ks, s => if (uG k s).1 = true then uQ ks (uG k s).2 else (false, (uG k s).2)
end
theorem Ui (c : ai) (s : σ) : uG step c s = if (step s c).1 = true then uQ step c.f3 (step s c).2 else (false, (step s c).2) := by cases c; simp [uG]
theorem GN (s : σ) : uQ step [] s = (true, s) := by simp [uQ]
theorem Ld (k : ai) (ks : List ai) (s : σ) : uQ step (k :: ks) s = if (uG step k s).1 = true then uQ step ks (uG step k s).2 else (false, (uG step k s).2) := by simp [uQ]
theorem Zm : ∀ (l : List ai) (s : σ), uT (fun s k => (!(uG step k s).1, (uG step k s).2)) s l = (!(uQ step l s).1, (uQ step l s).2) := by
 intro l
 induction l with
 | nil => intro s; rw [GN]; rfl
 | cons k ks ih =>
  intro s
  rw [Ld]
  simp only [uT]
  cases h : (uG step k s).1 with
  | true => simp [ih]
  | false => simp
def wU : List ai → σ → Bool × σ
 | [], s => (true, s)
 | k :: ks, s => if (step s k).1 = true then wU ks (step s k).2 else (false, (step s k).2)
theorem abB : ∀ (a b : List ai) (s : σ), wU step (a ++ b) s = if (wU step a s).1 = true then wU step b (wU step a s).2 else (false, (wU step a s).2) := by
 intro a
 induction a with
 | nil => intro b s; simp [wU]
 | cons k ks ih =>
  intro b s
  simp only [List.cons_append, wU]
  by_cases h : (step s k).1 = true
  ·simp [h, ih]
  ·simp [h]
theorem ZZ : ∀ (N : Nat), (∀ c : ai, sz c ≤ N → ∀ s, uG step c s = wU step (fU c) s) ∧ (∀ l : List ai, dY l ≤ N → ∀ s, uQ step l s = wU step (allL l) s) := by
 intro N
 induction N with
 | zero =>
  refine ⟨fun c h => ?_, fun l h => ?_⟩
  ·rw [bJ] at h; omega
  ·cases l with
   | nil => intro s; rw [GN, kS]; rfl
   | cons x xs => rw [bH, bJ] at h; omega
 | succ N ih =>
  have hC : ∀ c : ai, sz c ≤ N + 1 → ∀ s, uG step c s = wU step (fU c) s := by
   intro c h s
   rw [bJ] at h
   rw [Ui, lZ]
   simp only [wU]
   rw [ih.2 c.f3 (by omega)]
  refine ⟨hC, fun l => ?_⟩
  induction l with
  | nil => intro _ s; rw [GN, kS]; rfl
  | cons x xs ihl =>
   intro h s
   rw [bH] at h
   rw [Ld, iE, abB, hC x (by omega), ihl (by omega)]
end
theorem aiP {σ : Type} (Inv : σ → World → Prop) (step : σ → ai → Bool × σ) (g : Nat) (lb : Array Value) (eg : ∀ args w, (callFunc g args).run Tryz.prog w = .ok (.enter g args) w) (l : List ai) (A : Option Addr) (c : Nat)
  (w0 : World) (hR : Kd.C k26 w0 A l.length l) (hW : ∀ s W, Inv s W → Below w0.heap.size w0 W) (hD : ∀ s W n, Inv s W → Inv s (W.drewN n))
  (hcall : ∀ s W (x : ai) (B : Option Addr) (cb : Nat), x ∈ l → Inv s W → Kd.C k26 w0 B x.f3.length x.f3 → x.f3.length ≤ cb → Calls Tryz.prog g (#[.agg #[.int .u8 x.f0, .int .i64 x.f1.f0, .int .i64 x.f1.f1, .int .i64 x.f1.f2, .int .i64 x.f1.f3, .int .i64 x.f2, .slice B x.f3.length cb]] ++ lb) W fun e w' => e = .returned (.bool (step s x).1) ∧ Inv (step s x).2 w')
  (s : σ) (w : World) (hI : Inv s w) (hl : l.length ≤ 9223372036854775807) :
  Calls Tryz.prog 61 #[.slice A l.length c, .func (.func g) #[] lb] w fun e w' => e = .returned (.int .i64 (mY step 0 s l).1) ∧ Inv (mY step 0 s l).2 w' := by
 have HR := ae.mk hR
 have HW := ae.mk hW
 have HI := ae.mk hI
 have Bc := ae.mk hcall
 clear hR hW hcall hD hI
 go_enter Tryz.func61, Tryz.ntmps61
 go_wp2
 go_loopg [5, 8] l.length (fun gg _ v8 wr => ∃ (kk : Nat) (t : σ), kk ≤ l.length ∧ l.length - kk ≤ gg ∧ v8 = .int .i64 kk ∧ ae (Inv t wr) ∧ ae (mY step 0 s l = mY step kk t (l.drop kk)))
 case atStart => exact ⟨0, s, Nat.zero_le _, by omega, rfl, HI, ⟨by simp⟩⟩
 case round =>
  clear HI
  obtain ⟨kk, t, hkk, hg, rfl, HI, HS⟩ := hrel
  by_cases hlt : kk < l.length
  ·have hltz : (kk : Int) < (l.length : Int) := by omega
   obtain ⟨ad, B, cb, rfl, hc0, hc1, hc2, hc3, hc4, hc5, hc6, hlb, hgb⟩ := qi HR.out (kk : Int) (by omega) (by omega)
   have hbw := HW.out t wr HI.out
   replace hc0 := (hbw.cell (World.block_lt_of_cell? w0 _ hc0)).trans hc0
   replace hc1 := (hbw.cell (World.block_lt_of_cell? w0 _ hc1)).trans hc1
   replace hc2 := (hbw.cell (World.block_lt_of_cell? w0 _ hc2)).trans hc2
   replace hc3 := (hbw.cell (World.block_lt_of_cell? w0 _ hc3)).trans hc3
   replace hc4 := (hbw.cell (World.block_lt_of_cell? w0 _ hc4)).trans hc4
   replace hc5 := (hbw.cell (World.block_lt_of_cell? w0 _ hc5)).trans hc5
   replace hc6 := (hbw.cell (World.block_lt_of_cell? w0 _ hc6)).trans hc6
   clear hbw
   have HX : ae (mY step kk t (l.drop kk) = if (step t (aj l (kk : Int))).1 = true then ((kk : Int), (step t (aj l (kk : Int))).2) else mY step ((kk + 1 : Nat) : Int) (step t (aj l (kk : Int))).2 (l.drop (kk + 1))) := ⟨Va step z26 l kk hlt t⟩
   have hmem : (aj l (kk : Int)) ∈ l := FB z26 l kk hlt
   have hcall := Bc.out t wr _ B cb hmem HI.out hgb hlb
   clear hmem hgb hlb
   simp only [Int.toNat_natCast] at hc0 hc1 hc2 hc3 hc4 hc5 hc6
   generalize aj l (kk : Int) = x at hc0 hc1 hc2 hc3 hc4 hc5 hc6 HX hcall
   have HC := ae.mk hcall
   clear hcall
   cases hq : (step t x).1 with
   | true =>
    have h := HC.out
    rw [hq] at h
    have HH := ae.mk h
    have HQ := ae.mk hq
    clear hq HC h
    go_wp2_with fail
    refine HH.out.mono ?_
    rintro e w' ⟨rfl, hb'⟩
    have HB := ae.mk hb'
    clear hb'
    go_wp2
    go_ret
    rw [HS.out, HX.out, if_pos HQ.out]
    exact ⟨rfl, HB.out⟩
   | false =>
    have h := HC.out
    rw [hq] at h
    have HH := ae.mk h
    have HQ := ae.mk hq
    clear hq HC h
    go_wp2_with fail
    refine HH.out.mono ?_
    rintro e w' ⟨rfl, hb'⟩
    have HB := ae.mk hb'
    clear hb'
    go_wp2
    go_roundg (l.length - (kk + 1))
    case measure => omega
    case rel =>
     refine ⟨kk + 1, (step t x).2, by omega, by omega, by go_num, HB, ⟨?_⟩⟩
     rw [HS.out, HX.out, if_neg (by rw [HQ.out]; simp)]
  ·have hltz : ¬ (kk : Int) < (l.length : Int) := by omega
   go_wp2
   go_ret
   rw [HS.out, List.drop_eq_nil_of_le (by omega)]
   exact ⟨rfl, HI.out⟩
theorem XG {σ : Type} (Inv : σ → World → Prop) (step : σ → ai → Bool × σ) (g : Nat) (lb : Array Value) (eg : ∀ args w, (callFunc g args).run Tryz.prog w = .ok (.enter g args) w) (l : List ai) (A : Option Addr) (c : Nat)
  (w0 : World) (hR : Kd.C k26 w0 A l.length l) (hW : ∀ s W, Inv s W → Below w0.heap.size w0 W) (hD : ∀ s W n, Inv s W → Inv s (W.drewN n))
  (hcall : ∀ s W (x : ai) (B : Option Addr) (cb : Nat), x ∈ l → Inv s W → Kd.C k26 w0 B x.f3.length x.f3 → x.f3.length ≤ cb → Calls Tryz.prog g (#[.agg #[.int .u8 x.f0, .int .i64 x.f1.f0, .int .i64 x.f1.f1, .int .i64 x.f1.f2, .int .i64 x.f1.f3, .int .i64 x.f2, .slice B x.f3.length cb]] ++ lb) W fun e w' => e = .returned (.bool (step s x).1) ∧ Inv (step s x).2 w')
  (s : σ) (w : World) (hI : Inv s w) (hl : l.length ≤ 9223372036854775807) :
  Calls Tryz.prog 44 #[.slice A l.length c, .func (.func g) #[] lb] w fun e w' => e = .returned (.bool (uT step s l).1) ∧ Inv (uT step s l).2 w' := by
 have hi := aiP Inv step g lb eg l A c w0 hR hW hD hcall s w hI hl
 rw [Tv]
 clear hR hW hD hcall hI
 generalize mY step 0 s l = r at hi
 have HI := ae.mk hi
 clear hi
 go_enter Tryz.func44, Tryz.ntmps44
 go_wp2_with fail
 refine HI.out.mono ?_
 rintro e w' ⟨rfl, hb'⟩
 have HB := ae.mk hb'
 clear hb'
 go_wp2
 go_ret
 exact ⟨rfl, HB.out⟩
theorem U2 (l : List ai) (A : Option Addr) (c : Nat) (g : Nat) (lb : Array Value) (Q : World → Prop) (b : Bool) (w : World)
  (h : Calls Tryz.prog 44 #[.slice A l.length c, .func (.func g) #[] lb] w fun e w' => e = .returned (.bool b) ∧ Q w') (hD : ∀ W n, Q W → Q (W.drewN n)) :
  Calls Tryz.prog 80 #[.slice A l.length c, .func (.func g) #[] lb] w fun e w' => e = .returned (.bool (!b)) ∧ Q w' := by
 have H := ae.mk h
 clear h hD
 cases b
 all_goals
  go_enter Tryz.func80, Tryz.ntmps80
  go_wp2_with fail
  refine H.out.mono ?_
  rintro e w' ⟨rfl, hb⟩
  have HB := ae.mk hb
  clear hb
  go_wp2
  go_ret
  exact ⟨rfl, HB.out⟩
structure Kp (S : Nat → Prop) (W W' : World) : Prop where
 size : W.heap.size ≤ W'.heap.size
 blk : ∀ k, k < W.heap.size → ¬ S k → W'.heap[k]? = W.heap[k]?
theorem Kp.refl (S : Nat → Prop) (W : World) : Kp S W W := ⟨Nat.le_refl _, fun _ _ _ => rfl⟩
theorem Kp.trans {S : Nat → Prop} {W W1 W2 : World} (h : Kp S W W1) (k : Kp S W1 W2) : Kp S W W2 := ⟨Nat.le_trans h.size k.size, fun i hi hs => (k.blk i (Nat.lt_of_lt_of_le hi h.size) hs).trans (h.blk i hi hs)⟩
theorem Kp.below {S : Nat → Prop} {W W1 : World} (h : Below W.heap.size W W1) : Kp S W W1 := ⟨h.size, fun i hi _ => h.block i hi⟩
theorem Kp.at {S : Nat → Prop} {W W1 : World} {g : Nat} {o : Obj} (h : Kp S W W1) (hb : W.heap[g]? = some o) (hs : ¬ S g) : W1.heap[g]? = some o := (h.blk g (gU hb) hs).trans hb
theorem ahw (x : ai) (B : Option Addr) (cb g : Nat) (lb : Array Value) (b3 : Nat) (r : Bool) (R : World → Prop) (W : World) (hk : W.heap[b3]? = some (.cells #[.func (.func g) #[] lb] 27 (0, 0)))
  (h : ∀ W1, Below W.heap.size W W1 → Calls Tryz.prog 88 #[.agg #[.int .u8 x.f0, .int .i64 x.f1.f0, .int .i64 x.f1.f1, .int .i64 x.f1.f2, .int .i64 x.f1.f3, .int .i64 x.f2, .slice B x.f3.length cb], .func (.func g) #[] lb] W1 fun e w' => e = .returned (.bool r) ∧ R w') :
  Calls Tryz.prog 96 (#[.agg #[.int .u8 x.f0, .int .i64 x.f1.f0, .int .i64 x.f1.f1, .int .i64 x.f1.f2, .int .i64 x.f1.f3, .int .i64 x.f2, .slice B x.f3.length cb]] ++ #[.pointer (some ⟨b3, 0, none⟩)]) W fun e w' => e = .returned (.bool (!r)) ∧ R w' := by
 have HK := ae.mk hk
 have H := ae.mk h
 clear hk h
 simp only [List.append_toArray, List.cons_append, List.nil_append]
 cases r
 all_goals
  go_enter Tryz.func96, Tryz.ntmps96
  go_wp2_with (((with_reducible refine aA (N := 2) rfl ?_); refine aV ?hg (N := 2) ?hd (cs := #[.int .u8 x.f0, .int .i64 x.f1.f0, .int .i64 x.f1.f1, .int .i64 x.f1.f2, .int .i64 x.f1.f3, .int .i64 x.f2, .slice B x.f3.length cb]) (t := 26) ?hr ?_; (case hd => rfl); (case hg => rfl); (case hr => (go_simp; done)); intro b2 hg w2 hbox hb; have HB := ae.mk hb; have K2 := ae.mk hbox; have K3 := ae.mk (aW HK.out hb); clear hb hbox hg; have c0 := (af K2.out 0).trans rfl; have c1 := (af K2.out 1).trans rfl; have c2 := (af K2.out 2).trans rfl; have c3 := (af K2.out 3).trans rfl; have c4 := (af K2.out 4).trans rfl; have c5 := (af K2.out 5).trans rfl; have c6 := (af K2.out 6).trans rfl; have d0 := (af K3.out 0).trans rfl))
  clear c0 c1 c2 c3 c4 c5 c6 d0
  refine (H.out _ HB.out).mono ?_
  rintro e w' ⟨rfl, hR⟩
  have HR := ae.mk hR
  clear hR
  go_wp2
  go_ret
  exact ⟨rfl, HR.out⟩
theorem ag6 {σ : Type} (S : Nat → Prop) (Inv : σ → World → Prop) (step : σ → ai → Bool × σ) (g : Nat) (lb : Array Value) (eg : ∀ args w, (callFunc g args).run Tryz.prog w = .ok (.enter g args) w) (w0 : World)
  (hW : ∀ s W, Inv s W → Below w0.heap.size w0 W) (hB : ∀ s W W', Inv s W → Below W.heap.size W W' → Inv s W') (hS : ∀ s W, Inv s W → ∀ k, S k → k < W.heap.size)
  (hcall : ∀ s W (x : ai) (B : Option Addr) (cb : Nat), Inv s W → Kd.C k26 w0 B x.f3.length x.f3 → x.f3.length ≤ cb → Calls Tryz.prog g (#[.agg #[.int .u8 x.f0, .int .i64 x.f1.f0, .int .i64 x.f1.f1, .int .i64 x.f1.f2, .int .i64 x.f1.f3, .int .i64 x.f2, .slice B x.f3.length cb]] ++ lb) W fun e w' => e = .returned (.bool (step s x).1) ∧ Inv (step s x).2 w' ∧ Kp S W w') :
  ∀ (N : Nat) (c : ai), sz c ≤ N → ∀ (A : Option Addr) (cc : Nat), Kd.C k26 w0 A c.f3.length c.f3 → c.f3.length ≤ cc → ∀ s W, Inv s W →
   Calls Tryz.prog 88 #[.agg #[.int .u8 c.f0, .int .i64 c.f1.f0, .int .i64 c.f1.f1, .int .i64 c.f1.f2, .int .i64 c.f1.f3, .int .i64 c.f2, .slice A c.f3.length cc], .func (.func g) #[] lb] W fun e w' => e = .returned (.bool (uG step c s).1) ∧ Inv (uG step c s).2 w' ∧ Kp S W w' := by
 intro N
 induction N with
 | zero => intro c h; rw [bJ] at h; omega
 | succ N ih =>
  intro c hc A cc hr hlc s W hI
  have hsz := bJ c
  have acu : ∀ (b3 : Nat) (s1 : σ) (W1 : World), Inv s1 W1 → W1.heap[b3]? = some (.cells #[.func (.func g) #[] lb] 27 (0, 0)) → ¬ S b3 →
    Calls Tryz.prog 80 #[.slice A c.f3.length cc, .func (.func 96) #[] #[.pointer (some ⟨b3, 0, none⟩)]] W1 fun e w' => e = .returned (.bool (uQ step c.f3 s1).1) ∧ Inv (uQ step c.f3 s1).2 w' ∧ Kp S W1 w' := by
   intro b3 s1 W1 hI1 hk3 hs3
   have hcon := XG (fun t w' => Inv t w' ∧ Kp S W1 w') (fun t k => (!(uG step k t).1, (uG step k t).2)) 96 #[.pointer (some ⟨b3, 0, none⟩)] (vk Tryz.func96 (by decide +kernel) (by kernel_rfl)) c.f3 A cc w0 hr (fun t w' h => hW t w' h.1)
    (fun t w' n h => ⟨hB t w' _ h.1 (aT (Below.refl _ _) n), h.2.trans (Kp.below (aT (Below.refl _ _) n))⟩)
    (fun t w' x B cb hx h hCx hlx => by
     refine ahw x B cb g lb b3 _ _ w' (h.2.at hk3 hs3) (fun W2 hb2 => ?_)
     refine (ih x ?_ B cb hCx hlx t W2 (hB t w' W2 h.1 hb2)).mono fun e w'' ⟨he, hi, hk⟩ => ⟨he, hi, (h.2.trans (Kp.below hb2)).trans hk⟩
     have : sz x ≤ dY c.f3 := by
      obtain ⟨p, q, e⟩ := List.append_of_mem hx
      rw [e, l7, bH]; omega
     omega) s1 W1 ⟨hI1, Kp.refl S W1⟩ hr.2.1
   rw [Zm] at hcon
   have := U2 c.f3 A cc 96 _ _ _ W1 hcon (fun w' n h => ⟨hB _ w' _ h.1 (aT (Below.refl _ _) n), h.2.trans (Kp.below (aT (Below.refl _ _) n))⟩)
   rw [Bool.not_not] at this
   exact this
  have ahV : ∀ k, S k → k < W.heap.size := hS s W hI
  have hE := Ui step c s
  have hcl := fun W1 (h : Inv s W1) => hcall s W1 c A cc h hr hlc
  rcases hst : step s c with ⟨q, s1⟩
  rw [hst] at hE hcl
  simp only [] at hE hcl
  rw [hE]
  have HN := ae.mk fun b3 W1 => acu b3 s1 W1
  have HI := ae.mk hI
  have Bc := ae.mk hcl
  have HBb := ae.mk hB
  have HS := ae.mk hS
  have HS0 := ae.mk ahV
  have HK := ae.mk (Kp.refl S W)
  clear acu hI hcall hB hS ih hr hlc hsz hc hW hE hcl hst ahV
  obtain ⟨ck, ⟨cx, cy, cw, ch⟩, aJ, l⟩ := c
  simp only [] at HN Bc ⊢
  generalize uQ step l s1 = ns at HN ⊢
  obtain ⟨n1, n2⟩ := ns
  cases q with
  | false =>
   simp only [Bool.false_eq_true, if_false]
   clear HN
   go_enter Tryz.func88, Tryz.ntmps88
   go_wp2_with (first | ((with_reducible refine aA (N := 2) rfl ?_); refine aV ?hg (N := 2) ?hd (cs := #[.int .u8 ck, .int .i64 cx, .int .i64 cy, .int .i64 cw, .int .i64 ch, .int .i64 aJ, .slice A l.length cc]) (t := 26) ?hr ?_; (case hd => rfl); (case hg => rfl); (case hr => (go_simp; done)); intro b2 hg wb2 hbox hb; have K2 := ae.mk hbox; have HS2 := ae.mk (show ¬ b2 < W.heap.size by rw [hg]; exact Nat.lt_irrefl _); have fQ := ae.mk (HBb.out _ _ _ HI.out hb); have gm := ae.mk (HK.out.trans (Kp.below hb)); clear HI HK; have HI := fQ; have HK := gm; clear fQ gm; clear hb hbox hg) | ((with_reducible refine aA (N := 3) rfl ?_); refine aV ?hg (N := 3) ?hd (cs := #[.func (.func g) #[] lb]) (t := 27) ?hr ?_; (case hd => rfl); (case hg => rfl); (case hr => (go_simp; done)); intro b3 hg ZG hbox hb; have K3 := ae.mk hbox; have jq := ae.mk (aW K2.out hb); have NS := ae.mk (fun h => Nat.lt_irrefl _ (Nat.lt_of_lt_of_le (hg ▸ HS.out _ _ HI.out b3 h) (Nat.le_refl _)) : ¬ S b3); have NS2 := ae.mk (fun h => HS2.out (HS0.out b2 h) : ¬ S b2); clear K2; have K2 := jq; clear jq; have fQ := ae.mk (HBb.out _ _ _ HI.out hb); have gm := ae.mk (HK.out.trans (Kp.below hb)); clear HI HK; have HI := fQ; have HK := gm; clear fQ gm; clear hb hbox hg; have c0 := (af K2.out 0).trans rfl; have c1 := (af K2.out 1).trans rfl; have c2 := (af K2.out 2).trans rfl; have c3 := (af K2.out 3).trans rfl; have c4 := (af K2.out 4).trans rfl; have c5 := (af K2.out 5).trans rfl; have c6 := (af K2.out 6).trans rfl; have d0 := (af K3.out 0).trans rfl))
   clear c0 c1 c2 c3 c4 c5 c6 d0
   refine (Bc.out _ HI.out).mono ?_
   rintro e w' ⟨rfl, hi, hk⟩
   have HI' := ae.mk hi
   have HK' := ae.mk (HK.out.trans hk)
   clear hi hk
   go_wp2
   go_ret
   exact ⟨rfl, HI'.out, HK'.out⟩
  | true =>
   simp only [if_true]
   cases n1
   all_goals
    go_enter Tryz.func88, Tryz.ntmps88
    go_wp2_with (first | ((with_reducible refine aA (N := 2) rfl ?_); refine aV ?hg (N := 2) ?hd (cs := #[.int .u8 ck, .int .i64 cx, .int .i64 cy, .int .i64 cw, .int .i64 ch, .int .i64 aJ, .slice A l.length cc]) (t := 26) ?hr ?_; (case hd => rfl); (case hg => rfl); (case hr => (go_simp; done)); intro b2 hg wb2 hbox hb; have K2 := ae.mk hbox; have HS2 := ae.mk (show ¬ b2 < W.heap.size by rw [hg]; exact Nat.lt_irrefl _); have fQ := ae.mk (HBb.out _ _ _ HI.out hb); have gm := ae.mk (HK.out.trans (Kp.below hb)); clear HI HK; have HI := fQ; have HK := gm; clear fQ gm; clear hb hbox hg) | ((with_reducible refine aA (N := 3) rfl ?_); refine aV ?hg (N := 3) ?hd (cs := #[.func (.func g) #[] lb]) (t := 27) ?hr ?_; (case hd => rfl); (case hg => rfl); (case hr => (go_simp; done)); intro b3 hg ZG hbox hb; have K3 := ae.mk hbox; have jq := ae.mk (aW K2.out hb); have NS := ae.mk (fun h => Nat.lt_irrefl _ (Nat.lt_of_lt_of_le (hg ▸ HS.out _ _ HI.out b3 h) (Nat.le_refl _)) : ¬ S b3); have NS2 := ae.mk (fun h => HS2.out (HS0.out b2 h) : ¬ S b2); clear K2; have K2 := jq; clear jq; have fQ := ae.mk (HBb.out _ _ _ HI.out hb); have gm := ae.mk (HK.out.trans (Kp.below hb)); clear HI HK; have HI := fQ; have HK := gm; clear fQ gm; clear hb hbox hg; have c0 := (af K2.out 0).trans rfl; have c1 := (af K2.out 1).trans rfl; have c2 := (af K2.out 2).trans rfl; have c3 := (af K2.out 3).trans rfl; have c4 := (af K2.out 4).trans rfl; have c5 := (af K2.out 5).trans rfl; have c6 := (af K2.out 6).trans rfl; have d0 := (af K3.out 0).trans rfl))
    clear c0 c1 c2 c3 c4 c5 c6 d0
    refine (Bc.out _ HI.out).mono ?_
    rintro e w' ⟨rfl, hi, hk⟩
    have HI' := ae.mk hi
    have HK' := ae.mk (HK.out.trans hk)
    have K3' := ae.mk (hk.at K3.out NS.out)
    have K2' := ae.mk (hk.at K2.out NS2.out)
    clear hi hk
    have c6 : w'.cell? ⟨b2, 6, none⟩ = some (.slice A l.length cc) := (af K2'.out 6).trans rfl
    go_wp2_with fail
    clear c6
    refine (HN.out b3 w' HI'.out K3'.out NS.out).mono ?_
    rintro e w'' ⟨rfl, hi, hk⟩
    have HI2 := ae.mk hi
    have CY := ae.mk (HK'.out.trans hk)
    clear hi hk
    go_wp2
    go_ret
    exact ⟨rfl, HI2.out, CY.out⟩
def yE (x : ai) : Bool := if x.f0 = 1 then decide (x.f3.length = 0) && (decide (0 ≤ x.f2) && decide (x.f2 ≤ 2147483647)) else if x.f0 = 2 ∨ x.f0 = 3 then decide (2 ≤ x.f3.length) && decide (x.f2 = 0) else false
theorem Cf (x : ai) : mg x = (yE x && lV x.f1) := by
 unfold mg yE
 by_cases h1 : x.f0 = 1
 ·simp [h1, Bool.and_comm, Bool.and_assoc]
 ·by_cases h2 : x.f0 = 2
  ·simp [h2, Bool.and_comm]
  ·by_cases h3 : x.f0 = 3
   ·simp [h3, Bool.and_comm]
   ·have : ¬ (1 ≤ x.f0 ∧ x.f0 ≤ 3) := by omega
    simp [h1, h2, h3, this]
def ku (s : Int × List Int) (x : ai) : Bool × (Int × List Int) :=
 if 20000 < wrap64 (s.1 + 1) then (false, (wrap64 (s.1 + 1), s.2))
 else if mg x = false then (false, (wrap64 (s.1 + 1), s.2))
 else if x.f0 = 1 then (if x.f2 ∈ s.2 then (false, (wrap64 (s.1 + 1), s.2)) else (true, (wrap64 (s.1 + 1), x.f2 :: s.2)))
 else (true, (wrap64 (s.1 + 1), s.2))
def lv (l : List ai) : List ai := l.filter fun x => decide (x.f0 = 1)
theorem YT : ∀ (rest pre : List ai), (pre ++ rest).length ≤ 1048576 → pre.length ≤ 20000 → fA (lv pre) = true →
  (wU ku rest ((pre.length : Int), ((lv pre).map (·.f2)).reverse)).1 = (decide (pre.length + rest.length ≤ 20000) && (rest.all mg && fA (lv (pre ++ rest)))) := by
 intro rest
 induction rest with
 | nil =>
  intro pre _ h2 h3
  simp [wU, h3]
  exact h2
 | cons x xs ih =>
  intro pre h1 h2 h3
  have hlen : (pre ++ x :: xs).length = pre.length + xs.length + 1 := by simp; omega
  have hw : wrap64 ((pre.length : Int) + 1) = ((pre.length + 1 : Nat) : Int) := (wq (by omega) (by omega)).trans (by omega)
  have hsp : pre ++ x :: xs = (pre ++ [x]) ++ xs := by simp
  simp only [wU]
  unfold ku
  simp only [hw]
  by_cases c1 : (20000 : Int) < ((pre.length + 1 : Nat) : Int)
  ·rw [if_pos c1]
   simp
   intro h
   omega
  ·rw [if_neg c1]
   cases c2 : mg x with
   | false => simp [c2]
   | true =>
    simp only [Bool.true_eq_false, if_false, List.all_cons, c2, Bool.true_and]
    have hl1 : (pre ++ [x]).length = pre.length + 1 := by simp
    have hcnt : decide (pre.length + (x :: xs).length ≤ 20000) = decide ((pre ++ [x]).length + xs.length ≤ 20000) := by
     rw [hl1, List.length_cons, decide_eq_decide]; omega
    rw [hcnt]
    by_cases c3 : x.f0 = 1
    ·rw [if_pos c3]
     have hlv : lv (pre ++ [x]) = lv pre ++ [x] := by simp [lv, c3]
     have hmem : x.f2 ∈ ((lv pre).map (·.f2)).reverse ↔ qP (lv pre) x = false := by
      simp [qP]
      constructor
      ·rintro ⟨y, hy, e⟩; exact ⟨y, hy, e.symm⟩
      ·rintro ⟨y, hy, e⟩; exact ⟨y, hy, e.symm⟩
     by_cases c4 : x.f2 ∈ ((lv pre).map (·.f2)).reverse
     ·rw [if_pos c4]
      have hd : fA (lv (pre ++ x :: xs)) = false := by
       rw [hsp]
       unfold lv
       rw [List.filter_append]
       apply AV
       have : List.filter (fun x => decide (x.f0 = 1)) (pre ++ [x]) = lv pre ++ [x] := hlv
       rw [this, uy, hmem.1 c4, Bool.and_false]
      simp [hd]
     ·rw [if_neg c4]
      have ha : qP (lv pre) x = true := by
       cases h : qP (lv pre) x with
       | true => rfl
       | false => exact absurd (hmem.2 h) c4
      have e := ih (pre ++ [x]) (by rw [← hsp]; exact h1) (by rw [hl1]; omega) (by rw [hlv, uy, h3, ha]; rfl)
      rw [hlv, List.map_append, List.reverse_append, hl1, ← hsp] at e
      simp only [if_true]
      rw [hl1]
      exact e
    ·rw [if_neg c3]
     have hlv : lv (pre ++ [x]) = lv pre := by simp [lv, c3]
     have e := ih (pre ++ [x]) (by rw [← hsp]; exact h1) (by rw [hl1]; omega) (by rw [hlv]; exact h3)
     rw [hlv, hl1, ← hsp] at e
     simp only [if_true]
     rw [hl1]
     exact e
theorem ZY (c : ai) (h : sz c ≤ 1048576) : (uG ku c (0, [])).1 = mZ c := by
 rw [(ZZ ku (sz c)).1 c (Nat.le_refl _)]
 have e := YT (fU c) [] (by rw [List.nil_append]; exact h) (by simp) rfl
 have e2 : (wU ku (fU c) (0, [])).1 = (decide (0 + (fU c).length ≤ 20000) && ((fU c).all mg && fA (lv ([] ++ fU c)))) := e
 rw [e2, Nat.zero_add, List.nil_append]
 rfl
theorem abb : ∀ (N : Nat) (l : List Int), l.Nodup → (∀ i ∈ l, 0 ≤ i ∧ i < (N : Int)) → l.length ≤ N := by
 intro N
 induction N with
 | zero =>
  intro l _ h
  cases l with
  | nil => simp
  | cons x xs => have := h x (by simp); omega
 | succ N ih =>
  intro l hn h
  have h1 := ih (l.filter fun i => decide (i ≠ (N : Int))) (hn.filter _) (fun i hi => by
   have h2 := List.mem_filter.1 hi
   have h3 := h i h2.1
   have h4 := of_decide_eq_true h2.2
   omega)
  have h5 : ∀ (m : List Int), m.Nodup → m.length ≤ (m.filter fun i => decide (i ≠ (N : Int))).length + 1 := by
   intro m
   induction m with
   | nil => intro _; simp
   | cons y ys ihm =>
    intro hm
    rw [List.nodup_cons] at hm
    by_cases hy : y = (N : Int)
    ·have : ys.filter (fun i => decide (i ≠ (N : Int))) = ys := by
      rw [List.filter_eq_self]
      intro i hi
      exact decide_eq_true (fun e => hm.1 (by rw [hy, ← e]; exact hi))
     rw [List.filter_cons_of_neg (by simp [hy]), this, List.length_cons]
     exact Nat.le_refl _
    ·rw [List.filter_cons_of_pos (by simpa using hy), List.length_cons, List.length_cons]
     have := ihm hm.2
     omega
  have := h5 l hn
  omega
def JE (ids : List Int) : DataW Unit := ids.foldr (fun i D => D.put (.int .i64 i) (.lit (.bool true))) (.map [])
theorem abC : ∀ ids : List Int, Maps.IsMap (JE ids) := by
 intro ids
 induction ids with
 | nil => exact Maps.isMap_empty
 | cons x xs ih => exact Maps.IsMap.put ih _ _
theorem Vd (i : Int) : ∀ ids : List Int, (JE ids).atKey (.int .i64 i) (.lit (.bool false)) = .lit (.bool (decide (i ∈ ids))) := by
 intro ids
 induction ids with
 | nil => rfl
 | cons x xs ih =>
  show (DataW.put (JE xs) (.int .i64 x) (.lit (.bool true))).atKey (.int .i64 i) (.lit (.bool false)) = _
  by_cases h : i = x
  ·subst h
   rw [Maps.atKey_put_same (abC xs) (by simp [WideAt.IsKeyLit])]
   simp
  ·rw [Maps.atKey_put_other (by intro e; injection e with _ e; exact h e), ih]
   simp [h]
structure nU (w0 : World) (bn bm B : Nat) (s : Int × List Int) (W : World) : Prop where
 hn : W.heap[bn]? = some (.cells #[.int .i64 s.1] 3 (0, 0))
 hm : W.heap[bm]? = some (.cells #[.map (some B)] 117 (0, 0))
 map : W.ownsMap (H := Unit) Tryz.prog 3 (plainElem Tryz.prog 4) B s.2.length (JE s.2)
 below : Below w0.heap.size w0 W
 gn : w0.heap.size ≤ bn
 gB : w0.heap.size ≤ B
 nd : s.2.Nodup
 rg : ∀ i ∈ s.2, 0 ≤ i ∧ i ≤ 2147483647
theorem below_grown {W W' : World} (h : Below W.heap.size W W') : W.grownBy W' none := ⟨h.os, h.tape, h.output, h.size, fun k hk _ => h.block k hk⟩
theorem nU.step {w0 W W' : World} {bn bm B : Nat} {s : Int × List Int} (h : nU w0 bn bm B s W) (hb : Below W.heap.size W W') : nU w0 bn bm B s W' :=
 ⟨aW h.hn hb, aW h.hm hb, h.map.kept (below_grown hb) (by simp), au h.below hb, h.gn, h.gB, h.nd, h.rg⟩
theorem nU.neB {w0 W : World} {bn bm B : Nat} {s : Int × List Int} (h : nU w0 bn bm B s W) : bn ≠ B ∧ bm ≠ B ∧ bm ≠ bn := by
 obtain ⟨es, cl, hB, _⟩ := h.map
 refine ⟨fun e => ?_, fun e => ?_, wV h.hm h.hn (by decide)⟩
 ·have := h.hn; rw [e, hB] at this; cases this
 ·have := h.hm; rw [e, hB] at this; cases this
def yc (bn B : Nat) (k : Nat) : Prop := k = bn ∨ k = B
section
variable {P : Program} {ops : Array Oper} {rest : List Oper} {o : Oper} {a : Act} {Q : Exit → Act → World → Prop}
theorem IP (w : World) (hg : o.guard = none) (m x : Operand) (t : TypeId) (hop : o.op = Op.lookup t m x false)
  (k e : TypeId) (K : Maps.Keyed P k) (ht : P.underlying t = some (.map k e)) (he : P.underlying e = some .bool) (hz : (zeroValue e).run P w = .ok (.bool false) w) (b n : Nat) (D : DataW Unit)
  (hm : a.eval m = .map (some b)) (hown : w.ownsMap P k (plainElem P e) b n D) (key : Value) (kl : Lit) (hx : a.eval x = key) (hkey : keyOf P k key = some kl) (r : Bool) (hr : D.atKey kl (.lit (.bool false)) = .lit (.bool r))
  (hK : wpList P ops Q rest (a.put o.dst (.bool r)) w) : wpList P ops Q (o :: rest) a w := by
 refine wpList_plain hg fun K' hK' => ?_
 obtain ⟨v, ps, hrun, hv⟩ := hown.lookup K ht hz (plainElem_bool he false) hkey
 have hv2 : v = .bool r := by
  rw [hr] at hv
  unfold plainElem at hv
  rw [he] at hv
  cases v with
  | bool q =>
   simp only [Option.some.injEq, Prod.mk.injEq, DataW.lit.injEq, Lit.bool.injEq] at hv
   rw [hv.1]
  | _ => cases hv
 subst hv2
 unfold Oper.wp
 simp [execOp, hop, hm, hx, hrun, Result.andThen]
 exact hK' _ _ hK
end
theorem Ep (x : ai) (B : Option Addr) (cb : Nat) (w : World) : Calls Tryz.prog 90 #[.agg #[.int .u8 x.f0, .int .i64 x.f1.f0, .int .i64 x.f1.f1, .int .i64 x.f1.f2, .int .i64 x.f1.f3, .int .i64 x.f2, .slice B x.f3.length cb]] w fun e w' => e = .returned (.bool (yE x)) ∧ Below w.heap.size w w' := by
 unfold yE
 by_cases k1 : x.f0 = 1
 ·rw [if_pos k1]
  have k1b : (x.f0 == 1) = true := beq_iff_eq.mpr k1
  clear k1
  by_cases l0 : x.f3.length = 0
  ·rw [decide_eq_true l0, Bool.true_and]
   have l1 : ((x.f3.length : Int) == 0) = true := by simp [l0]
   have l2 : (x.f3.length == 0) = true := by simp [l0]
   clear l0
   by_cases i0 : 0 ≤ x.f2
   ·rw [decide_eq_true i0, Bool.true_and]
    have YH : decide (0 ≤ x.f2) = true := decide_eq_true i0
    by_cases i1 : x.f2 ≤ 2147483647
    ·rw [decide_eq_true i1]
     have i1b : decide (x.f2 ≤ 2147483647) = true := decide_eq_true i1
     go_enter Tryz.func90, Tryz.ntmps90
     go_wp2_with (((with_reducible refine aA (N := 1) rfl ?_); refine aV ?hg (N := 1) ?hd (cs := #[.int .u8 x.f0, .int .i64 x.f1.f0, .int .i64 x.f1.f1, .int .i64 x.f1.f2, .int .i64 x.f1.f3, .int .i64 x.f2, .slice B x.f3.length cb]) (t := 26) ?hr ?_; (case hd => rfl); (case hg => rfl); (case hr => (go_simp; done)); intro b1 hg w1 hbox hb; have HB := ae.mk hb; have K1 := ae.mk hbox; clear hb hbox hg; have c0 := (af K1.out 0).trans rfl; have c1 := (af K1.out 1).trans rfl; have c2 := (af K1.out 2).trans rfl; have c3 := (af K1.out 3).trans rfl; have c4 := (af K1.out 4).trans rfl; have c5 := (af K1.out 5).trans rfl; have c6 := (af K1.out 6).trans rfl))
     go_ret
     exact ⟨rfl, HB.out⟩
    ·rw [decide_eq_false i1]
     have i1b : decide (x.f2 ≤ 2147483647) = false := decide_eq_false i1
     go_enter Tryz.func90, Tryz.ntmps90
     go_wp2_with (((with_reducible refine aA (N := 1) rfl ?_); refine aV ?hg (N := 1) ?hd (cs := #[.int .u8 x.f0, .int .i64 x.f1.f0, .int .i64 x.f1.f1, .int .i64 x.f1.f2, .int .i64 x.f1.f3, .int .i64 x.f2, .slice B x.f3.length cb]) (t := 26) ?hr ?_; (case hd => rfl); (case hg => rfl); (case hr => (go_simp; done)); intro b1 hg w1 hbox hb; have HB := ae.mk hb; have K1 := ae.mk hbox; clear hb hbox hg; have c0 := (af K1.out 0).trans rfl; have c1 := (af K1.out 1).trans rfl; have c2 := (af K1.out 2).trans rfl; have c3 := (af K1.out 3).trans rfl; have c4 := (af K1.out 4).trans rfl; have c5 := (af K1.out 5).trans rfl; have c6 := (af K1.out 6).trans rfl))
     go_ret
     exact ⟨rfl, HB.out⟩
   ·rw [decide_eq_false i0, Bool.false_and]
    have YH : decide (0 ≤ x.f2) = false := decide_eq_false i0
    go_enter Tryz.func90, Tryz.ntmps90
    go_wp2_with (((with_reducible refine aA (N := 1) rfl ?_); refine aV ?hg (N := 1) ?hd (cs := #[.int .u8 x.f0, .int .i64 x.f1.f0, .int .i64 x.f1.f1, .int .i64 x.f1.f2, .int .i64 x.f1.f3, .int .i64 x.f2, .slice B x.f3.length cb]) (t := 26) ?hr ?_; (case hd => rfl); (case hg => rfl); (case hr => (go_simp; done)); intro b1 hg w1 hbox hb; have HB := ae.mk hb; have K1 := ae.mk hbox; clear hb hbox hg; have c0 := (af K1.out 0).trans rfl; have c1 := (af K1.out 1).trans rfl; have c2 := (af K1.out 2).trans rfl; have c3 := (af K1.out 3).trans rfl; have c4 := (af K1.out 4).trans rfl; have c5 := (af K1.out 5).trans rfl; have c6 := (af K1.out 6).trans rfl))
    go_ret
    exact ⟨rfl, HB.out⟩
  ·rw [decide_eq_false l0, Bool.false_and]
   have l1 : ((x.f3.length : Int) == 0) = false := by simp; intro h; exact l0 (by simp [h])
   have l2 : (x.f3.length == 0) = false := by simpa using l0
   clear l0
   go_enter Tryz.func90, Tryz.ntmps90
   go_wp2_with (((with_reducible refine aA (N := 1) rfl ?_); refine aV ?hg (N := 1) ?hd (cs := #[.int .u8 x.f0, .int .i64 x.f1.f0, .int .i64 x.f1.f1, .int .i64 x.f1.f2, .int .i64 x.f1.f3, .int .i64 x.f2, .slice B x.f3.length cb]) (t := 26) ?hr ?_; (case hd => rfl); (case hg => rfl); (case hr => (go_simp; done)); intro b1 hg w1 hbox hb; have HB := ae.mk hb; have K1 := ae.mk hbox; clear hb hbox hg; have c0 := (af K1.out 0).trans rfl; have c1 := (af K1.out 1).trans rfl; have c2 := (af K1.out 2).trans rfl; have c3 := (af K1.out 3).trans rfl; have c4 := (af K1.out 4).trans rfl; have c5 := (af K1.out 5).trans rfl; have c6 := (af K1.out 6).trans rfl))
   go_ret
   exact ⟨rfl, HB.out⟩
 ·rw [if_neg k1]
  have k1b : (x.f0 == 1) = false := beq_eq_false_iff_ne.mpr k1
  by_cases k2 : x.f0 = 2
  ·rw [if_pos (.inl k2)]
   have k2b : (x.f0 == 2) = true := beq_iff_eq.mpr k2
   clear k2 k1
   by_cases l0 : 2 ≤ x.f3.length
   ·rw [decide_eq_true l0, Bool.true_and]
    have l1 : (2 : Int) ≤ (x.f3.length : Int) := by omega
    by_cases i0 : x.f2 = 0
    ·rw [decide_eq_true i0]
     have YH : (x.f2 == 0) = true := beq_iff_eq.mpr i0
     clear i0
     go_enter Tryz.func90, Tryz.ntmps90
     go_wp2_with (((with_reducible refine aA (N := 1) rfl ?_); refine aV ?hg (N := 1) ?hd (cs := #[.int .u8 x.f0, .int .i64 x.f1.f0, .int .i64 x.f1.f1, .int .i64 x.f1.f2, .int .i64 x.f1.f3, .int .i64 x.f2, .slice B x.f3.length cb]) (t := 26) ?hr ?_; (case hd => rfl); (case hg => rfl); (case hr => (go_simp; done)); intro b1 hg w1 hbox hb; have HB := ae.mk hb; have K1 := ae.mk hbox; clear hb hbox hg; have c0 := (af K1.out 0).trans rfl; have c1 := (af K1.out 1).trans rfl; have c2 := (af K1.out 2).trans rfl; have c3 := (af K1.out 3).trans rfl; have c4 := (af K1.out 4).trans rfl; have c5 := (af K1.out 5).trans rfl; have c6 := (af K1.out 6).trans rfl))
     go_ret
     exact ⟨rfl, HB.out⟩
    ·rw [decide_eq_false i0]
     have YH : (x.f2 == 0) = false := beq_eq_false_iff_ne.mpr i0
     clear i0
     go_enter Tryz.func90, Tryz.ntmps90
     go_wp2_with (((with_reducible refine aA (N := 1) rfl ?_); refine aV ?hg (N := 1) ?hd (cs := #[.int .u8 x.f0, .int .i64 x.f1.f0, .int .i64 x.f1.f1, .int .i64 x.f1.f2, .int .i64 x.f1.f3, .int .i64 x.f2, .slice B x.f3.length cb]) (t := 26) ?hr ?_; (case hd => rfl); (case hg => rfl); (case hr => (go_simp; done)); intro b1 hg w1 hbox hb; have HB := ae.mk hb; have K1 := ae.mk hbox; clear hb hbox hg; have c0 := (af K1.out 0).trans rfl; have c1 := (af K1.out 1).trans rfl; have c2 := (af K1.out 2).trans rfl; have c3 := (af K1.out 3).trans rfl; have c4 := (af K1.out 4).trans rfl; have c5 := (af K1.out 5).trans rfl; have c6 := (af K1.out 6).trans rfl))
     go_ret
     exact ⟨rfl, HB.out⟩
   ·rw [decide_eq_false l0, Bool.false_and]
    have l1 : ¬ (2 : Int) ≤ (x.f3.length : Int) := by omega
    go_enter Tryz.func90, Tryz.ntmps90
    go_wp2_with (((with_reducible refine aA (N := 1) rfl ?_); refine aV ?hg (N := 1) ?hd (cs := #[.int .u8 x.f0, .int .i64 x.f1.f0, .int .i64 x.f1.f1, .int .i64 x.f1.f2, .int .i64 x.f1.f3, .int .i64 x.f2, .slice B x.f3.length cb]) (t := 26) ?hr ?_; (case hd => rfl); (case hg => rfl); (case hr => (go_simp; done)); intro b1 hg w1 hbox hb; have HB := ae.mk hb; have K1 := ae.mk hbox; clear hb hbox hg; have c0 := (af K1.out 0).trans rfl; have c1 := (af K1.out 1).trans rfl; have c2 := (af K1.out 2).trans rfl; have c3 := (af K1.out 3).trans rfl; have c4 := (af K1.out 4).trans rfl; have c5 := (af K1.out 5).trans rfl; have c6 := (af K1.out 6).trans rfl))
    go_ret
    exact ⟨rfl, HB.out⟩
  ·by_cases k3 : x.f0 = 3
   ·rw [if_pos (.inr k3)]
    have k2b : (x.f0 == 2) = false := beq_eq_false_iff_ne.mpr k2
    have k3b : (x.f0 == 3) = true := beq_iff_eq.mpr k3
    clear k3 k2 k1
    by_cases l0 : 2 ≤ x.f3.length
    ·rw [decide_eq_true l0, Bool.true_and]
     have l1 : (2 : Int) ≤ (x.f3.length : Int) := by omega
     by_cases i0 : x.f2 = 0
     ·rw [decide_eq_true i0]
      have YH : (x.f2 == 0) = true := beq_iff_eq.mpr i0
      clear i0
      go_enter Tryz.func90, Tryz.ntmps90
      go_wp2_with (((with_reducible refine aA (N := 1) rfl ?_); refine aV ?hg (N := 1) ?hd (cs := #[.int .u8 x.f0, .int .i64 x.f1.f0, .int .i64 x.f1.f1, .int .i64 x.f1.f2, .int .i64 x.f1.f3, .int .i64 x.f2, .slice B x.f3.length cb]) (t := 26) ?hr ?_; (case hd => rfl); (case hg => rfl); (case hr => (go_simp; done)); intro b1 hg w1 hbox hb; have HB := ae.mk hb; have K1 := ae.mk hbox; clear hb hbox hg; have c0 := (af K1.out 0).trans rfl; have c1 := (af K1.out 1).trans rfl; have c2 := (af K1.out 2).trans rfl; have c3 := (af K1.out 3).trans rfl; have c4 := (af K1.out 4).trans rfl; have c5 := (af K1.out 5).trans rfl; have c6 := (af K1.out 6).trans rfl))
      go_ret
      exact ⟨rfl, HB.out⟩
     ·rw [decide_eq_false i0]
      have YH : (x.f2 == 0) = false := beq_eq_false_iff_ne.mpr i0
      clear i0
      go_enter Tryz.func90, Tryz.ntmps90
      go_wp2_with (((with_reducible refine aA (N := 1) rfl ?_); refine aV ?hg (N := 1) ?hd (cs := #[.int .u8 x.f0, .int .i64 x.f1.f0, .int .i64 x.f1.f1, .int .i64 x.f1.f2, .int .i64 x.f1.f3, .int .i64 x.f2, .slice B x.f3.length cb]) (t := 26) ?hr ?_; (case hd => rfl); (case hg => rfl); (case hr => (go_simp; done)); intro b1 hg w1 hbox hb; have HB := ae.mk hb; have K1 := ae.mk hbox; clear hb hbox hg; have c0 := (af K1.out 0).trans rfl; have c1 := (af K1.out 1).trans rfl; have c2 := (af K1.out 2).trans rfl; have c3 := (af K1.out 3).trans rfl; have c4 := (af K1.out 4).trans rfl; have c5 := (af K1.out 5).trans rfl; have c6 := (af K1.out 6).trans rfl))
      go_ret
      exact ⟨rfl, HB.out⟩
    ·rw [decide_eq_false l0, Bool.false_and]
     have l1 : ¬ (2 : Int) ≤ (x.f3.length : Int) := by omega
     go_enter Tryz.func90, Tryz.ntmps90
     go_wp2_with (((with_reducible refine aA (N := 1) rfl ?_); refine aV ?hg (N := 1) ?hd (cs := #[.int .u8 x.f0, .int .i64 x.f1.f0, .int .i64 x.f1.f1, .int .i64 x.f1.f2, .int .i64 x.f1.f3, .int .i64 x.f2, .slice B x.f3.length cb]) (t := 26) ?hr ?_; (case hd => rfl); (case hg => rfl); (case hr => (go_simp; done)); intro b1 hg w1 hbox hb; have HB := ae.mk hb; have K1 := ae.mk hbox; clear hb hbox hg; have c0 := (af K1.out 0).trans rfl; have c1 := (af K1.out 1).trans rfl; have c2 := (af K1.out 2).trans rfl; have c3 := (af K1.out 3).trans rfl; have c4 := (af K1.out 4).trans rfl; have c5 := (af K1.out 5).trans rfl; have c6 := (af K1.out 6).trans rfl))
     go_ret
     exact ⟨rfl, HB.out⟩
   ·rw [if_neg (fun h => h.elim k2 k3)]
    have k2b : (x.f0 == 2) = false := beq_eq_false_iff_ne.mpr k2
    have k3b : (x.f0 == 3) = false := beq_eq_false_iff_ne.mpr k3
    go_enter Tryz.func90, Tryz.ntmps90
    go_wp2_with (((with_reducible refine aA (N := 1) rfl ?_); refine aV ?hg (N := 1) ?hd (cs := #[.int .u8 x.f0, .int .i64 x.f1.f0, .int .i64 x.f1.f1, .int .i64 x.f1.f2, .int .i64 x.f1.f3, .int .i64 x.f2, .slice B x.f3.length cb]) (t := 26) ?hr ?_; (case hd => rfl); (case hg => rfl); (case hr => (go_simp; done)); intro b1 hg w1 hbox hb; have HB := ae.mk hb; have K1 := ae.mk hbox; clear hb hbox hg; have c0 := (af K1.out 0).trans rfl; have c1 := (af K1.out 1).trans rfl; have c2 := (af K1.out 2).trans rfl; have c3 := (af K1.out 3).trans rfl; have c4 := (af K1.out 4).trans rfl; have c5 := (af K1.out 5).trans rfl; have c6 := (af K1.out 6).trans rfl))
    go_ret
    exact ⟨rfl, HB.out⟩
theorem aiO {σ : Type} (Inv : σ → World → Prop) (step : σ → dW → Bool × σ) (g : Nat) (lb : Array Value) (eg : ∀ args w, (callFunc g args).run Tryz.prog w = .ok (.enter g args) w) (l : List dW) (A : Option Addr) (c : Nat)
  (hR : ∀ s W, Inv s W → Kd.C k23 W A l.length l) (hD : ∀ s W n, Inv s W → Inv s (W.drewN n))
  (hcall : ∀ s W (x : dW), x ∈ l → Inv s W → Calls Tryz.prog g (#[.agg #[.int .i64 x.f0, .int .i64 x.f1, .int .i64 x.f2, .int .i64 x.f3]] ++ lb) W fun e w' => e = .returned (.bool (step s x).1) ∧ Inv (step s x).2 w')
  (s : σ) (w : World) (hI : Inv s w) (hl : l.length ≤ 9223372036854775807) :
  Calls Tryz.prog 101 #[.slice A l.length c, .func (.func g) #[] lb] w fun e w' => e = .returned (.int .i64 (mY step 0 s l).1) ∧ Inv (mY step 0 s l).2 w' := by
 have HR := ae.mk hR
 have HI := ae.mk hI
 have Bc := ae.mk hcall
 clear hR hcall hD hI
 go_enter Tryz.func101, Tryz.ntmps101
 go_wp2
 go_loopg [5, 8] l.length (fun gg _ v8 wr => ∃ (kk : Nat) (t : σ), kk ≤ l.length ∧ l.length - kk ≤ gg ∧ v8 = .int .i64 kk ∧ ae (Inv t wr) ∧ ae (mY step 0 s l = mY step kk t (l.drop kk)))
 case atStart => exact ⟨0, s, Nat.zero_le _, by omega, rfl, HI, ⟨by simp⟩⟩
 case round =>
  clear HI
  obtain ⟨kk, t, hkk, hg, rfl, HI, HS⟩ := hrel
  by_cases hlt : kk < l.length
  ·have hltz : (kk : Int) < (l.length : Int) := by omega
   obtain ⟨ad, rfl, hc0, hc1, hc2, hc3⟩ := Qw (HR.out t wr HI.out) (kk : Int) (by omega) (by omega)
   have HX : ae (mY step kk t (l.drop kk) = if (step t (tC l (kk : Int))).1 = true then ((kk : Int), (step t (tC l (kk : Int))).2) else mY step ((kk + 1 : Nat) : Int) (step t (tC l (kk : Int))).2 (l.drop (kk + 1))) := ⟨Va step z23 l kk hlt t⟩
   have hmem : (tC l (kk : Int)) ∈ l := FB z23 l kk hlt
   have hcall := Bc.out t wr _ hmem HI.out
   clear hmem
   simp only [Int.toNat_natCast] at hc0 hc1 hc2 hc3
   generalize tC l (kk : Int) = x at hc0 hc1 hc2 hc3 HX hcall
   have HC := ae.mk hcall
   clear hcall
   cases hq : (step t x).1 with
   | true =>
    have h := HC.out
    rw [hq] at h
    have HH := ae.mk h
    have HQ := ae.mk hq
    clear hq HC h
    go_wp2_with fail
    refine HH.out.mono ?_
    rintro e w' ⟨rfl, hb'⟩
    have HB := ae.mk hb'
    clear hb'
    go_wp2
    go_ret
    rw [HS.out, HX.out, if_pos HQ.out]
    exact ⟨rfl, HB.out⟩
   | false =>
    have h := HC.out
    rw [hq] at h
    have HH := ae.mk h
    have HQ := ae.mk hq
    clear hq HC h
    go_wp2_with fail
    refine HH.out.mono ?_
    rintro e w' ⟨rfl, hb'⟩
    have HB := ae.mk hb'
    clear hb'
    go_wp2
    go_roundg (l.length - (kk + 1))
    case measure => omega
    case rel =>
     refine ⟨kk + 1, (step t x).2, by omega, by omega, by go_num, HB, ⟨?_⟩⟩
     rw [HS.out, HX.out, if_neg (by rw [HQ.out]; simp)]
  ·have hltz : ¬ (kk : Int) < (l.length : Int) := by omega
   go_wp2
   go_ret
   rw [HS.out, List.drop_eq_nil_of_le (by omega)]
   exact ⟨rfl, HI.out⟩
theorem ahz {σ : Type} (Inv : σ → World → Prop) (step : σ → dW → Bool × σ) (g : Nat) (lb : Array Value) (eg : ∀ args w, (callFunc g args).run Tryz.prog w = .ok (.enter g args) w) (l : List dW) (A : Option Addr) (c : Nat)
  (hR : ∀ s W, Inv s W → Kd.C k23 W A l.length l) (hD : ∀ s W n, Inv s W → Inv s (W.drewN n))
  (hcall : ∀ s W (x : dW), x ∈ l → Inv s W → Calls Tryz.prog g (#[.agg #[.int .i64 x.f0, .int .i64 x.f1, .int .i64 x.f2, .int .i64 x.f3]] ++ lb) W fun e w' => e = .returned (.bool (step s x).1) ∧ Inv (step s x).2 w')
  (s : σ) (w : World) (hI : Inv s w) (hl : l.length ≤ 9223372036854775807) :
  Calls Tryz.prog 97 #[.slice A l.length c, .func (.func g) #[] lb] w fun e w' => e = .returned (.bool (uT step s l).1) ∧ Inv (uT step s l).2 w' := by
 have hi := aiO Inv step g lb eg l A c hR hD hcall s w hI hl
 rw [Tv]
 clear hR hD hcall hI
 generalize mY step 0 s l = r at hi
 have HI := ae.mk hi
 clear hi
 go_enter Tryz.func97, Tryz.ntmps97
 go_wp2_with fail
 refine HI.out.mono ?_
 rintro e w' ⟨rfl, hb'⟩
 have HB := ae.mk hb'
 clear hb'
 go_wp2
 go_ret
 exact ⟨rfl, HB.out⟩
theorem may1 (x : dW) (w : World) : Calls Tryz.prog 98 #[.agg #[.int .i64 x.f0, .int .i64 x.f1, .int .i64 x.f2, .int .i64 x.f3]] w fun e w' => e = .returned (.bool (!lV x)) ∧ Below w.heap.size w w' := by
 have hc := fun W => zh.calls x.f0 x.f1 x.f2 x.f3 (lV x) W (SG _ _ _ _)
 have HC := ae.mk hc
 clear hc
 cases hm : lV x with
 | true =>
  rw [hm] at HC
  clear hm
  go_enter Tryz.func98, Tryz.ntmps98
  go_wp2_with fail
  refine (HC.out _).mono ?_
  rintro e w' ⟨rfl, hb⟩
  have HB := ae.mk hb
  clear hb
  go_wp2
  go_ret
  exact ⟨rfl, yt (aY (Below.refl _ _) _) (by simp) HB.out⟩
 | false =>
  rw [hm] at HC
  clear hm
  go_enter Tryz.func98, Tryz.ntmps98
  go_wp2_with fail
  refine (HC.out _).mono ?_
  rintro e w' ⟨rfl, hb⟩
  have HB := ae.mk hb
  clear hb
  go_wp2
  go_ret
  exact ⟨rfl, yt (aY (Below.refl _ _) _) (by simp) HB.out⟩
def ny.f (l0 : List (dW)) : Option Bool := some (l0.all lV)
theorem ny.calls (A0 : Option Addr) (c0 : Nat) (l0 : List (dW)) (r : Bool) (w : World) (hr0 : Kd.C k23 w A0 l0.length l0) (amK : l0.length ≤ c0) (h : ny.f l0 = some r) :
  Calls Tryz.prog 91 #[.slice A0 l0.length c0] w fun e w' => e = .returned (.bool r) ∧ Below w.heap.size w w' := by
 have hcon := ahz (fun (_ : Unit) W => Below w.heap.size w W) (fun _ x => (!lV x, ())) 98 #[] (vk Tryz.func98 (by decide +kernel) (by kernel_rfl)) l0 A0 c0 (fun _ W hW => Kd.g_ hr0 hW) (fun _ W n hW => aT hW n)
  (fun _ W x _ hW => by
   rw [show (#[Value.agg #[.int .i64 x.f0, .int .i64 x.f1, .int .i64 x.f2, .int .i64 x.f3]] ++ #[] : Array Value) = #[.agg #[.int .i64 x.f0, .int .i64 x.f1, .int .i64 x.f2, .int .i64 x.f3]] by simp]
   exact (may1 x W).mono fun e w' ⟨he, hb⟩ => ⟨he, yt hW hW.size hb⟩) () w (Below.refl _ _) hr0.2.1
 rw [O6] at hcon
 have e1 : r = !(l0.any fun x => !lV x) := by
  injection h with h
  rw [← h]
  clear h hcon hr0 amK
  induction l0 with
  | nil => rfl
  | cons x xs ih => simp only [List.all_cons, List.any_cons, ih, Bool.not_or, Bool.not_not]
 subst e1
 generalize (l0.any fun x => !lV x) = b at hcon
 have HC := ae.mk hcon
 clear hcon h hr0
 go_enter Tryz.func91, Tryz.ntmps91
 go_wp2_with fail
 refine HC.out.mono ?_
 rintro e w' ⟨rfl, hb⟩
 have HB := ae.mk hb
 clear hb
 go_wp2
 go_ret
 exact ⟨rfl, HB.out⟩
theorem Kp.grown {S : Nat → Prop} {W W1 : World} {g : Nat} (h : W.grownBy W1 (some g)) (hs : S g) : Kp S W W1 := ⟨h.size, fun k hk hn => h.block k hk (fun e => hn (by injection e with e; rw [e]; exact hs))⟩
theorem nU.count {w0 W W1 : World} {bn bm B : Nat} {s : Int × List Int} {n : Int} (h : nU w0 bn bm B s W) (hk : W1.heap[bn]? = some (.cells #[.int .i64 n] 3 (0, 0))) (hb : Below w0.heap.size w0 W1) (hg : W.grownBy W1 (some bn)) : nU w0 bn bm B (n, s.2) W1 :=
 ⟨hk, dH h.hm hg (fun e => h.neB.2.2 (Option.some.inj e)), h.map.kept hg (fun e => h.neB.1 (Option.some.inj e).symm), hb, h.gn, h.gB, h.nd, h.rg⟩
theorem nU.met {w0 W W1 : World} {bn bm B : Nat} {s : Int × List Int} {i : Int} (h : nU w0 bn bm B s W) (hm : W1.ownsMap (H := Unit) Tryz.prog 3 (plainElem Tryz.prog 4) B (s.2.length + 1) ((JE s.2).put (.int .i64 i) (.lit (.bool true)))) (hg : W.grownBy W1 (some B)) (hi : i ∉ s.2) (h0 : 0 ≤ i) (h1 : i ≤ 2147483647) : nU w0 bn bm B (s.1, i :: s.2) W1 :=
 ⟨dH h.hn hg (fun e => h.neB.1 (Option.some.inj e)), dH h.hm hg (fun e => h.neB.2.1 (Option.some.inj e)), hm, grown_below h.below hg h.gB h.below.size, h.gn, h.gB, List.nodup_cons.2 ⟨hi, h.nd⟩, fun j hj => by
  rcases List.mem_cons.1 hj with rfl | hj
  ·exact ⟨h0, h1⟩
  ·exact h.rg j hj⟩
theorem acW (w : World) : (zeroValue 4).run Tryz.prog w = .ok (.bool false) w := by kernel_rfl
theorem ala (w0 : World) (bn bm B : Nat) (s : Int × List Int) (W : World) (x : ai) (A : Option Addr) (cb : Nat) (hI : nU w0 bn bm B s W) (h1 : 20000 < wrap64 (s.1 + 1)) :
  Calls Tryz.prog 89 (#[.agg #[.int .u8 x.f0, .int .i64 x.f1.f0, .int .i64 x.f1.f1, .int .i64 x.f1.f2, .int .i64 x.f1.f3, .int .i64 x.f2, .slice A x.f3.length cb]] ++ #[.pointer (some ⟨bn, 0, none⟩), .pointer (some ⟨bm, 0, none⟩)]) W fun e w' => e = .returned (.bool (ku s x).1) ∧ nU w0 bn bm B (ku s x).2 w' ∧ Kp (yc bn B) W w' := by
 rw [show ku s x = (false, (wrap64 (s.1 + 1), s.2)) from by unfold ku; rw [if_pos h1]]
 have HI := ae.mk hI
 have HK := ae.mk (Kp.refl (yc bn B) W)
 clear hI
 simp only [List.append_toArray, List.cons_append, List.nil_append]
 go_enter Tryz.func89, Tryz.ntmps89
 go_wp2_with (first | ((with_reducible refine aA (N := 3) rfl ?_); refine aV ?hg (N := 3) ?hd (cs := #[.int .u8 x.f0, .int .i64 x.f1.f0, .int .i64 x.f1.f1, .int .i64 x.f1.f2, .int .i64 x.f1.f3, .int .i64 x.f2, .slice A x.f3.length cb]) (t := 26) ?hr ?_; (case hd => rfl); (case hg => rfl); (case hr => (go_simp; done)); intro b3 hg w3 hbox hb; have K3 := ae.mk hbox; have fQ := ae.mk (HI.out.step hb); have gm := ae.mk (HK.out.trans (Kp.below hb)); clear HI HK; have HI := fQ; have HK := gm; clear fQ gm; clear hb hbox hg; have cn := (af HI.out.hn 0).trans rfl) | ((with_reducible refine mV (.store 3 (.tmp 1) (.tmp 6)) rfl ?_); go_loud (clear cn; refine iO (w0 := w0) rfl rfl 3 (.tmp 1) (.tmp 6) rfl (g := bn) (j := 0) (base := w0.heap.size) #[.int .i64 (wrap64 (s.1 + 1))] (u := .int .i64 (wrap64 (s.1 + 1))) (df := [.int .i64 (wrap64 (s.1 + 1))]) ?sA ?sX rfl ?sT ?s1 HI.out.hn ?sJ rfl HI.out.below HI.out.below.size HI.out.gn ?_; (case sA => rfl); (case sX => rfl); (case sT => rfl); (case s1 => (simp [Value.oneCell'])); (case sJ => (simp)); intro ws hbk hbb hgg; have fQ := ae.mk (HI.out.count hbk hbb hgg); have gm := ae.mk (HK.out.trans (Kp.grown hgg (Or.inl rfl))); have jq := ae.mk (dH K3.out hgg (fun e_ => wV K3.out HI.out.hn (by decide) (Option.some.inj e_))); clear HI HK K3 hbk hbb hgg; have HI := fQ; have HK := gm; have K3 := jq; clear fQ gm jq; have cn := (af HI.out.hn 0).trans rfl; have c0 := (af K3.out 0).trans rfl; have c1 := (af K3.out 1).trans rfl; have c2 := (af K3.out 2).trans rfl; have c3 := (af K3.out 3).trans rfl; have c4 := (af K3.out 4).trans rfl; have c5 := (af K3.out 5).trans rfl; have c6 := (af K3.out 6).trans rfl)))
 go_ret
 exact ⟨rfl, HI.out, HK.out⟩
theorem alb (w0 : World) (bn bm B : Nat) (s : Int × List Int) (W : World) (x : ai) (A : Option Addr) (cb : Nat) (hI : nU w0 bn bm B s W) (h1 : ¬ 20000 < wrap64 (s.1 + 1)) (h2 : yE x = false) :
  Calls Tryz.prog 89 (#[.agg #[.int .u8 x.f0, .int .i64 x.f1.f0, .int .i64 x.f1.f1, .int .i64 x.f1.f2, .int .i64 x.f1.f3, .int .i64 x.f2, .slice A x.f3.length cb]] ++ #[.pointer (some ⟨bn, 0, none⟩), .pointer (some ⟨bm, 0, none⟩)]) W fun e w' => e = .returned (.bool (ku s x).1) ∧ nU w0 bn bm B (ku s x).2 w' ∧ Kp (yc bn B) W w' := by
 rw [show ku s x = (false, (wrap64 (s.1 + 1), s.2)) from by unfold ku; rw [if_neg h1, Cf, h2]; simp]
 have HN := ae.mk fun W => Ep x A cb W
 rw [h2] at HN
 clear h2
 have HI := ae.mk hI
 have HK := ae.mk (Kp.refl (yc bn B) W)
 clear hI
 simp only [List.append_toArray, List.cons_append, List.nil_append]
 go_enter Tryz.func89, Tryz.ntmps89
 go_wp2_with (first | ((with_reducible refine aA (N := 3) rfl ?_); refine aV ?hg (N := 3) ?hd (cs := #[.int .u8 x.f0, .int .i64 x.f1.f0, .int .i64 x.f1.f1, .int .i64 x.f1.f2, .int .i64 x.f1.f3, .int .i64 x.f2, .slice A x.f3.length cb]) (t := 26) ?hr ?_; (case hd => rfl); (case hg => rfl); (case hr => (go_simp; done)); intro b3 hg w3 hbox hb; have K3 := ae.mk hbox; have fQ := ae.mk (HI.out.step hb); have gm := ae.mk (HK.out.trans (Kp.below hb)); clear HI HK; have HI := fQ; have HK := gm; clear fQ gm; clear hb hbox hg; have cn := (af HI.out.hn 0).trans rfl) | ((with_reducible refine mV (.store 3 (.tmp 1) (.tmp 6)) rfl ?_); go_loud (clear cn; refine iO (w0 := w0) rfl rfl 3 (.tmp 1) (.tmp 6) rfl (g := bn) (j := 0) (base := w0.heap.size) #[.int .i64 (wrap64 (s.1 + 1))] (u := .int .i64 (wrap64 (s.1 + 1))) (df := [.int .i64 (wrap64 (s.1 + 1))]) ?sA ?sX rfl ?sT ?s1 HI.out.hn ?sJ rfl HI.out.below HI.out.below.size HI.out.gn ?_; (case sA => rfl); (case sX => rfl); (case sT => rfl); (case s1 => (simp [Value.oneCell'])); (case sJ => (simp)); intro ws hbk hbb hgg; have fQ := ae.mk (HI.out.count hbk hbb hgg); have gm := ae.mk (HK.out.trans (Kp.grown hgg (Or.inl rfl))); have jq := ae.mk (dH K3.out hgg (fun e_ => wV K3.out HI.out.hn (by decide) (Option.some.inj e_))); clear HI HK K3 hbk hbb hgg; have HI := fQ; have HK := gm; have K3 := jq; clear fQ gm jq; have cn := (af HI.out.hn 0).trans rfl; have c0 := (af K3.out 0).trans rfl; have c1 := (af K3.out 1).trans rfl; have c2 := (af K3.out 2).trans rfl; have c3 := (af K3.out 3).trans rfl; have c4 := (af K3.out 4).trans rfl; have c5 := (af K3.out 5).trans rfl; have c6 := (af K3.out 6).trans rfl)))
 clear cn
 clear c0 c1 c2 c3 c4 c5 c6
 refine (HN.out _).mono ?_
 rintro e wk ⟨rfl, hb⟩
 have jq := ae.mk (aW K3.out hb)
 clear K3
 have K3 := jq
 clear jq
 have fQ := ae.mk (HI.out.step hb); have gm := ae.mk (HK.out.trans (Kp.below hb)); clear HI HK; have HI := fQ; have HK := gm; clear fQ gm
 clear hb
 go_wp2
 go_ret
 exact ⟨rfl, HI.out, HK.out⟩
theorem alc (w0 : World) (bn bm B : Nat) (s : Int × List Int) (W : World) (x : ai) (A : Option Addr) (cb : Nat) (hI : nU w0 bn bm B s W) (h1 : ¬ 20000 < wrap64 (s.1 + 1)) (h2 : yE x = true) (h3 : lV x.f1 = false) :
  Calls Tryz.prog 89 (#[.agg #[.int .u8 x.f0, .int .i64 x.f1.f0, .int .i64 x.f1.f1, .int .i64 x.f1.f2, .int .i64 x.f1.f3, .int .i64 x.f2, .slice A x.f3.length cb]] ++ #[.pointer (some ⟨bn, 0, none⟩), .pointer (some ⟨bm, 0, none⟩)]) W fun e w' => e = .returned (.bool (ku s x).1) ∧ nU w0 bn bm B (ku s x).2 w' ∧ Kp (yc bn B) W w' := by
 rw [show ku s x = (false, (wrap64 (s.1 + 1), s.2)) from by unfold ku; rw [if_neg h1, Cf, h2, h3]; simp]
 have HN := ae.mk fun W => Ep x A cb W
 rw [h2] at HN
 clear h2
 have M1 := ae.mk (show ny.f [x.f1] = some false by simp [ny.f, h3])
 clear h3
 have HI := ae.mk hI
 have HK := ae.mk (Kp.refl (yc bn B) W)
 clear hI
 simp only [List.append_toArray, List.cons_append, List.nil_append]
 go_enter Tryz.func89, Tryz.ntmps89
 go_wp2_with (first | ((with_reducible refine aA (N := 3) rfl ?_); refine aV ?hg (N := 3) ?hd (cs := #[.int .u8 x.f0, .int .i64 x.f1.f0, .int .i64 x.f1.f1, .int .i64 x.f1.f2, .int .i64 x.f1.f3, .int .i64 x.f2, .slice A x.f3.length cb]) (t := 26) ?hr ?_; (case hd => rfl); (case hg => rfl); (case hr => (go_simp; done)); intro b3 hg w3 hbox hb; have K3 := ae.mk hbox; have fQ := ae.mk (HI.out.step hb); have gm := ae.mk (HK.out.trans (Kp.below hb)); clear HI HK; have HI := fQ; have HK := gm; clear fQ gm; clear hb hbox hg; have cn := (af HI.out.hn 0).trans rfl) | ((with_reducible refine mV (.store 3 (.tmp 1) (.tmp 6)) rfl ?_); go_loud (clear cn; refine iO (w0 := w0) rfl rfl 3 (.tmp 1) (.tmp 6) rfl (g := bn) (j := 0) (base := w0.heap.size) #[.int .i64 (wrap64 (s.1 + 1))] (u := .int .i64 (wrap64 (s.1 + 1))) (df := [.int .i64 (wrap64 (s.1 + 1))]) ?sA ?sX rfl ?sT ?s1 HI.out.hn ?sJ rfl HI.out.below HI.out.below.size HI.out.gn ?_; (case sA => rfl); (case sX => rfl); (case sT => rfl); (case s1 => (simp [Value.oneCell'])); (case sJ => (simp)); intro ws hbk hbb hgg; have fQ := ae.mk (HI.out.count hbk hbb hgg); have gm := ae.mk (HK.out.trans (Kp.grown hgg (Or.inl rfl))); have jq := ae.mk (dH K3.out hgg (fun e_ => wV K3.out HI.out.hn (by decide) (Option.some.inj e_))); clear HI HK K3 hbk hbb hgg; have HI := fQ; have HK := gm; have K3 := jq; clear fQ gm jq; have cn := (af HI.out.hn 0).trans rfl; have c0 := (af K3.out 0).trans rfl; have c1 := (af K3.out 1).trans rfl; have c2 := (af K3.out 2).trans rfl; have c3 := (af K3.out 3).trans rfl; have c4 := (af K3.out 4).trans rfl; have c5 := (af K3.out 5).trans rfl; have c6 := (af K3.out 6).trans rfl)))
 clear cn
 clear c0 c1 c2 c3 c4 c5 c6
 refine (HN.out _).mono ?_
 rintro e wk ⟨rfl, hb⟩
 have jq := ae.mk (aW K3.out hb)
 clear K3
 have K3 := jq
 clear jq
 have fQ := ae.mk (HI.out.step hb); have gm := ae.mk (HK.out.trans (Kp.below hb)); clear HI HK; have HI := fQ; have HK := gm; clear fQ gm
 clear hb
 have c0 := (af K3.out 0).trans rfl
 have c1 := (af K3.out 1).trans rfl
 have c2 := (af K3.out 2).trans rfl
 have c3 := (af K3.out 3).trans rfl
 have c4 := (af K3.out 4).trans rfl
 have c5 := (af K3.out 5).trans rfl
 have c6 := (af K3.out 6).trans rfl
 go_wp2_with (((with_reducible refine aA (N := 17) rfl ?_); (try (refine gW (by rfl) ?_; dsimp only)); refine Kd.xk k23 _ 23 ?hg (N := 17) ?hd (xs := ([x.f1] : List dW)) (inner := [.int .i64 x.f1.f0, .int .i64 x.f1.f1, .int .i64 x.f1.f2, .int .i64 x.f1.f3]) (ok := fun _ => True) (gz := fun _ => True) ?hr ?hp (fun _ hk => hk) trivial (Below.refl _ _) (Nat.le_refl _) (by simp) ?_; (case hd => rfl); (case hg => rfl); (case hr => (go_simp; done)); (case hp => exact (dC.c4 (show Kd.M k23 _ _ _ x.f1 [.int .i64 x.f1.f0, .int .i64 x.f1.f1, .int .i64 x.f1.f2, .int .i64 x.f1.f3] from uB _ _ _ x.f1) (dC.none _ _))); intro vr wr ho hb pG jZ; clear pG jZ; obtain ⟨Ar, cr, er⟩ := Kd.ig ho; subst er; have jq := ae.mk (aW K3.out hb); clear K3; have K3 := jq; clear jq; have fQ := ae.mk (HI.out.step hb); have gm := ae.mk (HK.out.trans (Kp.below hb)); clear HI HK; have HI := fQ; have HK := gm; clear fQ gm; have HR := ae.mk (Kd.eX ho).2.2; have LR := ae.mk (Kd.eX ho).2.1; clear ho hb))
 clear c0 c1 c2 c3 c4 c5 c6
 refine (ny.calls Ar cr [x.f1] false _ HR.out LR.out M1.out).mono ?_
 rintro e wk ⟨rfl, hb⟩
 have jq := ae.mk (aW K3.out hb)
 clear K3
 have K3 := jq
 clear jq
 have fQ := ae.mk (HI.out.step hb); have gm := ae.mk (HK.out.trans (Kp.below hb)); clear HI HK; have HI := fQ; have HK := gm; clear fQ gm
 clear hb
 go_wp2
 go_ret
 exact ⟨rfl, HI.out, HK.out⟩
theorem ald (w0 : World) (bn bm B : Nat) (s : Int × List Int) (W : World) (x : ai) (A : Option Addr) (cb : Nat) (hI : nU w0 bn bm B s W) (h1 : ¬ 20000 < wrap64 (s.1 + 1)) (h2 : yE x = true) (h3 : lV x.f1 = true) (h4 : x.f0 ≠ 1) :
  Calls Tryz.prog 89 (#[.agg #[.int .u8 x.f0, .int .i64 x.f1.f0, .int .i64 x.f1.f1, .int .i64 x.f1.f2, .int .i64 x.f1.f3, .int .i64 x.f2, .slice A x.f3.length cb]] ++ #[.pointer (some ⟨bn, 0, none⟩), .pointer (some ⟨bm, 0, none⟩)]) W fun e w' => e = .returned (.bool (ku s x).1) ∧ nU w0 bn bm B (ku s x).2 w' ∧ Kp (yc bn B) W w' := by
 rw [show ku s x = (true, (wrap64 (s.1 + 1), s.2)) from by unfold ku; rw [if_neg h1, Cf, h2, h3, if_neg (by simp), if_neg h4]]
 have HN := ae.mk fun W => Ep x A cb W
 rw [h2] at HN
 clear h2
 have M1 := ae.mk (show ny.f [x.f1] = some true by simp [ny.f, h3])
 clear h3
 have Gt : (x.f0 == 1) = false := beq_eq_false_iff_ne.mpr h4
 clear h4
 have HI := ae.mk hI
 have HK := ae.mk (Kp.refl (yc bn B) W)
 clear hI
 simp only [List.append_toArray, List.cons_append, List.nil_append]
 go_enter Tryz.func89, Tryz.ntmps89
 go_wp2_with (first | ((with_reducible refine aA (N := 3) rfl ?_); refine aV ?hg (N := 3) ?hd (cs := #[.int .u8 x.f0, .int .i64 x.f1.f0, .int .i64 x.f1.f1, .int .i64 x.f1.f2, .int .i64 x.f1.f3, .int .i64 x.f2, .slice A x.f3.length cb]) (t := 26) ?hr ?_; (case hd => rfl); (case hg => rfl); (case hr => (go_simp; done)); intro b3 hg w3 hbox hb; have K3 := ae.mk hbox; have fQ := ae.mk (HI.out.step hb); have gm := ae.mk (HK.out.trans (Kp.below hb)); clear HI HK; have HI := fQ; have HK := gm; clear fQ gm; clear hb hbox hg; have cn := (af HI.out.hn 0).trans rfl) | ((with_reducible refine mV (.store 3 (.tmp 1) (.tmp 6)) rfl ?_); go_loud (clear cn; refine iO (w0 := w0) rfl rfl 3 (.tmp 1) (.tmp 6) rfl (g := bn) (j := 0) (base := w0.heap.size) #[.int .i64 (wrap64 (s.1 + 1))] (u := .int .i64 (wrap64 (s.1 + 1))) (df := [.int .i64 (wrap64 (s.1 + 1))]) ?sA ?sX rfl ?sT ?s1 HI.out.hn ?sJ rfl HI.out.below HI.out.below.size HI.out.gn ?_; (case sA => rfl); (case sX => rfl); (case sT => rfl); (case s1 => (simp [Value.oneCell'])); (case sJ => (simp)); intro ws hbk hbb hgg; have fQ := ae.mk (HI.out.count hbk hbb hgg); have gm := ae.mk (HK.out.trans (Kp.grown hgg (Or.inl rfl))); have jq := ae.mk (dH K3.out hgg (fun e_ => wV K3.out HI.out.hn (by decide) (Option.some.inj e_))); clear HI HK K3 hbk hbb hgg; have HI := fQ; have HK := gm; have K3 := jq; clear fQ gm jq; have cn := (af HI.out.hn 0).trans rfl; have c0 := (af K3.out 0).trans rfl; have c1 := (af K3.out 1).trans rfl; have c2 := (af K3.out 2).trans rfl; have c3 := (af K3.out 3).trans rfl; have c4 := (af K3.out 4).trans rfl; have c5 := (af K3.out 5).trans rfl; have c6 := (af K3.out 6).trans rfl)))
 clear cn
 clear c0 c1 c2 c3 c4 c5 c6
 refine (HN.out _).mono ?_
 rintro e wk ⟨rfl, hb⟩
 have jq := ae.mk (aW K3.out hb)
 clear K3
 have K3 := jq
 clear jq
 have fQ := ae.mk (HI.out.step hb); have gm := ae.mk (HK.out.trans (Kp.below hb)); clear HI HK; have HI := fQ; have HK := gm; clear fQ gm
 clear hb
 have c0 := (af K3.out 0).trans rfl
 have c1 := (af K3.out 1).trans rfl
 have c2 := (af K3.out 2).trans rfl
 have c3 := (af K3.out 3).trans rfl
 have c4 := (af K3.out 4).trans rfl
 have c5 := (af K3.out 5).trans rfl
 have c6 := (af K3.out 6).trans rfl
 go_wp2_with (((with_reducible refine aA (N := 17) rfl ?_); (try (refine gW (by rfl) ?_; dsimp only)); refine Kd.xk k23 _ 23 ?hg (N := 17) ?hd (xs := ([x.f1] : List dW)) (inner := [.int .i64 x.f1.f0, .int .i64 x.f1.f1, .int .i64 x.f1.f2, .int .i64 x.f1.f3]) (ok := fun _ => True) (gz := fun _ => True) ?hr ?hp (fun _ hk => hk) trivial (Below.refl _ _) (Nat.le_refl _) (by simp) ?_; (case hd => rfl); (case hg => rfl); (case hr => (go_simp; done)); (case hp => exact (dC.c4 (show Kd.M k23 _ _ _ x.f1 [.int .i64 x.f1.f0, .int .i64 x.f1.f1, .int .i64 x.f1.f2, .int .i64 x.f1.f3] from uB _ _ _ x.f1) (dC.none _ _))); intro vr wr ho hb pG jZ; clear pG jZ; obtain ⟨Ar, cr, er⟩ := Kd.ig ho; subst er; have jq := ae.mk (aW K3.out hb); clear K3; have K3 := jq; clear jq; have fQ := ae.mk (HI.out.step hb); have gm := ae.mk (HK.out.trans (Kp.below hb)); clear HI HK; have HI := fQ; have HK := gm; clear fQ gm; have HR := ae.mk (Kd.eX ho).2.2; have LR := ae.mk (Kd.eX ho).2.1; clear ho hb))
 clear c0 c1 c2 c3 c4 c5 c6
 refine (ny.calls Ar cr [x.f1] true _ HR.out LR.out M1.out).mono ?_
 rintro e wk ⟨rfl, hb⟩
 have jq := ae.mk (aW K3.out hb)
 clear K3
 have K3 := jq
 clear jq
 have fQ := ae.mk (HI.out.step hb); have gm := ae.mk (HK.out.trans (Kp.below hb)); clear HI HK; have HI := fQ; have HK := gm; clear fQ gm
 clear hb
 have c0 := (af K3.out 0).trans rfl
 have c1 := (af K3.out 1).trans rfl
 have c2 := (af K3.out 2).trans rfl
 have c3 := (af K3.out 3).trans rfl
 have c4 := (af K3.out 4).trans rfl
 have c5 := (af K3.out 5).trans rfl
 have c6 := (af K3.out 6).trans rfl
 go_wp2
 go_ret
 exact ⟨rfl, HI.out, HK.out⟩
theorem ale (w0 : World) (bn bm B : Nat) (s : Int × List Int) (W : World) (x : ai) (A : Option Addr) (cb : Nat) (hI : nU w0 bn bm B s W) (h1 : ¬ 20000 < wrap64 (s.1 + 1)) (h2 : yE x = true) (h3 : lV x.f1 = true) (h4 : x.f0 = 1) (h5 : 0 ≤ x.f2) (h6 : x.f2 ≤ 2147483647) (h7 : x.f2 ∈ s.2) :
  Calls Tryz.prog 89 (#[.agg #[.int .u8 x.f0, .int .i64 x.f1.f0, .int .i64 x.f1.f1, .int .i64 x.f1.f2, .int .i64 x.f1.f3, .int .i64 x.f2, .slice A x.f3.length cb]] ++ #[.pointer (some ⟨bn, 0, none⟩), .pointer (some ⟨bm, 0, none⟩)]) W fun e w' => e = .returned (.bool (ku s x).1) ∧ nU w0 bn bm B (ku s x).2 w' ∧ Kp (yc bn B) W w' := by
 rw [show ku s x = (false, (wrap64 (s.1 + 1), s.2)) from by unfold ku; rw [if_neg h1, Cf, h2, h3, if_neg (by simp), if_pos h4, if_pos h7]]
 have HN := ae.mk fun W => Ep x A cb W
 rw [h2] at HN
 clear h2
 have M1 := ae.mk (show ny.f [x.f1] = some true by simp [ny.f, h3])
 clear h3
 have LK : ae ((JE s.2).atKey (.int .i64 x.f2) (.lit (.bool false)) = .lit (.bool true)) := ⟨by rw [Vd, decide_eq_true h7]⟩
 clear h7
 have WF : ae ((Lit.int .i64 x.f2).wf = true) := ⟨WalkArith.wf_i64 (by omega)⟩
 have Gt : (x.f0 == 1) = true := beq_iff_eq.mpr h4
 clear h4 h5 h6
 have HI := ae.mk hI
 have HK := ae.mk (Kp.refl (yc bn B) W)
 clear hI
 simp only [List.append_toArray, List.cons_append, List.nil_append]
 go_enter Tryz.func89, Tryz.ntmps89
 go_wp2_with (first | ((with_reducible refine aA (N := 3) rfl ?_); refine aV ?hg (N := 3) ?hd (cs := #[.int .u8 x.f0, .int .i64 x.f1.f0, .int .i64 x.f1.f1, .int .i64 x.f1.f2, .int .i64 x.f1.f3, .int .i64 x.f2, .slice A x.f3.length cb]) (t := 26) ?hr ?_; (case hd => rfl); (case hg => rfl); (case hr => (go_simp; done)); intro b3 hg w3 hbox hb; have K3 := ae.mk hbox; have fQ := ae.mk (HI.out.step hb); have gm := ae.mk (HK.out.trans (Kp.below hb)); clear HI HK; have HI := fQ; have HK := gm; clear fQ gm; clear hb hbox hg; have cn := (af HI.out.hn 0).trans rfl) | ((with_reducible refine mV (.store 3 (.tmp 1) (.tmp 6)) rfl ?_); go_loud (clear cn; refine iO (w0 := w0) rfl rfl 3 (.tmp 1) (.tmp 6) rfl (g := bn) (j := 0) (base := w0.heap.size) #[.int .i64 (wrap64 (s.1 + 1))] (u := .int .i64 (wrap64 (s.1 + 1))) (df := [.int .i64 (wrap64 (s.1 + 1))]) ?sA ?sX rfl ?sT ?s1 HI.out.hn ?sJ rfl HI.out.below HI.out.below.size HI.out.gn ?_; (case sA => rfl); (case sX => rfl); (case sT => rfl); (case s1 => (simp [Value.oneCell'])); (case sJ => (simp)); intro ws hbk hbb hgg; have fQ := ae.mk (HI.out.count hbk hbb hgg); have gm := ae.mk (HK.out.trans (Kp.grown hgg (Or.inl rfl))); have jq := ae.mk (dH K3.out hgg (fun e_ => wV K3.out HI.out.hn (by decide) (Option.some.inj e_))); clear HI HK K3 hbk hbb hgg; have HI := fQ; have HK := gm; have K3 := jq; clear fQ gm jq; have cn := (af HI.out.hn 0).trans rfl; have c0 := (af K3.out 0).trans rfl; have c1 := (af K3.out 1).trans rfl; have c2 := (af K3.out 2).trans rfl; have c3 := (af K3.out 3).trans rfl; have c4 := (af K3.out 4).trans rfl; have c5 := (af K3.out 5).trans rfl; have c6 := (af K3.out 6).trans rfl)))
 clear cn
 clear c0 c1 c2 c3 c4 c5 c6
 refine (HN.out _).mono ?_
 rintro e wk ⟨rfl, hb⟩
 have jq := ae.mk (aW K3.out hb)
 clear K3
 have K3 := jq
 clear jq
 have fQ := ae.mk (HI.out.step hb); have gm := ae.mk (HK.out.trans (Kp.below hb)); clear HI HK; have HI := fQ; have HK := gm; clear fQ gm
 clear hb
 have c0 := (af K3.out 0).trans rfl
 have c1 := (af K3.out 1).trans rfl
 have c2 := (af K3.out 2).trans rfl
 have c3 := (af K3.out 3).trans rfl
 have c4 := (af K3.out 4).trans rfl
 have c5 := (af K3.out 5).trans rfl
 have c6 := (af K3.out 6).trans rfl
 go_wp2_with (((with_reducible refine aA (N := 17) rfl ?_); (try (refine gW (by rfl) ?_; dsimp only)); refine Kd.xk k23 _ 23 ?hg (N := 17) ?hd (xs := ([x.f1] : List dW)) (inner := [.int .i64 x.f1.f0, .int .i64 x.f1.f1, .int .i64 x.f1.f2, .int .i64 x.f1.f3]) (ok := fun _ => True) (gz := fun _ => True) ?hr ?hp (fun _ hk => hk) trivial (Below.refl _ _) (Nat.le_refl _) (by simp) ?_; (case hd => rfl); (case hg => rfl); (case hr => (go_simp; done)); (case hp => exact (dC.c4 (show Kd.M k23 _ _ _ x.f1 [.int .i64 x.f1.f0, .int .i64 x.f1.f1, .int .i64 x.f1.f2, .int .i64 x.f1.f3] from uB _ _ _ x.f1) (dC.none _ _))); intro vr wr ho hb pG jZ; clear pG jZ; obtain ⟨Ar, cr, er⟩ := Kd.ig ho; subst er; have jq := ae.mk (aW K3.out hb); clear K3; have K3 := jq; clear jq; have fQ := ae.mk (HI.out.step hb); have gm := ae.mk (HK.out.trans (Kp.below hb)); clear HI HK; have HI := fQ; have HK := gm; clear fQ gm; have HR := ae.mk (Kd.eX ho).2.2; have LR := ae.mk (Kd.eX ho).2.1; clear ho hb))
 clear c0 c1 c2 c3 c4 c5 c6
 refine (ny.calls Ar cr [x.f1] true _ HR.out LR.out M1.out).mono ?_
 rintro e wk ⟨rfl, hb⟩
 have jq := ae.mk (aW K3.out hb)
 clear K3
 have K3 := jq
 clear jq
 have fQ := ae.mk (HI.out.step hb); have gm := ae.mk (HK.out.trans (Kp.below hb)); clear HI HK; have HI := fQ; have HK := gm; clear fQ gm
 clear hb
 have c0 := (af K3.out 0).trans rfl
 have c1 := (af K3.out 1).trans rfl
 have c2 := (af K3.out 2).trans rfl
 have c3 := (af K3.out 3).trans rfl
 have c4 := (af K3.out 4).trans rfl
 have c5 := (af K3.out 5).trans rfl
 have c6 := (af K3.out 6).trans rfl
 have cm := (af HI.out.hm 0).trans rfl
 go_wp2_with (((with_reducible refine aA (N := 29) rfl ?_); (try (refine gW (by rfl) ?_; dsimp only)); refine IP _ rfl _ _ 117 rfl 3 4 (Maps.int_keyed Tryz.underlying3) Tryz.underlying117 Tryz.underlying4 (acW _) B _ _ rfl HI.out.map _ (.int .i64 x.f2) rfl (Maps.keyOf_int_mk Tryz.underlying3 WF.out) true LK.out ?_))
 go_ret
 exact ⟨rfl, HI.out, HK.out⟩
theorem alf (w0 : World) (bn bm B : Nat) (s : Int × List Int) (W : World) (x : ai) (A : Option Addr) (cb : Nat) (hI : nU w0 bn bm B s W) (h1 : ¬ 20000 < wrap64 (s.1 + 1)) (h2 : yE x = true) (h3 : lV x.f1 = true) (h4 : x.f0 = 1) (h5 : 0 ≤ x.f2) (h6 : x.f2 ≤ 2147483647) (h7 : x.f2 ∉ s.2) :
  Calls Tryz.prog 89 (#[.agg #[.int .u8 x.f0, .int .i64 x.f1.f0, .int .i64 x.f1.f1, .int .i64 x.f1.f2, .int .i64 x.f1.f3, .int .i64 x.f2, .slice A x.f3.length cb]] ++ #[.pointer (some ⟨bn, 0, none⟩), .pointer (some ⟨bm, 0, none⟩)]) W fun e w' => e = .returned (.bool (ku s x).1) ∧ nU w0 bn bm B (ku s x).2 w' ∧ Kp (yc bn B) W w' := by
 rw [show ku s x = (true, (wrap64 (s.1 + 1), x.f2 :: s.2)) from by unfold ku; rw [if_neg h1, Cf, h2, h3, if_neg (by simp), if_pos h4, if_neg h7]]
 have HN := ae.mk fun W => Ep x A cb W
 rw [h2] at HN
 clear h2
 have M1 := ae.mk (show ny.f [x.f1] = some true by simp [ny.f, h3])
 clear h3
 have LK : ae ((JE s.2).atKey (.int .i64 x.f2) (.lit (.bool false)) = .lit (.bool false)) := ⟨by rw [Vd, decide_eq_false h7]⟩
 have NM := ae.mk h7
 clear h7
 have CZ : ae (s.2.length < maxLen) := ⟨by have h8 := abb 2147483648 s.2 hI.nd (fun i hi => by have := hI.rg i hi; omega); unfold maxLen; omega⟩
 have I0 := ae.mk h5
 have I1 := ae.mk h6
 have WF : ae ((Lit.int .i64 x.f2).wf = true) := ⟨WalkArith.wf_i64 (by omega)⟩
 have Gt : (x.f0 == 1) = true := beq_iff_eq.mpr h4
 clear h4 h5 h6
 have HI := ae.mk hI
 have HK := ae.mk (Kp.refl (yc bn B) W)
 clear hI
 simp only [List.append_toArray, List.cons_append, List.nil_append]
 go_enter Tryz.func89, Tryz.ntmps89
 go_wp2_with (first | ((with_reducible refine aA (N := 3) rfl ?_); refine aV ?hg (N := 3) ?hd (cs := #[.int .u8 x.f0, .int .i64 x.f1.f0, .int .i64 x.f1.f1, .int .i64 x.f1.f2, .int .i64 x.f1.f3, .int .i64 x.f2, .slice A x.f3.length cb]) (t := 26) ?hr ?_; (case hd => rfl); (case hg => rfl); (case hr => (go_simp; done)); intro b3 hg w3 hbox hb; have K3 := ae.mk hbox; have fQ := ae.mk (HI.out.step hb); have gm := ae.mk (HK.out.trans (Kp.below hb)); clear HI HK; have HI := fQ; have HK := gm; clear fQ gm; clear hb hbox hg; have cn := (af HI.out.hn 0).trans rfl) | ((with_reducible refine mV (.store 3 (.tmp 1) (.tmp 6)) rfl ?_); go_loud (clear cn; refine iO (w0 := w0) rfl rfl 3 (.tmp 1) (.tmp 6) rfl (g := bn) (j := 0) (base := w0.heap.size) #[.int .i64 (wrap64 (s.1 + 1))] (u := .int .i64 (wrap64 (s.1 + 1))) (df := [.int .i64 (wrap64 (s.1 + 1))]) ?sA ?sX rfl ?sT ?s1 HI.out.hn ?sJ rfl HI.out.below HI.out.below.size HI.out.gn ?_; (case sA => rfl); (case sX => rfl); (case sT => rfl); (case s1 => (simp [Value.oneCell'])); (case sJ => (simp)); intro ws hbk hbb hgg; have fQ := ae.mk (HI.out.count hbk hbb hgg); have gm := ae.mk (HK.out.trans (Kp.grown hgg (Or.inl rfl))); have jq := ae.mk (dH K3.out hgg (fun e_ => wV K3.out HI.out.hn (by decide) (Option.some.inj e_))); clear HI HK K3 hbk hbb hgg; have HI := fQ; have HK := gm; have K3 := jq; clear fQ gm jq; have cn := (af HI.out.hn 0).trans rfl; have c0 := (af K3.out 0).trans rfl; have c1 := (af K3.out 1).trans rfl; have c2 := (af K3.out 2).trans rfl; have c3 := (af K3.out 3).trans rfl; have c4 := (af K3.out 4).trans rfl; have c5 := (af K3.out 5).trans rfl; have c6 := (af K3.out 6).trans rfl)))
 clear cn
 clear c0 c1 c2 c3 c4 c5 c6
 refine (HN.out _).mono ?_
 rintro e wk ⟨rfl, hb⟩
 have jq := ae.mk (aW K3.out hb)
 clear K3
 have K3 := jq
 clear jq
 have fQ := ae.mk (HI.out.step hb); have gm := ae.mk (HK.out.trans (Kp.below hb)); clear HI HK; have HI := fQ; have HK := gm; clear fQ gm
 clear hb
 have c0 := (af K3.out 0).trans rfl
 have c1 := (af K3.out 1).trans rfl
 have c2 := (af K3.out 2).trans rfl
 have c3 := (af K3.out 3).trans rfl
 have c4 := (af K3.out 4).trans rfl
 have c5 := (af K3.out 5).trans rfl
 have c6 := (af K3.out 6).trans rfl
 go_wp2_with (((with_reducible refine aA (N := 17) rfl ?_); (try (refine gW (by rfl) ?_; dsimp only)); refine Kd.xk k23 _ 23 ?hg (N := 17) ?hd (xs := ([x.f1] : List dW)) (inner := [.int .i64 x.f1.f0, .int .i64 x.f1.f1, .int .i64 x.f1.f2, .int .i64 x.f1.f3]) (ok := fun _ => True) (gz := fun _ => True) ?hr ?hp (fun _ hk => hk) trivial (Below.refl _ _) (Nat.le_refl _) (by simp) ?_; (case hd => rfl); (case hg => rfl); (case hr => (go_simp; done)); (case hp => exact (dC.c4 (show Kd.M k23 _ _ _ x.f1 [.int .i64 x.f1.f0, .int .i64 x.f1.f1, .int .i64 x.f1.f2, .int .i64 x.f1.f3] from uB _ _ _ x.f1) (dC.none _ _))); intro vr wr ho hb pG jZ; clear pG jZ; obtain ⟨Ar, cr, er⟩ := Kd.ig ho; subst er; have jq := ae.mk (aW K3.out hb); clear K3; have K3 := jq; clear jq; have fQ := ae.mk (HI.out.step hb); have gm := ae.mk (HK.out.trans (Kp.below hb)); clear HI HK; have HI := fQ; have HK := gm; clear fQ gm; have HR := ae.mk (Kd.eX ho).2.2; have LR := ae.mk (Kd.eX ho).2.1; clear ho hb))
 clear c0 c1 c2 c3 c4 c5 c6
 refine (ny.calls Ar cr [x.f1] true _ HR.out LR.out M1.out).mono ?_
 rintro e wk ⟨rfl, hb⟩
 have jq := ae.mk (aW K3.out hb)
 clear K3
 have K3 := jq
 clear jq
 have fQ := ae.mk (HI.out.step hb); have gm := ae.mk (HK.out.trans (Kp.below hb)); clear HI HK; have HI := fQ; have HK := gm; clear fQ gm
 clear hb
 have c0 := (af K3.out 0).trans rfl
 have c1 := (af K3.out 1).trans rfl
 have c2 := (af K3.out 2).trans rfl
 have c3 := (af K3.out 3).trans rfl
 have c4 := (af K3.out 4).trans rfl
 have c5 := (af K3.out 5).trans rfl
 have c6 := (af K3.out 6).trans rfl
 have cm := (af HI.out.hm 0).trans rfl
 go_wp2_with (first | ((with_reducible refine aA (N := 29) rfl ?_); (try (refine gW (by rfl) ?_; dsimp only)); refine IP _ rfl _ _ 117 rfl 3 4 (Maps.int_keyed Tryz.underlying3) Tryz.underlying117 Tryz.underlying4 (acW _) B _ _ rfl HI.out.map _ (.int .i64 x.f2) rfl (Maps.keyOf_int_mk Tryz.underlying3 WF.out) false LK.out ?_) | (at_mapUpdate; refine wpList_mapUpdate_own _ rfl _ _ _ 117 rfl 3 4 (Maps.int_keyed Tryz.underlying3) Tryz.underlying117 _ B _ _ rfl HI.out.map CZ.out _ _ (.int .i64 x.f2) rfl rfl (Maps.keyOf_int_mk Tryz.underlying3 WF.out) (.lit (.bool true)) [] (plainElem_bool Tryz.underlying4 true) ?_; intro wu hown1 hgrow1; have fQ := ae.mk (HI.out.met hown1 hgrow1 NM.out I0.out I1.out); have gm := ae.mk (HK.out.trans (Kp.grown hgrow1 (Or.inr rfl))); clear HI HK hown1 hgrow1; have HI := fQ; have HK := gm; clear fQ gm))
 go_ret
 exact ⟨rfl, HI.out, HK.out⟩
theorem ai0 (w0 : World) (bn bm B : Nat) (s : Int × List Int) (W : World) (x : ai) (A : Option Addr) (cb : Nat) (hI : nU w0 bn bm B s W) :
  Calls Tryz.prog 89 (#[.agg #[.int .u8 x.f0, .int .i64 x.f1.f0, .int .i64 x.f1.f1, .int .i64 x.f1.f2, .int .i64 x.f1.f3, .int .i64 x.f2, .slice A x.f3.length cb]] ++ #[.pointer (some ⟨bn, 0, none⟩), .pointer (some ⟨bm, 0, none⟩)]) W fun e w' => e = .returned (.bool (ku s x).1) ∧ nU w0 bn bm B (ku s x).2 w' ∧ Kp (yc bn B) W w' := by
 by_cases h1 : 20000 < wrap64 (s.1 + 1)
 ·exact ala w0 bn bm B s W x A cb hI h1
 ·cases h2 : yE x with
  | false => exact alb w0 bn bm B s W x A cb hI h1 h2
  | true =>
   cases h3 : lV x.f1 with
   | false => exact alc w0 bn bm B s W x A cb hI h1 h2 h3
   | true =>
    by_cases h4 : x.f0 = 1
    ·have h8 := h2
     unfold yE at h8
     rw [if_pos h4] at h8
     simp only [Bool.and_eq_true, decide_eq_true_eq] at h8
     by_cases h7 : x.f2 ∈ s.2
     ·exact ale w0 bn bm B s W x A cb hI h1 h2 h3 h4 h8.2.1 h8.2.2 h7
     ·exact alf w0 bn bm B s W x A cb hI h1 h2 h3 h4 h8.2.1 h8.2.2 h7
    ·exact ald w0 bn bm B s W x A cb hI h1 h2 h3 h4
section
variable {P : Program} {ops : Array Oper} {rest : List Oper} {o : Oper} {a : Act} {Q : Exit → Act → World → Prop}
theorem YU {W : World} (hgd : o.guard = none) {N : Tmp} (_hd : o.dst = some N) (t k e : TypeId) (ho : o.op = .makeMap t none)
  (h : ∀ g, g = W.heap.size → ∀ w1, Below W.heap.size W w1 → w1.ownsMap (H := Unit) P k (plainElem P e) g 0 (.map []) → wpList P ops Q rest (a.put o.dst (.map (some g))) w1) : wpList P ops Q (o :: rest) a W := by
 refine Kd.Dt hgd (w1 := W.alloc (.map #[] 0)) (v := .map (some W.heap.size)) ?_ (h _ rfl _ (aY (Below.refl _ _) _) (World.ownsMap_made W P k _))
 unfold execOp
 simp [ho, run_makeMap, Result.andThen]
end
theorem aiZ (c : ai) (A : Option Addr) (cc : Nat) (W : World) (hz : sz c ≤ 1048576) (hr : Kd.C k26 W A c.f3.length c.f3) (hc : c.f3.length ≤ cc) : Calls Tryz.prog 82 #[.agg #[.int .u8 c.f0, .int .i64 c.f1.f0, .int .i64 c.f1.f1, .int .i64 c.f1.f2, .int .i64 c.f1.f3, .int .i64 c.f2, .slice A c.f3.length cc]] W fun e w' => e = .returned (.bool (mZ c)) ∧ Below W.heap.size W w' := by
 have ZM := ae.mk fun (bn bm B : Nat) (W1 : World) (hI : nU W bn bm B (0, []) W1) => ag6 (yc bn B) (nU W bn bm B) ku 89 #[.pointer (some ⟨bn, 0, none⟩), .pointer (some ⟨bm, 0, none⟩)] (vk Tryz.func89 (by decide +kernel) (by kernel_rfl)) W (fun s w h => h.below) (fun s w w' h hb => h.step hb)
  (fun s w h k hk => hk.elim (fun e => e ▸ gU h.hn) (fun e => e ▸ h.map.lt)) (fun s w x B' cb h _ _ => ai0 W bn bm B s w x B' cb h) (sz c) c (Nat.le_refl _) A cc hr hc (0, []) W1 hI
 rw [ZY c hz] at ZM
 have HB := ae.mk (Below.refl W.heap.size W)
 clear hr hc hz
 generalize mZ c = r at ZM ⊢
 go_enter Tryz.func82, Tryz.ntmps82
 go_wp2_with (first | ((with_reducible refine aA (N := 1) rfl ?_); refine aV ?hg (N := 1) ?hd (cs := #[.int .u8 c.f0, .int .i64 c.f1.f0, .int .i64 c.f1.f1, .int .i64 c.f1.f2, .int .i64 c.f1.f3, .int .i64 c.f2, .slice A c.f3.length cc]) (t := 26) ?hr ?_; (case hd => rfl); (case hg => rfl); (case hr => (go_simp; done)); intro b1 hg wb1 hbox hb; have fJ := ae.mk hbox; have dR := ae.mk (au HB.out hb); clear HB; have HB := dR; clear dR; clear hb hbox hg) | ((with_reducible refine aA (N := 5) rfl ?_); refine YU rfl (N := 5) rfl 117 3 4 rfl ?_; intro B hg wB hb hM; have GB := ae.mk (show W.heap.size ≤ B by rw [hg]; exact HB.out.size); have HM := ae.mk hM; have dR := ae.mk (au HB.out hb); have iL := ae.mk (aW fJ.out hb); clear HB fJ; have HB := dR; have fJ := iL; clear dR iL; clear hb hM hg) | ((with_reducible refine aA (N := 3) rfl ?_); refine aV ?hg (N := 3) ?hd (cs := #[.map none]) (t := 117) ?hr ?_; (case hd => rfl); (case hg => rfl); (case hr => (go_simp; done)); intro bm hg wbm hbox hb; have D8 := ae.mk hbox; have Gbm := ae.mk (show W.heap.size ≤ bm by rw [hg]; exact HB.out.size); have dR := ae.mk (au HB.out hb); have iL := ae.mk (aW fJ.out hb); have CJ := ae.mk (HM.out.kept (below_grown hb) (by simp)); clear HB fJ HM; have HB := dR; have fJ := iL; have HM := CJ; clear dR iL CJ; clear hb hbox hg) | ((with_reducible refine mV (.store 117 (.tmp 3) (.tmp 5)) rfl ?_); go_loud (refine iO (w0 := W) rfl rfl 117 (.tmp 3) (.tmp 5) rfl (g := bm) (j := 0) (base := W.heap.size) #[.map (some B)] (u := .map (some B)) (df := [.map (some B)]) ?sA ?sX rfl ?sT ?s1 D8.out ?sJ rfl HB.out HB.out.size Gbm.out ?_; (case sA => rfl); (case sX => rfl); (case sT => rfl); (case s1 => (simp [Value.oneCell'])); (case sJ => (simp)); intro asc hbk hbb hgg; have NB : ae (B ≠ bm) := ⟨fun e => by have hq := D8.out; obtain ⟨es, cl, hB, _⟩ := HM.out; rw [← e, hB] at hq; cases hq⟩; have iL := ae.mk (dH fJ.out hgg (fun e_ => wV fJ.out D8.out (by decide) (Option.some.inj e_))); have CJ := ae.mk (HM.out.kept hgg (fun e_ => NB.out (Option.some.inj e_))); clear fJ HM; have fJ := iL; have HM := CJ; clear iL CJ; clear D8 HB; have D8 := ae.mk hbk; have HB := ae.mk hbb; clear hbk hbb hgg)) | ((with_reducible refine aA (N := 4) rfl ?_); refine aV ?hg (N := 4) ?hd (cs := #[.int .i64 0]) (t := 3) ?hr ?_; (case hd => rfl); (case hg => rfl); (case hr => (go_simp; done)); intro bn hg wbn hbox hb; have Qd := ae.mk hbox; have Gbn := ae.mk (show W.heap.size ≤ bn by rw [hg]; exact HB.out.size); have dR := ae.mk (au HB.out hb); have iL := ae.mk (aW fJ.out hb); have Ll := ae.mk (aW D8.out hb); have CJ := ae.mk (HM.out.kept (below_grown hb) (by simp)); clear HB fJ D8 HM; have HB := dR; have fJ := iL; have D8 := Ll; have HM := CJ; clear dR iL Ll CJ; clear hb hbox hg) | ((with_reducible refine mV (.store 3 (.tmp 4) (.const (.int .i64 0))) rfl ?_); go_loud (refine iO (w0 := W) rfl rfl 3 (.tmp 4) (.const (.int .i64 0)) rfl (g := bn) (j := 0) (base := W.heap.size) #[.int .i64 0] (u := .int .i64 0) (df := [.int .i64 0]) ?sA ?sX rfl ?sT ?s1 Qd.out ?sJ rfl HB.out HB.out.size Gbn.out ?_; (case sA => rfl); (case sX => rfl); (case sT => rfl); (case s1 => (simp [Value.oneCell'])); (case sJ => (decide)); intro ase hbk hbb hgg; have NN : ae (B ≠ bn) := ⟨fun e => by have hq := Qd.out; obtain ⟨es, cl, hB, _⟩ := HM.out; rw [← e, hB] at hq; cases hq⟩; have iL := ae.mk (dH fJ.out hgg (fun e_ => wV fJ.out Qd.out (by decide) (Option.some.inj e_))); have Ll := ae.mk (dH D8.out hgg (fun e_ => wV D8.out Qd.out (by decide) (Option.some.inj e_))); have CJ := ae.mk (HM.out.kept hgg (fun e_ => NN.out (Option.some.inj e_))); clear fJ D8 HM; have fJ := iL; have D8 := Ll; have HM := CJ; clear iL Ll CJ; clear Qd HB; have Qd := ae.mk hbk; have HB := ae.mk hbb; clear hbk hbb hgg; have c0 := (af fJ.out 0).trans rfl; have c1 := (af fJ.out 1).trans rfl; have c2 := (af fJ.out 2).trans rfl; have c3 := (af fJ.out 3).trans rfl; have c4 := (af fJ.out 4).trans rfl; have c5 := (af fJ.out 5).trans rfl; have c6 := (af fJ.out 6).trans rfl)))
 clear c0 c1 c2 c3 c4 c5 c6
 refine (ZM.out bn bm B _ ⟨Qd.out, D8.out, HM.out, HB.out, Gbn.out, GB.out, List.nodup_nil, fun i hi => absurd hi (by simp)⟩).mono ?_
 rintro e w' ⟨rfl, hi, _⟩
 have HI := ae.mk hi.below
 clear hi
 go_wp2
 go_ret
 exact ⟨rfl, HI.out⟩
theorem aiY (c : ai) (A : Option Addr) (cc : Nat) (W : World) (hz : sz c ≤ 1048576) (hr : Kd.C k26 W A c.f3.length c.f3) (hc : c.f3.length ≤ cc) : Calls Tryz.prog 81 #[.agg #[.int .u8 c.f0, .int .i64 c.f1.f0, .int .i64 c.f1.f1, .int .i64 c.f1.f2, .int .i64 c.f1.f3, .int .i64 c.f2, .slice A c.f3.length cc]] W fun e w' => e = .returned (.bool (!mZ c)) ∧ Below W.heap.size W w' := by
 have H := ae.mk fun (W1 : World) (hb : Below W.heap.size W W1) => aiZ c A cc W1 hz (Kd.g_ hr hb) hc
 clear hr hc hz
 cases hm : mZ c
 all_goals
  rw [hm] at H
  clear hm
  go_enter Tryz.func81, Tryz.ntmps81
  go_wp2_with (((with_reducible refine aA (N := 1) rfl ?_); refine aV ?hg (N := 1) ?hd (cs := #[.int .u8 c.f0, .int .i64 c.f1.f0, .int .i64 c.f1.f1, .int .i64 c.f1.f2, .int .i64 c.f1.f3, .int .i64 c.f2, .slice A c.f3.length cc]) (t := 26) ?hr ?_; (case hd => rfl); (case hg => rfl); (case hr => (go_simp; done)); intro b1 hg w1 hbox hb; have HB := ae.mk hb; have K1 := ae.mk hbox; clear hb hbox hg; have c0 := (af K1.out 0).trans rfl; have c1 := (af K1.out 1).trans rfl; have c2 := (af K1.out 2).trans rfl; have c3 := (af K1.out 3).trans rfl; have c4 := (af K1.out 4).trans rfl; have c5 := (af K1.out 5).trans rfl; have c6 := (af K1.out 6).trans rfl))
  clear c0 c1 c2 c3 c4 c5 c6
  refine (H.out _ HB.out).mono ?_
  rintro e w' ⟨rfl, hb⟩
  have HB2 := ae.mk (au HB.out hb)
  clear hb
  go_wp2
  go_ret
  exact ⟨rfl, HB2.out⟩
def u_.f (l0 : List ai) : Option Bool := if l0.all (fun c => decide (sz c ≤ 1048576)) = true then some (l0.all mZ) else none
theorem u_.calls (A0 : Option Addr) (c0 : Nat) (l0 : List ai) (r : Bool) (w : World) (hr0 : Kd.C k26 w A0 l0.length l0) (hc0 : l0.length ≤ c0) (h : u_.f l0 = some r) :
  Calls Tryz.prog 62 #[.slice A0 l0.length c0] w fun e w' => e = .returned (.bool r) ∧ Below w.heap.size w w' := by
 unfold u_.f at h
 split at h
 ·rename_i hz
  injection h with h
  have hcon := XG (fun (_ : Unit) W => Below w.heap.size w W) (fun _ x => (!mZ x, ())) 81 #[] (vk Tryz.func81 (by decide +kernel) (by kernel_rfl)) l0 A0 c0 w hr0 (fun _ W hW => hW) (fun _ W n hW => aT hW n)
   (fun _ W x B cb hx hW hC hl => by
    rw [show (#[Value.agg #[.int .u8 x.f0, .int .i64 x.f1.f0, .int .i64 x.f1.f1, .int .i64 x.f1.f2, .int .i64 x.f1.f3, .int .i64 x.f2, .slice B x.f3.length cb]] ++ #[] : Array Value) = #[.agg #[.int .u8 x.f0, .int .i64 x.f1.f0, .int .i64 x.f1.f1, .int .i64 x.f1.f2, .int .i64 x.f1.f3, .int .i64 x.f2, .slice B x.f3.length cb]] by simp]
    exact (aiY x B cb W (of_decide_eq_true (List.all_eq_true.1 hz x hx)) (Kd.g_ hC hW) hl).mono fun e w' ⟨he, hb⟩ => ⟨he, yt hW hW.size hb⟩) () w (Below.refl _ _) hr0.2.1
  rw [O6] at hcon
  have hnone := U2 l0 A0 c0 81 #[] _ _ w hcon (fun W n hW => aT hW n)
  have e1 : r = !(l0.any fun x => !mZ x) := by
   rw [← h]
   clear h hcon hr0 hc0 hz hnone
   induction l0 with
   | nil => rfl
   | cons x xs ih => simp only [List.all_cons, List.any_cons, ih, Bool.not_or, Bool.not_not]
  subst e1
  generalize (l0.any fun x => !mZ x) = b at hnone
  have HC := ae.mk hnone
  clear hcon h hr0 hnone hz
  go_enter Tryz.func62, Tryz.ntmps62
  go_wp2_with fail
  refine HC.out.mono ?_
  rintro e w' ⟨rfl, hb⟩
  have HB := ae.mk hb
  clear hb
  go_wp2
  go_ret
  exact ⟨rfl, HB.out⟩
 ·exact absurd h (by simp)
theorem Tt {x : ByteArray} {w : World} {A : Option Addr} (h : Kd.C Kd.string w A 1 [x]) : ∃ ad, A = some ad := by
 obtain ⟨ad, h1, _⟩ := h.2.2 (by omega)
 exact ⟨ad, h1⟩
theorem aam (c : ai) (hz : sz c ≤ 1048576) (A : Option Addr) (cc : Nat) (w : World) (hr : Kd.C k26 w A c.f3.length c.f3) (hc : c.f3.length ≤ cc) :
  Calls Tryz.prog 46 #[.agg #[.int .u8 c.f0, .int .i64 c.f1.f0, .int .i64 c.f1.f1, .int .i64 c.f1.f2, .int .i64 c.f1.f3, .int .i64 c.f2, .slice A c.f3.length cc]] w fun e w' => (if dF c = true then e = .returned .nilIface else ∃ t u, e = .returned (.iface t u)) ∧ Below w.heap.size w w' := by
 have hM : u_.f [c] = some (mZ c) := by
  unfold u_.f
  rw [if_pos (by simp [hz])]
  simp
 have hW : mZ c = true → ∀ (gw : Nat) (W : World), w.heap.size ≤ gw → sF w gw 0 W → Calls Tryz.prog 65 #[.pointer (some ⟨gw, 0, none⟩), .agg #[.int .u8 c.f0, .int .i64 c.f1.f0, .int .i64 c.f1.f1, .int .i64 c.f1.f2, .int .i64 c.f1.f3, .int .i64 c.f2, .slice A c.f3.length cc]] W fun e w' => e = .returned (.bool (mP c)) ∧ sF w gw (0 + dY c.f3) w' ∧ Fr gw W w' := fun hm gw W hg hI => afJ w gw hg (sz c) c (Nat.le_refl _) (pW hm) A cc hr hc 0 W (by have := pW hm; have := bJ c; omega) hI
 unfold dF
 have HR := ae.mk hr
 have HC := ae.mk hc
 have HM := ae.mk hM
 have HW := ae.mk hW
 have HB := ae.mk (Below.refl w.heap.size w)
 clear hr hc hM hW hz
 obtain ⟨ck, ⟨cx, cy, cw, ch⟩, aJ, l⟩ := c
 simp only [] at HR HC HW ⊢
 generalize mP ⟨ck, ⟨cx, cy, cw, ch⟩, aJ, l⟩ = q at HW ⊢
 cases hm : mZ (⟨ck, ⟨cx, cy, cw, ch⟩, aJ, l⟩ : ai) with
 | false =>
  rw [hm] at HM
  have HM := HM
  simp only [Bool.false_and, Bool.false_eq_true, if_false]
  clear hm HW
  go_enter Tryz.func46, Tryz.ntmps46
  go_wp2_with (first
   | ((with_reducible refine aA (N := 1) rfl ?_); refine aV ?hg (N := 1) ?hd (cs := #[.int .u8 ck, .int .i64 cx, .int .i64 cy, .int .i64 cw, .int .i64 ch, .int .i64 aJ, .slice A l.length cc]) (t := 26) ?hr ?_; (case hd => rfl); (case hg => rfl); (case hr => first | (go_simp; done) | (go_simp; rfl)); intro b1 hg wb1 hbox hb; have fJ := ae.mk hbox; have dR := ae.mk (au HB.out hb); clear HB; have HB := dR; clear dR; clear hb hbox hg)
   | ((with_reducible refine aA (N := 5) rfl ?_); refine aV ?hg (N := 5) ?hd (cs := #[.int .i64 0, .slice none 0 0]) (t := 92) ?hr ?_; (case hd => rfl); (case hg => rfl); (case hr => first | (go_simp; done) | (go_simp; rfl)); intro gw hg wgw hbox hb; have rZ := ae.mk hbox; have GG := ae.mk (show w.heap.size ≤ gw by rw [hg]; exact HB.out.size); have dR := ae.mk (au HB.out hb); have iL := ae.mk (aW fJ.out hb); clear HB fJ; have HB := dR; have fJ := iL; clear dR iL; have c0 := (af fJ.out 0).trans rfl; have c1 := (af fJ.out 1).trans rfl; have c2 := (af fJ.out 2).trans rfl; have c3 := (af fJ.out 3).trans rfl; have c4 := (af fJ.out 4).trans rfl; have c5 := (af fJ.out 5).trans rfl; have c6 := (af fJ.out 6).trans rfl; clear hb hbox hg)
   | ((with_reducible refine aA (N := 8) rfl ?_); refine Kd.Bd k26 _ 26 ?hg (N' := 8) ?hd (xs := [(⟨ck, ⟨cx, cy, cw, ch⟩, aJ, l⟩ : ai)]) (inner := [.int .u8 ck, .int .i64 cx, .int .i64 cy, .int .i64 cw, .int .i64 ch, .int .i64 aJ, .slice A l.length cc]) (ok := fun _ => True) (gz := fun _ => True) ?hr ?hp (fun _ hk => hk) trivial (Below.refl _ _) (Nat.le_refl _) (by simp) ?_; (case hd => rfl); (case hg => rfl); (case hr => first | (go_simp; done) | (go_simp; rfl)); (case hp => exact (dC.c7 (pY _ _ (⟨ck, ⟨cx, cy, cw, ch⟩, aJ, l⟩ : ai) HC.out (Kd.uo (Kd.F7 ql (Kd.g_ HR.out HB.out)) (fun _ _ => trivial))) (dC.none _ _))); intro vr wr ho hb pG jZ; clear pG jZ; obtain ⟨Am, cm, er⟩ := Kd.jO ho; subst er; have dR := ae.mk (au HB.out hb); have iL := ae.mk (aW fJ.out hb); have rF := ae.mk (aW rZ.out hb); clear HB fJ rZ; have HB := dR; have fJ := iL; have rZ := rF; clear dR iL rF; have Hm := ae.mk (Kd.jw ho).2.2; have Lm := ae.mk (Kd.jw ho).2.1; clear ho hb c0 c1 c2 c3 c4 c5 c6)
   | fail)
  refine (u_.calls Am cm [(⟨ck, ⟨cx, cy, cw, ch⟩, aJ, l⟩ : ai)] false _ Hm.out Lm.out HM.out).mono ?_
  rintro e w1 ⟨rfl, hb⟩
  have dR := ae.mk (au HB.out hb); have iL := ae.mk (aW fJ.out hb); have rF := ae.mk (aW rZ.out hb); clear HB fJ rZ; have HB := dR; have fJ := iL; have rZ := rF; clear dR iL rF
  clear hb Hm Lm
  go_wp2_with fail
  refine (YZ 1 0 (by decide) _).mono ?_
  rintro e w2 ⟨⟨tv, v, rfl⟩, hb⟩
  have dR := ae.mk (au HB.out hb); clear HB; have HB := dR; clear dR
  clear hb
  go_wp2_with (first
   | ((with_reducible refine aA (N := 12) rfl ?_); refine Kd.xk Kd.string _ 9 ?hg (N := 12) ?hd (xs := [(⟨#[108, 97, 121, 111, 117, 116]⟩ : ByteArray)]) (inner := [.string (⟨#[108, 97, 121, 111, 117, 116]⟩ : ByteArray)]) (ok := fun _ => True) (gz := fun _ => True) ?hr ?hp (fun _ hk => hk) trivial (Below.refl _ _) (Nat.le_refl _) (by simp) ?_; (case hd => rfl); (case hg => rfl); (case hr => first | (go_simp; done) | (go_simp; rfl)); (case hp => exact (dC.one (show Kd.M Kd.string _ _ _ (⟨#[108, 97, 121, 111, 117, 116]⟩ : ByteArray) [.string (⟨#[108, 97, 121, 111, 117, 116]⟩ : ByteArray)] from rfl) (dC.none _ _))); intro vs wr ho hb pG jZ; clear pG jZ; obtain ⟨As, cs_, er⟩ := Kd.ig ho; subst er; have dR := ae.mk (au HB.out hb); clear HB; have HB := dR; clear dR; have Hs := ae.mk (Kd.eX ho).2.2; have Ls := ae.mk (Kd.eX ho).2.1; clear ho hb)
   | fail)
  obtain ⟨ad, ea⟩ := Tt Hs.out
  subst ea
  refine (acC tv v ad cs_ _ _ Hs.out Ls.out).mono ?_
  rintro e w3 ⟨⟨tu, u, rfl⟩, hb⟩
  have dR := ae.mk (au HB.out hb); clear HB; have HB := dR; clear dR
  clear hb Hs Ls
  go_wp2
  go_ret
  exact ⟨⟨_, _, rfl⟩, HB.out⟩
 | true =>
  rw [hm] at HM
  have HW := ae.mk (HW.out hm)
  simp only [Bool.true_and]
  clear hm
  cases q with
  | true =>
   simp only [if_true]
   go_enter Tryz.func46, Tryz.ntmps46
   go_wp2_with (first
    | ((with_reducible refine aA (N := 1) rfl ?_); refine aV ?hg (N := 1) ?hd (cs := #[.int .u8 ck, .int .i64 cx, .int .i64 cy, .int .i64 cw, .int .i64 ch, .int .i64 aJ, .slice A l.length cc]) (t := 26) ?hr ?_; (case hd => rfl); (case hg => rfl); (case hr => first | (go_simp; done) | (go_simp; rfl)); intro b1 hg wb1 hbox hb; have fJ := ae.mk hbox; have dR := ae.mk (au HB.out hb); clear HB; have HB := dR; clear dR; clear hb hbox hg)
    | ((with_reducible refine aA (N := 5) rfl ?_); refine aV ?hg (N := 5) ?hd (cs := #[.int .i64 0, .slice none 0 0]) (t := 92) ?hr ?_; (case hd => rfl); (case hg => rfl); (case hr => first | (go_simp; done) | (go_simp; rfl)); intro gw hg wgw hbox hb; have rZ := ae.mk hbox; have GG := ae.mk (show w.heap.size ≤ gw by rw [hg]; exact HB.out.size); have dR := ae.mk (au HB.out hb); have iL := ae.mk (aW fJ.out hb); clear HB fJ; have HB := dR; have fJ := iL; clear dR iL; have c0 := (af fJ.out 0).trans rfl; have c1 := (af fJ.out 1).trans rfl; have c2 := (af fJ.out 2).trans rfl; have c3 := (af fJ.out 3).trans rfl; have c4 := (af fJ.out 4).trans rfl; have c5 := (af fJ.out 5).trans rfl; have c6 := (af fJ.out 6).trans rfl; clear hb hbox hg)
    | ((with_reducible refine aA (N := 8) rfl ?_); refine Kd.Bd k26 _ 26 ?hg (N' := 8) ?hd (xs := [(⟨ck, ⟨cx, cy, cw, ch⟩, aJ, l⟩ : ai)]) (inner := [.int .u8 ck, .int .i64 cx, .int .i64 cy, .int .i64 cw, .int .i64 ch, .int .i64 aJ, .slice A l.length cc]) (ok := fun _ => True) (gz := fun _ => True) ?hr ?hp (fun _ hk => hk) trivial (Below.refl _ _) (Nat.le_refl _) (by simp) ?_; (case hd => rfl); (case hg => rfl); (case hr => first | (go_simp; done) | (go_simp; rfl)); (case hp => exact (dC.c7 (pY _ _ (⟨ck, ⟨cx, cy, cw, ch⟩, aJ, l⟩ : ai) HC.out (Kd.uo (Kd.F7 ql (Kd.g_ HR.out HB.out)) (fun _ _ => trivial))) (dC.none _ _))); intro vr wr ho hb pG jZ; clear pG jZ; obtain ⟨Am, cm, er⟩ := Kd.jO ho; subst er; have dR := ae.mk (au HB.out hb); have iL := ae.mk (aW fJ.out hb); have rF := ae.mk (aW rZ.out hb); clear HB fJ rZ; have HB := dR; have fJ := iL; have rZ := rF; clear dR iL rF; have Hm := ae.mk (Kd.jw ho).2.2; have Lm := ae.mk (Kd.jw ho).2.1; clear ho hb c0 c1 c2 c3 c4 c5 c6)
    | fail)
   refine (u_.calls Am cm [(⟨ck, ⟨cx, cy, cw, ch⟩, aJ, l⟩ : ai)] true _ Hm.out Lm.out HM.out).mono ?_
   rintro e w1 ⟨rfl, hb⟩
   have dR := ae.mk (au HB.out hb); have iL := ae.mk (aW fJ.out hb); have rF := ae.mk (aW rZ.out hb); clear HB fJ rZ; have HB := dR; have fJ := iL; have rZ := rF; clear dR iL rF
   clear hb Hm Lm
   have HI := ae.mk (show sF w gw 0 w1 from ⟨HB.out, 0, .slice none 0 0, [], rZ.out, Kd.t_ _ _ _ _ _, Nat.le_refl _⟩)
   have c0 := (af fJ.out 0).trans rfl
   have c1 := (af fJ.out 1).trans rfl
   have c2 := (af fJ.out 2).trans rfl
   have c3 := (af fJ.out 3).trans rfl
   have c4 := (af fJ.out 4).trans rfl
   have c5 := (af fJ.out 5).trans rfl
   have c6 := (af fJ.out 6).trans rfl
   go_wp2_with fail
   clear c0 c1 c2 c3 c4 c5 c6
   refine (HW.out gw w1 GG.out HI.out).mono ?_
   rintro e w2 ⟨rfl, ⟨hb2, n, v, ls, hk, _, _⟩, _⟩
   clear HB rZ HI fJ
   have HB := ae.mk hb2
   have rZ := ae.mk hk
   clear hb2 hk
   go_wp2
   go_ret
   exact ⟨rfl, HB.out⟩
  | false =>
   simp only [Bool.false_eq_true, if_false]
   go_enter Tryz.func46, Tryz.ntmps46
   go_wp2_with (first
    | ((with_reducible refine aA (N := 1) rfl ?_); refine aV ?hg (N := 1) ?hd (cs := #[.int .u8 ck, .int .i64 cx, .int .i64 cy, .int .i64 cw, .int .i64 ch, .int .i64 aJ, .slice A l.length cc]) (t := 26) ?hr ?_; (case hd => rfl); (case hg => rfl); (case hr => first | (go_simp; done) | (go_simp; rfl)); intro b1 hg wb1 hbox hb; have fJ := ae.mk hbox; have dR := ae.mk (au HB.out hb); clear HB; have HB := dR; clear dR; clear hb hbox hg)
    | ((with_reducible refine aA (N := 5) rfl ?_); refine aV ?hg (N := 5) ?hd (cs := #[.int .i64 0, .slice none 0 0]) (t := 92) ?hr ?_; (case hd => rfl); (case hg => rfl); (case hr => first | (go_simp; done) | (go_simp; rfl)); intro gw hg wgw hbox hb; have rZ := ae.mk hbox; have GG := ae.mk (show w.heap.size ≤ gw by rw [hg]; exact HB.out.size); have dR := ae.mk (au HB.out hb); have iL := ae.mk (aW fJ.out hb); clear HB fJ; have HB := dR; have fJ := iL; clear dR iL; have c0 := (af fJ.out 0).trans rfl; have c1 := (af fJ.out 1).trans rfl; have c2 := (af fJ.out 2).trans rfl; have c3 := (af fJ.out 3).trans rfl; have c4 := (af fJ.out 4).trans rfl; have c5 := (af fJ.out 5).trans rfl; have c6 := (af fJ.out 6).trans rfl; clear hb hbox hg)
    | ((with_reducible refine aA (N := 8) rfl ?_); refine Kd.Bd k26 _ 26 ?hg (N' := 8) ?hd (xs := [(⟨ck, ⟨cx, cy, cw, ch⟩, aJ, l⟩ : ai)]) (inner := [.int .u8 ck, .int .i64 cx, .int .i64 cy, .int .i64 cw, .int .i64 ch, .int .i64 aJ, .slice A l.length cc]) (ok := fun _ => True) (gz := fun _ => True) ?hr ?hp (fun _ hk => hk) trivial (Below.refl _ _) (Nat.le_refl _) (by simp) ?_; (case hd => rfl); (case hg => rfl); (case hr => first | (go_simp; done) | (go_simp; rfl)); (case hp => exact (dC.c7 (pY _ _ (⟨ck, ⟨cx, cy, cw, ch⟩, aJ, l⟩ : ai) HC.out (Kd.uo (Kd.F7 ql (Kd.g_ HR.out HB.out)) (fun _ _ => trivial))) (dC.none _ _))); intro vr wr ho hb pG jZ; clear pG jZ; obtain ⟨Am, cm, er⟩ := Kd.jO ho; subst er; have dR := ae.mk (au HB.out hb); have iL := ae.mk (aW fJ.out hb); have rF := ae.mk (aW rZ.out hb); clear HB fJ rZ; have HB := dR; have fJ := iL; have rZ := rF; clear dR iL rF; have Hm := ae.mk (Kd.jw ho).2.2; have Lm := ae.mk (Kd.jw ho).2.1; clear ho hb c0 c1 c2 c3 c4 c5 c6)
    | fail)
   refine (u_.calls Am cm [(⟨ck, ⟨cx, cy, cw, ch⟩, aJ, l⟩ : ai)] true _ Hm.out Lm.out HM.out).mono ?_
   rintro e w1 ⟨rfl, hb⟩
   have dR := ae.mk (au HB.out hb); have iL := ae.mk (aW fJ.out hb); have rF := ae.mk (aW rZ.out hb); clear HB fJ rZ; have HB := dR; have fJ := iL; have rZ := rF; clear dR iL rF
   clear hb Hm Lm
   have HI := ae.mk (show sF w gw 0 w1 from ⟨HB.out, 0, .slice none 0 0, [], rZ.out, Kd.t_ _ _ _ _ _, Nat.le_refl _⟩)
   have c0 := (af fJ.out 0).trans rfl
   have c1 := (af fJ.out 1).trans rfl
   have c2 := (af fJ.out 2).trans rfl
   have c3 := (af fJ.out 3).trans rfl
   have c4 := (af fJ.out 4).trans rfl
   have c5 := (af fJ.out 5).trans rfl
   have c6 := (af fJ.out 6).trans rfl
   go_wp2_with fail
   clear c0 c1 c2 c3 c4 c5 c6
   refine (HW.out gw w1 GG.out HI.out).mono ?_
   rintro e w2 ⟨rfl, ⟨hb2, n, v, ls, hk, _, _⟩, _⟩
   clear HB rZ HI fJ
   have HB := ae.mk hb2
   have rZ := ae.mk hk
   clear hb2 hk
   have c0 := (af rZ.out 0).trans rfl
   have c1 := (af rZ.out 1).trans rfl
   go_wp2_with fail
   clear c0 c1
   refine (YZ 5 n (by decide) _).mono ?_
   rintro e w2 ⟨⟨tv, v, rfl⟩, hb⟩
   have dR := ae.mk (au HB.out hb); clear HB; have HB := dR; clear dR
   clear hb
   go_wp2_with (first
    | ((with_reducible refine aA (N := 24) rfl ?_); refine Kd.xk Kd.string _ 9 ?hg (N := 24) ?hd (xs := [(⟨#[108, 97, 121, 111, 117, 116]⟩ : ByteArray)]) (inner := [.string (⟨#[108, 97, 121, 111, 117, 116]⟩ : ByteArray)]) (ok := fun _ => True) (gz := fun _ => True) ?hr ?hp (fun _ hk => hk) trivial (Below.refl _ _) (Nat.le_refl _) (by simp) ?_; (case hd => rfl); (case hg => rfl); (case hr => first | (go_simp; done) | (go_simp; rfl)); (case hp => exact (dC.one (show Kd.M Kd.string _ _ _ (⟨#[108, 97, 121, 111, 117, 116]⟩ : ByteArray) [.string (⟨#[108, 97, 121, 111, 117, 116]⟩ : ByteArray)] from rfl) (dC.none _ _))); intro vs wr ho hb pG jZ; clear pG jZ; obtain ⟨As, cs_, er⟩ := Kd.ig ho; subst er; have dR := ae.mk (au HB.out hb); clear HB; have HB := dR; clear dR; have Hs := ae.mk (Kd.eX ho).2.2; have Ls := ae.mk (Kd.eX ho).2.1; clear ho hb)
    | fail)
   obtain ⟨ad, ea⟩ := Tt Hs.out
   subst ea
   refine (acC tv v ad cs_ _ _ Hs.out Ls.out).mono ?_
   rintro e w3 ⟨⟨tu, u, rfl⟩, hb⟩
   have dR := ae.mk (au HB.out hb); clear HB; have HB := dR; clear dR
   clear hb Hs Ls
   go_wp2
   go_ret
   exact ⟨⟨_, _, rfl⟩, HB.out⟩
theorem ahv (x : ai) (hz : sz x ≤ 1048576) (B : Option Addr) (cb : Nat) (W : World) (hr : Kd.C k26 W B x.f3.length x.f3) (hl : x.f3.length ≤ cb) :
  Calls Tryz.prog 45 #[.agg #[.int .u8 x.f0, .int .i64 x.f1.f0, .int .i64 x.f1.f1, .int .i64 x.f1.f2, .int .i64 x.f1.f3, .int .i64 x.f2, .slice B x.f3.length cb]] W fun e w' => e = .returned (.bool (!dF x)) ∧ Below W.heap.size W w' := by
 have HC := ae.mk (fun W1 (hb : Below W.heap.size W W1) => aam x hz B cb W1 (Kd.g_ hr hb) hl)
 have HB := ae.mk (Below.refl W.heap.size W)
 clear hr hl hz
 cases hq : dF x
 all_goals
  simp only [hq, if_pos, Bool.false_eq_true, if_false] at HC
  clear hq
  go_enter Tryz.func45, Tryz.ntmps45
  go_wp2_with (first
   | ((with_reducible refine aA (N := 1) rfl ?_); refine aV ?hg (N := 1) ?hd (cs := #[.int .u8 x.f0, .int .i64 x.f1.f0, .int .i64 x.f1.f1, .int .i64 x.f1.f2, .int .i64 x.f1.f3, .int .i64 x.f2, .slice B x.f3.length cb]) (t := 26) ?hr ?_; (case hd => rfl); (case hg => rfl); (case hr => first | (go_simp; done) | (go_simp; rfl)); intro b1 hg wb1 hbox hb; have fJ := ae.mk hbox; have dR := ae.mk (au HB.out hb); clear HB; have HB := dR; clear dR; have c0 := (af fJ.out 0).trans rfl; have c1 := (af fJ.out 1).trans rfl; have c2 := (af fJ.out 2).trans rfl; have c3 := (af fJ.out 3).trans rfl; have c4 := (af fJ.out 4).trans rfl; have c5 := (af fJ.out 5).trans rfl; have c6 := (af fJ.out 6).trans rfl; clear hb hbox hg)
   | fail)
  clear c0 c1 c2 c3 c4 c5 c6
 ·refine (HC.out _ HB.out).mono ?_
  rintro e w2 ⟨⟨t, u, rfl⟩, hb⟩
  have dR := ae.mk (au HB.out hb); clear HB; have HB := dR; clear dR
  clear hb
  go_wp2
  go_ret
  exact ⟨rfl, HB.out⟩
 ·refine (HC.out _ HB.out).mono ?_
  rintro e w2 ⟨rfl, hb⟩
  have dR := ae.mk (au HB.out hb); clear HB; have HB := dR; clear dR
  clear hb
  go_wp2
  go_ret
  exact ⟨rfl, HB.out⟩
theorem TF (l : List ai) (hz : ∀ x, x ∈ l → sz x ≤ 1048576) (A : Option Addr) (c : Nat) (w : World) (hr : Kd.C k26 w A l.length l) (hc : l.length ≤ c) :
  Calls Tryz.prog 26 #[.slice A l.length c] w fun e w' => e = .returned (.bool (l.all dF)) ∧ Below w.heap.size w w' := by
 have hq := Um (fun _ W => Below w.heap.size w W) (fun x => !dF x) 45 #[] (vk Tryz.func45 (by decide +kernel) (by kernel_rfl)) l A c w hr (fun _ _ h => h) (fun _ W n h => au h (aT (Below.refl _ _) n))
  (fun x rest W B cb hx _ hI hC hlx => by
   refine (ahv x (hz x hx) B cb W (Kd.g_ hC hI) hlx).mono ?_
   rintro e w' ⟨he, hb⟩
   exact ⟨he, au hI hb⟩) w (Below.refl _ _) hr.2.1
 have HQ := ae.mk hq
 rw [List.all_eq_not_any_not]
 clear hq hr hc hz
 generalize l.any (fun x => !dF x) = r at HQ ⊢
 cases r
 all_goals
  go_enter Tryz.func26, Tryz.ntmps26
  go_wp2_with fail
  refine HQ.out.mono ?_
  rintro e w2 ⟨rfl, hb⟩
  have HB := ae.mk hb
  clear hb
  go_wp2
  go_ret
  exact ⟨rfl, HB.out⟩
noncomputable def nJ.f (l0 : List ai) : Option Bool := if l0.all (fun c => decide (sz c ≤ 1048576)) = true then some (l0.all dF) else none
theorem nJ.calls (A0 : Option Addr) (c0 : Nat) (l0 : List ai) (r : Bool) (w : World) (hr0 : Kd.C k26 w A0 l0.length l0) (hc0 : l0.length ≤ c0) (h : nJ.f l0 = some r) :
  Calls Tryz.prog 26 #[.slice A0 l0.length c0] w fun e w' => e = .returned (.bool r) ∧ Below w.heap.size w w' := by
 unfold nJ.f at h
 split at h
 ·rename_i hz
  injection h with h
  subst h
  exact TF l0 (fun x hx => of_decide_eq_true (List.all_eq_true.1 hz x hx)) A0 c0 w hr0 hc0
 ·exact absurd h (by simp)
end Go.Proofs.YtfdmfgaiblfbhaaGreat.P
