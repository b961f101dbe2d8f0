/- KillIs: part 5 of 7 of this claim's texts, one behind the other, made small by a program: the words of the kit's printer cut down to those that are used, the claim's own names made short. -/
import Derived.Test.YtfdmfgaiblfbhaaGreatMKillIsc
import Derived.Test.YtfdmfgaiblfbhaaGreatMKillIsd
import Derived.WalkSpells
import Derived.Shelf.Spec.SlicesInsert
import Derived.Shelf.Spec.SlicesInsertGrow
import Derived.ProofKit
import Derived.Deep.Slices
import Derived.Lib.SmallJoins
import Derived.OpenShut
set_option maxHeartbeats 8000000
set_option maxRecDepth 100000
set_option linter.unusedVariables false
set_option linter.unusedSimpArgs false
namespace Go.Proofs.YtfdmfgaiblfbhaaGreat.P
open Go.RowKit Go.Proofs.ag.aU Go.Proofs.ag.bK Go.Proofs.ag.cO
attribute [local go_sem] jG jR kQ lq jJ jK kT kU
noncomputable def dK.j0 : Nat → Int → Bool → Int → Int → Int → Int → Int → Int → List (ai) → Option (Int)
 | 0, _, _, _, _, _, _, _, _, _ => none
 | k + 1, x1, EC, afZ, Vj, Vk, Vl, Vm, af0, af1 => if EC = true then (some 0) else ((ru.f Vj Vk Vl Vm x1).bind fun JH => ((m_.f k afZ Vj Vk Vl Vm af0 af1 x1).bind fun Hl => (some (wrap64 (JH - Hl)))))
noncomputable def dK.f (k : Nat) (az : Int) (aI : Int) (aC : Int) (aH : Int) (bu : Int) (bC : Int) (aK : List (ai)) (a1 : Int) : Option (Int) := (mG.f a1).bind fun N8 => (if N8 = true then ((nJ.f (([(⟨az, (⟨aI, aC, aH, bu⟩ : dW), bC, aK⟩ : ai)] : List (ai)))).bind fun zn => (dK.j0 k a1 (!zn) az aI aC aH bu bC aK)) else (dK.j0 k a1 true az aI aC aH bu bC aK))
def dK.T3 : Bool × List (List Nat × List Nat) := (true, [([], []), ([0], [0]), ([], []), ([1, 2], [1, 2]), ([], []), ([], []), ([4, 5, 3], [4, 5]), ([3, 6], [3, 6]), ([7, 6, 0, 1, 2, 3, 4, 5, 6, 7], [7])])
def dK.B3 : List Nat := [0, 1, 0, 7, 0, 0, 63, 127, 255]
theorem dK.Ho : je .any (opsOf Tryz.f33 3) = dK.T3 := by kernel_rfl
theorem dK.Dk : iM dK.T3.2 dK.B3 = true := by kernel_rfl
theorem dK.calls (k : Nat) (az : Int) (aI : Int) (aC : Int) (aH : Int) (bu : Int) (bC : Int) (gV : Nat → Prop) (dP : Option Addr) (dQ : Nat) (aK : List (ai)) (a1 : Int) (r : Int) (w : World) (Io : Kd.V k26 26 w w.heap.size (fun k_ => gV k_) (.slice dP aK.length dQ) aK) (h : dK.f k az aI aC aH bu bC aK a1 = some r) :
  Calls Tryz.prog 33 #[.agg #[.int .u8 az, .int .i64 aI, .int .i64 aC, .int .i64 aH, .int .i64 bu, .int .i64 bC, .slice dP aK.length dQ], .int .u8 a1] w fun e w' => e = .returned (.int .i64 r) ∧ Below w.heap.size w w' := by
 have EX := Tryz.underlying26
 have Sj := Tryz.underlying23
 have kJ := ae.mk (show Kd.V k26 26 w w.heap.size (fun k_ => (gV k_ ∨ w.heap.size ≤ k_)) (.slice dP aK.length dQ) aK from Kd.iw Io (fun k_ hk => .inl hk))
 have HB := ae.mk (Below.refl w.heap.size w)
 have H : ((mG.f a1).bind fun N8 => (if N8 = true then ((nJ.f (([(⟨az, (⟨aI, aC, aH, bu⟩ : dW), bC, aK⟩ : ai)] : List (ai)))).bind fun zn => (dK.j0 k a1 (!zn) az aI aC aH bu bC aK)) else (dK.j0 k a1 true az aI aC aH bu bC aK))) = some r := h
 clear h
 have PU := ae.mk H
 clear H
 go_enter Tryz.func33, Tryz.ntmps33
 go_upto_region 1 with (((with_reducible refine aA (N := 2) rfl ?_); (try (refine gW (by rfl) ?_; dsimp only)); refine aV ?hg (N := 2) ?hd (cs := #[.int .u8 az, .int .i64 aI, .int .i64 aC, .int .i64 aH, .int .i64 bu, .int .i64 bC, .slice dP aK.length dQ]) (t := 26) ?hr ?_; (case hd => rfl); (case hg => rfl); (case hr => (go_simp; done)); intro nP hg w4 hbox hb; have f_ := ae.mk (hbox); replace kJ := ae.mk (Kd.kH (Kd.qh kJ.out nP (Nat.le_of_eq hg.symm)) hb); replace HB := ae.mk (au (by repeat ((with_reducible exact HB.out))) hb); clear hb hbox hg))
 (skip)
 go_cut [13] (fun v13 wc => ∃ (kq : Nat) (Bi : Bool), v13 = .bool Bi ∧ ae (dK.j0 kq a1 Bi az aI aC aH bu bC aK = some r) ∧ ae (kq ≤ k) ∧ ae (Kd.V k26 26 wc w.heap.size (fun k_ => (gV k_ ∨ w.heap.size ≤ k_) ∧ k_ ≠ nP) (.slice dP aK.length dQ) aK) ∧ ae (wc.heap[nP]? = some (.cells #[.int .u8 az, .int .i64 aI, .int .i64 aC, .int .i64 aH, .int .i64 bu, .int .i64 bC, (.slice dP aK.length dQ)] 26 (0, 0))) ∧ ae (Below w.heap.size w wc))
 case first =>
  have H := PU.out
  clear PU
  replace H := Option.bind_eq_some_iff.mp H
  obtain ⟨N8, W9, H⟩ := H
  replace H : (if N8 = true then ((nJ.f (([(⟨az, (⟨aI, aC, aH, bu⟩ : dW), bC, aK⟩ : ai)] : List (ai)))).bind fun zn => (dK.j0 k a1 (!zn) az aI aC aH bu bC aK)) else (dK.j0 k a1 true az aI aC aH bu bC aK)) = some r := H
  have A5 := ae.mk W9
  clear W9
  by_cases c6 : N8 = true
  ·subst c6
   have H1 : ((nJ.f (([(⟨az, (⟨aI, aC, aH, bu⟩ : dW), bC, aK⟩ : ai)] : List (ai)))).bind fun zn => (dK.j0 k a1 (!zn) az aI aC aH bu bC aK)) = some r := by rw [if_pos rfl] at H; exact H
   clear H
   have H := H1
   clear H1
   obtain ⟨ajR, V4⟩ : ∃ y_ : List (ai), y_ = (([(⟨az, (⟨aI, aC, aH, bu⟩ : dW), bC, aK⟩ : ai)] : List (ai))) := ⟨_, rfl⟩
   replace H : ((nJ.f ajR).bind fun zn => (dK.j0 k a1 (!zn) az aI aC aH bu bC aK)) = some r := by (rw [V4]; with_reducible exact H)
   have akl := ae.mk V4
   clear V4
   replace H := Option.bind_eq_some_iff.mp H
   obtain ⟨zn, W_, H⟩ := H
   replace H : (dK.j0 k a1 (!zn) az aI aC aH bu bC aK) = some r := H
   have A7 := ae.mk W_
   clear W_
   have H' := ae.mk H
   clear H
   go_wp2_with (first | ((with_reducible refine jF (f := 54) rfl ?_); refine mf (some 6) rfl rfl Tryz.func54 (by kernel_rfl) rfl #[.int .u8 a1] rfl (by (try simp only [List.map_toArray, List.map_cons, List.map_nil]); rfl) ?_; (with_reducible refine (mG.calls a1 true _ A5.out).mono ?_); rintro e w8 ⟨rfl, hb⟩; refine ⟨_, rfl, ?_⟩; replace kJ := ae.mk (Kd.kH kJ.out hb); replace f_ := ae.mk (aW f_.out hb); replace HB := ae.mk (au (by repeat ((with_reducible exact HB.out))) hb); (try clear hb); have Yd : w8.cell? ⟨nP, 0, none⟩ = some (.int .u8 az) := (af f_.out 0).trans rfl; have Ye : w8.cell? ⟨nP, 1, none⟩ = some (.int .i64 aI) := (af f_.out 1).trans rfl; have Yf : w8.cell? ⟨nP, 2, none⟩ = some (.int .i64 aC) := (af f_.out 2).trans rfl; have Yg : w8.cell? ⟨nP, 3, none⟩ = some (.int .i64 aH) := (af f_.out 3).trans rfl; have Yh : w8.cell? ⟨nP, 4, none⟩ = some (.int .i64 bu) := (af f_.out 4).trans rfl; have Yi : w8.cell? ⟨nP, 5, none⟩ = some (.int .i64 bC) := (af f_.out 5).trans rfl; have Yj : w8.cell? ⟨nP, 6, none⟩ = some (.slice dP aK.length dQ) := (af f_.out 6).trans rfl; have Yw := ah f_.out 0; have Yx := ah f_.out 1; have Yy := ah f_.out 2; have Yz := ah f_.out 3; have YA := ah f_.out 4; have YB := ah f_.out 5; have YC := ah f_.out 6) | ((with_reducible refine aA (N := 10) rfl ?_); (try (refine gW (by rfl) ?_; dsimp only)); refine Kd.Bd k26 _ 26 ?hg (N' := 10) ?hd (xs := ([(⟨az, (⟨aI, aC, aH, bu⟩ : dW), bC, aK⟩ : ai)] : List (ai))) (inner := [.int .u8 az, .int .i64 aI, .int .i64 aC, .int .i64 aH, .int .i64 bu, .int .i64 bC, .slice dP aK.length dQ]) (ok := (fun k_ => (gV k_ ∨ w.heap.size ≤ k_) ∧ k_ ≠ nP)) (gz := (fun k_ => (gV k_ ∨ w.heap.size ≤ k_) ∧ k_ ≠ nP)) ?hr ?hp (fun _ hk => hk) ((show ∀ k_, w8.heap.size ≤ k_ → (fun k_ => (gV k_ ∨ w.heap.size ≤ k_) ∧ k_ ≠ nP) k_ from fun k_ hk => ⟨(.inr (Nat.le_trans (dE (by repeat ((with_reducible exact HB.out)))) hk)), Kd.zQ f_.out k_ hk⟩) _ (Nat.le_refl _)) (Below.refl _ _) (Nat.le_refl _) (by simp) ?_; (case hd => rfl); (case hg => rfl); (case hr => (go_simp; done)); (case hp => exact (dC.c7 (show Kd.FK k26 _ _ (⟨az, (⟨aI, aC, aH, bu⟩ : dW), bC, aK⟩ : ai) [.int .u8 az, .int .i64 aI, .int .i64 aC, .int .i64 aH, .int .i64 bu, .int .i64 bC, .slice dP aK.length dQ] from (pY _ _ (⟨az, (⟨aI, aC, aH, bu⟩ : dW), bC, aK⟩ : ai) (Kd.lF (Kd.iw (ok' := (fun k_ => (gV k_ ∨ w.heap.size ≤ k_) ∧ k_ ≠ nP)) (kJ.out) (fun k_ hk => ⟨hk.1, hk.2⟩))).2.1 (Kd.Xv (Kd.iw (ok' := (fun k_ => (gV k_ ∨ w.heap.size ≤ k_) ∧ k_ ≠ nP)) (kJ.out) (fun k_ hk => ⟨hk.1, hk.2⟩))))) (dC.none _ _))); intro arY w10 VV hb pG jZ; clear pG jZ; (rw [← akl.out] at VV); have J3 := ae.mk (Kd.vU VV (dE (by repeat ((with_reducible exact HB.out))))); replace kJ := ae.mk (Kd.yO kJ.out (Kd.uY VV) hb); replace f_ := ae.mk (aW f_.out hb); replace HB := ae.mk (au (by repeat ((with_reducible exact HB.out))) hb); clear hb VV; obtain ⟨ard, ary, am5⟩ := Kd.jO J3.out; subst am5) | (go_at_call 26; (with_reducible refine (nJ.calls _ _ ajR zn _ ?nH ?rJ A7.out).mono ?_); (case nH => repeat (exact (Kd.jw J3.out).2.2)); (case rJ => exact (Kd.jw J3.out).2.1); rintro e uU ⟨rfl, hb⟩; replace kJ := ae.mk (Kd.kH kJ.out hb); replace J3 := ae.mk (Kd.pX J3.out hb); replace f_ := ae.mk (aW f_.out hb); replace HB := ae.mk (au (by repeat ((with_reducible exact HB.out))) hb); (try clear hb)))
   go_meet
   case rel => exact ⟨_, (!zn), (by rfl), H', ⟨by omega⟩, ⟨by exact Kd.iw kJ.out (fun _ hk => ⟨hk.1.1, hk.1.2⟩)⟩, ⟨by exact f_.out⟩, ⟨by repeat ((with_reducible exact HB.out))⟩⟩
  ·replace c6 := Bool.eq_false_iff.mpr c6
   subst c6
   have H1 : (dK.j0 k a1 true az aI aC aH bu bC aK) = some r := by rw [if_neg (show ¬ (false = true) by decide)] at H; exact H
   clear H
   have H := H1
   clear H1
   have H' := ae.mk H
   clear H
   go_wp2_with (((with_reducible refine jF (f := 54) rfl ?_); refine mf (some 6) rfl rfl Tryz.func54 (by kernel_rfl) rfl #[.int .u8 a1] rfl (by (try simp only [List.map_toArray, List.map_cons, List.map_nil]); rfl) ?_; (with_reducible refine (mG.calls a1 false _ A5.out).mono ?_); rintro e w14 ⟨rfl, hb⟩; refine ⟨_, rfl, ?_⟩; replace kJ := ae.mk (Kd.kH kJ.out hb); replace f_ := ae.mk (aW f_.out hb); replace HB := ae.mk (au (by repeat ((with_reducible exact HB.out))) hb); (try clear hb)))
   go_meet
   case rel => exact ⟨_, (true), (by rfl), H', ⟨by omega⟩, ⟨by exact kJ.out⟩, ⟨by exact f_.out⟩, ⟨by repeat ((with_reducible exact HB.out))⟩⟩
 case rest =>
  clear PU
  obtain ⟨kq, Bi, rfl, HA, HJ2, qW, f_, HB⟩ := hcut
  cases kq with
  | zero => exact absurd HA.out (by simp [dK.j0])
  | succ kj2 =>
   have H := HA.out
   clear HA
   simp only [dK.j0] at H
   by_cases c15 : Bi = true
   ·subst c15
    have H1 : (some 0) = some r := by rw [if_pos rfl] at H; exact H
    clear H
    have H := H1
    clear H1
    obtain rfl := Option.some.inj H
    go_wp2
    go_ret
    exact ⟨by rfl, by repeat ((with_reducible exact HB.out))⟩
   ·replace c15 := Bool.eq_false_iff.mpr c15
    subst c15
    have H1 : ((ru.f aI aC aH bu a1).bind fun JH => ((m_.f kj2 az aI aC aH bu bC aK a1).bind fun Hl => (some (wrap64 (JH - Hl))))) = some r := by rw [if_neg (show ¬ (false = true) by decide)] at H; exact H
    clear H
    have H := H1
    clear H1
    replace H := Option.bind_eq_some_iff.mp H
    obtain ⟨JH, F6, H⟩ := H
    replace H : ((m_.f kj2 az aI aC aH bu bC aK a1).bind fun Hl => (some (wrap64 (JH - Hl)))) = some r := H
    have WX := ae.mk F6
    clear F6
    replace H := Option.bind_eq_some_iff.mp H
    obtain ⟨Hl, af8, H⟩ := H
    replace H : (some (wrap64 (JH - Hl))) = some r := H
    have WY := ae.mk af8
    clear af8
    obtain rfl := Option.some.inj H
    try go_wp2
    replace qW := ae.mk (Kd.Ko qW.out); replace f_ := ae.mk (fD f_.out); replace HB := ae.mk (bF HB.out)
    refine jT (n := 9) (S := fun w' => w'.cell? ⟨nP, 0, none⟩ = some (.int .u8 az) ∧ w'.cell? ⟨nP, 1, none⟩ = some (.int .i64 aI) ∧ w'.cell? ⟨nP, 2, none⟩ = some (.int .i64 aC) ∧ w'.cell? ⟨nP, 3, none⟩ = some (.int .i64 aH) ∧ w'.cell? ⟨nP, 4, none⟩ = some (.int .i64 bu) ∧ w'.cell? ⟨nP, 5, none⟩ = some (.int .i64 bC) ∧ w'.cell? ⟨nP, 6, none⟩ = some (.slice dP aK.length dQ)) (ds := []) #[false, false, false, false, false, false, false, false, false] (by kernel_rfl) rfl rfl ⟨(af f_.out 0).trans rfl, (af f_.out 1).trans rfl, (af f_.out 2).trans rfl, (af f_.out 3).trans rfl, (af f_.out 4).trans rfl, (af f_.out 5).trans rfl, (af f_.out 6).trans rfl⟩ (fun hHeld => ?_); refine gG dK.Ho dK.Dk (fun ak fC => ?_)
    generalize wc.drew = O_ at qW f_ HB hHeld ⊢
    refine uS (i := 0) (N := some 14) (v := ?_) (a' := ?_) #[true, false, false, false, false, false, false, false, false] rfl rfl (qZ ak.out (by kernel_rfl)) (fun _ _ _ h => h) (Or.inl ⟨by rfl, ?_⟩) ?_ ?_
    rotate_left
    ·intro w'
     go_simp
     with_reducible rfl
    rotate_left
    ·simp only [Act.put, List.setIfInBounds_toArray, List.set_cons_zero, List.set_cons_succ, lD, lC]
     rfl
    refine uS (i := 2) (N := some 16) (v := ?_) (a' := ?_) #[true, false, true, false, false, false, false, false, false] rfl rfl (qZ ak.out (by kernel_rfl)) (fun _ _ _ h => h) (Or.inl ⟨by rfl, ?_⟩) ?_ ?_
    rotate_left
    ·intro w'
     go_simp
     with_reducible rfl
    rotate_left
    ·simp only [Act.put, List.setIfInBounds_toArray, List.set_cons_zero, List.set_cons_succ, lD, lC]
     rfl
    refine uS (i := 5) (N := some 19) (v := ?_) (a' := ?_) #[true, false, true, false, false, true, false, false, false] rfl rfl (qZ ak.out (by kernel_rfl)) (fun _ _ _ h => h) (Or.inl ⟨by rfl, ?_⟩) ?_ ?_
    rotate_left
    ·intro w'
     go_simp
     with_reducible rfl
    rotate_left
    ·simp only [Act.put, List.setIfInBounds_toArray, List.set_cons_zero, List.set_cons_succ, lD, lC]
     rfl
    refine Bg (i := 1) (N := some 15) (v := ?_) (a' := ?_) #[true, true, true, false, false, true, false, false, false] rfl rfl (xE ak.out fC.out (by kernel_rfl)) (fun _ _ _ h => h) (Or.inl ⟨by rfl, ?_⟩) hHeld ?_ ?_
    rotate_left
    ·rintro w' ⟨s0, s1, s2, s3, s4, s5, s6⟩
     go_simp
     with_reducible rfl
    rotate_left
    ·simp only [Act.put, List.setIfInBounds_toArray, List.set_cons_zero, List.set_cons_succ, lD, lC]
     rfl
    refine Bg (i := 4) (N := some 18) (v := ?_) (a' := ?_) #[true, true, true, false, true, true, false, false, false] rfl rfl (xE ak.out fC.out (by kernel_rfl)) (fun _ _ _ h => h) (Or.inl ⟨by rfl, ?_⟩) hHeld ?_ ?_
    rotate_left
    ·rintro w' ⟨s0, s1, s2, s3, s4, s5, s6⟩
     go_simp
     with_reducible rfl
    rotate_left
    ·simp only [Act.put, List.setIfInBounds_toArray, List.set_cons_zero, List.set_cons_succ, lD, lC]
     rfl
    refine SK (i := 3) (N := some 17) #[true, true, true, true, true, true, false, false, false] rfl rfl (zU ak.out (by kernel_rfl)) (by decide) (fun K hK => ?_)
    refine fO Tryz.func17 (by kernel_rfl) rfl #[.agg #[.int .i64 aI, .int .i64 aC, .int .i64 aH, .int .i64 bu], .int .u8 a1] (by rfl) rfl rfl (by (try simp only [List.map_toArray, List.map_cons, List.map_nil]); rfl) ?_
    with_reducible refine (ru.calls aI aC aH bu a1 JH _ WX.out).mono ?_
    rintro e I4 ⟨rfl, hb⟩
    refine ⟨_, rfl, ?_⟩
    replace qW := ae.mk (Kd.kH qW.out hb); replace f_ := ae.mk (aW f_.out hb); replace HB := ae.mk (au (by repeat ((with_reducible exact HB.out))) hb)
    (try clear hb)
    (skip)
    (skip)
    (skip)
    refine hK.out _ _ ⟨(af f_.out 0).trans rfl, (af f_.out 1).trans rfl, (af f_.out 2).trans rfl, (af f_.out 3).trans rfl, (af f_.out 4).trans rfl, (af f_.out 5).trans rfl, (af f_.out 6).trans rfl⟩ (fun hHeld => ?_)
    clear hK K
    refine oI (a' := ?_) ?_ ?_
    rotate_left
    ·show Act.put _ (some 17) _ = _
     simp only [Act.put, List.setIfInBounds_toArray, List.set_cons_zero, List.set_cons_succ, lD, lC]
     rfl
    refine SK (i := 6) (N := some 20) #[true, true, true, true, true, true, true, false, false] rfl rfl (zU ak.out (by kernel_rfl)) (by decide) (fun K hK => ?_)
    refine fO Tryz.func55 (by kernel_rfl) rfl #[.agg #[.int .u8 az, .int .i64 aI, .int .i64 aC, .int .i64 aH, .int .i64 bu, .int .i64 bC, .slice dP aK.length dQ], .int .u8 a1] (by rfl) rfl rfl (by (try simp only [List.map_toArray, List.map_cons, List.map_nil]); rfl) ?_
    with_reducible refine (m_.calls kj2 az aI aC aH bu bC _ _ aK a1 Hl _ ?nH ?rJ WY.out).mono ?_
    (case nH => repeat (exact (Kd.lF qW.out).2.2))
    (case rJ => exact (Kd.lF qW.out).2.1)
    rintro e w20 ⟨rfl, hb⟩
    refine ⟨_, rfl, ?_⟩
    replace qW := ae.mk (Kd.kH qW.out hb); replace f_ := ae.mk (aW f_.out hb); replace HB := ae.mk (au (by repeat ((with_reducible exact HB.out))) hb)
    (try clear hb)
    (skip)
    (skip)
    (skip)
    refine hK.out _ _ ⟨(af f_.out 0).trans rfl, (af f_.out 1).trans rfl, (af f_.out 2).trans rfl, (af f_.out 3).trans rfl, (af f_.out 4).trans rfl, (af f_.out 5).trans rfl, (af f_.out 6).trans rfl⟩ (fun hHeld => ?_)
    clear hK K
    refine oI (a' := ?_) ?_ ?_
    rotate_left
    ·show Act.put _ (some 20) _ = _
     simp only [Act.put, List.setIfInBounds_toArray, List.set_cons_zero, List.set_cons_succ, lD, lC]
     rfl
    refine uS (i := 7) (N := some 21) (v := ?_) (a' := ?_) #[true, true, true, true, true, true, true, true, false] rfl rfl (qZ ak.out (by kernel_rfl)) (fun _ _ _ h => h) (Or.inl ⟨by rfl, ?_⟩) ?_ ?_
    rotate_left
    ·intro w'
     go_simp
     with_reducible rfl
    rotate_left
    ·simp only [Act.put, List.setIfInBounds_toArray, List.set_cons_zero, List.set_cons_succ, lD, lC]
     rfl
    refine uS (i := 8) (N := some 4) (v := ?_) (a' := ?_) #[true, true, true, true, true, true, true, true, true] rfl rfl (qZ ak.out (by kernel_rfl)) (fun _ _ _ h => h) (Or.inl ⟨by rfl, ?_⟩) ?_ ?_
    rotate_left
    ·intro w'
     go_simp
     with_reducible rfl
    rotate_left
    ·simp only [Act.put, List.setIfInBounds_toArray, List.set_cons_zero, List.set_cons_succ, lD, lC]
     rfl
    refine lJ (jc ak.out (by kernel_rfl)) ?_
    try go_wp2
    go_ret
    exact ⟨by rfl, by repeat ((with_reducible exact HB.out))⟩
def tH.f (az : Int) (aI : Int) (aC : Int) (aH : Int) (a1 : Int) : Option (Int) := if a1 = 1 then (some aC) else (if a1 = 2 then (some aH) else (some 0))
theorem tH.calls (az : Int) (aI : Int) (aC : Int) (aH : Int) (a1 : Int) (r : Int) (w : World) (h : tH.f az aI aC aH a1 = some r) :
  Calls Tryz.prog 42 #[.agg #[.int .i64 az, .int .i64 aI, .int .i64 aC, .int .i64 aH], .int .u8 a1] w fun e w' => e = .returned (.int .i64 r) ∧ Below w.heap.size w w' := by
 have Sj := Tryz.underlying23
 have HB := ae.mk (Below.refl w.heap.size w)
 have H : (if a1 = 1 then (some aC) else (if a1 = 2 then (some aH) else (some 0))) = some r := h
 clear h
 by_cases c3 : a1 = 1
 ·rw [if_pos c3] at H
  have sU : (a1 == 1) = true := beq_iff_eq.mpr c3
  have BG : (a1 != 1) = false := bne_eq_false_iff_eq.mpr c3
  clear c3
  obtain rfl := Option.some.inj H
  go_enter Tryz.func42, Tryz.ntmps42
  go_wp2_with (((with_reducible refine aA (N := 2) rfl ?_); refine aV ?hg (N := 2) ?hd (cs := #[.int .i64 az, .int .i64 aI, .int .i64 aC, .int .i64 aH]) (t := 23) ?hr ?_; (case hd => rfl); (case hg => rfl); (case hr => (go_simp; done)); intro zA hg w4 hbox hb; have qC := ae.mk (hbox); replace HB := ae.mk (au (by repeat ((with_reducible exact HB.out))) hb); clear hb hbox hg; have aic : w4.cell? ⟨zA, 0, none⟩ = some (.int .i64 az) := (af qC.out 0).trans rfl; have aid : w4.cell? ⟨zA, 1, none⟩ = some (.int .i64 aI) := (af qC.out 1).trans rfl; have aie : w4.cell? ⟨zA, 2, none⟩ = some (.int .i64 aC) := (af qC.out 2).trans rfl; have aif : w4.cell? ⟨zA, 3, none⟩ = some (.int .i64 aH) := (af qC.out 3).trans rfl; have aiq := ah qC.out 0; have air := ah qC.out 1; have ais := ah qC.out 2; have ait := ah qC.out 3))
  go_ret
  exact ⟨by rfl, by repeat ((with_reducible exact HB.out))⟩
 ·rw [if_neg c3] at H
  have sU : (a1 == 1) = false := beq_eq_false_iff_ne.mpr c3
  have BG : (a1 != 1) = true := bne_iff_ne.mpr c3
  by_cases c6 : a1 = 2
  ·rw [if_pos c6] at H
   have BH : (a1 == 2) = true := beq_iff_eq.mpr c6
   have QE : (a1 != 2) = false := bne_eq_false_iff_eq.mpr c6
   clear c6
   obtain rfl := Option.some.inj H
   go_enter Tryz.func42, Tryz.ntmps42
   go_wp2_with (((with_reducible refine aA (N := 2) rfl ?_); refine aV ?hg (N := 2) ?hd (cs := #[.int .i64 az, .int .i64 aI, .int .i64 aC, .int .i64 aH]) (t := 23) ?hr ?_; (case hd => rfl); (case hg => rfl); (case hr => (go_simp; done)); intro zA hg w7 hbox hb; have qC := ae.mk (hbox); replace HB := ae.mk (au (by repeat ((with_reducible exact HB.out))) hb); clear hb hbox hg; have X_ : w7.cell? ⟨zA, 0, none⟩ = some (.int .i64 az) := (af qC.out 0).trans rfl; have Ya : w7.cell? ⟨zA, 1, none⟩ = some (.int .i64 aI) := (af qC.out 1).trans rfl; have Yb : w7.cell? ⟨zA, 2, none⟩ = some (.int .i64 aC) := (af qC.out 2).trans rfl; have Yc : w7.cell? ⟨zA, 3, none⟩ = some (.int .i64 aH) := (af qC.out 3).trans rfl; have Yr := ah qC.out 0; have Yt := ah qC.out 1; have Yu := ah qC.out 2; have Yv := ah qC.out 3))
   go_ret
   exact ⟨by rfl, by repeat ((with_reducible exact HB.out))⟩
  ·rw [if_neg c6] at H
   have BH : (a1 == 2) = false := beq_eq_false_iff_ne.mpr c6
   have QE : (a1 != 2) = true := bne_iff_ne.mpr c6
   obtain rfl := Option.some.inj H
   go_enter Tryz.func42, Tryz.ntmps42
   go_wp2_with (((with_reducible refine aA (N := 2) rfl ?_); refine aV ?hg (N := 2) ?hd (cs := #[.int .i64 az, .int .i64 aI, .int .i64 aC, .int .i64 aH]) (t := 23) ?hr ?_; (case hd => rfl); (case hg => rfl); (case hr => (go_simp; done)); intro zA hg w9 hbox hb; have qC := ae.mk (hbox); replace HB := ae.mk (au (by repeat ((with_reducible exact HB.out))) hb); clear hb hbox hg))
   go_ret
   exact ⟨by rfl, by repeat ((with_reducible exact HB.out))⟩
end Go.Proofs.YtfdmfgaiblfbhaaGreat.P
namespace Go.Proofs.YtfdmfgaiblfbhaaGreat.P
open Go.RowKit Go.Proofs.ag.aU Go.Proofs.ag.bK Go.Proofs.ag.cO
theorem Ev.unique {α : Type} {g : Nat → Option α} {a b : α} (h : Ev g a) (k : Ev g b) : a = b := by
 obtain ⟨n, hn⟩ := h
 obtain ⟨m, hm⟩ := k
 have e := (hn (max n m) (by omega)).symm.trans (hm (max n m) (by omega))
 exact Option.some.inj e
theorem WC (r : dW) (ax : Int) : tH.f r.f0 r.f1 r.f2 r.f3 ax = some (aQ ax r) := by
 unfold tH.f aQ
 split
 ·rfl
 ·split <;> rfl
theorem IY (c : ai) (hz : sz c ≤ 1048576) : nJ.f ([(⟨c.f0, (⟨c.f1.f0, c.f1.f1, c.f1.f2, c.f1.f3⟩ : dW), c.f2, c.f3⟩ : ai)] : List ai) = some (dF c) := by
 rw [Ik]
 unfold nJ.f
 rw [if_pos (by simp [hz])]
 simp
theorem oL {c : ai} (h : mZ c = true) : (fU c).all mg = true := by
 unfold mZ at h
 simp only [Bool.and_eq_true] at h
 exact h.2.1
theorem kR {c : ai} (h : dF c = true) : mZ c = true := by
 unfold dF at h
 simp only [Bool.and_eq_true] at h
 exact h.1
noncomputable def dI (ax : Int) (c : ai) : Int := if (ax = 1 ∨ ax = 2) ∧ dF c = true then wrap64 (aQ ax c.f1 - dG ax c) else 0
theorem aaD (c : ai) (hz : sz c ≤ 1048576) (ax : Int) : Ev (fun k => dK.f k c.f0 c.f1.f0 c.f1.f1 c.f1.f2 c.f1.f3 c.f2 c.f3 ax) (dI ax c) := by
 have no : Ev (fun k => dK.j0 k ax true c.f0 c.f1.f0 c.f1.f1 c.f1.f2 c.f1.f3 c.f2 c.f3) 0 := by
  refine Ev.step (f := fun _ => some 0) (fun k => ?_) (Ev.now _)
  simp only [dK.j0]
  rw [if_pos trivial]
 unfold dI
 by_cases hax : ax = 1 ∨ ax = 2
 ·have ha : mG.f ax = some true := by
   unfold mG.f
   rcases hax with rfl | rfl <;> rfl
  cases ht : dF c with
  | false =>
   rw [if_neg (by simp)]
   refine Ev.congr (f := fun k => dK.j0 k ax true c.f0 c.f1.f0 c.f1.f1 c.f1.f2 c.f1.f3 c.f2 c.f3) (fun k => ?_) no
   unfold dK.f
   rw [ha]
   simp only [Option.bind_some, if_true]
   rw [IY c hz, ht]
   rfl
  | true =>
   rw [if_pos ⟨hax, rfl⟩]
   refine Ev.congr (f := fun k => dK.j0 k ax false c.f0 c.f1.f0 c.f1.f1 c.f1.f2 c.f1.f3 c.f2 c.f3) (fun k => ?_) (Ev.step (f := fun k => (m_.f k c.f0 c.f1.f0 c.f1.f1 c.f1.f2 c.f1.f3 c.f2 c.f3 ax).bind fun t => some (wrap64 (aQ ax c.f1 - t))) (fun k => ?_) (Ev.bind (aa5 ax (sz c) c (Nat.le_refl _) hz) (Ev.now _)))
   ·unfold dK.f
    rw [ha]
    simp only [Option.bind_some, if_true]
    rw [IY c hz, ht]
    rfl
   ·simp only [dK.j0]
    rw [if_neg (by simp), O7 c.f1 ax]
    rfl
 ·rw [if_neg (fun h => hax h.1)]
  refine Ev.congr (f := fun k => dK.j0 k ax true c.f0 c.f1.f0 c.f1.f1 c.f1.f2 c.f1.f3 c.f2 c.f3) (fun k => ?_) no
  unfold dK.f mG.f
  rw [if_neg (fun h => hax (.inl h)), show (ax == 2) = false from by simp; exact fun h => hax (.inr h)]
  simp only [Option.bind_some, Bool.false_eq_true, if_false]
theorem Bz {l : List ai} {k : ai} (h : k ∈ l) : sz k ≤ dY l := by
 obtain ⟨p, q, e⟩ := List.append_of_mem h
 rw [e, l7, bH]; omega
noncomputable def oP (b : Int) (gs : List Int) : List Int × Bool := by
 classical
 exact if h : ∃ r, Ev (fun k => bW.f k b gs) r then Classical.choose h else ([], false)
theorem zY (b : Int) (gs : List Int) (hl : gs.length ≤ 100000) (h0 : -2147483647 ≤ b) (h1 : b ≤ 2147483647) : EI b gs (oP b gs) ∧ Ev (fun k => bW.f k b gs) (oP b gs) := by
 obtain ⟨r, hs, he⟩ := Zq b gs hl h0 h1
 have hx : ∃ r, Ev (fun k => bW.f k b gs) r := ⟨r, he⟩
 have e : oP b gs = r := by
  unfold oP
  rw [dif_pos hx]
  exact Ev.unique (Classical.choose_spec hx) he
 rw [e]
 exact ⟨hs, he⟩
theorem Ve {b : Int} {gs : List Int} (hl : gs.length ≤ 100000) (h0 : -2147483647 ≤ b) (h1 : b ≤ 2147483647) (h : (oP b gs).2 = true) : (oP b gs).1.length = gs.length := by
 rcases (zY b gs hl h0 h1).1 with ⟨e, _⟩ | ⟨e, _⟩ | ⟨qs, e, _, _, hq, _⟩
 ·rw [e] at h; cases h
 ·rw [e]; exact vI _ _
 ·rw [e, ← hq]; simp
theorem Zr {b : Int} {gs : List Int} (hl : gs.length ≤ 100000) (h0 : -2147483647 ≤ b) (h1 : b ≤ 2147483647) : ∀ x, x ∈ (oP b gs).1 → -2147483647 ≤ x ∧ x ≤ 2147483647 := by
 intro x hx
 rcases (zY b gs hl h0 h1).1 with ⟨e, _⟩ | ⟨e, hne, _, hb⟩ | ⟨qs, e, _, _, hq, hg, _⟩
 ·rw [e] at hx; cases hx
 ·rw [e] at hx
  simp only [moreL, List.mem_map, List.mem_range] at hx
  obtain ⟨i, hi, rfl⟩ := hx
  have hn : (0 : Int) < (gs.length : Int) := by have := List.length_pos_iff.2 hne; omega
  unfold lS
  have hd : 0 ≤ b / (gs.length : Int) := Int.ediv_nonneg hb (by omega)
  have hm : 0 ≤ b % (gs.length : Int) := Int.emod_nonneg _ (by omega)
  have hdm := Int.mul_ediv_add_emod b (gs.length : Int)
  have hle : b / (gs.length : Int) ≤ (gs.length : Int) * (b / (gs.length : Int)) := by
   have := Int.mul_le_mul_of_nonneg_right (show (1 : Int) ≤ (gs.length : Int) by omega) hd
   omega
  split <;> omega
 ·rw [e] at hx
  simp only [List.mem_map] at hx
  obtain ⟨p, hp, rfl⟩ := hx
  have := hg p hp
  omega
def grow (ax bV : Int) (r : dW) : dW := ⟨r.f0, r.f1, if ax = 1 then wrap64 (r.f2 + bV) else r.f2, if ax = 1 then r.f3 else wrap64 (r.f3 + bV)⟩
noncomputable def IU (ax k : Int) (l : List ai) (bV : Int) (i : Nat) : Int := if (oP bV (l.map (dI ax))).2 = true ∧ iF ax k = true then rd (oP bV (l.map (dI ax))).1 (i : Int) else bV
mutual
noncomputable def eH (ax : Int) : ai → Int → ai
 | ⟨k, r, id, l⟩, b => ⟨k, grow ax b r, id, kL ax l (IU ax k l b) 0⟩
noncomputable def kL (ax : Int) : List ai → (Nat → Int) → Nat → List ai
 | [], _, _ => []
 | k :: ks, ns, i => eH ax k (ns i) :: kL ax ks ns (i + 1)
end
theorem yP (ax : Int) (c : ai) (b : Int) : eH ax c b = ⟨c.f0, grow ax b c.f1, c.f2, kL ax c.f3 (IU ax c.f0 c.f3 b) 0⟩ := by cases c; simp [eH]
theorem rQ (ax : Int) (ns : Nat → Int) (i : Nat) : kL ax [] ns i = [] := by simp [kL]
theorem xN (ax : Int) (k : ai) (ks : List ai) (ns : Nat → Int) (i : Nat) : kL ax (k :: ks) ns i = eH ax k (ns i) :: kL ax ks ns (i + 1) := by simp [kL]
theorem yQ (ax : Int) : ∀ (l : List ai) (ns : Nat → Int) (i : Nat), (kL ax l ns i).length = l.length := by
 intro l
 induction l with
 | nil => intro ns i; rw [rQ]
 | cons k ks ih => intro ns i; rw [xN, List.length_cons, List.length_cons, ih]
theorem OB (ax : Int) (k : ai) : ∀ (l : List ai) (ns : Nat → Int) (i : Nat), kL ax (l ++ [k]) ns i = kL ax l ns i ++ [eH ax k (ns (i + l.length))] := by
 intro l
 induction l with
 | nil => intro ns i; simp [kL]
 | cons x xs ih => intro ns i; rw [List.cons_append, xN, xN, ih, List.cons_append, List.length_cons, show i + 1 + xs.length = i + (xs.length + 1) by omega]
theorem adh (ax : Int) (ns : Nat → Int) (pre : List ai) (k : ai) (rest : List ai) : (kL ax pre ns 0 ++ k :: rest).set pre.length (eH ax k (ns pre.length)) = kL ax (pre ++ [k]) ns 0 ++ rest := by
 rw [OB, List.append_assoc, List.set_append_right _ _ (by rw [yQ]; exact Nat.le_refl _), yQ, Nat.sub_self, List.set_cons_zero, Nat.zero_add]
 rfl
theorem ag4 (ax : Int) (ns : Nat → Int) (pre : List ai) (k : ai) (rest : List ai) : aj (kL ax pre ns 0 ++ k :: rest) (pre.length : Int) = k := by
 have := jd (kL ax pre ns 0) k rest
 rw [yQ] at this
 exact this
theorem Qs (ax : Int) : ∀ (N : Nat), (∀ c : ai, sz c ≤ N → ∀ b, sz (eH ax c b) = sz c) ∧ (∀ l : List ai, dY l ≤ N → ∀ ns i, dY (kL ax l ns i) = dY l) := by
 intro N
 induction N with
 | zero => exact ⟨fun c h => by rw [bJ] at h; omega, fun l h ns i => by cases l with
  | nil => rw [rQ]
  | cons x xs => rw [bH] at h; have := bJ x; omega⟩
 | succ N ih =>
  have hC : ∀ c : ai, sz c ≤ N + 1 → ∀ b, sz (eH ax c b) = sz c := fun c h b => by
   rw [yP, bJ, bJ c]
   show 1 + dY (kL ax c.f3 _ 0) = _
   rw [ih.2 c.f3 (by rw [bJ] at h; omega)]
  refine ⟨hC, fun l => ?_⟩
  induction l with
  | nil => intro _ ns i; rw [rQ]
  | cons x xs ihl =>
   intro h ns i
   rw [xN, bH, bH]
   rw [bH] at h
   rw [hC x (by omega), ihl (by omega)]
def sS.f (l0 : List (ai)) : Option (List ai) := if l0.length ≤ 1000000 then some l0 else none
theorem sS.calls (Xq : Nat → Prop) (A0 : Option Addr) (c0 : Nat) (l0 : List (ai)) (r : List ai) (w : World) (hs0 : Kd.V k26 26 w w.heap.size (fun k_ => Xq k_) (.slice A0 l0.length c0) l0) (h : sS.f l0 = some r) :
  Calls Tryz.prog 35 #[.slice A0 l0.length c0] w fun e w' => ∃ rP : Value, e = .returned (rP) ∧ Kd.N k26 26 w' w.heap.size (fun k_ => (Xq k_ ∨ w.heap.size ≤ k_)) rP r ∧ Below w.heap.size w w' := by
 unfold sS.f at h
 split at h
 ·rename_i hl
  injection h with h
  subst h
  have HR := ae.mk (Kd.Xv hs0)
  have HL := ae.mk hl
  clear hl
  cases A0 with
  | none =>
   have heq : ∀ W : World, (binOp .eql 24 (.slice none l0.length c0) (.slice none 0 0)).run Tryz.prog W = .ok (.bool true) W := fun W => Lib.run_eql_slice_nil W 24 26 none l0.length c0 0 0 Tryz.underlying24
   have e0 : l0 = [] := by
    cases l0 with
    | nil => rfl
    | cons x xs =>
     obtain ⟨ad, h1, _⟩ := (Kd.JQ HR.out).2.2 (by simp)
     cases h1
   have E0 := ae.mk e0
   clear hs0 e0
   go_enter Tryz.func35, Tryz.ntmps35
   go_wp2
   go_ret
   exact ⟨_, rfl, by rw [E0.out]; exact Kd.pI _ _ _ _ _, Below.refl _ _⟩
  | some ad =>
   have heq : ∀ W : World, (binOp .eql 24 (.slice (some ad) l0.length c0) (.slice none 0 0)).run Tryz.prog W = .ok (.bool false) W := fun W => Lib.run_eql_slice_nil W 24 26 (some ad) l0.length c0 0 0 Tryz.underlying24
   clear hs0
   go_enter Tryz.func35, Tryz.ntmps35
   go_wp2_with (first | ((with_reducible refine aA (N := 5) rfl ?_); refine Kd.Bd k26 w.heap.size 26 ?hg (N' := 5) ?hd (xs := ([] : List ai)) (inner := []) (ok := fun k_ => (Xq k_ ∨ w.heap.size ≤ k_)) (gz := fun _ => False) ?hr ?hp (fun _ hk => hk.elim) (.inr (Nat.le_refl _)) (Below.refl _ _) (Nat.le_refl _) (by simp) ?_; (case hd => rfl); (case hg => rfl); (case hr => first | (go_simp; done) | (go_simp; rfl)); (case hp => exact dC.none _ _); intro v5 w5 ho hb pG jZ; clear pG; have HO := ae.mk ho; have HB := ae.mk hb; have HF := ae.mk (Kd.uo (Kd.PS (v := v5) HR.out (fun k hk => by obtain ⟨b, h1, h2⟩ := jZ; rw [h1] at hk; cases hk; exact h2) hb) (fun k hk => hk)); clear ho hb jZ; obtain ⟨Ao, co, eo⟩ := Kd.jO HO.out; subst eo) | ((with_reducible refine oJ (b := .append) (xs := #[.tmp 5, .tmp 6]) rfl ?_); at_builtin; refine Kd.FP k26 (w0 := w) w.heap.size rfl (.tmp 5) (.tmp 6) 24 26 (.agg #[(.int .u8 0), (.int .i64 0), (.int .i64 0), (.int .i64 0), (.int .i64 0), (.int .i64 0), (.slice none 0 0)]) 72 rfl Tryz.underlying24 info26 rfl (by decide) (by omega) (.slice Ao ([] : List ai).length co) [] l0 _ _ _ (fun k_ => (Xq k_ ∨ w.heap.size ≤ k_)) (fun k_ => Xq k_ ∧ some k_ ≠ (Value.slice Ao ([] : List ai).length co).ownBlock) rfl rfl ?aO ?aR (fun _ h => ⟨.inl h.1, h.2⟩) (fun k hk => .inr (Nat.le_trans (dE HB.out) hk)) ?aB ?aS ?aL ?_; (case aO => exact HO.out); (case aR => exact HF.out); (case aB => exact HB.out); (case aS => exact dE HB.out); (case aL => (have := HL.out; simp only [List.length_nil]; omega)); intro v7 w7 h1 h2 h3_ h4_; clear h3_ h4_; have HO7 := ae.mk h1; have HB7 := ae.mk h2; clear h1 h2 HO HB HF))
   go_wp2
   go_ret
   exact ⟨_, rfl, HO7.out, HB7.out⟩
 ·exact absurd h (by simp)
def xB (a : Int) (k : ai) (x : Int) : Int := if a = 2 then wrap64 (x + wrap64 (k.f1.f2 + 1)) else x
def xC (a : Int) (k : ai) (y : Int) : Int := if a = 2 then y else if a = 3 then wrap64 (y + wrap64 (k.f1.f3 + 1)) else y
mutual
def bU : ai → Int → Int → ai
 | ⟨a, b, d, l⟩, x, y => ⟨a, ⟨x, y, b.f2, b.f3⟩, d, lg a l x y⟩
def lg : Int → List ai → Int → Int → List ai
 | _, [], _, _ => []
 | a, k :: ks, x, y => bU k x y :: lg a ks (xB a k x) (xC a k y)
end
theorem ou (c : ai) (x y : Int) : bU c x y = ⟨c.f0, ⟨x, y, c.f1.f2, c.f1.f3⟩, c.f2, lg c.f0 c.f3 x y⟩ := by cases c; simp [bU]
theorem nG (a x y : Int) : lg a [] x y = [] := by simp [lg]
theorem rH (a : Int) (k : ai) (ks : List ai) (x y : Int) : lg a (k :: ks) x y = bU k x y :: lg a ks (xB a k x) (xC a k y) := by simp [lg]
def pU (a : Int) (l : List ai) (x : Int) : Int := l.foldl (fun x k => xB a k x) x
def pV (a : Int) (l : List ai) (y : Int) : Int := l.foldl (fun y k => xC a k y) y
theorem DC (a : Int) (k : ai) : ∀ (l : List ai) (x y : Int), lg a (l ++ [k]) x y = lg a l x y ++ [bU k (pU a l x) (pV a l y)] := by
 intro l
 induction l with
 | nil => intro x y; rw [List.nil_append, rH, nG, nG]; rfl
 | cons z zs ih => intro x y; rw [List.cons_append, rH, rH, ih]; rfl
theorem wC (a : Int) (k : ai) (l : List ai) (x : Int) : pU a (l ++ [k]) x = xB a k (pU a l x) := by simp [pU]
theorem wE (a : Int) (k : ai) (l : List ai) (y : Int) : pV a (l ++ [k]) y = xC a k (pV a l y) := by simp [pV]
theorem nD (a : Int) : ∀ (l : List ai) (x y : Int), (lg a l x y).length = l.length := by
 intro l
 induction l with
 | nil => intro x y; rw [nG]
 | cons z zs ih => intro x y; rw [rH]; simp [ih]
theorem afv (a : Int) (pre : List ai) (k : ai) (rest : List ai) (x y : Int) : (lg a pre x y ++ k :: rest).set pre.length (bU k (pU a pre x) (pV a pre y)) = lg a (pre ++ [k]) x y ++ rest := by
 rw [DC, ← nD a pre x y, List.set_append_right _ _ (Nat.le_refl _), Nat.sub_self, List.set_cons_zero]
 simp
theorem Zo (a : Int) (pre : List ai) (k : ai) (rest : List ai) (x y : Int) : aj (lg a pre x y ++ k :: rest) (pre.length : Int) = k := by
 rw [← nD a pre x y]
 simp [aj, List.getD_eq_getElem?_getD]
def pJ.T6 : Bool × List (List Nat × List Nat) := (true, [([], []), ([0], [0]), ([], []), ([], []), ([], []), ([], []), ([3, 4, 5], [3, 4, 5]), ([1, 2, 0, 1, 2, 3, 4, 5, 6], [1, 2]), ([7, 6, 6, 0, 1, 2, 3, 4, 5, 6], [6, 7])])
def pJ.B6 : List Nat := [0, 1, 0, 0, 0, 0, 56, 127, 255]
theorem pJ.tab6 : je .any (opsOf Tryz.f16 6) = pJ.T6 := by kernel_rfl
theorem pJ.Dl : iM pJ.T6.2 pJ.B6 = true := by kernel_rfl
theorem alo : ∀ (N : Nat) (c : ai), sz c ≤ N → N ≤ 1000000 → ∀ (P : Nat → Prop) (A : Option Addr) (cc : Nat) (x y : Int) (w : World), Kd.V k26 26 w w.heap.size P (.slice A c.f3.length cc) c.f3 →
  Calls Tryz.prog 16 #[.agg #[.int .u8 c.f0, .int .i64 c.f1.f0, .int .i64 c.f1.f1, .int .i64 c.f1.f2, .int .i64 c.f1.f3, .int .i64 c.f2, .slice A c.f3.length cc], .int .i64 x, .int .i64 y] w
   fun e w' => ∃ v : Value, e = .returned (.agg #[.int .u8 c.f0, .int .i64 x, .int .i64 y, .int .i64 c.f1.f2, .int .i64 c.f1.f3, .int .i64 c.f2, v]) ∧ Kd.N k26 26 w' w.heap.size (fun k => P k ∨ w.heap.size ≤ k) v (lg c.f0 c.f3 x y) ∧ Below w.heap.size w w' := by
 intro N
 induction N with
 | zero => intro c h; rw [bJ] at h; omega
 | succ N ih =>
  intro c hc hN P A cc x y w hs
  have hsz := bJ c
  have hlen := jf c.f3
  have IH := ae.mk fun (k : ai) (hk : k ∈ c.f3) => ih k (by
   have : sz k ≤ dY c.f3 := by
    obtain ⟨p, q, e⟩ := List.append_of_mem hk
    rw [e, l7, bH]; omega
   omega) (by omega)
  have PT := ae.mk fun (W : World) (P' : Nat → Prop) (hV : Kd.V k26 26 W w.heap.size P' (.slice A c.f3.length cc) c.f3) => sS.calls P' A cc c.f3 c.f3 W hV (if_pos (by omega))
  have HO := ae.mk hs
  have HL := ae.mk (show c.f3.length ≤ 1000000 by omega)
  have HB := ae.mk (Below.refl w.heap.size w)
  clear ih hs hc hN hsz hlen
  obtain ⟨ck, ⟨cx, cy, cw, ch⟩, aJ, l⟩ := c
  simp only [] at HO HL IH PT ⊢
  go_enter Tryz.func16, Tryz.ntmps16
  go_upto_region 2 with (first | ((with_reducible refine aA (N := 3) rfl ?_); refine aV ?hg (N := 3) ?hd (cs := #[.int .u8 ck, .int .i64 cx, .int .i64 cy, .int .i64 cw, .int .i64 ch, .int .i64 aJ, .slice A l.length cc]) (t := 26) ?hr ?_; (case hd => rfl); (case hg => rfl); (case hr => (go_simp; done)); intro b3 hg ZG hbox hb; have Xd := ae.mk (show w.heap.size ≤ b3 by rw [hg]; exact HB.out.size); have ng := ae.mk (au HB.out hb); have vJ := ae.mk (Kd.kH (Kd.qh HO.out b3 (by rw [hg]; exact Nat.le_refl _)) hb); clear HB HO; have HB := ng; have HO := vJ; clear ng vJ; have dN := ae.mk hbox; clear hb hbox hg) | ((with_reducible refine aA (N := 6) rfl ?_); refine aV ?hg (N := 6) ?hd (cs := #[.int .u8 0, .int .i64 0, .int .i64 0, .int .i64 0, .int .i64 0, .int .i64 0, .slice none 0 0]) (t := 26) ?hr ?_; (case hd => rfl); (case hg => rfl); (case hr => (go_simp; done)); intro b6 hg wb6 hbox hb; have Gb6 := ae.mk (show w.heap.size ≤ b6 by rw [hg]; exact HB.out.size); have xA := ae.mk (show b3 ≠ b6 by rw [hg]; exact Nat.ne_of_lt (gU dN.out)); have ng := ae.mk (au HB.out hb); have vJ := ae.mk (Kd.kH (Kd.qh HO.out b6 (by rw [hg]; exact Nat.le_refl _)) hb); have jB := ae.mk (aW dN.out hb); clear HB HO dN; have HB := ng; have HO := vJ; have dN := jB; clear ng vJ jB; have iJ := ae.mk hbox; clear hb hbox hg) | ((with_reducible refine mV (.store 3 (.tmp 12) (.tmp 9)) rfl ?_); go_loud (refine iO (w0 := w) rfl rfl 3 (.tmp 12) (.tmp 9) rfl (g := b3) (j := 1) (base := w.heap.size) #[.int .u8 ck, .int .i64 x, .int .i64 cy, .int .i64 cw, .int .i64 ch, .int .i64 aJ, .slice A l.length cc] (u := .int .i64 x) (df := [.int .i64 x]) ?sA ?sX rfl ?sT ?s1 dN.out ?sJ rfl HB.out HB.out.size Xd.out ?_; (case sA => rfl); (case sX => rfl); (case sT => rfl); (case s1 => (simp [Value.oneCell'])); (case sJ => (simp)); intro ws1 hbk hbb hgg; have vJ := ae.mk (Kd.xM HO.out hgg (fun k_ hk e_ => absurd (Option.some.inj e_) hk.1.2)); have jC := ae.mk (dH iJ.out hgg (fun e_ => absurd (Option.some.inj e_) (by exact (fun Rt => xA.out Rt.symm)))); clear HO iJ; have HO := vJ; have iJ := jC; clear vJ jC; clear dN HB; have dN := ae.mk hbk; have HB := ae.mk hbb; clear hbk hbb hgg)) | ((with_reducible refine mV (.store 3 (.tmp 14) (.tmp 10)) rfl ?_); go_loud (refine iO (w0 := w) rfl rfl 3 (.tmp 14) (.tmp 10) rfl (g := b3) (j := 2) (base := w.heap.size) #[.int .u8 ck, .int .i64 x, .int .i64 y, .int .i64 cw, .int .i64 ch, .int .i64 aJ, .slice A l.length cc] (u := .int .i64 y) (df := [.int .i64 y]) ?sA ?sX rfl ?sT ?s1 dN.out ?sJ rfl HB.out HB.out.size Xd.out ?_; (case sA => rfl); (case sX => rfl); (case sT => rfl); (case s1 => (simp [Value.oneCell'])); (case sJ => (simp)); intro ws2 hbk hbb hgg; have vJ := ae.mk (Kd.xM HO.out hgg (fun k_ hk e_ => absurd (Option.some.inj e_) hk.1.2)); have jC := ae.mk (dH iJ.out hgg (fun e_ => absurd (Option.some.inj e_) (by exact (fun Rt => xA.out Rt.symm)))); clear HO iJ; have HO := vJ; have iJ := jC; clear vJ jC; clear dN HB; have dN := ae.mk hbk; have HB := ae.mk hbb; clear hbk hbb hgg)))
  have Ku : _ = some (Value.slice A l.length cc) := (af dN.out 6).trans rfl
  go_upto_region 3 with (first | ((with_reducible refine jF (f := 35) rfl ?_); refine mf (some 17) rfl rfl Tryz.func35 (by kernel_rfl) rfl #[.slice A l.length cc] rfl (by (try simp only [List.map_toArray, List.map_cons, List.map_nil]); rfl) ?_; refine (PT.out _ _ HO.out).mono ?_; rintro e wc1 ⟨v1, rfl, ho, hb⟩; refine ⟨_, rfl, ?_⟩; have HN := ae.mk (Qh ho (gU dN.out) (gU iJ.out) HB.out.size); clear ho HO; obtain ⟨A1, c1, e1⟩ := Kd.jO HN.out; subst e1; have ng := ae.mk (au HB.out hb); have jB := ae.mk (aW dN.out hb); have jC := ae.mk (aW iJ.out hb); clear HB dN iJ; have HB := ng; have dN := jB; have iJ := jC; clear ng jB jC; clear hb) | ((with_reducible refine mV (.store 24 (.tmp 18) (.tmp 17)) rfl ?_); go_loud (refine iO (w0 := w) rfl rfl 24 (.tmp 18) (.tmp 17) rfl (g := b3) (j := 6) (base := w.heap.size) #[.int .u8 ck, .int .i64 x, .int .i64 y, .int .i64 cw, .int .i64 ch, .int .i64 aJ, .slice A1 l.length c1] (u := .slice A1 l.length c1) (df := [.slice A1 l.length c1]) ?sA ?sX rfl ?sT ?s1 dN.out ?sJ rfl HB.out HB.out.size Xd.out ?_; (case sA => rfl); (case sX => rfl); (case sT => rfl); (case s1 => (simp [Value.oneCell'])); (case sJ => (simp)); intro ws3 hbk hbb hgg; have jC := ae.mk (dH iJ.out hgg (fun e_ => absurd (Option.some.inj e_) (by exact (fun Rt => xA.out Rt.symm)))); have ni := ae.mk (Kd.xK HN.out hgg (fun k_ hk e_ => absurd (Option.some.inj e_) hk.1.2)); clear iJ HN; have iJ := jC; have HN := ni; clear jC ni; clear dN HB; have dN := ae.mk hbk; have HB := ae.mk hbb; clear hbk hbb hgg)))
  clear Ku
  have Ku : _ = some (Value.slice A1 l.length c1) := (af dN.out 6).trans rfl
  go_wp2
  clear Ku
  go_loopg [1, 2, 22] l.length (fun gg v1 v2 v22 wr => ∃ (pre rest : List ai), v1 = .int .i64 (pU ck pre x) ∧ v2 = .int .i64 (pV ck pre y) ∧ v22 = .int .i64 (pre.length : Int) ∧ ae (pre ++ rest = l) ∧ rest.length ≤ gg ∧ ae (Kd.N k26 26 wr w.heap.size (fun q => ((P q ∨ w.heap.size ≤ q) ∧ q ≠ b3) ∧ q ≠ b6) (.slice A1 l.length c1) (lg ck pre x y ++ rest)) ∧ ae (wr.heap[b3]? = some (.cells #[.int .u8 ck, .int .i64 x, .int .i64 y, .int .i64 cw, .int .i64 ch, .int .i64 aJ, .slice A1 l.length c1] 26 (0, 0))) ∧ ae (wr.heap[b6]? = some (.cells #[.int .u8 0, .int .i64 0, .int .i64 0, .int .i64 0, .int .i64 0, .int .i64 0, .slice none 0 0] 26 (0, 0))) ∧ ae (Below w.heap.size w wr))
  case atStart => exact ⟨[], l, rfl, rfl, rfl, ⟨rfl⟩, Nat.le_refl _, ⟨by rw [nG]; exact HN.out⟩, dN, iJ, HB⟩
  case round =>
   clear HN dN iJ HB
   obtain ⟨pre, rest, rfl, rfl, rfl, HE, hgg, HN, dN, iJ, HB⟩ := hrel
   cases rest with
   | nil =>
    have hpl : pre = l := by have := HE.out; rwa [List.append_nil] at this
    have hlt : ¬ ((pre.length : Int) < (l.length : Int)) := by rw [hpl]; omega
    have HP := ae.mk hpl
    clear hpl hgg
    have c30 := (af dN.out 0).trans rfl
    have c31 := (af dN.out 1).trans rfl
    have c32 := (af dN.out 2).trans rfl
    have c33 := (af dN.out 3).trans rfl
    have c34 := (af dN.out 4).trans rfl
    have c35 := (af dN.out 5).trans rfl
    have Ku := (af dN.out 6).trans rfl
    go_wp2_with (((with_reducible refine mV (.store 26 (.tmp 6) (.tmp 54)) rfl ?_); go_loud (refine iO (w0 := w) rfl rfl 26 (.tmp 6) (.tmp 54) rfl (g := b6) (j := 0) (base := w.heap.size) #[.int .u8 ck, .int .i64 x, .int .i64 y, .int .i64 cw, .int .i64 ch, .int .i64 aJ, .slice A1 l.length c1] (u := .agg #[.int .u8 ck, .int .i64 x, .int .i64 y, .int .i64 cw, .int .i64 ch, .int .i64 aJ, .slice A1 l.length c1]) (df := [.int .u8 ck, .int .i64 x, .int .i64 y, .int .i64 cw, .int .i64 ch, .int .i64 aJ, .slice A1 l.length c1]) ?sA ?sX rfl ?sT ?s1 iJ.out ?sJ rfl HB.out HB.out.size Gb6.out ?_; (case sA => rfl); (case sX => rfl); (case sT => rfl); (case s1 => (simp [Value.oneCell'])); (case sJ => (simp)); intro anK hbk hbb hgg; have ni := ae.mk (Kd.xK HN.out hgg (fun k_ hk e_ => absurd (Option.some.inj e_) hk.2)); have jB := ae.mk (dH dN.out hgg (fun e_ => absurd (Option.some.inj e_) xA.out)); clear HN dN; have HN := ni; have dN := jB; clear ni jB; clear iJ HB; have iJ := ae.mk hbk; have HB := ae.mk hbb; clear hbk hbb hgg)))
    refine bodyPost_ret (results_cell_row rfl _ _ b6 26 _ (0, 0) _ rfl iJ.out Tryz.underlying26 rfl (by kernel_rfl)) rfl ?_
    refine ⟨_, rfl, ?_, HB.out⟩
    rw [← HP.out]
    have hf := HN.out
    rw [List.append_nil] at hf
    rw [HP.out] at hf ⊢
    exact Kd.iZ hf (fun q hq => hq.1.1)
   | cons k rest =>
    have hk : k ∈ l := by rw [← HE.out]; simp
    have hlt : (pre.length : Int) < (l.length : Int) := by rw [← HE.out, List.length_append, List.length_cons]; omega
    have hw : wrap64 ((pre.length : Int) + 1) = ((pre ++ [k]).length : Int) := by rw [List.length_append, List.length_singleton]; unfold wrap64; have := HL.out; omega
    obtain ⟨g, cap, he, hgb, aaP, _⟩ := Kd.zN HN.out (by rw [List.length_append, List.length_cons]; omega)
    injection he with ea en ec
    subst ea
    subst ec
    clear en
    have HGB := ae.mk hgb
    obtain ⟨ce, hcl, hM, hcc, hfr⟩ := Kd.zM HN.out z26 (pre.length : Int) (Int.natCast_nonneg _) hlt
    have hrd : (lg ck pre x y ++ k :: rest).getD (pre.length : Int).toNat z26 = k := Zo ck pre k rest x y
    rw [hrd] at hM
    obtain ⟨ua, uc, rfl, ul, ge⟩ := oK hM
    have HV := ae.mk (show Kd.V k26 26 wr w.heap.size _ (.slice ua k.f3.length uc) k.f3 from Kd.wR ul ge)
    have x0 : wr.cell? ⟨g, pre.length * 7, none⟩ = some (.int .u8 k.f0) := hcc 0 _ rfl
    have x1 : wr.cell? ⟨g, pre.length * 7 + 1, none⟩ = some (.int .i64 k.f1.f0) := hcc 1 _ rfl
    have x2 : wr.cell? ⟨g, pre.length * 7 + 2, none⟩ = some (.int .i64 k.f1.f1) := hcc 2 _ rfl
    have x3 : wr.cell? ⟨g, pre.length * 7 + 3, none⟩ = some (.int .i64 k.f1.f2) := hcc 3 _ rfl
    have x4 : wr.cell? ⟨g, pre.length * 7 + 4, none⟩ = some (.int .i64 k.f1.f3) := hcc 4 _ rfl
    have x5 : wr.cell? ⟨g, pre.length * 7 + 5, none⟩ = some (.int .i64 k.f2) := hcc 5 _ rfl
    have x6 : wr.cell? ⟨g, pre.length * 7 + 6, none⟩ = some (.slice ua k.f3.length uc) := hcc 6 _ rfl
    have HW1 := ae.mk hw
    have HK := ae.mk hk
    have jl := ae.mk hgg
    clear hcl hM hcc hfr hrd ul ge hgb aaP hw hk hgg
    go_upto_region 6 with (first | ((with_reducible refine aA (N := 8) rfl ?_); refine aV ?hg (N := 8) ?hd (cs := #[.int .u8 0, .int .i64 0, .int .i64 0, .int .i64 0, .int .i64 0, .int .i64 0, .slice none 0 0]) (t := 26) ?hr ?_; (case hd => rfl); (case hg => rfl); (case hr => (go_simp; done)); intro b8 hg wb8 hbox hb; have Gb8 := ae.mk (show w.heap.size ≤ b8 by rw [hg]; exact HB.out.size); have Ja := ae.mk (show b3 ≠ b8 by rw [hg]; exact Nat.ne_of_lt (gU dN.out)); have Jb := ae.mk (show b6 ≠ b8 by rw [hg]; exact Nat.ne_of_lt (gU iJ.out)); have ng := ae.mk (au HB.out hb); have ni := ae.mk (Kd.pX (Kd.EH HN.out b8 (by rw [hg]; exact Nat.le_refl _)) hb); have vK := ae.mk (Kd.kH (Kd.qh HV.out b8 (by rw [hg]; exact Nat.le_refl _)) hb); have jB := ae.mk (aW dN.out hb); have jC := ae.mk (aW iJ.out hb); clear HB HN HV dN iJ; have HB := ng; have HN := ni; have HV := vK; have dN := jB; have iJ := jC; clear ng ni vK jB jC; have Kb8 := ae.mk hbox; clear hb hbox hg) | ((with_reducible refine mV (.store 26 (.tmp 8) (.tmp 26)) rfl ?_); go_loud (refine iO (w0 := w) rfl rfl 26 (.tmp 8) (.tmp 26) rfl (g := b8) (j := 0) (base := w.heap.size) #[.int .u8 k.f0, .int .i64 k.f1.f0, .int .i64 k.f1.f1, .int .i64 k.f1.f2, .int .i64 k.f1.f3, .int .i64 k.f2, .slice ua k.f3.length uc] (u := .agg #[.int .u8 k.f0, .int .i64 k.f1.f0, .int .i64 k.f1.f1, .int .i64 k.f1.f2, .int .i64 k.f1.f3, .int .i64 k.f2, .slice ua k.f3.length uc]) (df := [.int .u8 k.f0, .int .i64 k.f1.f0, .int .i64 k.f1.f1, .int .i64 k.f1.f2, .int .i64 k.f1.f3, .int .i64 k.f2, .slice ua k.f3.length uc]) ?sA ?sX rfl ?sT ?s1 Kb8.out ?sJ rfl HB.out HB.out.size Gb8.out ?_; (case sA => rfl); (case sX => rfl); (case sT => rfl); (case s1 => (simp [Value.oneCell'])); (case sJ => (simp)); intro abN hbk hbb hgg; have ni := ae.mk (Kd.xK HN.out hgg (fun k_ hk e_ => absurd (Option.some.inj e_) hk.2)); have vK := ae.mk (Kd.xM HV.out hgg (fun k_ hk e_ => absurd (Option.some.inj e_) hk.2)); have jB := ae.mk (dH dN.out hgg (fun e_ => absurd (Option.some.inj e_) Ja.out)); have jC := ae.mk (dH iJ.out hgg (fun e_ => absurd (Option.some.inj e_) Jb.out)); clear HN HV dN iJ; have HN := ni; have HV := vK; have dN := jB; have iJ := jC; clear ni vK jB jC; clear Kb8 HB; have Kb8 := ae.mk hbk; have HB := ae.mk hbb; clear hbk hbb hgg)))
    clear x0 x1 x2 x3 x4 x5 x6
    have q_ := ae.mk (bF HB.out)
    clear HB
    have HB := q_
    clear q_
    have q_ := ae.mk (Kd.Gh HN.out)
    clear HN
    have HN := q_
    clear q_
    have q_ := ae.mk (Kd.Ko HV.out)
    clear HV
    have HV := q_
    clear q_
    have q_ := ae.mk (fD dN.out)
    clear dN
    have dN := q_
    clear q_
    have q_ := ae.mk (fD iJ.out)
    clear iJ
    have iJ := q_
    clear q_
    have q_ := ae.mk (fD Kb8.out)
    clear Kb8
    have Kb8 := q_
    clear q_
    refine jT (n := 9) (S := fun w' => w'.heap[b3]? = some (.cells #[.int .u8 ck, .int .i64 x, .int .i64 y, .int .i64 cw, .int .i64 ch, .int .i64 aJ, .slice (some ⟨g, 0, none⟩) l.length c1] 26 (0, 0)) ∧ w'.heap[b8]? = some (.cells #[.int .u8 k.f0, .int .i64 k.f1.f0, .int .i64 k.f1.f1, .int .i64 k.f1.f2, .int .i64 k.f1.f3, .int .i64 k.f2, .slice ua k.f3.length uc] 26 (0, 0))) (ds := [8]) #[false, false, false, false, false, false, false, false, false] (by kernel_rfl) rfl rfl ⟨dN.out, Kb8.out⟩ (fun hHeld => ?_); refine gG pJ.tab6 pJ.Dl (fun ak fC => ?_)
    generalize abN.drew = wd at HB HN HV dN iJ Kb8 hHeld ⊢
    refine uS (i := 0) (N := some 27) (v := ?_) (a' := ?_) #[true, false, false, false, false, false, false, false, false] rfl rfl (qZ ak.out (by kernel_rfl)) (fun _ _ _ h => h) (Or.inl ⟨by rfl, ?_⟩) ?_ ?_
    rotate_left
    ·intro w'; go_simp; with_reducible rfl
    rotate_left
    ·simp only [Act.put, List.setIfInBounds_toArray, List.set_cons_zero, List.set_cons_succ, lD, lC]
     rfl
    refine uS (i := 2) (N := some 29) (v := ?_) (a' := ?_) #[true, false, true, false, false, false, false, false, false] rfl rfl (qZ ak.out (by kernel_rfl)) (fun _ _ _ h => h) (Or.inl ⟨by rfl, ?_⟩) ?_ ?_
    rotate_left
    ·intro w'; go_simp; with_reducible rfl
    rotate_left
    ·simp only [Act.put, List.setIfInBounds_toArray, List.set_cons_zero, List.set_cons_succ, lD, lC]
     rfl
    refine uS (i := 4) (N := some 31) (v := ?_) (a' := ?_) #[true, false, true, false, true, false, false, false, false] rfl rfl (qZ ak.out (by kernel_rfl)) (fun _ _ _ h => h) (Or.inl ⟨by rfl, ?_⟩) ?_ ?_
    rotate_left
    ·intro w'; go_simp; with_reducible rfl
    rotate_left
    ·simp only [Act.put, List.setIfInBounds_toArray, List.set_cons_zero, List.set_cons_succ, lD, lC]
     rfl
    refine uS (i := 5) (N := some 32) (v := ?_) (a' := ?_) #[true, false, true, false, true, true, false, false, false] rfl rfl (qZ ak.out (by kernel_rfl)) (fun _ _ _ h => h) (Or.inl ⟨by rfl, ?_⟩) ?_ ?_
    rotate_left
    ·intro w'; go_simp; with_reducible rfl
    rotate_left
    ·simp only [Act.put, List.setIfInBounds_toArray, List.set_cons_zero, List.set_cons_succ, lD, lC]
     rfl
    refine Bg (i := 1) (N := some 28) (v := ?_) (a' := ?_) #[true, true, true, false, true, true, false, false, false] rfl rfl (xE ak.out fC.out (by kernel_rfl)) (fun _ _ _ h => h) (Or.inl ⟨by rfl, ?_⟩) hHeld ?_ ?_
    rotate_left
    ·intro w' hs_
     have c := (af hs_.1 6).trans rfl
     go_simp; with_reducible rfl
    rotate_left
    ·simp only [Act.put, List.setIfInBounds_toArray, List.set_cons_zero, List.set_cons_succ, lD, lC]
     rfl
    refine Bg (i := 3) (N := some 30) (v := ?_) (a' := ?_) #[true, true, true, true, true, true, false, false, false] rfl rfl (xE ak.out fC.out (by kernel_rfl)) (fun _ _ _ h => h) (Or.inl ⟨by rfl, ?_⟩) hHeld ?_ ?_
    rotate_left
    ·intro w' hs_
     have c0 := (af hs_.2 0).trans rfl
     have c1 := (af hs_.2 1).trans rfl
     have c2 := (af hs_.2 2).trans rfl
     have c3 := (af hs_.2 3).trans rfl
     have c4 := (af hs_.2 4).trans rfl
     have c5 := (af hs_.2 5).trans rfl
     have c6 := (af hs_.2 6).trans rfl
     go_simp; with_reducible rfl
    rotate_left
    ·simp only [Act.put, List.setIfInBounds_toArray, List.set_cons_zero, List.set_cons_succ, lD, lC]
     rfl
    refine SK (i := 6) (N := some 33) #[true, true, true, true, true, true, true, false, false] rfl rfl (zU ak.out (by kernel_rfl)) (by decide) (fun K hK => ?_)
    refine fO Tryz.func16 (by kernel_rfl) rfl #[.agg #[.int .u8 k.f0, .int .i64 k.f1.f0, .int .i64 k.f1.f1, .int .i64 k.f1.f2, .int .i64 k.f1.f3, .int .i64 k.f2, .slice ua k.f3.length uc], .int .i64 (pU ck pre x), .int .i64 (pV ck pre y)] (by rfl) rfl rfl (by (try simp only [List.map_toArray, List.map_cons, List.map_nil]); rfl) ?_
    refine (IH.out k HK.out _ ua uc (pU ck pre x) (pV ck pre y) wd HV.out).mono ?_
    rintro e wk ⟨v, rfl, ho, hb⟩
    refine ⟨_, rfl, ?_⟩
    have HE3 := ae.mk (gU dN.out)
    have HE6 := ae.mk (gU iJ.out)
    have HE8 := ae.mk (gU Kb8.out)
    have HEG := ae.mk (Kd.Gi HN.out g rfl)
    have HS := ae.mk HB.out.size
    have ng := ae.mk (au HB.out hb); have ni := ae.mk (Kd.pX HN.out hb); have vK := ae.mk (Kd.kH HV.out hb); have jB := ae.mk (aW dN.out hb); have jC := ae.mk (aW iJ.out hb); have Lj := ae.mk (aW Kb8.out hb); clear HB HN HV dN iJ Kb8; have HB := ng; have HN := ni; have HV := vK; have dN := jB; have iJ := jC; have Kb8 := Lj; clear ng ni vK jB jC Lj
    clear HV hb
    obtain ⟨Av, cv, ev⟩ := Kd.jO ho
    subst ev
    have sO := ae.mk ho
    clear ho
    refine hK.out _ _ ⟨dN.out, Kb8.out⟩ (fun hHeld => ?_)
    clear hK K
    refine oI (a' := ?_) ?_ ?_
    rotate_left
    ·show Act.put _ (some 33) _ = _
     simp only [Act.put, List.setIfInBounds_toArray, List.set_cons_zero, List.set_cons_succ, lD, lC]
     rfl
    refine uS (i := 7) (N := some 34) (v := ?_) (a' := ?_) #[true, true, true, true, true, true, true, true, false] rfl rfl (qZ ak.out (by kernel_rfl)) (fun _ _ _ h => h) (Or.inl ⟨by rfl, ?_⟩) ?_ ?_
    rotate_left
    ·intro w'; go_simp; with_reducible rfl
    rotate_left
    ·simp only [Act.put, List.setIfInBounds_toArray, List.set_cons_zero, List.set_cons_succ, lD, lC]
     rfl
    obtain ⟨ce, hcl, hM, hcc, hfr⟩ := Kd.zM HN.out z26 (pre.length : Int) (Int.natCast_nonneg _) hlt
    have hrd : (lg ck pre x y ++ k :: rest).getD (pre.length : Int).toNat z26 = k := Zo ck pre k rest x y
    rw [hrd] at hM
    obtain ⟨ub, ud, rfl, _, _⟩ := oK hM
    have x0 : wk.cell? ⟨g, pre.length * 7, none⟩ = some (.int .u8 k.f0) := hcc 0 _ rfl
    have f0 : wk.frozen? ⟨g, pre.length * 7, none⟩ = false := hfr 0
    have x1 : wk.cell? ⟨g, pre.length * 7 + 1, none⟩ = some (.int .i64 k.f1.f0) := hcc 1 _ rfl
    have f1 : wk.frozen? ⟨g, pre.length * 7 + 1, none⟩ = false := hfr 1
    have x2 : wk.cell? ⟨g, pre.length * 7 + 2, none⟩ = some (.int .i64 k.f1.f1) := hcc 2 _ rfl
    have f2 : wk.frozen? ⟨g, pre.length * 7 + 2, none⟩ = false := hfr 2
    have x3 : wk.cell? ⟨g, pre.length * 7 + 3, none⟩ = some (.int .i64 k.f1.f2) := hcc 3 _ rfl
    have f3 : wk.frozen? ⟨g, pre.length * 7 + 3, none⟩ = false := hfr 3
    have x4 : wk.cell? ⟨g, pre.length * 7 + 4, none⟩ = some (.int .i64 k.f1.f3) := hcc 4 _ rfl
    have f4 : wk.frozen? ⟨g, pre.length * 7 + 4, none⟩ = false := hfr 4
    have x5 : wk.cell? ⟨g, pre.length * 7 + 5, none⟩ = some (.int .i64 k.f2) := hcc 5 _ rfl
    have f5 : wk.frozen? ⟨g, pre.length * 7 + 5, none⟩ = false := hfr 5
    have x6 : wk.cell? ⟨g, pre.length * 7 + 6, none⟩ = some (.slice ub k.f3.length ud) := hcc 6 _ rfl
    have f6 : wk.frozen? ⟨g, pre.length * 7 + 6, none⟩ = false := hfr 6
    have lH : ∀ q, (((fun q => ((P q ∨ w.heap.size ≤ q) ∧ q ≠ b3) ∧ q ≠ b6) q ∧ q ≠ g) ∧ q ≠ b8) ∨ wd.heap.size ≤ q → ((fun q => ((P q ∨ w.heap.size ≤ q) ∧ q ≠ b3) ∧ q ≠ b6) q ∧ q ≠ b8) ∧ q ≠ g := fun q hq => hq.elim (fun h => ⟨⟨h.1.1, h.2⟩, h.1.2⟩) (fun hn => ⟨⟨⟨⟨.inr (Nat.le_trans HS.out hn), Nat.ne_of_gt (Nat.lt_of_lt_of_le HE3.out hn)⟩, Nat.ne_of_gt (Nat.lt_of_lt_of_le HE6.out hn)⟩, Nat.ne_of_gt (Nat.lt_of_lt_of_le HE8.out hn)⟩, Nat.ne_of_gt (Nat.lt_of_lt_of_le HEG.out hn)⟩)
    have OL := pY wk _ (bU k (pU ck pre x) (pV ck pre y)) (A6 := Av) (c6 := cv) (by rw [ou]; exact (Kd.jw sO.out).2.1) (by rw [ou]; exact Kd.N_F sO.out)
    have hseg := Kd.Vz HN.out (pre.length : Int) (Int.natCast_nonneg _) hlt (df := [.int .u8 k.f0, .int .i64 (pU ck pre x), .int .i64 (pV ck pre y), .int .i64 k.f1.f2, .int .i64 k.f1.f3, .int .i64 k.f2, .slice Av (lg k.f0 k.f3 (pU ck pre x) (pV ck pre y)).length cv]) (j := 0) hcl hcc (show 0 + 7 ≤ 7 from by decide) (x' := bU k (pU ck pre x) (pV ck pre y)) (by rw [ou] at OL ⊢; exact OL) lH
    rw [show (lg ck pre x y ++ k :: rest).set (pre.length : Int).toNat (bU k (pU ck pre x) (pV ck pre y)) = lg ck (pre ++ [k]) x y ++ rest from afv ck pre k rest x y] at hseg
    obtain ⟨w9, Gw⟩ : ∃ w9, w9 = wk.setCells g ((pre.length : Int).toNat * 7 + 0) [.int .u8 k.f0, .int .i64 (pU ck pre x), .int .i64 (pV ck pre y), .int .i64 k.f1.f2, .int .i64 k.f1.f3, .int .i64 k.f2, .slice Av (lg k.f0 k.f3 (pU ck pre x) (pV ck pre y)).length cv] := ⟨_, rfl⟩
    replace hseg : Kd.N k26 26 w9 w.heap.size (fun q => (fun q => ((P q ∨ w.heap.size ≤ q) ∧ q ≠ b3) ∧ q ≠ b6) q ∧ q ≠ b8) (.slice (some ⟨g, 0, none⟩) l.length c1) (lg ck (pre ++ [k]) x y ++ rest) ∧ wk.grownBy w9 (some g) := by rw [Gw]; exact hseg
    have Xh := ae.mk (Kd.Xn hseg.1)
    have JS := ae.mk (grown_below HB.out hseg.2 HGB.out HB.out.size)
    have AP := ae.mk (dH dN.out hseg.2 (fun e_ => (HN.out.1 g rfl).1.1.2 (Option.some.inj e_).symm))
    have Qc := ae.mk (dH iJ.out hseg.2 (fun e_ => (HN.out.1 g rfl).1.2 (Option.some.inj e_).symm))
    have I_ := ae.mk (dH Kb8.out hseg.2 (fun e_ => (HN.out.1 g rfl).2 (Option.some.inj e_).symm))
    clear hseg OL lH hcl hcc hfr hM hrd HN HB dN iJ Kb8 hHeld sO
    refine V6 (i := 8) (N := none) #[true, true, true, true, true, true, true, true, true] rfl rfl (zU ak.out (by kernel_rfl)) (by decide) (fun K hK => ?_)
    refine Lt (w1 := w9) (by rfl) rfl ?_ ?_
    ·rw [Gw]; go_simp; rfl
    refine hK.out _ _ ?_
    clear hK K x0 x1 x2 x3 x4 x5 x6 f0 f1 f2 f3 f4 f5 f6 Gw
    refine lJ (jc ak.out (by kernel_rfl)) ?_
    have d0 := (af AP.out 0).trans rfl
    have e0 := (af I_.out 0).trans rfl
    have d1 := (af AP.out 1).trans rfl
    have e1 := (af I_.out 1).trans rfl
    have d2 := (af AP.out 2).trans rfl
    have e2 := (af I_.out 2).trans rfl
    have d3 := (af AP.out 3).trans rfl
    have e3 := (af I_.out 3).trans rfl
    have d4 := (af AP.out 4).trans rfl
    have e4 := (af I_.out 4).trans rfl
    have d5 := (af AP.out 5).trans rfl
    have e5 := (af I_.out 5).trans rfl
    have d6 := (af AP.out 6).trans rfl
    have e6 := (af I_.out 6).trans rfl
    by_cases k2 : ck = 2
    ·have anr : (ck == 2) = true := beq_iff_eq.mpr k2
     have K2 := ae.mk k2
     clear k2
     have hw := HW1.out
     go_wp2
     clear d0 d1 d2 d3 d4 d5 d6 e0 e1 e2 e3 e4 e5 e6
     go_roundg rest.length
     case measure => exact Nat.lt_of_lt_of_le (Nat.lt_succ_self _) jl.out
     case rel => exact ⟨pre ++ [k], rest, (by rw [wC]; unfold xB; rw [if_pos K2.out]), (by rw [wE]; unfold xC; rw [if_pos K2.out]), (by rw [hw]), ⟨by rw [List.append_assoc]; exact HE.out⟩, Nat.le_refl _, Xh, AP, Qc, JS⟩
    ·have anr : (ck == 2) = false := beq_eq_false_iff_ne.mpr k2
     have K2 := ae.mk k2
     clear k2
     by_cases k3 : ck = 3
     ·have ant : (ck == 3) = true := beq_iff_eq.mpr k3
      have K3 := ae.mk k3
      clear k3
      have hw := HW1.out
      go_wp2
      clear d0 d1 d2 d3 d4 d5 d6 e0 e1 e2 e3 e4 e5 e6
      go_roundg rest.length
      case measure => exact Nat.lt_of_lt_of_le (Nat.lt_succ_self _) jl.out
      case rel => exact ⟨pre ++ [k], rest, (by rw [wC]; unfold xB; rw [if_neg K2.out]), (by rw [wE]; unfold xC; rw [if_neg K2.out, if_pos K3.out]), (by rw [hw]), ⟨by rw [List.append_assoc]; exact HE.out⟩, Nat.le_refl _, Xh, AP, Qc, JS⟩
     ·have ant : (ck == 3) = false := beq_eq_false_iff_ne.mpr k3
      have K3 := ae.mk k3
      clear k3
      have hw := HW1.out
      go_wp2
      clear d0 d1 d2 d3 d4 d5 d6 e0 e1 e2 e3 e4 e5 e6
      go_roundg rest.length
      case measure => exact Nat.lt_of_lt_of_le (Nat.lt_succ_self _) jl.out
      case rel => exact ⟨pre ++ [k], rest, (by rw [wC]; unfold xB; rw [if_neg K2.out]), (by rw [wE]; unfold xC; rw [if_neg K2.out, if_neg K3.out]), (by rw [hw]), ⟨by rw [List.append_assoc]; exact HE.out⟩, Nat.le_refl _, Xh, AP, Qc, JS⟩
def pJ.f (a0 a1 a2 a3 a4 a5 : Int) (l : List ai) (x y : Int) : Option (Int × Int × Int × Int × Int × Int × List ai) := if sz ⟨a0, ⟨a1, a2, a3, a4⟩, a5, l⟩ ≤ 1000000 then some (a0, x, y, a3, a4, a5, lg a0 l x y) else none
section
variable {W : World} {b : Nat} {P : Nat → Prop} {A : Option Addr} {cc : Nat}
abbrev yg (w : World) (P : Nat → Prop) (z : ai) (e : Ending) (w' : World) : Prop := ∃ A c, e = .returned (.agg #[.int .u8 z.f0, .int .i64 z.f1.f0, .int .i64 z.f1.f1, .int .i64 z.f1.f2, .int .i64 z.f1.f3, .int .i64 z.f2, .slice A z.f3.length c]) ∧ Kd.N k26 26 w' w.heap.size (fun k => P k ∨ w.heap.size ≤ k) (.slice A z.f3.length c) z.f3 ∧ Below w.heap.size w w'
theorem Il (c : ai) (ax : Int) (hz : sz c ≤ 1048576) (hV : Kd.V k26 26 W b P (.slice A c.f3.length cc) c.f3) :
  Calls Tryz.prog 33 #[.agg #[.int .u8 c.f0, .int .i64 c.f1.f0, .int .i64 c.f1.f1, .int .i64 c.f1.f2, .int .i64 c.f1.f3, .int .i64 c.f2, .slice A c.f3.length cc], .int .u8 ax] W fun e w' => e = .returned (.int .i64 (dI ax c)) ∧ Below W.heap.size W w' := by
 obtain ⟨k, hk⟩ := (aaD c hz ax).rounds
 exact dK.calls k _ _ _ _ _ _ P A cc c.f3 ax _ W (d_ hV) hk
theorem adl (c : ai) (ax : Int) (hV : Kd.V k26 26 W b P (.slice A c.f3.length cc) c.f3) :
  Calls Tryz.prog 49 #[.agg #[.int .u8 c.f0, .int .i64 c.f1.f0, .int .i64 c.f1.f1, .int .i64 c.f1.f2, .int .i64 c.f1.f3, .int .i64 c.f2, .slice A c.f3.length cc], .int .u8 ax] W fun e w' => e = .returned (.bool (iF ax c.f0)) ∧ Below W.heap.size W w' := by
 have h := Kd.lF hV
 exact uC.calls _ _ _ _ _ _ A cc c.f3 ax _ W h.2.2 h.2.1 (EL c ax)
theorem adu (l : List ai) (hl : l.length ≤ 1000000) (hV : Kd.V k26 26 W b P (.slice A l.length cc) l) :
  Calls Tryz.prog 35 #[.slice A l.length cc] W fun e w' => ∃ A' c', e = .returned (.slice A' l.length c') ∧ Kd.N k26 26 w' W.heap.size (fun k => P k ∨ W.heap.size ≤ k) (.slice A' l.length c') l ∧ Below W.heap.size W w' :=
 (sS.calls P A cc l l W (d_ hV) (if_pos hl)).mono (fun e w' ⟨v, he, hN, hB⟩ => by
  obtain ⟨A', c', rfl⟩ := Kd.jO hN
  exact ⟨A', c', he, hN, hB⟩)
theorem IB (c : ai) (x y : Int) (hz : sz c ≤ 1000000) (hV : Kd.V k26 26 W b P (.slice A c.f3.length cc) c.f3) :
  Calls Tryz.prog 16 #[.agg #[.int .u8 c.f0, .int .i64 c.f1.f0, .int .i64 c.f1.f1, .int .i64 c.f1.f2, .int .i64 c.f1.f3, .int .i64 c.f2, .slice A c.f3.length cc], .int .i64 x, .int .i64 y] W (yg W P (bU c x y)) :=
 (alo 1000000 c hz (Nat.le_refl _) P A cc x y W (d_ hV)).mono (fun e w' ⟨v, he, hN, hB⟩ => by
  rw [ou]
  obtain ⟨A', c', rfl⟩ := Kd.jO hN
  exact ⟨A', c', he, hN, hB⟩)
theorem abG (b : Int) (gs : List Int) (hl : gs.length ≤ 100000) (h0 : -2147483647 ≤ b) (h1 : b ≤ 2147483647) (hC : Kd.C (Kd.int .i64) W A gs.length gs) (hc : gs.length ≤ cc) :
  Calls Tryz.prog 56 #[.int .i64 b, .slice A gs.length cc] W fun e w' => ∃ A' c', e = .returned (.tuple #[.slice A' (oP b gs).1.length c', .bool (oP b gs).2]) ∧ (Kd.int .i64).R 3 w' W.heap.size (fun _ => True) (.slice A' (oP b gs).1.length c') (oP b gs).1 ∧ Below W.heap.size W w' := by
 obtain ⟨k, hk⟩ := (zY b gs hl h0 h1).2.rounds
 exact (bW.calls k b A cc gs _ _ W hC hc hk).mono (fun e w' ⟨v, he, hR, hB⟩ => by
  obtain ⟨A', c', rfl⟩ := Kd.ig hR
  exact ⟨A', c', he, hR, hB⟩)
end
theorem LC {l : List ai} {k : ai} (h : k ∈ l) : sz k ≤ dY l := by
 obtain ⟨p, q, e⟩ := List.append_of_mem h
 rw [e, l7, bH]
 omega
theorem GX {a b : dW} : o7 a b = true ↔ a.f0 = b.f0 ∧ a.f1 = b.f1 ∧ a.f2 = b.f2 ∧ a.f3 = b.f3 := by
 unfold o7
 simp
theorem TS (ax X Y W H : Int) (hax : ax = 1 ∨ ax = 2) : ∀ (kids : List ai) (ns : List Int) (off : Int), kids.length = ns.length → vw (fun k r => o7 k.f1 r) kids (AQ ax X Y W H off ns) = true → ∀ x, x ∈ kids → aQ (3 - ax) x.f1 = tX ax H W := by
 intro kids
 induction kids with
 | nil => intro _ _ _ _ x hx; cases hx
 | cons k ks ih =>
  intro ns off hl he x hx
  cases ns with
  | nil => simp at hl
  | cons n ns =>
   simp only [AQ, vw, Bool.and_eq_true] at he
   rcases List.mem_cons.1 hx with rfl | hx
   ·obtain ⟨_, _, h2, h3⟩ := GX.1 he.1
    simp only [] at h2 h3
    rcases hax with rfl | rfl
    ·unfold aQ tX at *
     simp at h3 ⊢
     exact h3
    ·unfold aQ tX at *
     simp at h2 ⊢
     exact h2
   ·exact ih ns (off + n + 1) (by simpa using hl) he.2 x hx
theorem E5 {c : ai} (h1 : pz c = true) (hk : c.f0 = 2 ∨ c.f0 = 3) (hl : c.f3.length ≤ 20000) :
  (c.f3.map (fun k => aQ (c.f0 - 1) k.f1)).sum + (c.f3.length : Int) - 1 = aQ (c.f0 - 1) c.f1 ∧ ∀ x, x ∈ c.f3 → aQ (3 - (c.f0 - 1)) x.f1 = aQ (3 - (c.f0 - 1)) c.f1 := by
 unfold pz Fb at h1
 rw [show (c.f0 == 1) = false from by simp; omega, Bool.false_or] at h1
 simp only [Bool.and_eq_true] at h1
 obtain ⟨ht, hlen, hE⟩ := h1
 obtain ⟨hax, gp, gs, _⟩ := Gp ht
 have e1 : A8 c.f0 = c.f0 - 1 := by unfold A8; omega
 rw [e1] at hax gp gs
 have e2 : kM c = c.f3.map (fun k => aQ (c.f0 - 1) k.f1) := by
  unfold kM
  apply List.map_congr_left
  intro k _
  unfold szK tV aQ
  rcases hk with h | h
  ·rw [if_pos h, if_pos (by omega)]
  ·rw [if_neg (by omega), if_neg (by omega), if_pos (by omega)]
 have e3 : ∀ r : dW, tX (c.f0 - 1) r.f2 r.f3 = aQ (c.f0 - 1) r ∧ tX (c.f0 - 1) r.f3 r.f2 = aQ (3 - (c.f0 - 1)) r := by
  intro r
  rcases hk with h | h <;> simp [tX, aQ, h]
 refine ⟨?_, fun x hx => ?_⟩
 ·rw [← e2, ← (e3 c.f1).1, ← gs]
  simp [kM]
 ·rw [gp] at hE
  rw [← (e3 c.f1).2]
  exact TS (c.f0 - 1) _ _ _ _ hax c.f3 (kM c) 0 (by simp [kM]) hE x hx
theorem uD {c : ai} (h : mg c = true) : lV c.f1 = true := by
 unfold mg at h
 simp only [Bool.and_eq_true] at h
 exact h.1.1.1
theorem oO {r : dW} (h : lV r = true) {ax : Int} (hax : ax = 1 ∨ ax = 2) : 1 ≤ aQ ax r ∧ aQ ax r ≤ 10000 := by
 have := xR.1 h
 unfold aQ
 rcases hax with rfl | rfl
 ·rw [if_pos rfl]; omega
 ·rw [if_neg (by omega), if_pos rfl]; omega
theorem DU {c x : ai} (h : mP c = true) (hx : x ∈ c.f3) : mP x = true := by
 rw [vO, Bool.and_eq_true] at h
 exact List.all_eq_true.1 h.2 x hx
theorem YX (ax m : Int) (a b : List ai) : nR ax m (a ++ b) = nR ax (nR ax m a) b := by
 induction a generalizing m with
 | nil => rw [List.nil_append, tN]
 | cons x xs ih => rw [List.cons_append, mJ, mJ, ih]
theorem aa' {ax u : Int} : ∀ {l : List ai} {m : Int}, m ≤ u → (∀ x, x ∈ l → dG ax x ≤ u) → nR ax m l ≤ u := by
 intro l
 induction l with
 | nil => intro m h _; rw [tN]; exact h
 | cons x xs ih =>
  intro m h hx
  rw [mJ]
  exact ih (acJ h (hx x (by simp))) (fun y hy => hx y (by simp [hy]))
theorem SI {ax : Int} : ∀ {l : List ai} {m : Int}, m ≤ nR ax m l := by
 intro l
 induction l with
 | nil => intro m; rw [tN]; exact Int.le_refl _
 | cons x xs ih =>
  intro m
  rw [mJ]
  exact Int.le_trans (YN m (dG ax x)) ih
theorem afz {ax : Int} : ∀ {l : List ai}, (∀ x, x ∈ l → dG ax x ≤ aQ ax x.f1) → oz ax l ≤ (l.map (fun k => aQ ax k.f1)).sum := by
 intro l
 induction l with
 | nil => intro _; rw [vN]; exact Int.le_refl _
 | cons x xs ih =>
  intro hx
  rw [rM, List.map_cons, List.sum_cons]
  have h1 := hx x (by simp)
  have h2 := ih (fun y hy => hx y (by simp [hy]))
  omega
theorem E8 {ax : Int} (hax : ax = 1 ∨ ax = 2) : ∀ (N : Nat) (c : ai), sz c ≤ N → N ≤ 20000 → (fU c).all mg = true → 1 ≤ dG ax c ∧ (mP c = true → dG ax c ≤ aQ ax c.f1) := by
 intro N
 induction N with
 | zero => intro c h; rw [bJ] at h; omega
 | succ N ih =>
  intro c hc hN hok
  have hs := bJ c
  have hlen := jf c.f3
  have hk : ∀ x, x ∈ c.f3 → 1 ≤ dG ax x ∧ (mP x = true → dG ax x ≤ aQ ax x.f1) := fun x hx => by
   refine ih x ?_ (by omega) (xU hok hx)
   have := LC hx
   omega
  rw [rq]
  rcases qm (lM hok) with ⟨h1, h2⟩ | ⟨h1, h2⟩
  ·rw [if_pos h1]
   exact ⟨Int.le_refl _, fun _ => (oO (uD (lM hok)) hax).1⟩
  ·rw [if_neg (by omega)]
   have hsum : ∀ l : List ai, (∀ x, x ∈ l → 1 ≤ dG ax x) → (l.length : Int) ≤ oz ax l := by
    intro l
    induction l with
    | nil => intro _; rw [vN]; simp
    | cons x xs ihl =>
     intro h
     have a1 := h x (by simp)
     have a2 := ihl (fun y hy => h y (by simp [hy]))
     rw [rM, List.length_cons]
     omega
   have aiu := fun (ht : mP c = true) => E5 (c := c) (by rw [vO, Bool.and_eq_true] at ht; exact ht.1) h1 (by omega)
   cases ha : iF ax c.f0 with
   | true =>
    have e : c.f0 - 1 = ax := by
     unfold iF at ha
     simp at ha
     omega
    simp only [if_true]
    refine ⟨by have := hsum c.f3 (fun x hx => (hk x hx).1); omega, fun ht => ?_⟩
    obtain ⟨g1, _⟩ := aiu ht
    rw [e] at g1
    have := afz (ax := ax) (l := c.f3) (fun x hx => (hk x hx).2 (DU ht hx))
    omega
   | false =>
    have e : 3 - (c.f0 - 1) = ax := by
     unfold iF at ha
     simp at ha
     omega
    simp only [Bool.false_eq_true, if_false]
    refine ⟨?_, fun ht => ?_⟩
    ·cases hl : c.f3 with
     | nil => rw [hl] at h2; simp at h2
     | cons x xs =>
      have := (hk x (by rw [hl]; simp)).1
      rw [mJ]
      exact Int.le_trans this (Int.le_trans (YO 0 _) SI)
    ·obtain ⟨_, g2⟩ := aiu ht
     rw [e] at g2
     have := oO (uD (lM hok)) hax
     exact aa' (by omega) (fun x hx => by
      have := (hk x hx).2 (DU ht hx)
      rw [g2 x hx] at this
      exact this)
section
variable {W : World} {b : Nat} {P : Nat → Prop} {A : Option Addr} {cc : Nat}
theorem wF (c : ai) (hz : sz c ≤ 1048576) (h1 : Kd.C k26 W A 1 [c]) (h2 : 1 ≤ cc) : Calls Tryz.prog 26 #[.slice A 1 cc] W fun e w' => e = .returned (.bool (dF c)) ∧ Below W.heap.size W w' := by
 have h := TF [c] (fun x hx => by rw [List.mem_singleton.1 hx]; exact hz) A cc W h1 h2
 simpa using h
theorem oC {c : ai} {v : Bool} {f : FuncId} {args : Array Value} (h : dF c = v) (hc : Calls Tryz.prog f args W fun e w' => e = .returned (.bool (dF c)) ∧ Below W.heap.size W w') : Calls Tryz.prog f args W fun e w' => e = .returned (.bool v) ∧ Below W.heap.size W w' := by
 rw [h] at hc
 exact hc
theorem vM (c : ai) (hz : sz c ≤ 1048576) (hV : Kd.V k26 26 W b P (.slice A c.f3.length cc) c.f3) :
  Calls Tryz.prog 20 #[.agg #[.int .u8 c.f0, .int .i64 c.f1.f0, .int .i64 c.f1.f1, .int .i64 c.f1.f2, .int .i64 c.f1.f3, .int .i64 c.f2, .slice A c.f3.length cc]] W fun e w' => e = .returned (.bool (dF c)) ∧ Below W.heap.size W w' := by
 obtain ⟨k, hk⟩ := (Tn c hz).rounds
 have h := Kd.lF hV
 exact o8.calls k _ _ _ _ _ _ A cc c.f3 _ W h.2.2 h.2.1 hk
theorem CQ (r : dW) (ax : Int) : Calls Tryz.prog 17 #[.agg #[.int .i64 r.f0, .int .i64 r.f1, .int .i64 r.f2, .int .i64 r.f3], .int .u8 ax] W fun e w' => e = .returned (.int .i64 (aQ ax r)) ∧ Below W.heap.size W w' :=
 ru.calls r.f0 r.f1 r.f2 r.f3 ax _ W (O7 r ax)
end
section
variable {Pr : Program} {ops : Array Oper} {rest : List Oper} {op : Oper} {a : Act} {Q : Exit → Act → World → Prop} {w W : World} {P P' : Nat → Prop} {bs : List (Option Nat × Obj)} {ow : List (Value × List ai)} {ts : List (Value × List ai)} {ro : List (Addr × Value)}
theorem qQ {N : Tmp} (hd : op.dst = some N) (hgd : op.guard = none) (x : ai) {A : Option Addr} {c b : Nat} (S : St w P bs ow ts ro W) (hV : Kd.V k26 26 W b P' (.slice A x.f3.length c) x.f3)
  (hrun : (execOp a.eval op).run Pr W = .ok (.value (.slice (some ⟨W.heap.size, 0, none⟩) 1 1)) (W.alloc (.cells (iy x A c).toArray 26)))
  (h : ∀ A1 c1 w1, St w P bs ow ts ro w1 → 1 ≤ c1 → Kd.C k26 w1 A1 1 [x] → wpList Pr ops Q rest (a.put op.dst (.slice A1 1 c1)) w1) : wpList Pr ops Q (op :: rest) a W := by
 obtain ⟨_, hl, hF⟩ := Kd.DK hV
 refine Kd.Bd k26 (w0 := W) W.heap.size 26 hgd hd (xs := [x]) (inner := iy x A c) (ok := fun _ => True) (gz := P') hrun (dC.c7 (pY W P' x hl hF) (dC.none _ _)) (fun _ _ => trivial) trivial (Below.refl _ _) (Nat.le_refl _) (by simp) ?_
 intro v1 w1 hN _ hg _
 obtain ⟨A1, c1, rfl⟩ := Kd.jO hN
 exact h A1 c1 w1 (S.call (vC hg)) (Kd.jw hN).2.1 (Kd.jw hN).2.2
end
abbrev EJ (w : World) (P : Nat → Prop) (z : ai) (n : Int) (e : Ending) (w' : World) : Prop := ∃ A c, e = .returned (.tuple #[.agg #[.int .u8 z.f0, .int .i64 z.f1.f0, .int .i64 z.f1.f1, .int .i64 z.f1.f2, .int .i64 z.f1.f3, .int .i64 z.f2, .slice A z.f3.length c], .int .i64 n]) ∧ Kd.N k26 26 w' w.heap.size (fun k => P k ∨ w.heap.size ≤ k) (.slice A z.f3.length c) z.f3 ∧ Below w.heap.size w w'
noncomputable def sQ (ax : Int) (c : ai) : Bool := !dF c || (ax != 1 && ax != 2)
noncomputable def yj (ax : Int) (c : ai) (b : Int) : Bool := decide (b < wrap64 (-(dI ax c))) || decide (b > wrap64 (10000 - aQ ax ⟨0, 0, wrap64 (c.f1.f0 + c.f1.f2), wrap64 (c.f1.f1 + c.f1.f3)⟩))
noncomputable def aN (ax : Int) (c : ai) (b : Int) : Int := if sQ ax c = true then 1 else if yj ax c b = true then 7 else 0
noncomputable def aZ (ax : Int) (c : ai) (b : Int) : ai := if sQ ax c = true then z26 else if yj ax c b = true then z26 else bU (eH ax c b) c.f1.f0 c.f1.f1
theorem ag0 {ax : Int} {c : ai} {b : Int} (h1 : sQ ax c = false) (h2 : yj ax c b = false) : dF c = true ∧ (ax = 1 ∨ ax = 2) ∧ sz c ≤ 20000 ∧ -10000 ≤ b ∧ b ≤ 10000 ∧ -(dI ax c) ≤ b ∧ dI ax c = aQ ax c.f1 - dG ax c ∧ aQ ax c.f1 + b ≤ 10000 := by
 unfold sQ at h1
 simp only [Bool.or_eq_false_iff, Bool.not_eq_false', Bool.and_eq_false_iff, bne_eq_false_iff_eq] at h1
 obtain ⟨ht, hax⟩ := h1
 have hm := kR ht
 have hs := pW hm
 have hB : mP c = true := by
  unfold dF at ht
  simp only [Bool.and_eq_true] at ht
  exact ht.2
 have f := (E8 hax (sz c) c (Nat.le_refl _) hs (oL hm)).2 hB
 have f1 := (E8 hax (sz c) c (Nat.le_refl _) hs (oL hm)).1
 have hr := uD (lM (oL hm))
 have r := oO hr hax
 have hg : dI ax c = aQ ax c.f1 - dG ax c := by
  unfold dI
  rw [if_pos ⟨hax, ht⟩]
  unfold wrap64
  omega
 unfold yj at h2
 simp only [Bool.or_eq_false_iff, decide_eq_false_iff_not] at h2
 have hw1 : wrap64 (-(dI ax c)) = -(dI ax c) := by rw [hg]; unfold wrap64; omega
 have hq : 0 ≤ c.f1.f0 ∧ 0 ≤ c.f1.f1 ∧ c.f1.f0 + c.f1.f2 ≤ 10000 ∧ c.f1.f1 + c.f1.f3 ≤ 10000 ∧ 1 ≤ c.f1.f2 ∧ 1 ≤ c.f1.f3 := by
  unfold lV qN at hr
  simp only [Bool.and_eq_true, decide_eq_true_eq] at hr
  omega
 have he : aQ ax ⟨0, 0, wrap64 (c.f1.f0 + c.f1.f2), wrap64 (c.f1.f1 + c.f1.f3)⟩ = (if ax = 1 then c.f1.f0 else c.f1.f1) + aQ ax c.f1 := by
  unfold aQ
  rcases hax with rfl | rfl
  ·simp only [if_true]; unfold wrap64; omega
  ·simp only [show ¬ ((2 : Int) = 1) by decide, if_false, if_true]; unfold wrap64; omega
 rw [hw1, he] at h2
 have hw2 : wrap64 (10000 - ((if ax = 1 then c.f1.f0 else c.f1.f1) + aQ ax c.f1)) = 10000 - ((if ax = 1 then c.f1.f0 else c.f1.f1) + aQ ax c.f1) := by unfold wrap64; split <;> omega
 rw [hw2] at h2
 refine ⟨ht, hax, hs, ?_, ?_, ?_, hg, ?_⟩ <;> (split at h2 <;> omega)
end Go.Proofs.YtfdmfgaiblfbhaaGreat.P
namespace Go.Proofs.YtfdmfgaiblfbhaaGreat.Pure
open Go.RowKit Go.Proofs.YtfdmfgaiblfbhaaGreat.P Go.Proofs.ag.aU Go.Proofs.ag.bK Go.Proofs.ag.cO
theorem AX : ∀ (a b : List ai), fA (a ++ b) = true → fA b = true := by
 intro a
 induction a with
 | nil => intro b h; exact h
 | cons x xs ih =>
  intro b h
  rw [List.cons_append] at h
  simp only [fA, Bool.and_eq_true] at h
  exact ih b h.2
theorem FU (a b : List ai) (h : fA (a ++ b) = true) : fA a = true := by
 cases ha : fA a with
 | true => rfl
 | false => rw [AV a b ha] at h; cases h
theorem afg {c x : ai} (h : mZ c = true) (hx : x ∈ c.f3) : mZ x = true := by
 have hs := pW h
 have hok := oL h
 have h1 := LC hx
 have h2 := bJ c
 have hd : fA (gX c) = true := by
  unfold mZ at h
  simp only [Bool.and_eq_true] at h
  exact h.2.2
 unfold mZ
 rw [decide_eq_true (by omega), xU hok hx, Bool.true_and, Bool.true_and]
 obtain ⟨p, q, e⟩ := List.append_of_mem hx
 have e2 : fU c = (c :: allL p) ++ (fU x ++ allL q) := by rw [lZ, e, uf, iE]; rfl
 unfold gX at hd ⊢
 rw [e2, List.filter_append, List.filter_append] at hd
 exact FU _ _ (AX _ _ hd)
theorem rO {c x : ai} (h : dF c = true) (hx : x ∈ c.f3) : dF x = true := by
 have hm := kR h
 unfold dF at h ⊢
 simp only [Bool.and_eq_true] at h
 rw [afg hm hx, DU h.2 hx]
 rfl
theorem mO {ax : Int} (hax : ax = 1 ∨ ax = 2) {c : ai} (h : dF c = true) : dI ax c = aQ ax c.f1 - dG ax c ∧ 0 ≤ aQ ax c.f1 - dG ax c ∧ 1 ≤ dG ax c ∧ aQ ax c.f1 ≤ 10000 := by
 have hm := kR h
 have hB : mP c = true := by
  unfold dF at h
  simp only [Bool.and_eq_true] at h
  exact h.2
 have f := E8 hax (sz c) c (Nat.le_refl _) (pW hm) (oL hm)
 have g := f.2 hB
 have r := oO (uD (lM (oL hm))) hax
 unfold dI
 rw [if_pos ⟨hax, h⟩, wq (by omega) (by omega)]
 omega
end Go.Proofs.YtfdmfgaiblfbhaaGreat.Pure
namespace Go.Proofs.YtfdmfgaiblfbhaaGreat.P
open Go.RowKit Go.Proofs.ag.aU Go.Proofs.ag.bK Go.Proofs.ag.cO
theorem O8 {c : ai} (hk : c.f0 = 2 ∨ c.f0 = 3) : kM c = c.f3.map (fun k => aQ (c.f0 - 1) k.f1) := by
 unfold kM
 apply List.map_congr_left
 intro k _
 unfold szK tV aQ
 rcases hk with h | h
 ·rw [if_pos h, if_pos (by omega)]
 ·rw [if_neg (by omega), if_neg (by omega), if_pos (by omega)]
theorem Vf {a : Int} (ha : a = 2 ∨ a = 3) (r : dW) : tX (a - 1) r.f2 r.f3 = aQ (a - 1) r ∧ tX (a - 1) r.f3 r.f2 = aQ (4 - a) r := by
 rcases ha with h | h <;> simp [tX, aQ, h]
theorem adx (c : ai) (hk : c.f0 = 2 ∨ c.f0 = 3) (hm : lV c.f1 = true) (hl : c.f3.length ≤ 20000) (hne : 0 < c.f3.length) (hs : (c.f3.map (fun k => aQ (c.f0 - 1) k.f1)).sum + (c.f3.length : Int) - 1 = aQ (c.f0 - 1) c.f1) (hp : ∀ k, k ∈ c.f3 → 1 ≤ aQ (c.f0 - 1) k.f1) : (AU c).2.2 = true := by
 have ha : A8 c.f0 = c.f0 - 1 := by unfold A8; omega
 have hax : A8 c.f0 = 1 ∨ A8 c.f0 = 2 := by omega
 have hlen : (kM c).length = c.f3.length := by simp [kM]
 have hm' : qN c.f1.f0 c.f1.f1 c.f1.f2 c.f1.f3 = true := hm
 have hsz := O8 hk
 exact adv hax hm' (fun e => by rw [e] at hlen; simp at hlen; omega) (by rw [hlen, hsz, ha, (Vf hk c.f1).1]; omega) (fun m hm => by
  rw [hsz] at hm
  obtain ⟨k, hk2, rfl⟩ := List.mem_map.1 hm
  exact hp k hk2)
theorem Zn (a X Y W H : Int) (ha : a = 2 ∨ a = 3) (hX : 0 ≤ X ∧ X ≤ 10000) (hY : 0 ≤ Y ∧ Y ≤ 10000) : ∀ (l : List ai) (off : Int), 0 ≤ off → off + (l.map (fun k => aQ (a - 1) k.f1)).sum + (l.length : Int) ≤ 1000000 →
  (∀ k, k ∈ l → 1 ≤ aQ (a - 1) k.f1 ∧ aQ (4 - a) k.f1 = tX (a - 1) H W) →
  vw (fun k r => o7 k.f1 r) (lg a l (if a = 2 then X + off else X) (if a = 2 then Y else Y + off)) (AQ (a - 1) X Y W H off (l.map (fun k => aQ (a - 1) k.f1))) = true := by
 intro l
 induction l with
 | nil => intro off _ _ _; rw [nG]; rfl
 | cons k ks ih =>
  intro off h0 hs hk
  have h1 := hk k (by simp)
  have hp := NY (ks.map (fun k => aQ (a - 1) k.f1)) (fun m hm => by
   obtain ⟨q, hq, rfl⟩ := List.mem_map.1 hm
   exact (hk q (by simp [hq])).1)
  rw [List.length_map] at hp
  rw [List.map_cons, List.sum_cons, List.length_cons] at hs
  have e := ih (off + aQ (a - 1) k.f1 + 1) (by omega) (by omega) (fun q hq => hk q (by simp [hq]))
  have hb : off + aQ (a - 1) k.f1 ≤ 1000000 := by omega
  rw [rH, List.map_cons]
  simp only [AQ, vw, Bool.and_eq_true]
  rcases ha with rfl | rfl
  ·have hx : xB 2 k (X + off) = X + (off + aQ (2 - 1) k.f1 + 1) := by
    simp only [xB, aQ] at h1 hb ⊢
    simp at h1 hb ⊢
    rw [wp (x := k.f1.f2 + 1) (by omega) (by omega), wp (by omega) (by omega)]
    omega
   refine ⟨GX.2 ?_, ?_⟩
   ·rw [ou]
    simp [tX, aQ] at h1 ⊢
    exact h1.2
   ·simp only [if_true] at e ⊢
    rw [hx]
    exact e
  ·have hy : xC 3 k (Y + off) = Y + (off + aQ (3 - 1) k.f1 + 1) := by
    simp only [xC, aQ] at h1 hb ⊢
    simp at h1 hb ⊢
    rw [wp (x := k.f1.f3 + 1) (by omega) (by omega), wp (by omega) (by omega)]
    omega
   refine ⟨GX.2 ?_, ?_⟩
   ·rw [ou]
    simp [tX, aQ] at h1 ⊢
    exact h1.2
   ·simp only [show ¬ ((3 : Int) = 2) by decide, if_false] at e ⊢
    rw [hy]
    exact e
theorem ajm (a : Int) (r : dW) (ha : a = 2 ∨ a = 3) (hr : lV r = true) : ∀ (l : List ai) (off : Int), 0 ≤ off → off + (l.map (fun k => aQ (a - 1) k.f1)).sum + (l.length : Int) - 1 ≤ aQ (a - 1) r →
  (∀ k, k ∈ l → 1 ≤ aQ (a - 1) k.f1 ∧ aQ (4 - a) k.f1 = aQ (4 - a) r) →
  ∀ z, z ∈ lg a l (if a = 2 then r.f0 + off else r.f0) (if a = 2 then r.f1 else r.f1 + off) → ∃ k, k ∈ l ∧ ∃ x y, z = bU k x y ∧ lV ⟨x, y, k.f1.f2, k.f1.f3⟩ = true := by
 have hm := xR.1 hr
 intro l
 induction l with
 | nil => intro off _ _ _ z hz; rw [nG] at hz; cases hz
 | cons k ks ih =>
  intro off h0 hs hk z hz
  have h1 := hk k (by simp)
  have hp := NY (ks.map (fun k => aQ (a - 1) k.f1)) (fun m hm => by
   obtain ⟨q, hq, rfl⟩ := List.mem_map.1 hm
   exact (hk q (by simp [hq])).1)
  rw [List.length_map] at hp
  rw [List.map_cons, List.sum_cons, List.length_cons] at hs
  have hb : off + aQ (a - 1) k.f1 ≤ aQ (a - 1) r := by omega
  rw [rH] at hz
  rcases List.mem_cons.1 hz with rfl | hz
  ·refine ⟨k, by simp, _, _, rfl, xR.2 ?_⟩
   rcases ha with rfl | rfl
   ·simp [aQ] at h1 hb hm ⊢
    omega
   ·simp [aQ] at h1 hb hm ⊢
    omega
  ·have e : ∃ q, q ∈ ks ∧ ∃ x y, z = bU q x y ∧ lV ⟨x, y, q.f1.f2, q.f1.f3⟩ = true := by
    refine ih (off + aQ (a - 1) k.f1 + 1) (by omega) (by omega) (fun q hq => hk q (by simp [hq])) z ?_
    rcases ha with rfl | rfl
    ·have hx : xB 2 k (r.f0 + off) = r.f0 + (off + aQ (2 - 1) k.f1 + 1) := by
      simp [xB, aQ] at h1 hb hm ⊢
      rw [wp (x := k.f1.f2 + 1) (by omega) (by omega), wp (by omega) (by omega)]
      omega
     simp only [if_true] at hz ⊢
     rw [hx] at hz
     exact hz
    ·have hy : xC 3 k (r.f1 + off) = r.f1 + (off + aQ (3 - 1) k.f1 + 1) := by
      simp [xC, aQ] at h1 hb hm ⊢
      rw [wp (x := k.f1.f3 + 1) (by omega) (by omega), wp (by omega) (by omega)]
      omega
     simp only [show ¬ ((3 : Int) = 2) by decide, if_false] at hz ⊢
     rw [hy] at hz
     exact hz
   obtain ⟨q, hq, e⟩ := e
   exact ⟨q, by simp [hq], e⟩
def zq (c : ai) : Prop := (fU c).all mg = true ∧ mP c = true
theorem Jn {c : ai} (h1 : mg c = true) (h2 : pz c = true) (hk : ∀ k, k ∈ c.f3 → zq k) : zq c := by
 refine ⟨?_, ?_⟩
 ·rw [lZ, List.all_cons, h1, Bool.true_and]
  have : ∀ l : List ai, (∀ k, k ∈ l → zq k) → (allL l).all mg = true := by
   intro l
   induction l with
   | nil => intro _; rw [kS]; rfl
   | cons x xs ih => intro h; rw [iE, List.all_append, (h x (by simp)).1, ih (fun k hk => h k (by simp [hk]))]; rfl
  exact this c.f3 hk
 ·rw [vO, h2, Bool.true_and]
  exact List.all_eq_true.2 fun k hk2 => (hk k hk2).2
theorem O0 (a : Int) (r : dW) (l : List ai) (ha : a = 2 ∨ a = 3) (hr : lV r = true) (hl : 2 ≤ l.length) (hl2 : l.length ≤ 20000) (hs : (l.map (fun k => aQ (a - 1) k.f1)).sum + (l.length : Int) - 1 = aQ (a - 1) r)
  (hk : ∀ k, k ∈ l → 1 ≤ aQ (a - 1) k.f1 ∧ aQ (4 - a) k.f1 = aQ (4 - a) r) (hg : ∀ k, k ∈ l → ∀ x y, lV ⟨x, y, k.f1.f2, k.f1.f3⟩ = true → zq (bU k x y)) : zq ⟨a, r, 0, lg a l r.f0 r.f1⟩ := by
 have hm := xR.1 hr
 have hsz : ∀ (l : List ai) (x y : Int) (f : ai → Int), (∀ k x y, f (bU k x y) = f k) → (lg a l x y).map f = l.map f := by
  intro l
  induction l with
  | nil => intro x y f _; rw [nG]
  | cons k ks ih => intro x y f hf; rw [rH, List.map_cons, List.map_cons, ih _ _ f hf, hf]
 have hin := ajm a r ha hr l 0 (by omega) (by omega) hk
 have aiG := Zn a r.f0 r.f1 r.f2 r.f3 ha (by omega) (by omega) l 0 (by omega) (by have := oO hr (ax := a - 1) (by omega); omega) (fun k h => by rw [(Vf ha r).2]; exact hk k h)
 have hxy : (if a = 2 then r.f0 + 0 else r.f0) = r.f0 ∧ (if a = 2 then r.f1 else r.f1 + 0) = r.f1 := by constructor <;> split <;> omega
 rw [hxy.1, hxy.2] at hin aiG
 have hmap : ∀ l x y, (lg a l x y).map (fun k => aQ (a - 1) k.f1) = l.map (fun k => aQ (a - 1) k.f1) := fun l x y => hsz l x y _ (fun k x y => by rw [ou]; rfl)
 refine Jn ?_ ?_ (fun z hz => ?_)
 ·unfold mg
  simp only [hr, nD, Bool.true_and]
  rw [decide_eq_true (show 1 ≤ a ∧ a ≤ 3 by omega), decide_eq_true (show a = 1 → l.length = 0 ∧ (0 : Int) ≤ 0 ∧ (0 : Int) ≤ 2147483647 from fun h => by omega), decide_eq_true (show a > 1 → 2 ≤ l.length ∧ True from fun _ => ⟨hl, trivial⟩)]
  rfl
 ·have ht : (AU ⟨a, r, 0, lg a l r.f0 r.f1⟩).2.2 = true := adx _ ha hr (by rw [nD]; exact hl2) (by rw [nD]; omega) (by simp only []; rw [hmap, nD]; exact hs) (fun k hk2 => by
   obtain ⟨q, hq, x, y, rfl, _⟩ := hin k hk2
   rw [ou]
   exact (hk q hq).1)
  obtain ⟨_, gp, _, _⟩ := Gp ht
  rw [O8 (c := ⟨a, r, 0, lg a l r.f0 r.f1⟩) ha] at gp
  simp only [] at gp
  rw [hmap, show A8 a = a - 1 by unfold A8; omega] at gp
  unfold pz Fb
  rw [ht, gp, aiG]
  simp only [Bool.true_and, Bool.and_true, Bool.or_eq_true]
  right
  have : ∀ (ns : List Int) (off : Int), (AQ (a - 1) r.f0 r.f1 r.f2 r.f3 off ns).length = ns.length := fun ns off => Rl _ _ _ _ _ ns off
  rw [this, List.length_map, nD]
  simp
 ·obtain ⟨q, hq, x, y, rfl, hm2⟩ := hin z hz
  exact hg q hq x y hm2
theorem Hr (l : List Int) : total l = l.sum := by
 induction l with
 | nil => rfl
 | cons x xs ih => simp only [total, List.sum_cons, ih]
theorem ajo {b : Int} {gs : List Int} (hl : gs.length ≤ 100000) (h0 : -2147483647 ≤ b) (h1 : b ≤ 2147483647) (hg : ∀ g, g ∈ gs → 0 ≤ g ∧ g ≤ 2147483647) (hne : gs ≠ []) (hb : -gs.sum ≤ b) :
  (oP b gs).2 = true ∧ (oP b gs).1.length = gs.length ∧ (oP b gs).1.sum = b ∧ ∀ p, p ∈ gs.zip (oP b gs).1 → -p.1 ≤ p.2 := by
 rcases (zY b gs hl h0 h1).1 with ⟨e, h⟩ | ⟨e, _, _, hb0⟩ | ⟨qs, e, _, _, hq, hgd, _, ho, _⟩
 ·exfalso
  rw [Hr] at h
  rcases h with h | h | h
  ·exact hne h
  ·exact h hg
  ·omega
 ·rw [e]
  refine ⟨rfl, vI _ _, ?_, ?_⟩
  ·rw [← Hr]
   exact TZ b gs.length hb0 (List.length_pos_iff.2 hne)
  ·intro p hp
   obtain ⟨a1, a2⟩ := List.of_mem_zip hp
   have h2 := hg _ a1
   simp only [moreL, List.mem_map, List.mem_range] at a2
   obtain ⟨i, _, e2⟩ := a2
   have hn : (0 : Int) < (gs.length : Int) := by have := List.length_pos_iff.2 hne; omega
   have hd : 0 ≤ b / (gs.length : Int) := Int.ediv_nonneg hb0 (by omega)
   unfold lS at e2
   split at e2 <;> omega
 ·rw [e]
  refine ⟨rfl, by rw [← hq]; simp, by rw [← Hr, ← Wh]; exact ho, fun p hp => ?_⟩
  simp only [] at hp
  rw [← hq, List.zip_map'] at hp
  obtain ⟨q, hq2, rfl⟩ := List.mem_map.1 hp
  exact (hgd q hq2).2.2.1
theorem Qr (ax : Int) : ∀ (l : List ai) (ss : List Int) (ns : Nat → Int) (i : Nat), ss.length = l.length → (∀ j, j < l.length → ns (i + j) = ss.getD j 0) → kL ax l ns i = (l.zip ss).map fun p => eH ax p.1 p.2 := by
 intro l
 induction l with
 | nil => intro ss ns i _ _; rw [rQ]; rfl
 | cons k ks ih =>
  intro ss ns i hl hn
  cases ss with
  | nil => simp at hl
  | cons s ss =>
   have h0 := hn 0 (by simp)
   rw [Nat.add_zero] at h0
   rw [xN, List.zip_cons_cons, List.map_cons, h0, ih ss ns (i + 1) (by simpa using hl) (fun j hj => by
    have := hn (j + 1) (by simpa using hj)
    rw [show i + 1 + j = i + (j + 1) by omega, this]
    rfl)]
   rfl
theorem Vo (f : ai → Int) : ∀ (l : List ai) (ss : List Int), ss.length = l.length → ((l.zip ss).map fun p => f p.1 + p.2).sum = (l.map f).sum + ss.sum := by
 intro l
 induction l with
 | nil => intro ss h; cases ss with
  | nil => rfl
  | cons s ss => simp at h
 | cons k ks ih =>
  intro ss h
  cases ss with
  | nil => simp at h
  | cons s ss =>
   rw [List.zip_cons_cons, List.map_cons, List.map_cons, List.sum_cons, List.sum_cons, List.sum_cons, ih ss (by simpa using h)]
   show f k + s + _ = _
   omega
theorem zip_fst (f : ai → Int) : ∀ (l : List ai) (ss : List Int), ss.length = l.length → ((l.zip ss).map fun p => f p.1) = l.map f := by
 intro l
 induction l with
 | nil => intro ss h; rfl
 | cons k ks ih =>
  intro ss h
  cases ss with
  | nil => simp at h
  | cons s ss => rw [List.zip_cons_cons, List.map_cons, List.map_cons, ih ss (by simpa using h)]
theorem Gs {ax : Int} (hax : ax = 1 ∨ ax = 2) {r : dW} {b : Int} (h0 : 0 ≤ aQ ax r + b) (h1 : aQ ax r + b ≤ 100000) : aQ ax (grow ax b r) = aQ ax r + b ∧ aQ (3 - ax) (grow ax b r) = aQ (3 - ax) r := by
 rcases hax with rfl | rfl
 ·simp [aQ, grow] at h0 h1 ⊢
  exact wp (by omega) (by omega)
 ·simp [aQ, grow] at h0 h1 ⊢
  exact wp (by omega) (by omega)
theorem JI {c : ai} (h : dF c = true) : mP c = true := by
 unfold dF at h
 simp only [Bool.and_eq_true] at h
 exact h.2
theorem acL {c : ai} (h : mg c = true) (hk : c.f0 = 2 ∨ c.f0 = 3) : c.f2 = 0 := by
 unfold mg at h
 simp only [Bool.and_eq_true, decide_eq_true_eq] at h
 exact (h.2 (by omega)).2
theorem YK {ax : Int} (hax : ax = 1 ∨ ax = 2) : ∀ (N : Nat) (c : ai), sz c ≤ N → dF c = true → ∀ b, dG ax c ≤ aQ ax c.f1 + b → aQ ax c.f1 + b ≤ 10000 → ∀ x y, lV ⟨x, y, (grow ax b c.f1).f2, (grow ax b c.f1).f3⟩ = true → zq (bU (eH ax c b) x y) := by
 intro N
 induction N with
 | zero => intro c h; rw [bJ] at h; omega
 | succ N ih =>
  intro c hc ht b hb1 hb2 x y hr
  have hm := kR ht
  have hok := lM (oL hm)
  have hsm := pW hm
  have hB := JI ht
  have hsz := bJ c
  have hlen := jf c.f3
  rw [yP, ou]
  simp only []
  rcases qm hok with ⟨h1, h2⟩ | ⟨h1, h2⟩
  ·rw [List.eq_nil_of_length_eq_zero h2, rQ, nG]
   refine Jn ?_ ?_ (fun k hk => by cases hk)
   ·unfold mg at hok ⊢
    simp only [Bool.and_eq_true, decide_eq_true_eq, h1] at hok ⊢
    exact ⟨⟨⟨hr, by omega⟩, fun _ => ⟨rfl, (hok.1.2 trivial).2⟩⟩, fun h => by omega⟩
   ·unfold pz Fb
    simp [h1]
  ·have XV : pz c = true := by rw [vO, Bool.and_eq_true] at hB; exact hB.1
   obtain ⟨g1, g2⟩ := E5 XV h1 (by omega)
   have Js : ∀ k, k ∈ c.f3 → sz k ≤ N ∧ dF k = true ∧ dI ax k = aQ ax k.f1 - dG ax k ∧ 0 ≤ aQ ax k.f1 - dG ax k ∧ 1 ≤ dG ax k ∧ aQ ax k.f1 ≤ 10000 ∧ ∀ a, a = 1 ∨ a = 2 → 1 ≤ aQ a k.f1 := fun k hk => by
    have q := Pure.rO ht hk
    have q2 := Pure.mO hax q
    have q3 := LC hk
    exact ⟨by omega, q, q2.1, q2.2.1, q2.2.2.1, q2.2.2.2, fun a ha => (oO (uD (lM (oL (kR q)))) ha).1⟩
   rw [acL hok h1]
   have hw1 : 0 ≤ aQ ax c.f1 + b := by
    have := (Pure.mO hax ht).2.2.1
    omega
   have hgr := Gs hax (r := c.f1) (b := b) hw1 (by omega)
   have fin : ∀ ss : List Int, ss.length = c.f3.length → kL ax c.f3 (IU ax c.f0 c.f3 b) 0 = (c.f3.zip ss).map (fun p => eH ax p.1 p.2) → (∀ p, p ∈ c.f3.zip ss → dG ax p.1 ≤ aQ ax p.1.f1 + p.2 ∧ aQ ax p.1.f1 + p.2 ≤ 10000) →
     (c.f0 - 1 = ax → ss.sum = b) → (4 - c.f0 = ax → ∀ p, p ∈ c.f3.zip ss → p.2 = b) → zq ⟨c.f0, ⟨x, y, (grow ax b c.f1).f2, (grow ax b c.f1).f3⟩, 0, lg c.f0 (kL ax c.f3 (IU ax c.f0 c.f3 b) 0) x y⟩ := by
    intro ss hss RG hp hal hcr
    have hf1 : ∀ p : ai × Int, (eH ax p.1 p.2).f1 = grow ax p.2 p.1.f1 := fun p => by rw [yP]
    have hpk : ∀ p, p ∈ c.f3.zip ss → p.1 ∈ c.f3 := fun p hq => (List.of_mem_zip hq).1
    have hps : ∀ p, p ∈ c.f3.zip ss → aQ ax (eH ax p.1 p.2).f1 = aQ ax p.1.f1 + p.2 ∧ aQ (3 - ax) (eH ax p.1 p.2).f1 = aQ (3 - ax) p.1.f1 := fun p hq => by
     rw [hf1]
     have := (Js _ (hpk p hq)).2.2.2.2.1
     have := hp p hq
     exact Gs hax (by omega) (by omega)
    rw [RG]
    refine O0 c.f0 ⟨x, y, (grow ax b c.f1).f2, (grow ax b c.f1).f3⟩ _ h1 hr (by simp [hss]; omega) (by simp [hss]; omega) ?_ ?_ ?_
    ·have e0 : ∀ a, aQ a ⟨x, y, (grow ax b c.f1).f2, (grow ax b c.f1).f3⟩ = aQ a (grow ax b c.f1) := fun a => rfl
     rw [e0, List.map_map, List.length_map, List.length_zip, hss, Nat.min_self]
     by_cases e : c.f0 - 1 = ax
     ·rw [e] at g1 ⊢
      have e2 : List.map ((fun k => aQ ax k.f1) ∘ fun p : ai × Int => eH ax p.1 p.2) (c.f3.zip ss) = List.map (fun p => aQ ax p.1.f1 + p.2) (c.f3.zip ss) := List.map_congr_left (fun p hq => (hps p hq).1)
      rw [hgr.1, e2, Vo (fun k => aQ ax k.f1) _ _ hss, hal e]
      omega
     ·have e2 : c.f0 - 1 = 3 - ax := by omega
      rw [e2] at g1 ⊢
      have e3 : List.map ((fun k => aQ (3 - ax) k.f1) ∘ fun p : ai × Int => eH ax p.1 p.2) (c.f3.zip ss) = List.map (fun p => aQ (3 - ax) p.1.f1) (c.f3.zip ss) := List.map_congr_left (fun p hq => (hps p hq).2)
      rw [hgr.2, e3, zip_fst (fun k => aQ (3 - ax) k.f1) _ _ hss]
      exact g1
    ·intro k hk
     obtain ⟨p, hq, rfl⟩ := List.mem_map.1 hk
     have q1 := hps p hq
     have q2 := Js _ (hpk p hq)
     have q3 := hp p hq
     have q4 := g2 _ (hpk p hq)
     have e0 : ∀ a, aQ a ⟨x, y, (grow ax b c.f1).f2, (grow ax b c.f1).f3⟩ = aQ a (grow ax b c.f1) := fun a => rfl
     rw [e0]
     by_cases e : c.f0 - 1 = ax
     ·rw [show 4 - c.f0 = 3 - ax by omega, e, hgr.2, q1.1, q1.2]
      rw [show 3 - (c.f0 - 1) = 3 - ax by omega] at q4
      exact ⟨by omega, q4⟩
     ·have e2 : c.f0 - 1 = 3 - ax := by omega
      have e3 : 4 - c.f0 = ax := by omega
      rw [e2, e3, hgr.1, q1.1, q1.2]
      rw [show 3 - (c.f0 - 1) = ax by omega] at q4
      exact ⟨q2.2.2.2.2.2.2 _ (by omega), by rw [q4, hcr e3 p hq]⟩
    ·intro k hk x' y' hm2
     obtain ⟨p, hq, rfl⟩ := List.mem_map.1 hk
     have q2 := Js _ (hpk p hq)
     have q3 := hp p hq
     rw [hf1] at hm2
     exact ih p.1 q2.1 q2.2.1 p.2 q3.1 q3.2 x' y' hm2
   have hrs := oO hr hax
   rw [show aQ ax ⟨x, y, (grow ax b c.f1).f2, (grow ax b c.f1).f3⟩ = aQ ax (grow ax b c.f1) from rfl, hgr.1] at hrs
   by_cases e : c.f0 - 1 = ax
   ·have ha : iF ax c.f0 = true := by
     unfold iF
     simp
     omega
    have hgs : c.f3.map (dI ax) = c.f3.map (fun k => aQ ax k.f1 - dG ax k) := List.map_congr_left (fun k hk => (Js k hk).2.2.1)
    have hsub : ∀ l : List ai, (l.map (fun k => aQ ax k.f1 - dG ax k)).sum = (l.map (fun k => aQ ax k.f1)).sum - oz ax l := by
     intro l
     induction l with
     | nil => rw [vN]; rfl
     | cons k ks ihk => rw [List.map_cons, List.map_cons, List.sum_cons, List.sum_cons, rM, ihk]; omega
    rw [rq, if_neg (by omega), ha, if_pos rfl] at hb1
    rw [e] at g1
    obtain ⟨s1, s2, s3, s4⟩ := ajo (b := b) (gs := c.f3.map (dI ax)) (by simp; omega) (by have := oO (uD hok) hax; omega) (by have := oO (uD hok) hax; omega) (fun g hg => by
     obtain ⟨k, hk, rfl⟩ := List.mem_map.1 hg
     have := Js k hk
     omega) (fun h => by rw [List.map_eq_nil_iff] at h; rw [h] at h2; simp at h2) (by rw [hgs, hsub]; omega)
    rw [List.length_map] at s2
    have hz : ∀ p, p ∈ c.f3.zip (oP b (c.f3.map (dI ax))).1 → -(dI ax p.1) ≤ p.2 := fun p hp => s4 (dI ax p.1, p.2) (by
     rw [List.zip_map_left]
     exact List.mem_map.2 ⟨p, hp, rfl⟩)
    have hle : ∀ p, p ∈ c.f3.zip (oP b (c.f3.map (dI ax))).1 → dG ax p.1 ≤ aQ ax p.1.f1 + p.2 := fun p hp => by
     have q1 := hz p hp
     have q2 := Js p.1 (List.of_mem_zip hp).1
     omega
    refine fin (oP b (c.f3.map (dI ax))).1 s2 (Qr ax _ _ _ _ s2 (fun j hj => ?_)) (fun p hp => ⟨hle p hp, ?_⟩) (fun _ => s3) (fun h => by omega)
    ·rw [Nat.zero_add]
     unfold IU
     rw [if_pos ⟨s1, ha⟩]
     rfl
    ·
     have q := Vo (fun k => aQ ax k.f1) c.f3 (oP b (c.f3.map (dI ax))).1 s2
     rw [s3] at q
     obtain ⟨u, v, huv⟩ := List.append_of_mem hp
     have hpos : ∀ z : List (ai × Int), (∀ p, p ∈ z → p ∈ c.f3.zip (oP b (c.f3.map (dI ax))).1) → 0 ≤ (z.map fun p => aQ ax p.1.f1 + p.2).sum := by
      intro z
      induction z with
      | nil => intro _; simp
      | cons w ws ihw =>
       intro hw
       have a1 := ihw (fun p hp => hw p (by simp [hp]))
       have a2 := hle w (hw w (by simp))
       have a3 := (Js w.1 (List.of_mem_zip (hw w (by simp))).1).2.2.2.2.1
       rw [List.map_cons, List.sum_cons]
       omega
     have p1 := hpos u (fun p hp => by rw [huv]; simp [hp])
     have p2 := hpos v (fun p hp => by rw [huv]; simp [hp])
     rw [huv, List.map_append, List.map_cons, List.sum_append, List.sum_cons] at q
     omega
   ·have ha : iF ax c.f0 = false := by
     unfold iF
     simp
     omega
    have e3 : 4 - c.f0 = ax := by omega
    rw [rq, if_neg (by omega), ha, if_neg (by simp)] at hb1
    have ak8 : ∀ k, k ∈ c.f3 → dG ax k ≤ nR ax 0 c.f3 := fun k hk => by
     obtain ⟨u, v, huv⟩ := List.append_of_mem hk
     rw [huv, YX, mJ]
     exact Int.le_trans (YO _ _) SI
    have hrep : ∀ p, p ∈ c.f3.zip (List.replicate c.f3.length b) → p.2 = b := fun p hp => (List.mem_replicate.1 (List.of_mem_zip hp).2).2
    refine fin (List.replicate c.f3.length b) (by simp) (Qr ax _ _ _ _ (by simp) (fun j hj => ?_)) (fun p hp => ?_) (fun h => absurd h e) (fun _ => hrep)
    ·unfold IU
     rw [if_neg (by rw [ha]; simp)]
     simp [List.getD_eq_getElem?_getD, hj]
    ·have q := (List.of_mem_zip hp).1
     rw [hrep p hp]
     have q1 := ak8 p.1 q
     have q2 := g2 p.1 q
     rw [show 3 - (c.f0 - 1) = ax by omega] at q2
     omega
mutual
inductive qE : ai → ai → Prop
 | node (a : Int) (r r' : dW) (d : Int) (l l' : List ai) : vT l l' → qE ⟨a, r, d, l⟩ ⟨a, r', d, l'⟩
inductive vT : List ai → List ai → Prop
 | nil : vT [] []
 | cons {k k' : ai} {l l' : List ai} : qE k k' → vT l l' → vT (k :: l) (k' :: l')
end
def tag (d : ai) : Int × Int := (d.f0, d.f2)
mutual
theorem GI : ∀ {c d : ai}, qE c d → (fU c).map tag = (fU d).map tag
 | _, _, .node a r r' d l l' h => by
  rw [lZ, lZ, List.map_cons, List.map_cons]
  exact congr (congrArg List.cons rfl) (OX h)
theorem OX : ∀ {l l' : List ai}, vT l l' → (allL l).map tag = (allL l').map tag
 | _, _, .nil => rfl
 | _, _, .cons h hs => by rw [iE, iE, List.map_append, List.map_append, GI h, OX hs]
end
theorem OV : ∀ {l l' : List ai}, vT l l' → l.length = l'.length
 | _, _, .nil => rfl
 | _, _, .cons _ hs => by rw [List.length_cons, List.length_cons, OV hs]
mutual
theorem zC {ax : Int} : ∀ {c d : ai}, qE c d → dG ax c = dG ax d
 | _, _, .node a r r' d l l' h => by
  rw [rq, rq]
  simp only []
  rw [OV h, OW h, KZ h]
theorem OW {ax : Int} : ∀ {l l' : List ai}, vT l l' → oz ax l = oz ax l'
 | _, _, .nil => rfl
 | _, _, .cons h hs => by rw [rM, rM, zC h, OW hs]
theorem KZ {ax : Int} : ∀ {l l' : List ai} {m : Int}, vT l l' → nR ax m l = nR ax m l'
 | _, _, _, .nil => rfl
 | _, _, _, .cons h hs => by rw [mJ, mJ, zC h, KZ hs]
end
theorem Jv {c d : ai} (h : qE c d) : sz c = sz d := by
 have := congrArg List.length (GI h)
 rwa [List.length_map, List.length_map] at this
theorem V9 : ∀ (N : Nat), (∀ c : ai, sz c ≤ N → ∀ d e, qE c d → qE d e → qE c e) ∧ (∀ l : List ai, dY l ≤ N → ∀ m n, vT l m → vT m n → vT l n) := by
 intro N
 induction N with
 | zero =>
  refine ⟨fun c h => by rw [bJ] at h; omega, fun l h m n h1 h2 => ?_⟩
  cases h1 with
  | nil => exact h2
  | cons a b => rw [bH, bJ] at h; omega
 | succ N ih =>
  have hC : ∀ c : ai, sz c ≤ N + 1 → ∀ d e, qE c d → qE d e → qE c e := by
   intro c h d e h1 h2
   cases h1 with
   | node a r r' i l l' h3 =>
    cases h2 with
    | node _ _ r2 _ _ l2 h4 => exact .node _ _ _ _ _ _ (ih.2 l (by rw [bJ] at h; simp only [] at h; omega) _ _ h3 h4)
  refine ⟨hC, fun l => ?_⟩
  induction l with
  | nil => intro _ m n h1 h2; cases h1; exact h2
  | cons x xs ihl =>
   intro h m n h1 h2
   rw [bH] at h
   cases h1 with
   | cons a b =>
    cases h2 with
    | cons a2 b2 => exact .cons (hC x (by omega) _ _ a a2) (ihl (by omega) _ _ b b2)
theorem ZX (ax : Int) : ∀ (N : Nat), (∀ c : ai, sz c ≤ N → ∀ b, qE c (eH ax c b)) ∧ (∀ l : List ai, dY l ≤ N → ∀ ns i, vT l (kL ax l ns i)) := by
 intro N
 induction N with
 | zero =>
  refine ⟨fun c h => by rw [bJ] at h; omega, fun l h ns i => ?_⟩
  cases l with
  | nil => rw [rQ]; exact .nil
  | cons x xs => rw [bH, bJ] at h; omega
 | succ N ih =>
  have hC : ∀ c : ai, sz c ≤ N + 1 → ∀ b, qE c (eH ax c b) := by
   intro c h b
   rw [yP]
   obtain ⟨a, r, d, l⟩ := c
   exact .node _ _ _ _ _ _ (ih.2 l (by rw [bJ] at h; simp only [] at h; omega) _ _)
  refine ⟨hC, fun l => ?_⟩
  induction l with
  | nil => intro _ ns i; rw [rQ]; exact .nil
  | cons x xs ihl =>
   intro h ns i
   rw [bH] at h
   rw [xN]
   exact .cons (hC x (by omega) _) (ihl (by omega) _ _)
theorem JF : ∀ (N : Nat), (∀ c : ai, sz c ≤ N → ∀ x y, qE c (bU c x y)) ∧ (∀ l : List ai, dY l ≤ N → ∀ a x y, vT l (lg a l x y)) := by
 intro N
 induction N with
 | zero =>
  refine ⟨fun c h => by rw [bJ] at h; omega, fun l h a x y => ?_⟩
  cases l with
  | nil => rw [nG]; exact .nil
  | cons x xs => rw [bH, bJ] at h; omega
 | succ N ih =>
  have hC : ∀ c : ai, sz c ≤ N + 1 → ∀ x y, qE c (bU c x y) := by
   intro c h x y
   rw [ou]
   obtain ⟨a, r, d, l⟩ := c
   exact .node _ _ _ _ _ _ (ih.2 l (by rw [bJ] at h; simp only [] at h; omega) _ _ _)
  refine ⟨hC, fun l => ?_⟩
  induction l with
  | nil => intro _ a x y; rw [nG]; exact .nil
  | cons z zs ihl =>
   intro h a x y
   rw [bH] at h
   rw [rH]
   exact .cons (hC z (by omega) _ _) (ihl (by omega) _ _ _)
theorem Rq : ∀ {a b : List ai}, a.map (·.f2) = b.map (·.f2) → fA a = fA b := by
 intro a
 induction a with
 | nil => intro b h; cases b with
  | nil => rfl
  | cons y ys => cases h
 | cons x xs ih =>
  intro b h
  cases b with
  | nil => cases h
  | cons y ys =>
   simp only [List.map_cons, List.cons.injEq] at h
   unfold fA
   rw [ih h.2, h.1]
   congr 1
   have e : ∀ l : List ai, (l.all fun z => decide (z.f2 ≠ y.f2)) = (l.map (·.f2)).all fun i => decide (i ≠ y.f2) := fun l => by rw [List.all_map]; rfl
   rw [e, e, h.2]
theorem aa7 {c d : ai} (h : qE c d) : (gX c).map (·.f2) = (gX d).map (·.f2) := by
 have e : ∀ l : List ai, (l.filter fun x => decide (x.f0 = 1)).map (·.f2) = ((l.map tag).filter fun p => decide (p.1 = 1)).map (·.2) := by
  intro l
  induction l with
  | nil => rfl
  | cons x xs ih =>
   rw [List.map_cons, List.filter_cons, List.filter_cons]
   have ht : (decide ((tag x).1 = 1)) = decide (x.f0 = 1) := rfl
   rw [ht]
   cases decide (x.f0 = 1) with
   | true => simp only [if_true, List.map_cons, ih]; rfl
   | false => simp only [Bool.false_eq_true, if_false, ih]
 unfold gX
 rw [e, e, GI h]
theorem K_ {c d : ai} (h : qE c d) (hc : dF c = true) (hd : zq d) : dF d = true := by
 have hm := kR hc
 unfold mZ at hm
 simp only [Bool.and_eq_true, decide_eq_true_eq] at hm
 unfold dF mZ
 rw [hd.1, hd.2, decide_eq_true (by rw [← Jv h]; exact hm.1), ← Rq (aa7 h), hm.2.2]
 rfl
theorem abD : ∀ (N : Nat) (c : ai), sz c ≤ N → dF c = true → ∀ x y, lV ⟨x, y, c.f1.f2, c.f1.f3⟩ = true → zq (bU c x y) := by
 intro N
 induction N with
 | zero => intro c h; rw [bJ] at h; omega
 | succ N ih =>
  intro c hc ht x y hr
  have hm := kR ht
  have hok := lM (oL hm)
  have hsm := pW hm
  have hB := JI ht
  have hsz := bJ c
  have hlen := jf c.f3
  rw [ou]
  rcases qm hok with ⟨h1, h2⟩ | ⟨h1, h2⟩
  ·rw [List.eq_nil_of_length_eq_zero h2, nG]
   refine Jn ?_ ?_ (fun k hk => by cases hk)
   ·unfold mg at hok ⊢
    simp only [Bool.and_eq_true, decide_eq_true_eq, h1] at hok ⊢
    exact ⟨⟨⟨hr, by omega⟩, fun _ => ⟨rfl, (hok.1.2 trivial).2⟩⟩, fun h => by omega⟩
   ·unfold pz Fb
    simp [h1]
  ·have XV : pz c = true := by rw [vO, Bool.and_eq_true] at hB; exact hB.1
   obtain ⟨g1, g2⟩ := E5 XV h1 (by omega)
   rw [acL hok h1]
   refine O0 c.f0 ⟨x, y, c.f1.f2, c.f1.f3⟩ c.f3 h1 hr h2 (by omega) g1 (fun k hk => ?_) (fun k hk x' y' hm2 => ?_)
   ·have q := Pure.rO ht hk
    have r := uD (lM (oL (kR q)))
    refine ⟨(oO r (by omega)).1, ?_⟩
    have := g2 k hk
    rwa [show 3 - (c.f0 - 1) = 4 - c.f0 by omega] at this
   ·exact ih k (by have := LC hk; omega) (Pure.rO ht hk) x' y' hm2
theorem Zp {c : ai} (h : dF c = true) {x y : Int} (hr : lV ⟨x, y, c.f1.f2, c.f1.f3⟩ = true) : dF (bU c x y) = true :=
 K_ ((JF (sz c)).1 c (Nat.le_refl _) x y) h (abD _ c (Nat.le_refl _) h x y hr)
noncomputable def BF (ax n : Int) (k : ai) : ai := aZ ax (bU k 0 0) n
theorem Xw {ax n : Int} {k : ai} (hax : ax = 1 ∨ ax = 2) (ht : dF k = true) (h0 : -(dI ax k) ≤ n) (h1 : aQ ax k.f1 + n ≤ 10000) :
  dF (BF ax n k) = true ∧ aQ ax (BF ax n k).f1 = aQ ax k.f1 + n ∧ dI ax (BF ax n k) = dI ax k + n ∧ sz (BF ax n k) = sz k := by
 have hm := kR ht
 have hr := xR.1 (show qN k.f1.f0 k.f1.f1 k.f1.f2 k.f1.f3 = true from uD (lM (oL hm)))
 have g := Pure.mO hax ht
 have hz : lV ⟨0, 0, k.f1.f2, k.f1.f3⟩ = true := show qN 0 0 k.f1.f2 k.f1.f3 = true from xR.2 (by omega)
 have ht0 := Zp ht hz
 have e0 : (bU k 0 0).f1 = ⟨0, 0, k.f1.f2, k.f1.f3⟩ := by rw [ou]
 have es : ∀ a, aQ a (bU k 0 0).f1 = aQ a k.f1 := fun a => by rw [e0]; rfl
 have hl0 := (JF (sz k)).1 k (Nat.le_refl _) 0 0
 have g0 := Pure.mO hax ht0
 have el : dG ax (bU k 0 0) = dG ax k := (zC hl0).symm
 rw [es, el] at g0
 have hsz : aQ ax k.f1 = k.f1.f2 ∨ aQ ax k.f1 = k.f1.f3 := by unfold aQ; rcases hax with h | h <;> simp [h]
 have hbad : sQ ax (bU k 0 0) = false := by
  unfold sQ
  rw [ht0]
  rcases hax with h | h <;> simp [h]
 have hout : yj ax (bU k 0 0) n = false := by
  unfold yj
  rw [g0.1, e0]
  simp only []
  have hw : wrap64 (-(aQ ax k.f1 - dG ax k)) = -(aQ ax k.f1 - dG ax k) := by unfold wrap64; omega
  have hs : aQ ax ⟨0, 0, wrap64 (0 + k.f1.f2), wrap64 (0 + k.f1.f3)⟩ = aQ ax k.f1 := by
   rw [show wrap64 (0 + k.f1.f2) = k.f1.f2 by unfold wrap64; omega, show wrap64 (0 + k.f1.f3) = k.f1.f3 by unfold wrap64; omega]
   rfl
  rw [hs, show wrap64 (10000 - aQ ax k.f1) = 10000 - aQ ax k.f1 by unfold wrap64; omega, hw]
  rw [decide_eq_false (by omega), decide_eq_false (by omega)]
  rfl
 have RG : BF ax n k = bU (eH ax (bU k 0 0) n) 0 0 := by
  unfold BF aZ
  rw [hbad, hout, e0]
  simp
 have hgr := Gs hax (r := (bU k 0 0).f1) (b := n) (by rw [es]; omega) (by rw [es]; omega)
 have ef1 : (eH ax (bU k 0 0) n).f1 = grow ax n (bU k 0 0).f1 := by rw [yP]
 have eg : (BF ax n k).f1 = ⟨0, 0, (grow ax n (bU k 0 0).f1).f2, (grow ax n (bU k 0 0).f1).f3⟩ := by rw [RG, ou, ef1]
 have hsize : aQ ax (BF ax n k).f1 = aQ ax k.f1 + n := by rw [eg]; rw [es] at hgr; exact hgr.1
 have hmay : lV ⟨0, 0, (grow ax n (bU k 0 0).f1).f2, (grow ax n (bU k 0 0).f1).f3⟩ = true := by
  show qN 0 0 (grow ax n (bU k 0 0).f1).f2 (grow ax n (bU k 0 0).f1).f3 = true
  refine xR.2 ?_
  have h3 := hgr.1
  have h4 := hgr.2
  rw [es] at h3 h4
  generalize grow ax n (bU k 0 0).f1 = G at h3 h4 ⊢
  have h5 : 1 ≤ aQ ax k.f1 + n := by omega
  unfold aQ at h3 h4 h1 h5
  rcases hax with rfl | rfl
  ·simp at h3 h4 h1 h5; omega
  ·simp at h3 h4 h1 h5; omega
 have ak5 : zq (BF ax n k) := by
  rw [RG]
  exact YK hax _ (bU k 0 0) (Nat.le_refl _) ht0 n (by rw [es, el]; omega) (by rw [es]; omega) 0 0 hmay
 have hl1 : qE (bU k 0 0) (BF ax n k) := by
  rw [RG]
  exact (V9 _).1 _ (Nat.le_refl _) _ _ ((ZX ax _).1 _ (Nat.le_refl _) n) ((JF _).1 _ (Nat.le_refl _) 0 0)
 have htt := K_ hl1 ht0 ak5
 have g1 := Pure.mO hax htt
 refine ⟨htt, hsize, ?_, by rw [← Jv hl1, ← Jv hl0]⟩
 rw [g1.1, hsize, ← zC hl1, el, g.1]
 omega
def kd (L : List ai) (i : Nat) : ai := L.getD i z26
theorem KT {L : List ai} {i : Nat} (h : i < L.length) : kd L i ∈ L := by
 unfold kd
 rw [List.getD_eq_getElem?_getD, List.getElem?_eq_getElem h, Option.getD_some]
 exact List.getElem_mem _
theorem xu (L : List ai) (i : Nat) : aj L (i : Int) = kd L i := by unfold kd aj; rw [Int.toNat_natCast]
theorem SB {L : List ai} {i j : Nat} {k : ai} (h : i < L.length) : kd (L.set i k) j = if j = i then k else kd L j := by
 unfold kd
 rw [List.getD_eq_getElem?_getD, List.getD_eq_getElem?_getD, List.getElem?_set]
 by_cases e : i = j
 ·subst e; rw [if_pos rfl, if_pos rfl, if_pos h]; rfl
 ·rw [if_neg e, if_neg (fun x => e x.symm)]
theorem afA (f : ai → Int) : ∀ {L : List ai} {i : Nat} {k : ai}, i < L.length → ((L.set i k).map f).sum = (L.map f).sum - f (kd L i) + f k := by
 intro L
 induction L with
 | nil => intro i k h; simp at h
 | cons x xs ih =>
  intro i k h
  cases i with
  | zero => simp only [List.set_cons_zero, List.map_cons, List.sum_cons]; show _ = f x + _ - f x + f k; omega
  | succ i =>
   simp only [List.set_cons_succ, List.map_cons, List.sum_cons]
   rw [ih (by simpa using h)]
   show _ = f x + _ - f (kd xs i) + f k
   omega
theorem abK : ∀ {L : List ai} {i : Nat} {k : ai}, i < L.length → sz k = sz (kd L i) → dY (L.set i k) = dY L := by
 intro L
 induction L with
 | nil => intro i k h; simp at h
 | cons x xs ih =>
  intro i k h hs
  cases i with
  | zero => rw [List.set_cons_zero, bH, bH, hs]; rfl
  | succ i => rw [List.set_cons_succ, bH, bH, ih (by simpa using h) hs]
theorem aiX {f : ai → Int} : ∀ {L : List ai}, (∀ k, k ∈ L → 0 ≤ f k) → ∀ k, k ∈ L → f k ≤ (L.map f).sum := by
 intro L
 induction L with
 | nil => intro _ k h; cases h
 | cons x xs ih =>
  intro h k hk
  have h0 : ∀ l : List ai, (∀ k, k ∈ l → 0 ≤ f k) → 0 ≤ (l.map f).sum := by
   intro l
   induction l with
   | nil => intro _; exact Int.le_refl _
   | cons y ys ihl =>
    intro h
    have := h y (by simp)
    have := ihl (fun k hk => h k (by simp [hk]))
    rw [List.map_cons, List.sum_cons]
    omega
  rw [List.map_cons, List.sum_cons]
  have h1 := h x (by simp)
  have h2 := h0 xs (fun k hk => h k (by simp [hk]))
  rcases List.mem_cons.1 hk with rfl | hk
  ·omega
  ·have := ih (fun k hk => h k (by simp [hk])) k hk; omega
noncomputable def zD (ax : Int) (i : Nat) (n : Int) (L : List ai) : List ai := L.set i (BF ax n (kd L i))
structure Ba (ax s : Int) (L : List ai) : Prop where
 sN : ∀ k, k ∈ L → dF k = true
 sum : (L.map (fun k => aQ ax k.f1)).sum = s
 small : s ≤ 10000
theorem Ba.size {ax s : Int} {L : List ai} (hax : ax = 1 ∨ ax = 2) (h : Ba ax s L) {k : ai} (hk : k ∈ L) : aQ ax k.f1 ≤ s := by
 have := aiX (f := fun k => aQ ax k.f1) (fun k hk => by have := Pure.mO hax (h.sN k hk); omega) k hk
 rw [h.sum] at this
 exact this
theorem Ba.move {ax s : Int} {L : List ai} (hax : ax = 1 ∨ ax = 2) (h : Ba ax s L) {i : Nat} {n : Int} (hi : i < L.length) (h0 : -(dI ax (kd L i)) ≤ n) (h1 : s + n ≤ 10000) :
  Ba ax (s + n) (zD ax i n L) ∧ dI ax (kd (zD ax i n L) i) = dI ax (kd L i) + n ∧ (∀ j, j ≠ i → kd (zD ax i n L) j = kd L j) ∧ (zD ax i n L).length = L.length ∧ dY (zD ax i n L) = dY L ∧ aQ ax (kd (zD ax i n L) i).f1 = aQ ax (kd L i).f1 + n := by
 have hm := KT hi
 have hs := h.size hax hm
 obtain ⟨k1, k2, k3, k4⟩ := Xw hax (h.sN _ hm) h0 (by omega)
 unfold zD
 refine ⟨⟨fun k hk => ?_, ?_, h1⟩, ?_, fun j hj => by rw [SB hi, if_neg hj], by rw [List.length_set], abK hi k4, ?_⟩
 ·rcases List.mem_or_eq_of_mem_set hk with hk | rfl
  ·exact h.sN k hk
  ·exact k1
 ·rw [afA _ hi, h.sum, k2]
  omega
 ·rw [SB hi, if_pos rfl, k3]
 ·rw [SB hi, if_pos rfl, k2]
structure Jd (ax s : Int) (p N : Nat) (L0 L : List ai) (d : Int) : Prop where
 good : Ba ax s L
 plc : p < L.length
 d0 : 0 ≤ d
 dg : dI ax (kd L p) = dI ax (kd L0 p) + d
 ds : aQ ax (kd L p).f1 = aQ ax (kd L0 p).f1 + d
 z : dY L = N
 len : L.length = L0.length
theorem Jd.start {ax s : Int} {p : Nat} {L : List ai} (h : Ba ax s L) (hp : p < L.length) : Jd ax s p (dY L) L L 0 := ⟨h, hp, Int.le_refl _, by omega, by omega, rfl, rfl⟩
theorem Jd.small {ax s : Int} {p N : Nat} {L0 L : List ai} {d : Int} (hax : ax = 1 ∨ ax = 2) (h : Jd ax s p N L0 L d) (h0 : 0 ≤ dI ax (kd L0 p)) : d ≤ 9999 := by
 have := Pure.mO hax (h.good.sN _ (KT h.plc))
 have := h.dg
 omega
theorem Jd.step {ax s : Int} {p N : Nat} {L0 L : List ai} {d n : Int} {i : Nat} (hax : ax = 1 ∨ ax = 2) (h : Jd ax s p N L0 L d) (hi : i < L.length) (hne : i ≠ p) (hn0 : 0 ≤ n) (hn : n ≤ dI ax (kd L i)) :
  Jd ax s p N L0 (zD ax p n (zD ax i (-n) L)) (d + n) := by
 obtain ⟨a1, a2, a3, a4, a5, a6⟩ := h.good.move hax hi (n := -n) (by omega) (by have := h.good.small; omega)
 have hp : p < (zD ax i (-n) L).length := by rw [a4]; exact h.plc
 have e := a3 p (fun e => hne e.symm)
 have hg := Pure.mO hax (h.good.sN _ (KT h.plc))
 obtain ⟨b1, b2, b3, b4, b5, b6⟩ := a1.move hax hp (n := n) (by rw [e]; omega) (by have := h.good.small; omega)
 have hd := h.dg
 have hs := h.ds
 have h0 := h.d0
 refine ⟨?_, by rw [b4]; exact hp, by omega, by rw [b2, e]; omega, by rw [b6, e]; omega, by rw [b5, a5]; exact h.z, by rw [b4, a4]; exact h.len⟩
 have e2 : s + -n + n = s := by omega
 rw [e2] at b1
 exact b1
def gDn (p : Nat → Bool) : Nat → Option Nat
 | 0 => none
 | n + 1 => if p n = true then some n else gDn p n
def place (q : Nat) (m : Bool) : Nat := if m = true then q else q + 1
def xX.T18 : Bool × List (List Nat × List Nat) := (true, [([], []), ([0], [0]), ([], []), ([], []), ([], []), ([], []), ([3, 4, 5], [3, 4, 5]), ([1, 2, 0, 1, 2, 3, 4, 5, 6], [1, 2]), ([7, 6, 6, 0, 1, 2, 3, 4, 5, 6], [6, 7])])
def xX.B18 : List Nat := [0, 1, 0, 0, 0, 0, 56, 127, 255]
theorem xX.alx : je .any (opsOf Tryz.f34 18) = xX.T18 := by kernel_rfl
theorem xX.aha : iM xX.T18.2 xX.B18 = true := by kernel_rfl
theorem adm {W : World} {b : Nat} {P : Nat → Prop} {A : Option Addr} {n cc : Nat} (c : ai) (ax : Int) (hV : Kd.V k26 26 W b P (.slice A n cc) c.f3) :
  Calls Tryz.prog 49 #[.agg #[.int .u8 c.f0, .int .i64 c.f1.f0, .int .i64 c.f1.f1, .int .i64 c.f1.f2, .int .i64 c.f1.f3, .int .i64 c.f2, .slice A n cc], .int .u8 ax] W fun e w' => e = .returned (.bool (iF ax c.f0)) ∧ Below W.heap.size W w' := by
 obtain rfl := (Kd.lF hV).1
 exact adl c ax hV
theorem ag3 (ax : Int) : ∀ (N : Nat) (c : ai), sz c ≤ N → N ≤ 100000 → ∀ (bV : Int), (-2147483647 ≤ bV ∧ bV ≤ 2147483647) → ∀ (P : Nat → Prop) (A : Option Addr) (cc : Nat) (w : World), Kd.V k26 26 w w.heap.size P (.slice A c.f3.length cc) c.f3 →
  Calls Tryz.prog 34 #[.agg #[.int .u8 c.f0, .int .i64 c.f1.f0, .int .i64 c.f1.f1, .int .i64 c.f1.f2, .int .i64 c.f1.f3, .int .i64 c.f2, .slice A c.f3.length cc], .int .u8 ax, .int .i64 bV] w (yg w P (eH ax c bV)) := by
 intro N
 induction N with
 | zero => intro c h; rw [bJ] at h; omega
 | succ N ih =>
  intro c hc hN bV hby P A cc w hv
  have hsz := bJ c
  have hlen := jf c.f3
  have hl1 : c.f3.length ≤ 100000 := by omega
  have IH := ae.mk fun (k : ai) (hk : k ∈ c.f3) (n : Int) (hn : -2147483647 ≤ n ∧ n ≤ 2147483647) P A cc w h => ih k (by have := Bz hk; omega) (by omega) n hn P A cc w h
  have PY := ae.mk fun (k : ai) (hk : k ∈ c.f3) => (show sz k ≤ 1048576 by have := Bz hk; omega)
  have gZ := ae.mk (show c.f3.length ≤ 1000000 by omega)
  have OM := zY bV (c.f3.map (dI ax)) (by simpa using hl1) hby.1 hby.2
  have hsl := Ve (b := bV) (gs := c.f3.map (dI ax)) (by simpa using hl1) hby.1 hby.2
  have hsb := Zr (b := bV) (gs := c.f3.map (dI ax)) (by simpa using hl1) hby.1 hby.2
  have EU := fun (Ag : Option Addr) (cg : Nat) (W : World) (hC : Kd.C (Kd.int .i64) W Ag (c.f3.map (dI ax)).length (c.f3.map (dI ax))) (h2 : (c.f3.map (dI ax)).length ≤ cg) => abG bV (c.f3.map (dI ax)) (by simpa using hl1) hby.1 hby.2 hC h2
  have Eh : ∀ i, IU ax c.f0 c.f3 bV i = if (oP bV (c.f3.map (dI ax))).2 = true ∧ iF ax c.f0 = true then rd (oP bV (c.f3.map (dI ax))).1 (i : Int) else bV := fun i => rfl
  rw [yP]
  have S := ae.mk (St.start (ts := [(.slice A c.f3.length cc, c.f3)]) (b0 := w.heap.size) (w := w) (P := P) (fun t ht => by rw [List.mem_singleton.1 ht]; exact hv))
  obtain ⟨ck, ⟨cx, cy, cw, ch⟩, aJ, l⟩ := c
  simp only [] at S IH PY gZ OM hsl hsb EU Eh hl1 ⊢
  obtain ⟨gw, hgw⟩ : ∃ gw, gw = if ax = 1 then wrap64 (cw + bV) else cw := ⟨_, rfl⟩
  obtain ⟨gh, hgh⟩ : ∃ gh, gh = if ax = 1 then ch else wrap64 (ch + bV) := ⟨_, rfl⟩
  simp only [grow]
  rw [← hgw, ← hgh]
  generalize IU ax ck l bV = NS at Eh ⊢
  obtain ⟨⟨sl, ok⟩, hsp⟩ : ∃ sp, sp = oP bV (l.map (dI ax)) := ⟨_, rfl⟩
  simp only [← hsp, List.length_map] at hsl hsb EU Eh
  have HNB := ae.mk (show ∀ i, i < l.length → -2147483647 ≤ NS i ∧ NS i ≤ 2147483647 from fun i hi => by
   rw [Eh i]
   split
   ·rename_i h
    exact hsb _ (by unfold rd; rw [List.getD_eq_getElem?_getD, List.getElem?_eq_getElem (by rw [hsl h.1]; simpa using hi)]; exact List.getElem_mem _)
   ·exact hby)
  have Gg := ae.mk hsl
  have Xi := ae.mk Eh
  have Xj := ae.mk EU
  have IJ := ae.mk hgw
  have PW := ae.mk hgh
  have HL1 := ae.mk hl1
  clear ih hc hN hby hv hsz hlen OM hsl hsb EU Eh hgw hgh hsp hl1
  go_enter Tryz.func34, Tryz.ntmps34
  go_upto_if 16 with (first
   | (refine boxS 3 _ 26 S ?_; clear S; intro b3 eU S)
   | (refine boxS 6 _ 26 S ?_; clear S; intro b6 fM S)
   | fail)
  go_cut [] (fun wc => ae (St w P [(some b6, .cells #[.int .u8 0, .int .i64 0, .int .i64 0, .int .i64 0, .int .i64 0, .int .i64 0, .slice none 0 0] 26 (0, 0)), (some b3, .cells #[.int .u8 ck, .int .i64 cx, .int .i64 cy, .int .i64 gw, .int .i64 gh, .int .i64 aJ, .slice A l.length cc] 26 (0, 0))] [] [(.slice A l.length cc, l)] [] wc))
  case first =>
   by_cases hx : ax = 1
   ·have hxb : (ax == 1) = true := beq_iff_eq.mpr hx
    have HX := ae.mk hx
    clear hx
    have dB := (S.out.at bf 3).trans rfl
    go_wp2_with (first
     | (refine qw 3 23 21 #[.int .u8 ck, .int .i64 cx, .int .i64 cy, .int .i64 (wrap64 (cw + bV)), .int .i64 ch, .int .i64 aJ, .slice A l.length cc] 3 1 S ?_; clear S; intro iq S; clear dB)
     | fail)
    go_meet
    case rel => rw [IJ.out, PW.out, if_pos HX.out, if_pos HX.out]; exact S
   ·have hxb : (ax == 1) = false := beq_eq_false_iff_ne.mpr hx
    have HX := ae.mk hx
    clear hx
    have fK := (S.out.at bf 4).trans rfl
    go_wp2_with (first
     | (refine qw 3 30 28 #[.int .u8 ck, .int .i64 cx, .int .i64 cy, .int .i64 cw, .int .i64 (wrap64 (ch + bV)), .int .i64 aJ, .slice A l.length cc] 4 1 S ?_; clear S; intro jD S; clear fK)
     | fail)
    go_meet
    case rel => rw [IJ.out, PW.out, if_neg HX.out, if_neg HX.out]; exact S
  case rest =>
   clear S IJ PW
   rename World => wx
   have S := hcut
   clear hcut
   have dJ := (S.out.at bf 6).trans rfl
   go_wp2_with (first
    | (refine PI (some 33) Tryz.func35 S (adu l gZ.out (S.out.tree _ (.head _))) ?_; clear S; intro A1 c1 mQ S; clear dJ)
    | (refine qw 24 34 33 #[.int .u8 ck, .int .i64 cx, .int .i64 cy, .int .i64 gw, .int .i64 gh, .int .i64 aJ, .slice A1 l.length c1] 6 1 S ?_; clear S; intro vS S; have dJ := (S.out.at bf 6).trans rfl)
    | fail)
   clear dJ
   obtain ⟨oi, S1, HI0⟩ := S.out.noI
   clear S
   go_loopg [7, 38] l.length (fun gg v7 v38 wr => ∃ (pre rest : List ai) (Ag : Option Addr) (cg : Nat) (og : Obj), v7 = .slice Ag pre.length cg ∧ v38 = .int .i64 (pre.length : Int) ∧ ae (pre ++ rest = l) ∧ rest.length ≤ gg ∧ ae (IR w.heap.size (.slice Ag pre.length cg) (pre.map (dI ax)) og) ∧ ae (St w P [((Value.slice Ag pre.length cg).ownBlock, og), (some b6, .cells #[.int .u8 0, .int .i64 0, .int .i64 0, .int .i64 0, .int .i64 0, .int .i64 0, .slice none 0 0] 26 (0, 0)), (some b3, .cells #[.int .u8 ck, .int .i64 cx, .int .i64 cy, .int .i64 gw, .int .i64 gh, .int .i64 aJ, .slice A1 l.length c1] 26 (0, 0))] [(.slice A1 l.length c1, l)] [(.slice A l.length cc, l)] [] wr))
   case atStart => exact ⟨[], l, none, 0, oi, rfl, rfl, ⟨rfl⟩, Nat.le_refl _, ⟨HI0⟩, ⟨S1⟩⟩
   case round =>
    clear S1 HI0 oi
    obtain ⟨pre, rest, Ag, cg, og, rfl, rfl, HE, hgg, HI, S⟩ := hrel
    cases rest with
    | nil =>
     have hE := HE.out
     rw [List.append_nil] at hE
     have hE2 := hE.symm
     subst hE2
     clear hE HE hgg
     have hlt : ¬ ((l.length : Int) < (l.length : Int)) := by omega
     have OM := fun W hW => Xj.out Ag cg W (by have h := (Kd.eX (HI.out W hW)).2.2; rw [List.length_map] at h; exact h) (by have h := (Kd.eX (HI.out W hW)).2.1; exact h)
     have HSH := ae.mk OM
     clear OM Xj
     go_wp2_with (first
      | (refine lK (some 52) Tryz.func56 (HSH.out _ (S.out.blk _ (.head _))) ?_; rintro e xY ⟨As, cs, rfl, h1, hb⟩; refine ⟨_, rfl, ?_⟩; obtain ⟨os, S1, HI1⟩ := S.out.NV h1 hb; replace S := ae.mk S1; have HIS := ae.mk HI1; clear S1 HI1 h1 hb; have dJ := (S.out.at jy 6).trans rfl)
      | fail)
     clear dJ
     go_loopg [58] l.length (fun gg v58 wr => ∃ (pre rest : List ai), v58 = .int .i64 (pre.length : Int) ∧ ae (pre ++ rest = l) ∧ rest.length ≤ gg ∧ ae (St w P [((Value.slice As sl.length cs).ownBlock, os), ((Value.slice Ag l.length cg).ownBlock, og), (some b6, .cells #[.int .u8 0, .int .i64 0, .int .i64 0, .int .i64 0, .int .i64 0, .int .i64 0, .slice none 0 0] 26 (0, 0)), (some b3, .cells #[.int .u8 ck, .int .i64 cx, .int .i64 cy, .int .i64 gw, .int .i64 gh, .int .i64 aJ, .slice A1 l.length c1] 26 (0, 0))] [(.slice A1 l.length c1, (kL ax pre NS 0 ++ rest))] [(.slice A l.length cc, l)] [] wr))
     case atStart => exact ⟨[], l, rfl, ⟨rfl⟩, Nat.le_refl _, ⟨by rw [rQ]; exact S.out⟩⟩
     case round =>
      clear S
      obtain ⟨pre, rest, rfl, HE, hgg, S⟩ := hrel
      cases rest with
      | nil =>
       have hE := HE.out
       rw [List.append_nil] at hE
       have hE2 := hE.symm
       subst hE2
       clear hE HE hgg
       have hlt : ¬ ((l.length : Int) < (l.length : Int)) := by omega
       obtain ⟨dm, dn, dA, dB, fK, gI, dJ⟩ := St.fF S jy
       go_wp2_with (first
        | (refine S9 26 6 83 #[.int .u8 ck, .int .i64 cx, .int .i64 cy, .int .i64 gw, .int .i64 gh, .int .i64 aJ, .slice A1 l.length c1] 0 7 S ?_; clear S; intro A_ S; clear dm dn dA dB fK gI dJ)
        | fail)
       refine bodyPost_ret (results_cell_row rfl _ _ b6 26 _ (0, 0) _ rfl (S.out.blk _ gy _ rfl) Tryz.underlying26 rfl (by kernel_rfl)) rfl ?_
       have hN := S.out.uI
       rw [List.append_nil] at hN
       simp only [yg, yQ]
       exact ⟨_, _, rfl, hN, S.out.below⟩
      | cons k rest =>
       have hk : k ∈ l := by rw [← HE.out]; simp
       have hlt : (pre.length : Int) < (l.length : Int) := by rw [← HE.out, List.length_append, List.length_cons]; omega
       have hw1 : wrap64 ((pre.length : Int) + 1) = ((pre ++ [k]).length : Int) := by have := gZ.out; rw [List.length_append, List.length_singleton]; unfold wrap64; omega
       have HW1 := ae.mk hw1
       have jl := ae.mk hgg
       have HK := ae.mk hk
       have x_ := ae.mk (PY.out k hk)
       have wI := ae.mk (show pre.length ≤ 1000000 by have := gZ.out; omega)
       have HJ := ae.mk (show pre.length < l.length by omega)
       have Uc := ae.mk (show (pre.length : Int) < ((kL ax pre NS 0 ++ k :: rest).length : Int) by rw [List.length_append, yQ, List.length_cons]; omega)
       obtain ⟨g, cap, ev, _⟩ := Kd.zN S.out.uI (by have := Uc.out; omega)
       injection ev with e1 e2 e3
       subst e1
       clear e2 e3 hk hgg hw1
       obtain ⟨ua, uc, S1, hcell⟩ := S.out.yU (pre.length : Int) (Int.natCast_nonneg _) Uc.out
       have hrd : aj (kL ax pre NS 0 ++ k :: rest) (pre.length : Int) = k := ag4 ax NS pre k rest
       rw [hrd] at S1 hcell
       replace S := ae.mk S1
       have x0 : wr.cell? ⟨g, pre.length * 7, none⟩ = some (.int .u8 k.f0) := hcell 0 _ rfl
       have x1 : wr.cell? ⟨g, pre.length * 7 + 1, none⟩ = some (.int .i64 k.f1.f0) := hcell 1 _ rfl
       have x2 : wr.cell? ⟨g, pre.length * 7 + 2, none⟩ = some (.int .i64 k.f1.f1) := hcell 2 _ rfl
       have x3 : wr.cell? ⟨g, pre.length * 7 + 3, none⟩ = some (.int .i64 k.f1.f2) := hcell 3 _ rfl
       have x4 : wr.cell? ⟨g, pre.length * 7 + 4, none⟩ = some (.int .i64 k.f1.f3) := hcell 4 _ rfl
       have x5 : wr.cell? ⟨g, pre.length * 7 + 5, none⟩ = some (.int .i64 k.f2) := hcell 5 _ rfl
       have x6 : wr.cell? ⟨g, pre.length * 7 + 6, none⟩ = some (.slice ua k.f3.length uc) := hcell 6 _ rfl
       clear S1 hcell hrd
       go_upto_region 16 with (first
        | (refine boxS 13 _ 26 S ?_; clear S; intro b13 FZ S; clear x0 x1 x2 x3 x4 x5 x6)
        | (refine gY 26 13 62 #[.int .u8 k.f0, .int .i64 k.f1.f0, .int .i64 k.f1.f1, .int .i64 k.f1.f2, .int .i64 k.f1.f3, .int .i64 k.f2, .slice ua k.f3.length uc] 0 7 S ?_; clear S; intro CW S)
        | fail)
       go_cut [69] (fun v69 wc => v69 = .bool (ok && iF ax ck) ∧ ae (St w P [(some b13, .cells #[.int .u8 k.f0, .int .i64 k.f1.f0, .int .i64 k.f1.f1, .int .i64 k.f1.f2, .int .i64 k.f1.f3, .int .i64 k.f2, .slice ua k.f3.length uc] 26 (0, 0)), ((Value.slice As sl.length cs).ownBlock, os), ((Value.slice Ag l.length cg).ownBlock, og), (some b6, .cells #[.int .u8 0, .int .i64 0, .int .i64 0, .int .i64 0, .int .i64 0, .int .i64 0, .slice none 0 0] 26 (0, 0)), (some b3, .cells #[.int .u8 ck, .int .i64 cx, .int .i64 cy, .int .i64 gw, .int .i64 gh, .int .i64 aJ, .slice (some ⟨g, 0, none⟩) l.length c1] 26 (0, 0))] [(.slice (some ⟨g, 0, none⟩) l.length c1, (kL ax pre NS 0 ++ k :: rest))] [(.slice ua k.f3.length uc, k.f3), (.slice A l.length cc, l)] [] wc))
       case first =>
        cases ok with
        | false =>
         go_wp2
         go_meet
         case rel => exact ⟨by first | rfl | simp, S⟩
        | true =>
         obtain ⟨dm, dn, dA, dB, fK, gI, dJ⟩ := St.fF S su
         go_wp2_with (first
          | (refine ik 68 rfl ?_; (refine gW (by rfl) ?_; dsimp only); refine cZ (some 68) Tryz.func49 S (adm ⟨ck, ⟨cx, cy, gw, gh⟩, aJ, _⟩ ax (Kd.qY (base' := 0) (S.out.own _ (.head _)))) ?_; clear S; intro DV S; clear dm dn dA dB fK gI dJ)
          | fail)
         go_meet
         case rel => exact ⟨by first | rfl | simp, S⟩
       case rest =>
        clear S
        obtain ⟨rfl, S⟩ := hcut
        rename World => wz
        go_upto_if 69 with fail
        go_cut [14] (fun v14 wc => v14 = .int .i64 (NS pre.length) ∧ ae (St w P [(some b13, .cells #[.int .u8 k.f0, .int .i64 k.f1.f0, .int .i64 k.f1.f1, .int .i64 k.f1.f2, .int .i64 k.f1.f3, .int .i64 k.f2, .slice ua k.f3.length uc] 26 (0, 0)), ((Value.slice As sl.length cs).ownBlock, os), ((Value.slice Ag l.length cg).ownBlock, og), (some b6, .cells #[.int .u8 0, .int .i64 0, .int .i64 0, .int .i64 0, .int .i64 0, .int .i64 0, .slice none 0 0] 26 (0, 0)), (some b3, .cells #[.int .u8 ck, .int .i64 cx, .int .i64 cy, .int .i64 gw, .int .i64 gh, .int .i64 aJ, .slice (some ⟨g, 0, none⟩) l.length c1] 26 (0, 0))] [(.slice (some ⟨g, 0, none⟩) l.length c1, (kL ax pre NS 0 ++ k :: rest))] [(.slice ua k.f3.length uc, k.f3), (.slice A l.length cc, l)] [] wc))
        case first =>
         cases hoa : (ok && iF ax ck) with
         | false =>
          go_wp2
          go_meet
          case rel => exact ⟨by rw [Xi.out, if_neg (by intro h; rw [h.1, h.2] at hoa; cases hoa)], S⟩
         | true =>
          have hok : ok = true ∧ iF ax ck = true := by simpa using hoa
          have hsl2 : sl.length = l.length := Gg.out hok.1
          have hlt2 : (pre.length : Int) < (sl.length : Int) := by rw [hsl2]; exact hlt
          obtain ⟨ads, ea, _⟩ := Kd.ja (Kd.eX (HIS.out _ (S.out.blk _ bf))).2.2 (pre.length : Int) (Int.natCast_nonneg _) hlt2
          subst ea
          have P8 := ae.mk hok
          clear hok
          have xs := xy HIS.out (S.out.blk _ bf) pre.length hlt2
          go_wp2
          clear xs
          go_meet
          case rel => exact ⟨by rw [Xi.out, if_pos P8.out], S⟩
        case rest =>
         clear S
         obtain ⟨rfl, S⟩ := hcut
         rename World => wy
         go_wp2
         refine jT (n := 9) (S := fun w' => St w _ _ _ _ _ w') (ds := [8]) (bA 9 0) (by kernel_rfl) rfl rfl (S.out.call (bI (Below.refl _ _))) (fun hHeld => ?_); refine gG xX.alx xX.aha (fun ak fC => ?_)
         replace S := ae.mk (S.out.call (bI (Below.refl _ _)))
         generalize wy.drew = ar6 at S hHeld ⊢
         refine ay 0 74 (bA 9 1) ak ?_
         refine dM 1 75 (bA 9 3) ak fC hHeld ?_ (hv := by intro w' hs_; have dJ := (hs_.at su 6).trans rfl; go_simp; with_reducible rfl)
         refine ay 2 76 (bA 9 7) ak ?_
         refine dM 3 77 (bA 9 15) ak fC hHeld ?_ (hv := by intro w' hs_; have apJ := (hs_.at (.head _) 0).trans rfl; have apK := (hs_.at (.head _) 1).trans rfl; have apL := (hs_.at (.head _) 2).trans rfl; have apM := (hs_.at (.head _) 3).trans rfl; have apN := (hs_.at (.head _) 4).trans rfl; have apO := (hs_.at (.head _) 5).trans rfl; have apP := (hs_.at (.head _) 6).trans rfl; go_simp; with_reducible rfl)
         refine ay 4 78 (bA 9 31) ak ?_
         refine ay 5 79 (bA 9 63) ak ?_
         refine iH 6 (some 80) (bA 9 127) ak (fun K hK => ?_)
         refine fO Tryz.func34 (by kernel_rfl) rfl #[.agg #[.int .u8 k.f0, .int .i64 k.f1.f0, .int .i64 k.f1.f1, .int .i64 k.f1.f2, .int .i64 k.f1.f3, .int .i64 k.f2, .slice ua k.f3.length uc], .int .u8 ax, .int .i64 (NS pre.length)] (by rfl) rfl rfl (by (try simp only [List.map_toArray, List.map_cons, List.map_nil]); first | done | rfl) ?_
         refine (IH.out k HK.out (NS pre.length) (HNB.out _ HJ.out) _ ua uc _ (d_ (S.out.tree _ (.head _)))).mono ?_
         rintro e JK ⟨Av, cv, rfl, h1, hb⟩
         refine ⟨_, rfl, ?_⟩
         replace S := ae.mk (S.out.res (Kd.qY (base' := 0) h1) hb)
         clear h1 hb
         refine hK.out _ _ S.out.bD (fun hHeld => ?_)
         clear hK K
         refine dO 80 ?_
         refine ay 7 81 (bA 9 255) ak ?_
         refine sK 8 none (bA 9 511) ak (fun K hK => ?_)
         refine NW (pre.length : Int) (eH ax k (NS pre.length)) (.tmp 81) (.tmp 80) rfl S.out (by rfl) rfl (Int.natCast_nonneg _) Uc.out (by first | rfl | (go_simp; rfl)) rfl (by kernel_rfl) (.head _) ?_
         intro TK S1
         rw [show (kL ax pre NS 0 ++ k :: rest).set (pre.length : Int).toNat (eH ax k (NS pre.length)) = kL ax (pre ++ [k]) NS 0 ++ rest from adh ax NS pre k rest] at S1
         replace S := ae.mk S1
         clear S1
         refine hK.out _ _ ?_
         clear hK K
         refine lJ (jc ak.out (by kernel_rfl)) ?_
         clear hHeld
         go_wp2
         have hw1 := HW1.out
         go_wp2
         go_roundg rest.length
         case measure => exact Nat.lt_of_lt_of_le (Nat.lt_succ_self _) jl.out
         case rel => exact ⟨pre ++ [k], rest, (by rw [hw1]), ⟨by rw [List.append_assoc]; exact HE.out⟩, Nat.le_refl _, ⟨S.out.eP.bD.bD⟩⟩
    | cons k rest =>
     have hk : k ∈ l := by rw [← HE.out]; simp
     have hlt : (pre.length : Int) < (l.length : Int) := by rw [← HE.out, List.length_append, List.length_cons]; omega
     have hw1 : wrap64 ((pre.length : Int) + 1) = ((pre ++ [k]).length : Int) := by have := gZ.out; rw [List.length_append, List.length_singleton]; unfold wrap64; omega
     have HW1 := ae.mk hw1
     have jl := ae.mk hgg
     have HK := ae.mk hk
     have x_ := ae.mk (PY.out k hk)
     have wI := ae.mk (show pre.length ≤ 1000000 by have := gZ.out; omega)
     have HJ := ae.mk (show pre.length < l.length by omega)
     have Uc := ae.mk (show (pre.length : Int) < ((l).length : Int) by omega)
     obtain ⟨g, cap, ev, _⟩ := Kd.zN S.out.uI (by have := Uc.out; omega)
     injection ev with e1 e2 e3
     subst e1
     clear e2 e3 hk hgg hw1
     obtain ⟨ua, uc, S1, hcell⟩ := S.out.yU (pre.length : Int) (Int.natCast_nonneg _) Uc.out
     have hrd : aj (l) (pre.length : Int) = k := (by rw [← HE.out]; exact jd pre k rest)
     rw [hrd] at S1 hcell
     replace S := ae.mk S1
     have x0 : wr.cell? ⟨g, pre.length * 7, none⟩ = some (.int .u8 k.f0) := hcell 0 _ rfl
     have x1 : wr.cell? ⟨g, pre.length * 7 + 1, none⟩ = some (.int .i64 k.f1.f0) := hcell 1 _ rfl
     have x2 : wr.cell? ⟨g, pre.length * 7 + 2, none⟩ = some (.int .i64 k.f1.f1) := hcell 2 _ rfl
     have x3 : wr.cell? ⟨g, pre.length * 7 + 3, none⟩ = some (.int .i64 k.f1.f2) := hcell 3 _ rfl
     have x4 : wr.cell? ⟨g, pre.length * 7 + 4, none⟩ = some (.int .i64 k.f1.f3) := hcell 4 _ rfl
     have x5 : wr.cell? ⟨g, pre.length * 7 + 5, none⟩ = some (.int .i64 k.f2) := hcell 5 _ rfl
     have x6 : wr.cell? ⟨g, pre.length * 7 + 6, none⟩ = some (.slice ua k.f3.length uc) := hcell 6 _ rfl
     clear S1 hcell hrd
     go_wp2_with (first
      | (refine boxS 9 _ 26 S ?_; clear S; intro b9 WR S; clear x0 x1 x2 x3 x4 x5 x6)
      | (refine gY 26 9 41 #[.int .u8 k.f0, .int .i64 k.f1.f0, .int .i64 k.f1.f1, .int .i64 k.f1.f2, .int .i64 k.f1.f3, .int .i64 k.f2, .slice ua k.f3.length uc] 0 7 S ?_; clear S; intro WS S; obtain ⟨nO, sG, oZ, sH, xm, xn, xq⟩ := St.fF S (.head _))
      | (refine cZ (some 45) Tryz.func33 S (Il k ax x_.out (S.out.tree _ (.head _))) ?_; clear S; intro ajy S; clear nO sG oZ sH xm xn xq)
      | ((with_reducible refine aA (N := 47) rfl ?_); at_builtin; go_loud (refine adn (.tmp 42) (.tmp 46) rfl rfl Tryz.underlying41 info3 S.out.Lu HI.out (dI ax k) rfl (by first | (go_simp; done) | (go_simp; rfl)) (by have := wI.out; simp only [List.length_map]; omega) ?_); intro Ag2 cg2 og2 abM S1 I1; rw [show (pre.map (dI ax) ++ [dI ax k]).length = (pre ++ [k]).length by simp] at S1 I1 ⊢; replace S := ae.mk S1.Lu; have HI2 := ae.mk I1; clear S1 I1 HI)
      | fail)
     have hw1 := HW1.out
     go_wp2
     go_roundg rest.length
     case measure => exact Nat.lt_of_lt_of_le (Nat.lt_succ_self _) jl.out
     case rel => exact ⟨pre ++ [k], rest, Ag2, cg2, og2, (by simp), (by rw [hw1]), ⟨by rw [List.append_assoc]; exact HE.out⟩, Nat.le_refl _, ⟨by rw [List.map_append]; exact HI2.out⟩, ⟨S.out.eP.bD⟩⟩
def Af.T6 : Bool × List (List Nat × List Nat) := (true, [([], []), ([], []), ([], []), ([0, 1, 2], [0, 1, 2]), ([], []), ([4], [4]), ([5], [5]), ([], []), ([7], [7]), ([8], [8]), ([3, 6, 9, 3], [3, 6, 9]), ([10, 10, 0, 1, 2, 3, 4, 5, 6, 7, 8, 9, 10], [10]), ([11, 0, 1, 2, 3, 4, 5, 6, 7, 8, 9, 10, 11], [])])
def Af.B6 : List Nat := [0, 0, 0, 7, 0, 16, 48, 0, 128, 384, 1023, 2047, 4095]
theorem Af.tab6 : je .any (opsOf Tryz.f15 6) = Af.T6 := by kernel_rfl
theorem Af.Dl : iM Af.T6.2 Af.B6 = true := by kernel_rfl
theorem Di (ax : Int) (c : ai) (hz : sz c ≤ 1048576) (bV : Int) (P : Nat → Prop) (A : Option Addr) (cc : Nat) (w : World) (hv : Kd.V k26 26 w w.heap.size P (.slice A c.f3.length cc) c.f3) :
  Calls Tryz.prog 15 #[.agg #[.int .u8 c.f0, .int .i64 c.f1.f0, .int .i64 c.f1.f1, .int .i64 c.f1.f2, .int .i64 c.f1.f3, .int .i64 c.f2, .slice A c.f3.length cc], .int .u8 ax, .int .i64 bV] w (EJ w P (aZ ax c bV) (aN ax c bV)) := by
 have S := ae.mk (St.start (ts := [(.slice A c.f3.length cc, c.f3)]) (b0 := w.heap.size) (w := w) (P := P) (fun t ht => by rw [List.mem_singleton.1 ht]; exact hv))
 have HZ := ae.mk hz
 obtain ⟨ck, ⟨cx, cy, cw, ch⟩, aJ, l⟩ := c
 simp only [] at S
 clear hv hz
 cases ht : dF ⟨ck, ⟨cx, cy, cw, ch⟩, aJ, l⟩ with
 | false =>
  have HB := ae.mk (show sQ ax ⟨ck, ⟨cx, cy, cw, ch⟩, aJ, l⟩ = true by unfold sQ; rw [ht]; rfl)
  go_enter Tryz.func15, Tryz.ntmps15
  go_wp2_with (first | (refine boxS 3 _ 26 S ?_; clear S; intro b3 eU S) | (refine boxS 6 _ 26 S ?_; clear S; intro b6 fM S; obtain ⟨dm, dn, dA, dB, fK, gI, dJ⟩ := St.fF S bf) | ((with_reducible refine aA (N := 10) rfl ?_); refine qQ (N := 10) rfl rfl ⟨ck, ⟨cx, cy, cw, ch⟩, aJ, l⟩ S.out (S.out.tree _ (.head _)) ?hr ?_; (case hr => (go_simp; rfl)); intro ZJ aan iq S1 h1 h2; replace S := ae.mk S1; have qf := ae.mk h1; have uq := ae.mk h2; clear S1 h1 h2; clear dm dn dA dB fK gI dJ) | (refine cZ (some 11) Tryz.func26 S (wF ⟨ck, ⟨cx, cy, cw, ch⟩, aJ, l⟩ HZ.out uq.out qf.out) ?_; clear S; intro jD S) | (refine gY 26 6 21 #[.int .u8 0, .int .i64 0, .int .i64 0, .int .i64 0, .int .i64 0, .int .i64 0, .slice none 0 0] 0 7 S ?_; clear S; intro mQ S))
  refine bodyPost_ret (eQ rfl _ _ b6 26 _ (0, 0) _ rfl (S.out.blk _ (.head _) _ rfl) Tryz.underlying26 rfl (by kernel_rfl)) rfl ?_
  rw [show aN ax ⟨ck, ⟨cx, cy, cw, ch⟩, aJ, l⟩ bV = 1 by unfold aN; rw [if_pos HB.out], show aZ ax ⟨ck, ⟨cx, cy, cw, ch⟩, aJ, l⟩ bV = z26 by unfold aZ; rw [if_pos HB.out]]
  exact ⟨_, _, rfl, Kd.pI _ _ _ _ _, S.out.below⟩
 | true =>
  have HT := ae.mk ht
  by_cases hax : ax = 1 ∨ ax = 2
  ·have HB := ae.mk (show sQ ax ⟨ck, ⟨cx, cy, cw, ch⟩, aJ, l⟩ = false by unfold sQ; rw [ht]; rcases hax with rfl | rfl <;> rfl)
   have D5 := ae.mk hax
   clear ht hax
   go_enter Tryz.func15, Tryz.ntmps15
   go_upto_region 1 with (first | (refine boxS 3 _ 26 S ?_; clear S; intro b3 eU S) | (refine boxS 6 _ 26 S ?_; clear S; intro b6 fM S))
   (skip)
   go_cut [20] (fun v20 wc => v20 = .bool false ∧ ae (St w P [(some b6, .cells #[.int .u8 0, .int .i64 0, .int .i64 0, .int .i64 0, .int .i64 0, .int .i64 0, .slice none 0 0] 26 (0, 0)), (some b3, .cells #[.int .u8 ck, .int .i64 cx, .int .i64 cy, .int .i64 cw, .int .i64 ch, .int .i64 aJ, .slice A l.length cc] 26 (0, 0))] [] [(.slice A l.length cc, l)] [] wc))
   case first =>
    by_cases h1 : ax = 1
    ·skip
     have h1b : (ax != 1) = false := by rw [h1]; rfl
     clear h1
     obtain ⟨dm, dn, dA, dB, fK, gI, dJ⟩ := St.fF S bf
     go_wp2_with (first | ((with_reducible refine aA (N := 10) rfl ?_); refine qQ (N := 10) rfl rfl ⟨ck, ⟨cx, cy, cw, ch⟩, aJ, l⟩ S.out (S.out.tree _ (.head _)) ?hr ?_; (case hr => (go_simp; rfl)); intro ZJ aan eU S1 h1 h2; replace S := ae.mk S1; have qf := ae.mk h1; have uq := ae.mk h2; clear S1 h1 h2; clear dm dn dA dB fK gI dJ) | (refine cZ (some 11) Tryz.func26 S (oC HT.out (wF ⟨ck, ⟨cx, cy, cw, ch⟩, aJ, l⟩ HZ.out uq.out qf.out)) ?_; clear S; intro fM S))
     go_meet
     case rel => exact ⟨by rfl, S⟩
    ·skip
     have h1b : (ax != 1) = true := bne_iff_ne.mpr h1
     have h2b : (ax != 2) = false := by rw [D5.out.resolve_left h1]; rfl
     clear h1
     obtain ⟨dm, dn, dA, dB, fK, gI, dJ⟩ := St.fF S bf
     go_wp2_with (first | ((with_reducible refine aA (N := 10) rfl ?_); refine qQ (N := 10) rfl rfl ⟨ck, ⟨cx, cy, cw, ch⟩, aJ, l⟩ S.out (S.out.tree _ (.head _)) ?hr ?_; (case hr => (go_simp; rfl)); intro ZJ aan eU S1 h1 h2; replace S := ae.mk S1; have qf := ae.mk h1; have uq := ae.mk h2; clear S1 h1 h2; clear dm dn dA dB fK gI dJ) | (refine cZ (some 11) Tryz.func26 S (oC HT.out (wF ⟨ck, ⟨cx, cy, cw, ch⟩, aJ, l⟩ HZ.out uq.out qf.out)) ?_; clear S; intro fM S))
     go_meet
     case rel => exact ⟨by rfl, S⟩
   case rest =>
    clear S
    obtain ⟨rfl, S⟩ := hcut
    rename World => wx
    have dn := (S.out.at bf 1).trans rfl
    have dB := (S.out.at bf 3).trans rfl
    have dA := (S.out.at bf 2).trans rfl
    have fK := (S.out.at bf 4).trans rfl
    go_upto_region 4 with ((refine cZ (some 38) Tryz.func17 S (CQ ⟨0, 0, wrap64 (cx + cw), wrap64 (cy + ch)⟩ ax) ?_; clear S; intro eU S; clear dn dB dA fK))
    (skip)
    by_cases h4 : bV < wrap64 (-(dI ax ⟨ck, ⟨cx, cy, cw, ch⟩, aJ, l⟩))
    ·have Gt : decide (bV < wrap64 (-(dI ax ⟨ck, ⟨cx, cy, cw, ch⟩, aJ, l⟩))) = true := decide_eq_true h4
     have HO := ae.mk (show yj ax ⟨ck, ⟨cx, cy, cw, ch⟩, aJ, l⟩ bV = true by unfold yj; rw [Gt]; rfl)
     clear h4
     obtain ⟨dm, dn, dA, dB, fK, gI, dJ⟩ := St.fF S bf
     go_wp2_with (first | (refine cZ (some 42) Tryz.func33 S (Il ⟨ck, ⟨cx, cy, cw, ch⟩, aJ, l⟩ ax HZ.out (S.out.tree _ (.head _))) ?_; clear S; intro eU S; clear dm dn dA dB fK gI dJ) | (refine gY 26 6 51 #[.int .u8 0, .int .i64 0, .int .i64 0, .int .i64 0, .int .i64 0, .int .i64 0, .slice none 0 0] 0 7 S ?_; clear S; intro fM S))
     refine bodyPost_ret (eQ rfl _ _ b6 26 _ (0, 0) _ rfl (S.out.blk _ (.head _) _ rfl) Tryz.underlying26 rfl (by kernel_rfl)) rfl ?_
     rw [show aN ax ⟨ck, ⟨cx, cy, cw, ch⟩, aJ, l⟩ bV = 7 by unfold aN; rw [if_neg (by rw [HB.out]; simp), if_pos HO.out], show aZ ax ⟨ck, ⟨cx, cy, cw, ch⟩, aJ, l⟩ bV = z26 by unfold aZ; rw [if_neg (by rw [HB.out]; simp), if_pos HO.out]]
     exact ⟨_, _, rfl, Kd.pI _ _ _ _ _, S.out.below⟩
    ·have Gt : decide (bV < wrap64 (-(dI ax ⟨ck, ⟨cx, cy, cw, ch⟩, aJ, l⟩))) = false := decide_eq_false h4
     by_cases h5 : bV > wrap64 (10000 - (aQ ax ⟨0, 0, wrap64 (cx + cw), wrap64 (cy + ch)⟩))
     ·have KI : decide (bV > wrap64 (10000 - (aQ ax ⟨0, 0, wrap64 (cx + cw), wrap64 (cy + ch)⟩))) = true := decide_eq_true h5
      have XW : decide (wrap64 (10000 - (aQ ax ⟨0, 0, wrap64 (cx + cw), wrap64 (cy + ch)⟩)) < bV) = true := decide_eq_true h5
      have HO := ae.mk (show yj ax ⟨ck, ⟨cx, cy, cw, ch⟩, aJ, l⟩ bV = true by unfold yj; rw [Gt]; exact KI)
      clear h4 h5
      obtain ⟨dm, dn, dA, dB, fK, gI, dJ⟩ := St.fF S bf
      go_wp2_with (first | (refine cZ (some 42) Tryz.func33 S (Il ⟨ck, ⟨cx, cy, cw, ch⟩, aJ, l⟩ ax HZ.out (S.out.tree _ (.head _))) ?_; clear S; intro eU S; clear dm dn dA dB fK gI dJ) | (refine gY 26 6 51 #[.int .u8 0, .int .i64 0, .int .i64 0, .int .i64 0, .int .i64 0, .int .i64 0, .slice none 0 0] 0 7 S ?_; clear S; intro fM S))
      refine bodyPost_ret (eQ rfl _ _ b6 26 _ (0, 0) _ rfl (S.out.blk _ (.head _) _ rfl) Tryz.underlying26 rfl (by kernel_rfl)) rfl ?_
      rw [show aN ax ⟨ck, ⟨cx, cy, cw, ch⟩, aJ, l⟩ bV = 7 by unfold aN; rw [if_neg (by rw [HB.out]; simp), if_pos HO.out], show aZ ax ⟨ck, ⟨cx, cy, cw, ch⟩, aJ, l⟩ bV = z26 by unfold aZ; rw [if_neg (by rw [HB.out]; simp), if_pos HO.out]]
      exact ⟨_, _, rfl, Kd.pI _ _ _ _ _, S.out.below⟩
     ·have KI : decide (bV > wrap64 (10000 - (aQ ax ⟨0, 0, wrap64 (cx + cw), wrap64 (cy + ch)⟩))) = false := decide_eq_false h5
      have XW : decide (wrap64 (10000 - (aQ ax ⟨0, 0, wrap64 (cx + cw), wrap64 (cy + ch)⟩)) < bV) = false := decide_eq_false h5
      have HO := ae.mk (show yj ax ⟨ck, ⟨cx, cy, cw, ch⟩, aJ, l⟩ bV = false by unfold yj; rw [Gt]; exact KI)
      have hf := ag0 HB.out HO.out
      have HZ2 := ae.mk (show sz ⟨ck, ⟨cx, cy, cw, ch⟩, aJ, l⟩ ≤ 100000 by omega)
      have HZ3 := ae.mk (show sz (eH ax ⟨ck, ⟨cx, cy, cw, ch⟩, aJ, l⟩ bV) ≤ 1000000 by rw [(Qs ax _).1 _ (Nat.le_refl _)]; omega)
      have HBY := ae.mk (show -2147483647 ≤ bV ∧ bV ≤ 2147483647 by omega)
      clear hf h4 h5
      obtain ⟨dm, dn, dA, dB, fK, gI, dJ⟩ := St.fF S bf
      go_wp2_with ((refine cZ (some 42) Tryz.func33 S (Il ⟨ck, ⟨cx, cy, cw, ch⟩, aJ, l⟩ ax HZ.out (S.out.tree _ (.head _))) ?_; clear S; intro eU S; clear dm dn dA dB fK gI dJ))
      refine jT (n := 13) (S := fun w' => St w _ _ _ _ _ w') (ds := [11]) (bA 13 0) (by kernel_rfl) rfl rfl (S.out.call (bI (Below.refl _ _))) (fun hHeld => ?_); refine gG Af.tab6 Af.Dl (fun ak fC => ?_)
      replace S := ae.mk (S.out.call (bI (Below.refl _ _)))
      generalize eU.drew = wd2 at S hHeld ⊢
      refine dM 0 52 (bA 13 1) ak fC hHeld ?_ (hv := by intro w' hs_; have dm := (hs_.at bf 0).trans rfl; have dn := (hs_.at bf 1).trans rfl; have dA := (hs_.at bf 2).trans rfl; have dB := (hs_.at bf 3).trans rfl; have fK := (hs_.at bf 4).trans rfl; have gI := (hs_.at bf 5).trans rfl; have dJ := (hs_.at bf 6).trans rfl; go_simp; with_reducible rfl)
      refine ay 1 53 (bA 13 3) ak ?_
      refine ay 2 54 (bA 13 7) ak ?_
      refine ay 4 56 (bA 13 23) ak ?_
      refine ay 5 57 (bA 13 55) ak ?_
      refine dM 6 58 (bA 13 119) ak fC hHeld ?_ (hv := by intro w' hs_; have dn := (hs_.at bf 1).trans rfl; go_simp; with_reducible rfl)
      refine ay 7 59 (bA 13 247) ak ?_
      refine ay 8 60 (bA 13 503) ak ?_
      refine dM 9 61 (bA 13 1015) ak fC hHeld ?_ (hv := by intro w' hs_; have dA := (hs_.at bf 2).trans rfl; go_simp; with_reducible rfl)
      refine iH 3 (some 55) (bA 13 1023) ak (fun K hK => ?_)
      refine fO Tryz.func34 (by kernel_rfl) rfl #[.agg #[.int .u8 ck, .int .i64 cx, .int .i64 cy, .int .i64 cw, .int .i64 ch, .int .i64 aJ, .slice A l.length cc], .int .u8 ax, .int .i64 bV] (by rfl) rfl rfl (by (try simp only [List.map_toArray, List.map_cons, List.map_nil]); rfl) ?_
      refine (ag3 ax 100000 ⟨ck, ⟨cx, cy, cw, ch⟩, aJ, l⟩ HZ2.out (Nat.le_refl _) bV HBY.out _ A cc _ (d_ (S.out.tree _ (.head _)))).mono ?_
      rintro e iq ⟨A55, amS, rfl, h1, hb⟩
      refine ⟨_, rfl, ?_⟩
      replace S := ae.mk (S.out.res (Kd.qY (base' := 0) h1) hb)
      clear h1 hb
      refine hK.out _ _ S.out.bD (fun hHeld => ?_)
      clear hK K
      refine dO 55 ?_
      refine iH 10 (some 62) (bA 13 2047) ak (fun K hK => ?_)
      refine fO Tryz.func16 (by kernel_rfl) rfl #[.agg #[.int .u8 ((eH ax ⟨ck, ⟨cx, cy, cw, ch⟩, aJ, l⟩ bV).f0), .int .i64 ((eH ax ⟨ck, ⟨cx, cy, cw, ch⟩, aJ, l⟩ bV).f1.f0), .int .i64 ((eH ax ⟨ck, ⟨cx, cy, cw, ch⟩, aJ, l⟩ bV).f1.f1), .int .i64 ((eH ax ⟨ck, ⟨cx, cy, cw, ch⟩, aJ, l⟩ bV).f1.f2), .int .i64 ((eH ax ⟨ck, ⟨cx, cy, cw, ch⟩, aJ, l⟩ bV).f1.f3), .int .i64 ((eH ax ⟨ck, ⟨cx, cy, cw, ch⟩, aJ, l⟩ bV).f2), .slice A55 ((eH ax ⟨ck, ⟨cx, cy, cw, ch⟩, aJ, l⟩ bV).f3.length) amS], .int .i64 cx, .int .i64 cy] (by rfl) rfl rfl (by (try simp only [List.map_toArray, List.map_cons, List.map_nil]); rfl) ?_
      refine (IB (eH ax ⟨ck, ⟨cx, cy, cw, ch⟩, aJ, l⟩ bV) cx cy HZ3.out (S.out.tree _ (.head _))).mono ?_
      rintro e jD ⟨A62, aaj, rfl, h1, hb⟩
      refine ⟨_, rfl, ?_⟩
      replace S := ae.mk (S.out.CO h1 hb)
      clear h1 hb
      refine hK.out _ _ S.out.free.bD.bD (fun hHeld => ?_)
      clear hK K
      refine dO 62 ?_
      refine sK 11 none (bA 13 4095) ak (fun K hK => ?_)
      refine vZ 0 rfl 26 (.tmp 6) (.tmp 62) rfl #[.int .u8 ((bU (eH ax ⟨ck, ⟨cx, cy, cw, ch⟩, aJ, l⟩ bV) cx cy).f0), .int .i64 ((bU (eH ax ⟨ck, ⟨cx, cy, cw, ch⟩, aJ, l⟩ bV) cx cy).f1.f0), .int .i64 ((bU (eH ax ⟨ck, ⟨cx, cy, cw, ch⟩, aJ, l⟩ bV) cx cy).f1.f1), .int .i64 ((bU (eH ax ⟨ck, ⟨cx, cy, cw, ch⟩, aJ, l⟩ bV) cx cy).f1.f2), .int .i64 ((bU (eH ax ⟨ck, ⟨cx, cy, cw, ch⟩, aJ, l⟩ bV) cx cy).f1.f3), .int .i64 ((bU (eH ax ⟨ck, ⟨cx, cy, cw, ch⟩, aJ, l⟩ bV) cx cy).f2), .slice A62 ((bU (eH ax ⟨ck, ⟨cx, cy, cw, ch⟩, aJ, l⟩ bV) cx cy).f3.length) aaj] (j := 0) (u := .agg #[.int .u8 ((bU (eH ax ⟨ck, ⟨cx, cy, cw, ch⟩, aJ, l⟩ bV) cx cy).f0), .int .i64 ((bU (eH ax ⟨ck, ⟨cx, cy, cw, ch⟩, aJ, l⟩ bV) cx cy).f1.f0), .int .i64 ((bU (eH ax ⟨ck, ⟨cx, cy, cw, ch⟩, aJ, l⟩ bV) cx cy).f1.f1), .int .i64 ((bU (eH ax ⟨ck, ⟨cx, cy, cw, ch⟩, aJ, l⟩ bV) cx cy).f1.f2), .int .i64 ((bU (eH ax ⟨ck, ⟨cx, cy, cw, ch⟩, aJ, l⟩ bV) cx cy).f1.f3), .int .i64 ((bU (eH ax ⟨ck, ⟨cx, cy, cw, ch⟩, aJ, l⟩ bV) cx cy).f2), .slice A62 ((bU (eH ax ⟨ck, ⟨cx, cy, cw, ch⟩, aJ, l⟩ bV) cx cy).f3.length) aaj]) (df := [.int .u8 ((bU (eH ax ⟨ck, ⟨cx, cy, cw, ch⟩, aJ, l⟩ bV) cx cy).f0), .int .i64 ((bU (eH ax ⟨ck, ⟨cx, cy, cw, ch⟩, aJ, l⟩ bV) cx cy).f1.f0), .int .i64 ((bU (eH ax ⟨ck, ⟨cx, cy, cw, ch⟩, aJ, l⟩ bV) cx cy).f1.f1), .int .i64 ((bU (eH ax ⟨ck, ⟨cx, cy, cw, ch⟩, aJ, l⟩ bV) cx cy).f1.f2), .int .i64 ((bU (eH ax ⟨ck, ⟨cx, cy, cw, ch⟩, aJ, l⟩ bV) cx cy).f1.f3), .int .i64 ((bU (eH ax ⟨ck, ⟨cx, cy, cw, ch⟩, aJ, l⟩ bV) cx cy).f2), .slice A62 ((bU (eH ax ⟨ck, ⟨cx, cy, cw, ch⟩, aJ, l⟩ bV) cx cy).f3.length) aaj]) S.out (by rfl) rfl rfl rfl rfl (by kernel_rfl) (by simp [Value.oneCell']) (by simp) rfl ?_
      intro mQ S1
      simp only [List.set_cons_zero, List.set_cons_succ] at S1
      replace S := ae.mk S1
      clear S1
      refine hK.out _ _ ?_
      clear hK K
      refine ay 12 7 (bA 13 8191) ak ?_
      refine lJ (jc ak.out (by kernel_rfl)) ?_
      clear hHeld
      go_wp2
      refine bodyPost_ret (eQ rfl _ _ b6 26 _ (0, 0) _ rfl (S.out.blk _ (.head _) _ rfl) Tryz.underlying26 rfl (by kernel_rfl)) rfl ?_
      rw [show aN ax ⟨ck, ⟨cx, cy, cw, ch⟩, aJ, l⟩ bV = 0 by unfold aN; rw [if_neg (by rw [HB.out]; simp), if_neg (by rw [HO.out]; simp)], show aZ ax ⟨ck, ⟨cx, cy, cw, ch⟩, aJ, l⟩ bV = bU (eH ax ⟨ck, ⟨cx, cy, cw, ch⟩, aJ, l⟩ bV) cx cy by unfold aZ; rw [if_neg (by rw [HB.out]; simp), if_neg (by rw [HO.out]; simp)]]
      exact ⟨_, _, rfl, S.out.uI, S.out.below⟩
  ·have h1b : (ax != 1) = true := bne_iff_ne.mpr (fun h => hax (.inl h))
   have h2b : (ax != 2) = true := bne_iff_ne.mpr (fun h => hax (.inr h))
   have HB := ae.mk (show sQ ax ⟨ck, ⟨cx, cy, cw, ch⟩, aJ, l⟩ = true by unfold sQ; rw [ht, h1b, h2b]; rfl)
   clear hax
   go_enter Tryz.func15, Tryz.ntmps15
   go_wp2_with (first | (refine boxS 3 _ 26 S ?_; clear S; intro b3 eU S) | (refine boxS 6 _ 26 S ?_; clear S; intro b6 fM S; obtain ⟨dm, dn, dA, dB, fK, gI, dJ⟩ := St.fF S bf) | ((with_reducible refine aA (N := 10) rfl ?_); refine qQ (N := 10) rfl rfl ⟨ck, ⟨cx, cy, cw, ch⟩, aJ, l⟩ S.out (S.out.tree _ (.head _)) ?hr ?_; (case hr => (go_simp; rfl)); intro ZJ aan iq S1 h1 h2; replace S := ae.mk S1; have qf := ae.mk h1; have uq := ae.mk h2; clear S1 h1 h2; clear dm dn dA dB fK gI dJ) | (refine cZ (some 11) Tryz.func26 S (wF ⟨ck, ⟨cx, cy, cw, ch⟩, aJ, l⟩ HZ.out uq.out qf.out) ?_; clear S; intro jD S) | (refine gY 26 6 21 #[.int .u8 0, .int .i64 0, .int .i64 0, .int .i64 0, .int .i64 0, .int .i64 0, .slice none 0 0] 0 7 S ?_; clear S; intro mQ S))
   refine bodyPost_ret (eQ rfl _ _ b6 26 _ (0, 0) _ rfl (S.out.blk _ (.head _) _ rfl) Tryz.underlying26 rfl (by kernel_rfl)) rfl ?_
   rw [show aN ax ⟨ck, ⟨cx, cy, cw, ch⟩, aJ, l⟩ bV = 1 by unfold aN; rw [if_pos HB.out], show aZ ax ⟨ck, ⟨cx, cy, cw, ch⟩, aJ, l⟩ bV = z26 by unfold aZ; rw [if_pos HB.out]]
   exact ⟨_, _, rfl, Kd.pI _ _ _ _ _, S.out.below⟩
end Go.Proofs.YtfdmfgaiblfbhaaGreat.P
namespace Go.Proofs.YtfdmfgaiblfbhaaGreat.P
open Go.RowKit Go.Proofs.ag.aU Go.Proofs.ag.bK Go.Proofs.ag.cO
attribute [local go_sem] jG jR kQ lq jJ jK kT kU
def Ha.f (k : Nat) (a0 : Int) (a1 : Int) : Option (List Int × Bool) := if a1 < 1 then (some (([] : List Int), false)) else (if a1 > 20000 then (some (([] : List Int), false)) else (if a0 < (wrap64 ((wrap64 (2 * a1)) - 1)) then (some (([] : List Int), false)) else (if a0 > 2147483647 then (some (([] : List Int), false)) else (if 0 ≤ a1 then (if (a1 : Int).toNat ≤ 35184372088832 then ((bW.f k (wrap64 ((wrap64 (a0 - a1)) + 1)) (List.replicate (a1 : Int).toNat 0)).bind fun akD => (some (akD.1, true))) else (none)) else (none)))))
def acO.f (k : Nat)  : Option (Bool) := (Ha.f k 80 3).bind fun acj => ((Ha.f k 8 3).bind fun ack => (if acj.2 = true then (if ack.2 = true then ((n_.f k acj.1 (([26, 26, 26] : List Int))).bind fun anz => (if anz = true then ((n_.f k ack.1 (([2, 2, 2] : List Int))).bind fun anA => (some anA)) else (some false))) else (some false)) else (some false)))
mutual
def kY.j0 : Nat → Int → Int → List Int → Bool → Option (List Int × Bool)
 | 0, _, _, _, _ => none
 | k + 1, x0, x1, x6, x27 => if x27 = true then (some (x6, false)) else (if x1 = 0 then (none) else (kY.l0 k x1 x6 (wrap64 (Int.tdiv (wrap64 (x0 - (wrap64 (x1 - 1)))) x1)) (Int.tmod (wrap64 (x0 - (wrap64 (x1 - 1)))) x1) 0))
def kY.l0 : Nat → Int → List Int → Int → Int → Int → Option (List Int × Bool)
 | 0, _, _, _, _, _ => none
 | k + 1, x1, x6, x7, x8, x9 => if x9 < x1 then (if x9 < x8 then (if x6.length < 17592186044416 then (kY.l0 k x1 (x6 ++ [wrap64 (x7 + 1)]) x7 x8 (wrap64 (x9 + 1))) else (none)) else (if x6.length < 17592186044416 then (kY.l0 k x1 (x6 ++ [x7]) x7 x8 (wrap64 (x9 + 1))) else (none))) else (some (x6, true))
end
def kY.f (k : Nat) (a0 : Int) (a1 : Int) : Option (List Int × Bool) := (some (([] : List Int) : List Int)).bind fun WT => (if a1 < 1 then (kY.j0 k a0 a1 WT true) else (if a1 > 20000 then (kY.j0 k a0 a1 WT true) else (if a0 < (wrap64 ((wrap64 (2 * a1)) - 1)) then (kY.j0 k a0 a1 WT true) else (kY.j0 k a0 a1 WT (decide (a0 > 2147483647))))))
end Go.Proofs.YtfdmfgaiblfbhaaGreat.P
namespace Go.Proofs.YtfdmfgaiblfbhaaGreat.Pure
open Go.RowKit Go.Proofs.YtfdmfgaiblfbhaaGreat.P Go.Proofs.ag.aU Go.Proofs.ag.bK Go.Proofs.ag.cO
end Go.Proofs.YtfdmfgaiblfbhaaGreat.Pure
namespace Go.Proofs.YtfdmfgaiblfbhaaGreat.P
open Go.RowKit Go.Proofs.ag.aU Go.Proofs.ag.bK Go.Proofs.ag.cO
theorem G_ : ∀ (N : Nat), (∀ c : ai, sz c ≤ N → ∀ x y, sz (bU c x y) = sz c) ∧ (∀ l : List ai, dY l ≤ N → ∀ a x y, dY (lg a l x y) = dY l) := by
 intro N
 induction N with
 | zero => exact ⟨fun c h => by rw [bJ] at h; omega, fun l h a x y => by cases l with
  | nil => rw [nG]
  | cons k ks => rw [bH] at h; have := bJ k; omega⟩
 | succ N ih =>
  have hC : ∀ c : ai, sz c ≤ N + 1 → ∀ x y, sz (bU c x y) = sz c := fun c h x y => by
   rw [ou, bJ, bJ c]
   show 1 + dY (lg c.f0 c.f3 x y) = _
   rw [ih.2 c.f3 (by rw [bJ] at h; omega)]
  refine ⟨hC, fun l => ?_⟩
  induction l with
  | nil => intro _ a x y; rw [nG]
  | cons k ks ihl =>
   intro h a x y
   rw [rH, bH, bH]
   rw [bH] at h
   rw [hC k (by omega), ihl (by omega)]
section
variable {W : World} {b : Nat} {P : Nat → Prop} {A : Option Addr} {cc : Nat}
end
theorem jb {W W1 : World} {Q : Nat → Value → Prop} {ad : Nat → Addr} (h : ∀ (j : Nat) (u : Value), Q j u → W.cell? (ad j) = some u) (hb : Below W.heap.size W W1) : ∀ (j : Nat) (u : Value), Q j u → W1.cell? (ad j) = some u :=
 fun j u hq => (hb.cell (World.block_lt_of_cell? W _ (h j u hq))).trans (h j u hq)
def aqw.T0 : Bool × List (List Nat × List Nat) := (true, [([], []), ([0], [0]), ([1], [1]), ([2], [2]), ([3], [3]), ([], []), ([], []), ([6], [6]), ([7], [7]), ([8], [8]), ([9], [9]), ([], []), ([10, 11], [10, 11]), ([12], [12]), ([13], [13]), ([], []), ([15], [15]), ([16], [16]), ([17], [17]), ([], []), ([14, 18, 19, 14], [14, 18, 19]), ([20], [20]), ([21], [21]), ([21], [21]), ([4, 5, 0, 1, 2, 3, 4, 5, 6, 7, 8, 9, 10, 11, 12, 13, 14, 15, 16, 17, 18, 19, 20, 21, 22], [4, 5]), ([24, 22, 20, 0, 1, 2, 3, 4, 5, 6, 7, 8, 9, 10, 11, 12, 13, 14, 15, 16, 17, 18, 19, 20, 21, 22], [22, 24])])
end Go.Proofs.YtfdmfgaiblfbhaaGreat.P
namespace Go.Proofs.YtfdmfgaiblfbhaaGreat.P
open Go.RowKit Go.Proofs.ag.aU Go.Proofs.ag.bK Go.Proofs.ag.cO
attribute [local go_sem] jG kQ jR lq
end Go.Proofs.YtfdmfgaiblfbhaaGreat.P
namespace Go.Proofs.YtfdmfgaiblfbhaaGreat.P
open Go.Shelf
def Iz : Ren := ⟨fun f => match f with | 21 => 48 | 27 => 66 | 28 => 67 | 35 => 86 | 39 => 95 | n => n, fun t => match t with | 22 => 41 | n => n, fun g => g⟩
theorem KX : Lays2.n21 Tryz.prog Iz where
 mixed := by kernel_rfl
 f21 := Tryz.func48
 f27 := Tryz.func66
 f28 := Tryz.func67
 f35 := Tryz.func86
 f39 := Tryz.func95
 t0 := Tryz.underlying0
 a0 := fun w => by kernel_rfl
 z0 := fun w => by kernel_rfl
 v0 := fun w => by kernel_rfl
 t3 := Tryz.underlying3
 a3 := fun w => by kernel_rfl
 z3 := fun w => by kernel_rfl
 v3 := fun w => by kernel_rfl
 t4 := Tryz.underlying4
 a4 := fun w => by kernel_rfl
 z4 := fun w => by kernel_rfl
 v4 := fun w => by kernel_rfl
 t22 := Tryz.underlying41
 a22 := fun w => by kernel_rfl
 z22 := fun w => by kernel_rfl
 v22 := fun w => by kernel_rfl
 i3 := by kernel_rfl
end Go.Proofs.YtfdmfgaiblfbhaaGreat.P
namespace Go.Proofs.YtfdmfgaiblfbhaaGreat.P
open Go.RowKit Go.Shelf Go.Proofs.ag.aU Go.Proofs.ag.bK Go.Proofs.ag.cO
theorem IG (n : Nat) : (Builtin.zeroCells (Value.int .i64 0).cells n).size = n := by simp [Builtin.zeroCells, Value.cells]
theorem ER {w w1 : World} {B : Nat} (h : Below B w.drew w1) : Below B w w1 := ⟨h.os, h.tape.trans rfl, h.output, h.size, h.block⟩
theorem YI (w : World) (base : Nat) (hbase : base ≤ w.heap.size) (v : Value) (xs : List Int) (x : Int) (vb vc : Nat) (hs : w.ownsRow base 3 1 v xs.length (encs (Value.int .i64) xs)) (hv : w.heap[vb]? = some (.cells #[.int .i64 x] 3 (0, 0))) (hne : v.ownBlock ≠ some vb) (hlen : xs.length ≤ 1000000) :
  Calls Tryz.prog 48 #[v, .int .i64 0, .slice (some ⟨vb, 0, none⟩) 1 vc] w fun e w' => ∃ v', e = .returned v' ∧ w'.ownsRow base 3 1 v' (x :: xs).length (encs (Value.int .i64) (x :: xs)) ∧ Below base w w' := by
 have hvs : ∀ j u, [Value.int .i64 x][j]? = some u → w.cell? ⟨vb, 0 + j, none⟩ = some u := by
  intro j u hj
  cases j with
  | zero => rw [af hv 0]; exact hj
  | succ j => simp at hj
 have h1v : ∀ u ∈ [Value.int .i64 x], u.oneCell' = true := by simp [Value.oneCell']
 have h1c : ∀ u ∈ encs (Value.int .i64) xs, u.oneCell' = true := by
  intro u hu
  obtain ⟨i, _, rfl⟩ := List.mem_map.1 hu
  rfl
 obtain ⟨hl, hcase⟩ := hs
 rcases hcase with ⟨rfl, h0⟩ | ⟨g, cap, cur, rfl, hbg, hh, hnc, hcm, hcs, htk⟩
 ·obtain rfl : xs = [] := List.eq_nil_of_length_eq_zero h0
  refine (Any2.slices_Insert_int_end_grow KX none 0 0 vb 0 1 vc [] [.int .i64 x] w (by omega) (by omega) (by omega) (by omega) rfl rfl (fun _ => rfl) (fun a h => by cases h) hvs h1v).mono ?_
  rintro e w' ⟨rfl, rfl⟩
  have hg := grownCap_ge w (0 + 1) 0 3
  have hg2 := grownCap_le_maxLen w (0 + 1) 0 3 (by unfold maxLen; omega)
  refine ⟨_, rfl, ⟨rfl, .inr ⟨w.heap.size, _, _, rfl, hbase, heap_alloc_new w.drew _, hg, hg2, ?_, ?_⟩⟩, ER ((Below.refl base w.drew).alloc hbase _)⟩
  ·rw [Array.size_append, IG]
   show 1 + (grownCap w (0 + 1) 0 3 - (0 + 1)) = grownCap w (0 + 1) 0 3 * 1
   omega
  ·simp [encs]
 ·have hcl : (encs (Value.int .i64) xs).length = xs.length := wX xs
  have hlt := gU hh
  have hgv : vb ≠ g := fun e => hne (by rw [e]; rfl)
  have hcells : ∀ j u, (encs (Value.int .i64) xs)[j]? = some u → w.cell? ⟨g, 0 + j, none⟩ = some u := by
   intro j u hj
   rw [af hh, Nat.zero_add, ← Array.getElem?_toList]
   rw [← htk, Nat.mul_one, List.getElem?_take] at hj
   split at hj
   ·exact hj
   ·cases hj
  have hsp : ∀ j, j < cap → (w.cell? ⟨g, 0 + j, none⟩).isSome = true := by
   intro j hj
   rw [af hh, Nat.zero_add, Array.getElem?_eq_getElem (by omega)]
   rfl
  have hfz : ∀ j, w.frozen? ⟨g, 0 + j, none⟩ = false := fun j => ah hh _
  by_cases h0 : xs.length = 0
  ·obtain rfl : xs = [] := List.eq_nil_of_length_eq_zero h0
   by_cases hr : 0 + 1 ≤ cap
   ·refine (Any2.slices_Insert_int_end_room KX g 0 0 cap vb 0 1 vc [.int .i64 x] w (by omega) hr (by unfold maxLen at hcm; omega) rfl (fun j hj => by rw [Nat.add_assoc]; exact hsp (0 + j) (by omega)) (fun j _ => by rw [Nat.add_assoc]; exact hfz (0 + j)) hvs h1v).mono ?_
    rintro e w' ⟨rfl, rfl⟩
    obtain ⟨cur', h3, h4, h5⟩ := nC [Value.int .i64 x] (0 + 0) w cur hh (by simp; omega)
    obtain ⟨_, hgr⟩ := tK hh (show (0 + 0) + [Value.int .i64 x].length ≤ cur.size by simp; omega) (cs' := cur') h5.symm
    refine ⟨_, rfl, ⟨rfl, .inr ⟨g, cap, cur', rfl, hbg, h3, hr, hcm, by rw [h4, hcs], ?_⟩⟩, grown_below (Below.refl base w) hgr hbg hbase⟩
    rw [h5]
    simp [encs]
   ·refine (Any2.slices_Insert_int_end_grow KX (some ⟨g, 0, none⟩) 0 cap vb 0 1 vc [] [.int .i64 x] w (by omega) (by omega) (by omega) (by omega) rfl rfl (fun h => by cases h) (fun a h j u hj => by simp at hj) hvs h1v).mono ?_
    rintro e w' ⟨rfl, rfl⟩
    have hg := grownCap_ge w (0 + 1) cap 3
    have hg2 := grownCap_le_maxLen w (0 + 1) cap 3 (by unfold maxLen; omega)
    refine ⟨_, rfl, ⟨rfl, .inr ⟨w.heap.size, _, _, rfl, hbase, heap_alloc_new w.drew _, hg, hg2, ?_, ?_⟩⟩, ER ((Below.refl base w.drew).alloc hbase _)⟩
    ·rw [Array.size_append, IG]
     show 1 + (grownCap w (0 + 1) cap 3 - (0 + 1)) = grownCap w (0 + 1) cap 3 * 1
     omega
    ·simp [encs]
  ·by_cases hr : xs.length + 1 ≤ cap
   ·refine (Any2.slices_Insert_int_shift KX g 0 xs.length cap 0 vb 0 1 vc (encs (Value.int .i64) xs) [.int .i64 x] w (by omega) (by omega) hr (by unfold maxLen at hcm; omega) hgv hcl rfl hcells (fun j hj => hsp j (by omega)) (fun j _ => hfz j) hvs h1c h1v
     3 3 1 cap (by simp [World.shape?, hv]) (by simp [World.shape?, hh, hcs]) (by omega) (ah hv 0) (ah hv 1)).mono ?_
    rintro e w' ⟨rfl, rfl⟩
    have hh' : w.drew.heap[g]? = some (.cells cur 3 (0, 0)) := hh
    have e1 : 0 + (0 + 1) + ((encs (Value.int .i64) xs).drop 0).length ≤ cur.size := by rw [List.drop_zero, hcl]; omega
    obtain ⟨c1, h3, h4, h5⟩ := nC ((encs (Value.int .i64) xs).drop 0) (0 + (0 + 1)) w.drew cur hh' e1
    obtain ⟨_, RZ⟩ := tK hh' e1 (cs' := c1) h5.symm
    have e2 : (0 + 0) + [Value.int .i64 x].length ≤ c1.size := by simp; omega
    obtain ⟨c2, h6, h7, h8⟩ := nC [Value.int .i64 x] (0 + 0) _ c1 h3 e2
    obtain ⟨_, aaQ⟩ := tK h3 e2 (cs' := c2) h8.symm
    refine ⟨_, rfl, ⟨by rw [wX, Nat.mul_one], .inr ⟨g, cap, c2, rfl, hbg, h6, hr, hcm, by rw [h7, h4, hcs], ?_⟩⟩, ER (grown_below (grown_below (Below.refl base w.drew) RZ hbg hbase) aaQ hbg (Nat.le_trans hbase RZ.size))⟩
    rw [h8, h5]
    have hc1 : cur.toList.length = cap := by rw [Array.length_toList]; omega
    simp only [List.drop_zero, Nat.zero_add, List.take_zero, List.nil_append, List.length_singleton, List.length_cons, List.length_nil]
    have ht : (cur.toList.take 1).length = 1 := by rw [List.length_take]; omega
    rw [List.append_assoc, List.drop_left' ht, Nat.mul_one]
    show (Value.int .i64 x :: (encs (Value.int .i64) xs ++ cur.toList.drop (1 + (encs (Value.int .i64) xs).length))).take (xs.length + 1) = encs (Value.int .i64) (x :: xs)
    rw [List.take_succ_cons, List.take_append_of_le_length (by omega), List.take_of_length_le (by omega)]
    rfl
   ·refine (Any2.slices_Insert_int_grow KX g 0 xs.length cap 0 vb 0 1 vc (encs (Value.int .i64) xs) [.int .i64 x] w (by omega) (by omega) hnc (by omega) (by omega) hcl rfl hcells hvs h1c h1v).mono ?_
    rintro e w' ⟨rfl, rfl⟩
    have hg := grownCap_ge w (xs.length + 1) cap 3
    have hg2 := grownCap_le_maxLen w (xs.length + 1) cap 3 (by unfold maxLen; omega)
    have hh0 := heap_alloc_new w (.cells (((encs (Value.int .i64) xs).take 0).toArray ++ Builtin.zeroCells (Value.int .i64 0).cells (xs.length + 1 - 0) ++ Builtin.zeroCells (Value.int .i64 0).cells (grownCap w (xs.length + 1) cap (Iz.t 3) - (xs.length + 1))) (Iz.t 3))
    generalize Jq : ((((encs (Value.int .i64) xs).take 0).toArray ++ Builtin.zeroCells (Value.int .i64 0).cells (xs.length + 1 - 0) ++ Builtin.zeroCells (Value.int .i64 0).cells (grownCap w (xs.length + 1) cap (Iz.t 3) - (xs.length + 1)))) = MH at hh0 ⊢
    have hsz0 : MH.size = grownCap w (xs.length + 1) cap 3 := by
     rw [← Jq, Array.size_append, Array.size_append, IG, IG]
     show 0 + (xs.length + 1 - 0) + (grownCap w (xs.length + 1) cap 3 - (xs.length + 1)) = _
     omega
    have hal : Below base w (w.alloc (.cells MH (Iz.t 3))) := (Below.refl base w).alloc hbase _
    generalize w.alloc (.cells MH (Iz.t 3)) = wa at hh0 hal ⊢
    have hh1 : wa.drew.heap[w.heap.size]? = some (.cells MH 3 (0, 0)) := hh0
    have e1 : 0 + [Value.int .i64 x].length ≤ MH.size := by rw [hsz0]; simp; omega
    obtain ⟨c1, h3, h4, h5⟩ := nC [Value.int .i64 x] 0 wa.drew MH hh1 e1
    obtain ⟨_, RZ⟩ := tK hh1 e1 (cs' := c1) h5.symm
    generalize wa.drew.setCells w.heap.size 0 [Value.int .i64 x] = wb at h3 RZ ⊢
    have hh2 : wb.drew.heap[w.heap.size]? = some (.cells c1 3 (0, 0)) := h3
    have e2 : (0 + 1) + ((encs (Value.int .i64) xs).drop 0).length ≤ c1.size := by rw [List.drop_zero, hcl, h4, hsz0]; omega
    obtain ⟨c2, h6, h7, h8⟩ := nC ((encs (Value.int .i64) xs).drop 0) (0 + 1) wb.drew c1 hh2 e2
    obtain ⟨_, aaQ⟩ := tK hh2 e2 (cs' := c2) h8.symm
    have hB1 : Below base w wa.drew := bF hal
    have hB2 : Below base w wb := grown_below hB1 RZ hbase (Nat.le_trans hbase hB1.size)
    refine ⟨_, rfl, ⟨by rw [wX, Nat.mul_one], .inr ⟨w.heap.size, _, c2, rfl, hbase, h6, hg, hg2, by rw [h7, h4, hsz0]; exact (Nat.mul_one _).symm, ?_⟩⟩, grown_below (bF hB2) aaQ hbase (Nat.le_trans hbase hB2.size)⟩
    rw [h8, h5]
    simp only [List.drop_zero, Nat.zero_add, List.take_zero, List.nil_append, List.length_singleton, List.length_cons]
    rw [List.singleton_append, List.take_succ_cons, List.take_zero, Nat.mul_one, List.append_assoc]
    show (Value.int .i64 x :: (encs (Value.int .i64) xs ++ _)).take (xs.length + 1) = encs (Value.int .i64) (x :: xs)
    rw [List.take_succ_cons, List.take_append_of_le_length (by omega), List.take_of_length_le (by omega)]
    rfl
end Go.Proofs.YtfdmfgaiblfbhaaGreat.P
namespace Go.Proofs.YtfdmfgaiblfbhaaGreat.P
open Go.RowKit Go.Proofs.ag.aU Go.Proofs.ag.bK Go.Proofs.ag.cO
section
variable {P : Program} {ops : Array Oper} {rest : List Oper} {o : Oper} {a : Act} {Q : Exit → Act → World → Prop}
theorem O4 {W : World} (hgd : o.guard = none) {N : Tmp} (_hd : o.dst = some N) {cs : Array Value} {t : TypeId} {n c : Nat}
  (hrun : (execOp a.eval o).run P W = .ok (.value (.slice (some ⟨W.heap.size, 0, none⟩) n c)) (W.alloc (.cells cs t (0, 0))))
  (h : ∀ g, g = W.heap.size → ∀ w1, w1.heap[g]? = some (.cells cs t (0, 0)) → Below W.heap.size W w1 → wpList P ops Q rest (a.put o.dst (.slice (some ⟨g, 0, none⟩) n c)) w1) : wpList P ops Q (o :: rest) a W :=
 Kd.Dt hgd hrun (h _ rfl _ (MB W _) (aY (Below.refl _ _) _))
end
mutual
def fB (id : Int) : ai → Option (List Int)
 | ⟨a, _, d, l⟩ => if a = 1 ∧ d = id then some [] else qJ id 0 l
def qJ (id : Int) : Nat → List ai → Option (List Int)
 | _, [] => none
 | i, k :: ks => match fB id k with
  | some p => some ((i : Int) :: p)
  | none => qJ id (i + 1) ks
end
theorem vz (id : Int) (c : ai) : fB id c = if c.f0 = 1 ∧ c.f2 = id then some [] else qJ id 0 c.f3 := by cases c; simp [fB]
theorem rf (id : Int) (i : Nat) : qJ id i [] = none := by simp [qJ]
theorem pM (id : Int) (i : Nat) (k : ai) (ks : List ai) : qJ id i (k :: ks) = match fB id k with | some p => some ((i : Int) :: p) | none => qJ id (i + 1) ks := by simp [qJ]
theorem Rz (id : Int) : ∀ (N : Nat), (∀ c : ai, sz c ≤ N → ∀ p, fB id c = some p → p.length ≤ sz c) ∧ (∀ l : List ai, dY l ≤ N → ∀ i p, qJ id i l = some p → p.length ≤ 1 + dY l) := by
 intro N
 induction N with
 | zero =>
  refine ⟨fun c h => ?_, fun l h => ?_⟩
  ·rw [bJ] at h; omega
  ·cases l with
   | nil => intro i p hp; rw [rf] at hp; cases hp
   | cons z zs => rw [bH, bJ] at h; omega
 | succ N ih =>
  have hC : ∀ c : ai, sz c ≤ N + 1 → ∀ p, fB id c = some p → p.length ≤ sz c := by
   intro c h p hp
   have hs := bJ c
   rw [vz] at hp
   split at hp
   ·injection hp with hp; subst hp; simp
   ·have := ih.2 c.f3 (by omega) 0 p hp
    omega
  refine ⟨hC, fun l => ?_⟩
  induction l with
  | nil => intro _ i p hp; rw [rf] at hp; cases hp
  | cons z zs ihl =>
   intro h i p hp
   rw [bH] at h ⊢
   rw [pM] at hp
   cases hz : fB id z with
   | some q =>
    rw [hz] at hp
    injection hp with hp
    have := hC z (by omega) q hz
    rw [← hp, List.length_cons]
    omega
   | none =>
    rw [hz] at hp
    have := ihl (by omega) (i + 1) p hp
    omega
def ajV (w : World) (r : Option (List Int)) (e : Ending) (w' : World) : Prop := ∃ v : Value, e = .returned (.tuple #[v, .bool r.isSome]) ∧ (Kd.int .i64).R 3 w' w.heap.size (fun _ => True) v (r.getD []) ∧ Below w.heap.size w w'
theorem ahP (id : Int) : ∀ (N : Nat) (c : ai), sz c ≤ N → N ≤ 1000000 → ∀ (A : Option Addr) (cc : Nat) (w : World), Kd.C k26 w A c.f3.length c.f3 → c.f3.length ≤ cc →
  Calls Tryz.prog 28 #[.agg #[.int .u8 c.f0, .int .i64 c.f1.f0, .int .i64 c.f1.f1, .int .i64 c.f1.f2, .int .i64 c.f1.f3, .int .i64 c.f2, .slice A c.f3.length cc], .int .i64 id] w (ajV w (fB id c)) := by
 intro N
 induction N with
 | zero => intro c h; rw [bJ] at h; omega
 | succ N ih =>
  intro c hc hN A cc w hr hlc
  have hsz := bJ c
  have hlen := jf c.f3
  have hkz : ∀ k : ai, k ∈ c.f3 → sz k ≤ N := by
   intro k hk
   have : sz k ≤ dY c.f3 := by
    obtain ⟨p, q, e⟩ := List.append_of_mem hk
    rw [e, l7, bH]; omega
   omega
  have IH := ae.mk fun (k : ai) (hk : k ∈ c.f3) => ih k (hkz k hk) (by omega)
  have zJ := ae.mk fun (k : ai) (hk : k ∈ c.f3) (p : List Int) (hp : fB id k = some p) => Nat.le_trans ((Rz id (sz k)).1 k (Nat.le_refl _) p hp) (Nat.le_trans (hkz k hk) (by omega : N ≤ 1000000))
  have HR := ae.mk hr
  have HLC := ae.mk hlc
  have HL := ae.mk (show c.f3.length ≤ 1000000 by omega)
  have HB := ae.mk (Below.refl w.heap.size w)
  rw [vz]
  clear ih hkz hr hlc hc hN hsz hlen
  obtain ⟨ck, ⟨cx, cy, cw, ch⟩, aJ, l⟩ := c
  simp only [] at HR HLC HL IH zJ ⊢
  by_cases h1 : ck = 1
  ·have h1b : (ck == 1) = true := beq_iff_eq.mpr h1
   by_cases h2 : aJ = id
   ·have h2b : (aJ == id) = true := beq_iff_eq.mpr h2
    rw [if_pos ⟨h1, h2⟩]
    clear h1 h2
    go_enter Tryz.func28, Tryz.ntmps28
    go_wp2_with (((with_reducible refine aA (N := 2) rfl ?_); refine aV ?hg (N := 2) ?hd (cs := #[.int .u8 ck, .int .i64 cx, .int .i64 cy, .int .i64 cw, .int .i64 ch, .int .i64 aJ, .slice A l.length cc]) (t := 26) ?hr ?_; (case hd => rfl); (case hg => rfl); (case hr => (go_simp; done)); intro b2 hg w2 hbox hb; have K2 := ae.mk hbox; have q_ := ae.mk (au HB.out hb); clear HB; have HB := q_; clear q_; clear hb hbox hg; have c0 := (af K2.out 0).trans rfl; have c1 := (af K2.out 1).trans rfl; have c2 := (af K2.out 2).trans rfl; have c3 := (af K2.out 3).trans rfl; have c4 := (af K2.out 4).trans rfl; have c5 := (af K2.out 5).trans rfl; have c6 := (af K2.out 6).trans rfl))
    go_ret2
    exact ⟨_, rfl, Kd.t_ _ _ _ _ _, HB.out⟩
   ·have h2b : (aJ == id) = false := beq_eq_false_iff_ne.mpr h2
    rw [if_neg (fun h => h2 h.2)]
    clear h1 h2
    go_enter Tryz.func28, Tryz.ntmps28
    go_wp2_with (((with_reducible refine aA (N := 2) rfl ?_); refine aV ?hg (N := 2) ?hd (cs := #[.int .u8 ck, .int .i64 cx, .int .i64 cy, .int .i64 cw, .int .i64 ch, .int .i64 aJ, .slice A l.length cc]) (t := 26) ?hr ?_; (case hd => rfl); (case hg => rfl); (case hr => (go_simp; done)); intro b2 hg w2 hbox hb; have K2 := ae.mk hbox; have q_ := ae.mk (au HB.out hb); clear HB; have HB := q_; clear q_; clear hb hbox hg; have c0 := (af K2.out 0).trans rfl; have c1 := (af K2.out 1).trans rfl; have c2 := (af K2.out 2).trans rfl; have c3 := (af K2.out 3).trans rfl; have c4 := (af K2.out 4).trans rfl; have c5 := (af K2.out 5).trans rfl; have c6 := (af K2.out 6).trans rfl))
    clear c0 c1 c2 c3 c4 c5 c6
    go_loopg [22] l.length (fun gg v22 wr => ∃ (pre rest : List ai), v22 = .int .i64 (pre.length : Int) ∧ ae (pre ++ rest = l) ∧ rest.length ≤ gg ∧ ae (qJ id 0 l = qJ id pre.length rest) ∧ ae (Below w.heap.size w wr))
    case atStart => exact ⟨[], l, rfl, ⟨rfl⟩, Nat.le_refl _, ⟨rfl⟩, HB⟩
    case round =>
     clear HB K2
     obtain ⟨pre, rest, rfl, HE, hgg, HF, HB⟩ := hrel
     cases rest with
     | nil =>
      have hlt : ¬ ((pre.length : Int) < (l.length : Int)) := by have := HE.out; rw [List.append_nil] at this; rw [this]; omega
      clear hgg
      go_wp2
      go_ret2
      rw [HF.out, rf]
      exact ⟨_, rfl, Kd.t_ _ _ _ _ _, HB.out⟩
     | cons k rest =>
      have hk : k ∈ l := by rw [← HE.out]; simp
      have hlt : (pre.length : Int) < (l.length : Int) := by rw [← HE.out, List.length_append, List.length_cons]; omega
      have hw : wrap64 ((pre.length : Int) + 1) = ((pre ++ [k]).length : Int) := by rw [List.length_append, List.length_singleton]; unfold wrap64; have := HL.out; omega
      have hrd : aj l (pre.length : Int) = k := by rw [← HE.out]; simp [aj, List.getD_eq_getElem?_getD]
      obtain ⟨ad, ua, uc, rfl, h0, h1, h2, h3, h4, h5, h6, OT, hgu⟩ := qi HR.out (pre.length : Int) (Int.natCast_nonneg _) hlt
      rw [hrd] at h0 h1 h2 h3 h4 h5 h6 OT hgu
      simp only [Int.toNat_natCast] at h0 h1 h2 h3 h4 h5 h6
      replace h0 := (HB.out.cell (World.block_lt_of_cell? w _ h0)).trans h0
      replace h1 := (HB.out.cell (World.block_lt_of_cell? w _ h1)).trans h1
      replace h2 := (HB.out.cell (World.block_lt_of_cell? w _ h2)).trans h2
      replace h3 := (HB.out.cell (World.block_lt_of_cell? w _ h3)).trans h3
      replace h4 := (HB.out.cell (World.block_lt_of_cell? w _ h4)).trans h4
      replace h5 := (HB.out.cell (World.block_lt_of_cell? w _ h5)).trans h5
      replace h6 := (HB.out.cell (World.block_lt_of_cell? w _ h6)).trans h6
      have HU := ae.mk hgu
      have LU := ae.mk OT
      have HW := ae.mk hw
      have HK := ae.mk hk
      have HG := ae.mk hgg
      clear hgu OT hw hk hgg hrd
      go_wp2_with (first | ((with_reducible refine aA (N := 7) rfl ?_); refine aV ?hg (N := 7) ?hd (cs := #[.int .u8 0, .int .i64 0, .int .i64 0, .int .i64 0, .int .i64 0, .int .i64 0, .slice none 0 0]) (t := 26) ?hr ?_; (case hd => rfl); (case hg => rfl); (case hr => (go_simp; done)); intro b7 hg w7 hbox hb; have K7 := ae.mk hbox; have G7 := ae.mk (show w.heap.size ≤ b7 by rw [hg]; exact HB.out.size); have q_ := ae.mk (au HB.out hb); clear HB; have HB := q_; clear q_; clear hb hbox hg) | ((with_reducible refine mV (.store 26 (.tmp 7) (.tmp 26)) rfl ?_); go_loud (refine iO (w0 := w) rfl rfl 26 (.tmp 7) (.tmp 26) rfl (g := b7) (j := 0) (base := w.heap.size) #[.int .u8 k.f0, .int .i64 k.f1.f0, .int .i64 k.f1.f1, .int .i64 k.f1.f2, .int .i64 k.f1.f3, .int .i64 k.f2, .slice ua k.f3.length uc] (u := .agg #[.int .u8 k.f0, .int .i64 k.f1.f0, .int .i64 k.f1.f1, .int .i64 k.f1.f2, .int .i64 k.f1.f3, .int .i64 k.f2, .slice ua k.f3.length uc]) (df := [.int .u8 k.f0, .int .i64 k.f1.f0, .int .i64 k.f1.f1, .int .i64 k.f1.f2, .int .i64 k.f1.f3, .int .i64 k.f2, .slice ua k.f3.length uc]) ?sA ?sX rfl ?sT ?s1 K7.out ?sJ rfl HB.out HB.out.size G7.out ?_; (case sA => rfl); (case sX => rfl); (case sT => rfl); (case s1 => (simp [Value.oneCell'])); (case sJ => (simp)); intro ws hbk hbb hgg; clear K7 HB; have K7 := ae.mk hbk; have HB := ae.mk hbb; clear hbk hbb hgg h0 h1 h2 h3 h4 h5 h6; have d0 := (af K7.out 0).trans rfl; have d1 := (af K7.out 1).trans rfl; have d2 := (af K7.out 2).trans rfl; have d3 := (af K7.out 3).trans rfl; have d4 := (af K7.out 4).trans rfl; have d5 := (af K7.out 5).trans rfl; have d6 := (af K7.out 6).trans rfl)))
      clear d0 d1 d2 d3 d4 d5 d6 K7
      refine (IH.out k HK.out ua uc _ (Kd.g_ HU.out HB.out) LU.out).mono ?_
      rintro e wk ⟨v, rfl, ho, hb⟩
      have HO := ae.mk (Kd.oQ ho HB.out.size)
      have q_ := ae.mk (au HB.out hb); clear HB; have HB := q_; clear q_
      clear ho hb
      cases hf : fB id k with
      | none =>
       rw [hf] at HO
       have HF2 := ae.mk hf
       simp only [hf, Option.isSome_none]
       clear hf
       go_wp2
       go_roundg rest.length
       case measure => exact Nat.lt_of_lt_of_le (Nat.lt_succ_self _) HG.out
       case rel => exact ⟨pre ++ [k], rest, (by rw [HW.out]), ⟨by rw [List.append_assoc]; exact HE.out⟩, Nat.le_refl _, ⟨by rw [HF.out, pM, HF2.out, List.length_append]; rfl⟩, HB⟩
      | some p =>
       rw [hf] at HO
       have HF2 := ae.mk hf
       have HP := ae.mk (zJ.out k HK.out p hf)
       simp only [hf, Option.isSome_some]
       clear hf
       obtain ⟨Ap, cp, ep⟩ := Kd.ig HO.out
       subst ep
       go_wp2_with (((with_reducible refine aA (N := 36) rfl ?_); refine O4 ?hg (N := 36) ?hd (cs := #[.int .i64 (pre.length : Int)]) (t := 3) (n := 1) (c := 1) ?hr ?_; (case hd => rfl); (case hg => rfl); (case hr => (go_simp; done)); intro b9 hg w9 hbox hb; have K9 := ae.mk hbox; have NE := ae.mk (fun e_ => Nat.lt_irrefl _ (hg ▸ Kd.Gl HO.out b9 e_) : ¬ (Value.slice Ap ((some p).getD []).length cp).ownBlock = some b9); have fQ := ae.mk (Kd.mM HO.out hb); clear HO; have HO := fQ; clear fQ; have q_ := ae.mk (au HB.out hb); clear HB; have HB := q_; clear q_; clear hb hbox hg))
       refine (YI _ w.heap.size HB.out.size _ p (pre.length : Int) b9 1 (Kd.Fe HO.out) K9.out NE.out HP.out).mono ?_
       rintro e wi ⟨v', rfl, ho, hb⟩
       have sO := ae.mk ho
       have HB2 := ae.mk (HB.out.trans hb)
       clear ho hb
       go_wp2
       go_ret2
       rw [HF.out, pM, HF2.out]
       exact ⟨_, rfl, Kd.uZ sO.out (fun _ _ => trivial), HB2.out⟩
  ·have h1b : (ck == 1) = false := beq_eq_false_iff_ne.mpr h1
   rw [if_neg (fun h => h1 h.1)]
   clear h1
   go_enter Tryz.func28, Tryz.ntmps28
   go_wp2_with (((with_reducible refine aA (N := 2) rfl ?_); refine aV ?hg (N := 2) ?hd (cs := #[.int .u8 ck, .int .i64 cx, .int .i64 cy, .int .i64 cw, .int .i64 ch, .int .i64 aJ, .slice A l.length cc]) (t := 26) ?hr ?_; (case hd => rfl); (case hg => rfl); (case hr => (go_simp; done)); intro b2 hg w2 hbox hb; have K2 := ae.mk hbox; have q_ := ae.mk (au HB.out hb); clear HB; have HB := q_; clear q_; clear hb hbox hg; have c0 := (af K2.out 0).trans rfl; have c1 := (af K2.out 1).trans rfl; have c2 := (af K2.out 2).trans rfl; have c3 := (af K2.out 3).trans rfl; have c4 := (af K2.out 4).trans rfl; have c5 := (af K2.out 5).trans rfl; have c6 := (af K2.out 6).trans rfl))
   clear c0 c1 c2 c3 c4 c5 c6
   go_loopg [22] l.length (fun gg v22 wr => ∃ (pre rest : List ai), v22 = .int .i64 (pre.length : Int) ∧ ae (pre ++ rest = l) ∧ rest.length ≤ gg ∧ ae (qJ id 0 l = qJ id pre.length rest) ∧ ae (Below w.heap.size w wr))
   case atStart => exact ⟨[], l, rfl, ⟨rfl⟩, Nat.le_refl _, ⟨rfl⟩, HB⟩
   case round =>
    clear HB K2
    obtain ⟨pre, rest, rfl, HE, hgg, HF, HB⟩ := hrel
    cases rest with
    | nil =>
     have hlt : ¬ ((pre.length : Int) < (l.length : Int)) := by have := HE.out; rw [List.append_nil] at this; rw [this]; omega
     clear hgg
     go_wp2
     go_ret2
     rw [HF.out, rf]
     exact ⟨_, rfl, Kd.t_ _ _ _ _ _, HB.out⟩
    | cons k rest =>
     have hk : k ∈ l := by rw [← HE.out]; simp
     have hlt : (pre.length : Int) < (l.length : Int) := by rw [← HE.out, List.length_append, List.length_cons]; omega
     have hw : wrap64 ((pre.length : Int) + 1) = ((pre ++ [k]).length : Int) := by rw [List.length_append, List.length_singleton]; unfold wrap64; have := HL.out; omega
     have hrd : aj l (pre.length : Int) = k := by rw [← HE.out]; simp [aj, List.getD_eq_getElem?_getD]
     obtain ⟨ad, ua, uc, rfl, h0, h1, h2, h3, h4, h5, h6, OT, hgu⟩ := qi HR.out (pre.length : Int) (Int.natCast_nonneg _) hlt
     rw [hrd] at h0 h1 h2 h3 h4 h5 h6 OT hgu
     simp only [Int.toNat_natCast] at h0 h1 h2 h3 h4 h5 h6
     replace h0 := (HB.out.cell (World.block_lt_of_cell? w _ h0)).trans h0
     replace h1 := (HB.out.cell (World.block_lt_of_cell? w _ h1)).trans h1
     replace h2 := (HB.out.cell (World.block_lt_of_cell? w _ h2)).trans h2
     replace h3 := (HB.out.cell (World.block_lt_of_cell? w _ h3)).trans h3
     replace h4 := (HB.out.cell (World.block_lt_of_cell? w _ h4)).trans h4
     replace h5 := (HB.out.cell (World.block_lt_of_cell? w _ h5)).trans h5
     replace h6 := (HB.out.cell (World.block_lt_of_cell? w _ h6)).trans h6
     have HU := ae.mk hgu
     have LU := ae.mk OT
     have HW := ae.mk hw
     have HK := ae.mk hk
     have HG := ae.mk hgg
     clear hgu OT hw hk hgg hrd
     go_wp2_with (first | ((with_reducible refine aA (N := 7) rfl ?_); refine aV ?hg (N := 7) ?hd (cs := #[.int .u8 0, .int .i64 0, .int .i64 0, .int .i64 0, .int .i64 0, .int .i64 0, .slice none 0 0]) (t := 26) ?hr ?_; (case hd => rfl); (case hg => rfl); (case hr => (go_simp; done)); intro b7 hg w7 hbox hb; have K7 := ae.mk hbox; have G7 := ae.mk (show w.heap.size ≤ b7 by rw [hg]; exact HB.out.size); have q_ := ae.mk (au HB.out hb); clear HB; have HB := q_; clear q_; clear hb hbox hg) | ((with_reducible refine mV (.store 26 (.tmp 7) (.tmp 26)) rfl ?_); go_loud (refine iO (w0 := w) rfl rfl 26 (.tmp 7) (.tmp 26) rfl (g := b7) (j := 0) (base := w.heap.size) #[.int .u8 k.f0, .int .i64 k.f1.f0, .int .i64 k.f1.f1, .int .i64 k.f1.f2, .int .i64 k.f1.f3, .int .i64 k.f2, .slice ua k.f3.length uc] (u := .agg #[.int .u8 k.f0, .int .i64 k.f1.f0, .int .i64 k.f1.f1, .int .i64 k.f1.f2, .int .i64 k.f1.f3, .int .i64 k.f2, .slice ua k.f3.length uc]) (df := [.int .u8 k.f0, .int .i64 k.f1.f0, .int .i64 k.f1.f1, .int .i64 k.f1.f2, .int .i64 k.f1.f3, .int .i64 k.f2, .slice ua k.f3.length uc]) ?sA ?sX rfl ?sT ?s1 K7.out ?sJ rfl HB.out HB.out.size G7.out ?_; (case sA => rfl); (case sX => rfl); (case sT => rfl); (case s1 => (simp [Value.oneCell'])); (case sJ => (simp)); intro ws hbk hbb hgg; clear K7 HB; have K7 := ae.mk hbk; have HB := ae.mk hbb; clear hbk hbb hgg h0 h1 h2 h3 h4 h5 h6; have d0 := (af K7.out 0).trans rfl; have d1 := (af K7.out 1).trans rfl; have d2 := (af K7.out 2).trans rfl; have d3 := (af K7.out 3).trans rfl; have d4 := (af K7.out 4).trans rfl; have d5 := (af K7.out 5).trans rfl; have d6 := (af K7.out 6).trans rfl)))
     clear d0 d1 d2 d3 d4 d5 d6 K7
     refine (IH.out k HK.out ua uc _ (Kd.g_ HU.out HB.out) LU.out).mono ?_
     rintro e wk ⟨v, rfl, ho, hb⟩
     have HO := ae.mk (Kd.oQ ho HB.out.size)
     have q_ := ae.mk (au HB.out hb); clear HB; have HB := q_; clear q_
     clear ho hb
     cases hf : fB id k with
     | none =>
      rw [hf] at HO
      have HF2 := ae.mk hf
      simp only [hf, Option.isSome_none]
      clear hf
      go_wp2
      go_roundg rest.length
      case measure => exact Nat.lt_of_lt_of_le (Nat.lt_succ_self _) HG.out
      case rel => exact ⟨pre ++ [k], rest, (by rw [HW.out]), ⟨by rw [List.append_assoc]; exact HE.out⟩, Nat.le_refl _, ⟨by rw [HF.out, pM, HF2.out, List.length_append]; rfl⟩, HB⟩
     | some p =>
      rw [hf] at HO
      have HF2 := ae.mk hf
      have HP := ae.mk (zJ.out k HK.out p hf)
      simp only [hf, Option.isSome_some]
      clear hf
      obtain ⟨Ap, cp, ep⟩ := Kd.ig HO.out
      subst ep
      go_wp2_with (((with_reducible refine aA (N := 36) rfl ?_); refine O4 ?hg (N := 36) ?hd (cs := #[.int .i64 (pre.length : Int)]) (t := 3) (n := 1) (c := 1) ?hr ?_; (case hd => rfl); (case hg => rfl); (case hr => (go_simp; done)); intro b9 hg w9 hbox hb; have K9 := ae.mk hbox; have NE := ae.mk (fun e_ => Nat.lt_irrefl _ (hg ▸ Kd.Gl HO.out b9 e_) : ¬ (Value.slice Ap ((some p).getD []).length cp).ownBlock = some b9); have fQ := ae.mk (Kd.mM HO.out hb); clear HO; have HO := fQ; clear fQ; have q_ := ae.mk (au HB.out hb); clear HB; have HB := q_; clear q_; clear hb hbox hg))
      refine (YI _ w.heap.size HB.out.size _ p (pre.length : Int) b9 1 (Kd.Fe HO.out) K9.out NE.out HP.out).mono ?_
      rintro e wi ⟨v', rfl, ho, hb⟩
      have sO := ae.mk ho
      have HB2 := ae.mk (HB.out.trans hb)
      clear ho hb
      go_wp2
      go_ret2
      rw [HF.out, pM, HF2.out]
      exact ⟨_, rfl, Kd.uZ sO.out (fun _ _ => trivial), HB2.out⟩
def al9.f (a0 a1 a2 a3 a4 a5 : Int) (l : List ai) (id : Int) : Option (List Int × Bool) := if sz ⟨a0, ⟨a1, a2, a3, a4⟩, a5, l⟩ ≤ 1000000 then some ((fB id ⟨a0, ⟨a1, a2, a3, a4⟩, a5, l⟩).getD [], (fB id ⟨a0, ⟨a1, a2, a3, a4⟩, a5, l⟩).isSome) else none
theorem Eb : ∀ (is : List Int) (c x : ai), jX c is = some x → sz x ≤ sz c := by
 intro is
 induction is with
 | nil => intro c x h; injection h with h; rw [h]; exact Nat.le_refl _
 | cons i is ih =>
  intro c x h
  simp only [jX] at h
  split at h
  ·cases h
  ·rename_i hi
   have h1 := ih _ x h
   have h2 := nS (GU c.f3 i (by omega) (by omega))
   have h3 := bJ c
   omega
theorem Ef (id : Int) : ∀ (N : Nat), (∀ c : ai, sz c ≤ N → ∀ p, fB id c = some p → ∃ z, jX c p = some z ∧ z.f0 = 1 ∧ z.f2 = id) ∧
  (∀ l : List ai, dY l ≤ N → ∀ (pre : List ai) (p : List Int), qJ id pre.length l = some p → ∃ i is z, p = i :: is ∧ 0 ≤ i ∧ i < ((pre ++ l).length : Int) ∧ jX (aj (pre ++ l) i) is = some z ∧ z.f0 = 1 ∧ z.f2 = id) := by
 intro N
 induction N with
 | zero =>
  refine ⟨fun c h => ?_, fun l h => ?_⟩
  ·rw [bJ] at h; omega
  ·cases l with
   | nil => intro pre p hp; rw [rf] at hp; cases hp
   | cons z zs => rw [bH, bJ] at h; omega
 | succ N ih =>
  have hC : ∀ c : ai, sz c ≤ N + 1 → ∀ p, fB id c = some p → ∃ z, jX c p = some z ∧ z.f0 = 1 ∧ z.f2 = id := by
   intro c h p hp
   have hs := bJ c
   rw [vz] at hp
   split at hp
   ·rename_i hq
    injection hp with hp
    subst hp
    exact ⟨c, rfl, hq.1, hq.2⟩
   ·obtain ⟨i, is, z, rfl, h0, h1, h2, h3⟩ := ih.2 c.f3 (by omega) [] p hp
    refine ⟨z, ?_, h3⟩
    rw [List.nil_append] at h1 h2
    simp only [jX]
    rw [if_neg (by omega)]
    exact h2
  refine ⟨hC, fun l => ?_⟩
  induction l with
  | nil => intro _ pre p hp; rw [rf] at hp; cases hp
  | cons x xs ihl =>
   intro h pre p hp
   rw [bH] at h
   rw [pM] at hp
   cases hx : fB id x with
   | some q =>
    rw [hx] at hp
    injection hp with hp
    obtain ⟨z, hz, h3⟩ := hC x (by omega) q hx
    refine ⟨(pre.length : Int), q, z, hp.symm, by omega, by rw [List.length_append, List.length_cons]; omega, ?_, h3⟩
    rw [jd]
    exact hz
   | none =>
    rw [hx] at hp
    have e := ihl (by omega) (pre ++ [x]) p (by rw [List.length_append]; exact hp)
    rwa [List.append_assoc] at e
def amL (ax : Int) (c : ai) (p : List Int) (d : Nat) : Bool := match jX c (p.take d) with
 | some z => iF ax z.f0
 | none => false
def frD (ax : Int) (c : ai) (p : List Int) : Option Nat := gDn (amL ax c p) p.length
theorem ag_ : ∀ (p : List Int) (c x : ai), jX c p = some x → ∀ d, d < p.length → ∃ z, jX c (p.take d) = some z ∧ 0 ≤ rd p (d : Int) ∧ rd p (d : Int) < (z.f3.length : Int) := by
 intro p
 induction p with
 | nil => intro c x _ d h; simp at h
 | cons i is ih =>
  intro c x h d hd
  simp only [jX] at h
  split at h
  ·cases h
  ·rename_i hi
   cases d with
   | zero =>
    refine ⟨c, rfl, ?_⟩
    have e : rd (i :: is) ((0 : Nat) : Int) = i := rfl
    rw [e]
    omega
   | succ d =>
    obtain ⟨z, h1, h2⟩ := ih _ x h d (by simpa using hd)
    refine ⟨z, ?_, ?_⟩
    ·rw [List.take_succ_cons]
     simp only [jX]
     rw [if_neg hi]
     exact h1
    ·have e : rd (i :: is) ((d + 1 : Nat) : Int) = rd is (d : Int) := by unfold rd; rw [Int.toNat_natCast, Int.toNat_natCast]; rfl
     rw [e]
     exact h2
theorem Jg : ∀ (p : List Int) (c z : ai), dF c = true → jX c p = some z → dF z = true := by
 intro p
 induction p with
 | nil => intro c z h e; simp only [jX] at e; injection e with e; rwa [← e]
 | cons i is ih =>
  intro c z h e
  simp only [jX] at e
  split at e
  ·cases e
  ·rename_i hi
   exact ih _ z (Pure.rO h (GU c.f3 i (by omega) (by omega))) e
structure LQ (ax : Int) (c : ai) (p : List Int) (d : Nat) (z : ai) (q : Nat) : Prop where
 hd : d < p.length
 at' : jX c (p.take d) = some z
 al : iF ax z.f0 = true
 i0 : 0 ≤ rd p (d : Int)
 i1 : rd p (d : Int) < (z.f3.length : Int)
 len : 2 ≤ z.f3.length
 hq : (q : Int) = mn (rd p (d : Int)) ((z.f3.length : Int) - 2)
theorem LQ.next {ax : Int} {c : ai} {p : List Int} {d : Nat} {z : ai} {q : Nat} (h : LQ ax c p d z q) : q + 1 < z.f3.length := by
 have h1 := h.hq
 have h2 := h.len
 unfold mn at h1
 split at h1 <;> omega
theorem VQ {ax : Int} {z : ai} (hax : ax = 1 ∨ ax = 2) (ht : dF z = true) (ha : iF ax z.f0 = true) : Ba ax (aQ ax z.f1 - ((z.f3.length : Int) - 1)) z.f3 := by
 have hm := kR ht
 have hB := JI ht
 have XV : pz z = true := by rw [vO, Bool.and_eq_true] at hB; exact hB.1
 have hs := pW hm
 have hz := bJ z
 have hl := jf z.f3
 have e : z.f0 - 1 = ax ∧ (z.f0 = 2 ∨ z.f0 = 3) := by
  unfold iF at ha
  simp at ha
  omega
 obtain ⟨g1, _⟩ := E5 XV e.2 (by omega)
 rw [e.1] at g1
 have hg := Pure.mO hax ht
 have hk : 2 ≤ z.f3.length := by
  rcases qm (lM (oL hm)) with ⟨a, _⟩ | ⟨_, b⟩
  ·omega
  ·exact b
 exact ⟨fun k hk => Pure.rO ht hk, by omega, by omega⟩
noncomputable def frN (ax id : Int) (c : ai) : Int := if dF c = true ∧ (ax = 1 ∨ ax = 2) then (match fB id c with
 | none => 6
 | some p => match frD ax c p with
  | none => 10
  | some _ => 0) else 1
def pK.T5 : Bool × List (List Nat × List Nat) := (true, [([], []), ([0], [0]), ([], []), ([], []), ([3], [3]), ([1, 2, 0, 1, 2, 3, 4], [1, 2]), ([5, 4, 4, 0, 1, 2, 3, 4], [4, 5])])
def pK.B5 : List Nat := [0, 1, 0, 0, 8, 31, 63]
theorem pK.TE : je .any (opsOf Tryz.f36 5) = pK.T5 := by kernel_rfl
theorem pK.Kr : iM pK.T5.2 pK.B5 = true := by kernel_rfl
theorem Ji : ∀ (N : Nat) (c : ai), sz c ≤ N → N ≤ 1000000 → ∀ (P : Nat → Prop) (A : Option Addr) (cc : Nat) (w : World), Kd.V k26 26 w w.heap.size P (.slice A c.f3.length cc) c.f3 →
  Calls Tryz.prog 36 #[.agg #[.int .u8 c.f0, .int .i64 c.f1.f0, .int .i64 c.f1.f1, .int .i64 c.f1.f2, .int .i64 c.f1.f3, .int .i64 c.f2, .slice A c.f3.length cc]] w
   fun e w' => ∃ v : Value, e = .returned (.agg #[.int .u8 c.f0, .int .i64 c.f1.f0, .int .i64 c.f1.f1, .int .i64 c.f1.f2, .int .i64 c.f1.f3, .int .i64 c.f2, v]) ∧ Kd.N k26 26 w' w.heap.size (fun k => P k ∨ w.heap.size ≤ k) v c.f3 ∧ Below w.heap.size w w' := by
 intro N
 induction N with
 | zero => intro c h; rw [bJ] at h; omega
 | succ N ih =>
  intro c hc hN P A cc w hs
  have hsz := bJ c
  have hlen := jf c.f3
  have IH := ae.mk fun (k : ai) (hk : k ∈ c.f3) => ih k (by
   have : sz k ≤ dY c.f3 := by
    obtain ⟨p, q, e⟩ := List.append_of_mem hk
    rw [e, l7, bH]; omega
   omega) (by omega)
  have PT := ae.mk fun (W : World) (P' : Nat → Prop) (hV : Kd.V k26 26 W w.heap.size P' (.slice A c.f3.length cc) c.f3) => sS.calls P' A cc c.f3 c.f3 W hV (if_pos (by omega))
  have HO := ae.mk hs
  have HL := ae.mk (show c.f3.length ≤ 1000000 by omega)
  have HB := ae.mk (Below.refl w.heap.size w)
  clear ih hs hc hN hsz hlen
  obtain ⟨ck, ⟨cx, cy, cw, ch⟩, aJ, l⟩ := c
  simp only [] at HO HL IH PT ⊢
  go_enter Tryz.func36, Tryz.ntmps36
  go_upto_region 1 with (first | ((with_reducible refine aA (N := 1) rfl ?_); refine aV ?hg (N := 1) ?hd (cs := #[.int .u8 ck, .int .i64 cx, .int .i64 cy, .int .i64 cw, .int .i64 ch, .int .i64 aJ, .slice A l.length cc]) (t := 26) ?hr ?_; (case hd => rfl); (case hg => rfl); (case hr => (go_simp; done)); intro b3 hg ZG hbox hb; have Xd := ae.mk (show w.heap.size ≤ b3 by rw [hg]; exact HB.out.size); have ng := ae.mk (au HB.out hb); have vJ := ae.mk (Kd.kH (Kd.qh HO.out b3 (by rw [hg]; exact Nat.le_refl _)) hb); clear HB HO; have HB := ng; have HO := vJ; clear ng vJ; have dN := ae.mk hbox; clear hb hbox hg) | ((with_reducible refine aA (N := 2) rfl ?_); refine aV ?hg (N := 2) ?hd (cs := #[.int .u8 0, .int .i64 0, .int .i64 0, .int .i64 0, .int .i64 0, .int .i64 0, .slice none 0 0]) (t := 26) ?hr ?_; (case hd => rfl); (case hg => rfl); (case hr => (go_simp; done)); intro b6 hg wb6 hbox hb; have Gb6 := ae.mk (show w.heap.size ≤ b6 by rw [hg]; exact HB.out.size); have xA := ae.mk (show b3 ≠ b6 by rw [hg]; exact Nat.ne_of_lt (gU dN.out)); have ng := ae.mk (au HB.out hb); have vJ := ae.mk (Kd.kH (Kd.qh HO.out b6 (by rw [hg]; exact Nat.le_refl _)) hb); have jB := ae.mk (aW dN.out hb); clear HB HO dN; have HB := ng; have HO := vJ; have dN := jB; clear ng vJ jB; have iJ := ae.mk hbox; clear hb hbox hg))
  have Ku : _ = some (Value.slice A l.length cc) := (af dN.out 6).trans rfl
  go_upto_region 2 with (first | ((with_reducible refine jF (f := 35) rfl ?_); refine mf (some 7) rfl rfl Tryz.func35 (by kernel_rfl) rfl #[.slice A l.length cc] rfl (by (try simp only [List.map_toArray, List.map_cons, List.map_nil]); rfl) ?_; refine (PT.out _ _ HO.out).mono ?_; rintro e wc1 ⟨v1, rfl, ho, hb⟩; refine ⟨_, rfl, ?_⟩; have HN := ae.mk (Qh ho (gU dN.out) (gU iJ.out) HB.out.size); clear ho HO; obtain ⟨A1, c1, e1⟩ := Kd.jO HN.out; subst e1; have ng := ae.mk (au HB.out hb); have jB := ae.mk (aW dN.out hb); have jC := ae.mk (aW iJ.out hb); clear HB dN iJ; have HB := ng; have dN := jB; have iJ := jC; clear ng jB jC; clear hb) | ((with_reducible refine mV (.store 24 (.tmp 8) (.tmp 7)) rfl ?_); go_loud (refine iO (w0 := w) rfl rfl 24 (.tmp 8) (.tmp 7) rfl (g := b3) (j := 6) (base := w.heap.size) #[.int .u8 ck, .int .i64 cx, .int .i64 cy, .int .i64 cw, .int .i64 ch, .int .i64 aJ, .slice A1 l.length c1] (u := .slice A1 l.length c1) (df := [.slice A1 l.length c1]) ?sA ?sX rfl ?sT ?s1 dN.out ?sJ rfl HB.out HB.out.size Xd.out ?_; (case sA => rfl); (case sX => rfl); (case sT => rfl); (case s1 => (simp [Value.oneCell'])); (case sJ => (simp)); intro ws1 hbk hbb hgg; have jC := ae.mk (dH iJ.out hgg (fun e_ => absurd (Option.some.inj e_) (by exact (fun Rt => xA.out Rt.symm)))); have ni := ae.mk (Kd.xK HN.out hgg (fun k_ hk e_ => absurd (Option.some.inj e_) hk.1.2)); clear iJ HN; have iJ := jC; have HN := ni; clear jC ni; clear dN HB; have dN := ae.mk hbk; have HB := ae.mk hbb; clear hbk hbb hgg)))
  clear Ku
  have Ku : _ = some (Value.slice A1 l.length c1) := (af dN.out 6).trans rfl
  go_wp2
  clear Ku
  go_loopg [12] l.length (fun gg v22 wr => ∃ (pre rest : List ai), v22 = .int .i64 (pre.length : Int) ∧ ae (pre ++ rest = l) ∧ rest.length ≤ gg ∧ ae (Kd.N k26 26 wr w.heap.size (fun q => ((P q ∨ w.heap.size ≤ q) ∧ q ≠ b3) ∧ q ≠ b6) (.slice A1 l.length c1) l) ∧ ae (wr.heap[b3]? = some (.cells #[.int .u8 ck, .int .i64 cx, .int .i64 cy, .int .i64 cw, .int .i64 ch, .int .i64 aJ, .slice A1 l.length c1] 26 (0, 0))) ∧ ae (wr.heap[b6]? = some (.cells #[.int .u8 0, .int .i64 0, .int .i64 0, .int .i64 0, .int .i64 0, .int .i64 0, .slice none 0 0] 26 (0, 0))) ∧ ae (Below w.heap.size w wr))
  case atStart => exact ⟨[], l, rfl, ⟨rfl⟩, Nat.le_refl _, HN, dN, iJ, HB⟩
  case round =>
   clear HN dN iJ HB
   obtain ⟨pre, rest, rfl, HE, hgg, HN, dN, iJ, HB⟩ := hrel
   cases rest with
   | nil =>
    have hpl : pre = l := by have := HE.out; rwa [List.append_nil] at this
    have hlt : ¬ ((pre.length : Int) < (l.length : Int)) := by rw [hpl]; omega
    clear hpl hgg
    have c30 := (af dN.out 0).trans rfl
    have c31 := (af dN.out 1).trans rfl
    have c32 := (af dN.out 2).trans rfl
    have c33 := (af dN.out 3).trans rfl
    have c34 := (af dN.out 4).trans rfl
    have c35 := (af dN.out 5).trans rfl
    have Ku := (af dN.out 6).trans rfl
    go_wp2_with (((with_reducible refine mV (.store 26 (.tmp 2) (.tmp 24)) rfl ?_); go_loud (refine iO (w0 := w) rfl rfl 26 (.tmp 2) (.tmp 24) rfl (g := b6) (j := 0) (base := w.heap.size) #[.int .u8 ck, .int .i64 cx, .int .i64 cy, .int .i64 cw, .int .i64 ch, .int .i64 aJ, .slice A1 l.length c1] (u := .agg #[.int .u8 ck, .int .i64 cx, .int .i64 cy, .int .i64 cw, .int .i64 ch, .int .i64 aJ, .slice A1 l.length c1]) (df := [.int .u8 ck, .int .i64 cx, .int .i64 cy, .int .i64 cw, .int .i64 ch, .int .i64 aJ, .slice A1 l.length c1]) ?sA ?sX rfl ?sT ?s1 iJ.out ?sJ rfl HB.out HB.out.size Gb6.out ?_; (case sA => rfl); (case sX => rfl); (case sT => rfl); (case s1 => (simp [Value.oneCell'])); (case sJ => (simp)); intro anK hbk hbb hgg; have ni := ae.mk (Kd.xK HN.out hgg (fun k_ hk e_ => absurd (Option.some.inj e_) hk.2)); have jB := ae.mk (dH dN.out hgg (fun e_ => absurd (Option.some.inj e_) xA.out)); clear HN dN; have HN := ni; have dN := jB; clear ni jB; clear iJ HB; have iJ := ae.mk hbk; have HB := ae.mk hbb; clear hbk hbb hgg)))
    refine bodyPost_ret (results_cell_row rfl _ _ b6 26 _ (0, 0) _ rfl iJ.out Tryz.underlying26 rfl (by kernel_rfl)) rfl ?_
    exact ⟨_, rfl, Kd.iZ HN.out (fun q hq => hq.1.1), HB.out⟩
   | cons k rest =>
    have hk : k ∈ l := by rw [← HE.out]; simp
    have hlt : (pre.length : Int) < (l.length : Int) := by rw [← HE.out, List.length_append, List.length_cons]; omega
    have hw : wrap64 ((pre.length : Int) + 1) = ((pre ++ [k]).length : Int) := by rw [List.length_append, List.length_singleton]; unfold wrap64; have := HL.out; omega
    obtain ⟨g, cap, he, hgb, aaP, _⟩ := Kd.zN HN.out (by omega)
    injection he with ea en ec
    subst ea
    subst ec
    clear en
    have HGB := ae.mk hgb
    obtain ⟨ce, hcl, hM, hcc, hfr⟩ := Kd.zM HN.out z26 (pre.length : Int) (Int.natCast_nonneg _) hlt
    have hrd : l.getD (pre.length : Int).toNat z26 = k := by rw [← HE.out, Int.toNat_natCast]; simp [List.getD_eq_getElem?_getD]
    rw [hrd] at hM
    obtain ⟨ua, uc, rfl, ul, ge⟩ := oK hM
    have HV := ae.mk (show Kd.V k26 26 wr w.heap.size _ (.slice ua k.f3.length uc) k.f3 from Kd.wR ul ge)
    have HRD := ae.mk hrd
    have x0 : wr.cell? ⟨g, pre.length * 7, none⟩ = some (.int .u8 k.f0) := hcc 0 _ rfl
    have x1 : wr.cell? ⟨g, pre.length * 7 + 1, none⟩ = some (.int .i64 k.f1.f0) := hcc 1 _ rfl
    have x2 : wr.cell? ⟨g, pre.length * 7 + 2, none⟩ = some (.int .i64 k.f1.f1) := hcc 2 _ rfl
    have x3 : wr.cell? ⟨g, pre.length * 7 + 3, none⟩ = some (.int .i64 k.f1.f2) := hcc 3 _ rfl
    have x4 : wr.cell? ⟨g, pre.length * 7 + 4, none⟩ = some (.int .i64 k.f1.f3) := hcc 4 _ rfl
    have x5 : wr.cell? ⟨g, pre.length * 7 + 5, none⟩ = some (.int .i64 k.f2) := hcc 5 _ rfl
    have x6 : wr.cell? ⟨g, pre.length * 7 + 6, none⟩ = some (.slice ua k.f3.length uc) := hcc 6 _ rfl
    have HW1 := ae.mk hw
    have HK := ae.mk hk
    have jl := ae.mk hgg
    clear hcl hM hcc hfr hrd ul ge hgb aaP hw hk hgg
    go_upto_region 5 with (first | ((with_reducible refine aA (N := 4) rfl ?_); refine aV ?hg (N := 4) ?hd (cs := #[.int .u8 0, .int .i64 0, .int .i64 0, .int .i64 0, .int .i64 0, .int .i64 0, .slice none 0 0]) (t := 26) ?hr ?_; (case hd => rfl); (case hg => rfl); (case hr => (go_simp; done)); intro b8 hg wb8 hbox hb; have Gb8 := ae.mk (show w.heap.size ≤ b8 by rw [hg]; exact HB.out.size); have Ja := ae.mk (show b3 ≠ b8 by rw [hg]; exact Nat.ne_of_lt (gU dN.out)); have Jb := ae.mk (show b6 ≠ b8 by rw [hg]; exact Nat.ne_of_lt (gU iJ.out)); have ng := ae.mk (au HB.out hb); have ni := ae.mk (Kd.pX (Kd.EH HN.out b8 (by rw [hg]; exact Nat.le_refl _)) hb); have vK := ae.mk (Kd.kH (Kd.qh HV.out b8 (by rw [hg]; exact Nat.le_refl _)) hb); have jB := ae.mk (aW dN.out hb); have jC := ae.mk (aW iJ.out hb); clear HB HN HV dN iJ; have HB := ng; have HN := ni; have HV := vK; have dN := jB; have iJ := jC; clear ng ni vK jB jC; have Kb8 := ae.mk hbox; clear hb hbox hg) | ((with_reducible refine mV (.store 26 (.tmp 4) (.tmp 16)) rfl ?_); go_loud (refine iO (w0 := w) rfl rfl 26 (.tmp 4) (.tmp 16) rfl (g := b8) (j := 0) (base := w.heap.size) #[.int .u8 k.f0, .int .i64 k.f1.f0, .int .i64 k.f1.f1, .int .i64 k.f1.f2, .int .i64 k.f1.f3, .int .i64 k.f2, .slice ua k.f3.length uc] (u := .agg #[.int .u8 k.f0, .int .i64 k.f1.f0, .int .i64 k.f1.f1, .int .i64 k.f1.f2, .int .i64 k.f1.f3, .int .i64 k.f2, .slice ua k.f3.length uc]) (df := [.int .u8 k.f0, .int .i64 k.f1.f0, .int .i64 k.f1.f1, .int .i64 k.f1.f2, .int .i64 k.f1.f3, .int .i64 k.f2, .slice ua k.f3.length uc]) ?sA ?sX rfl ?sT ?s1 Kb8.out ?sJ rfl HB.out HB.out.size Gb8.out ?_; (case sA => rfl); (case sX => rfl); (case sT => rfl); (case s1 => (simp [Value.oneCell'])); (case sJ => (simp)); intro abN hbk hbb hgg; have ni := ae.mk (Kd.xK HN.out hgg (fun k_ hk e_ => absurd (Option.some.inj e_) hk.2)); have vK := ae.mk (Kd.xM HV.out hgg (fun k_ hk e_ => absurd (Option.some.inj e_) hk.2)); have jB := ae.mk (dH dN.out hgg (fun e_ => absurd (Option.some.inj e_) Ja.out)); have jC := ae.mk (dH iJ.out hgg (fun e_ => absurd (Option.some.inj e_) Jb.out)); clear HN HV dN iJ; have HN := ni; have HV := vK; have dN := jB; have iJ := jC; clear ni vK jB jC; clear Kb8 HB; have Kb8 := ae.mk hbk; have HB := ae.mk hbb; clear hbk hbb hgg)))
    clear x0 x1 x2 x3 x4 x5 x6
    have q_ := ae.mk (bF HB.out)
    clear HB
    have HB := q_
    clear q_
    have q_ := ae.mk (Kd.Gh HN.out)
    clear HN
    have HN := q_
    clear q_
    have q_ := ae.mk (Kd.Ko HV.out)
    clear HV
    have HV := q_
    clear q_
    have q_ := ae.mk (fD dN.out)
    clear dN
    have dN := q_
    clear q_
    have q_ := ae.mk (fD iJ.out)
    clear iJ
    have iJ := q_
    clear q_
    have q_ := ae.mk (fD Kb8.out)
    clear Kb8
    have Kb8 := q_
    clear q_
    refine jT (n := 7) (S := fun w' => w'.heap[b3]? = some (.cells #[.int .u8 ck, .int .i64 cx, .int .i64 cy, .int .i64 cw, .int .i64 ch, .int .i64 aJ, .slice (some ⟨g, 0, none⟩) l.length c1] 26 (0, 0)) ∧ w'.heap[b8]? = some (.cells #[.int .u8 k.f0, .int .i64 k.f1.f0, .int .i64 k.f1.f1, .int .i64 k.f1.f2, .int .i64 k.f1.f3, .int .i64 k.f2, .slice ua k.f3.length uc] 26 (0, 0))) (ds := [6]) #[false, false, false, false, false, false, false] (by kernel_rfl) rfl rfl ⟨dN.out, Kb8.out⟩ (fun hHeld => ?_); refine gG pK.TE pK.Kr (fun ak fC => ?_)
    generalize abN.drew = wd at HB HN HV dN iJ Kb8 hHeld ⊢
    refine uS (i := 0) (N := some 17) (v := ?_) (a' := ?_) #[true, false, false, false, false, false, false] rfl rfl (qZ ak.out (by kernel_rfl)) (fun _ _ _ h => h) (Or.inl ⟨by rfl, ?_⟩) ?_ ?_
    rotate_left
    ·intro w'; go_simp; with_reducible rfl
    rotate_left
    ·simp only [Act.put, List.setIfInBounds_toArray, List.set_cons_zero, List.set_cons_succ, lD, lC]
     rfl
    refine Bg (i := 1) (N := some 18) (v := ?_) (a' := ?_) #[true, true, false, false, false, false, false] rfl rfl (xE ak.out fC.out (by kernel_rfl)) (fun _ _ _ h => h) (Or.inl ⟨by rfl, ?_⟩) hHeld ?_ ?_
    rotate_left
    ·intro w' hs_
     have c := (af hs_.1 6).trans rfl
     go_simp; with_reducible rfl
    rotate_left
    ·simp only [Act.put, List.setIfInBounds_toArray, List.set_cons_zero, List.set_cons_succ, lD, lC]
     rfl
    refine uS (i := 2) (N := some 19) (v := ?_) (a' := ?_) #[true, true, true, false, false, false, false] rfl rfl (qZ ak.out (by kernel_rfl)) (fun _ _ _ h => h) (Or.inl ⟨by rfl, ?_⟩) ?_ ?_
    rotate_left
    ·intro w'; go_simp; with_reducible rfl
    rotate_left
    ·simp only [Act.put, List.setIfInBounds_toArray, List.set_cons_zero, List.set_cons_succ, lD, lC]
     rfl
    refine Bg (i := 3) (N := some 20) (v := ?_) (a' := ?_) #[true, true, true, true, false, false, false] rfl rfl (xE ak.out fC.out (by kernel_rfl)) (fun _ _ _ h => h) (Or.inl ⟨by rfl, ?_⟩) hHeld ?_ ?_
    rotate_left
    ·intro w' hs_
     have c0 := (af hs_.2 0).trans rfl
     have c1 := (af hs_.2 1).trans rfl
     have c2 := (af hs_.2 2).trans rfl
     have c3 := (af hs_.2 3).trans rfl
     have c4 := (af hs_.2 4).trans rfl
     have c5 := (af hs_.2 5).trans rfl
     have c6 := (af hs_.2 6).trans rfl
     go_simp; with_reducible rfl
    rotate_left
    ·simp only [Act.put, List.setIfInBounds_toArray, List.set_cons_zero, List.set_cons_succ, lD, lC]
     rfl
    refine SK (i := 4) (N := some 21) #[true, true, true, true, true, false, false] rfl rfl (zU ak.out (by kernel_rfl)) (by decide) (fun K hK => ?_)
    refine fO Tryz.func36 (by kernel_rfl) rfl #[.agg #[.int .u8 k.f0, .int .i64 k.f1.f0, .int .i64 k.f1.f1, .int .i64 k.f1.f2, .int .i64 k.f1.f3, .int .i64 k.f2, .slice ua k.f3.length uc]] (by rfl) rfl rfl (by (try simp only [List.map_toArray, List.map_cons, List.map_nil]); rfl) ?_
    refine (IH.out k HK.out _ ua uc wd HV.out).mono ?_
    rintro e wk ⟨v, rfl, ho, hb⟩
    refine ⟨_, rfl, ?_⟩
    have HE3 := ae.mk (gU dN.out)
    have HE6 := ae.mk (gU iJ.out)
    have HE8 := ae.mk (gU Kb8.out)
    have HEG := ae.mk (Kd.Gi HN.out g rfl)
    have HS := ae.mk HB.out.size
    have ng := ae.mk (au HB.out hb); have ni := ae.mk (Kd.pX HN.out hb); have vK := ae.mk (Kd.kH HV.out hb); have jB := ae.mk (aW dN.out hb); have jC := ae.mk (aW iJ.out hb); have Lj := ae.mk (aW Kb8.out hb); clear HB HN HV dN iJ Kb8; have HB := ng; have HN := ni; have HV := vK; have dN := jB; have iJ := jC; have Kb8 := Lj; clear ng ni vK jB jC Lj
    clear HV hb
    obtain ⟨Av, cv, ev⟩ := Kd.jO ho
    subst ev
    have sO := ae.mk ho
    clear ho
    refine hK.out _ _ ⟨dN.out, Kb8.out⟩ (fun hHeld => ?_)
    clear hK K
    refine oI (a' := ?_) ?_ ?_
    rotate_left
    ·show Act.put _ (some 21) _ = _
     simp only [Act.put, List.setIfInBounds_toArray, List.set_cons_zero, List.set_cons_succ, lD, lC]
     rfl
    refine uS (i := 5) (N := some 22) (v := ?_) (a' := ?_) #[true, true, true, true, true, true, false] rfl rfl (qZ ak.out (by kernel_rfl)) (fun _ _ _ h => h) (Or.inl ⟨by rfl, ?_⟩) ?_ ?_
    rotate_left
    ·intro w'; go_simp; with_reducible rfl
    rotate_left
    ·simp only [Act.put, List.setIfInBounds_toArray, List.set_cons_zero, List.set_cons_succ, lD, lC]
     rfl
    refine V6 (i := 6) (N := none) #[true, true, true, true, true, true, true] rfl rfl (zU ak.out (by kernel_rfl)) (by decide) (fun K hK => ?_)
    obtain ⟨ce, hcl, hM, hcc, hfr⟩ := Kd.zM HN.out z26 (pre.length : Int) (Int.natCast_nonneg _) hlt
    rw [HRD.out] at hM
    obtain ⟨ub, ud, rfl, _, _⟩ := oK hM
    have x0 : wk.cell? ⟨g, pre.length * 7, none⟩ = some (.int .u8 k.f0) := hcc 0 _ rfl
    have f0 : wk.frozen? ⟨g, pre.length * 7, none⟩ = false := hfr 0
    have x1 : wk.cell? ⟨g, pre.length * 7 + 1, none⟩ = some (.int .i64 k.f1.f0) := hcc 1 _ rfl
    have f1 : wk.frozen? ⟨g, pre.length * 7 + 1, none⟩ = false := hfr 1
    have x2 : wk.cell? ⟨g, pre.length * 7 + 2, none⟩ = some (.int .i64 k.f1.f1) := hcc 2 _ rfl
    have f2 : wk.frozen? ⟨g, pre.length * 7 + 2, none⟩ = false := hfr 2
    have x3 : wk.cell? ⟨g, pre.length * 7 + 3, none⟩ = some (.int .i64 k.f1.f2) := hcc 3 _ rfl
    have f3 : wk.frozen? ⟨g, pre.length * 7 + 3, none⟩ = false := hfr 3
    have x4 : wk.cell? ⟨g, pre.length * 7 + 4, none⟩ = some (.int .i64 k.f1.f3) := hcc 4 _ rfl
    have f4 : wk.frozen? ⟨g, pre.length * 7 + 4, none⟩ = false := hfr 4
    have x5 : wk.cell? ⟨g, pre.length * 7 + 5, none⟩ = some (.int .i64 k.f2) := hcc 5 _ rfl
    have f5 : wk.frozen? ⟨g, pre.length * 7 + 5, none⟩ = false := hfr 5
    have x6 : wk.cell? ⟨g, pre.length * 7 + 6, none⟩ = some (.slice ub k.f3.length ud) := hcc 6 _ rfl
    have f6 : wk.frozen? ⟨g, pre.length * 7 + 6, none⟩ = false := hfr 6
    have lH : ∀ q, (((fun q => ((P q ∨ w.heap.size ≤ q) ∧ q ≠ b3) ∧ q ≠ b6) q ∧ q ≠ g) ∧ q ≠ b8) ∨ wd.heap.size ≤ q → ((fun q => ((P q ∨ w.heap.size ≤ q) ∧ q ≠ b3) ∧ q ≠ b6) q ∧ q ≠ b8) ∧ q ≠ g := fun q hq => hq.elim (fun h => ⟨⟨h.1.1, h.2⟩, h.1.2⟩) (fun hn => ⟨⟨⟨⟨.inr (Nat.le_trans HS.out hn), Nat.ne_of_gt (Nat.lt_of_lt_of_le HE3.out hn)⟩, Nat.ne_of_gt (Nat.lt_of_lt_of_le HE6.out hn)⟩, Nat.ne_of_gt (Nat.lt_of_lt_of_le HE8.out hn)⟩, Nat.ne_of_gt (Nat.lt_of_lt_of_le HEG.out hn)⟩)
    have OL := pY wk _ k (A6 := Av) (c6 := cv) (Kd.jw sO.out).2.1 (Kd.N_F sO.out)
    have hseg := Kd.Vz HN.out (pre.length : Int) (Int.natCast_nonneg _) hlt (df := [.int .u8 k.f0, .int .i64 k.f1.f0, .int .i64 k.f1.f1, .int .i64 k.f1.f2, .int .i64 k.f1.f3, .int .i64 k.f2, .slice Av k.f3.length cv]) (j := 0) hcl hcc (show 0 + 7 ≤ 7 from by decide) (x' := k) OL lH
    rw [show l.set (pre.length : Int).toNat k = l from by rw [← HE.out, Int.toNat_natCast]; simp] at hseg
    obtain ⟨w9, Gw⟩ : ∃ w9, w9 = wk.setCells g ((pre.length : Int).toNat * 7 + 0) [.int .u8 k.f0, .int .i64 k.f1.f0, .int .i64 k.f1.f1, .int .i64 k.f1.f2, .int .i64 k.f1.f3, .int .i64 k.f2, .slice Av k.f3.length cv] := ⟨_, rfl⟩
    replace hseg : Kd.N k26 26 w9 w.heap.size (fun q => (fun q => ((P q ∨ w.heap.size ≤ q) ∧ q ≠ b3) ∧ q ≠ b6) q ∧ q ≠ b8) (.slice (some ⟨g, 0, none⟩) l.length c1) l ∧ wk.grownBy w9 (some g) := by rw [Gw]; exact hseg
    have Xh := ae.mk (Kd.Xn hseg.1)
    have JS := ae.mk (grown_below HB.out hseg.2 HGB.out HB.out.size)
    have AP := ae.mk (dH dN.out hseg.2 (fun e_ => (HN.out.1 g rfl).1.1.2 (Option.some.inj e_).symm))
    have Qc := ae.mk (dH iJ.out hseg.2 (fun e_ => (HN.out.1 g rfl).1.2 (Option.some.inj e_).symm))
    clear hseg OL lH hcl hcc hfr hM HN HB dN iJ Kb8 hHeld sO
    refine Lt (w1 := w9) (by rfl) rfl ?_ ?_
    ·rw [Gw]; go_simp; rfl
    refine hK.out _ _ ?_
    clear hK K x0 x1 x2 x3 x4 x5 x6 f0 f1 f2 f3 f4 f5 f6 Gw
    refine lJ (jc ak.out (by kernel_rfl)) ?_
    have hw := HW1.out
    go_wp2
    go_roundg rest.length
    case measure => exact Nat.lt_of_lt_of_le (Nat.lt_succ_self _) jl.out
    case rel => exact ⟨pre ++ [k], rest, (by rw [hw]), ⟨by rw [List.append_assoc]; exact HE.out⟩, Nat.le_refl _, Xh, AP, Qc, JS⟩
def pK.f (a0 a1 a2 a3 a4 a5 : Int) (l : List ai) : Option (Int × Int × Int × Int × Int × Int × List ai) := if sz ⟨a0, ⟨a1, a2, a3, a4⟩, a5, l⟩ ≤ 1000000 then some (a0, a1, a2, a3, a4, a5, l) else none
def zZ.T6 : Bool × List (List Nat × List Nat) := (true, [([], []), ([0], [0]), ([], []), ([1, 2], [1, 2]), ([3], [3]), ([], []), ([], []), ([6], [6]), ([4, 5, 7], [4, 5, 7]), ([8], [8]), ([9], [9]), ([9], [9]), ([], []), ([12, 10, 8, 0, 1, 2, 3, 4, 5, 6, 7, 8, 9, 10, 12], [10, 12]), ([11, 13, 0, 1, 2, 3, 4, 5, 6, 7, 8, 9, 10, 11, 12, 13], [11])])
def zZ.B6 : List Nat := [0, 1, 0, 7, 15, 0, 0, 64, 255, 511, 1023, 1023, 0, 6143, 16383]
theorem zZ.tab6 : je .any (opsOf Tryz.f19 6) = zZ.T6 := by kernel_rfl
theorem zZ.Dl : iM zZ.T6.2 zZ.B6 = true := by kernel_rfl
def uJ (kid : ai) : List Int → ai → Option ai
 | [], _ => some kid
 | i :: is, c => if i < 0 ∨ i ≥ (c.f3.length : Int) then none else match uJ kid is (aj c.f3 i) with
  | none => none
  | some k => some ⟨c.f0, c.f1, c.f2, c.f3.set i.toNat k⟩
abbrev ZR (w : World) (P : Nat → Prop) : Option ai → Ending → World → Prop
 | none, e, w' => e = .returned (.tuple #[.agg #[.int .u8 0, .int .i64 0, .int .i64 0, .int .i64 0, .int .i64 0, .int .i64 0, .slice none 0 0], .bool false]) ∧ Below w.heap.size w w'
 | some z, e, w' => ∃ A c, e = .returned (.tuple #[.agg #[.int .u8 z.f0, .int .i64 z.f1.f0, .int .i64 z.f1.f1, .int .i64 z.f1.f2, .int .i64 z.f1.f3, .int .i64 z.f2, .slice A z.f3.length c], .bool true]) ∧ Kd.N k26 26 w' w.heap.size (fun k => P k ∨ w.heap.size ≤ k) (.slice A z.f3.length c) z.f3 ∧ Below w.heap.size w w'
theorem WJ : ∀ (l : List ai) (n : Nat) (k : ai) (m : Nat), n < l.length → sz k ≤ sz (l.getD n z26) + m → dY (l.set n k) ≤ dY l + m := by
 intro l
 induction l with
 | nil => intro n k m h; simp at h
 | cons x xs ih =>
  intro n k m h hk
  cases n with
  | zero => rw [List.set_cons_zero, bH, bH]; simp only [List.getD_cons_zero] at hk; omega
  | succ n => rw [List.set_cons_succ, bH, bH]; have := ih n k m (by simpa using h) (by simpa using hk); omega
theorem abn (kid : ai) : ∀ (path : List Int) (c x : ai), uJ kid path c = some x → sz x ≤ sz c + sz kid := by
 intro path
 induction path with
 | nil => intro c x h; simp only [uJ] at h; rw [← Option.some.inj h]; omega
 | cons i is ih =>
  intro c x h
  simp only [uJ] at h
  split at h
  ·cases h
  ·rename_i hi
   cases hp : uJ kid is (aj c.f3 i) with
   | none => rw [hp] at h; cases h
   | some k =>
    rw [hp] at h
    have h := Option.some.inj h
    subst h
    have h1 := ih _ _ hp
    have h2 := WJ c.f3 i.toNat k (sz kid) (by omega) h1
    rw [bJ, bJ c]
    show 1 + dY (c.f3.set i.toNat k) ≤ _
    omega
section
variable {c x z : ai} {path p L : _} {en id : Int}
end
def qI (p : List Int) (d : Nat) (z : ai) : Nat := (mn (rd p (d : Int)) ((z.f3.length : Int) - 2)).toNat
structure zI (ax id : Int) (c : ai) (p : List Int) (d : Nat) (z : ai) (q : Nat) : Prop where
 sN : dF c = true
 hax : ax = 1 ∨ ax = 2
 find : fB id c = some p
 frd : frD ax c p = some d
 fr : LQ ax c p d z q
 zt : dF z = true
theorem zI.n {ax id : Int} {c : ai} {p : List Int} {d : Nat} {z : ai} {q : Nat} (h : zI ax id c p d z q) : frN ax id c = 0 := by
 unfold frN
 rw [if_pos ⟨h.sN, h.hax⟩, h.find]
 simp only [h.frd]
theorem zI.q {ax id : Int} {c : ai} {p : List Int} {d : Nat} {z : ai} {q : Nat} (h : zI ax id c p d z q) : qI p d z = q := by
 unfold qI
 rw [← h.fr.hq]
 exact Int.toNat_natCast _
theorem zI.good {ax id : Int} {c : ai} {p : List Int} {d : Nat} {z : ai} {q : Nat} (h : zI ax id c p d z q) : Ba ax (aQ ax z.f1 - ((z.f3.length : Int) - 1)) z.f3 := VQ h.hax h.zt h.fr.al
theorem zI.zs {ax id : Int} {c : ai} {p : List Int} {d : Nat} {z : ai} {q : Nat} (h : zI ax id c p d z q) : 1 + dY z.f3 ≤ sz c ∧ sz c ≤ 20000 := by
 have h1 := Eb _ _ _ h.fr.at'
 have h2 := bJ z
 exact ⟨by omega, pW (kR h.sN)⟩
end Go.Proofs.YtfdmfgaiblfbhaaGreat.P
namespace Go.Proofs.YtfdmfgaiblfbhaaGreat.P
open Go.RowKit Go.Proofs.ag.aU Go.Proofs.ag.bK Go.Proofs.ag.cO
attribute [local go_sem] jG jR kQ lq jJ jK kT kU
def al_.f (az : Int) (aI : Int) (aC : Int) (aH : Int) (a1 : Int) : Option (Int × Int × Int × Int × Int × Int × (List (ai))) := some (1, az, aI, aC, aH, a1, ([] : List (ai)))
mutual
def iG.l0 : Nat → Int → List (ai) → Int → Int → Option (Int)
 | 0, _, _, _, _ => none
 | k + 1, x3, x8, x9, x10 => if x10 < x9 then (if 0 ≤ x10 then (if x10 < (x8.length : Int) then ((iG.f k ((aj x8 x10).f3)).bind fun TD => (iG.l0 k (wrap64 (x3 + TD)) x8 x9 (wrap64 (x10 + 1)))) else (none)) else (none)) else (some x3)
def iG.f : Nat → List (ai) → Option (Int)
 | 0, _ => none
 | k + 1, l0 => iG.l0 k (l0.length : Int) l0 (l0.length : Int) 0
end
theorem iG.calls (k : Nat) : ∀ (A0 : Option Addr) (c0 : Nat) (l0 : List (ai)) (r : Int) (w : World) (hr0 : Kd.C k26 w A0 l0.length l0) (hc0 : l0.length ≤ c0) (h : iG.f k l0 = some r),
  Calls Tryz.prog 32 #[.slice A0 l0.length c0] w fun e w' => e = .returned (.int .i64 r) ∧ Below w.heap.size w w' := by
 induction k using Nat.strongRecOn with
 | _ k ih =>
 intro A0 c0 l0 r w hr0 hc0 h
 cases k with
 | zero => exact absurd h (by simp [iG.f])
 | succ k =>
 simp only [iG.f] at h
 have EX := Tryz.underlying26
 have HR0 := ae.mk hr0
 have HC0 := ae.mk hc0
 clear hr0 hc0
 have HB := ae.mk (Below.refl w.heap.size w)
 have H : (iG.l0 k (l0.length : Int) l0 (l0.length : Int) 0) = some r := h
 clear h
 have H' := ae.mk H
 clear H
 go_enter Tryz.func32, Tryz.ntmps32
 go_wp2
 go_loopg [3, 10] k (fun kq v3 v10 w' => ∃ (jU : Int) (bT : Int), v3 = .int .i64 jU ∧ v10 = .int .i64 bT ∧ ae (iG.l0 kq jU l0 (l0.length : Int) bT = some r) ∧ ae (kq ≤ k) ∧ ae (Below w.heap.size w w'))
 case atStart => exact ⟨((l0.length : Int)), (0), (by first | rfl | (simp; done) | (simp [*]; done)), (by first | rfl | (simp; done) | (simp [*]; done)), H', ⟨Nat.le_refl _⟩, ⟨by repeat (first | (with_reducible first | exact HB.out | apply aY | apply aT | apply bF) | exact HB.out)⟩⟩
 case round =>
  clear H'
  obtain ⟨jU, bT, rfl, rfl, HA, lh, HB⟩ := hrel
  cases gk with
  | zero => exact absurd HA.out (by simp [iG.l0])
  | succ k1 =>
   have H := HA.out
   clear HA
   simp only [iG.l0] at H
   by_cases c2 : bT < (l0.length : Int)
   ·rw [if_pos c2] at H
    have EO : decide (bT < (l0.length : Int)) = true := decide_eq_true c2
    clear c2
    by_cases c3 : 0 ≤ bT
    ·rw [if_pos c3] at H
     have sU : decide (0 ≤ bT) = true := decide_eq_true c3
     clear c3
     by_cases c4 : bT < (l0.length : Int)
     ·rw [if_pos c4] at H
      have uH : decide (bT < (l0.length : Int)) = true := decide_eq_true c4
      clear c4
      replace H := Option.bind_eq_some_iff.mp H
      obtain ⟨TD, W9, H⟩ := H
      replace H : (iG.l0 k1 (wrap64 (jU + TD)) l0 (l0.length : Int) (wrap64 (bT + 1))) = some r := H
      have A5 := ae.mk W9
      clear W9
      have H' := ae.mk H
      clear H
      have abl : 0 ≤ (bT : Int) := of_decide_eq_true (by first | (with_reducible assumption) | assumption)
      have abr : bT < (l0.length : Int) := of_decide_eq_true (by first | (with_reducible assumption) | assumption)
      obtain ⟨aqP, Xa, XC, am4, NI, NJ, NK, NL, NP, NQ, NR, UW, UR⟩ := qi HR0.out bT abl abr
      cases am4
      replace NI := (HB.out.cell (World.block_lt_of_cell? w _ NI)).trans NI
      replace NJ := (HB.out.cell (World.block_lt_of_cell? w _ NJ)).trans NJ
      replace NK := (HB.out.cell (World.block_lt_of_cell? w _ NK)).trans NK
      replace NL := (HB.out.cell (World.block_lt_of_cell? w _ NL)).trans NL
      replace NP := (HB.out.cell (World.block_lt_of_cell? w _ NP)).trans NP
      replace NQ := (HB.out.cell (World.block_lt_of_cell? w _ NQ)).trans NQ
      replace NR := (HB.out.cell (World.block_lt_of_cell? w _ NR)).trans NR
      have ac6 := ae.mk UR
      have ac4 := ae.mk UW
      clear UR UW
      replace abl := eq_true abl
      replace abr := eq_true abr
      go_wp2_with (first | ((with_reducible refine aA (N := 5) rfl ?_); refine aV ?hg (N := 5) ?hd (cs := #[.int .u8 0, .int .i64 0, .int .i64 0, .int .i64 0, .int .i64 0, .int .i64 0, .slice none 0 0]) (t := 26) ?hr ?_; (case hd => rfl); (case hg => rfl); (case hr => first | (go_simp; done) | (go_simp; rfl)); intro zy hg w6 hbox hb; have nM := ae.mk (au (by repeat (first | (with_reducible first | exact HB.out | apply aY | apply aT | apply bF) | exact HB.out)) hb); have nN := ae.mk (hbox); have oM := ae.mk ((by rw [hg]; exact (dE (by repeat (first | (with_reducible first | exact HB.out | apply aY | apply aT | apply bF) | exact HB.out))) : w.heap.size ≤ zy)); have rD := ae.mk ((by rw [hg]; exact (dE (by repeat (first | (with_reducible first | exact HB.out | apply aY | apply aT | apply bF) | exact HB.out))) : w.heap.size ≤ zy)); clear HB; have HB := nM; have qV := nN; have aqL := oM; have Vs := rD; clear nM nN oM rD; clear hb hbox hg; have X6 : w6.cell? ⟨zy, 0, none⟩ = some (.int .u8 0) := (af qV.out 0).trans rfl; have X7 : w6.cell? ⟨zy, 1, none⟩ = some (.int .i64 0) := (af qV.out 1).trans rfl; have X8 : w6.cell? ⟨zy, 2, none⟩ = some (.int .i64 0) := (af qV.out 2).trans rfl; have X9 : w6.cell? ⟨zy, 3, none⟩ = some (.int .i64 0) := (af qV.out 3).trans rfl; have ap' : w6.cell? ⟨zy, 4, none⟩ = some (.int .i64 0) := (af qV.out 4).trans rfl; have aqa : w6.cell? ⟨zy, 5, none⟩ = some (.int .i64 0) := (af qV.out 5).trans rfl; have aqb : w6.cell? ⟨zy, 6, none⟩ = some (.slice none 0 0) := (af qV.out 6).trans rfl; have Yn := ah qV.out 0; have Yo := ah qV.out 1; have Yp := ah qV.out 2; have Yq := ah qV.out 3; have aqd := ah qV.out 4; have aqe := ah qV.out 5; have aqf := ah qV.out 6) | ((with_reducible refine jF (f := 32) rfl ?_); refine mf (some 17) rfl rfl Tryz.func32 (by kernel_rfl) rfl #[.slice Xa ((aj l0 bT).f3).length XC] rfl (by (try simp only [List.map_toArray, List.map_cons, List.map_nil]); first | done | rfl | (simp only [List.length_drop, List.length_take]; rfl)) ?_; (with_reducible refine (ih k1 (by have := lh.out; omega) _ _ ((aj l0 bT).f3) TD _ ?nH ?rJ A5.out).mono ?_); (case nH => exact Kd.g_ ac6.out (by repeat (first | (with_reducible first | exact HB.out | apply aY | apply aT | apply bF | refine eY ?_ Vs.out) | exact HB.out))); (case rJ => exact ac4.out); rintro e w8 ⟨rfl, hb⟩; refine ⟨_, rfl, ?_⟩; have nM := ae.mk (aW (g := zy) (o := .cells #[.int .u8 ((aj l0 bT).f0), .int .i64 ((aj l0 bT).f1.f0), .int .i64 ((aj l0 bT).f1.f1), .int .i64 ((aj l0 bT).f1.f2), .int .i64 ((aj l0 bT).f1.f3), .int .i64 ((aj l0 bT).f2), .slice Xa ((aj l0 bT).f3).length XC] 26 (0, 0)) (by (with_reducible repeat (first | refine fH ?_ _ | refine fD ?_ | refine fG ?_ _)); refine fP (cs := #[.int .u8 ((aj l0 bT).f0), .int .i64 ((aj l0 bT).f1.f0), .int .i64 ((aj l0 bT).f1.f1), .int .i64 ((aj l0 bT).f1.f2), .int .i64 ((aj l0 bT).f1.f3), .int .i64 ((aj l0 bT).f2), .slice none 0 0]) ?_ 6 _ rfl; (with_reducible repeat (first | refine fH ?_ _ | refine fD ?_ | refine fG ?_ _)); refine fP (cs := #[.int .u8 ((aj l0 bT).f0), .int .i64 ((aj l0 bT).f1.f0), .int .i64 ((aj l0 bT).f1.f1), .int .i64 ((aj l0 bT).f1.f2), .int .i64 ((aj l0 bT).f1.f3), .int .i64 0, .slice none 0 0]) ?_ 5 _ rfl; (with_reducible repeat (first | refine fH ?_ _ | refine fD ?_ | refine fG ?_ _)); refine fP (cs := #[.int .u8 ((aj l0 bT).f0), .int .i64 ((aj l0 bT).f1.f0), .int .i64 ((aj l0 bT).f1.f1), .int .i64 ((aj l0 bT).f1.f2), .int .i64 0, .int .i64 0, .slice none 0 0]) ?_ 4 _ rfl; (with_reducible repeat (first | refine fH ?_ _ | refine fD ?_ | refine fG ?_ _)); refine fP (cs := #[.int .u8 ((aj l0 bT).f0), .int .i64 ((aj l0 bT).f1.f0), .int .i64 ((aj l0 bT).f1.f1), .int .i64 0, .int .i64 0, .int .i64 0, .slice none 0 0]) ?_ 3 _ rfl; (with_reducible repeat (first | refine fH ?_ _ | refine fD ?_ | refine fG ?_ _)); refine fP (cs := #[.int .u8 ((aj l0 bT).f0), .int .i64 ((aj l0 bT).f1.f0), .int .i64 0, .int .i64 0, .int .i64 0, .int .i64 0, .slice none 0 0]) ?_ 2 _ rfl; (with_reducible repeat (first | refine fH ?_ _ | refine fD ?_ | refine fG ?_ _)); refine fP (cs := #[.int .u8 ((aj l0 bT).f0), .int .i64 0, .int .i64 0, .int .i64 0, .int .i64 0, .int .i64 0, .slice none 0 0]) ?_ 1 _ rfl; (with_reducible repeat (first | refine fH ?_ _ | refine fD ?_ | refine fG ?_ _)); refine fP (cs := #[.int .u8 0, .int .i64 0, .int .i64 0, .int .i64 0, .int .i64 0, .int .i64 0, .slice none 0 0]) ?_ 0 _ rfl; (with_reducible repeat (first | refine fH ?_ _ | refine fD ?_ | refine fG ?_ _)); exact qV.out) hb); have nN := ae.mk (au (by repeat (first | (with_reducible first | exact HB.out | apply aY | apply aT | apply bF | refine eY ?_ Vs.out) | exact HB.out)) hb); clear qV; clear HB; have qV := nM; have HB := nN; clear nM nN; (try clear hb); (try clear hb2); (try clear hk); (try clear hi)))
      go_roundg k1
      case measure => have := lh.out; omega
      case rel => exact ⟨(wrap64 (jU + TD)), (wrap64 (bT + 1)), (by first | rfl | (simp; done) | (simp [*]; done)), (by first | rfl | (simp; done) | (simp [*]; done)), H', ⟨by have := lh.out; omega⟩, ⟨by repeat (first | (with_reducible first | exact HB.out | apply aY | apply aT | apply bF | refine eY ?_ Vs.out) | exact HB.out)⟩⟩
     ·rw [if_neg c4] at H
      exact absurd H (by simp)
    ·rw [if_neg c3] at H
     exact absurd H (by simp)
   ·rw [if_neg c2] at H
    have EO : decide (bT < (l0.length : Int)) = false := decide_eq_false c2
    clear c2
    obtain rfl := Option.some.inj H
    go_wp2
    go_ret
    exact ⟨by first | rfl | (simp [lW, lX] <;> rfl) | (simp [*, lW, lX] <;> rfl), by repeat (first | (with_reducible first | exact HB.out | apply aY | apply aT | apply bF) | exact HB.out)⟩
end Go.Proofs.YtfdmfgaiblfbhaaGreat.P
namespace Go.Proofs.YtfdmfgaiblfbhaaGreat.P
open Go.RowKit Go.Proofs.ag.aU Go.Proofs.ag.bK Go.Proofs.ag.cO
theorem Ri : ∀ (N : Nat) (l : List ai), dY l ≤ N → N ≤ 1048576000 → Ev (fun k => iG.f k l) (dY l : Int) := by
 intro N
 induction N with
 | zero =>
  intro l h _
  cases l with
  | nil =>
   refine ⟨2, fun k hk => ?_⟩
   obtain ⟨m, rfl⟩ : ∃ m, k = m + 2 := ⟨k - 2, by omega⟩
   simp [iG.f, iG.l0, l9]
  | cons x xs => rw [bH, bJ] at h; omega
 | succ N ih =>
  intro l hl hN
  have hlen := jf l
  have key : ∀ (rest pre : List ai), pre ++ rest = l → Ev (fun k => iG.l0 k ((l.length : Int) + ((dY pre : Int) - (pre.length : Int))) l (l.length : Int) (pre.length : Int)) (dY l : Int) := by
   intro rest
   induction rest with
   | nil =>
    intro pre hp
    rw [List.append_nil] at hp
    refine Ev.step (f := fun _ => some (dY l : Int)) (fun k => ?_) (Ev.now _)
    simp only [iG.l0]
    rw [if_neg (by rw [hp]; omega), hp]
    congr 1
    omega
   | cons x xs ihr =>
    intro pre hp
    have hs := bJ x
    have hlt : (pre.length : Int) < (l.length : Int) := by rw [← hp, List.length_append, List.length_cons]; omega
    have hsum : dY l = dY pre + (sz x + dY xs) := by rw [← hp, l7, bH]
    have hpl := jf pre
    have e2 := ihr (pre ++ [x]) (by rw [List.append_assoc]; exact hp)
    have hr : aj l (pre.length : Int) = x := by rw [← hp]; exact jd pre x xs
    have hu : wrap64 ((pre.length : Int) + 1) = ((pre ++ [x]).length : Int) := FI pre x xs (by rw [hp]; omega)
    have hpn : dY (pre ++ [x]) = dY pre + sz x := by rw [l7, bH, l9]; omega
    have hw : wrap64 ((l.length : Int) + ((dY pre : Int) - (pre.length : Int)) + (dY x.f3 : Int)) = (l.length : Int) + ((dY (pre ++ [x]) : Int) - ((pre ++ [x]).length : Int)) := by
     rw [wq (by omega) (by omega), hpn, List.length_append, List.length_singleton]
     omega
    refine Ev.step (f := fun k => (iG.f k x.f3).bind fun t => iG.l0 k (wrap64 ((l.length : Int) + ((dY pre : Int) - (pre.length : Int)) + t)) l (l.length : Int) ((pre ++ [x]).length : Int)) (fun k => ?_) (Ev.bind (ih x.f3 (by omega) (by omega)) ?_)
    ·simp only [iG.l0]
     rw [if_pos hlt, if_pos (by omega), if_pos hlt, hr, hu]
    ·rw [hw]
     exact e2
  have e := key l [] rfl
  rw [l9] at e
  refine Ev.step (fun k => ?_) e
  simp only [iG.f]
  rw [show (l.length : Int) + (((0 : Nat) : Int) - (([] : List ai).length : Int)) = (l.length : Int) by simp]
  rfl
def H_.T2 : Bool × List (List Nat × List Nat) := (true, [([], []), ([], []), ([1], [1]), ([], []), ([3, 2], [3]), ([2, 4], [2, 4]), ([0, 5], [0, 5]), ([], []), ([7, 6, 4, 0, 1, 2, 3, 4, 5, 6, 7], [6, 7])])
def H_.B2 : List Nat := [0, 0, 2, 0, 14, 30, 63, 0, 255]
theorem H_.VH : iM H_.T2.2 H_.B2 = true := by kernel_rfl
def acM.f : Option Bool := some true
def zH.T6 : Bool × List (List Nat × List Nat) := (true, [([], []), ([0], [0]), ([], []), ([1, 2], [1, 2]), ([3], [3]), ([], []), ([5], [5]), ([], []), ([6, 7], [6, 7]), ([8], [8]), ([4, 9], [4, 9]), ([10], [10])])
def zH.B6 : List Nat := [0, 1, 0, 7, 15, 0, 32, 0, 224, 480, 1023, 2047]
theorem zH.tab6 : je .any (opsOf Tryz.f11 6) = zH.T6 := by kernel_rfl
theorem zH.Dl : iM zH.T6.2 zH.B6 = true := by kernel_rfl
theorem Zl {x y : ai} {v : Bool} {args : Array Value} {W : World} (h : xw x y = v) (hc : Calls Tryz.prog 11 args W fun e w' => e = .returned (.bool (xw x y)) ∧ Below W.heap.size W w') : Calls Tryz.prog 11 args W fun e w' => e = .returned (.bool v) ∧ Below W.heap.size W w' := by
 rw [h] at hc
 exact hc
theorem O5 : ∀ (a a' b b' : List ai), a.length = a'.length → v_ (a ++ b) (a' ++ b') = (v_ a a' && v_ b b') := by
 intro a
 induction a with
 | nil => intro a' b b' h; cases a' with
  | nil => rw [zX]; rfl
  | cons y ys => simp at h
 | cons x xs ih =>
  intro a' b b' h
  cases a' with
  | nil => simp at h
  | cons y ys => rw [List.cons_append, List.cons_append, yJ, yJ, ih ys b b' (by simpa using h), Bool.and_assoc]
theorem ajj : ∀ (N : Nat) (c : ai), sz c ≤ N → N ≤ 1048576 → ∀ (d : ai) (P : Nat → Prop) (A : Option Addr) (cc : Nat) (A' : Option Addr) (cc' : Nat) (w : World), Kd.V k26 26 w w.heap.size P (.slice A c.f3.length cc) c.f3 → Kd.V k26 26 w w.heap.size P (.slice A' d.f3.length cc') d.f3 →
  Calls Tryz.prog 11 #[.agg #[.int .u8 c.f0, .int .i64 c.f1.f0, .int .i64 c.f1.f1, .int .i64 c.f1.f2, .int .i64 c.f1.f3, .int .i64 c.f2, .slice A c.f3.length cc], .agg #[.int .u8 d.f0, .int .i64 d.f1.f0, .int .i64 d.f1.f1, .int .i64 d.f1.f2, .int .i64 d.f1.f3, .int .i64 d.f2, .slice A' d.f3.length cc']] w fun e w' => e = .returned (.bool (xw c d)) ∧ Below w.heap.size w w' := by
 intro N
 induction N with
 | zero => intro c h; rw [bJ] at h; omega
 | succ N ih =>
  intro c hc hN d P A cc A' cc' w hv hv'
  have hsz := bJ c
  have hlen := jf c.f3
  have S := ae.mk (St.start (ts := [(.slice A c.f3.length cc, c.f3), (.slice A' d.f3.length cc', d.f3)]) (b0 := w.heap.size) (w := w) (P := P) (fun t ht => by
   rcases List.mem_cons.1 ht with rfl | ht
   ·exact hv
   ·rw [List.mem_singleton.1 ht]; exact hv'))
  have gZ := ae.mk (show c.f3.length ≤ 1048576 by omega)
  have IH := ae.mk fun (k : ai) (hk : k ∈ c.f3) d P A cc A' cc' w h h' => ih k (by have := Bz hk; omega) (by omega) d P A cc A' cc' w h h'
  have JW := ae.mk (Tu c d)
  obtain ⟨ck, ⟨cx, cy, cw, ch⟩, aJ, l⟩ := c
  obtain ⟨dk, ⟨dx, dy, dw, dh⟩, did, m⟩ := d
  simp only [] at S IH gZ JW ⊢
  clear ih hc hN hv hv' hsz hlen
  by_cases hk : ck = dk
  case neg =>
   have hkb : (ck == dk) = false := beq_eq_false_iff_ne.mpr hk
   have hkc : (ck != dk) = true := bne_iff_ne.mpr hk
   have hkd : decide (ck = dk) = false := decide_eq_false hk
   have HB := ae.mk hkb
   clear hk
   go_enter Tryz.func11, Tryz.ntmps11
   go_wp2_with (first | (refine boxS 2 _ 26 S ?_; clear S; intro b2 eU S) | (refine boxS 3 _ 26 S ?_; clear S; intro b3 fM S; have bG := (S.out.at bf 0).trans rfl; have dm := (S.out.at (.head _) 0).trans rfl))
   clear bG dm
   go_ret
   refine ⟨?_, S.out.below⟩
   rw [JW.out]
   rw [HB.out, Bool.false_and]
   rfl
  subst hk
  have hkb : (ck != ck) = false := bne_self_eq_false _
  by_cases hr : o7 ⟨cx, cy, cw, ch⟩ ⟨dx, dy, dw, dh⟩ = true
  case neg =>
   have HB := ae.mk (Bool.eq_false_iff.mpr hr)
   clear hr
   go_enter Tryz.func11, Tryz.ntmps11
   go_wp2_with (first | (refine boxS 2 _ 26 S ?_; clear S; intro b2 eU S) | (refine boxS 3 _ 26 S ?_; clear S; intro b3 fM S; have bG := (S.out.at bf 0).trans rfl; have dm := (S.out.at (.head _) 0).trans rfl; have bP := (S.out.at bf 1).trans rfl; have bQ := (S.out.at bf 2).trans rfl; have bY := (S.out.at bf 3).trans rfl; have bZ := (S.out.at bf 4).trans rfl; have dn := (S.out.at (.head _) 1).trans rfl; have dA := (S.out.at (.head _) 2).trans rfl; have dB := (S.out.at (.head _) 3).trans rfl; have fK := (S.out.at (.head _) 4).trans rfl))
   clear bG dm bP bQ bY bZ dn dA dB fK
   all_goals (first | (exfalso; have h := HB.out; clear S; simp [o7, *] at h; done) | (go_ret; refine ⟨?_, S.out.below⟩; rw [JW.out, HB.out, Bool.false_and, Bool.and_false]; rfl))
  have HR := ae.mk hr
  unfold o7 at hr
  simp only [Bool.and_eq_true, beq_iff_eq] at hr
  obtain ⟨rfl, rfl, rfl, rfl⟩ := hr
  by_cases hi : aJ = did
  case neg =>
   have hib : (aJ == did) = false := beq_eq_false_iff_ne.mpr hi
   have hic : (aJ != did) = true := bne_iff_ne.mpr hi
   have hid : decide (aJ = did) = false := decide_eq_false hi
   have HB := ae.mk hib
   clear hi
   go_enter Tryz.func11, Tryz.ntmps11
   go_wp2_with (first | (refine boxS 2 _ 26 S ?_; clear S; intro b2 eU S) | (refine boxS 3 _ 26 S ?_; clear S; intro b3 fM S; have bG := (S.out.at bf 0).trans rfl; have dm := (S.out.at (.head _) 0).trans rfl; have bP := (S.out.at bf 1).trans rfl; have bQ := (S.out.at bf 2).trans rfl; have bY := (S.out.at bf 3).trans rfl; have bZ := (S.out.at bf 4).trans rfl; have dn := (S.out.at (.head _) 1).trans rfl; have dA := (S.out.at (.head _) 2).trans rfl; have dB := (S.out.at (.head _) 3).trans rfl; have fK := (S.out.at (.head _) 4).trans rfl; have b_ := (S.out.at bf 5).trans rfl; have gI := (S.out.at (.head _) 5).trans rfl))
   clear bG dm bP bQ bY bZ dn dA dB fK b_ gI
   go_ret
   refine ⟨?_, S.out.below⟩
   rw [JW.out]
   rw [HB.out, Bool.false_and, Bool.and_false, Bool.and_false]
   rfl
  subst hi
  have hib : (aJ != aJ) = false := bne_self_eq_false _
  by_cases hl : l.length = m.length
  case neg =>
   have hl2 : ¬ ((l.length : Int) = (m.length : Int)) := by omega
   have aiA : ((l.length : Int) == (m.length : Int)) = false := beq_eq_false_iff_ne.mpr hl2
   have aiB : ((l.length : Int) != (m.length : Int)) = true := bne_iff_ne.mpr hl2
   have aiC : decide ((l.length : Int) = (m.length : Int)) = false := decide_eq_false hl2
   have hl3 : (l.length == m.length) = false := beq_eq_false_iff_ne.mpr hl
   have hl4 : decide (l.length = m.length) = false := decide_eq_false hl
   have hl5 : (l.length != m.length) = true := bne_iff_ne.mpr hl
   have HB := ae.mk hl3
   clear hl hl2
   go_enter Tryz.func11, Tryz.ntmps11
   go_wp2_with (first | (refine boxS 2 _ 26 S ?_; clear S; intro b2 eU S) | (refine boxS 3 _ 26 S ?_; clear S; intro b3 fM S; obtain ⟨dm, dn, dA, dB, fK, gI, dJ⟩ := St.fF S (.head _); obtain ⟨bG, bP, bQ, bY, bZ, b_, a_⟩ := St.fF S bf))
   clear dm dn dA dB fK gI dJ bG bP bQ bY bZ b_ a_
   go_ret
   refine ⟨?_, S.out.below⟩
   rw [JW.out]
   rw [HB.out, Bool.false_and, Bool.and_false, Bool.and_false, Bool.and_false]
   rfl
  have HL := ae.mk hl
  have hl2 : (l.length : Int) = (m.length : Int) := by omega
  have aiA : ((l.length : Int) == (m.length : Int)) = true := beq_iff_eq.mpr hl2
  have aiB : ((l.length : Int) != (m.length : Int)) = false := bne_eq_false_iff_eq.mpr hl2
  have aiC : decide ((l.length : Int) = (m.length : Int)) = true := decide_eq_true hl2
  have hl4 : decide (l.length = m.length) = true := decide_eq_true hl
  have hl5 : (l.length != m.length) = false := bne_eq_false_iff_eq.mpr hl
  clear hl hl2
  go_enter Tryz.func11, Tryz.ntmps11
  go_wp2_with (first | (refine boxS 2 _ 26 S ?_; clear S; intro b2 eU S) | (refine boxS 3 _ 26 S ?_; clear S; intro b3 fM S; obtain ⟨dm, dn, dA, dB, fK, gI, dJ⟩ := St.fF S (.head _); obtain ⟨bG, bP, bQ, bY, bZ, b_, a_⟩ := St.fF S bf))
  clear dm dn dA dB fK gI dJ bG bP bQ bY bZ b_ a_
  clear hkb hib aiA aiB aiC hl4 hl5
  go_loopg [37] l.length (fun gg v37 wr => ∃ (pre rest pb rb : List ai), v37 = .int .i64 (pre.length : Int) ∧ ae (pre ++ rest = l) ∧ ae (pb ++ rb = m) ∧ ae (pre.length = pb.length) ∧ ae (v_ pre pb = true) ∧ rest.length ≤ gg ∧ ae (St w P [(some b3, .cells #[.int .u8 ck, .int .i64 cx, .int .i64 cy, .int .i64 cw, .int .i64 ch, .int .i64 aJ, .slice A' m.length cc'] 26 (0, 0)), (some b2, .cells #[.int .u8 ck, .int .i64 cx, .int .i64 cy, .int .i64 cw, .int .i64 ch, .int .i64 aJ, .slice A l.length cc] 26 (0, 0))] [] [(.slice A l.length cc, l), (.slice A' m.length cc', m)] [] wr))
  case atStart => exact ⟨[], l, [], m, rfl, ⟨rfl⟩, ⟨rfl⟩, ⟨rfl⟩, ⟨zX _⟩, Nat.le_refl _, ⟨S.out⟩⟩
  case round =>
   clear S
   obtain ⟨pre, rest, pb, rb, rfl, HE, HE2, zJ, Ue, hgg, S⟩ := hrel
   have hlr : rest.length = rb.length := by have h1 := congrArg List.length HE.out; have h2 := congrArg List.length HE2.out; rw [List.length_append] at h1 h2; have := zJ.out; have := HL.out; omega
   cases rest with
   | nil =>
    have hE := HE.out
    rw [List.append_nil] at hE
    have hE2 := hE.symm
    subst hE2
    have hrb := List.eq_nil_of_length_eq_zero hlr.symm
    subst hrb
    have Uw := HE2.out
    rw [List.append_nil] at Uw
    subst Uw
    clear hE HE HE2 hgg hlr
    have hlt : ¬ ((l.length : Int) < (l.length : Int)) := by omega
    go_wp2
    go_ret
    refine ⟨?_, S.out.below⟩
    rw [JW.out, HR.out, Ue.out, beq_iff_eq.mpr HL.out, beq_self_eq_true, beq_self_eq_true]
    rfl
   | cons k rest =>
    cases rb with
    | nil => simp at hlr
    | cons q rb =>
     have hk : k ∈ l := by rw [← HE.out]; simp
     have hlt : (pre.length : Int) < (l.length : Int) := by rw [← HE.out, List.length_append, List.length_cons]; omega
     have hlt2 : (pre.length : Int) < (m.length : Int) := by rw [← HE2.out, List.length_append, List.length_cons]; have := zJ.out; omega
     have hlt3 : pre.length < m.length := by omega
     have hw1 : wrap64 ((pre.length : Int) + 1) = ((pre ++ [k]).length : Int) := by have := gZ.out; rw [List.length_append, List.length_singleton]; unfold wrap64; omega
     have HW1 := ae.mk hw1
     have jl := ae.mk hgg
     have HK := ae.mk hk
     obtain ⟨ed, ua, uc, ek, S1⟩ := S.out.elem (.head _) (pre.length : Int) (Int.natCast_nonneg _) hlt
     subst ek
     have hrd : aj l (pre.length : Int) = k := by rw [← HE.out]; exact jd pre k rest
     rw [hrd] at S1
     simp only [Int.toNat_natCast] at S1
     obtain ⟨adq, va, vc, XP, S2⟩ := S1.elem gy (pre.length : Int) (Int.natCast_nonneg _) hlt2
     subst XP
     have aiK : aj m (pre.length : Int) = q := by rw [← HE2.out, zJ.out]; exact jd pb q rb
     rw [aiK] at S2
     simp only [Int.toNat_natCast] at S2
     replace S := ae.mk S2
     clear S1 S2 hrd aiK hk hgg hw1 hlr
     cases hsm : xw k q with
     | false =>
      have HS := ae.mk hsm
      clear hsm
      go_wp2
      refine jT (n := 12) (S := fun w' => St w _ _ _ _ _ w') (ds := []) (bA 12 0) (by kernel_rfl) rfl rfl (S.out.call (bI (Below.refl _ _))) (fun hHeld => ?_); refine gG zH.tab6 zH.Dl (fun ak fC => ?_)
      replace S := ae.mk (S.out.call (bI (Below.refl _ _)))
      generalize wr.drew = wd3 at S hHeld ⊢
      refine ay 0 40 (bA 12 1) ak ?_
      refine dM 1 41 (bA 12 3) ak fC hHeld ?_ (hv := by intro w' hs_; have a_ := (hs_.at bf 6).trans rfl; go_simp; with_reducible rfl)
      refine ay 2 42 (bA 12 7) ak ?_
      refine ay 3 43 (bA 12 15) ak ?_
      refine dM 4 44 (bA 12 31) ak fC hHeld ?_ (hv := by intro w' hs_; have ZI := (hs_.cell _ YV).1; have y8_ := (hs_.cell _ mm8).1; have y9_ := (hs_.cell _ wM).1; have abO := (hs_.cell _ (.tail _ wM)).1; have abP := (hs_.cell _ (.tail _ (.tail _ wM))).1; have JL := (hs_.cell _ (.tail _ (.tail _ (.tail _ wM)))).1; have abQ := (hs_.cell _ (.tail _ (.tail _ (.tail _ (.tail _ wM))))).1; go_simp; with_reducible rfl)
      refine ay 5 45 (bA 12 63) ak ?_
      refine dM 6 46 (bA 12 127) ak fC hHeld ?_ (hv := by intro w' hs_; have dJ := (hs_.at (.head _) 6).trans rfl; go_simp; with_reducible rfl)
      refine ay 7 47 (bA 12 255) ak ?_
      refine ay 8 48 (bA 12 511) ak ?_
      refine dM 9 49 (bA 12 1023) ak fC hHeld ?_ (hv := by intro w' hs_; have iP := (hs_.cell _ (.head _)).1; have iQ := (hs_.cell _ bf).1; have iR := (hs_.cell _ gy).1; have iC := (hs_.cell _ jy).1; have iD := (hs_.cell _ su).1; have jk := (hs_.cell _ vH).1; have jE := (hs_.cell _ yM).1; go_simp; with_reducible rfl)
      refine iH 10 (some 50) (bA 12 2047) ak (fun K hK => ?_)
      refine fO Tryz.func11 (by kernel_rfl) rfl #[.agg #[.int .u8 k.f0, .int .i64 k.f1.f0, .int .i64 k.f1.f1, .int .i64 k.f1.f2, .int .i64 k.f1.f3, .int .i64 k.f2, .slice ua k.f3.length uc], .agg #[.int .u8 q.f0, .int .i64 q.f1.f0, .int .i64 q.f1.f1, .int .i64 q.f1.f2, .int .i64 q.f1.f3, .int .i64 q.f2, .slice va q.f3.length vc]] (by rfl) rfl rfl (by (try simp only [List.map_toArray, List.map_cons, List.map_nil]); rfl) ?_
      refine (Zl HS.out (IH.out k HK.out q _ ua uc va vc _ (d_ (S.out.tree _ bf)) (d_ (S.out.tree _ (.head _))))).mono ?_
      rintro e jD ⟨rfl, hb⟩
      refine ⟨_, rfl, ?_⟩
      replace S := ae.mk (S.out.call hb)
      clear hb
      refine hK.out _ _ S.out (fun hHeld => ?_)
      clear hK K
      refine dO 50 ?_
      refine ay 11 51 (bA 12 4095) ak ?_
      refine lJ (jc ak.out (by kernel_rfl)) ?_
      clear hHeld
      go_wp2
      go_ret
      refine ⟨?_, S.out.below⟩
      rw [JW.out, ← HE.out, ← HE2.out, O5 _ _ _ _ zJ.out, yJ, HS.out, Bool.false_and, Bool.and_false, Bool.and_false, Bool.and_false, Bool.and_false, Bool.and_false]
      rfl
     | true =>
      have HS := ae.mk hsm
      clear hsm
      go_wp2
      refine jT (n := 12) (S := fun w' => St w _ _ _ _ _ w') (ds := []) (bA 12 0) (by kernel_rfl) rfl rfl (S.out.call (bI (Below.refl _ _))) (fun hHeld => ?_); refine gG zH.tab6 zH.Dl (fun ak fC => ?_)
      replace S := ae.mk (S.out.call (bI (Below.refl _ _)))
      generalize wr.drew = wd5 at S hHeld ⊢
      refine ay 0 40 (bA 12 1) ak ?_
      refine dM 1 41 (bA 12 3) ak fC hHeld ?_ (hv := by intro w' hs_; have a_ := (hs_.at bf 6).trans rfl; go_simp; with_reducible rfl)
      refine ay 2 42 (bA 12 7) ak ?_
      refine ay 3 43 (bA 12 15) ak ?_
      refine dM 4 44 (bA 12 31) ak fC hHeld ?_ (hv := by intro w' hs_; have ZI := (hs_.cell _ YV).1; have y8_ := (hs_.cell _ mm8).1; have y9_ := (hs_.cell _ wM).1; have abO := (hs_.cell _ (.tail _ wM)).1; have abP := (hs_.cell _ (.tail _ (.tail _ wM))).1; have JL := (hs_.cell _ (.tail _ (.tail _ (.tail _ wM)))).1; have abQ := (hs_.cell _ (.tail _ (.tail _ (.tail _ (.tail _ wM))))).1; go_simp; with_reducible rfl)
      refine ay 5 45 (bA 12 63) ak ?_
      refine dM 6 46 (bA 12 127) ak fC hHeld ?_ (hv := by intro w' hs_; have dJ := (hs_.at (.head _) 6).trans rfl; go_simp; with_reducible rfl)
      refine ay 7 47 (bA 12 255) ak ?_
      refine ay 8 48 (bA 12 511) ak ?_
      refine dM 9 49 (bA 12 1023) ak fC hHeld ?_ (hv := by intro w' hs_; have iP := (hs_.cell _ (.head _)).1; have iQ := (hs_.cell _ bf).1; have iR := (hs_.cell _ gy).1; have iC := (hs_.cell _ jy).1; have iD := (hs_.cell _ su).1; have jk := (hs_.cell _ vH).1; have jE := (hs_.cell _ yM).1; go_simp; with_reducible rfl)
      refine iH 10 (some 50) (bA 12 2047) ak (fun K hK => ?_)
      refine fO Tryz.func11 (by kernel_rfl) rfl #[.agg #[.int .u8 k.f0, .int .i64 k.f1.f0, .int .i64 k.f1.f1, .int .i64 k.f1.f2, .int .i64 k.f1.f3, .int .i64 k.f2, .slice ua k.f3.length uc], .agg #[.int .u8 q.f0, .int .i64 q.f1.f0, .int .i64 q.f1.f1, .int .i64 q.f1.f2, .int .i64 q.f1.f3, .int .i64 q.f2, .slice va q.f3.length vc]] (by rfl) rfl rfl (by (try simp only [List.map_toArray, List.map_cons, List.map_nil]); rfl) ?_
      refine (Zl HS.out (IH.out k HK.out q _ ua uc va vc _ (d_ (S.out.tree _ bf)) (d_ (S.out.tree _ (.head _))))).mono ?_
      rintro e vS ⟨rfl, hb⟩
      refine ⟨_, rfl, ?_⟩
      replace S := ae.mk (S.out.call hb)
      clear hb
      refine hK.out _ _ S.out (fun hHeld => ?_)
      clear hK K
      refine dO 50 ?_
      refine ay 11 51 (bA 12 4095) ak ?_
      refine lJ (jc ak.out (by kernel_rfl)) ?_
      clear hHeld
      go_wp2
      have hw1 := HW1.out
      go_wp2
      go_roundg rest.length
      case measure => exact Nat.lt_of_lt_of_le (Nat.lt_succ_self _) jl.out
      case rel => exact ⟨pre ++ [k], rest, pb ++ [q], rb, (by rw [hw1]), ⟨by rw [List.append_assoc]; exact HE.out⟩, ⟨by rw [List.append_assoc]; exact HE2.out⟩, ⟨by rw [List.length_append, List.length_append, zJ.out]; rfl⟩, ⟨by rw [O5 _ _ _ _ zJ.out, Ue.out, yJ, HS.out, zX]; rfl⟩, Nat.le_refl _, ⟨S.out.bD.bD.aG.aG.aG.aG.aG.aG.aG.aG.aG.aG.aG.aG.aG.aG⟩⟩
def AtN (w : World) (P : Nat → Prop) : Option ai → Ending → World → Prop
 | none, e, w' => ∃ A2 c2, e = .returned (.tuple #[.agg #[.int .u8 0, .int .i64 0, .int .i64 0, .int .i64 0, .int .i64 0, .int .i64 0, .slice A2 0 c2], .bool false]) ∧ Kd.N k26 26 w' w.heap.size (fun k => P k ∨ w.heap.size ≤ k) (.slice A2 0 c2) [] ∧ Below w.heap.size w w'
 | some z, e, w' => ∃ A2 c2, e = .returned (.tuple #[.agg #[.int .u8 z.f0, .int .i64 z.f1.f0, .int .i64 z.f1.f1, .int .i64 z.f1.f2, .int .i64 z.f1.f3, .int .i64 z.f2, .slice A2 z.f3.length c2], .bool true]) ∧ Kd.N k26 26 w' w.heap.size (fun k => P k ∨ w.heap.size ≤ k) (.slice A2 z.f3.length c2) z.f3 ∧ Below w.heap.size w w'
theorem amM (c : ai) (path : List Int) (r : Option ai) (hr : jX c path = r) (hp : path.length ≤ 1048576) (hc : sz c ≤ 1000000) (b : Nat) (P : Nat → Prop) (A : Option Addr) (cc : Nat) (B : Option Addr) (cb : Nat) (w : World) (hv : Kd.V k26 26 w b P (.slice A c.f3.length cc) c.f3) (hi : Kd.C (Kd.int .i64) w B path.length path) :
  Calls Tryz.prog 29 #[.agg #[.int .u8 c.f0, .int .i64 c.f1.f0, .int .i64 c.f1.f1, .int .i64 c.f1.f2, .int .i64 c.f1.f3, .int .i64 c.f2, .slice A c.f3.length cc], .slice B path.length cb] w (AtN w P r) := by
 have S := ae.mk (St.start (ts := [(.slice A c.f3.length cc, c.f3)]) (b0 := w.heap.size) (w := w) (P := P) (fun t ht => by rw [List.mem_singleton.1 ht]; exact d_ hv))
 have HI := ae.mk hi
 have gZ := ae.mk hp
 have HZ := ae.mk hc
 have HR := ae.mk hr
 clear hi hp hc hr hv
 go_enter Tryz.func29, Tryz.ntmps29
 go_wp2_with (first
  | (refine boxS 2 _ 26 S ?_; clear S; intro b2 eU S)
  | (refine boxS 4 _ 26 S ?_; clear S; intro b4 fM S)
  | fail)
 go_loopg [10] path.length (fun gg v10 wr => ∃ (pre rest : List Int) (z : ai) (Az : Option Addr) (cz : Nat), v10 = .int .i64 (pre.length : Int) ∧ ae (pre ++ rest = path) ∧ ae (jX z rest = r) ∧ ae (sz z ≤ 1000000) ∧ rest.length ≤ gg ∧ ae (St w P [(some b4, .cells #[.int .u8 0, .int .i64 0, .int .i64 0, .int .i64 0, .int .i64 0, .int .i64 0, .slice none 0 0] 26 (0, 0)), (some b2, .cells #[.int .u8 z.f0, .int .i64 z.f1.f0, .int .i64 z.f1.f1, .int .i64 z.f1.f2, .int .i64 z.f1.f3, .int .i64 z.f2, .slice Az z.f3.length cz] 26 (0, 0))] [] [(.slice Az z.f3.length cz, z.f3)] [] wr))
 case atStart => exact ⟨[], path, c, A, cc, rfl, ⟨rfl⟩, HR, HZ, Nat.le_refl _, S⟩
 case round =>
  clear S HR HZ
  obtain ⟨pre, rest, z, Az, cz, rfl, HE, HR, HZ, hgg, S⟩ := hrel
  cases rest with
  | nil =>
   have hr := HR.out
   simp only [jX] at hr
   subst hr
   clear HR
   have hE := HE.out
   rw [List.append_nil] at hE
   have hE2 := hE.symm
   subst hE2
   clear hE HE hgg
   have hlt : ¬ ((path.length : Int) < (path.length : Int)) := by omega
   obtain ⟨bG, bP, bQ, bY, bZ, b_, a_⟩ := St.fF S bf
   go_wp2_with (first
    | (refine lK (some 31) Tryz.func36 (Ji 1000000 z HZ.out (Nat.le_refl _) _ Az cz _ (S.out.tree _ (.head _))) ?_; rintro e iq ⟨v, rfl, h1, hb⟩; refine ⟨_, rfl, ?_⟩; obtain ⟨Ac, cc', ev⟩ := Kd.jO h1; subst ev; replace S := ae.mk (S.out.CO h1 hb); clear h1 hb; clear bG bP bQ bY bZ b_ a_)
    | (refine gY 26 4 31 #[.int .u8 z.f0, .int .i64 z.f1.f0, .int .i64 z.f1.f1, .int .i64 z.f1.f2, .int .i64 z.f1.f3, .int .i64 z.f2, .slice Ac z.f3.length cc'] 0 7 S ?_; clear S; intro jD S)
    | fail)
   refine bodyPost_ret (eQ rfl _ _ b4 26 _ (0, 0) _ rfl (S.out.blk _ (.head _) _ rfl) Tryz.underlying26 rfl (by kernel_rfl)) rfl ?_
   exact ⟨_, _, rfl, S.out.uI, S.out.below⟩
  | cons i is =>
   have hlt : (pre.length : Int) < (path.length : Int) := by rw [← HE.out, List.length_append, List.length_cons]; omega
   have aiD : pre.length < path.length := by omega
   have hw1 : wrap64 ((pre.length : Int) + 1) = ((pre ++ [i]).length : Int) := by have := gZ.out; rw [List.length_append, List.length_singleton]; unfold wrap64; omega
   have HW1 := ae.mk hw1
   have jl := ae.mk hgg
   have Ub := ae.mk hlt
   have hrd : rd path (pre.length : Int) = i := by rw [← HE.out]; simp [rd, List.getD_eq_getElem?_getD]
   obtain ⟨adB, ek, xi⟩ := Kd.ja (Kd.g_ HI.out S.out.below) (pre.length : Int) (Int.natCast_nonneg _) hlt
   subst ek
   have D7 := ae.mk (fun (W : World) (h : Below w.heap.size w W) => (show W.cell? (adB.add pre.length) = some (.int .i64 i) by have h2 := Kd.ja (Kd.g_ HI.out h) (pre.length : Int) (Int.natCast_nonneg _) Ub.out; obtain ⟨ad, e1, e2⟩ := h2; injection e1 with e1; subst e1; simp only [Int.toNat_natCast] at e2; rw [e2, hrd]))
   clear hrd xi hgg hw1
   have hr := HR.out
   simp only [jX] at hr
   by_cases h0 : i < 0
   case pos =>
    rw [if_pos (.inl h0)] at hr
    subst hr
    clear HR
    obtain ⟨OJ, KH⟩ := wL (a := i) (b := 0) (by omega)
    have xi := D7.out _ S.out.below
    go_wp2_with (first
     | (refine gY 26 4 23 #[.int .u8 0, .int .i64 0, .int .i64 0, .int .i64 0, .int .i64 0, .int .i64 0, .slice none 0 0] 0 7 S ?_; clear S; intro eU S; clear xi)
     | fail)
    refine bodyPost_ret (eQ rfl _ _ b4 26 _ (0, 0) _ rfl (S.out.blk _ (.head _) _ rfl) Tryz.underlying26 rfl (by kernel_rfl)) rfl ?_
    exact ⟨none, 0, rfl, Kd.pI _ _ _ _ _, S.out.below⟩
   by_cases h1 : i ≥ (z.f3.length : Int)
   case pos =>
    rw [if_pos (.inr h1)] at hr
    subst hr
    clear HR
    obtain ⟨OJ, KH⟩ := vF (a := i) (b := 0) (by omega)
    have h1b : decide (i ≥ (z.f3.length : Int)) = true := decide_eq_true h1
    have h1c : decide ((z.f3.length : Int) ≤ i) = true := decide_eq_true h1
    have xi := D7.out _ S.out.below
    have a_ := (S.out.at bf 6).trans rfl
    go_wp2_with (first
     | (refine gY 26 4 23 #[.int .u8 0, .int .i64 0, .int .i64 0, .int .i64 0, .int .i64 0, .int .i64 0, .slice none 0 0] 0 7 S ?_; clear S; intro eU S; clear xi a_)
     | fail)
    refine bodyPost_ret (eQ rfl _ _ b4 26 _ (0, 0) _ rfl (S.out.blk _ (.head _) _ rfl) Tryz.underlying26 rfl (by kernel_rfl)) rfl ?_
    exact ⟨none, 0, rfl, Kd.pI _ _ _ _ _, S.out.below⟩
   rw [if_neg (fun h => h.elim h0 h1)] at hr
   obtain ⟨OJ, KH⟩ := vF (a := i) (b := 0) (by omega)
   have h1b : decide (i ≥ (z.f3.length : Int)) = false := decide_eq_false h1
   have h1c : decide ((z.f3.length : Int) ≤ i) = false := decide_eq_false h1
   have hi0 : 0 ≤ i := by omega
   have hi1 : i < (z.f3.length : Int) := by omega
   obtain ⟨ed, ua, uc, ek, S1⟩ := S.out.elem (.head _) i hi0 hi1
   subst ek
   have hkz : sz (aj z.f3 i) ≤ 1000000 := by have h2 := nS (GU z.f3 i hi0 hi1); have h3 := bJ z; have := HZ.out; omega
   obtain ⟨k, hk⟩ : ∃ k, k = aj z.f3 i := ⟨_, rfl⟩
   rw [← hk] at S1 hr hkz
   replace S := ae.mk S1
   replace HR := ae.mk hr
   have x_ := ae.mk hkz
   clear S1 hk hr hkz
   obtain ⟨iP, iQ, iR, iC, iD, jk, jE⟩ := St.yA S
   have xi := D7.out _ S.out.below
   have a_ := (S.out.at bf 6).trans rfl
   go_wp2_with (first
    | (refine qw 26 2 28 #[.int .u8 k.f0, .int .i64 k.f1.f0, .int .i64 k.f1.f1, .int .i64 k.f1.f2, .int .i64 k.f1.f3, .int .i64 k.f2, .slice ua k.f3.length uc] 0 7 S ?_; clear S; intro eU S; clear iP iQ iR iC iD jk jE xi a_)
    | fail)
   have hw1 := HW1.out
   go_wp2
   go_roundg is.length
   case measure => exact Nat.lt_of_lt_of_le (Nat.lt_succ_self _) jl.out
   case rel => exact ⟨pre ++ [i], is, k, ua, uc, (by rw [hw1]), ⟨by rw [List.append_assoc]; exact HE.out⟩, HR, x_, Nat.le_refl _, ⟨S.out.aG.aG.aG.aG.aG.aG.aG.alk (.head _)⟩⟩
section
variable {W : World} {b : Nat} {P : Nat → Prop} {A : Option Addr} {cc cb : Nat}
theorem Z9 (c : ai) (path : List Int) (z : ai) (hz : jX c path = some z) (hp : path.length ≤ 1048576) (hc : sz c ≤ 1000000) {B : Option Addr} (hV : Kd.V k26 26 W b P (.slice A c.f3.length cc) c.f3) (hi : Kd.C (Kd.int .i64) W B path.length path) (_ : path.length ≤ cb) :
  Calls Tryz.prog 29 #[.agg #[.int .u8 c.f0, .int .i64 c.f1.f0, .int .i64 c.f1.f1, .int .i64 c.f1.f2, .int .i64 c.f1.f3, .int .i64 c.f2, .slice A c.f3.length cc], .slice B path.length cb] W fun e w' => ∃ A2 c2, e = .returned (.tuple #[.agg #[.int .u8 z.f0, .int .i64 z.f1.f0, .int .i64 z.f1.f1, .int .i64 z.f1.f2, .int .i64 z.f1.f3, .int .i64 z.f2, .slice A2 z.f3.length c2], .bool true]) ∧ Kd.N k26 26 w' W.heap.size (fun k => P k ∨ W.heap.size ≤ k) (.slice A2 z.f3.length c2) z.f3 ∧ Below W.heap.size W w' := amM c path (some z) hz hp hc b P A cc B cb W hV hi
end
section
variable {W : World} {b b' : Nat} {P P' : Nat → Prop} {A A' : Option Addr} {cc cc' : Nat}
theorem MO (c : ai) (g : Bool) (hg : ∃ k, kX.f k c.f0 c.f1.f0 c.f1.f1 c.f1.f2 c.f1.f3 c.f2 c.f3 = some g) (hV : Kd.V k26 26 W b P (.slice A c.f3.length cc) c.f3) :
  Calls Tryz.prog 4 #[.agg #[.int .u8 c.f0, .int .i64 c.f1.f0, .int .i64 c.f1.f1, .int .i64 c.f1.f2, .int .i64 c.f1.f3, .int .i64 c.f2, .slice A c.f3.length cc]] W fun e w' => e = .returned (.bool g) ∧ Below W.heap.size W w' := by
 obtain ⟨k, hk⟩ := hg
 have h := Kd.lF hV
 exact kX.calls k _ _ _ _ _ _ A cc c.f3 g W h.2.2 h.2.1 hk
theorem ajk (x y : ai) (hx : sz x ≤ 1048576) (hV : Kd.V k26 26 W b P (.slice A x.f3.length cc) x.f3) (hV' : Kd.V k26 26 W b' P' (.slice A' y.f3.length cc') y.f3) :
  Calls Tryz.prog 11 #[.agg #[.int .u8 x.f0, .int .i64 x.f1.f0, .int .i64 x.f1.f1, .int .i64 x.f1.f2, .int .i64 x.f1.f3, .int .i64 x.f2, .slice A x.f3.length cc], .agg #[.int .u8 y.f0, .int .i64 y.f1.f0, .int .i64 y.f1.f1, .int .i64 y.f1.f2, .int .i64 y.f1.f3, .int .i64 y.f2, .slice A' y.f3.length cc']] W fun e w' => e = .returned (.bool (xw x y)) ∧ Below W.heap.size W w' := by
 exact ajj (sz x) x (Nat.le_refl _) hx y (fun _ => True) A cc A' cc' W (Kd.iw (d_ hV) (fun _ _ => trivial)) (Kd.iw (d_ hV') (fun _ _ => trivial))
theorem Zj (x : ai) (_ : sz x ≤ 1048576) : xw x x = true := (WE (sz x)).1 x (Nat.le_refl _)
theorem Zk (x : ai) (hx : sz x ≤ 1048576) (hV : Kd.V k26 26 W b P (.slice A x.f3.length cc) x.f3) (hV' : Kd.V k26 26 W b' P' (.slice A' x.f3.length cc') x.f3) :
  Calls Tryz.prog 11 #[.agg #[.int .u8 x.f0, .int .i64 x.f1.f0, .int .i64 x.f1.f1, .int .i64 x.f1.f2, .int .i64 x.f1.f3, .int .i64 x.f2, .slice A x.f3.length cc], .agg #[.int .u8 x.f0, .int .i64 x.f1.f0, .int .i64 x.f1.f1, .int .i64 x.f1.f2, .int .i64 x.f1.f3, .int .i64 x.f2, .slice A' x.f3.length cc']] W fun e w' => e = .returned (.bool true) ∧ Below W.heap.size W w' := by
 have h := ajk x x hx hV hV'
 rw [Zj x hx] at h
 exact h
end
section
variable {Pr : Program} {ops : Array Oper} {rest : List Oper} {op : Oper} {a : Act} {Q : Exit → Act → World → Prop} {w W : World} {P : Nat → Prop} {bs : List (Option Nat × Obj)} {ts : List (Value × List ai)} {ro : List (Addr × Value)}
end
def ajt.T5 : Bool × List (List Nat × List Nat) := (true, [([], []), ([0], [0]), ([], []), ([2], [2]), ([3], [3]), ([1, 4], [1, 4]), ([5], [5]), ([], []), ([], []), ([8], [8]), ([6, 7, 9], [6, 7, 9]), ([10], [10]), ([11], [11]), ([11], [11]), ([], []), ([14, 12, 10, 0, 1, 2, 3, 4, 5, 6, 7, 8, 9, 10, 11, 12, 14], [12, 14]), ([13, 15, 0, 1, 2, 3, 4, 5, 6, 7, 8, 9, 10, 11, 12, 13, 14, 15], [13])])
def ajt.B5 : List Nat := [0, 1, 0, 4, 12, 31, 63, 0, 0, 256, 1023, 2047, 4095, 4095, 0, 24575, 65535]
def aju.T9 : Bool × List (List Nat × List Nat) := (true, [([], []), ([], []), ([1], [1]), ([2], [2]), ([], []), ([0, 3, 0, 1, 2, 3, 4], [0, 3]), ([5, 4, 0, 1, 2, 3, 4], [4, 5])])
def aju.B9 : List Nat := [0, 0, 2, 6, 0, 31, 63]
section
variable {Pr : Program} {ops : Array Oper} {rest : List Oper} {op : Oper} {a : Act} {Q : Exit → Act → World → Prop} {w W : World} {P : Nat → Prop} {bs : List (Option Nat × Obj)} {ow : List (Value × List ai)} {ts : List (Value × List ai)} {ro : List (Addr × Value)}
end
abbrev VB (W : World) (p : List Int) (t : Bool) (e : Ending) (w' : World) : Prop := ∃ A c, e = .returned (.tuple #[.slice A p.length c, .bool t]) ∧ (Kd.int .i64).R 3 w' W.heap.size (fun _ => True) (.slice A p.length c) p ∧ Below W.heap.size W w'
def als.T3 : Bool × List (List Nat × List Nat) := (true, [([], []), ([0], [0]), ([1], [1]), ([2], [2]), ([3], [3]), ([4], [4]), ([5, 4], [4, 5]), ([6, 4], [4, 6]), ([4], [4]), ([8, 4], [4, 8]), ([9, 4], [4, 9]), ([7, 10, 4], [4, 7, 10]), ([4, 11], [4, 11])])
def als.B3 : List Nat := [0, 1, 3, 7, 15, 31, 63, 127, 31, 287, 799, 2047, 4095]
def alu.T5 : Bool × List (List Nat × List Nat) := (true, [([], []), ([0], [0]), ([], []), ([2], [2]), ([3], [3]), ([1, 4], [1, 4]), ([5], [5]), ([], []), ([7], [7]), ([6, 8], [6, 8]), ([9], [9]), ([9], [9]), ([10, 9, 0, 1, 2, 3, 4, 5, 6, 7, 8, 9, 10, 11], [10]), ([11, 12, 0, 1, 2, 3, 4, 5, 6, 7, 8, 9, 10, 11, 12], [11])])
def alu.B5 : List Nat := [0, 1, 0, 4, 12, 31, 63, 0, 128, 511, 1023, 1023, 4095, 8191]
section
variable {W : World} {b : Nat} {P : Nat → Prop} {A B : Option Addr} {cc cb : Nat}
end
theorem afl : ∀ (is : List Int) (c kid : ai) (P : Nat → Prop) (A : Option Addr) (cc : Nat) (Ak : Option Addr) (Ec : Nat) (B : Option Addr) (cb : Nat) (w : World), sz c ≤ 1000000 → sz kid ≤ 1000000 →
  Kd.V k26 26 w w.heap.size P (.slice A c.f3.length cc) c.f3 → Kd.V k26 26 w w.heap.size P (.slice Ak kid.f3.length Ec) kid.f3 → Kd.C (Kd.int .i64) w B is.length is → is.length ≤ cb → uJ kid is c ≠ none →
  Calls Tryz.prog 19 #[.agg #[.int .u8 c.f0, .int .i64 c.f1.f0, .int .i64 c.f1.f1, .int .i64 c.f1.f2, .int .i64 c.f1.f3, .int .i64 c.f2, .slice A c.f3.length cc], .agg #[.int .u8 kid.f0, .int .i64 kid.f1.f0, .int .i64 kid.f1.f1, .int .i64 kid.f1.f2, .int .i64 kid.f1.f3, .int .i64 kid.f2, .slice Ak kid.f3.length Ec], .slice B is.length cb] w (ZR w P (uJ kid is c)) := by
 intro is
 induction is with
 | nil =>
  intro c kid P A cc Ak Ec B cb w hz YG hv hvk hi hb _
  show Calls Tryz.prog 19 #[.agg #[.int .u8 c.f0, .int .i64 c.f1.f0, .int .i64 c.f1.f1, .int .i64 c.f1.f2, .int .i64 c.f1.f3, .int .i64 c.f2, .slice A c.f3.length cc], .agg #[.int .u8 kid.f0, .int .i64 kid.f1.f0, .int .i64 kid.f1.f1, .int .i64 kid.f1.f2, .int .i64 kid.f1.f3, .int .i64 kid.f2, .slice Ak kid.f3.length Ec], .slice B 0 cb] w (ZR w P (some kid))
  have S := ae.mk (St.start (ts := [(.slice A c.f3.length cc, c.f3), (.slice Ak kid.f3.length Ec, kid.f3)]) (b0 := w.heap.size) (w := w) (P := P) (fun t ht => by
   rcases List.mem_cons.1 ht with rfl | ht
   ·exact hv
   ·rw [List.mem_singleton.1 ht]; exact hvk))
  have HZ := ae.mk hz
  have HZK := ae.mk YG
  clear hz YG hv hvk hi hb
  obtain ⟨ck, ⟨cx, cy, cw, ch⟩, aJ, l⟩ := c
  obtain ⟨kk, ⟨kx, ky, kw, kh⟩, kid, m⟩ := kid
  simp only [] at S ⊢
  go_enter Tryz.func19, Tryz.ntmps19
  go_wp2_with (first
   | (refine boxS 3 _ 26 S ?_; clear S; intro b3 eU S)
   | (refine boxS 4 _ 26 S ?_; clear S; intro b4 fM S)
   | (refine boxS 6 _ 26 S ?_; clear S; intro b6 iq S; obtain ⟨Ie, Ig, Ih, Ii, aco, acp, acr⟩ := St.fF S bf)
   | (refine lK (some 15) Tryz.func36 (Ji 1000000 ⟨kk, ⟨kx, ky, kw, kh⟩, kid, m⟩ HZK.out (Nat.le_refl _) _ Ak Ec _ (S.out.tree _ bf)) ?_; rintro e jD ⟨v, rfl, h1, hb⟩; refine ⟨_, rfl, ?_⟩; obtain ⟨amy, amV, ev⟩ := Kd.jO h1; subst ev; replace S := ae.mk (S.out.CO h1 hb); clear h1 hb; clear Ie Ig Ih Ii aco acp acr)
   | (refine gY 26 6 15 #[.int .u8 kk, .int .i64 kx, .int .i64 ky, .int .i64 kw, .int .i64 kh, .int .i64 kid, .slice amy m.length amV] 0 7 S ?_; clear S; intro mQ S)
   | fail)
  refine bodyPost_ret (eQ rfl _ _ b6 26 _ (0, 0) _ rfl (S.out.blk _ (.head _) _ rfl) Tryz.underlying26 rfl (by kernel_rfl)) rfl ?_
  exact ⟨_, _, rfl, S.out.uI, S.out.below⟩
 | cons i is ih =>
  intro c kid P A cc Ak Ec B cb w hz YG hv hvk hi hb hne
  have IH := ae.mk ih
  have HI := ae.mk hi
  have LI := ae.mk hb
  have S := ae.mk (St.start (ts := [(.slice A c.f3.length cc, c.f3), (.slice Ak kid.f3.length Ec, kid.f3)]) (b0 := w.heap.size) (w := w) (P := P) (fun t ht => by
   rcases List.mem_cons.1 ht with rfl | ht
   ·exact hv
   ·rw [List.mem_singleton.1 ht]; exact hvk))
  obtain ⟨Qq, rfl, xi⟩ := Kd.ja hi 0 (by omega) (by simp)
  rw [show ((0 : Int)).toNat = 0 from rfl, Addr.add_zero'] at xi
  have xi : w.cell? Qq = some (.int .i64 i) := xi
  replace S := ae.mk (S.out.adg xi)
  have hlen0 : (0 : Int) < ((is.length : Int) + 1) := by omega
  have hl0 : ((is.length + 1 : Nat) : Int) = (is.length : Int) + 1 := by omega
  have HZ := ae.mk hz
  have HZK := ae.mk YG
  have JZ := ae.mk hne
  clear ih hv hvk hi hb hne xi hz YG
  simp only [uJ] at JZ ⊢
  obtain ⟨ck, ⟨cx, cy, cw, ch⟩, aJ, l⟩ := c
  obtain ⟨kk, ⟨kx, ky, kw, kh⟩, kid, m⟩ := kid
  simp only [] at S JZ ⊢
  simp only [List.length_cons] at HI LI ⊢
  have h0 : ¬ i < 0 := fun h => JZ.out (if_pos (.inl h))
  by_cases h1 : i ≥ (l.length : Int)
  ·exact absurd (if_pos (.inr h1)) JZ.out
  ·rw [if_neg (fun h => h.elim h0 h1)]
   have hne := JZ.out
   rw [if_neg (fun h => h.elim h0 h1)] at hne
   have KH : decide (i < 0) = false := decide_eq_false h0
   have h1b : decide (i ≥ (l.length : Int)) = false := decide_eq_false h1
   have h1c : decide ((l.length : Int) ≤ i) = false := decide_eq_false h1
   have h0z : 0 ≤ i := by omega
   have h1z : i < (l.length : Int) := by omega
   obtain ⟨ed, ua, uc, ek, S1⟩ := S.out.elem (.head _) i h0z h1z
   subst ek
   replace S := ae.mk S1
   have x_ := ae.mk (show sz (aj l i) ≤ 1000000 by have := nS (GU l i h0z h1z); have := HZ.out; rw [bJ] at this; simp only [] at this; omega)
   clear S1
   generalize aj l i = k at S x_ hne ⊢
   obtain ⟨i0, hi0, _, hsz, _⟩ := info_parts info3
   have hcut := aat (P := Tryz.prog) 41 3 .i64 Tryz.underlying41 hi0 1 hsz (some Qq) (is.length + 1) cb 1 (by omega) (by omega)
   have hdrop := Kd.aga HI.out (m := 1) (by rw [List.length_cons]; omega) LI.out
   obtain ⟨A2, hA2⟩ : ∃ A2, A2 = (if cb = (1 : Int).toNat then (some Qq) else ((some Qq) : Option Addr).map (·.add ((1 : Int).toNat * 1))) := ⟨_, rfl⟩
   obtain ⟨c2, hc2⟩ : ∃ c2, c2 = cb - (1 : Int).toNat := ⟨_, rfl⟩
   rw [← hA2, ← hc2, show is.length + 1 - (1 : Int).toNat = is.length by simp] at hcut
   have HI2 := ae.mk (show Kd.C (Kd.int .i64) w A2 is.length is by rw [hA2]; exact hdrop)
   have LI2 := ae.mk (show is.length ≤ c2 by have h3 := LI.out; rw [hc2]; simp; omega)
   have amB := ae.mk hcut
   clear hdrop hA2 hc2 hi0 hsz hcut h0 h1
   have H0Z := ae.mk h0z
   have H1Z := ae.mk h1z
   cases hp : uJ ⟨kk, ⟨kx, ky, kw, kh⟩, kid, m⟩ is k with
   | none => rw [hp] at hne; exact absurd rfl hne
   | some z =>
    have IHk := fun Q W h1 h2 h3 => IH.out k ⟨kk, ⟨kx, ky, kw, kh⟩, kid, m⟩ Q ua uc Ak Ec A2 c2 W x_.out HZK.out h1 h2 h3 LI2.out (by rw [hp]; simp)
    simp only [hp] at IHk ⊢
    clear hne
    have hcut := amB.out
    go_enter Tryz.func19, Tryz.ntmps19
    go_wp2_with (first
     | (refine boxS 3 _ 26 S ?_; clear S; intro b3 eU S)
     | (refine boxS 4 _ 26 S ?_; clear S; intro b4 fM S)
     | (refine boxS 6 _ 26 S ?_; clear S; intro b6 iq S; have ZI := (S.out.cell _ YV).1; have dJ := (S.out.at gy 6).trans rfl)
     | fail)
    clear ZI dJ
    refine jT (n := 15) (S := fun w' => St w _ _ _ _ _ w') (ds := [13]) (bA 15 0) (by kernel_rfl) rfl rfl (S.out.call (bI (Below.refl _ _))) (fun hHeld => ?_); refine gG zZ.tab6 zZ.Dl (fun ak fC => ?_)
    replace S := ae.mk (S.out.call (bI (Below.refl _ _)))
    generalize iq.drew = wd4 at S hHeld ⊢
    refine ay 0 30 (bA 15 1) ak ?_
    refine dM 1 31 (bA 15 3) ak fC hHeld ?_ (hv := by intro w' hs_; have dJ := (hs_.at gy 6).trans rfl; go_simp; with_reducible rfl)
    refine ay 2 32 (bA 15 7) ak ?_
    refine ay 3 33 (bA 15 15) ak ?_
    refine dM 4 34 (bA 15 31) ak fC hHeld ?_ (hv := by intro w' hs_; have iP := (hs_.cell _ (.head _)).1; have iQ := (hs_.cell _ bf).1; have iR := (hs_.cell _ gy).1; have iC := (hs_.cell _ jy).1; have iD := (hs_.cell _ su).1; have jk := (hs_.cell _ vH).1; have jE := (hs_.cell _ yM).1; go_simp; with_reducible rfl)
    refine dM 5 35 (bA 15 63) ak fC hHeld ?_ (hv := by intro w' hs_; have Ie := (hs_.at bf 0).trans rfl; have Ig := (hs_.at bf 1).trans rfl; have Ih := (hs_.at bf 2).trans rfl; have Ii := (hs_.at bf 3).trans rfl; have aco := (hs_.at bf 4).trans rfl; have acp := (hs_.at bf 5).trans rfl; have acr := (hs_.at bf 6).trans rfl; go_simp; with_reducible rfl)
    refine ay 6 36 (bA 15 127) ak ?_
    refine ay 7 37 (bA 15 255) ak ?_
    refine KQ (σ := Option Addr × Nat × Nat) 2 (bA 15 8191) (fun s_ => [(38, .tuple #[.agg #[.int .u8 z.f0, .int .i64 z.f1.f0, .int .i64 z.f1.f1, .int .i64 z.f1.f2, .int .i64 z.f1.f3, .int .i64 z.f2, .slice s_.1 z.f3.length s_.2.1], .bool true]), (29, .tuple #[.agg #[.int .u8 z.f0, .int .i64 z.f1.f0, .int .i64 z.f1.f1, .int .i64 z.f1.f2, .int .i64 z.f1.f3, .int .i64 z.f2, .slice s_.1 z.f3.length s_.2.1], .bool true]), (39, .agg #[.int .u8 z.f0, .int .i64 z.f1.f0, .int .i64 z.f1.f1, .int .i64 z.f1.f2, .int .i64 z.f1.f3, .int .i64 z.f2, .slice s_.1 z.f3.length s_.2.1]), (40, .bool true), (9, .pointer (some ⟨s_.2.2, 0, none⟩))]) (fun s_ w' => St w P [(some s_.2.2, .cells #[.int .u8 0, .int .i64 0, .int .i64 0, .int .i64 0, .int .i64 0, .int .i64 0, .slice none 0 0] 26 (0, 0)), (some b6, .cells #[.int .u8 0, .int .i64 0, .int .i64 0, .int .i64 0, .int .i64 0, .int .i64 0, .slice none 0 0] 26 (0, 0)), (some b4, .cells #[.int .u8 kk, .int .i64 kx, .int .i64 ky, .int .i64 kw, .int .i64 kh, .int .i64 kid, .slice Ak m.length Ec] 26 (0, 0)), (some b3, .cells #[.int .u8 ck, .int .i64 cx, .int .i64 cy, .int .i64 cw, .int .i64 ch, .int .i64 aJ, .slice (some ed) l.length cc] 26 (0, 0))] [] [(.slice s_.1 z.f3.length s_.2.1, z.f3), (.slice ua k.f3.length uc, k.f3), (.slice (some ed) l.length cc, l), (.slice Ak m.length Ec, m)] [((ed.add (i.toNat * 7)), .int .u8 k.f0), (⟨(ed.add (i.toNat * 7)).block, (ed.add (i.toNat * 7)).off + 1, none⟩, .int .i64 k.f1.f0), (⟨(ed.add (i.toNat * 7)).block, (ed.add (i.toNat * 7)).off + 2, none⟩, .int .i64 k.f1.f1), (⟨(ed.add (i.toNat * 7)).block, (ed.add (i.toNat * 7)).off + 3, none⟩, .int .i64 k.f1.f2), (⟨(ed.add (i.toNat * 7)).block, (ed.add (i.toNat * 7)).off + 4, none⟩, .int .i64 k.f1.f3), (⟨(ed.add (i.toNat * 7)).block, (ed.add (i.toNat * 7)).off + 5, none⟩, .int .i64 k.f2), (⟨(ed.add (i.toNat * 7)).block, (ed.add (i.toNat * 7)).off + 6, none⟩, .slice ua k.f3.length uc), (Qq, .int .i64 i)] w') ?_ ?_
    rotate_left
    ·intro o5
     refine CV (i := 8) (j := 12) (Ni := some 38) (Nj := some 9) (bA 15 511) (bA 15 4351) rfl rfl rfl rfl (vP ak.out (by kernel_rfl)) (by decide) (by decide) (fun K hK => ?_) (fun K hK => ?_)
     ·skip
      refine fO Tryz.func19 (by kernel_rfl) rfl #[.agg #[.int .u8 k.f0, .int .i64 k.f1.f0, .int .i64 k.f1.f1, .int .i64 k.f1.f2, .int .i64 k.f1.f3, .int .i64 k.f2, .slice ua k.f3.length uc], .agg #[.int .u8 kk, .int .i64 kx, .int .i64 ky, .int .i64 kw, .int .i64 kh, .int .i64 kid, .slice Ak m.length Ec], .slice A2 is.length c2] (by rfl) rfl rfl (by (try simp only [List.map_toArray, List.map_cons, List.map_nil]); first | done | rfl) ?_
      refine (IHk _ _ (d_ (S.out.tree _ (.head _))) (d_ (S.out.tree _ gy)) (Kd.g_ HI2.out S.out.below)).mono ?_
      rintro e mQ ⟨I8, Jj, rfl, h1, hb⟩
      refine ⟨_, rfl, ?_⟩
      replace S := ae.mk (S.out.res (Kd.qY (base' := 0) h1) hb)
      clear h1 hb
      refine hK.out _ _ S.out.bD (fun hHeld => ?_)
      clear hK K
      refine dO 38 ?_
      refine ay 9 29 (bA 15 1023) ak ?_
      refine ay 10 39 (bA 15 2047) ak ?_
      refine ay 11 40 (bA 15 4095) ak ?_
      refine iH 12 (some 9) (bA 15 8191) ak (fun K hK => ?_)
      refine lU ?hg (N := 9) ?hd (cs := #[.int .u8 0, .int .i64 0, .int .i64 0, .int .i64 0, .int .i64 0, .int .i64 0, .slice none 0 0]) (t := 26) ?hr ?_; (case hd => rfl); (case hg => rfl); (case hr => first | (go_simp; done) | (go_simp; rfl))
      intro b9 hg vS hbox hb
      replace S := ae.mk (S.out.box hg hbox hb)
      clear hg hbox hb
      refine hK.out _ _ S.out.eP.bD (fun hHeld => ?_)
      clear hK K
      refine dO 9 ?_
      exact oI (by simp only [kW, Act.put, List.setIfInBounds_toArray, List.set_cons_zero, List.set_cons_succ] <;> rfl) (o5 (I8, Jj, b9) _ S.out)
     ·skip
      refine lU ?hg (N := 9) ?hd (cs := #[.int .u8 0, .int .i64 0, .int .i64 0, .int .i64 0, .int .i64 0, .int .i64 0, .slice none 0 0]) (t := 26) ?hr ?_; (case hd => rfl); (case hg => rfl); (case hr => first | (go_simp; done) | (go_simp; rfl))
      intro b9 hg xY hbox hb
      replace S := ae.mk (S.out.box hg hbox hb)
      clear hg hbox hb
      refine hK.out _ _ S.out.eP (fun hHeld => ?_)
      clear hK K
      refine dO 9 ?_
      refine iH 8 (some 38) (bA 15 4607) ak (fun K hK => ?_)
      refine fO Tryz.func19 (by kernel_rfl) rfl #[.agg #[.int .u8 k.f0, .int .i64 k.f1.f0, .int .i64 k.f1.f1, .int .i64 k.f1.f2, .int .i64 k.f1.f3, .int .i64 k.f2, .slice ua k.f3.length uc], .agg #[.int .u8 kk, .int .i64 kx, .int .i64 ky, .int .i64 kw, .int .i64 kh, .int .i64 kid, .slice Ak m.length Ec], .slice A2 is.length c2] (by rfl) rfl rfl (by (try simp only [List.map_toArray, List.map_cons, List.map_nil]); first | done | rfl) ?_
      refine (IHk _ _ (d_ (S.out.tree _ (.head _))) (d_ (S.out.tree _ gy)) (Kd.g_ HI2.out S.out.below)).mono ?_
      rintro e A_ ⟨I8, Jj, rfl, h1, hb⟩
      refine ⟨_, rfl, ?_⟩
      replace S := ae.mk (S.out.res (Kd.qY (base' := 0) h1) hb)
      clear h1 hb
      refine hK.out _ _ S.out.eP.bD (fun hHeld => ?_)
      clear hK K
      refine dO 38 ?_
      refine ay 9 29 (bA 15 5119) ak ?_
      refine ay 10 39 (bA 15 6143) ak ?_
      refine ay 11 40 (bA 15 8191) ak ?_
      exact oI (by simp only [kW, Act.put, List.setIfInBounds_toArray, List.set_cons_zero, List.set_cons_succ] <;> rfl) (o5 (I8, Jj, b9) _ S.out)
    rintro ⟨I8, Jj, b9⟩ wj9 S1
    simp only [kW, Act.put, List.setIfInBounds_toArray, List.set_cons_zero, List.set_cons_succ]
    replace S := ae.mk S1
    clear S1 hHeld
    have hHeld := S.out.eP.bD
    refine sK 13 none (bA 15 16383) ak (fun K hK => ?_)
    refine vZ 0 rfl 26 (.tmp 9) (.tmp 39) rfl #[.int .u8 z.f0, .int .i64 z.f1.f0, .int .i64 z.f1.f1, .int .i64 z.f1.f2, .int .i64 z.f1.f3, .int .i64 z.f2, .slice I8 z.f3.length Jj] (j := 0) (u := .agg #[.int .u8 z.f0, .int .i64 z.f1.f0, .int .i64 z.f1.f1, .int .i64 z.f1.f2, .int .i64 z.f1.f3, .int .i64 z.f2, .slice I8 z.f3.length Jj]) (df := [.int .u8 z.f0, .int .i64 z.f1.f0, .int .i64 z.f1.f1, .int .i64 z.f1.f2, .int .i64 z.f1.f3, .int .i64 z.f2, .slice I8 z.f3.length Jj]) S.out (by rfl) rfl rfl rfl rfl (by kernel_rfl) (by simp [Value.oneCell']) (by first | decide | simp) rfl ?_
    intro CW S1
    simp only [List.set_cons_zero, List.set_cons_succ] at S1
    replace S := ae.mk S1
    clear S1
    refine hK.out _ _ ?_
    clear hK K
    refine ay 14 10 (bA 15 32767) ak ?_
    refine lJ (jc ak.out (by kernel_rfl)) ?_
    clear hHeld
    obtain ⟨dm, dn, dA, dB, fK, gI, dJ⟩ := St.fF S jy
    go_wp2_with (first
     | (refine lK (some 45) Tryz.func36 (Ji 1000000 ⟨ck, ⟨cx, cy, cw, ch⟩, aJ, l⟩ HZ.out (Nat.le_refl _) _ (some ed) cc _ (d_ (S.out.tree _ gy))) ?_; rintro e DV ⟨v, rfl, h1, hb⟩; refine ⟨_, rfl, ?_⟩; obtain ⟨g45, acn, ev, _⟩ := Kd.zN h1 (by have := H1Z.out; have := H0Z.out; simp only []; omega); subst ev; replace S := ae.mk (S.out.CO h1 hb); clear h1 hb; clear dm dn dA dB fK gI dJ)
     | (refine ai9 26 3 45 #[.int .u8 ck, .int .i64 cx, .int .i64 cy, .int .i64 cw, .int .i64 ch, .int .i64 aJ, .slice (some ⟨g45, 0, none⟩) l.length acn] 0 7 S ?_; clear S; intro FM S; obtain ⟨nO, sG, oZ, sH, xm, xn, xq⟩ := St.fF S (.head _); have dJ := (S.out.at jy 6).trans rfl)
     | ((with_reducible refine mV (.store 26 (.tmp 50) (.tmp 49)) rfl ?_); go_loud (refine Tz i z (.tmp 50) (.tmp 49) rfl S.out H0Z.out H1Z.out ?sA ?sX (by kernel_rfl) (.head _) rfl rfl ?_; (case sA => first | rfl | (go_simp; rfl)); (case sX => rfl); intro JK S1; replace S := ae.mk S1; clear S1); clear nO sG oZ sH xm xn xq dJ; obtain ⟨dm, dn, dA, dB, fK, gI, dJ⟩ := St.fF S jy)
     | (refine qw 26 6 51 #[.int .u8 ck, .int .i64 cx, .int .i64 cy, .int .i64 cw, .int .i64 ch, .int .i64 aJ, .slice (some ⟨g45, 0, none⟩) l.length acn] 0 7 S ?_; clear S; intro TK S; clear dm dn dA dB fK gI dJ)
     | fail)
    refine bodyPost_ret (eQ rfl _ _ b6 26 _ (0, 0) _ rfl (S.out.blk _ bf _ rfl) Tryz.underlying26 rfl (by kernel_rfl)) rfl ?_
    simp only [ZR, List.length_set]
    exact ⟨_, _, rfl, S.out.uI, S.out.below⟩
def afC.T5 : Bool × List (List Nat × List Nat) := (true, [([], []), ([0], [0]), ([], []), ([2], [2]), ([3], [3]), ([1, 4], [1, 4]), ([5], [5]), ([], []), ([], []), ([8], [8]), ([6, 7, 9], [6, 7, 9]), ([10], [10]), ([11], [11]), ([11], [11]), ([], []), ([14, 12, 10, 0, 1, 2, 3, 4, 5, 6, 7, 8, 9, 10, 11, 12, 14], [12, 14]), ([13, 15, 0, 1, 2, 3, 4, 5, 6, 7, 8, 9, 10, 11, 12, 13, 14, 15], [13])])
def afC.B5 : List Nat := [0, 1, 0, 4, 12, 31, 63, 0, 0, 256, 1023, 2047, 4095, 4095, 0, 24575, 65535]
def afD.T9 : Bool × List (List Nat × List Nat) := (true, [([], []), ([], []), ([1], [1]), ([2], [2]), ([], []), ([0, 3, 0, 1, 2, 3, 4], [0, 3]), ([5, 4, 0, 1, 2, 3, 4], [4, 5])])
def afD.B9 : List Nat := [0, 0, 2, 6, 0, 31, 63]
section
variable {W : World} {b b' : Nat} {P : Nat → Prop} {A A' B : Option Addr} {cc cc' cb : Nat}
theorem Wp (c kid : ai) (path : List Int) (z : ai) (hz : uJ kid path c = some z) (hc : sz c ≤ 1000000) (hk : sz kid ≤ 1000000) (hV : Kd.V k26 26 W b P (.slice A c.f3.length cc) c.f3) (hV' : Kd.V k26 26 W b' P (.slice A' kid.f3.length cc') kid.f3) (hi : Kd.C (Kd.int .i64) W B path.length path) (hb : path.length ≤ cb) :
  Calls Tryz.prog 19 #[.agg #[.int .u8 c.f0, .int .i64 c.f1.f0, .int .i64 c.f1.f1, .int .i64 c.f1.f2, .int .i64 c.f1.f3, .int .i64 c.f2, .slice A c.f3.length cc], .agg #[.int .u8 kid.f0, .int .i64 kid.f1.f0, .int .i64 kid.f1.f1, .int .i64 kid.f1.f2, .int .i64 kid.f1.f3, .int .i64 kid.f2, .slice A' kid.f3.length cc'], .slice B path.length cb] W fun e w' => ∃ A2 c2, e = .returned (.tuple #[.agg #[.int .u8 z.f0, .int .i64 z.f1.f0, .int .i64 z.f1.f1, .int .i64 z.f1.f2, .int .i64 z.f1.f3, .int .i64 z.f2, .slice A2 z.f3.length c2], .bool true]) ∧ Kd.N k26 26 w' W.heap.size (fun k => P k ∨ W.heap.size ≤ k) (.slice A2 z.f3.length c2) z.f3 ∧ Below W.heap.size W w' := by
 have h := afl path c kid P A cc A' cc' B cb W hc hk (d_ hV) (d_ hV') hi hb (by rw [hz]; simp)
 rw [hz] at h
 exact h
theorem XQ (id : Int) (c : ai) (r : Option (List Int)) (h : fB id c = r) (hc : sz c ≤ 1000000) (hV : Kd.V k26 26 W b P (.slice A c.f3.length cc) c.f3) :
  Calls Tryz.prog 28 #[.agg #[.int .u8 c.f0, .int .i64 c.f1.f0, .int .i64 c.f1.f1, .int .i64 c.f1.f2, .int .i64 c.f1.f3, .int .i64 c.f2, .slice A c.f3.length cc], .int .i64 id] W (VB W (r.getD []) r.isSome) := by
 have h2 := Kd.lF hV
 refine (ahP id 1000000 c hc (Nat.le_refl _) A cc W h2.2.2 h2.2.1).mono (fun e w' ⟨v, he, hR, hB⟩ => ?_)
 rw [h] at he hR
 obtain ⟨A2, c2, rfl⟩ := Kd.ig hR
 exact ⟨A2, c2, he, hR, hB⟩
theorem Gq (id : Int) (c : ai) (p : List Int) (h : fB id c = some p) (hc : sz c ≤ 1000000) (hV : Kd.V k26 26 W b P (.slice A c.f3.length cc) c.f3) :
  Calls Tryz.prog 28 #[.agg #[.int .u8 c.f0, .int .i64 c.f1.f0, .int .i64 c.f1.f1, .int .i64 c.f1.f2, .int .i64 c.f1.f3, .int .i64 c.f2, .slice A c.f3.length cc], .int .i64 id] W (VB W p true) := XQ id c (some p) h hc hV
theorem adC (id : Int) (c : ai) (h : fB id c = none) (hc : sz c ≤ 1000000) (hV : Kd.V k26 26 W b P (.slice A c.f3.length cc) c.f3) :
  Calls Tryz.prog 28 #[.agg #[.int .u8 c.f0, .int .i64 c.f1.f0, .int .i64 c.f1.f1, .int .i64 c.f1.f2, .int .i64 c.f1.f3, .int .i64 c.f2, .slice A c.f3.length cc], .int .i64 id] W (VB W [] false) := XQ id c none h hc hV
end
section
variable {Pr : Program} {ops : Array Oper} {rest : List Oper} {op : Oper} {a : Act} {Q : Exit → Act → World → Prop} {w W : World} {P : Nat → Prop} {bs : List (Option Nat × Obj)} {ow : List (Value × List ai)} {ts : List (Value × List ai)} {ro : List (Addr × Value)}
theorem PH (N : Option Tmp) {f : FuncId} {fn : Func} (hf : Pr.funcs[f]? = some fn) {ar : Array Operand} {Ht : Array TypeId} {args : Array Value} {l : List Int} {F : Option Addr → Nat → Value} (S : ae (St w P bs ow ts ro W))
  (hc : Calls Pr f args W fun e w' => ∃ A c, e = .returned (F A c) ∧ (Kd.int .i64).R 3 w' W.heap.size (fun _ => True) (.slice A l.length c) l ∧ Below W.heap.size W w')
  (h : ∀ A c o w1, ae (St w P (((Value.slice A l.length c).ownBlock, o) :: bs) ow ts ro w1) → ae (IR w.heap.size (.slice A l.length c) l o) → wpList Pr ops Q rest (a.put N (F A c)) w1) (hd : op.dst = N := by rfl) (hg : op.guard = none := by rfl) (hop : op.op = .call { callee := .value (.func f), args := ar, argTypes := Ht } := by rfl)
  (hname : (fn.name == "runtime.NumGoroutine") = false := by kernel_rfl) (hb : fn.body.isSome = true := by rfl) (hargs : ar.map a.eval = args := by ((try simp only [List.map_toArray, List.map_cons, List.map_nil]); first | done | rfl)) : wpList Pr ops Q (op :: rest) a W :=
 mf N hd hg hf hname hb args hop hargs (hc.mono fun e w1 ⟨A, c, he, h1, hb⟩ => by
  obtain ⟨o, S1, HI⟩ := S.out.NV h1 hb
  exact ⟨_, he, h A c o w1 ⟨S1⟩ ⟨HI⟩⟩)
end
section
variable {base : Nat} {W : World} {A : Option Addr} {c : Nat} {l : List Int} {o : Obj} {w : World} {P : Nat → Prop} {bs : List (Option Nat × Obj)} {ow : List (Value × List ai)} {ts : List (Value × List ai)} {ro : List (Addr × Value)}
theorem EE (HI : IR base (.slice A l.length c) l o) (S : St w P bs ow ts ro W) (hm : ((Value.slice A l.length c).ownBlock, o) ∈ bs) : Kd.C (Kd.int .i64) W A l.length l ∧ l.length ≤ c :=
 have h := Kd.eX (HI W (S.blk _ hm))
 ⟨h.2.2, h.2.1⟩
theorem xJ {q : List Int} {m : Nat} (HI : IR base (.slice A l.length c) l o) (S : St w P bs ow ts ro W) (hm : ((Value.slice A l.length c).ownBlock, o) ∈ bs) (hq : q = l.take m ∧ m ≤ l.length) : Kd.C (Kd.int .i64) W A q.length q ∧ q.length ≤ c := by
 obtain ⟨h1, h2⟩ := EE HI S hm
 rw [hq.1]
 exact ⟨Kd.agb h1 hq.2, by rw [List.length_take]; omega⟩
end
section
end
theorem ag9 : ∀ (p r : List Int) (c z : ai), jX c p = some z → jX c (p ++ r) = jX z r := by
 intro p
 induction p with
 | nil => intro r c z h; simp only [jX] at h; injection h with h; rw [h]; rfl
 | cons i is ih =>
  intro r c z h
  simp only [jX] at h
  split at h
  ·cases h
  ·rename_i hi
   rw [List.cons_append]
   simp only [jX]
   rw [if_neg hi]
   exact ih r _ z h
mutual
def inC (id ax : Int) (L : List ai) : ai → ai
 | ⟨a, r, d, l⟩ => if a = 1 then (if d = id then ⟨ax + 1, r, 0, L⟩ else ⟨a, r, d, l⟩) else ⟨a, r, d, inL id ax L (iF ax a) l⟩
def inL (id ax : Int) (L : List ai) (al : Bool) : List ai → List ai
 | [] => []
 | k :: ks => (if k.f0 = 1 ∧ k.f2 = id ∧ al = true then L else [inC id ax L k]) ++ inL id ax L al ks
end
def Iy (ax : Int) (leaf : ai) (L : List ai) : ai := ⟨ax + 1, leaf.f1, 0, L⟩
theorem jY {id : Int} {c : ai} (h : fB id c = none) : ¬ (c.f0 = 1 ∧ c.f2 = id) ∧ qJ id 0 c.f3 = none := by
 rw [vz] at h
 split at h
 ·cases h
 ·rename_i hh; exact ⟨hh, h⟩
theorem KE {id : Int} : ∀ {l : List ai} {i : Nat}, qJ id i l = none → ∀ k, k ∈ l → fB id k = none := by
 intro l
 induction l with
 | nil => intro i _ k h; cases h
 | cons x xs ih =>
  intro i h k hk
  rw [pM] at h
  cases hx : fB id x with
  | some p => rw [hx] at h; cases h
  | none =>
   rw [hx] at h
   rcases List.mem_cons.1 hk with rfl | hk
   ·exact hx
   ·exact ih h k hk
theorem KF {id : Int} : ∀ {l : List ai} {i : Nat} {p : List Int}, qJ id i l = some p → ∃ pre k post q, l = pre ++ k :: post ∧ (∀ x, x ∈ pre → fB id x = none) ∧ fB id k = some q ∧ p = ((i + pre.length : Nat) : Int) :: q := by
 intro l
 induction l with
 | nil => intro i p h; rw [rf] at h; cases h
 | cons x xs ih =>
  intro i p h
  rw [pM] at h
  cases hx : fB id x with
  | some q =>
   rw [hx] at h
   injection h with h
   exact ⟨[], x, xs, q, rfl, fun y hy => (by cases hy), hx, by rw [← h]; simp⟩
  | none =>
   rw [hx] at h
   obtain ⟨pre, k, post, q, e, h1, h2, h3⟩ := ih h
   refine ⟨x :: pre, k, post, q, by rw [e]; rfl, fun y hy => ?_, h2, by rw [h3, List.length_cons]; congr 1; omega⟩
   rcases List.mem_cons.1 hy with rfl | hy
   ·exact hx
   ·exact h1 y hy
theorem at_mem : ∀ (p : List Int) (c z : ai), jX c p = some z → z ∈ fU c := by
 intro p
 induction p with
 | nil => intro c z h; simp only [jX] at h; injection h with h; rw [← h, lZ]; simp
 | cons i is ih =>
  intro c z h
  simp only [jX] at h
  split at h
  ·cases h
  ·rename_i hi
   have hm := GU c.f3 i (by omega) (by omega)
   obtain ⟨a, b, e⟩ := List.append_of_mem hm
   have := ih _ z h
   rw [lZ, e, uf, iE]
   simp [this]
theorem MI : ∀ (a b : List ai), fA (a ++ b) = true → ∀ x y, x ∈ a → y ∈ b → x.f2 ≠ y.f2 := by
 intro a
 induction a with
 | nil => intro b _ x y h; cases h
 | cons z zs ih =>
  intro b h x y hx hy
  rw [List.cons_append] at h
  simp only [fA, Bool.and_eq_true] at h
  rcases List.mem_cons.1 hx with rfl | hx
  ·have h1 := List.all_eq_true.1 h.1 y (by simp [hy])
   simpa [eq_comm] using of_decide_eq_true h1
  ·exact ih b h.2 x y hx hy
theorem OH {id : Int} {c : ai} {p : List Int} (h : fB id c = some p) : ∃ z, z ∈ (fU c).filter (fun x => decide (x.f0 = 1)) ∧ z.f2 = id := by
 obtain ⟨z, h1, h2, h3⟩ := (Ef id _).1 c (Nat.le_refl _) p h
 exact ⟨z, List.mem_filter.2 ⟨at_mem p c z h1, decide_eq_true h2⟩, h3⟩
theorem aaC {id : Int} {pre post : List ai} {k : ai} {q : List Int} (hd : fA ((allL (pre ++ k :: post)).filter fun x => decide (x.f0 = 1)) = true) (hk : fB id k = some q) : ∀ x, x ∈ post → fB id x = none := by
 intro x hx
 cases hf : fB id x with
 | none => rfl
 | some r =>
  obtain ⟨z1, m1, e1⟩ := OH hk
  obtain ⟨z2, m2, e2⟩ := OH hf
  obtain ⟨a, b, e⟩ := List.append_of_mem hx
  rw [e, uf, iE, uf, iE, List.filter_append, List.filter_append] at hd
  have h1 := Pure.AX _ _ hd
  have h2 := MI _ _ h1 z1 z2 m1 (by rw [List.filter_append, List.filter_append]; simp [m2])
  rw [e1, e2] at h2
  exact absurd rfl h2
theorem abm {kid c z : ai} {i : Nat} {is : List Int} (hi : i < c.f3.length) (h : uJ kid is (kd c.f3 i) = some z) : uJ kid ((i : Int) :: is) c = some ⟨c.f0, c.f1, c.f2, c.f3.set i z⟩ := by
 simp only [uJ]
 rw [if_neg (by omega), xu, h, Int.toNat_natCast]
theorem PK (pre : List ai) (k : ai) (post : List ai) : kd (pre ++ k :: post) pre.length = k := by
 unfold kd
 simp [List.getD_eq_getElem?_getD]
theorem afu (pre : List ai) (k z : ai) (post : List ai) : (pre ++ k :: post).set pre.length z = pre ++ z :: post := by simp
theorem O9 (i : Int) (q : List Int) (h : q ≠ []) : (i :: q).take ((i :: q).length - 1) = i :: q.take (q.length - 1) := by
 cases q with
 | nil => exact absurd rfl h
 | cons x xs => simp
theorem U9 (i : Int) (q : List Int) (h : q ≠ []) : rd (i :: q) (((i :: q).length - 1 : Nat) : Int) = rd q ((q.length - 1 : Nat) : Int) := by
 cases q with
 | nil => exact absurd rfl h
 | cons x xs => unfold rd; simp
end Go.Proofs.YtfdmfgaiblfbhaaGreat.P
namespace Go.Proofs.YtfdmfgaiblfbhaaGreat.P
open Go.RowKit Go.Proofs.ag.aU Go.Proofs.ag.bK Go.Proofs.ag.cO
attribute [local go_sem] jG jR kQ lq jJ jK kT kU
def jr.j0 : Nat → Int → Int → Bool → Option (Int × Int × Bool)
 | 0, _, _, _ => none
 | k + 1, x0, x1, EC => if EC = true then (some (0, 0, false)) else (if x1 = 0 then (some (wrap64 ((wrap64 (x0 - 1)) - (wrap64 ((wrap64 ((wrap64 (Int.tdiv x0 2)) + (Int.tmod x0 2))) - 1))), wrap64 ((wrap64 ((wrap64 (Int.tdiv x0 2)) + (Int.tmod x0 2))) - 1), true)) else (some (wrap64 ((wrap64 (x0 - 1)) - (mx 1 (mn x1 (wrap64 (x0 - 2))))), mx 1 (mn x1 (wrap64 (x0 - 2))), true)))
def jr.f (k : Nat) (a0 : Int) (a1 : Int) : Option (Int × Int × Bool) := if a0 < 3 then (jr.j0 k a0 a1 true) else (jr.j0 k a0 a1 (decide (a1 < 0)))
theorem jr.calls (k : Nat) (a0 : Int) (a1 : Int) (r1 : Int) (r2 : Int) (r3 : Bool) (w : World) (h : jr.f k a0 a1 = some (r1, r2, r3)) :
  Calls Tryz.prog 51 #[.int .i64 a0, .int .i64 a1] w fun e w' => e = .returned (.tuple #[.int .i64 r1, .int .i64 r2, .bool r3]) ∧ Below w.heap.size w w' := by
 have HB := ae.mk (Below.refl w.heap.size w)
 have H : (if a0 < 3 then (jr.j0 k a0 a1 true) else (jr.j0 k a0 a1 (decide (a1 < 0)))) = some (r1, r2, r3) := h
 clear h
 have PU := ae.mk H
 clear H
 go_enter Tryz.func51, Tryz.ntmps51
 go_upto_region 1 with (fail)
 go_cut [13] (fun v13 wc => ∃ (kq : Nat) (Bi : Bool), v13 = .bool Bi ∧ ae (jr.j0 kq a0 a1 Bi = some (r1, r2, r3)) ∧ ae (kq ≤ k) ∧ ae (Below w.heap.size w wc))
 case first =>
  have H := PU.out
  clear PU
  by_cases c4 : a0 < 3
  ·rw [if_pos c4] at H
   have uH : decide (a0 < 3) = true := decide_eq_true c4
   clear c4
   (first | rw [uH] | (simp only [lD, lC]; rw [uH]) | skip)
   have H' := ae.mk H
   clear H
   go_wp2
   go_meet
   case rel => exact ⟨_, (true), (by first | rfl | (simp; done) | (simp [*]; done)), H', ⟨by first | omega | exact Nat.le_refl _⟩, ⟨by repeat (first | (with_reducible first | exact HB.out | apply aY | apply aT | apply bF) | exact HB.out)⟩⟩
  ·rw [if_neg c4] at H
   have uH : decide (a0 < 3) = false := decide_eq_false c4
   clear c4
   (first | rw [uH] | (simp only [lD, lC]; rw [uH]) | skip)
   have H' := ae.mk H
   clear H
   go_wp2
   go_meet
   case rel => exact ⟨_, (decide (a1 < 0)), (by first | rfl | (simp; done) | (simp [*]; done)), H', ⟨by first | omega | exact Nat.le_refl _⟩, ⟨by repeat (first | (with_reducible first | exact HB.out | apply aY | apply aT | apply bF) | exact HB.out)⟩⟩
 case rest =>
  clear PU
  try clear c1
  try clear p2
  try clear c4
  try clear uH
  obtain ⟨kq, Bi, rfl, HA, HJ2, HB⟩ := hcut
  cases kq with
  | zero => exact absurd HA.out (by simp [jr.j0])
  | succ kj2 =>
   have H := HA.out
   clear HA
   simp only [jr.j0] at H
   by_cases c5 : Bi = true
   ·subst c5
    have H1 : (some (0, 0, false)) = some (r1, r2, r3) := by rw [if_pos rfl] at H; exact H
    clear H
    have H := H1
    clear H1
    simp only [Option.some.injEq, Prod.mk.injEq] at H
    obtain ⟨rfl, rfl, rfl⟩ := H
    go_wp2
    go_ret3
    exact ⟨by first | rfl | (simp [lW, lX] <;> rfl) | (simp [*, lW, lX] <;> rfl), by repeat (first | (with_reducible first | exact HB.out | apply aY | apply aT | apply bF) | exact HB.out)⟩
   ·replace c5 := Bool.eq_false_iff.mpr c5
    subst c5
    have H1 : (if a1 = 0 then (some (wrap64 ((wrap64 (a0 - 1)) - (wrap64 ((wrap64 ((wrap64 (Int.tdiv a0 2)) + (Int.tmod a0 2))) - 1))), wrap64 ((wrap64 ((wrap64 (Int.tdiv a0 2)) + (Int.tmod a0 2))) - 1), true)) else (some (wrap64 ((wrap64 (a0 - 1)) - (mx 1 (mn a1 (wrap64 (a0 - 2))))), mx 1 (mn a1 (wrap64 (a0 - 2))), true))) = some (r1, r2, r3) := by rw [if_neg (show ¬ (false = true) by decide)] at H; exact H
    clear H
    have H := H1
    clear H1
    obtain ⟨UZ, R_⟩ : ∃ j_ : Int, (mn a1 (wrap64 (a0 - 2))) = j_ := ⟨_, rfl⟩
    replace H : (if a1 = 0 then (some (wrap64 ((wrap64 (a0 - 1)) - (wrap64 ((wrap64 ((wrap64 (Int.tdiv a0 2)) + (Int.tmod a0 2))) - 1))), wrap64 ((wrap64 ((wrap64 (Int.tdiv a0 2)) + (Int.tmod a0 2))) - 1), true)) else (some (wrap64 ((wrap64 (a0 - 1)) - (mx 1 (UZ))), mx 1 (UZ), true))) = some (r1, r2, r3) := by first | (rw [R_] at H; exact H) | (simp only [R_] at H ⊢; exact H)
    have aqZ : (if (wrap64 (a0 - 2)) < a1 then (wrap64 (a0 - 2)) else a1) = UZ := R_
    obtain ⟨ji7, Si⟩ : ∃ j_ : Int, (mx 1 (UZ)) = j_ := ⟨_, rfl⟩
    replace H : (if a1 = 0 then (some (wrap64 ((wrap64 (a0 - 1)) - (wrap64 ((wrap64 ((wrap64 (Int.tdiv a0 2)) + (Int.tmod a0 2))) - 1))), wrap64 ((wrap64 ((wrap64 (Int.tdiv a0 2)) + (Int.tmod a0 2))) - 1), true)) else (some (wrap64 ((wrap64 (a0 - 1)) - (ji7)), ji7, true))) = some (r1, r2, r3) := by first | (rw [Si] at H; exact H) | (simp only [Si] at H ⊢; exact H)
    have aq0 : (if 1 < (UZ) then (UZ) else 1) = ji7 := Si
    by_cases c8 : a1 = 0
    ·rw [if_pos c8] at H
     have DL : (a1 == 0) = true := beq_iff_eq.mpr c8
     have amQ : (a1 != 0) = false := bne_eq_false_iff_eq.mpr c8
     clear c8
     simp only [Option.some.injEq, Prod.mk.injEq] at H
     obtain ⟨rfl, rfl, rfl⟩ := H
     go_wp2
     go_ret3
     exact ⟨by first | rfl | (simp [lW, lX] <;> rfl) | (simp only [← R_, ← Si]; first | rfl | (simp [lW, lX] <;> rfl)) | (simp [*, lW, lX] <;> rfl), by repeat (first | (with_reducible first | exact HB.out | apply aY | apply aT | apply bF) | exact HB.out)⟩
    ·rw [if_neg c8] at H
     have DL : (a1 == 0) = false := beq_eq_false_iff_ne.mpr c8
     have amQ : (a1 != 0) = true := bne_iff_ne.mpr c8
     simp only [Option.some.injEq, Prod.mk.injEq] at H
     obtain ⟨rfl, rfl, rfl⟩ := H
     go_wp2
     go_ret3
     exact ⟨by first | rfl | (simp [lW, lX] <;> rfl) | (simp only [← R_, ← Si]; first | rfl | (simp [lW, lX] <;> rfl)) | (simp [*, lW, lX] <;> rfl), by repeat (first | (with_reducible first | exact HB.out | apply aY | apply aT | apply bF) | exact HB.out)⟩
mutual
def nz.j0 : Nat → Int → Int → Bool → Option (Int × Int × Bool)
 | 0, _, _, _ => none
 | k + 1, x0, x1, EC => if EC = true then (some (0, 0, false)) else (if x1 = 0 then (if (Int.tmod x0 2) = 1 then (nz.j1 k x0 (wrap64 (Int.tdiv x0 2))) else (nz.j1 k x0 (wrap64 ((wrap64 (Int.tdiv x0 2)) - 1)))) else (nz.j1 k x0 x1))
def nz.j1 : Nat → Int → Int → Option (Int × Int × Bool)
 | 0, _, _ => none
 | k + 1, x0, x7 => if x7 < 1 then (if 1 > (wrap64 (x0 - 2)) then (some (wrap64 ((wrap64 (x0 - 1)) - (wrap64 (x0 - 2))), wrap64 (x0 - 2), true)) else (some (wrap64 ((wrap64 (x0 - 1)) - 1), 1, true))) else (if x7 > (wrap64 (x0 - 2)) then (some (wrap64 ((wrap64 (x0 - 1)) - (wrap64 (x0 - 2))), wrap64 (x0 - 2), true)) else (some (wrap64 ((wrap64 (x0 - 1)) - x7), x7, true)))
end
def nz.f (k : Nat) (a0 : Int) (a1 : Int) : Option (Int × Int × Bool) := if a0 < 3 then (nz.j0 k a0 a1 true) else (nz.j0 k a0 a1 (decide (a1 < 0)))
end Go.Proofs.YtfdmfgaiblfbhaaGreat.P
namespace Go.Proofs.YtfdmfgaiblfbhaaGreat.P
open Go.RowKit Go.Proofs.ag.aU Go.Proofs.ag.bK Go.Proofs.ag.cO
open Go.ChangeShapes Go.WideShapes Go.ChangeAt Go.Joins Go.Deep
def I64 (n : Int) : Prop := -9223372036854775808 ≤ n ∧ n ≤ 9223372036854775807
def U8 (n : Int) : Prop := 0 ≤ n ∧ n ≤ 255
def ajz (r : dW) : Prop := I64 r.f0 ∧ I64 r.f1 ∧ I64 r.f2 ∧ I64 r.f3
def IE : Nat → ai → Prop
 | 0, _ => False
 | n + 1, c => U8 c.f0 ∧ ajz c.f1 ∧ I64 c.f2 ∧ c.f3.length ≤ 9223372036854775807 ∧ ∀ k, k ∈ c.f3 → IE n k
def ajA (c : ai) : Prop := ∃ n, IE n c
theorem TL : ∀ {n m : Nat} (_ : n ≤ m) {c : ai}, IE n c → IE m c
 | 0, _, _, _, h => h.elim
 | n + 1, 0, hm, _, _ => absurd hm (by omega)
 | n + 1, m + 1, hm, _, h => ⟨h.1, h.2.1, h.2.2.1, h.2.2.2.1, fun k hk => TL (by omega) (h.2.2.2.2 k hk)⟩
section
variable {H : Type} {enc : TypeId × Value → H} {P : Program} {w : World} {base : Nat} {spare : Nat → Bool} {held : Bool}
theorem row_of {α : Type} {Q : Nat → α → Prop} : ∀ (n : Nat), (∀ i, i < n → ∃ p, Q i p) → ∃ l : List α, l.length = n ∧ ∀ i p, l[i]? = some p → Q i p
 | 0, _ => ⟨[], rfl, fun i p h => by simp at h⟩
 | n + 1, h => by
  obtain ⟨l, hl, hq⟩ := row_of n fun i hi => h i (by omega)
  obtain ⟨p, hp⟩ := h n (by omega)
  refine ⟨l ++ [p], by simp [hl], fun i q hi => ?_⟩
  rcases Nat.lt_trichotomy i n with h1 | h1 | h1
  ·rw [List.getElem?_append_left (by omega)] at hi
   exact hq i q hi
  ·subst h1
   rw [List.getElem?_append_right (by omega), hl, Nat.sub_self] at hi
   obtain rfl : p = q := by simpa using hi
   exact hp
  ·rw [List.getElem?_eq_none (by simp; omega)] at hi
   cases hi
theorem cells_at {a : Addr} {n : Nat} {cs : List Value} (h : w.cells? base a n = some cs) : cs.length = n ∧ ∀ i u, cs[i]? = some u → w.cell? (a.add i) = some u := by
 obtain ⟨_, h1, h2⟩ := World.cells?_some h
 exact ⟨h1, fun i u hi => by
  have hlt : i < n := by rw [← h1]; exact (List.getElem?_eq_some_iff.1 hi).1
  rw [h2 i hlt, hi]⟩
end
section
variable {H : Type} {enc : TypeId × Value → H} {w : World} {base : Nat} {spare : Nat → Bool} {held : Bool}
theorem En {n : Int} (h : (Lit.int .i64 n).wf = true) : I64 n := by
 have := bounds_i64 h
 unfold I64
 omega
theorem alC {n : Int} (h : (Lit.int .u8 n).wf = true) : U8 n := bounds_u8 h
theorem ag5 {a : Array Value} {l : List Value} (h : (Value.agg a).cells.toList = l) : a = l.toArray := by
 subst h
 simp [Value.cells]
theorem cells23 : Tryz.prog.cellsOf 23 = 4 := by kernel_rfl
theorem cells26 : Tryz.prog.cellsOf 26 = 7 := by kernel_rfl
theorem cells3 : Tryz.prog.cellsOf 3 = 1 := by kernel_rfl
theorem cells5 : Tryz.prog.cellsOf 5 = 1 := by kernel_rfl
theorem cells24 : Tryz.prog.cellsOf 24 = 1 := by kernel_rfl
theorem ajd {fuel : Nat} {cs : List Value} {x : DataW H × List MemPlace} (h : DataW.trod enc Tryz.prog w base spare held fuel 23 cs = some x) : ∃ r : dW, k23.K w r cs ∧ ajz r := by
 obtain ⟨y0, y1, y2, y3, n, _, hl, h0, h1, h2, h3⟩ := trod_struct4 Tryz.underlying23 h
 rw [cells23] at hl
 match cs, hl with
 | [c0, c1, c2, c3], _ =>
  simp only [cells3, List.drop_zero, List.take_succ_cons, List.take_zero, List.drop_succ_cons] at h0 h1 h2 h3
  obtain ⟨n0, e0, _, w0⟩ := DataW.trod_int Tryz.underlying3 h0
  obtain ⟨n1, e1, _, w1⟩ := DataW.trod_int Tryz.underlying3 h1
  obtain ⟨n2, e2, _, w2⟩ := DataW.trod_int Tryz.underlying3 h2
  obtain ⟨n3, e3, _, w3⟩ := DataW.trod_int Tryz.underlying3 h3
  simp only [List.cons.injEq, and_true] at e0 e1 e2 e3
  subst e0 e1 e2 e3
  exact ⟨⟨n0, n1, n2, n3⟩, SA w ⟨n0, n1, n2, n3⟩, En w0, En w1, En w2, En w3⟩
end
end Go.Proofs.YtfdmfgaiblfbhaaGreat.P
namespace Go.Proofs.YtfdmfgaiblfbhaaGreat.P
open Go.RowKit Go.Proofs.ag.aU Go.Proofs.ag.bK Go.Proofs.ag.cO
def GM (s size : Int) : Int := if size = 0 then s / 2 + s % 2 - 1 else max 1 (min size (s - 2))
def Dp (s size : Int) : Int × Int × Bool := if s < 3 ∨ size < 0 then (0, 0, false) else (s - 1 - GM s size, GM s size, true)
theorem afi {s size : Int} (h3 : 3 ≤ s) (_ : 0 ≤ size) : 1 ≤ GM s size ∧ GM s size ≤ s - 2 := by
 unfold GM
 split <;> omega
theorem alA {s : Int} (h : 0 ≤ s) : Int.tdiv s 2 = s / 2 := Int.tdiv_eq_ediv_of_nonneg h
theorem alB {s : Int} (h : 0 ≤ s) : Int.tmod s 2 = s % 2 := Int.tmod_eq_emod_of_nonneg h
theorem alh (a b : Int) : mx a b = max a b := by unfold mx; split <;> omega
theorem alg (a b : Int) : mn a b = min a b := by unfold mn; split <;> omega
theorem WH (s size : Int) (hs : I64 s) (hz : I64 size) : Ev (fun k => jr.f k s size) (Dp s size) := by
 unfold I64 at hs hz
 have no : Ev (fun k => jr.j0 k s size true) (0, 0, false) := by
  refine Ev.step (f := fun _ => some (0, 0, false)) (fun k => ?_) (Ev.now _)
  simp only [jr.j0]
  rw [if_pos trivial]
 unfold Dp jr.f
 by_cases h3 : s < 3
 ·rw [if_pos (.inl h3)]
  exact KC h3 no
 ·refine ahM h3 ?_
  by_cases h0 : size < 0
  ·rw [if_pos (.inr h0), decide_eq_true h0]
   exact no
  ·rw [if_neg (fun h => h.elim h3 h0), decide_eq_false h0]
   have hb := afi (s := s) (size := size) (by omega) (by omega)
   refine Ev.step (f := fun _ => some (s - 1 - GM s size, GM s size, true)) (fun k => ?_) (Ev.now _)
   simp only [jr.j0]
   rw [if_neg (by simp)]
   unfold GM at hb ⊢
   by_cases hz0 : size = 0
   ·rw [if_pos hz0] at hb
    rw [if_pos hz0, if_pos hz0, alA (by omega), alB (by omega), wq (x := s / 2) (by omega) (by omega), wq (x := s / 2 + s % 2) (by omega) (by omega), wq (x := s / 2 + s % 2 - 1) (by omega) (by omega), wq (x := s - 1) (by omega) (by omega), wq (by omega) (by omega)]
   ·rw [if_neg hz0] at hb
    rw [if_neg hz0, if_neg hz0, alh, alg, wq (x := s - 2) (by omega) (by omega), wq (x := s - 1) (by omega) (by omega), wq (by omega) (by omega)]
def Ey (r : dW) (ax n id : Int) : ai := ⟨1, ⟨r.f0, r.f1, if ax = 1 then n else r.f2, if ax = 1 then r.f3 else n⟩, id, []⟩
def FH (ax size fresh : Int) (ahead : Bool) (leaf : ai) : List ai :=
 if ahead = true then [Ey leaf.f1 ax (Dp (aQ ax leaf.f1) size).2.1 fresh, Ey leaf.f1 ax (Dp (aQ ax leaf.f1) size).1 leaf.f2]
 else [Ey leaf.f1 ax (Dp (aQ ax leaf.f1) size).1 leaf.f2, Ey leaf.f1 ax (Dp (aQ ax leaf.f1) size).2.1 fresh]
theorem TA (r : dW) (ax n id : Int) : sz (Ey r ax n id) = 1 := by rw [bJ]; show 1 + dY [] = 1; rw [l9]
theorem ZA (ax size fresh : Int) (ahead : Bool) (leaf : ai) : dY (FH ax size fresh ahead leaf) = 2 := by
 unfold FH
 split <;> rw [bH, bH, l9, TA, TA]
def ajp (id ax size fresh : Int) (c : ai) : Int :=
 if dF c = false ∨ ¬ (ax = 1 ∨ ax = 2) ∨ size < 0 ∨ fresh < 0 ∨ fresh > 2147483647 ∨ (fB fresh c).isSome = true then 1 else match fB id c with
 | none => 6
 | some p => match jX c p with
  | none => 6
  | some leaf => if aQ ax leaf.f1 < 3 then 7 else 0
def ajq (id ax size fresh : Int) (ahead : Bool) (c : ai) : ai := if ajp id ax size fresh c = 0 then bU (inC id ax (FH ax size fresh ahead ((jX c ((fB id c).getD [])).getD z26)) c) c.f1.f0 c.f1.f1 else z26
structure Splits (id ax size fresh : Int) (c : ai) (p : List Int) (leaf : ai) : Prop where
 sN : dF c = true
 hax : ax = 1 ∨ ax = 2
 s0 : 0 ≤ size
 f0 : 0 ≤ fresh ∧ fresh ≤ 2147483647
 new : fB fresh c = none
 find : fB id c = some p
 at' : jX c p = some leaf
 big : 3 ≤ aQ ax leaf.f1
theorem Splits.z {id ax size fresh : Int} {ahead : Bool} {c : ai} {p : List Int} {leaf : ai} (h : Splits id ax size fresh c p leaf) (h0 : ajp id ax size fresh c = 0) : ajq id ax size fresh ahead c = bU (inC id ax (FH ax size fresh ahead leaf) c) c.f1.f0 c.f1.f1 := by
 unfold ajq
 rw [if_pos h0, h.find]
 simp only [Option.getD_some, h.at']
theorem Bh {c : ai} (h : dF c = true) : (fU c).all mg = true ∧ fA ((fU c).filter fun x => decide (x.f0 = 1)) = true := by
 have hm := kR h
 have h1 := oL hm
 unfold mZ at hm
 simp only [Bool.and_eq_true] at hm
 exact ⟨h1, hm.2.2⟩
theorem YP (rx ry rw rh id : Int) (w : World) : Calls Tryz.prog 72 #[.agg #[.int .i64 rx, .int .i64 ry, .int .i64 rw, .int .i64 rh], .int .i64 id] w fun e w' => e = .returned (.agg #[.int .u8 1, .int .i64 rx, .int .i64 ry, .int .i64 rw, .int .i64 rh, .int .i64 id, .slice none 0 0]) ∧ Below w.heap.size w w' := by
 have S := ae.mk (St.start (ts := []) (b0 := w.heap.size) (w := w) (P := fun _ => True) (fun t ht => by cases ht))
 go_enter Tryz.func72, Tryz.ntmps72
 go_wp2_with (first
  | (refine boxS 2 _ 23 S ?_; clear S; intro b2 eU S)
  | (refine boxS 4 _ 26 S ?_; clear S; intro b4 fM S; obtain ⟨bG, bP, bQ, bY⟩ := St.at4 S bf)
  | (refine gY 26 4 7 #[.int .u8 1, .int .i64 rx, .int .i64 ry, .int .i64 rw, .int .i64 rh, .int .i64 id, .slice none 0 0] 0 7 S ?_; clear S; intro iq S; clear bG bP bQ bY)
  | fail)
 refine bodyPost_ret (results_cell_row rfl _ _ b4 26 _ (0, 0) _ rfl (S.out.blk _ (.head _) _ rfl) Tryz.underlying26 rfl (by kernel_rfl)) rfl ?_
 exact ⟨rfl, S.out.below⟩
theorem FC (rx ry rw rh ax n id W1 H1 : Int) (hW : W1 = if ax = 1 then n else rw) (hH : H1 = if ax = 1 then rh else n) (w : World) : Calls Tryz.prog 52 #[.agg #[.int .i64 rx, .int .i64 ry, .int .i64 rw, .int .i64 rh], .int .u8 ax, .int .i64 n, .int .i64 id] w fun e w' => e = .returned (.agg #[.int .u8 1, .int .i64 rx, .int .i64 ry, .int .i64 W1, .int .i64 H1, .int .i64 id, .slice none 0 0]) ∧ Below w.heap.size w w' := by
 have S := ae.mk (St.start (ts := []) (b0 := w.heap.size) (w := w) (P := fun _ => True) (fun t ht => by cases ht))
 by_cases hx : ax = 1
 case pos =>
  rw [if_pos hx] at hW hH
  rw [hW, hH]
  obtain ⟨hxa, hxb, hxd⟩ := yB (a := ax) (b := 1) (by omega)
  clear hx hW hH
  go_enter Tryz.func52, Tryz.ntmps52
  go_wp2_with (first
   | (refine boxS 4 _ 23 S ?_; clear S; intro b4 eU S)
   | (refine boxS 8 _ 26 S ?_; clear S; intro b8 fM S)
   | (refine qw 3 12 11 #[.int .i64 rx, .int .i64 ry, .int .i64 n, .int .i64 rh] 2 1 S ?_; clear S; intro iq S; obtain ⟨Ie, Ig, Ih, Ii⟩ := St.at4 S bf)
   | (refine cZ (some 17) Tryz.func72 S (YP rx ry n rh id _) ?_; clear S; intro jD S; clear Ie Ig Ih Ii)
   | (refine gY 26 8 17 #[.int .u8 1, .int .i64 rx, .int .i64 ry, .int .i64 n, .int .i64 rh, .int .i64 id, .slice none 0 0] 0 7 S ?_; clear S; intro mQ S)
   | fail)
  refine bodyPost_ret (results_cell_row rfl _ _ b8 26 _ (0, 0) _ rfl (S.out.blk _ (.head _) _ rfl) Tryz.underlying26 rfl (by kernel_rfl)) rfl ?_
  exact ⟨rfl, S.out.below⟩
 case neg =>
  rw [if_neg hx] at hW hH
  rw [hW, hH]
  obtain ⟨hxa, hxb, hxd⟩ := eqF (a := ax) (b := 1) (by omega)
  clear hx hW hH
  go_enter Tryz.func52, Tryz.ntmps52
  go_wp2_with (first
   | (refine boxS 4 _ 23 S ?_; clear S; intro b4 eU S)
   | (refine boxS 8 _ 26 S ?_; clear S; intro b8 fM S)
   | (refine qw 3 14 13 #[.int .i64 rx, .int .i64 ry, .int .i64 rw, .int .i64 n] 3 1 S ?_; clear S; intro iq S; obtain ⟨Ie, Ig, Ih, Ii⟩ := St.at4 S bf)
   | (refine cZ (some 17) Tryz.func72 S (YP rx ry rw n id _) ?_; clear S; intro jD S; clear Ie Ig Ih Ii)
   | (refine gY 26 8 17 #[.int .u8 1, .int .i64 rx, .int .i64 ry, .int .i64 rw, .int .i64 n, .int .i64 id, .slice none 0 0] 0 7 S ?_; clear S; intro mQ S)
   | fail)
  refine bodyPost_ret (results_cell_row rfl _ _ b8 26 _ (0, 0) _ rfl (S.out.blk _ (.head _) _ rfl) Tryz.underlying26 rfl (by kernel_rfl)) rfl ?_
  exact ⟨rfl, S.out.below⟩
end Go.Proofs.YtfdmfgaiblfbhaaGreat.P
