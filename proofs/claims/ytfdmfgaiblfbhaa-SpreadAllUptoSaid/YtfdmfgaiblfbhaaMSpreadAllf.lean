/- SpreadAll: part 6 of 7 of this claim's texts, one behind the other, made small by a program: the words of the kit's printer cut down to those that are used, the claim's own names made short. -/
import Derived.Test.YtfdmfgaiblfbhaaMSpreadAllc
import Derived.Test.YtfdmfgaiblfbhaaMSpreadAlle
import Derived.WalkSpells
import Derived.Test.YtfdmfgaiblfbhaaMSpreadAlld
set_option maxHeartbeats 8000000
set_option maxRecDepth 100000
set_option linter.unusedVariables false
set_option linter.unusedSimpArgs false
namespace Go.Proofs.Ytfdmfgaiblfbhaa.P
open Go.RowKit Go.Proofs.ai.bg Go.Proofs.ai.di Go.Proofs.ai.dG
attribute [local go_sem] kD kF lN lQ jF jG kE kG
noncomputable def dV.j0 : Nat → Int → Bool → Int → Int → Int → Int → Int → Int → List (aI) → Option (Int)
 | 0, _, _, _, _, _, _, _, _, _ => none
 | k + 1, x1, ny, aiQ, XV, XW, XX, XY, aiR, aiS => if ny = true then (some 0) else ((sU.f XV XW XX XY x1).bind fun Md => ((fK.f k aiQ XV XW XX XY aiR aiS x1).bind fun JB => (some (wrap64 (Md - JB)))))
noncomputable def dV.f (k : Nat) (az : Int) (aC : Int) (aA : Int) (aG : Int) (aT : Int) (aU : Int) (aj : List (aI)) (a1 : Int) : Option (Int) := (nM.f a1).bind fun Qy => (if Qy = true then ((pq.f (([(⟨az, (⟨aC, aA, aG, aT⟩ : bC), aU, aj⟩ : aI)] : List (aI)))).bind fun AL => (dV.j0 k a1 (!AL) az aC aA aG aT aU aj)) else (dV.j0 k a1 true az aC aA aG aT aU aj))
def dV.T3 : Bool × List (List Nat × List Nat) := (true, [([], []), ([0], [0]), ([], []), ([1, 2], [1, 2]), ([], []), ([], []), ([4, 5, 3], [4, 5]), ([3, 6], [3, 6]), ([7, 6, 0, 1, 2, 3, 4, 5, 6, 7], [7])])
def dV.B3 : List Nat := [0, 1, 0, 7, 0, 0, 63, 127, 255]
theorem dV.JC : lC .any (opsOf Try.f86 3) = dV.T3 := by kernel_rfl
theorem dV.Eu : lu dV.T3.2 dV.B3 = true := by kernel_rfl
theorem dV.calls (k : Nat) (az : Int) (aC : Int) (aA : Int) (aG : Int) (aT : Int) (aU : Int) (jb : Nat → Prop) (bT : Option Addr) (bJ : Nat) (aj : List (aI)) (a1 : Int) (r : Int) (w : World) (Kr : Kd.V k26 26 w w.heap.size (fun k_ => jb k_) (.slice bT aj.length bJ) aj) (h : dV.f k az aC aA aG aT aU aj a1 = some r) :
  Calls Try.prog 86 #[.agg #[.int .u8 az, .int .i64 aC, .int .i64 aA, .int .i64 aG, .int .i64 aT, .int .i64 aU, .slice bT aj.length bJ], .int .u8 a1] w fun e w' => e = .returned (.int .i64 r) ∧ Below w.heap.size w w' := by
 have Ae := Try.underlying26
 have EX := Try.underlying23
 have l9 := ae.mk (show Kd.V k26 26 w w.heap.size (fun k_ => (jb k_ ∨ w.heap.size ≤ k_)) (.slice bT aj.length bJ) aj from Kd.iT Kr (fun k_ hk => .inl hk))
 have HB := ae.mk (Below.refl w.heap.size w)
 have H : ((nM.f a1).bind fun Qy => (if Qy = true then ((pq.f (([(⟨az, (⟨aC, aA, aG, aT⟩ : bC), aU, aj⟩ : aI)] : List (aI)))).bind fun AL => (dV.j0 k a1 (!AL) az aC aA aG aT aU aj)) else (dV.j0 k a1 true az aC aA aG aT aU aj))) = some r := h
 clear h
 have SK := ae.mk H
 clear H
 go_enter Try.func86, Try.ntmps86
 go_upto_region 1 with (((with_reducible refine aQ (N := 2) rfl ?_); (try (refine eQ (by rfl) ?_; dsimp only)); refine aX ?hg (N := 2) ?hd (cs := #[.int .u8 az, .int .i64 aC, .int .i64 aA, .int .i64 aG, .int .i64 aT, .int .i64 aU, .slice bT aj.length bJ]) (t := 26) ?hr ?_; (case hd => rfl); (case hg => rfl); (case hr => (go_simp; done)); intro pJ hg w4 hbox hb; have iH := ae.mk (hbox); replace l9 := ae.mk (Kd.pF (Kd.wO l9.out pJ (Nat.le_of_eq hg.symm)) hb); replace HB := ae.mk (aH (by repeat ((with_reducible exact HB.out))) hb); clear hb hbox hg))
 (skip)
 go_cut [13] (fun v13 wc => ∃ (kq : Nat) (jQ : Bool), v13 = .bool jQ ∧ ae (dV.j0 kq a1 jQ az aC aA aG aT aU aj = some r) ∧ ae (kq ≤ k) ∧ ae (Kd.V k26 26 wc w.heap.size (fun k_ => (jb k_ ∨ w.heap.size ≤ k_) ∧ k_ ≠ pJ) (.slice bT aj.length bJ) aj) ∧ ae (wc.heap[pJ]? = some (.cells #[.int .u8 az, .int .i64 aC, .int .i64 aA, .int .i64 aG, .int .i64 aT, .int .i64 aU, (.slice bT aj.length bJ)] 26 (0, 0))) ∧ ae (Below w.heap.size w wc))
 case first =>
  have H := SK.out
  clear SK
  replace H := Option.bind_eq_some_iff.mp H
  obtain ⟨Qy, ZV, H⟩ := H
  replace H : (if Qy = true then ((pq.f (([(⟨az, (⟨aC, aA, aG, aT⟩ : bC), aU, aj⟩ : aI)] : List (aI)))).bind fun AL => (dV.j0 k a1 (!AL) az aC aA aG aT aU aj)) else (dV.j0 k a1 true az aC aA aG aT aU aj)) = some r := H
  have A5 := ae.mk ZV
  clear ZV
  by_cases c6 : Qy = true
  ·subst c6
   have H1 : ((pq.f (([(⟨az, (⟨aC, aA, aG, aT⟩ : bC), aU, aj⟩ : aI)] : List (aI)))).bind fun AL => (dV.j0 k a1 (!AL) az aC aA aG aT aU aj)) = some r := by rw [if_pos rfl] at H; exact H
   clear H
   have H := H1
   clear H1
   obtain ⟨alQ, Zl⟩ : ∃ y_ : List (aI), y_ = (([(⟨az, (⟨aC, aA, aG, aT⟩ : bC), aU, aj⟩ : aI)] : List (aI))) := ⟨_, rfl⟩
   replace H : ((pq.f alQ).bind fun AL => (dV.j0 k a1 (!AL) az aC aA aG aT aU aj)) = some r := by (rw [Zl]; with_reducible exact H)
   have amT := ae.mk Zl
   clear Zl
   replace H := Option.bind_eq_some_iff.mp H
   obtain ⟨AL, QU, H⟩ := H
   replace H : (dV.j0 k a1 (!AL) az aC aA aG aT aU aj) = some r := H
   have A7 := ae.mk QU
   clear QU
   have H' := ae.mk H
   clear H
   go_wp2_with (first | ((with_reducible refine dn (f := 147) rfl ?_); refine gu (some 6) rfl rfl Try.func147 (by kernel_rfl) rfl #[.int .u8 a1] rfl (by (try simp only [List.map_toArray, List.map_cons, List.map_nil]); rfl) ?_; (with_reducible refine (nM.calls a1 true _ A5.out).mono ?_); rintro e w8 ⟨rfl, hb⟩; refine ⟨_, rfl, ?_⟩; replace l9 := ae.mk (Kd.pF l9.out hb); replace iH := ae.mk (aK iH.out hb); replace HB := ae.mk (aH (by repeat ((with_reducible exact HB.out))) hb); (try clear hb); have aaK : w8.cell? ⟨pJ, 0, none⟩ = some (.int .u8 az) := (af iH.out 0).trans rfl; have aaL : w8.cell? ⟨pJ, 1, none⟩ = some (.int .i64 aC) := (af iH.out 1).trans rfl; have aaM : w8.cell? ⟨pJ, 2, none⟩ = some (.int .i64 aA) := (af iH.out 2).trans rfl; have aaN : w8.cell? ⟨pJ, 3, none⟩ = some (.int .i64 aG) := (af iH.out 3).trans rfl; have aaO : w8.cell? ⟨pJ, 4, none⟩ = some (.int .i64 aT) := (af iH.out 4).trans rfl; have aaP : w8.cell? ⟨pJ, 5, none⟩ = some (.int .i64 aU) := (af iH.out 5).trans rfl; have aaQ : w8.cell? ⟨pJ, 6, none⟩ = some (.slice bT aj.length bJ) := (af iH.out 6).trans rfl; have aaV := ag iH.out 0; have aaW := ag iH.out 1; have aaX := ag iH.out 2; have aaY := ag iH.out 3; have aaZ := ag iH.out 4; have aa0 := ag iH.out 5; have aa1 := ag iH.out 6) | ((with_reducible refine aQ (N := 10) rfl ?_); (try (refine eQ (by rfl) ?_; dsimp only)); refine Kd.BZ k26 _ 26 ?hg (N' := 10) ?hd (xs := ([(⟨az, (⟨aC, aA, aG, aT⟩ : bC), aU, aj⟩ : aI)] : List (aI))) (inner := [.int .u8 az, .int .i64 aC, .int .i64 aA, .int .i64 aG, .int .i64 aT, .int .i64 aU, .slice bT aj.length bJ]) (ok := (fun k_ => (jb k_ ∨ w.heap.size ≤ k_) ∧ k_ ≠ pJ)) (iO := (fun k_ => (jb k_ ∨ w.heap.size ≤ k_) ∧ k_ ≠ pJ)) ?hr ?hp (fun _ hk => hk) ((show ∀ k_, w8.heap.size ≤ k_ → (fun k_ => (jb k_ ∨ w.heap.size ≤ k_) ∧ k_ ≠ pJ) k_ from fun k_ hk => ⟨(.inr (Nat.le_trans (aY (by repeat ((with_reducible exact HB.out)))) hk)), Kd.jM iH.out k_ hk⟩) _ (Nat.le_refl _)) (Below.refl _ _) (Nat.le_refl _) (by simp) ?_; (case hd => rfl); (case hg => rfl); (case hr => (go_simp; done)); (case hp => exact (dB.c7 (show Kd.FK k26 _ _ (⟨az, (⟨aC, aA, aG, aT⟩ : bC), aU, aj⟩ : aI) [.int .u8 az, .int .i64 aC, .int .i64 aA, .int .i64 aG, .int .i64 aT, .int .i64 aU, .slice bT aj.length bJ] from (vP _ _ (⟨az, (⟨aC, aA, aG, aT⟩ : bC), aU, aj⟩ : aI) (Kd.oH (Kd.iT (ok' := (fun k_ => (jb k_ ∨ w.heap.size ≤ k_) ∧ k_ ≠ pJ)) (l9.out) (fun k_ hk => ⟨hk.1, hk.2⟩))).2.1 (Kd.V_F (Kd.iT (ok' := (fun k_ => (jb k_ ∨ w.heap.size ≤ k_) ∧ k_ ≠ pJ)) (l9.out) (fun k_ hk => ⟨hk.1, hk.2⟩))))) (dB.none _ _))); intro aw5 w10 zC hb kW gK; clear kW gK; (rw [← amT.out] at zC); have MV := ae.mk (Kd.yG zC (aY (by repeat ((with_reducible exact HB.out))))); replace l9 := ae.mk (Kd.wM l9.out (Kd.xP zC) hb); replace iH := ae.mk (aK iH.out hb); replace HB := ae.mk (aH (by repeat ((with_reducible exact HB.out))) hb); clear hb zC; obtain ⟨abS, aco, TQ⟩ := Kd.nH MV.out; subst TQ) | (go_at_call 148; (with_reducible refine (pq.calls _ _ alQ AL _ ?fO ?gG A7.out).mono ?_); (case fO => repeat (exact (Kd.kY MV.out).2.2)); (case gG => exact (Kd.kY MV.out).2.1); rintro e qI ⟨rfl, hb⟩; replace l9 := ae.mk (Kd.pF l9.out hb); replace MV := ae.mk (Kd.vO MV.out hb); replace iH := ae.mk (aK iH.out hb); replace HB := ae.mk (aH (by repeat ((with_reducible exact HB.out))) hb); (try clear hb)))
   go_meet
   case rel => exact ⟨_, (!AL), (by rfl), H', ⟨by omega⟩, ⟨by exact Kd.iT l9.out (fun _ hk => ⟨hk.1.1, hk.1.2⟩)⟩, ⟨by exact iH.out⟩, ⟨by repeat ((with_reducible exact HB.out))⟩⟩
  ·replace c6 := Bool.eq_false_iff.mpr c6
   subst c6
   have H1 : (dV.j0 k a1 true az aC aA aG aT aU aj) = some r := by rw [if_neg (show ¬ (false = true) by decide)] at H; exact H
   clear H
   have H := H1
   clear H1
   have H' := ae.mk H
   clear H
   go_wp2_with (((with_reducible refine dn (f := 147) rfl ?_); refine gu (some 6) rfl rfl Try.func147 (by kernel_rfl) rfl #[.int .u8 a1] rfl (by (try simp only [List.map_toArray, List.map_cons, List.map_nil]); rfl) ?_; (with_reducible refine (nM.calls a1 false _ A5.out).mono ?_); rintro e w14 ⟨rfl, hb⟩; refine ⟨_, rfl, ?_⟩; replace l9 := ae.mk (Kd.pF l9.out hb); replace iH := ae.mk (aK iH.out hb); replace HB := ae.mk (aH (by repeat ((with_reducible exact HB.out))) hb); (try clear hb)))
   go_meet
   case rel => exact ⟨_, (true), (by rfl), H', ⟨by omega⟩, ⟨by exact l9.out⟩, ⟨by exact iH.out⟩, ⟨by repeat ((with_reducible exact HB.out))⟩⟩
 case rest =>
  clear SK
  obtain ⟨kq, jQ, rfl, HA, HJ2, su, iH, HB⟩ := hcut
  cases kq with
  | zero => exact absurd HA.out (by simp [dV.j0])
  | succ UO =>
   have H := HA.out
   clear HA
   simp only [dV.j0] at H
   by_cases c15 : jQ = true
   ·subst c15
    have H1 : (some 0) = some r := by rw [if_pos rfl] at H; exact H
    clear H
    have H := H1
    clear H1
    obtain rfl := Option.some.inj H
    go_wp2
    go_ret
    exact ⟨by rfl, by repeat ((with_reducible exact HB.out))⟩
   ·replace c15 := Bool.eq_false_iff.mpr c15
    subst c15
    have H1 : ((sU.f aC aA aG aT a1).bind fun Md => ((fK.f UO az aC aA aG aT aU aj a1).bind fun JB => (some (wrap64 (Md - JB))))) = some r := by rw [if_neg (show ¬ (false = true) by decide)] at H; exact H
    clear H
    have H := H1
    clear H1
    replace H := Option.bind_eq_some_iff.mp H
    obtain ⟨Md, SC, H⟩ := H
    replace H : ((fK.f UO az aC aA aG aT aU aj a1).bind fun JB => (some (wrap64 (Md - JB)))) = some r := H
    have QT := ae.mk SC
    clear SC
    replace H := Option.bind_eq_some_iff.mp H
    obtain ⟨JB, SE, H⟩ := H
    replace H : (some (wrap64 (Md - JB))) = some r := H
    have MN := ae.mk SE
    clear SE
    obtain rfl := Option.some.inj H
    try go_wp2
    replace su := ae.mk (Kd.Fz su.out); replace iH := ae.mk (tZ iH.out); replace HB := ae.mk (qP HB.out)
    refine m_ (n := 9) (S := fun w' => w'.cell? ⟨pJ, 0, none⟩ = some (.int .u8 az) ∧ w'.cell? ⟨pJ, 1, none⟩ = some (.int .i64 aC) ∧ w'.cell? ⟨pJ, 2, none⟩ = some (.int .i64 aA) ∧ w'.cell? ⟨pJ, 3, none⟩ = some (.int .i64 aG) ∧ w'.cell? ⟨pJ, 4, none⟩ = some (.int .i64 aT) ∧ w'.cell? ⟨pJ, 5, none⟩ = some (.int .i64 aU) ∧ w'.cell? ⟨pJ, 6, none⟩ = some (.slice bT aj.length bJ)) (ds := []) #[false, false, false, false, false, false, false, false, false] (by kernel_rfl) rfl rfl ⟨(af iH.out 0).trans rfl, (af iH.out 1).trans rfl, (af iH.out 2).trans rfl, (af iH.out 3).trans rfl, (af iH.out 4).trans rfl, (af iH.out 5).trans rfl, (af iH.out 6).trans rfl⟩ (fun hHeld => ?_); refine jr dV.JC dV.Eu (fun aW gX => ?_)
    generalize wc.drew = w18 at su iH HB hHeld ⊢
    refine eG (i := 0) (N := some 14) (v := ?_) (a' := ?_) #[true, false, false, false, false, false, false, false, false] rfl rfl (dO aW.out (by kernel_rfl)) (fun _ _ _ h => h) (Or.inl ⟨by rfl, ?_⟩) ?_ ?_
    rotate_left
    ·intro w'
     go_simp
     with_reducible rfl
    rotate_left
    ·simp only [Act.put, List.setIfInBounds_toArray, List.set_cons_zero, List.set_cons_succ, cO, b_]
     rfl
    refine eG (i := 2) (N := some 16) (v := ?_) (a' := ?_) #[true, false, true, false, false, false, false, false, false] rfl rfl (dO aW.out (by kernel_rfl)) (fun _ _ _ h => h) (Or.inl ⟨by rfl, ?_⟩) ?_ ?_
    rotate_left
    ·intro w'
     go_simp
     with_reducible rfl
    rotate_left
    ·simp only [Act.put, List.setIfInBounds_toArray, List.set_cons_zero, List.set_cons_succ, cO, b_]
     rfl
    refine eG (i := 5) (N := some 19) (v := ?_) (a' := ?_) #[true, false, true, false, false, true, false, false, false] rfl rfl (dO aW.out (by kernel_rfl)) (fun _ _ _ h => h) (Or.inl ⟨by rfl, ?_⟩) ?_ ?_
    rotate_left
    ·intro w'
     go_simp
     with_reducible rfl
    rotate_left
    ·simp only [Act.put, List.setIfInBounds_toArray, List.set_cons_zero, List.set_cons_succ, cO, b_]
     rfl
    refine mF (i := 1) (N := some 15) (v := ?_) (a' := ?_) #[true, true, true, false, false, true, false, false, false] rfl rfl (jd aW.out gX.out (by kernel_rfl)) (fun _ _ _ h => h) (Or.inl ⟨by rfl, ?_⟩) hHeld ?_ ?_
    rotate_left
    ·rintro w' ⟨s0, s1, s2, s3, s4, s5, s6⟩
     go_simp
     with_reducible rfl
    rotate_left
    ·simp only [Act.put, List.setIfInBounds_toArray, List.set_cons_zero, List.set_cons_succ, cO, b_]
     rfl
    refine mF (i := 4) (N := some 18) (v := ?_) (a' := ?_) #[true, true, true, false, true, true, false, false, false] rfl rfl (jd aW.out gX.out (by kernel_rfl)) (fun _ _ _ h => h) (Or.inl ⟨by rfl, ?_⟩) hHeld ?_ ?_
    rotate_left
    ·rintro w' ⟨s0, s1, s2, s3, s4, s5, s6⟩
     go_simp
     with_reducible rfl
    rotate_left
    ·simp only [Act.put, List.setIfInBounds_toArray, List.set_cons_zero, List.set_cons_succ, cO, b_]
     rfl
    refine jY (i := 3) (N := some 17) #[true, true, true, true, true, true, false, false, false] rfl rfl (eX aW.out (by kernel_rfl)) (by decide) (fun K hK => ?_)
    refine jc Try.func98 (by kernel_rfl) rfl #[.agg #[.int .i64 aC, .int .i64 aA, .int .i64 aG, .int .i64 aT], .int .u8 a1] (by rfl) rfl rfl (by (try simp only [List.map_toArray, List.map_cons, List.map_nil]); rfl) ?_
    with_reducible refine (sU.calls aC aA aG aT a1 Md _ QT.out).mono ?_
    rintro e GL ⟨rfl, hb⟩
    refine ⟨_, rfl, ?_⟩
    replace su := ae.mk (Kd.pF su.out hb); replace iH := ae.mk (aK iH.out hb); replace HB := ae.mk (aH (by repeat ((with_reducible exact HB.out))) hb)
    (try clear hb)
    (skip)
    (skip)
    (skip)
    refine hK.out _ _ ⟨(af iH.out 0).trans rfl, (af iH.out 1).trans rfl, (af iH.out 2).trans rfl, (af iH.out 3).trans rfl, (af iH.out 4).trans rfl, (af iH.out 5).trans rfl, (af iH.out 6).trans rfl⟩ (fun hHeld => ?_)
    clear hK K
    refine qi (a' := ?_) ?_ ?_
    rotate_left
    ·show Act.put _ (some 17) _ = _
     simp only [Act.put, List.setIfInBounds_toArray, List.set_cons_zero, List.set_cons_succ, cO, b_]
     rfl
    refine jY (i := 6) (N := some 20) #[true, true, true, true, true, true, true, false, false] rfl rfl (eX aW.out (by kernel_rfl)) (by decide) (fun K hK => ?_)
    refine jc Try.func149 (by kernel_rfl) rfl #[.agg #[.int .u8 az, .int .i64 aC, .int .i64 aA, .int .i64 aG, .int .i64 aT, .int .i64 aU, .slice bT aj.length bJ], .int .u8 a1] (by rfl) rfl rfl (by (try simp only [List.map_toArray, List.map_cons, List.map_nil]); rfl) ?_
    with_reducible refine (fK.calls UO az aC aA aG aT aU _ _ aj a1 JB _ ?fO ?gG MN.out).mono ?_
    (case fO => repeat (exact (Kd.oH su.out).2.2))
    (case gG => exact (Kd.oH su.out).2.1)
    rintro e JF ⟨rfl, hb⟩
    refine ⟨_, rfl, ?_⟩
    replace su := ae.mk (Kd.pF su.out hb); replace iH := ae.mk (aK iH.out hb); replace HB := ae.mk (aH (by repeat ((with_reducible exact HB.out))) hb)
    (try clear hb)
    (skip)
    (skip)
    (skip)
    refine hK.out _ _ ⟨(af iH.out 0).trans rfl, (af iH.out 1).trans rfl, (af iH.out 2).trans rfl, (af iH.out 3).trans rfl, (af iH.out 4).trans rfl, (af iH.out 5).trans rfl, (af iH.out 6).trans rfl⟩ (fun hHeld => ?_)
    clear hK K
    refine qi (a' := ?_) ?_ ?_
    rotate_left
    ·show Act.put _ (some 20) _ = _
     simp only [Act.put, List.setIfInBounds_toArray, List.set_cons_zero, List.set_cons_succ, cO, b_]
     rfl
    refine eG (i := 7) (N := some 21) (v := ?_) (a' := ?_) #[true, true, true, true, true, true, true, true, false] rfl rfl (dO aW.out (by kernel_rfl)) (fun _ _ _ h => h) (Or.inl ⟨by rfl, ?_⟩) ?_ ?_
    rotate_left
    ·intro w'
     go_simp
     with_reducible rfl
    rotate_left
    ·simp only [Act.put, List.setIfInBounds_toArray, List.set_cons_zero, List.set_cons_succ, cO, b_]
     rfl
    refine eG (i := 8) (N := some 4) (v := ?_) (a' := ?_) #[true, true, true, true, true, true, true, true, true] rfl rfl (dO aW.out (by kernel_rfl)) (fun _ _ _ h => h) (Or.inl ⟨by rfl, ?_⟩) ?_ ?_
    rotate_left
    ·intro w'
     go_simp
     with_reducible rfl
    rotate_left
    ·simp only [Act.put, List.setIfInBounds_toArray, List.set_cons_zero, List.set_cons_succ, cO, b_]
     rfl
    refine oV (lh aW.out (by kernel_rfl)) ?_
    try go_wp2
    go_ret
    exact ⟨by rfl, by repeat ((with_reducible exact HB.out))⟩
def alR.f (k : Nat) (az : Int) (aC : Int) (aA : Int) (aG : Int) (aT : Int) (aU : Int) (aj : List (aI)) (a1 : Int) : Option (Int) := (nM.f a1).bind fun apy => (if apy = true then ((uf.f (([(⟨az, (⟨aC, aA, aG, aT⟩ : bC), aU, aj⟩ : aI)] : List (aI)))).bind fun apz => (if apz = true then ((fK.f k az aC aA aG aT aU aj a1).bind fun apA => (some apA)) else (some 0))) else (some 0))
def aff.f (k : Nat) (az : Int) (aC : Int) (aA : Int) (aG : Int) (aT : Int) (aU : Int) (aj : List (aI)) (a1 : Int) : Option (Int) := if a1 < 1 then (some 0) else (if a1 > 2 then (some 0) else ((lJ.f k az aC aA aG aT aU aj).bind fun an0 => (if an0 = true then ((dE.f k az aC aA aG aT aU aj a1).bind fun an1 => (some an1)) else (some 0))))
def qW.f (az : Int) (aC : Int) (aA : Int) (aG : Int) (a1 : Int) : Option (Int) := if a1 = 1 then (some aA) else (if a1 = 2 then (some aG) else (some 0))
theorem qW.calls (az : Int) (aC : Int) (aA : Int) (aG : Int) (a1 : Int) (r : Int) (w : World) (h : qW.f az aC aA aG a1 = some r) :
  Calls Try.prog 87 #[.agg #[.int .i64 az, .int .i64 aC, .int .i64 aA, .int .i64 aG], .int .u8 a1] w fun e w' => e = .returned (.int .i64 r) ∧ Below w.heap.size w w' := by
 have EX := Try.underlying23
 have HB := ae.mk (Below.refl w.heap.size w)
 have H : (if a1 = 1 then (some aA) else (if a1 = 2 then (some aG) else (some 0))) = some r := h
 clear h
 by_cases c3 : a1 = 1
 ·rw [if_pos c3] at H
  have pY : (a1 == 1) = true := beq_iff_eq.mpr c3
  have uq : (a1 != 1) = false := bne_eq_false_iff_eq.mpr c3
  clear c3
  obtain rfl := Option.some.inj H
  go_enter Try.func87, Try.ntmps87
  go_wp2_with (((with_reducible refine aQ (N := 2) rfl ?_); refine aX ?hg (N := 2) ?hd (cs := #[.int .i64 az, .int .i64 aC, .int .i64 aA, .int .i64 aG]) (t := 23) ?hr ?_; (case hd => rfl); (case hg => rfl); (case hr => (go_simp; done)); intro AY hg w4 hbox hb; have rJ := ae.mk (hbox); replace HB := ae.mk (aH (by repeat ((with_reducible exact HB.out))) hb); clear hb hbox hg; have IM : w4.cell? ⟨AY, 0, none⟩ = some (.int .i64 az) := (af rJ.out 0).trans rfl; have IP : w4.cell? ⟨AY, 1, none⟩ = some (.int .i64 aC) := (af rJ.out 1).trans rfl; have IQ : w4.cell? ⟨AY, 2, none⟩ = some (.int .i64 aA) := (af rJ.out 2).trans rfl; have IU : w4.cell? ⟨AY, 3, none⟩ = some (.int .i64 aG) := (af rJ.out 3).trans rfl; have Ja := ag rJ.out 0; have Jb := ag rJ.out 1; have Jc := ag rJ.out 2; have Jd := ag rJ.out 3))
  go_ret
  exact ⟨by rfl, by repeat ((with_reducible exact HB.out))⟩
 ·rw [if_neg c3] at H
  have pY : (a1 == 1) = false := beq_eq_false_iff_ne.mpr c3
  have uq : (a1 != 1) = true := bne_iff_ne.mpr c3
  by_cases c6 : a1 = 2
  ·rw [if_pos c6] at H
   have wS : (a1 == 2) = true := beq_iff_eq.mpr c6
   have acj : (a1 != 2) = false := bne_eq_false_iff_eq.mpr c6
   clear c6
   obtain rfl := Option.some.inj H
   go_enter Try.func87, Try.ntmps87
   go_wp2_with (((with_reducible refine aQ (N := 2) rfl ?_); refine aX ?hg (N := 2) ?hd (cs := #[.int .i64 az, .int .i64 aC, .int .i64 aA, .int .i64 aG]) (t := 23) ?hr ?_; (case hd => rfl); (case hg => rfl); (case hr => (go_simp; done)); intro AY hg w7 hbox hb; have rJ := ae.mk (hbox); replace HB := ae.mk (aH (by repeat ((with_reducible exact HB.out))) hb); clear hb hbox hg; have NU : w7.cell? ⟨AY, 0, none⟩ = some (.int .i64 az) := (af rJ.out 0).trans rfl; have NV : w7.cell? ⟨AY, 1, none⟩ = some (.int .i64 aC) := (af rJ.out 1).trans rfl; have NW : w7.cell? ⟨AY, 2, none⟩ = some (.int .i64 aA) := (af rJ.out 2).trans rfl; have NY : w7.cell? ⟨AY, 3, none⟩ = some (.int .i64 aG) := (af rJ.out 3).trans rfl; have N9 := ag rJ.out 0; have N_ := ag rJ.out 1; have Oa := ag rJ.out 2; have Ob := ag rJ.out 3))
   go_ret
   exact ⟨by rfl, by repeat ((with_reducible exact HB.out))⟩
  ·rw [if_neg c6] at H
   have wS : (a1 == 2) = false := beq_eq_false_iff_ne.mpr c6
   have acj : (a1 != 2) = true := bne_iff_ne.mpr c6
   obtain rfl := Option.some.inj H
   go_enter Try.func87, Try.ntmps87
   go_wp2_with (((with_reducible refine aQ (N := 2) rfl ?_); refine aX ?hg (N := 2) ?hd (cs := #[.int .i64 az, .int .i64 aC, .int .i64 aA, .int .i64 aG]) (t := 23) ?hr ?_; (case hd => rfl); (case hg => rfl); (case hr => (go_simp; done)); intro AY hg w9 hbox hb; have rJ := ae.mk (hbox); replace HB := ae.mk (aH (by repeat ((with_reducible exact HB.out))) hb); clear hb hbox hg))
   go_ret
   exact ⟨by rfl, by repeat ((with_reducible exact HB.out))⟩
def qB.j0 : Nat → Int → Bool → Int → Int → Int → Int → Int → Int → List (aI) → Option (Int)
 | 0, _, _, _, _, _, _, _, _, _ => none
 | k + 1, x1, x15, aee, Vo, Vp, Vq, Vr, aef, aeg => if x15 = true then (some 0) else ((qW.f Vo Vp Vq Vr x1).bind fun an3 => ((dE.f k aee Vo Vp Vq Vr aef aeg x1).bind fun an4 => (some (wrap64 (an3 - an4)))))
def qB.f (k : Nat) (az : Int) (aC : Int) (aA : Int) (aG : Int) (aT : Int) (aU : Int) (aj : List (aI)) (a1 : Int) : Option (Int) := if a1 < 1 then (qB.j0 k a1 true az aC aA aG aT aU aj) else (if a1 > 2 then (qB.j0 k a1 true az aC aA aG aT aU aj) else ((tH.f k az aC aA aG aT aU aj).bind fun an2 => (qB.j0 k a1 (!an2) az aC aA aG aT aU aj)))
def qB.T3 : Bool × List (List Nat × List Nat) := (true, [([], []), ([0], [0]), ([], []), ([1, 2], [1, 2]), ([], []), ([], []), ([4, 5, 3], [4, 5]), ([3, 6], [3, 6]), ([7, 6, 0, 1, 2, 3, 4, 5, 6, 7], [7])])
def qB.B3 : List Nat := [0, 1, 0, 7, 0, 0, 63, 127, 255]
def anI.f (k : Nat) (az : Int) (aC : Int) (aA : Int) (aG : Int) (aT : Int) (aU : Int) (aj : List (aI)) (a1 : Int) (a2 : Int) : Option (Bool) := (uf.f (([(⟨az, (⟨aC, aA, aG, aT⟩ : bC), aU, aj⟩ : aI)] : List (aI)))).bind fun an8 => (if an8 = true then ((fK.f k az aC aA aG aT aU aj 1).bind fun an9 => (if a1 ≥ an9 then ((fK.f k az aC aA aG aT aU aj 2).bind fun an_ => (if a2 ≥ an_ then (if a1 ≤ (wrap64 (10000 - aC)) then (some (decide (a2 ≤ (wrap64 (10000 - aA))))) else (some false)) else (some false))) else (some false))) else (some false))
def aij.f (k : Nat) (az : Int) (aC : Int) (aA : Int) (aG : Int) (aT : Int) (aU : Int) (aj : List (aI)) (a1 : Int) (a2 : Int) : Option (Bool) := (lJ.f k az aC aA aG aT aU aj).bind fun an5 => (if an5 = true then ((dE.f k az aC aA aG aT aU aj 1).bind fun an6 => (if a1 ≥ an6 then (if a1 ≤ (wrap64 (10000 - aC)) then ((dE.f k az aC aA aG aT aU aj 2).bind fun an7 => (if a2 ≥ an7 then (some (decide (a2 ≤ (wrap64 (10000 - aA))))) else (some false))) else (some false)) else (some false))) else (some false))
end Go.Proofs.Ytfdmfgaiblfbhaa.P
namespace Go.Proofs.Ytfdmfgaiblfbhaa.P
open Go.RowKit Go.Proofs.ai.bg Go.Proofs.ai.di Go.Proofs.ai.dG
theorem Ev.unique {α : Type} {g : Nat → Option α} {a b : α} (h : Ev g a) (k : Ev g b) : a = b := by
 obtain ⟨n, hn⟩ := h
 obtain ⟨m, hm⟩ := k
 have e := (hn (max n m) (by omega)).symm.trans (hm (max n m) (by omega))
 exact Option.some.inj e
theorem Zz (r : bC) (ax : Int) : qW.f r.f0 r.f1 r.f2 r.f3 ax = some (dA ax r) := by
 unfold qW.f dA
 split
 ·rfl
 ·split <;> rfl
theorem KR (c : aI) (hz : sz c ≤ 1048576) : pq.f ([(⟨c.f0, (⟨c.f1.f0, c.f1.f1, c.f1.f2, c.f1.f3⟩ : bC), c.f2, c.f3⟩ : aI)] : List aI) = some (jy c) := by
 rw [NI]
 unfold pq.f
 rw [if_pos (by simp [hz])]
 simp
theorem Bo {c : aI} (h : o6 c = true) : (jh c).all uQ = true := by
 unfold o6 at h
 simp only [Bool.and_eq_true] at h
 exact h.2.1
theorem xk {c : aI} (h : jy c = true) : o6 c = true := by
 unfold jy at h
 simp only [Bool.and_eq_true] at h
 exact h.1
noncomputable def gy (ax : Int) (c : aI) : Int := if (ax = 1 ∨ ax = 2) ∧ jy c = true then wrap64 (dA ax c.f1 - gU ax c) else 0
def awx (ax : Int) (c : aI) : Int := if (ax = 1 ∨ ax = 2) ∧ o6 c = true then gU ax c else 0
def au_ (c : aI) (w h : Int) : Bool := o6 c && (decide (w ≥ gU 1 c) && (decide (h ≥ gU 2 c) && (decide (w ≤ wrap64 (10000 - c.f1.f0)) && decide (h ≤ wrap64 (10000 - c.f1.f1)))))
theorem acN (c : aI) (hz : sz c ≤ 1048576) (ax : Int) : Ev (fun k => dV.f k c.f0 c.f1.f0 c.f1.f1 c.f1.f2 c.f1.f3 c.f2 c.f3 ax) (gy ax c) := by
 have no : Ev (fun k => dV.j0 k ax true c.f0 c.f1.f0 c.f1.f1 c.f1.f2 c.f1.f3 c.f2 c.f3) 0 := by
  refine Ev.step (f := fun _ => some 0) (fun k => ?_) (Ev.now _)
  simp only [dV.j0]
  rw [if_pos trivial]
 unfold gy
 by_cases hax : ax = 1 ∨ ax = 2
 ·have ha : nM.f ax = some true := by
   unfold nM.f
   rcases hax with rfl | rfl <;> rfl
  cases ht : jy c with
  | false =>
   rw [if_neg (by simp)]
   refine Ev.congr (f := fun k => dV.j0 k ax true c.f0 c.f1.f0 c.f1.f1 c.f1.f2 c.f1.f3 c.f2 c.f3) (fun k => ?_) no
   unfold dV.f
   rw [ha]
   simp only [Option.bind_some, if_true]
   rw [KR c hz, ht]
   rfl
  | true =>
   rw [if_pos ⟨hax, rfl⟩]
   refine Ev.congr (f := fun k => dV.j0 k ax false c.f0 c.f1.f0 c.f1.f1 c.f1.f2 c.f1.f3 c.f2 c.f3) (fun k => ?_) (Ev.step (f := fun k => (fK.f k c.f0 c.f1.f0 c.f1.f1 c.f1.f2 c.f1.f3 c.f2 c.f3 ax).bind fun t => some (wrap64 (dA ax c.f1 - t))) (fun k => ?_) (Ev.bind (ac5 ax (sz c) c (Nat.le_refl _) hz) (Ev.now _)))
   ·unfold dV.f
    rw [ha]
    simp only [Option.bind_some, if_true]
    rw [KR c hz, ht]
    rfl
   ·simp only [dV.j0]
    rw [if_neg (by simp), Ri c.f1 ax]
    rfl
 ·rw [if_neg (fun h => hax h.1)]
  refine Ev.congr (f := fun k => dV.j0 k ax true c.f0 c.f1.f0 c.f1.f1 c.f1.f2 c.f1.f3 c.f2 c.f3) (fun k => ?_) no
  unfold dV.f nM.f
  rw [if_neg (fun h => hax (.inl h)), show (ax == 2) = false from by simp; exact fun h => hax (.inr h)]
  simp only [Option.bind_some, Bool.false_eq_true, if_false]
def auw : aI := ⟨2, ⟨0, 0, 7, 2⟩, 0, [⟨1, ⟨0, 0, 3, 2⟩, 1, []⟩, ⟨1, ⟨4, 0, 3, 2⟩, 2, []⟩]⟩
theorem vV {l : List aI} {k : aI} (h : k ∈ l) : sz k ≤ jw l := by
 obtain ⟨p, q, e⟩ := List.append_of_mem h
 rw [e, vT, gz]; omega
noncomputable def uS (b : Int) (gs : List Int) : List Int × Bool := by
 classical
 exact if h : ∃ r, Ev (fun k => bF.f k b gs) r then Classical.choose h else ([], false)
theorem DX (b : Int) (gs : List Int) (hl : gs.length ≤ 100000) (h0 : -2147483647 ≤ b) (h1 : b ≤ 2147483647) : GU b gs (uS b gs) ∧ Ev (fun k => bF.f k b gs) (uS b gs) := by
 obtain ⟨r, hs, he⟩ := Rh b gs hl h0 h1
 have hx : ∃ r, Ev (fun k => bF.f k b gs) r := ⟨r, he⟩
 have e : uS b gs = r := by
  unfold uS
  rw [dif_pos hx]
  exact Ev.unique (Classical.choose_spec hx) he
 rw [e]
 exact ⟨hs, he⟩
theorem XF {b : Int} {gs : List Int} (hl : gs.length ≤ 100000) (h0 : -2147483647 ≤ b) (h1 : b ≤ 2147483647) (h : (uS b gs).2 = true) : (uS b gs).1.length = gs.length := by
 rcases (DX b gs hl h0 h1).1 with ⟨e, _⟩ | ⟨e, _⟩ | ⟨qs, e, _, _, hq, _⟩
 ·rw [e] at h; cases h
 ·rw [e]; exact qo _ _
 ·rw [e, ← hq]; simp
theorem abH {b : Int} {gs : List Int} (hl : gs.length ≤ 100000) (h0 : -2147483647 ≤ b) (h1 : b ≤ 2147483647) : ∀ x, x ∈ (uS b gs).1 → -2147483647 ≤ x ∧ x ≤ 2147483647 := by
 intro x hx
 rcases (DX b gs hl h0 h1).1 with ⟨e, _⟩ | ⟨e, hne, _, hb⟩ | ⟨qs, e, _, _, hq, hg, _⟩
 ·rw [e] at hx; cases hx
 ·rw [e] at hx
  simp only [moreL, List.mem_map, List.mem_range] at hx
  obtain ⟨i, hi, rfl⟩ := hx
  have hn : (0 : Int) < (gs.length : Int) := by have := List.length_pos_iff.2 hne; omega
  unfold oz
  have hd : 0 ≤ b / (gs.length : Int) := Int.ediv_nonneg hb (by omega)
  have hm : 0 ≤ b % (gs.length : Int) := Int.emod_nonneg _ (by omega)
  have hdm := Int.mul_ediv_add_emod b (gs.length : Int)
  have hle : b / (gs.length : Int) ≤ (gs.length : Int) * (b / (gs.length : Int)) := by
   have := Int.mul_le_mul_of_nonneg_right (show (1 : Int) ≤ (gs.length : Int) by omega) hd
   omega
  split <;> omega
 ·rw [e] at hx
  simp only [List.mem_map] at hx
  obtain ⟨p, hp, rfl⟩ := hx
  have := hg p hp
  omega
def grow (ax bY : Int) (r : bC) : bC := ⟨r.f0, r.f1, if ax = 1 then wrap64 (r.f2 + bY) else r.f2, if ax = 1 then r.f3 else wrap64 (r.f3 + bY)⟩
noncomputable def Xv (ax k : Int) (l : List aI) (bY : Int) (i : Nat) : Int := if (uS bY (l.map (gy ax))).2 = true ∧ kQ ax k = true then rd (uS bY (l.map (gy ax))).1 (i : Int) else bY
mutual
noncomputable def eU (ax : Int) : aI → Int → aI
 | ⟨k, r, id, l⟩, b => ⟨k, grow ax b r, id, nC ax l (Xv ax k l b) 0⟩
noncomputable def nC (ax : Int) : List aI → (Nat → Int) → Nat → List aI
 | [], _, _ => []
 | k :: ks, ns, i => eU ax k (ns i) :: nC ax ks ns (i + 1)
end
theorem OM (ax : Int) (c : aI) (b : Int) : eU ax c b = ⟨c.f0, grow ax b c.f1, c.f2, nC ax c.f3 (Xv ax c.f0 c.f3 b) 0⟩ := by cases c; simp [eU]
theorem zX (ax : Int) (ns : Nat → Int) (i : Nat) : nC ax [] ns i = [] := by simp [nC]
theorem Ep (ax : Int) (k : aI) (ks : List aI) (ns : Nat → Int) (i : Nat) : nC ax (k :: ks) ns i = eU ax k (ns i) :: nC ax ks ns (i + 1) := by simp [nC]
theorem zW (ax : Int) : ∀ (l : List aI) (ns : Nat → Int) (i : Nat), (nC ax l ns i).length = l.length := by
 intro l
 induction l with
 | nil => intro ns i; rw [zX]
 | cons k ks ih => intro ns i; rw [Ep, List.length_cons, List.length_cons, ih]
theorem QW (ax : Int) (k : aI) : ∀ (l : List aI) (ns : Nat → Int) (i : Nat), nC ax (l ++ [k]) ns i = nC ax l ns i ++ [eU ax k (ns (i + l.length))] := by
 intro l
 induction l with
 | nil => intro ns i; simp [nC]
 | cons x xs ih => intro ns i; rw [List.cons_append, Ep, Ep, ih, List.cons_append, List.length_cons, show i + 1 + xs.length = i + (xs.length + 1) by omega]
theorem afO (ax : Int) (ns : Nat → Int) (pre : List aI) (k : aI) (rest : List aI) : (nC ax pre ns 0 ++ k :: rest).set pre.length (eU ax k (ns pre.length)) = nC ax (pre ++ [k]) ns 0 ++ rest := by
 rw [QW, List.append_assoc, List.set_append_right _ _ (by rw [zW]; exact Nat.le_refl _), zW, Nat.sub_self, List.set_cons_zero, Nat.zero_add]
 rfl
theorem ajG (ax : Int) (ns : Nat → Int) (pre : List aI) (k : aI) (rest : List aI) : au (nC ax pre ns 0 ++ k :: rest) (pre.length : Int) = k := by
 have := lS (nC ax pre ns 0) k rest
 rw [zW] at this
 exact this
theorem Tt (ax : Int) : ∀ (N : Nat), (∀ c : aI, sz c ≤ N → ∀ b, sz (eU ax c b) = sz c) ∧ (∀ l : List aI, jw l ≤ N → ∀ ns i, jw (nC ax l ns i) = jw l) := by
 intro N
 induction N with
 | zero => exact ⟨fun c h => by rw [gm] at h; omega, fun l h ns i => by cases l with
  | nil => rw [zX]
  | cons x xs => rw [gz] at h; have := gm x; omega⟩
 | succ N ih =>
  have hC : ∀ c : aI, sz c ≤ N + 1 → ∀ b, sz (eU ax c b) = sz c := fun c h b => by
   rw [OM, gm, gm c]
   show 1 + jw (nC ax c.f3 _ 0) = _
   rw [ih.2 c.f3 (by rw [gm] at h; omega)]
  refine ⟨hC, fun l => ?_⟩
  induction l with
  | nil => intro _ ns i; rw [zX]
  | cons x xs ihl =>
   intro h ns i
   rw [Ep, gz, gz]
   rw [gz] at h
   rw [hC x (by omega), ihl (by omega)]
def wQ.f (l0 : List (aI)) : Option (List aI) := if l0.length ≤ 1000000 then some l0 else none
theorem wQ.calls (P0_ : Nat → Prop) (A0 : Option Addr) (c0 : Nat) (l0 : List (aI)) (r : List aI) (w : World) (hs0 : Kd.V k26 26 w w.heap.size (fun k_ => P0_ k_) (.slice A0 l0.length c0) l0) (h : wQ.f l0 = some r) :
  Calls Try.prog 137 #[.slice A0 l0.length c0] w fun e w' => ∃ ng : Value, e = .returned (ng) ∧ Kd.N k26 26 w' w.heap.size (fun k_ => (P0_ k_ ∨ w.heap.size ≤ k_)) ng r ∧ Below w.heap.size w w' := by
 unfold wQ.f at h
 split at h
 ·rename_i hl
  injection h with h
  subst h
  have HR := ae.mk (Kd.V_F hs0)
  have HL := ae.mk hl
  clear hl
  cases A0 with
  | none =>
   have heq : ∀ W : World, (binOp .eql 24 (.slice none l0.length c0) (.slice none 0 0)).run Try.prog W = .ok (.bool true) W := fun W => Lib.run_eql_slice_nil W 24 26 none l0.length c0 0 0 Try.underlying24
   have e0 : l0 = [] := by
    cases l0 with
    | nil => rfl
    | cons x xs =>
     obtain ⟨ad, h1, _⟩ := (Kd.MP HR.out).2.2 (by simp)
     cases h1
   have E0 := ae.mk e0
   clear hs0 e0
   go_enter Try.func137, Try.ntmps137
   go_wp2
   go_ret
   exact ⟨_, rfl, by rw [E0.out]; exact Kd.wE _ _ _ _ _, Below.refl _ _⟩
  | some ad =>
   have heq : ∀ W : World, (binOp .eql 24 (.slice (some ad) l0.length c0) (.slice none 0 0)).run Try.prog W = .ok (.bool false) W := fun W => Lib.run_eql_slice_nil W 24 26 (some ad) l0.length c0 0 0 Try.underlying24
   clear hs0
   go_enter Try.func137, Try.ntmps137
   go_wp2_with (first | ((with_reducible refine aQ (N := 5) rfl ?_); refine Kd.BZ k26 w.heap.size 26 ?hg (N' := 5) ?hd (xs := ([] : List aI)) (inner := []) (ok := fun k_ => (P0_ k_ ∨ w.heap.size ≤ k_)) (iO := fun _ => False) ?hr ?hp (fun _ hk => hk.elim) (.inr (Nat.le_refl _)) (Below.refl _ _) (Nat.le_refl _) (by simp) ?_; (case hd => rfl); (case hg => rfl); (case hr => first | (go_simp; done) | (go_simp; rfl)); (case hp => exact dB.none _ _); intro v5 w5 ho hb kW gK; clear kW; have HO := ae.mk ho; have HB := ae.mk hb; have HF := ae.mk (Kd.zk (Kd.SI (v := v5) HR.out (fun k hk => by obtain ⟨b, h1, h2⟩ := gK; rw [h1] at hk; cases hk; exact h2) hb) (fun k hk => hk)); clear ho hb gK; obtain ⟨Ao, co, eo⟩ := Kd.nH HO.out; subst eo) | ((with_reducible refine ji (b := .append) (xs := #[.tmp 5, .tmp 6]) rfl ?_); at_builtin; refine Kd.Ie k26 (w0 := w) w.heap.size rfl (.tmp 5) (.tmp 6) 24 26 (.agg #[(.int .u8 0), (.int .i64 0), (.int .i64 0), (.int .i64 0), (.int .i64 0), (.int .i64 0), (.slice none 0 0)]) 72 rfl Try.underlying24 info26 rfl (by decide) (by omega) (.slice Ao ([] : List aI).length co) [] l0 _ _ _ (fun k_ => (P0_ k_ ∨ w.heap.size ≤ k_)) (fun k_ => P0_ k_ ∧ some k_ ≠ (Value.slice Ao ([] : List aI).length co).ownBlock) rfl rfl ?aO ?aR (fun _ h => ⟨.inl h.1, h.2⟩) (fun k hk => .inr (Nat.le_trans (aY HB.out) hk)) ?aB ?aS ?aL ?_; (case aO => exact HO.out); (case aR => exact HF.out); (case aB => exact HB.out); (case aS => exact aY HB.out); (case aL => (have := HL.out; simp only [List.length_nil]; omega)); intro v7 w7 h1 h2 h3_ h4_; clear h3_ h4_; have HO7 := ae.mk h1; have HB7 := ae.mk h2; clear h1 h2 HO HB HF))
   go_wp2
   go_ret
   exact ⟨_, rfl, HO7.out, HB7.out⟩
 ·exact absurd h (by simp)
def DV (a : Int) (k : aI) (x : Int) : Int := if a = 2 then wrap64 (x + wrap64 (k.f1.f2 + 1)) else x
def DW (a : Int) (k : aI) (y : Int) : Int := if a = 2 then y else if a = 3 then wrap64 (y + wrap64 (k.f1.f3 + 1)) else y
mutual
def bu : aI → Int → Int → aI
 | ⟨a, b, d, l⟩, x, y => ⟨a, ⟨x, y, b.f2, b.f3⟩, d, qf a l x y⟩
def qf : Int → List aI → Int → Int → List aI
 | _, [], _, _ => []
 | a, k :: ks, x, y => bu k x y :: qf a ks (DV a k x) (DW a k y)
end
theorem CQ (c : aI) (x y : Int) : bu c x y = ⟨c.f0, ⟨x, y, c.f1.f2, c.f1.f3⟩, c.f2, qf c.f0 c.f3 x y⟩ := by cases c; simp [bu]
theorem yA (a x y : Int) : qf a [] x y = [] := by simp [qf]
theorem BB (a : Int) (k : aI) (ks : List aI) (x y : Int) : qf a (k :: ks) x y = bu k x y :: qf a ks (DV a k x) (DW a k y) := by simp [qf]
def qL (a : Int) (l : List aI) (x : Int) : Int := l.foldl (fun x k => DV a k x) x
def qM (a : Int) (l : List aI) (y : Int) : Int := l.foldl (fun y k => DW a k y) y
theorem EL (a : Int) (k : aI) : ∀ (l : List aI) (x y : Int), qf a (l ++ [k]) x y = qf a l x y ++ [bu k (qL a l x) (qM a l y)] := by
 intro l
 induction l with
 | nil => intro x y; rw [List.nil_append, BB, yA, yA]; rfl
 | cons z zs ih => intro x y; rw [List.cons_append, BB, BB, ih]; rfl
theorem xE (a : Int) (k : aI) (l : List aI) (x : Int) : qL a (l ++ [k]) x = DV a k (qL a l x) := by simp [qL]
theorem xG (a : Int) (k : aI) (l : List aI) (y : Int) : qM a (l ++ [k]) y = DW a k (qM a l y) := by simp [qM]
theorem vG (a : Int) : ∀ (l : List aI) (x y : Int), (qf a l x y).length = l.length := by
 intro l
 induction l with
 | nil => intro x y; rw [yA]
 | cons z zs ih => intro x y; rw [BB]; simp [ih]
theorem ail (a : Int) (pre : List aI) (k : aI) (rest : List aI) (x y : Int) : (qf a pre x y ++ k :: rest).set pre.length (bu k (qL a pre x) (qM a pre y)) = qf a (pre ++ [k]) x y ++ rest := by
 rw [EL, ← vG a pre x y, List.set_append_right _ _ (Nat.le_refl _), Nat.sub_self, List.set_cons_zero]
 simp
theorem abG (a : Int) (pre : List aI) (k : aI) (rest : List aI) (x y : Int) : au (qf a pre x y ++ k :: rest) (pre.length : Int) = k := by
 rw [← vG a pre x y]
 simp [au, List.getD_eq_getElem?_getD]
def qJ.T6 : Bool × List (List Nat × List Nat) := (true, [([], []), ([0], [0]), ([], []), ([], []), ([], []), ([], []), ([3, 4, 5], [3, 4, 5]), ([1, 2, 0, 1, 2, 3, 4, 5, 6], [1, 2]), ([7, 6, 6, 0, 1, 2, 3, 4, 5, 6], [6, 7])])
def qJ.B6 : List Nat := [0, 1, 0, 0, 0, 0, 56, 127, 255]
theorem qJ.tab6 : lC .any (opsOf Try.f66 6) = qJ.T6 := by kernel_rfl
theorem qJ.JP : lu qJ.T6.2 qJ.B6 = true := by kernel_rfl
def awr (c : aI) (v : Value) : Array Value := #[.int .u8 c.f0, .int .i64 c.f1.f0, .int .i64 c.f1.f1, .int .i64 c.f1.f2, .int .i64 c.f1.f3, .int .i64 c.f2, v]
theorem anW : ∀ (N : Nat) (c : aI), sz c ≤ N → N ≤ 1000000 → ∀ (P : Nat → Prop) (A : Option Addr) (cc : Nat) (x y : Int) (w : World), Kd.V k26 26 w w.heap.size P (.slice A c.f3.length cc) c.f3 →
  Calls Try.prog 66 #[.agg #[.int .u8 c.f0, .int .i64 c.f1.f0, .int .i64 c.f1.f1, .int .i64 c.f1.f2, .int .i64 c.f1.f3, .int .i64 c.f2, .slice A c.f3.length cc], .int .i64 x, .int .i64 y] w
   fun e w' => ∃ v : Value, e = .returned (.agg #[.int .u8 c.f0, .int .i64 x, .int .i64 y, .int .i64 c.f1.f2, .int .i64 c.f1.f3, .int .i64 c.f2, v]) ∧ Kd.N k26 26 w' w.heap.size (fun k => P k ∨ w.heap.size ≤ k) v (qf c.f0 c.f3 x y) ∧ Below w.heap.size w w' := by
 intro N
 induction N with
 | zero => intro c h; rw [gm] at h; omega
 | succ N ih =>
  intro c hc hN P A cc x y w hs
  have hsz := gm c
  have hlen := nN c.f3
  have IH := ae.mk fun (k : aI) (hk : k ∈ c.f3) => ih k (by
   have : sz k ≤ jw c.f3 := by
    obtain ⟨p, q, e⟩ := List.append_of_mem hk
    rw [e, vT, gz]; omega
   omega) (by omega)
  have aja := ae.mk fun (W : World) (P' : Nat → Prop) (hV : Kd.V k26 26 W w.heap.size P' (.slice A c.f3.length cc) c.f3) => wQ.calls P' A cc c.f3 c.f3 W hV (if_pos (by omega))
  have HO := ae.mk hs
  have HL := ae.mk (show c.f3.length ≤ 1000000 by omega)
  have HB := ae.mk (Below.refl w.heap.size w)
  clear ih hs hc hN hsz hlen
  obtain ⟨ck, ⟨cx, cy, cw, ch⟩, aV, l⟩ := c
  simp only [] at HO HL IH aja ⊢
  go_enter Try.func66, Try.ntmps66
  go_upto_region 2 with (first | ((with_reducible refine aQ (N := 3) rfl ?_); refine aX ?hg (N := 3) ?hd (cs := #[.int .u8 ck, .int .i64 cx, .int .i64 cy, .int .i64 cw, .int .i64 ch, .int .i64 aV, .slice A l.length cc]) (t := 26) ?hr ?_; (case hd => rfl); (case hg => rfl); (case hr => (go_simp; done)); intro b3 hg wb3 hbox hb; have Gb3 := ae.mk (show w.heap.size ≤ b3 by rw [hg]; exact HB.out.size); have zH := ae.mk (aH HB.out hb); have DR := ae.mk (Kd.pF (Kd.wO HO.out b3 (by rw [hg]; exact Nat.le_refl _)) hb); clear HB HO; have HB := zH; have HO := DR; clear zH DR; have fM := ae.mk hbox; clear hb hbox hg) | ((with_reducible refine aQ (N := 6) rfl ?_); refine aX ?hg (N := 6) ?hd (cs := #[.int .u8 0, .int .i64 0, .int .i64 0, .int .i64 0, .int .i64 0, .int .i64 0, .slice none 0 0]) (t := 26) ?hr ?_; (case hd => rfl); (case hg => rfl); (case hr => (go_simp; done)); intro b6 hg wb6 hbox hb; have Gb6 := ae.mk (show w.heap.size ≤ b6 by rw [hg]; exact HB.out.size); have GN := ae.mk (show b3 ≠ b6 by rw [hg]; exact Nat.ne_of_lt (eP fM.out)); have zH := ae.mk (aH HB.out hb); have DR := ae.mk (Kd.pF (Kd.wO HO.out b6 (by rw [hg]; exact Nat.le_refl _)) hb); have sW := ae.mk (aK fM.out hb); clear HB HO fM; have HB := zH; have HO := DR; have fM := sW; clear zH DR sW; have pK := ae.mk hbox; clear hb hbox hg) | ((with_reducible refine sS (.store 3 (.tmp 12) (.tmp 9)) rfl ?_); go_loud (refine lY (w0 := w) rfl rfl 3 (.tmp 12) (.tmp 9) rfl (g := b3) (j := 1) (base := w.heap.size) #[.int .u8 ck, .int .i64 x, .int .i64 cy, .int .i64 cw, .int .i64 ch, .int .i64 aV, .slice A l.length cc] (u := .int .i64 x) (dL := [.int .i64 x]) ?sA ?sX rfl ?sT ?s1 fM.out ?sJ rfl HB.out HB.out.size Gb3.out ?_; (case sA => rfl); (case sX => rfl); (case sT => rfl); (case s1 => (simp [Value.oneCell'])); (case sJ => (simp)); intro ws1 hbk hbb hgg; have DR := ae.mk (Kd.zV HO.out hgg (fun k_ hk e_ => absurd (Option.some.inj e_) hk.1.2)); have qA := ae.mk (bZ pK.out hgg (fun e_ => absurd (Option.some.inj e_) (by exact (fun e2_ => GN.out e2_.symm)))); clear HO pK; have HO := DR; have pK := qA; clear DR qA; clear fM HB; have fM := ae.mk hbk; have HB := ae.mk hbb; clear hbk hbb hgg)) | ((with_reducible refine sS (.store 3 (.tmp 14) (.tmp 10)) rfl ?_); go_loud (refine lY (w0 := w) rfl rfl 3 (.tmp 14) (.tmp 10) rfl (g := b3) (j := 2) (base := w.heap.size) #[.int .u8 ck, .int .i64 x, .int .i64 y, .int .i64 cw, .int .i64 ch, .int .i64 aV, .slice A l.length cc] (u := .int .i64 y) (dL := [.int .i64 y]) ?sA ?sX rfl ?sT ?s1 fM.out ?sJ rfl HB.out HB.out.size Gb3.out ?_; (case sA => rfl); (case sX => rfl); (case sT => rfl); (case s1 => (simp [Value.oneCell'])); (case sJ => (simp)); intro ws2 hbk hbb hgg; have DR := ae.mk (Kd.zV HO.out hgg (fun k_ hk e_ => absurd (Option.some.inj e_) hk.1.2)); have qA := ae.mk (bZ pK.out hgg (fun e_ => absurd (Option.some.inj e_) (by exact (fun e2_ => GN.out e2_.symm)))); clear HO pK; have HO := DR; have pK := qA; clear DR qA; clear fM HB; have fM := ae.mk hbk; have HB := ae.mk hbb; clear hbk hbb hgg)))
  have Nv : _ = some (Value.slice A l.length cc) := (af fM.out 6).trans rfl
  go_upto_region 3 with (first | ((with_reducible refine dn (f := 137) rfl ?_); refine gu (some 17) rfl rfl Try.func137 (by kernel_rfl) rfl #[.slice A l.length cc] rfl (by (try simp only [List.map_toArray, List.map_cons, List.map_nil]); rfl) ?_; refine (aja.out _ _ HO.out).mono ?_; rintro e wc1 ⟨v1, rfl, ho, hb⟩; refine ⟨_, rfl, ?_⟩; have HN := ae.mk (ab6 ho (eP fM.out) (eP pK.out) HB.out.size); clear ho HO; obtain ⟨A1, c1, e1⟩ := Kd.nH HN.out; subst e1; have zH := ae.mk (aH HB.out hb); have sW := ae.mk (aK fM.out hb); have qA := ae.mk (aK pK.out hb); clear HB fM pK; have HB := zH; have fM := sW; have pK := qA; clear zH sW qA; clear hb) | ((with_reducible refine sS (.store 24 (.tmp 18) (.tmp 17)) rfl ?_); go_loud (refine lY (w0 := w) rfl rfl 24 (.tmp 18) (.tmp 17) rfl (g := b3) (j := 6) (base := w.heap.size) #[.int .u8 ck, .int .i64 x, .int .i64 y, .int .i64 cw, .int .i64 ch, .int .i64 aV, .slice A1 l.length c1] (u := .slice A1 l.length c1) (dL := [.slice A1 l.length c1]) ?sA ?sX rfl ?sT ?s1 fM.out ?sJ rfl HB.out HB.out.size Gb3.out ?_; (case sA => rfl); (case sX => rfl); (case sT => rfl); (case s1 => (simp [Value.oneCell'])); (case sJ => (simp)); intro ws3 hbk hbb hgg; have qA := ae.mk (bZ pK.out hgg (fun e_ => absurd (Option.some.inj e_) (by exact (fun e2_ => GN.out e2_.symm)))); have zI := ae.mk (Kd.Fq HN.out hgg (fun k_ hk e_ => absurd (Option.some.inj e_) hk.1.2)); clear pK HN; have pK := qA; have HN := zI; clear qA zI; clear fM HB; have fM := ae.mk hbk; have HB := ae.mk hbb; clear hbk hbb hgg)))
  clear Nv
  have Nv : _ = some (Value.slice A1 l.length c1) := (af fM.out 6).trans rfl
  go_wp2
  clear Nv
  go_loopg [1, 2, 22] l.length (fun gg v1 v2 v22 wr => ∃ (pre rest : List aI), v1 = .int .i64 (qL ck pre x) ∧ v2 = .int .i64 (qM ck pre y) ∧ v22 = .int .i64 (pre.length : Int) ∧ ae (pre ++ rest = l) ∧ rest.length ≤ gg ∧ ae (Kd.N k26 26 wr w.heap.size (fun q => ((P q ∨ w.heap.size ≤ q) ∧ q ≠ b3) ∧ q ≠ b6) (.slice A1 l.length c1) (qf ck pre x y ++ rest)) ∧ ae (wr.heap[b3]? = some (.cells #[.int .u8 ck, .int .i64 x, .int .i64 y, .int .i64 cw, .int .i64 ch, .int .i64 aV, .slice A1 l.length c1] 26 (0, 0))) ∧ ae (wr.heap[b6]? = some (.cells #[.int .u8 0, .int .i64 0, .int .i64 0, .int .i64 0, .int .i64 0, .int .i64 0, .slice none 0 0] 26 (0, 0))) ∧ ae (Below w.heap.size w wr))
  case atStart => exact ⟨[], l, rfl, rfl, rfl, ⟨rfl⟩, Nat.le_refl _, ⟨by rw [yA]; exact HN.out⟩, fM, pK, HB⟩
  case round =>
   clear HN fM pK HB
   obtain ⟨pre, rest, rfl, rfl, rfl, HE, hgg, HN, fM, pK, HB⟩ := hrel
   cases rest with
   | nil =>
    have hpl : pre = l := by have := HE.out; rwa [List.append_nil] at this
    have hlt : ¬ ((pre.length : Int) < (l.length : Int)) := by rw [hpl]; omega
    have HP := ae.mk hpl
    clear hpl hgg
    have TC := (af fM.out 0).trans rfl
    have c31 := (af fM.out 1).trans rfl
    have c32 := (af fM.out 2).trans rfl
    have c33 := (af fM.out 3).trans rfl
    have c34 := (af fM.out 4).trans rfl
    have c35 := (af fM.out 5).trans rfl
    have Nv := (af fM.out 6).trans rfl
    go_wp2_with (((with_reducible refine sS (.store 26 (.tmp 6) (.tmp 54)) rfl ?_); go_loud (refine lY (w0 := w) rfl rfl 26 (.tmp 6) (.tmp 54) rfl (g := b6) (j := 0) (base := w.heap.size) #[.int .u8 ck, .int .i64 x, .int .i64 y, .int .i64 cw, .int .i64 ch, .int .i64 aV, .slice A1 l.length c1] (u := .agg #[.int .u8 ck, .int .i64 x, .int .i64 y, .int .i64 cw, .int .i64 ch, .int .i64 aV, .slice A1 l.length c1]) (dL := [.int .u8 ck, .int .i64 x, .int .i64 y, .int .i64 cw, .int .i64 ch, .int .i64 aV, .slice A1 l.length c1]) ?sA ?sX rfl ?sT ?s1 pK.out ?sJ rfl HB.out HB.out.size Gb6.out ?_; (case sA => rfl); (case sX => rfl); (case sT => rfl); (case s1 => (simp [Value.oneCell'])); (case sJ => (simp)); intro axf hbk hbb hgg; have zI := ae.mk (Kd.Fq HN.out hgg (fun k_ hk e_ => absurd (Option.some.inj e_) hk.2)); have sW := ae.mk (bZ fM.out hgg (fun e_ => absurd (Option.some.inj e_) GN.out)); clear HN fM; have HN := zI; have fM := sW; clear zI sW; clear pK HB; have pK := ae.mk hbk; have HB := ae.mk hbb; clear hbk hbb hgg)))
    refine bodyPost_ret (results_cell_row rfl _ _ b6 26 #[.int .u8 ck, .int .i64 x, .int .i64 y, .int .i64 cw, .int .i64 ch, .int .i64 aV, .slice A1 l.length c1] (0, 0) _ rfl pK.out Try.underlying26 rfl (by kernel_rfl)) rfl ?_
    refine ⟨_, rfl, ?_, HB.out⟩
    rw [← HP.out]
    have hf := HN.out
    rw [List.append_nil] at hf
    rw [HP.out] at hf ⊢
    exact Kd.kV hf (fun q hq => hq.1.1)
   | cons k rest =>
    have hk : k ∈ l := by rw [← HE.out]; simp
    have hlt : (pre.length : Int) < (l.length : Int) := by rw [← HE.out, List.length_append, List.length_cons]; omega
    have hw : wrap64 ((pre.length : Int) + 1) = ((pre ++ [k]).length : Int) := by rw [List.length_append, List.length_singleton]; unfold wrap64; have := HL.out; omega
    obtain ⟨g, cap, he, hgb, apb, _⟩ := Kd.Io HN.out (by rw [List.length_append, List.length_cons]; omega)
    injection he with ea en ec
    subst ea
    subst ec
    clear en
    have HGB := ae.mk hgb
    obtain ⟨ce, hcl, hM, hcc, hfr⟩ := Kd.Fp HN.out z26 (pre.length : Int) (Int.natCast_nonneg _) hlt
    have hrd : (qf ck pre x y ++ k :: rest).getD (pre.length : Int).toNat z26 = k := abG ck pre k rest x y
    rw [hrd] at hM
    obtain ⟨ua, uc, rfl, ul, ge⟩ := qQ hM
    have HV := ae.mk (show Kd.V k26 26 wr w.heap.size _ (.slice ua k.f3.length uc) k.f3 from Kd.C9 ul ge)
    have x0 : wr.cell? ⟨g, pre.length * 7, none⟩ = some (.int .u8 k.f0) := hcc 0 _ rfl
    have x1 : wr.cell? ⟨g, pre.length * 7 + 1, none⟩ = some (.int .i64 k.f1.f0) := hcc 1 _ rfl
    have x2 : wr.cell? ⟨g, pre.length * 7 + 2, none⟩ = some (.int .i64 k.f1.f1) := hcc 2 _ rfl
    have x3 : wr.cell? ⟨g, pre.length * 7 + 3, none⟩ = some (.int .i64 k.f1.f2) := hcc 3 _ rfl
    have x4 : wr.cell? ⟨g, pre.length * 7 + 4, none⟩ = some (.int .i64 k.f1.f3) := hcc 4 _ rfl
    have x5 : wr.cell? ⟨g, pre.length * 7 + 5, none⟩ = some (.int .i64 k.f2) := hcc 5 _ rfl
    have x6 : wr.cell? ⟨g, pre.length * 7 + 6, none⟩ = some (.slice ua k.f3.length uc) := hcc 6 _ rfl
    have HW1 := ae.mk hw
    have HK := ae.mk hk
    have qO := ae.mk hgg
    clear hcl hM hcc hfr hrd ul ge hgb apb hw hk hgg
    go_upto_region 6 with (first | ((with_reducible refine aQ (N := 8) rfl ?_); refine aX ?hg (N := 8) ?hd (cs := #[.int .u8 0, .int .i64 0, .int .i64 0, .int .i64 0, .int .i64 0, .int .i64 0, .slice none 0 0]) (t := 26) ?hr ?_; (case hd => rfl); (case hg => rfl); (case hr => (go_simp; done)); intro b8 hg wb8 hbox hb; have Gb8 := ae.mk (show w.heap.size ≤ b8 by rw [hg]; exact HB.out.size); have ab4 := ae.mk (show b3 ≠ b8 by rw [hg]; exact Nat.ne_of_lt (eP fM.out)); have ab5 := ae.mk (show b6 ≠ b8 by rw [hg]; exact Nat.ne_of_lt (eP pK.out)); have zH := ae.mk (aH HB.out hb); have zI := ae.mk (Kd.vO (Kd.Lh HN.out b8 (by rw [hg]; exact Nat.le_refl _)) hb); have Jr := ae.mk (Kd.pF (Kd.wO HV.out b8 (by rw [hg]; exact Nat.le_refl _)) hb); have sW := ae.mk (aK fM.out hb); have qA := ae.mk (aK pK.out hb); clear HB HN HV fM pK; have HB := zH; have HN := zI; have HV := Jr; have fM := sW; have pK := qA; clear zH zI Jr sW qA; have Kb8 := ae.mk hbox; clear hb hbox hg) | ((with_reducible refine sS (.store 26 (.tmp 8) (.tmp 26)) rfl ?_); go_loud (refine lY (w0 := w) rfl rfl 26 (.tmp 8) (.tmp 26) rfl (g := b8) (j := 0) (base := w.heap.size) #[.int .u8 k.f0, .int .i64 k.f1.f0, .int .i64 k.f1.f1, .int .i64 k.f1.f2, .int .i64 k.f1.f3, .int .i64 k.f2, .slice ua k.f3.length uc] (u := .agg #[.int .u8 k.f0, .int .i64 k.f1.f0, .int .i64 k.f1.f1, .int .i64 k.f1.f2, .int .i64 k.f1.f3, .int .i64 k.f2, .slice ua k.f3.length uc]) (dL := [.int .u8 k.f0, .int .i64 k.f1.f0, .int .i64 k.f1.f1, .int .i64 k.f1.f2, .int .i64 k.f1.f3, .int .i64 k.f2, .slice ua k.f3.length uc]) ?sA ?sX rfl ?sT ?s1 Kb8.out ?sJ rfl HB.out HB.out.size Gb8.out ?_; (case sA => rfl); (case sX => rfl); (case sT => rfl); (case s1 => (simp [Value.oneCell'])); (case sJ => (simp)); intro apK hbk hbb hgg; have zI := ae.mk (Kd.Fq HN.out hgg (fun k_ hk e_ => absurd (Option.some.inj e_) hk.2)); have Jr := ae.mk (Kd.zV HV.out hgg (fun k_ hk e_ => absurd (Option.some.inj e_) hk.2)); have sW := ae.mk (bZ fM.out hgg (fun e_ => absurd (Option.some.inj e_) ab4.out)); have qA := ae.mk (bZ pK.out hgg (fun e_ => absurd (Option.some.inj e_) ab5.out)); clear HN HV fM pK; have HN := zI; have HV := Jr; have fM := sW; have pK := qA; clear zI Jr sW qA; clear Kb8 HB; have Kb8 := ae.mk hbk; have HB := ae.mk hbb; clear hbk hbb hgg)))
    clear x0 x1 x2 x3 x4 x5 x6
    have q_ := ae.mk (qP HB.out)
    clear HB
    have HB := q_
    clear q_
    have q_ := ae.mk (Kd.ajv HN.out)
    clear HN
    have HN := q_
    clear q_
    have q_ := ae.mk (Kd.Fz HV.out)
    clear HV
    have HV := q_
    clear q_
    have q_ := ae.mk (tZ fM.out)
    clear fM
    have fM := q_
    clear q_
    have q_ := ae.mk (tZ pK.out)
    clear pK
    have pK := q_
    clear q_
    have q_ := ae.mk (tZ Kb8.out)
    clear Kb8
    have Kb8 := q_
    clear q_
    refine m_ (n := 9) (S := fun w' => w'.heap[b3]? = some (.cells #[.int .u8 ck, .int .i64 x, .int .i64 y, .int .i64 cw, .int .i64 ch, .int .i64 aV, .slice (some ⟨g, 0, none⟩) l.length c1] 26 (0, 0)) ∧ w'.heap[b8]? = some (.cells #[.int .u8 k.f0, .int .i64 k.f1.f0, .int .i64 k.f1.f1, .int .i64 k.f1.f2, .int .i64 k.f1.f3, .int .i64 k.f2, .slice ua k.f3.length uc] 26 (0, 0))) (ds := [8]) #[false, false, false, false, false, false, false, false, false] (by kernel_rfl) rfl rfl ⟨fM.out, Kb8.out⟩ (fun hHeld => ?_); refine jr qJ.tab6 qJ.JP (fun aW gX => ?_)
    generalize apK.drew = wd at HB HN HV fM pK Kb8 hHeld ⊢
    refine eG (i := 0) (N := some 27) (v := ?_) (a' := ?_) #[true, false, false, false, false, false, false, false, false] rfl rfl (dO aW.out (by kernel_rfl)) (fun _ _ _ h => h) (Or.inl ⟨by rfl, ?_⟩) ?_ ?_
    rotate_left
    ·intro w'; go_simp; with_reducible rfl
    rotate_left
    ·simp only [Act.put, List.setIfInBounds_toArray, List.set_cons_zero, List.set_cons_succ, cO, b_]
     rfl
    refine eG (i := 2) (N := some 29) (v := ?_) (a' := ?_) #[true, false, true, false, false, false, false, false, false] rfl rfl (dO aW.out (by kernel_rfl)) (fun _ _ _ h => h) (Or.inl ⟨by rfl, ?_⟩) ?_ ?_
    rotate_left
    ·intro w'; go_simp; with_reducible rfl
    rotate_left
    ·simp only [Act.put, List.setIfInBounds_toArray, List.set_cons_zero, List.set_cons_succ, cO, b_]
     rfl
    refine eG (i := 4) (N := some 31) (v := ?_) (a' := ?_) #[true, false, true, false, true, false, false, false, false] rfl rfl (dO aW.out (by kernel_rfl)) (fun _ _ _ h => h) (Or.inl ⟨by rfl, ?_⟩) ?_ ?_
    rotate_left
    ·intro w'; go_simp; with_reducible rfl
    rotate_left
    ·simp only [Act.put, List.setIfInBounds_toArray, List.set_cons_zero, List.set_cons_succ, cO, b_]
     rfl
    refine eG (i := 5) (N := some 32) (v := ?_) (a' := ?_) #[true, false, true, false, true, true, false, false, false] rfl rfl (dO aW.out (by kernel_rfl)) (fun _ _ _ h => h) (Or.inl ⟨by rfl, ?_⟩) ?_ ?_
    rotate_left
    ·intro w'; go_simp; with_reducible rfl
    rotate_left
    ·simp only [Act.put, List.setIfInBounds_toArray, List.set_cons_zero, List.set_cons_succ, cO, b_]
     rfl
    refine mF (i := 1) (N := some 28) (v := ?_) (a' := ?_) #[true, true, true, false, true, true, false, false, false] rfl rfl (jd aW.out gX.out (by kernel_rfl)) (fun _ _ _ h => h) (Or.inl ⟨by rfl, ?_⟩) hHeld ?_ ?_
    rotate_left
    ·intro w' hs_
     have c := (af hs_.1 6).trans rfl
     go_simp; with_reducible rfl
    rotate_left
    ·simp only [Act.put, List.setIfInBounds_toArray, List.set_cons_zero, List.set_cons_succ, cO, b_]
     rfl
    refine mF (i := 3) (N := some 30) (v := ?_) (a' := ?_) #[true, true, true, true, true, true, false, false, false] rfl rfl (jd aW.out gX.out (by kernel_rfl)) (fun _ _ _ h => h) (Or.inl ⟨by rfl, ?_⟩) hHeld ?_ ?_
    rotate_left
    ·intro w' hs_
     have c0 := (af hs_.2 0).trans rfl
     have c1 := (af hs_.2 1).trans rfl
     have c2 := (af hs_.2 2).trans rfl
     have c3 := (af hs_.2 3).trans rfl
     have c4 := (af hs_.2 4).trans rfl
     have c5 := (af hs_.2 5).trans rfl
     have c6 := (af hs_.2 6).trans rfl
     go_simp; with_reducible rfl
    rotate_left
    ·simp only [Act.put, List.setIfInBounds_toArray, List.set_cons_zero, List.set_cons_succ, cO, b_]
     rfl
    refine jY (i := 6) (N := some 33) #[true, true, true, true, true, true, true, false, false] rfl rfl (eX aW.out (by kernel_rfl)) (by decide) (fun K hK => ?_)
    refine jc Try.func66 (by kernel_rfl) rfl #[.agg #[.int .u8 k.f0, .int .i64 k.f1.f0, .int .i64 k.f1.f1, .int .i64 k.f1.f2, .int .i64 k.f1.f3, .int .i64 k.f2, .slice ua k.f3.length uc], .int .i64 (qL ck pre x), .int .i64 (qM ck pre y)] (by rfl) rfl rfl (by (try simp only [List.map_toArray, List.map_cons, List.map_nil]); rfl) ?_
    refine (IH.out k HK.out _ ua uc (qL ck pre x) (qM ck pre y) wd HV.out).mono ?_
    rintro e wk ⟨v, rfl, ho, hb⟩
    refine ⟨_, rfl, ?_⟩
    have HE3 := ae.mk (eP fM.out)
    have HE6 := ae.mk (eP pK.out)
    have HE8 := ae.mk (eP Kb8.out)
    have HEG := ae.mk (Kd.GR HN.out g rfl)
    have HS := ae.mk HB.out.size
    have zH := ae.mk (aH HB.out hb); have zI := ae.mk (Kd.vO HN.out hb); have Jr := ae.mk (Kd.pF HV.out hb); have sW := ae.mk (aK fM.out hb); have qA := ae.mk (aK pK.out hb); have afc := ae.mk (aK Kb8.out hb); clear HB HN HV fM pK Kb8; have HB := zH; have HN := zI; have HV := Jr; have fM := sW; have pK := qA; have Kb8 := afc; clear zH zI Jr sW qA afc
    clear HV hb
    obtain ⟨Av, cv, ev⟩ := Kd.nH ho
    subst ev
    have VL := ae.mk ho
    clear ho
    refine hK.out _ _ ⟨fM.out, Kb8.out⟩ (fun hHeld => ?_)
    clear hK K
    refine qi (a' := ?_) ?_ ?_
    rotate_left
    ·show Act.put _ (some 33) _ = _
     simp only [Act.put, List.setIfInBounds_toArray, List.set_cons_zero, List.set_cons_succ, cO, b_]
     rfl
    refine eG (i := 7) (N := some 34) (v := ?_) (a' := ?_) #[true, true, true, true, true, true, true, true, false] rfl rfl (dO aW.out (by kernel_rfl)) (fun _ _ _ h => h) (Or.inl ⟨by rfl, ?_⟩) ?_ ?_
    rotate_left
    ·intro w'; go_simp; with_reducible rfl
    rotate_left
    ·simp only [Act.put, List.setIfInBounds_toArray, List.set_cons_zero, List.set_cons_succ, cO, b_]
     rfl
    obtain ⟨ce, hcl, hM, hcc, hfr⟩ := Kd.Fp HN.out z26 (pre.length : Int) (Int.natCast_nonneg _) hlt
    have hrd : (qf ck pre x y ++ k :: rest).getD (pre.length : Int).toNat z26 = k := abG ck pre k rest x y
    rw [hrd] at hM
    obtain ⟨ub, ud, rfl, _, _⟩ := qQ hM
    have x0 : wk.cell? ⟨g, pre.length * 7, none⟩ = some (.int .u8 k.f0) := hcc 0 _ rfl
    have f0 : wk.frozen? ⟨g, pre.length * 7, none⟩ = false := hfr 0
    have x1 : wk.cell? ⟨g, pre.length * 7 + 1, none⟩ = some (.int .i64 k.f1.f0) := hcc 1 _ rfl
    have f1 : wk.frozen? ⟨g, pre.length * 7 + 1, none⟩ = false := hfr 1
    have x2 : wk.cell? ⟨g, pre.length * 7 + 2, none⟩ = some (.int .i64 k.f1.f1) := hcc 2 _ rfl
    have f2 : wk.frozen? ⟨g, pre.length * 7 + 2, none⟩ = false := hfr 2
    have x3 : wk.cell? ⟨g, pre.length * 7 + 3, none⟩ = some (.int .i64 k.f1.f2) := hcc 3 _ rfl
    have f3 : wk.frozen? ⟨g, pre.length * 7 + 3, none⟩ = false := hfr 3
    have x4 : wk.cell? ⟨g, pre.length * 7 + 4, none⟩ = some (.int .i64 k.f1.f3) := hcc 4 _ rfl
    have f4 : wk.frozen? ⟨g, pre.length * 7 + 4, none⟩ = false := hfr 4
    have x5 : wk.cell? ⟨g, pre.length * 7 + 5, none⟩ = some (.int .i64 k.f2) := hcc 5 _ rfl
    have f5 : wk.frozen? ⟨g, pre.length * 7 + 5, none⟩ = false := hfr 5
    have x6 : wk.cell? ⟨g, pre.length * 7 + 6, none⟩ = some (.slice ub k.f3.length ud) := hcc 6 _ rfl
    have f6 : wk.frozen? ⟨g, pre.length * 7 + 6, none⟩ = false := hfr 6
    have ou : ∀ q, (((fun q => ((P q ∨ w.heap.size ≤ q) ∧ q ≠ b3) ∧ q ≠ b6) q ∧ q ≠ g) ∧ q ≠ b8) ∨ wd.heap.size ≤ q → ((fun q => ((P q ∨ w.heap.size ≤ q) ∧ q ≠ b3) ∧ q ≠ b6) q ∧ q ≠ b8) ∧ q ≠ g := fun q hq => hq.elim (fun h => ⟨⟨h.1.1, h.2⟩, h.1.2⟩) (fun hn => ⟨⟨⟨⟨.inr (Nat.le_trans HS.out hn), Nat.ne_of_gt (Nat.lt_of_lt_of_le HE3.out hn)⟩, Nat.ne_of_gt (Nat.lt_of_lt_of_le HE6.out hn)⟩, Nat.ne_of_gt (Nat.lt_of_lt_of_le HE8.out hn)⟩, Nat.ne_of_gt (Nat.lt_of_lt_of_le HEG.out hn)⟩)
    have hMk := vP wk _ (bu k (qL ck pre x) (qM ck pre y)) (A6 := Av) (c6 := cv) (by rw [CQ]; exact (Kd.kY VL.out).2.1) (by rw [CQ]; exact Kd.N_F VL.out)
    have hseg := Kd.aeC HN.out (pre.length : Int) (Int.natCast_nonneg _) hlt (dL := [.int .u8 k.f0, .int .i64 (qL ck pre x), .int .i64 (qM ck pre y), .int .i64 k.f1.f2, .int .i64 k.f1.f3, .int .i64 k.f2, .slice Av (qf k.f0 k.f3 (qL ck pre x) (qM ck pre y)).length cv]) (j := 0) hcl hcc (show 0 + 7 ≤ 7 from by decide) (x' := bu k (qL ck pre x) (qM ck pre y)) (by rw [CQ] at hMk ⊢; exact hMk) ou
    rw [show (qf ck pre x y ++ k :: rest).set (pre.length : Int).toNat (bu k (qL ck pre x) (qM ck pre y)) = qf ck (pre ++ [k]) x y ++ rest from ail ck pre k rest x y] at hseg
    obtain ⟨w9, UI⟩ : ∃ w9, w9 = wk.setCells g ((pre.length : Int).toNat * 7 + 0) [.int .u8 k.f0, .int .i64 (qL ck pre x), .int .i64 (qM ck pre y), .int .i64 k.f1.f2, .int .i64 k.f1.f3, .int .i64 k.f2, .slice Av (qf k.f0 k.f3 (qL ck pre x) (qM ck pre y)).length cv] := ⟨_, rfl⟩
    replace hseg : Kd.N k26 26 w9 w.heap.size (fun q => (fun q => ((P q ∨ w.heap.size ≤ q) ∧ q ≠ b3) ∧ q ≠ b6) q ∧ q ≠ b8) (.slice (some ⟨g, 0, none⟩) l.length c1) (qf ck (pre ++ [k]) x y ++ rest) ∧ wk.grownBy w9 (some g) := by rw [UI]; exact hseg
    have HN9 := ae.mk (Kd.ajw hseg.1)
    have Z5 := ae.mk (grown_below HB.out hseg.2 HGB.out HB.out.size)
    have ER := ae.mk (bZ fM.out hseg.2 (fun e_ => (HN.out.1 g rfl).1.1.2 (Option.some.inj e_).symm))
    have ab3 := ae.mk (bZ pK.out hseg.2 (fun e_ => (HN.out.1 g rfl).1.2 (Option.some.inj e_).symm))
    have Lc := ae.mk (bZ Kb8.out hseg.2 (fun e_ => (HN.out.1 g rfl).2 (Option.some.inj e_).symm))
    clear hseg hMk ou hcl hcc hfr hM hrd HN HB fM pK Kb8 hHeld VL
    refine zD (i := 8) (N := none) #[true, true, true, true, true, true, true, true, true] rfl rfl (eX aW.out (by kernel_rfl)) (by decide) (fun K hK => ?_)
    refine Sr (w1 := w9) (by rfl) rfl ?_ ?_
    ·rw [UI]; go_simp; rfl
    refine hK.out _ _ ?_
    clear hK K x0 x1 x2 x3 x4 x5 x6 f0 f1 f2 f3 f4 f5 f6 UI
    refine oV (lh aW.out (by kernel_rfl)) ?_
    have d0 := (af ER.out 0).trans rfl
    have e0 := (af Lc.out 0).trans rfl
    have d1 := (af ER.out 1).trans rfl
    have e1 := (af Lc.out 1).trans rfl
    have d2 := (af ER.out 2).trans rfl
    have e2 := (af Lc.out 2).trans rfl
    have d3 := (af ER.out 3).trans rfl
    have e3 := (af Lc.out 3).trans rfl
    have d4 := (af ER.out 4).trans rfl
    have e4 := (af Lc.out 4).trans rfl
    have d5 := (af ER.out 5).trans rfl
    have e5 := (af Lc.out 5).trans rfl
    have d6 := (af ER.out 6).trans rfl
    have e6 := (af Lc.out 6).trans rfl
    by_cases k2 : ck = 2
    ·have apg : (ck == 2) = true := beq_iff_eq.mpr k2
     have K2 := ae.mk k2
     clear k2
     have hw := HW1.out
     go_wp2
     clear d0 d1 d2 d3 d4 d5 d6 e0 e1 e2 e3 e4 e5 e6
     go_roundg rest.length
     case measure => exact Nat.lt_of_lt_of_le (Nat.lt_succ_self _) qO.out
     case rel => exact ⟨pre ++ [k], rest, (by rw [xE]; unfold DV; rw [if_pos K2.out]), (by rw [xG]; unfold DW; rw [if_pos K2.out]), (by rw [hw]), ⟨by rw [List.append_assoc]; exact HE.out⟩, Nat.le_refl _, HN9, ER, ab3, Z5⟩
    ·have apg : (ck == 2) = false := beq_eq_false_iff_ne.mpr k2
     have K2 := ae.mk k2
     clear k2
     by_cases k3 : ck = 3
     ·have aph : (ck == 3) = true := beq_iff_eq.mpr k3
      have K3 := ae.mk k3
      clear k3
      have hw := HW1.out
      go_wp2
      clear d0 d1 d2 d3 d4 d5 d6 e0 e1 e2 e3 e4 e5 e6
      go_roundg rest.length
      case measure => exact Nat.lt_of_lt_of_le (Nat.lt_succ_self _) qO.out
      case rel => exact ⟨pre ++ [k], rest, (by rw [xE]; unfold DV; rw [if_neg K2.out]), (by rw [xG]; unfold DW; rw [if_neg K2.out, if_pos K3.out]), (by rw [hw]), ⟨by rw [List.append_assoc]; exact HE.out⟩, Nat.le_refl _, HN9, ER, ab3, Z5⟩
     ·have aph : (ck == 3) = false := beq_eq_false_iff_ne.mpr k3
      have K3 := ae.mk k3
      clear k3
      have hw := HW1.out
      go_wp2
      clear d0 d1 d2 d3 d4 d5 d6 e0 e1 e2 e3 e4 e5 e6
      go_roundg rest.length
      case measure => exact Nat.lt_of_lt_of_le (Nat.lt_succ_self _) qO.out
      case rel => exact ⟨pre ++ [k], rest, (by rw [xE]; unfold DV; rw [if_neg K2.out]), (by rw [xG]; unfold DW; rw [if_neg K2.out, if_neg K3.out]), (by rw [hw]), ⟨by rw [List.append_assoc]; exact HE.out⟩, Nat.le_refl _, HN9, ER, ab3, Z5⟩
def qJ.f (a0 a1 a2 a3 a4 a5 : Int) (l : List aI) (x y : Int) : Option (Int × Int × Int × Int × Int × Int × List aI) := if sz ⟨a0, ⟨a1, a2, a3, a4⟩, a5, l⟩ ≤ 1000000 then some (a0, x, y, a3, a4, a5, qf a0 l x y) else none
section
variable {W : World} {b : Nat} {P : Nat → Prop} {A : Option Addr} {cc : Nat}
abbrev zt (w : World) (P : Nat → Prop) (z : aI) (e : Ending) (w' : World) : Prop := ∃ A c, e = .returned (.agg #[.int .u8 z.f0, .int .i64 z.f1.f0, .int .i64 z.f1.f1, .int .i64 z.f1.f2, .int .i64 z.f1.f3, .int .i64 z.f2, .slice A z.f3.length c]) ∧ Kd.N k26 26 w' w.heap.size (fun k => P k ∨ w.heap.size ≤ k) (.slice A z.f3.length c) z.f3 ∧ Below w.heap.size w w'
theorem JS (c : aI) (ax : Int) (hz : sz c ≤ 1048576) (hV : Kd.V k26 26 W b P (.slice A c.f3.length cc) c.f3) :
  Calls Try.prog 86 #[.agg #[.int .u8 c.f0, .int .i64 c.f1.f0, .int .i64 c.f1.f1, .int .i64 c.f1.f2, .int .i64 c.f1.f3, .int .i64 c.f2, .slice A c.f3.length cc], .int .u8 ax] W fun e w' => e = .returned (.int .i64 (gy ax c)) ∧ Below W.heap.size W w' := by
 obtain ⟨k, hk⟩ := (acN c hz ax).rounds
 exact dV.calls k _ _ _ _ _ _ P A cc c.f3 ax _ W (jS hV) hk
theorem afP (c : aI) (ax : Int) (hV : Kd.V k26 26 W b P (.slice A c.f3.length cc) c.f3) :
  Calls Try.prog 99 #[.agg #[.int .u8 c.f0, .int .i64 c.f1.f0, .int .i64 c.f1.f1, .int .i64 c.f1.f2, .int .i64 c.f1.f3, .int .i64 c.f2, .slice A c.f3.length cc], .int .u8 ax] W fun e w' => e = .returned (.bool (kQ ax c.f0)) ∧ Below W.heap.size W w' := by
 have h := Kd.oH hV
 exact qR.calls _ _ _ _ _ _ A cc c.f3 ax _ W h.2.2 h.2.1 (GX c ax)
theorem OV (l : List aI) (hl : l.length ≤ 1000000) (hV : Kd.V k26 26 W b P (.slice A l.length cc) l) :
  Calls Try.prog 137 #[.slice A l.length cc] W fun e w' => ∃ A' c', e = .returned (.slice A' l.length c') ∧ Kd.N k26 26 w' W.heap.size (fun k => P k ∨ W.heap.size ≤ k) (.slice A' l.length c') l ∧ Below W.heap.size W w' :=
 (wQ.calls P A cc l l W (jS hV) (if_pos hl)).mono (fun e w' ⟨v, he, hN, hB⟩ => by
  obtain ⟨A', c', rfl⟩ := Kd.nH hN
  exact ⟨A', c', he, hN, hB⟩)
theorem Sm (c : aI) (x y : Int) (hz : sz c ≤ 1000000) (hV : Kd.V k26 26 W b P (.slice A c.f3.length cc) c.f3) :
  Calls Try.prog 66 #[.agg #[.int .u8 c.f0, .int .i64 c.f1.f0, .int .i64 c.f1.f1, .int .i64 c.f1.f2, .int .i64 c.f1.f3, .int .i64 c.f2, .slice A c.f3.length cc], .int .i64 x, .int .i64 y] W (zt W P (bu c x y)) :=
 (anW 1000000 c hz (Nat.le_refl _) P A cc x y W (jS hV)).mono (fun e w' ⟨v, he, hN, hB⟩ => by
  rw [CQ]
  obtain ⟨A', c', rfl⟩ := Kd.nH hN
  exact ⟨A', c', he, hN, hB⟩)
theorem adS (b : Int) (gs : List Int) (hl : gs.length ≤ 100000) (h0 : -2147483647 ≤ b) (h1 : b ≤ 2147483647) (hC : Kd.C (Kd.int .i64) W A gs.length gs) (hc : gs.length ≤ cc) :
  Calls Try.prog 49 #[.int .i64 b, .slice A gs.length cc] W fun e w' => ∃ A' c', e = .returned (.tuple #[.slice A' (uS b gs).1.length c', .bool (uS b gs).2]) ∧ (Kd.int .i64).R 3 w' W.heap.size (fun _ => True) (.slice A' (uS b gs).1.length c') (uS b gs).1 ∧ Below W.heap.size W w' := by
 obtain ⟨k, hk⟩ := (DX b gs hl h0 h1).2.rounds
 exact (bF.calls k b A cc gs _ _ W hC hc hk).mono (fun e w' ⟨v, he, hR, hB⟩ => by
  obtain ⟨A', c', rfl⟩ := Kd.iJ hR
  exact ⟨A', c', he, hR, hB⟩)
end
theorem abK {l : List aI} {k : aI} (h : k ∈ l) : sz k ≤ jw l := by
 obtain ⟨p, q, e⟩ := List.append_of_mem h
 rw [e, vT, gz]
 omega
theorem abv {a b : bC} : tC a b = true ↔ a.f0 = b.f0 ∧ a.f1 = b.f1 ∧ a.f2 = b.f2 ∧ a.f3 = b.f3 := by
 unfold tC
 simp
theorem Vz (ax X Y W H : Int) (hax : ax = 1 ∨ ax = 2) : ∀ (kids : List aI) (ns : List Int) (off : Int), kids.length = ns.length → Dh (fun k r => tC k.f1 r) kids (Df ax X Y W H off ns) = true → ∀ x, x ∈ kids → dA (3 - ax) x.f1 = tX ax H W := by
 intro kids
 induction kids with
 | nil => intro _ _ _ _ x hx; cases hx
 | cons k ks ih =>
  intro ns off hl he x hx
  cases ns with
  | nil => simp at hl
  | cons n ns =>
   simp only [Df, Dh, Bool.and_eq_true] at he
   rcases List.mem_cons.1 hx with rfl | hx
   ·obtain ⟨_, _, h2, h3⟩ := abv.1 he.1
    simp only [] at h2 h3
    rcases hax with rfl | rfl
    ·unfold dA tX at *
     simp at h3 ⊢
     exact h3
    ·unfold dA tX at *
     simp at h2 ⊢
     exact h2
   ·exact ih ns (off + n + 1) (by simpa using hl) he.2 x hx
theorem ac3 {c : aI} (h1 : EY c = true) (hk : c.f0 = 2 ∨ c.f0 = 3) (hl : c.f3.length ≤ 20000) :
  (c.f3.map (fun k => dA (c.f0 - 1) k.f1)).sum + (c.f3.length : Int) - 1 = dA (c.f0 - 1) c.f1 ∧ ∀ x, x ∈ c.f3 → dA (3 - (c.f0 - 1)) x.f1 = dA (3 - (c.f0 - 1)) c.f1 := by
 unfold EY UX at h1
 rw [show (c.f0 == 1) = false from by simp; omega, Bool.false_or] at h1
 simp only [Bool.and_eq_true] at h1
 obtain ⟨ht, hlen, hE⟩ := h1
 obtain ⟨_, hg, _, _⟩ := Ez c hl
 obtain ⟨hax, gp, gs, _⟩ := hg ht
 have e1 : yI c.f0 = c.f0 - 1 := by unfold yI; omega
 rw [e1] at hax gp gs
 have e2 : l7 c = c.f3.map (fun k => dA (c.f0 - 1) k.f1) := by
  unfold l7
  apply List.map_congr_left
  intro k _
  unfold EM dA
  rcases hk with h | h
  ·rw [if_pos h, if_pos (by omega)]
  ·rw [if_neg (by omega), if_neg (by omega), if_pos (by omega)]
 have e3 : ∀ r : bC, tX (c.f0 - 1) r.f2 r.f3 = dA (c.f0 - 1) r ∧ tX (c.f0 - 1) r.f3 r.f2 = dA (3 - (c.f0 - 1)) r := by
  intro r
  rcases hk with h | h <;> simp [tX, dA, h]
 refine ⟨?_, fun x hx => ?_⟩
 ·rw [← e2, ← (e3 c.f1).1, ← gs]
  simp [l7]
 ·rw [gp] at hE
  rw [← (e3 c.f1).2]
  exact Vz (c.f0 - 1) _ _ _ _ hax c.f3 (l7 c) 0 (by simp [l7]) hE x hx
theorem Gv {c : aI} (h : uQ c = true) : rQ c.f1 = true := by
 unfold uQ at h
 simp only [Bool.and_eq_true] at h
 exact h.1.1.1
theorem Bz {r : bC} (h : rQ r = true) {ax : Int} (hax : ax = 1 ∨ ax = 2) : 1 ≤ dA ax r ∧ dA ax r ≤ 10000 := by
 have := Xt.1 h
 unfold dA
 rcases hax with rfl | rfl
 ·rw [if_pos rfl]; omega
 ·rw [if_neg (by omega), if_pos rfl]; omega
theorem E5 {c x : aI} (h : pO c = true) (hx : x ∈ c.f3) : pO x = true := by
 rw [JD, Bool.and_eq_true] at h
 exact List.all_eq_true.1 h.2 x hx
theorem ada {ax u : Int} : ∀ {l : List aI} {m : Int}, m ≤ u → (∀ x, x ∈ l → gU ax x ≤ u) → wG ax m l ≤ u := by
 intro l
 induction l with
 | nil => intro m h _; rw [yV]; exact h
 | cons x xs ih =>
  intro m h hx
  rw [xB]
  exact ih (afa h (hx x (by simp))) (fun y hy => hx y (by simp [hy]))
theorem ac' {ax : Int} : ∀ {l : List aI} {m : Int}, m ≤ wG ax m l := by
 intro l
 induction l with
 | nil => intro m; rw [yV]; exact Int.le_refl _
 | cons x xs ih =>
  intro m
  rw [xB]
  exact Int.le_trans (aa9 m (gU ax x)) ih
theorem aio {ax : Int} : ∀ {l : List aI}, (∀ x, x ∈ l → gU ax x ≤ dA ax x.f1) → oP ax l ≤ (l.map (fun k => dA ax k.f1)).sum := by
 intro l
 induction l with
 | nil => intro _; rw [vH]; exact Int.le_refl _
 | cons x xs ih =>
  intro hx
  rw [xe, List.map_cons, List.sum_cons]
  have h1 := hx x (by simp)
  have h2 := ih (fun y hy => hx y (by simp [hy]))
  omega
theorem Hu {ax : Int} (hax : ax = 1 ∨ ax = 2) : ∀ (N : Nat) (c : aI), sz c ≤ N → N ≤ 20000 → (jh c).all uQ = true → 1 ≤ gU ax c ∧ (pO c = true → gU ax c ≤ dA ax c.f1) := by
 intro N
 induction N with
 | zero => intro c h; rw [gm] at h; omega
 | succ N ih =>
  intro c hc hN hok
  have hs := gm c
  have hlen := nN c.f3
  have hk : ∀ x, x ∈ c.f3 → 1 ≤ gU ax x ∧ (pO x = true → gU ax x ≤ dA ax x.f1) := fun x hx => by
   refine ih x ?_ (by omega) (Qr hok hx)
   have := abK hx
   omega
  rw [EF]
  rcases UW (Ai hok) with ⟨h1, h2⟩ | ⟨h1, h2⟩
  ·rw [if_pos h1]
   exact ⟨Int.le_refl _, fun _ => (Bz (Gv (Ai hok)) hax).1⟩
  ·rw [if_neg (by omega)]
   have hsum : ∀ l : List aI, (∀ x, x ∈ l → 1 ≤ gU ax x) → (l.length : Int) ≤ oP ax l := by
    intro l
    induction l with
    | nil => intro _; rw [vH]; simp
    | cons x xs ihl =>
     intro h
     have a1 := h x (by simp)
     have a2 := ihl (fun y hy => h y (by simp [hy]))
     rw [xe, List.length_cons]
     omega
   have akB := fun (ht : pO c = true) => ac3 (c := c) (by rw [JD, Bool.and_eq_true] at ht; exact ht.1) h1 (by omega)
   cases ha : kQ ax c.f0 with
   | true =>
    have e : c.f0 - 1 = ax := by
     unfold kQ at ha
     simp at ha
     omega
    simp only [if_true]
    refine ⟨by have := hsum c.f3 (fun x hx => (hk x hx).1); omega, fun ht => ?_⟩
    obtain ⟨g1, _⟩ := akB ht
    rw [e] at g1
    have := aio (ax := ax) (l := c.f3) (fun x hx => (hk x hx).2 (E5 ht hx))
    omega
   | false =>
    have e : 3 - (c.f0 - 1) = ax := by
     unfold kQ at ha
     simp at ha
     omega
    simp only [Bool.false_eq_true, if_false]
    refine ⟨?_, fun ht => ?_⟩
    ·cases hl : c.f3 with
     | nil => rw [hl] at h2; simp at h2
     | cons x xs =>
      have := (hk x (by rw [hl]; simp)).1
      rw [xB]
      exact Int.le_trans this (Int.le_trans (akS 0 _) ac')
    ·obtain ⟨_, g2⟩ := akB ht
     rw [e] at g2
     have := Bz (Gv (Ai hok)) hax
     exact ada (by omega) (fun x hx => by
      have := (hk x hx).2 (E5 ht hx)
      rw [g2 x hx] at this
      exact this)
section
variable {W : World} {b : Nat} {P : Nat → Prop} {A : Option Addr} {cc : Nat}
theorem CS (c : aI) (hz : sz c ≤ 1048576) (h1 : Kd.C k26 W A 1 [c]) (h2 : 1 ≤ cc) : Calls Try.prog 148 #[.slice A 1 cc] W fun e w' => e = .returned (.bool (jy c)) ∧ Below W.heap.size W w' := by
 have h := Vf [c] (fun x hx => by rw [List.mem_singleton.1 hx]; exact hz) A cc W h1 h2
 simpa using h
theorem vW {c : aI} {v : Bool} {f : FuncId} {args : Array Value} (h : jy c = v) (hc : Calls Try.prog f args W fun e w' => e = .returned (.bool (jy c)) ∧ Below W.heap.size W w') : Calls Try.prog f args W fun e w' => e = .returned (.bool v) ∧ Below W.heap.size W w' := by
 rw [h] at hc
 exact hc
theorem Az (c : aI) (hz : sz c ≤ 1048576) (hV : Kd.V k26 26 W b P (.slice A c.f3.length cc) c.f3) :
  Calls Try.prog 84 #[.agg #[.int .u8 c.f0, .int .i64 c.f1.f0, .int .i64 c.f1.f1, .int .i64 c.f1.f2, .int .i64 c.f1.f3, .int .i64 c.f2, .slice A c.f3.length cc]] W fun e w' => e = .returned (.bool (jy c)) ∧ Below W.heap.size W w' := by
 obtain ⟨k, hk⟩ := (U5 c hz).rounds
 have h := Kd.oH hV
 exact tH.calls k _ _ _ _ _ _ A cc c.f3 _ W h.2.2 h.2.1 hk
theorem Gz (r : bC) (ax : Int) : Calls Try.prog 98 #[.agg #[.int .i64 r.f0, .int .i64 r.f1, .int .i64 r.f2, .int .i64 r.f3], .int .u8 ax] W fun e w' => e = .returned (.int .i64 (dA ax r)) ∧ Below W.heap.size W w' :=
 sU.calls r.f0 r.f1 r.f2 r.f3 ax _ W (Ri r ax)
end
section
variable {Pr : Program} {ops : Array Oper} {rest : List Oper} {op : Oper} {a : Act} {Q : Exit → Act → World → Prop} {w W : World} {P P' : Nat → Prop} {bs : List (Option Nat × Obj)} {ow : List (Value × List aI)} {ts : List (Value × List aI)} {ro : List (Addr × Value)}
theorem CJ {N : Tmp} (hd : op.dst = some N) (hgd : op.guard = none) (x : aI) {A : Option Addr} {c b : Nat} (S : St w P bs ow ts ro W) (hV : Kd.V k26 26 W b P' (.slice A x.f3.length c) x.f3)
  (hrun : (execOp a.eval op).run Pr W = .ok (.value (.slice (some ⟨W.heap.size, 0, none⟩) 1 1)) (W.alloc (.cells (qH x A c).toArray 26)))
  (h : ∀ A1 c1 w1, St w P bs ow ts ro w1 → 1 ≤ c1 → Kd.C k26 w1 A1 1 [x] → wpList Pr ops Q rest (a.put op.dst (.slice A1 1 c1)) w1) : wpList Pr ops Q (op :: rest) a W := by
 obtain ⟨_, hl, hF⟩ := Kd.Iq hV
 refine Kd.BZ k26 (w0 := W) W.heap.size 26 hgd hd (xs := [x]) (inner := qH x A c) (ok := fun _ => True) (iO := P') hrun (dB.c7 (vP W P' x hl hF) (dB.none _ _)) (fun _ _ => trivial) trivial (Below.refl _ _) (Nat.le_refl _) (by simp) ?_
 intro v1 w1 hN _ hg _
 obtain ⟨A1, c1, rfl⟩ := Kd.nH hN
 exact h A1 c1 w1 (S.call (Di hg)) (Kd.kY hN).2.1 (Kd.kY hN).2.2
end
abbrev En (w : World) (P : Nat → Prop) (z : aI) (n : Int) (e : Ending) (w' : World) : Prop := ∃ A c, e = .returned (.tuple #[.agg #[.int .u8 z.f0, .int .i64 z.f1.f0, .int .i64 z.f1.f1, .int .i64 z.f1.f2, .int .i64 z.f1.f3, .int .i64 z.f2, .slice A z.f3.length c], .int .i64 n]) ∧ Kd.N k26 26 w' w.heap.size (fun k => P k ∨ w.heap.size ≤ k) (.slice A z.f3.length c) z.f3 ∧ Below w.heap.size w w'
noncomputable def vX (ax : Int) (c : aI) : Bool := !jy c || (ax != 1 && ax != 2)
noncomputable def BN (ax : Int) (c : aI) (b : Int) : Bool := decide (b < wrap64 (-(gy ax c))) || decide (b > wrap64 (10000 - dA ax ⟨0, 0, wrap64 (c.f1.f0 + c.f1.f2), wrap64 (c.f1.f1 + c.f1.f3)⟩))
noncomputable def aN (ax : Int) (c : aI) (b : Int) : Int := if vX ax c = true then 1 else if BN ax c b = true then 7 else 0
noncomputable def aZ (ax : Int) (c : aI) (b : Int) : aI := if vX ax c = true then z26 else if BN ax c b = true then z26 else bu (eU ax c b) c.f1.f0 c.f1.f1
theorem ajE {ax : Int} {c : aI} {b : Int} (h1 : vX ax c = false) (h2 : BN ax c b = false) : jy c = true ∧ (ax = 1 ∨ ax = 2) ∧ sz c ≤ 20000 ∧ -10000 ≤ b ∧ b ≤ 10000 ∧ -(gy ax c) ≤ b ∧ gy ax c = dA ax c.f1 - gU ax c ∧ dA ax c.f1 + b ≤ 10000 := by
 unfold vX at h1
 simp only [Bool.or_eq_false_iff, Bool.not_eq_false', Bool.and_eq_false_iff, bne_eq_false_iff_eq] at h1
 obtain ⟨ht, hax⟩ := h1
 have hm := xk ht
 have hs := uP hm
 have hB : pO c = true := by
  unfold jy at ht
  simp only [Bool.and_eq_true] at ht
  exact ht.2
 have f := (Hu hax (sz c) c (Nat.le_refl _) hs (Bo hm)).2 hB
 have f1 := (Hu hax (sz c) c (Nat.le_refl _) hs (Bo hm)).1
 have hr := Gv (Ai (Bo hm))
 have r := Bz hr hax
 have hg : gy ax c = dA ax c.f1 - gU ax c := by
  unfold gy
  rw [if_pos ⟨hax, ht⟩]
  unfold wrap64
  omega
 unfold BN at h2
 simp only [Bool.or_eq_false_iff, decide_eq_false_iff_not] at h2
 have hw1 : wrap64 (-(gy ax c)) = -(gy ax c) := by rw [hg]; unfold wrap64; omega
 have hq : 0 ≤ c.f1.f0 ∧ 0 ≤ c.f1.f1 ∧ c.f1.f0 + c.f1.f2 ≤ 10000 ∧ c.f1.f1 + c.f1.f3 ≤ 10000 ∧ 1 ≤ c.f1.f2 ∧ 1 ≤ c.f1.f3 := by
  unfold rQ zF at hr
  simp only [Bool.and_eq_true, decide_eq_true_eq] at hr
  omega
 have he : dA ax ⟨0, 0, wrap64 (c.f1.f0 + c.f1.f2), wrap64 (c.f1.f1 + c.f1.f3)⟩ = (if ax = 1 then c.f1.f0 else c.f1.f1) + dA ax c.f1 := by
  unfold dA
  rcases hax with rfl | rfl
  ·simp only [if_true]; unfold wrap64; omega
  ·simp only [show ¬ ((2 : Int) = 1) by decide, if_false, if_true]; unfold wrap64; omega
 rw [hw1, he] at h2
 have hw2 : wrap64 (10000 - ((if ax = 1 then c.f1.f0 else c.f1.f1) + dA ax c.f1)) = 10000 - ((if ax = 1 then c.f1.f0 else c.f1.f1) + dA ax c.f1) := by unfold wrap64; split <;> omega
 rw [hw2] at h2
 refine ⟨ht, hax, hs, ?_, ?_, ?_, hg, ?_⟩ <;> (split at h2 <;> omega)
end Go.Proofs.Ytfdmfgaiblfbhaa.P
namespace Go.Proofs.Ytfdmfgaiblfbhaa.P
open Go.RowKit Go.Proofs.ai.bg Go.Proofs.ai.di Go.Proofs.ai.dG
attribute [local go_sem] kD kF lN lQ jF jG kE kG
def fU.f (k : Nat) (a0 : Int) (a1 : Int) : Option (List Int × Bool) := if a1 < 1 then (some (([] : List Int), false)) else (if a1 > 20000 then (some (([] : List Int), false)) else (if a0 < (wrap64 ((wrap64 (2 * a1)) - 1)) then (some (([] : List Int), false)) else (if a0 > 2147483647 then (some (([] : List Int), false)) else (if 0 ≤ a1 then (if (a1 : Int).toNat ≤ 35184372088832 then ((bF.f k (wrap64 ((wrap64 (a0 - a1)) + 1)) (List.replicate (a1 : Int).toNat 0)).bind fun Nr => (some (Nr.1, true))) else (none)) else (none)))))
theorem fU.mono : ∀ a0 a1 k, jC (fU.f k a0 a1) (fU.f (k + 1) a0 a1) := by
 intro a0 a1 k
 unfold fU.f
 repeat' first | (with_reducible exact bF.mono _ _ _) | (with_reducible exact jC.refl _) | (with_reducible refine jC.ite ?_ ?_) | (with_reducible refine jC.bind ?_ (fun _ => ?_))
theorem fU.calls (k : Nat) (a0 : Int) (a1 : Int) (r1 : List Int) (r2 : Bool) (w : World) (h : fU.f k a0 a1 = some (r1, r2)) :
  Calls Try.prog 53 #[.int .i64 a0, .int .i64 a1] w fun e w' => ∃ ng : Value, e = .returned (.tuple #[ng, .bool r2]) ∧ Kd.R (Kd.int .i64) 3 w' w.heap.size (fun _ => True) ng r1 ∧ Below w.heap.size w w' := by
 have HB := ae.mk (Below.refl w.heap.size w)
 have H : (if a1 < 1 then (some (([] : List Int), false)) else (if a1 > 20000 then (some (([] : List Int), false)) else (if a0 < (wrap64 ((wrap64 (2 * a1)) - 1)) then (some (([] : List Int), false)) else (if a0 > 2147483647 then (some (([] : List Int), false)) else (if 0 ≤ a1 then (if (a1 : Int).toNat ≤ 35184372088832 then ((bF.f k (wrap64 ((wrap64 (a0 - a1)) + 1)) (List.replicate (a1 : Int).toNat 0)).bind fun Nr => (some (Nr.1, true))) else (none)) else (none)))))) = some (r1, r2) := h
 clear h
 by_cases c3 : a1 < 1
 ·rw [if_pos c3] at H
  have pY : decide (a1 < 1) = true := decide_eq_true c3
  clear c3
  simp only [Option.some.injEq, Prod.mk.injEq] at H
  obtain ⟨rfl, rfl⟩ := H
  go_enter Try.func53, Try.ntmps53
  go_wp2
  go_ret2
  exact ⟨_, by rfl, by exact Kd.nI _ _ _ _ _, by repeat ((with_reducible exact HB.out))⟩
 ·rw [if_neg c3] at H
  have pY : decide (a1 < 1) = false := decide_eq_false c3
  clear c3
  by_cases c4 : a1 > 20000
  ·rw [if_pos c4] at H
   have zy : decide (20000 < a1) = true := decide_eq_true c4
   clear c4
   simp only [Option.some.injEq, Prod.mk.injEq] at H
   obtain ⟨rfl, rfl⟩ := H
   go_enter Try.func53, Try.ntmps53
   go_wp2
   go_ret2
   exact ⟨_, by rfl, by exact Kd.nI _ _ _ _ _, by repeat ((with_reducible exact HB.out))⟩
  ·rw [if_neg c4] at H
   have zy : decide (20000 < a1) = false := decide_eq_false c4
   clear c4
   by_cases c5 : a0 < (wrap64 ((wrap64 (2 * a1)) - 1))
   ·rw [if_pos c5] at H
    have ET : decide (a0 < (wrap64 ((wrap64 (2 * a1)) - 1))) = true := decide_eq_true c5
    clear c5
    simp only [Option.some.injEq, Prod.mk.injEq] at H
    obtain ⟨rfl, rfl⟩ := H
    go_enter Try.func53, Try.ntmps53
    go_wp2
    go_ret2
    exact ⟨_, by rfl, by exact Kd.nI _ _ _ _ _, by repeat ((with_reducible exact HB.out))⟩
   ·rw [if_neg c5] at H
    have ET : decide (a0 < (wrap64 ((wrap64 (2 * a1)) - 1))) = false := decide_eq_false c5
    clear c5
    by_cases c6 : a0 > 2147483647
    ·rw [if_pos c6] at H
     have wS : decide (2147483647 < a0) = true := decide_eq_true c6
     clear c6
     simp only [Option.some.injEq, Prod.mk.injEq] at H
     obtain ⟨rfl, rfl⟩ := H
     go_enter Try.func53, Try.ntmps53
     go_wp2
     go_ret2
     exact ⟨_, by rfl, by exact Kd.nI _ _ _ _ _, by repeat ((with_reducible exact HB.out))⟩
    ·rw [if_neg c6] at H
     have wS : decide (2147483647 < a0) = false := decide_eq_false c6
     clear c6
     by_cases c7 : 0 ≤ a1
     ·rw [if_pos c7] at H
      have t_ := eq_true c7
      have Iz : decide (0 ≤ a1) = true := decide_eq_true c7
      clear c7
      by_cases c8 : (a1 : Int).toNat ≤ 35184372088832
      ·rw [if_pos c8] at H
       have vZ := eq_true c8
       have ajT : decide ((a1 : Int).toNat ≤ 35184372088832) = true := decide_eq_true c8
       clear c8
       obtain ⟨aek, Y8⟩ : ∃ y_ : List Int, y_ = (List.replicate (a1 : Int).toNat 0) := ⟨_, rfl⟩
       replace H : ((bF.f k (wrap64 ((wrap64 (a0 - a1)) + 1)) aek).bind fun Nr => (some (Nr.1, true))) = some (r1, r2) := by (rw [Y8]; with_reducible exact H)
       have amH := ae.mk Y8
       clear Y8
       replace H := Option.bind_eq_some_iff.mp H
       obtain ⟨⟨alj, apt⟩, ZX, H⟩ := H
       replace H : (some (alj, true)) = some (r1, r2) := H
       have A9 := ae.mk ZX
       clear ZX
       simp only [Option.some.injEq, Prod.mk.injEq] at H
       obtain ⟨rfl, rfl⟩ := H
       go_enter Try.func53, Try.ntmps53
       go_wp2_with (first | ((with_reducible refine aQ (N := 31) rfl ?_); refine Kd.aao (Kd.int .i64) _ 3 rfl (N := 31) rfl 41 _ _ rfl a1 rfl rfl Try.underlying41 (.int .i64 0) 8 info3 rfl (by decide) (by omega) 0 (ok := fun _ => True) (iO := fun _ => True) rfl (fun _ hk => hk) trivial (of_decide_eq_true (by (with_reducible assumption))) (Nat.le_trans (Nat.mul_le_mul_right _ (of_decide_eq_true (by (with_reducible assumption)) : a1.toNat ≤ 35184372088832)) (by omega)) (Below.refl _ _) (Nat.le_refl _) ?_; intro awR w10 zC hb kW gK; clear kW gK; (rw [← amH.out] at zC); have JL := ae.mk (Kd.iQ zC (aY (by repeat ((with_reducible exact HB.out))))); replace HB := ae.mk (aH (by repeat ((with_reducible exact HB.out))) hb); clear hb zC; obtain ⟨abS, aco, TQ⟩ := Kd.iJ JL.out; subst TQ) | ((with_reducible refine dn (f := 49) rfl ?_); refine gu (some 32) rfl rfl Try.func49 (by kernel_rfl) rfl #[.int .i64 (wrap64 ((wrap64 (a0 - a1)) + 1)), .slice abS aek.length aco] rfl (by (try simp only [List.map_toArray, List.map_cons, List.map_nil]); rfl) ?_; (with_reducible refine (bF.calls k (wrap64 ((wrap64 (a0 - a1)) + 1)) _ _ aek alj apt _ ?fO ?gG A9.out).mono ?_); (case fO => repeat (exact (Kd.dH JL.out).2.2)); (case gG => exact (Kd.dH JL.out).2.1); rintro e qI ⟨awS, rfl, ho0, hb⟩; refine ⟨_, rfl, ?_⟩; have al7 := ae.mk (Kd.iQ (Kd.qG ho0 (Kd.lX JL.out)) (aY (by repeat ((with_reducible exact HB.out))))); replace JL := ae.mk (Kd.nY JL.out (Kd.nT ho0) hb); replace HB := ae.mk (aH (by repeat ((with_reducible exact HB.out))) hb); (try clear hb); (try clear ho0)))
       go_ret2
       exact ⟨_, by rfl, by exact Kd.cZ al7.out (fun _ hk => trivial), by repeat ((with_reducible exact HB.out))⟩
      ·rw [if_neg c8] at H
       exact absurd H (by simp)
     ·rw [if_neg c7] at H
      exact absurd H (by simp)
def mY.f (k : Nat)  : Option (Bool) := (fU.f k 80 3).bind fun Ns => ((fU.f k 8 3).bind fun Ew => (if Ns.2 = true then (if Ew.2 = true then ((bU.f k Ns.1 (([26, 26, 26] : List Int))).bind fun xM => (if xM = true then ((bU.f k Ew.1 (([2, 2, 2] : List Int))).bind fun rV => (some rV)) else (some false))) else (some false)) else (some false)))
theorem mY.mono : ∀ k, jC (mY.f k ) (mY.f (k + 1) ) := by
 intro  k
 unfold mY.f
 repeat' first | (with_reducible exact bU.mono _ _ _) | (with_reducible exact fU.mono _ _ _) | (with_reducible exact jC.refl _) | (with_reducible refine jC.ite ?_ ?_) | (with_reducible refine jC.bind ?_ (fun _ => ?_))
theorem mY.calls (k : Nat)  (r : Bool) (w : World) (h : mY.f k  = some r) :
  Calls Try.prog 52 #[] w fun e w' => e = .returned (.bool r) ∧ Below w.heap.size w w' := by
 have HB := ae.mk (Below.refl w.heap.size w)
 have H : ((fU.f k 80 3).bind fun Ns => ((fU.f k 8 3).bind fun Ew => (if Ns.2 = true then (if Ew.2 = true then ((bU.f k Ns.1 (([26, 26, 26] : List Int))).bind fun xM => (if xM = true then ((bU.f k Ew.1 (([2, 2, 2] : List Int))).bind fun rV => (some rV)) else (some false))) else (some false)) else (some false)))) = some r := h
 clear h
 replace H := Option.bind_eq_some_iff.mp H
 obtain ⟨⟨D5, adY⟩, VH, H⟩ := H
 replace H : ((fU.f k 8 3).bind fun Ew => (if adY = true then (if Ew.2 = true then ((bU.f k D5 (([26, 26, 26] : List Int))).bind fun xM => (if xM = true then ((bU.f k Ew.1 (([2, 2, 2] : List Int))).bind fun rV => (some rV)) else (some false))) else (some false)) else (some false))) = some r := H
 have A1 := ae.mk VH
 clear VH
 replace H := Option.bind_eq_some_iff.mp H
 obtain ⟨⟨BR, ZE⟩, BU, H⟩ := H
 replace H : (if adY = true then (if ZE = true then ((bU.f k D5 (([26, 26, 26] : List Int))).bind fun xM => (if xM = true then ((bU.f k BR (([2, 2, 2] : List Int))).bind fun rV => (some rV)) else (some false))) else (some false)) else (some false)) = some r := H
 have A2 := ae.mk BU
 clear BU
 by_cases c3 : adY = true
 ·subst c3
  have H1 : (if ZE = true then ((bU.f k D5 (([26, 26, 26] : List Int))).bind fun xM => (if xM = true then ((bU.f k BR (([2, 2, 2] : List Int))).bind fun rV => (some rV)) else (some false))) else (some false)) = some r := by rw [if_pos rfl] at H; exact H
  clear H
  have H := H1
  clear H1
  by_cases c4 : ZE = true
  ·subst c4
   have H1 : ((bU.f k D5 (([26, 26, 26] : List Int))).bind fun xM => (if xM = true then ((bU.f k BR (([2, 2, 2] : List Int))).bind fun rV => (some rV)) else (some false))) = some r := by rw [if_pos rfl] at H; exact H
   clear H
   have H := H1
   clear H1
   obtain ⟨ael, Y9⟩ : ∃ y_ : List Int, y_ = (([26, 26, 26] : List Int)) := ⟨_, rfl⟩
   replace H : ((bU.f k D5 ael).bind fun xM => (if xM = true then ((bU.f k BR (([2, 2, 2] : List Int))).bind fun rV => (some rV)) else (some false))) = some r := by (rw [Y9]; with_reducible exact H)
   have aeD := ae.mk Y9
   clear Y9
   replace H := Option.bind_eq_some_iff.mp H
   obtain ⟨xM, ZV, H⟩ := H
   replace H : (if xM = true then ((bU.f k BR (([2, 2, 2] : List Int))).bind fun rV => (some rV)) else (some false)) = some r := H
   have A5 := ae.mk ZV
   clear ZV
   by_cases c6 : xM = true
   ·subst c6
    have H1 : ((bU.f k BR (([2, 2, 2] : List Int))).bind fun rV => (some rV)) = some r := by rw [if_pos rfl] at H; exact H
    clear H
    have H := H1
    clear H1
    obtain ⟨alI, Y_⟩ : ∃ y_ : List Int, y_ = (([2, 2, 2] : List Int)) := ⟨_, rfl⟩
    replace H : ((bU.f k BR alI).bind fun rV => (some rV)) = some r := by (rw [Y_]; with_reducible exact H)
    have amI := ae.mk Y_
    clear Y_
    replace H := Option.bind_eq_some_iff.mp H
    obtain ⟨rV, QU, H⟩ := H
    replace H : (some rV) = some r := H
    have A7 := ae.mk QU
    clear QU
    obtain rfl := Option.some.inj H
    go_enter Try.func52, Try.ntmps52
    go_wp2_with (first | ((with_reducible refine dn (f := 53) rfl ?_); refine gu (some 6) rfl rfl Try.func53 (by kernel_rfl) rfl #[.int .i64 80, .int .i64 3] rfl (by (try simp only [List.map_toArray, List.map_cons, List.map_nil]); rfl) ?_; (with_reducible refine (fU.calls k 80 3 D5 true _ A1.out).mono ?_); rintro e w8 ⟨ad4, rfl, ho0, hb⟩; refine ⟨_, rfl, ?_⟩; have mr := ae.mk (Kd.iQ ho0 (aY (by repeat ((with_reducible exact HB.out))))); replace HB := ae.mk (aH (by repeat ((with_reducible exact HB.out))) hb); (try clear hb); (try clear ho0)) | ((with_reducible refine dn (f := 53) rfl ?_); refine gu (some 10) rfl rfl Try.func53 (by kernel_rfl) rfl #[.int .i64 8, .int .i64 3] rfl (by (try simp only [List.map_toArray, List.map_cons, List.map_nil]); rfl) ?_; (with_reducible refine (fU.calls k 8 3 BR true _ A2.out).mono ?_); rintro e w9 ⟨ad5, rfl, ho0, hb⟩; refine ⟨_, rfl, ?_⟩; have uV := ae.mk (Kd.iQ (Kd.qG ho0 (Kd.lX mr.out)) (aY (by repeat ((with_reducible exact HB.out))))); replace mr := ae.mk (Kd.nY mr.out (Kd.nT ho0) hb); replace HB := ae.mk (aH (by repeat ((with_reducible exact HB.out))) hb); (try clear hb); (try clear ho0)) | ((with_reducible refine aQ (N := 19) rfl ?_); (try (refine eQ (by rfl) ?_; dsimp only)); refine Kd.o8 (Kd.int .i64) _ 3 ?hg (N := 19) ?hd (xs := ([26, 26, 26] : List Int)) (inner := [.int .i64 26, .int .i64 26, .int .i64 26]) (ok := fun _ => True) (iO := fun _ => True) ?hr ?hp (fun _ hk => hk) trivial (Below.refl _ _) (Nat.le_refl _) (by simp) ?_; (case hd => rfl); (case hg => rfl); (case hr => (go_simp; done)); (case hp => exact (dB.one (show Kd.M (Kd.int .i64) _ _ _ 26 [.int .i64 26] from rfl) (dB.one (show Kd.M (Kd.int .i64) _ _ _ 26 [.int .i64 26] from rfl) (dB.one (show Kd.M (Kd.int .i64) _ _ _ 26 [.int .i64 26] from rfl) (dB.none _ _))))); intro apC w10 zC hb kW gK; clear kW gK; (rw [← aeD.out] at zC); have AX := ae.mk (Kd.iQ (Kd.qG (Kd.qG zC (Kd.lX mr.out)) (Kd.lX uV.out)) (aY (by repeat ((with_reducible exact HB.out))))); replace mr := ae.mk (Kd.nY mr.out (Kd.nT zC) hb); replace uV := ae.mk (Kd.nY uV.out (Kd.nT zC) hb); replace HB := ae.mk (aH (by repeat ((with_reducible exact HB.out))) hb); clear hb zC; obtain ⟨abS, aco, TQ⟩ := Kd.iJ mr.out; subst TQ; obtain ⟨av', awm, ao2⟩ := Kd.iJ AX.out; subst ao2) | (go_at_call 51; (with_reducible refine (bU.calls k _ _ D5 _ _ ael true _ ?fO ?gG ?Ot ?Ou A5.out).mono ?_); (case fO => repeat (exact (Kd.dH mr.out).2.2)); (case gG => exact (Kd.dH mr.out).2.1); (case Ot => repeat (exact (Kd.dH AX.out).2.2)); (case Ou => exact (Kd.dH AX.out).2.1); rintro e w' ⟨rfl, ⟨nd, rfl⟩⟩) | ((with_reducible refine aQ (N := 24) rfl ?_); (try (refine eQ (by rfl) ?_; dsimp only)); refine Kd.o8 (Kd.int .i64) _ 3 ?hg (N := 24) ?hd (xs := ([2, 2, 2] : List Int)) (inner := [.int .i64 2, .int .i64 2, .int .i64 2]) (ok := fun _ => True) (iO := fun _ => True) ?hr ?hp (fun _ hk => hk) trivial (Below.refl _ _) (Nat.le_refl _) (by simp) ?_; (case hd => rfl); (case hg => rfl); (case hr => (go_simp; done)); (case hp => exact (dB.one (show Kd.M (Kd.int .i64) _ _ _ 2 [.int .i64 2] from rfl) (dB.one (show Kd.M (Kd.int .i64) _ _ _ 2 [.int .i64 2] from rfl) (dB.one (show Kd.M (Kd.int .i64) _ _ _ 2 [.int .i64 2] from rfl) (dB.none _ _))))); intro awT w14 PM hb kW gK; clear kW gK; (rw [← amI.out] at PM); have Ya := ae.mk (Kd.iQ (Kd.qG (Kd.qG (Kd.qG PM (Kd.lX (by (with_reducible repeat (apply Kd.CB)); exact mr.out))) (Kd.lX (by (with_reducible repeat (apply Kd.CB)); exact uV.out))) (Kd.lX (by (with_reducible repeat (apply Kd.CB)); exact AX.out))) (aY (by repeat ((with_reducible first | exact HB.out | apply fV))))); replace mr := ae.mk (Kd.nY (by (with_reducible repeat (apply Kd.CB)); exact mr.out) (Kd.nT PM) hb); replace uV := ae.mk (Kd.nY (by (with_reducible repeat (apply Kd.CB)); exact uV.out) (Kd.nT PM) hb); replace AX := ae.mk (Kd.nY (by (with_reducible repeat (apply Kd.CB)); exact AX.out) (Kd.nT PM) hb); replace HB := ae.mk (aH (by repeat ((with_reducible first | exact HB.out | apply fV))) hb); clear hb PM; obtain ⟨abT, acp, acH⟩ := Kd.iJ uV.out; subst acH; obtain ⟨awc, awn, ao3⟩ := Kd.iJ Ya.out; subst ao3) | (go_at_call 51; (with_reducible refine (bU.calls k _ _ BR _ _ alI rV _ ?fO ?gG ?Ot ?Ou A7.out).mono ?_); (case fO => repeat (exact (Kd.dH uV.out).2.2)); (case gG => exact (Kd.dH uV.out).2.1); (case Ot => repeat (exact (Kd.dH Ya.out).2.2)); (case Ou => exact (Kd.dH Ya.out).2.1); rintro e w' ⟨rfl, ⟨nd, rfl⟩⟩))
    go_ret
    exact ⟨by rfl, by repeat ((with_reducible first | exact HB.out | apply fV))⟩
   ·replace c6 := Bool.eq_false_iff.mpr c6
    subst c6
    have H1 : (some false) = some r := by rw [if_neg (show ¬ (false = true) by decide)] at H; exact H
    clear H
    have H := H1
    clear H1
    obtain rfl := Option.some.inj H
    go_enter Try.func52, Try.ntmps52
    go_wp2_with (first | ((with_reducible refine dn (f := 53) rfl ?_); refine gu (some 6) rfl rfl Try.func53 (by kernel_rfl) rfl #[.int .i64 80, .int .i64 3] rfl (by (try simp only [List.map_toArray, List.map_cons, List.map_nil]); rfl) ?_; (with_reducible refine (fU.calls k 80 3 D5 true _ A1.out).mono ?_); rintro e w18 ⟨ad4, rfl, ho0, hb⟩; refine ⟨_, rfl, ?_⟩; have mr := ae.mk (Kd.iQ ho0 (aY (by repeat ((with_reducible exact HB.out))))); replace HB := ae.mk (aH (by repeat ((with_reducible exact HB.out))) hb); (try clear hb); (try clear ho0)) | ((with_reducible refine dn (f := 53) rfl ?_); refine gu (some 10) rfl rfl Try.func53 (by kernel_rfl) rfl #[.int .i64 8, .int .i64 3] rfl (by (try simp only [List.map_toArray, List.map_cons, List.map_nil]); rfl) ?_; (with_reducible refine (fU.calls k 8 3 BR true _ A2.out).mono ?_); rintro e GL ⟨ad5, rfl, ho0, hb⟩; refine ⟨_, rfl, ?_⟩; have uV := ae.mk (Kd.iQ (Kd.qG ho0 (Kd.lX mr.out)) (aY (by repeat ((with_reducible exact HB.out))))); replace mr := ae.mk (Kd.nY mr.out (Kd.nT ho0) hb); replace HB := ae.mk (aH (by repeat ((with_reducible exact HB.out))) hb); (try clear hb); (try clear ho0)) | ((with_reducible refine aQ (N := 19) rfl ?_); (try (refine eQ (by rfl) ?_; dsimp only)); refine Kd.o8 (Kd.int .i64) _ 3 ?hg (N := 19) ?hd (xs := ([26, 26, 26] : List Int)) (inner := [.int .i64 26, .int .i64 26, .int .i64 26]) (ok := fun _ => True) (iO := fun _ => True) ?hr ?hp (fun _ hk => hk) trivial (Below.refl _ _) (Nat.le_refl _) (by simp) ?_; (case hd => rfl); (case hg => rfl); (case hr => (go_simp; done)); (case hp => exact (dB.one (show Kd.M (Kd.int .i64) _ _ _ 26 [.int .i64 26] from rfl) (dB.one (show Kd.M (Kd.int .i64) _ _ _ 26 [.int .i64 26] from rfl) (dB.one (show Kd.M (Kd.int .i64) _ _ _ 26 [.int .i64 26] from rfl) (dB.none _ _))))); intro apC JF UD hb kW gK; clear kW gK; (rw [← aeD.out] at UD); have AX := ae.mk (Kd.iQ (Kd.qG (Kd.qG UD (Kd.lX mr.out)) (Kd.lX uV.out)) (aY (by repeat ((with_reducible exact HB.out))))); replace mr := ae.mk (Kd.nY mr.out (Kd.nT UD) hb); replace uV := ae.mk (Kd.nY uV.out (Kd.nT UD) hb); replace HB := ae.mk (aH (by repeat ((with_reducible exact HB.out))) hb); clear hb UD; obtain ⟨ai6, aj_, acI⟩ := Kd.iJ mr.out; subst acI; obtain ⟨aoD, aoR, acJ⟩ := Kd.iJ AX.out; subst acJ) | (go_at_call 51; (with_reducible refine (bU.calls k _ _ D5 _ _ ael false _ ?fO ?gG ?Ot ?Ou A5.out).mono ?_); (case fO => repeat (exact (Kd.dH mr.out).2.2)); (case gG => exact (Kd.dH mr.out).2.1); (case Ot => repeat (exact (Kd.dH AX.out).2.2)); (case Ou => exact (Kd.dH AX.out).2.1); rintro e w' ⟨rfl, ⟨nd, rfl⟩⟩))
    go_ret
    exact ⟨by rfl, by repeat ((with_reducible first | exact HB.out | apply fV))⟩
  ·replace c4 := Bool.eq_false_iff.mpr c4
   subst c4
   have H1 : (some false) = some r := by rw [if_neg (show ¬ (false = true) by decide)] at H; exact H
   clear H
   have H := H1
   clear H1
   obtain rfl := Option.some.inj H
   go_enter Try.func52, Try.ntmps52
   go_wp2_with (first | ((with_reducible refine dn (f := 53) rfl ?_); refine gu (some 6) rfl rfl Try.func53 (by kernel_rfl) rfl #[.int .i64 80, .int .i64 3] rfl (by (try simp only [List.map_toArray, List.map_cons, List.map_nil]); rfl) ?_; (with_reducible refine (fU.calls k 80 3 D5 true _ A1.out).mono ?_); rintro e w24 ⟨ad4, rfl, ho0, hb⟩; refine ⟨_, rfl, ?_⟩; have mr := ae.mk (Kd.iQ ho0 (aY (by repeat ((with_reducible exact HB.out))))); replace HB := ae.mk (aH (by repeat ((with_reducible exact HB.out))) hb); (try clear hb); (try clear ho0)) | ((with_reducible refine dn (f := 53) rfl ?_); refine gu (some 10) rfl rfl Try.func53 (by kernel_rfl) rfl #[.int .i64 8, .int .i64 3] rfl (by (try simp only [List.map_toArray, List.map_cons, List.map_nil]); rfl) ?_; (with_reducible refine (fU.calls k 8 3 BR false _ A2.out).mono ?_); rintro e BV ⟨ad5, rfl, ho0, hb⟩; refine ⟨_, rfl, ?_⟩; have uV := ae.mk (Kd.iQ (Kd.qG ho0 (Kd.lX mr.out)) (aY (by repeat ((with_reducible exact HB.out))))); replace mr := ae.mk (Kd.nY mr.out (Kd.nT ho0) hb); replace HB := ae.mk (aH (by repeat ((with_reducible exact HB.out))) hb); (try clear hb); (try clear ho0)))
   go_ret
   exact ⟨by rfl, by repeat ((with_reducible exact HB.out))⟩
 ·replace c3 := Bool.eq_false_iff.mpr c3
  subst c3
  have H1 : (some false) = some r := by rw [if_neg (show ¬ (false = true) by decide)] at H; exact H
  clear H
  have H := H1
  clear H1
  obtain rfl := Option.some.inj H
  go_enter Try.func52, Try.ntmps52
  go_wp2_with (first | ((with_reducible refine dn (f := 53) rfl ?_); refine gu (some 6) rfl rfl Try.func53 (by kernel_rfl) rfl #[.int .i64 80, .int .i64 3] rfl (by (try simp only [List.map_toArray, List.map_cons, List.map_nil]); rfl) ?_; (with_reducible refine (fU.calls k 80 3 D5 false _ A1.out).mono ?_); rintro e BJ ⟨ad4, rfl, ho0, hb⟩; refine ⟨_, rfl, ?_⟩; have mr := ae.mk (Kd.iQ ho0 (aY (by repeat ((with_reducible exact HB.out))))); replace HB := ae.mk (aH (by repeat ((with_reducible exact HB.out))) hb); (try clear hb); (try clear ho0)) | ((with_reducible refine dn (f := 53) rfl ?_); refine gu (some 10) rfl rfl Try.func53 (by kernel_rfl) rfl #[.int .i64 8, .int .i64 3] rfl (by (try simp only [List.map_toArray, List.map_cons, List.map_nil]); rfl) ?_; (with_reducible refine (fU.calls k 8 3 BR ZE _ A2.out).mono ?_); rintro e Vl ⟨ad5, rfl, ho0, hb⟩; refine ⟨_, rfl, ?_⟩; have uV := ae.mk (Kd.iQ (Kd.qG ho0 (Kd.lX mr.out)) (aY (by repeat ((with_reducible exact HB.out))))); replace mr := ae.mk (Kd.nY mr.out (Kd.nT ho0) hb); replace HB := ae.mk (aH (by repeat ((with_reducible exact HB.out))) hb); (try clear hb); (try clear ho0)))
  go_ret
  exact ⟨by rfl, by repeat ((with_reducible exact HB.out))⟩
mutual
def bQ.j0 : Nat → Int → Int → List Int → Bool → Option (List Int × Bool)
 | 0, _, _, _, _ => none
 | k + 1, x0, x1, x6, x27 => if x27 = true then (some (x6, false)) else (if x1 = 0 then (none) else (bQ.l0 k x1 x6 (wrap64 (Int.tdiv (wrap64 (x0 - (wrap64 (x1 - 1)))) x1)) (Int.tmod (wrap64 (x0 - (wrap64 (x1 - 1)))) x1) 0))
def bQ.l0 : Nat → Int → List Int → Int → Int → Int → Option (List Int × Bool)
 | 0, _, _, _, _, _ => none
 | k + 1, x1, x6, x7, x8, x9 => if x9 < x1 then (if x9 < x8 then (if x6.length < 17592186044416 then (bQ.l0 k x1 (x6 ++ [wrap64 (x7 + 1)]) x7 x8 (wrap64 (x9 + 1))) else (none)) else (if x6.length < 17592186044416 then (bQ.l0 k x1 (x6 ++ [x7]) x7 x8 (wrap64 (x9 + 1))) else (none))) else (some (x6, true))
end
def bQ.f (k : Nat) (a0 : Int) (a1 : Int) : Option (List Int × Bool) := (some (([] : List Int) : List Int)).bind fun vK => (if a1 < 1 then (bQ.j0 k a0 a1 vK true) else (if a1 > 20000 then (bQ.j0 k a0 a1 vK true) else (if a0 < (wrap64 ((wrap64 (2 * a1)) - 1)) then (bQ.j0 k a0 a1 vK true) else (bQ.j0 k a0 a1 vK (decide (a0 > 2147483647))))))
theorem bQ.calls (k : Nat) (a0 : Int) (a1 : Int) (r1 : List Int) (r2 : Bool) (w : World) (h : bQ.f k a0 a1 = some (r1, r2)) :
  Calls Try.prog 54 #[.int .i64 a0, .int .i64 a1] w fun e w' => ∃ ng : Value, e = .returned (.tuple #[ng, .bool r2]) ∧ Kd.R (Kd.int .i64) 3 w' w.heap.size (fun _ => True) ng r1 ∧ Below w.heap.size w w' := by
 have HB := ae.mk (Below.refl w.heap.size w)
 have H : ((some (([] : List Int) : List Int)).bind fun vK => (if a1 < 1 then (bQ.j0 k a0 a1 vK true) else (if a1 > 20000 then (bQ.j0 k a0 a1 vK true) else (if a0 < (wrap64 ((wrap64 (2 * a1)) - 1)) then (bQ.j0 k a0 a1 vK true) else (bQ.j0 k a0 a1 vK (decide (a0 > 2147483647))))))) = some (r1, r2) := h
 clear h
 obtain ⟨vK, Za⟩ : ∃ y_ : List Int, y_ = (([] : List Int)) := ⟨_, rfl⟩
 replace H : (if a1 < 1 then (bQ.j0 k a0 a1 vK true) else (if a1 > 20000 then (bQ.j0 k a0 a1 vK true) else (if a0 < (wrap64 ((wrap64 (2 * a1)) - 1)) then (bQ.j0 k a0 a1 vK true) else (bQ.j0 k a0 a1 vK (decide (a0 > 2147483647)))))) = some (r1, r2) := by (have Z4 := (Option.bind_some _ _).symm.trans H; rw [Za]; with_reducible exact Z4)
 have amJ := ae.mk Za
 clear Za
 have SK := ae.mk H
 clear H
 go_enter Try.func54, Try.ntmps54
 go_upto_region 2 with (((with_reducible refine aQ (N := 10) rfl ?_); refine Kd.o8 (Kd.int .i64) _ 3 ?hg (N := 10) ?hd (xs := ([] : List Int)) (inner := []) (ok := fun _ => True) (iO := fun _ => True) ?hr ?hp (fun _ hk => hk) trivial (Below.refl _ _) (Nat.le_refl _) (by simp) ?_; (case hd => rfl); (case hg => rfl); (case hr => (go_simp; done)); (case hp => exact (dB.none _ _)); intro apD w4 Bj hb kW gK; clear kW gK; (rw [← amJ.out] at Bj); have RF := ae.mk (Kd.iQ Bj (aY (by repeat ((with_reducible exact HB.out))))); replace HB := ae.mk (aH (by repeat ((with_reducible exact HB.out))) hb); clear hb Bj))
 (skip)
 go_cut [27] (fun v27 wc => ∃ (kq : Nat) (Sv : Bool), v27 = .bool Sv ∧ ae (bQ.j0 kq a0 a1 vK Sv = some (r1, r2)) ∧ ae (kq ≤ k) ∧ ae (Kd.R (Kd.int .i64) 3 wc w.heap.size (fun _ => True) apD vK) ∧ ae (Below w.heap.size w wc))
 case first =>
  have H := SK.out
  clear SK
  by_cases c6 : a1 < 1
  ·rw [if_pos c6] at H
   have wS : decide (a1 < 1) = true := decide_eq_true c6
   clear c6
   (skip)
   have H' := ae.mk H
   clear H
   go_wp2
   go_meet
   case rel => exact ⟨_, (true), (by rfl), H', ⟨by omega⟩, ⟨by exact RF.out⟩, ⟨by repeat ((with_reducible exact HB.out))⟩⟩
  ·rw [if_neg c6] at H
   have wS : decide (a1 < 1) = false := decide_eq_false c6
   clear c6
   (skip)
   by_cases c7 : a1 > 20000
   ·rw [if_pos c7] at H
    have t_ : decide (20000 < a1) = true := decide_eq_true c7
    clear c7
    have H' := ae.mk H
    clear H
    go_wp2
    go_meet
    case rel => exact ⟨_, (true), (by rfl), H', ⟨by omega⟩, ⟨by exact RF.out⟩, ⟨by repeat ((with_reducible exact HB.out))⟩⟩
   ·rw [if_neg c7] at H
    have t_ : decide (20000 < a1) = false := decide_eq_false c7
    clear c7
    by_cases c8 : a0 < (wrap64 ((wrap64 (2 * a1)) - 1))
    ·rw [if_pos c8] at H
     have vZ : decide (a0 < (wrap64 ((wrap64 (2 * a1)) - 1))) = true := decide_eq_true c8
     clear c8
     have H' := ae.mk H
     clear H
     go_wp2
     go_meet
     case rel => exact ⟨_, (true), (by rfl), H', ⟨by omega⟩, ⟨by exact RF.out⟩, ⟨by repeat ((with_reducible exact HB.out))⟩⟩
    ·rw [if_neg c8] at H
     have vZ : decide (a0 < (wrap64 ((wrap64 (2 * a1)) - 1))) = false := decide_eq_false c8
     clear c8
     have H' := ae.mk H
     clear H
     go_wp2
     go_meet
     case rel => exact ⟨_, (decide (a0 > 2147483647)), (by rfl), H', ⟨by omega⟩, ⟨by exact RF.out⟩, ⟨by repeat ((with_reducible exact HB.out))⟩⟩
 case rest =>
  clear SK
  obtain ⟨kq, Sv, rfl, HA, HJ2, rP, HB⟩ := hcut
  cases kq with
  | zero => exact absurd HA.out (by simp [bQ.j0])
  | succ UO =>
   have H := HA.out
   clear HA
   simp only [bQ.j0] at H
   by_cases c9 : Sv = true
   ·subst c9
    have H1 : (some (vK, false)) = some (r1, r2) := by rw [if_pos rfl] at H; exact H
    clear H
    have H := H1
    clear H1
    simp only [Option.some.injEq, Prod.mk.injEq] at H
    obtain ⟨rfl, rfl⟩ := H
    go_wp2
    go_ret2
    exact ⟨_, by rfl, by exact rP.out, by repeat ((with_reducible exact HB.out))⟩
   ·replace c9 := Bool.eq_false_iff.mpr c9
    subst c9
    have H1 : (if a1 = 0 then (none) else (bQ.l0 UO a1 vK (wrap64 (Int.tdiv (wrap64 (a0 - (wrap64 (a1 - 1)))) a1)) (Int.tmod (wrap64 (a0 - (wrap64 (a1 - 1)))) a1) 0)) = some (r1, r2) := by rw [if_neg (show ¬ (false = true) by decide)] at H; exact H
    clear H
    have H := H1
    clear H1
    by_cases c10 : a1 = 0
    ·rw [if_pos c10] at H
     exact absurd H (by simp)
    ·rw [if_neg c10] at H
     have Cb : (a1 == 0) = false := beq_eq_false_iff_ne.mpr c10
     have Yt : (a1 != 0) = true := bne_iff_ne.mpr c10
     have H' := ae.mk H
     clear H
     go_wp2
     go_loopg [6, 9] UO (fun kq v6 v9 w' => ∃ (rW : List Int) (AU : Int), v9 = .int .i64 AU ∧ ae (bQ.l0 kq a1 rW (wrap64 (Int.tdiv (wrap64 (a0 - (wrap64 (a1 - 1)))) a1)) (Int.tmod (wrap64 (a0 - (wrap64 (a1 - 1)))) a1) AU = some (r1, r2)) ∧ ae (kq ≤ UO) ∧ ae (Kd.R (Kd.int .i64) 3 w' w.heap.size (fun _ => True) v6 rW) ∧ ae (Below w.heap.size w w'))
     case atStart => exact ⟨(vK), (0), (by rfl), H', ⟨Nat.le_refl _⟩, ⟨by exact rP.out⟩, ⟨by repeat ((with_reducible exact HB.out))⟩⟩
     case round =>
      clear H'
      clear c10 Cb Yt
      obtain ⟨rW, AU, rfl, HA, v_, rP, HB⟩ := hrel
      cases gk with
      | zero => exact absurd HA.out (by simp [bQ.l0])
      | succ k2 =>
       have H := HA.out
       clear HA
       simp only [bQ.l0] at H
       by_cases c11 : AU < a1
       ·rw [if_pos c11] at H
        have GZ : decide (AU < a1) = true := decide_eq_true c11
        clear c11
        by_cases c12 : AU < (Int.tmod (wrap64 (a0 - (wrap64 (a1 - 1)))) a1)
        ·rw [if_pos c12] at H
         have Cc : decide (AU < (Int.tmod (wrap64 (a0 - (wrap64 (a1 - 1)))) a1)) = true := decide_eq_true c12
         clear c12
         by_cases c13 : rW.length < 17592186044416
         ·rw [if_pos c13] at H
          have Ye := ae.mk c13
          clear c13
          obtain ⟨alJ, Zb⟩ : ∃ y_ : List Int, y_ = (rW ++ [wrap64 ((wrap64 (Int.tdiv (wrap64 (a0 - (wrap64 (a1 - 1)))) a1)) + 1)]) := ⟨_, rfl⟩
          replace H : (bQ.l0 k2 a1 alJ (wrap64 (Int.tdiv (wrap64 (a0 - (wrap64 (a1 - 1)))) a1)) (Int.tmod (wrap64 (a0 - (wrap64 (a1 - 1)))) a1) (wrap64 (AU + 1))) = some (r1, r2) := by (rw [Zb]; with_reducible exact H)
          have amK := ae.mk Zb
          clear Zb
          have H' := ae.mk H
          clear H
          go_wp2_with (((with_reducible refine ji (b := .append) (xs := #[.tmp 49, .tmp 52]) rfl ?_); at_builtin; refine Kd.oG (Kd.int .i64) (w0 := w) w.heap.size rfl (.tmp 49) (.tmp 52) 41 3 (.int .i64 0) 8 rfl Try.underlying41 info3 rfl (by decide) (by omega) u6 rW (wrap64 ((wrap64 (Int.tdiv (wrap64 (a0 - (wrap64 (a1 - 1)))) a1)) + 1)) [.int .i64 (wrap64 ((wrap64 (Int.tdiv (wrap64 (a0 - (wrap64 (a1 - 1)))) a1)) + 1))] (fun _ => True) (fun _ => False) rfl rfl ?aP (fun _ hk => hk.elim) ?aF ?aO ?aB ?aS ?aL ?_; (case aP => exact rfl); (case aB => exact (by repeat ((with_reducible exact HB.out)))); (case aF => exact (fun _ _ => trivial)); (case aO => exact rP.out); (case aS => exact (aY (by repeat ((with_reducible exact HB.out))))); (case aL => have := Ye.out; omega); intro awU w14 ho hb hg hat; rw [← amK.out] at ho; have al8 := ae.mk (ho); replace HB := ae.mk (hb); clear rP; clear ho hb hg hat))
          go_roundg k2
          case measure => have := HJ2.out; have := v_.out; omega
          case rel => exact ⟨(alJ), (wrap64 (AU + 1)), (by rfl), H', ⟨by have := HJ2.out; have := v_.out; omega⟩, ⟨by exact al8.out⟩, ⟨by repeat ((with_reducible exact HB.out))⟩⟩
         ·rw [if_neg c13] at H
          exact absurd H (by simp)
        ·rw [if_neg c12] at H
         have Cc : decide (AU < (Int.tmod (wrap64 (a0 - (wrap64 (a1 - 1)))) a1)) = false := decide_eq_false c12
         clear c12
         by_cases c15 : rW.length < 17592186044416
         ·rw [if_pos c15] at H
          have Yf := ae.mk c15
          clear c15
          obtain ⟨alK, Zc⟩ : ∃ y_ : List Int, y_ = (rW ++ [(wrap64 (Int.tdiv (wrap64 (a0 - (wrap64 (a1 - 1)))) a1))]) := ⟨_, rfl⟩
          replace H : (bQ.l0 k2 a1 alK (wrap64 (Int.tdiv (wrap64 (a0 - (wrap64 (a1 - 1)))) a1)) (Int.tmod (wrap64 (a0 - (wrap64 (a1 - 1)))) a1) (wrap64 (AU + 1))) = some (r1, r2) := by (rw [Zc]; with_reducible exact H)
          have amL := ae.mk Zc
          clear Zc
          have H' := ae.mk H
          clear H
          go_wp2_with (((with_reducible refine ji (b := .append) (xs := #[.tmp 54, .tmp 56]) rfl ?_); at_builtin; refine Kd.oG (Kd.int .i64) (w0 := w) w.heap.size rfl (.tmp 54) (.tmp 56) 41 3 (.int .i64 0) 8 rfl Try.underlying41 info3 rfl (by decide) (by omega) u6 rW (wrap64 (Int.tdiv (wrap64 (a0 - (wrap64 (a1 - 1)))) a1)) [.int .i64 (wrap64 (Int.tdiv (wrap64 (a0 - (wrap64 (a1 - 1)))) a1))] (fun _ => True) (fun _ => False) rfl rfl ?aP (fun _ hk => hk.elim) ?aF ?aO ?aB ?aS ?aL ?_; (case aP => exact rfl); (case aB => exact (by repeat ((with_reducible exact HB.out)))); (case aF => exact (fun _ _ => trivial)); (case aO => exact rP.out); (case aS => exact (aY (by repeat ((with_reducible exact HB.out))))); (case aL => have := Yf.out; omega); intro awV w16 ho hb hg hat; rw [← amL.out] at ho; have al9 := ae.mk (ho); replace HB := ae.mk (hb); clear rP; clear ho hb hg hat))
          go_roundg k2
          case measure => have := HJ2.out; have := v_.out; omega
          case rel => exact ⟨(alK), (wrap64 (AU + 1)), (by rfl), H', ⟨by have := HJ2.out; have := v_.out; omega⟩, ⟨by exact al9.out⟩, ⟨by repeat ((with_reducible exact HB.out))⟩⟩
         ·rw [if_neg c15] at H
          exact absurd H (by simp)
       ·rw [if_neg c11] at H
        have GZ : decide (AU < a1) = false := decide_eq_false c11
        clear c11
        simp only [Option.some.injEq, Prod.mk.injEq] at H
        obtain ⟨rfl, rfl⟩ := H
        go_wp2
        go_ret2
        exact ⟨_, by rfl, by exact rP.out, by repeat ((with_reducible exact HB.out))⟩
end Go.Proofs.Ytfdmfgaiblfbhaa.P
namespace Go.Proofs.Ytfdmfgaiblfbhaa.Pure
open Go.RowKit Go.Proofs.Ytfdmfgaiblfbhaa.P Go.Proofs.ai.bg Go.Proofs.ai.di Go.Proofs.ai.dG
theorem afU : Ev (fun k => mY.f k) true := Ev.of (k := 200) (fun k => mY.mono k) (by decide +kernel)
def Can (s n : Int) : Prop := 1 ≤ n ∧ n ≤ 20000 ∧ 2 * n - 1 ≤ s ∧ s ≤ 2147483647
theorem adV (s n : Int) (h : Can s n) : Ev (fun k => fU.f k s n) (moreL (s - n + 1) n.toNat, true) := by
 obtain ⟨h1, h2, h3, h4⟩ := h
 have hw1 : wrap64 (2 * n) = 2 * n := wp (by omega) (by omega)
 have hw2 : wrap64 (2 * n - 1) = 2 * n - 1 := wp (by omega) (by omega)
 have hw3 : wrap64 (s - n) = s - n := wp (by omega) (by omega)
 have hw4 : wrap64 (s - n + 1) = s - n + 1 := wp (by omega) (by omega)
 unfold fU.f
 rw [hw1, hw2, hw3, hw4]
 refine Ev.lM (by omega) (Ev.lM (by omega) (Ev.lM (by omega) (Ev.lM (by omega) (Ev.nz (by omega) (Ev.nz (by omega) ?_)))))
 obtain ⟨r, hr, hE⟩ := Rh (s - n + 1) (List.replicate n.toNat 0) (by simp; omega) (by omega) (by omega)
 have hz : total (List.replicate n.toNat 0) = 0 := by
  generalize n.toNat = m
  induction m with
  | zero => rfl
  | succ m ih => simp only [List.replicate_succ, total, ih]; rfl
 have hr2 : r = (moreL (s - n + 1) n.toNat, true) := by
  rcases hr with ⟨_, h | h | ⟨_, h⟩⟩ | ⟨h, _⟩ | ⟨qs, _, _, hb, _⟩
  ·have := congrArg List.length h; simp at this; omega
  ·exact absurd (fun g hg => by rw [List.eq_of_mem_replicate hg]; omega) h
  ·rw [hz] at h; omega
  ·rw [h, List.length_replicate]
  ·omega
 rw [hr2] at hE
 exact Ev.bind hE (Ev.now _)
theorem adU (s n : Int) (h : ¬ Can s n) : Ev (fun k => fU.f k s n) ([], false) := by
 unfold Can at h
 unfold fU.f
 by_cases h1 : n < 1
 ·exact Ev.nz h1 (Ev.now _)
 ·refine Ev.lM h1 ?_
  by_cases h2 : n > 20000
  ·exact Ev.nz h2 (Ev.now _)
  ·refine Ev.lM h2 ?_
   have hw1 : wrap64 (2 * n) = 2 * n := wp (by omega) (by omega)
   have hw2 : wrap64 (2 * n - 1) = 2 * n - 1 := wp (by omega) (by omega)
   rw [hw1, hw2]
   by_cases h3 : s < 2 * n - 1
   ·exact Ev.nz h3 (Ev.now _)
   ·exact Ev.lM h3 (Ev.nz (by omega) (Ev.now _))
theorem ak8 (s n : Int) (h : ¬ Can s n) : Ev (fun k => bQ.f k s n) ([], false) := by
 have j : Ev (fun k => bQ.j0 k s n [] true) ([], false) := by
  refine Ev.step (fun k => ?_) (Ev.now _)
  simp only [bQ.j0]
  rw [if_pos trivial]
 unfold Can at h
 unfold bQ.f
 refine Ev.congr (f := fun k => _) (fun k => Option.bind_some _ _) ?_
 by_cases h1 : n < 1
 ·exact Ev.nz h1 j
 ·refine Ev.lM h1 ?_
  by_cases h2 : n > 20000
  ·exact Ev.nz h2 j
  ·refine Ev.lM h2 ?_
   have hw1 : wrap64 (2 * n) = 2 * n := wp (by omega) (by omega)
   have hw2 : wrap64 (2 * n - 1) = 2 * n - 1 := wp (by omega) (by omega)
   rw [hw1, hw2]
   by_cases h3 : s < 2 * n - 1
   ·exact Ev.nz h3 j
   ·refine Ev.lM h3 ?_
    rw [decide_eq_true (by omega)]
    exact j
theorem ak9 (s n : Int) (h : Can s n) : Ev (fun k => bQ.f k s n) (moreL (s - n + 1) n.toNat, true) := by
 obtain ⟨h1, h2, h3, h4⟩ := h
 have q0 : 0 ≤ (s - n + 1) / n := Int.ediv_nonneg (by omega) (by omega)
 have q1 : (s - n + 1) / n ≤ s - n + 1 := Int.ediv_le_self _ (by omega)
 have HW6 := ae.mk (wp (x := (s - n + 1) / n + 1) (by omega) (by omega))
 have key : ∀ d i, i + d = n.toNat → Ev (fun k => bQ.l0 k n ((moreL (s - n + 1) n.toNat).take i) ((s - n + 1) / n) ((s - n + 1) % n) (i : Nat)) (moreL (s - n + 1) n.toNat, true) := by
  intro d
  induction d with
  | zero =>
   intro i hi
   refine Ev.step (fun k => ?_) (Ev.now _)
   simp only [bQ.l0]
   rw [if_neg (by omega), List.take_of_length_le (by rw [qo]; omega)]
  | succ d ih =>
   intro i hi
   refine Ev.step (fun k => ?_) (ih (i + 1) (by omega))
   have hi' : i < (moreL (s - n + 1) n.toNat).length := by rw [qo]; omega
   have e : (moreL (s - n + 1) n.toNat).take (i + 1) = (moreL (s - n + 1) n.toNat).take i ++ [oz (s - n + 1) n (i : Nat)] := by
    rw [List.take_succ_eq_append_getElem hi']
    congr 2
    simp only [moreL, List.getElem_map, List.getElem_range]
    rw [show ((n.toNat : Nat) : Int) = n by omega]
   have hl0 : ((moreL (s - n + 1) n.toNat).take i).length ≤ 20000 := by rw [List.length_take, qo]; omega
   have hwi : wrap64 ((i : Int) + 1) = ((i + 1 : Nat) : Int) := by rw [wp (by omega) (by omega)]; omega
   have hin : (i : Int) < n := by omega
   have hl : ((moreL (s - n + 1) n.toNat).take i).length < 17592186044416 := Nat.lt_of_le_of_lt hl0 (by decide)
   simp only [bQ.l0]
   rw [if_pos hin, HW6.out, hwi, e, if_pos hl]
   unfold oz
   by_cases hc : (i : Int) < (s - n + 1) % n
   ·rw [if_pos hc, if_pos hc]
   ·rw [if_neg hc, if_neg hc, if_pos hl, Int.add_zero]
 have hw1 : wrap64 (2 * n) = 2 * n := wp (by omega) (by omega)
 have hw2 : wrap64 (2 * n - 1) = 2 * n - 1 := wp (by omega) (by omega)
 have hw3 : wrap64 (n - 1) = n - 1 := wp (by omega) (by omega)
 have hw4 : wrap64 (s - (n - 1)) = s - n + 1 := by rw [wp (by omega) (by omega)]; omega
 have hw5 : wrap64 ((s - n + 1) / n) = (s - n + 1) / n := wp (by omega) (by omega)
 unfold bQ.f
 refine Ev.congr (f := fun k => _) (fun k => Option.bind_some _ _) ?_
 rw [hw1, hw2, decide_eq_false (by omega)]
 refine Ev.lM (by omega) (Ev.lM (by omega) (Ev.lM (by omega) ?_))
 refine Ev.step (f := fun k => bQ.l0 k n [] ((s - n + 1) / n) ((s - n + 1) % n) 0) (fun k => ?_) ?_
 ·simp only [bQ.j0]
  rw [if_neg (by simp), if_neg (by omega), hw3, hw4, Int.tdiv_eq_ediv_of_nonneg (by omega), Int.tmod_eq_emod_of_nonneg (by omega), hw5]
 ·have := key n.toNat 0 (by omega)
  simpa using this
end Go.Proofs.Ytfdmfgaiblfbhaa.Pure
namespace Go.Proofs.Ytfdmfgaiblfbhaa.P
open Go.RowKit Go.Proofs.ai.bg Go.Proofs.ai.di Go.Proofs.ai.dG
theorem Jw : ∀ (N : Nat), (∀ c : aI, sz c ≤ N → ∀ x y, sz (bu c x y) = sz c) ∧ (∀ l : List aI, jw l ≤ N → ∀ a x y, jw (qf a l x y) = jw l) := by
 intro N
 induction N with
 | zero => exact ⟨fun c h => by rw [gm] at h; omega, fun l h a x y => by cases l with
  | nil => rw [yA]
  | cons k ks => rw [gz] at h; have := gm k; omega⟩
 | succ N ih =>
  have hC : ∀ c : aI, sz c ≤ N + 1 → ∀ x y, sz (bu c x y) = sz c := fun c h x y => by
   rw [CQ, gm, gm c]
   show 1 + jw (qf c.f0 c.f3 x y) = _
   rw [ih.2 c.f3 (by rw [gm] at h; omega)]
  refine ⟨hC, fun l => ?_⟩
  induction l with
  | nil => intro _ a x y; rw [yA]
  | cons k ks ihl =>
   intro h a x y
   rw [BB, gz, gz]
   rw [gz] at h
   rw [hC k (by omega), ihl (by omega)]
def FB (k : Int) : Int := ((k - 2) % 256 + 1) % 256
noncomputable def uT (s n : Int) : List Int × Bool := by
 classical
 exact if Pure.Can s n then (moreL (s - n + 1) n.toNat, true) else ([], false)
theorem ali (s n : Int) : Ev (fun k => fU.f k s n) (uT s n) := by
 unfold uT
 by_cases h : Pure.Can s n
 ·rw [if_pos h]; exact Pure.adV s n h
 ·rw [if_neg h]; exact Pure.adU s n h
theorem aiq (s n : Int) : Ev (fun k => bQ.f k s n) (uT s n) := by
 unfold uT
 by_cases h : Pure.Can s n
 ·rw [if_pos h]; exact Pure.ak9 s n h
 ·rw [if_neg h]; exact Pure.ak8 s n h
theorem XG {s : Int} {n : Nat} (h : (uT s n).2 = true) : (uT s n).1.length = n := by
 unfold uT at h ⊢
 split at h
 ·rename_i hc
  rw [if_pos hc]
  rw [qo]
  simp
 ·cases h
noncomputable def vw (ax : Int) (k : aI) (n : Int) : Int := aN ax (bu k 0 0) (wrap64 (n - dA ax k.f1))
noncomputable def dX (ax : Int) (k : aI) (n : Int) : aI := aZ ax (bu k 0 0) (wrap64 (n - dA ax k.f1))
noncomputable def mW (ax : Int) (ns : Nat → Int) : Nat → List aI → List aI
 | _, [] => []
 | i, k :: ks => dX ax k (ns i) :: mW ax ns (i + 1) ks
noncomputable def vz (ax : Int) (ns : Nat → Int) : Nat → List aI → Bool
 | _, [] => false
 | i, k :: ks => (vw ax k (ns i) != 0) || vz ax ns (i + 1) ks
theorem yU (ax : Int) (ns : Nat → Int) : ∀ (l : List aI) (i : Nat), (mW ax ns i l).length = l.length := by
 intro l
 induction l with
 | nil => intro i; rfl
 | cons k ks ih => intro i; simp only [mW, List.length_cons, ih]
theorem Oe (ax : Int) (ns : Nat → Int) (k : aI) : ∀ (l : List aI) (i : Nat), mW ax ns i (l ++ [k]) = mW ax ns i l ++ [dX ax k (ns (i + l.length))] := by
 intro l
 induction l with
 | nil => intro i; simp [mW]
 | cons x xs ih => intro i; simp only [List.cons_append, mW, ih, List.length_cons]; rw [show i + 1 + xs.length = i + (xs.length + 1) by omega]
theorem ED (ax : Int) (ns : Nat → Int) (b : List aI) : ∀ (a : List aI) (i : Nat), vz ax ns i (a ++ b) = (vz ax ns i a || vz ax ns (i + a.length) b) := by
 intro a
 induction a with
 | nil => intro i; simp [vz]
 | cons x xs ih => intro i; simp only [List.cons_append, vz, ih, List.length_cons, Bool.or_assoc]; rw [show i + 1 + xs.length = i + (xs.length + 1) by omega]
theorem ac4 (ax : Int) (ns : Nat → Int) (pre : List aI) (k : aI) (rest : List aI) : (mW ax ns 0 pre ++ k :: rest).set pre.length (dX ax k (ns pre.length)) = mW ax ns 0 (pre ++ [k]) ++ rest := by
 rw [Oe, List.append_assoc, List.set_append_right _ _ (by rw [yU]; exact Nat.le_refl _), yU, Nat.sub_self, List.set_cons_zero, Nat.zero_add]
 rfl
theorem ah1 (ax : Int) (ns : Nat → Int) (pre : List aI) (k : aI) (rest : List aI) : au (mW ax ns 0 pre ++ k :: rest) (pre.length : Int) = k := by
 have := lS (mW ax ns 0 pre) k rest
 rw [yU] at this
 exact this
noncomputable def nK (c : aI) : List aI × Int :=
 if c.f0 = 1 then ([], 10) else if (uT (dA (FB c.f0) c.f1) (c.f3.length : Int)).2 = false then ([], 7)
 else if vz (FB c.f0) (fun i => rd (uT (dA (FB c.f0) c.f1) (c.f3.length : Int)).1 (i : Int)) 0 c.f3 = true then ([], 7)
 else (mW (FB c.f0) (fun i => rd (uT (dA (FB c.f0) c.f1) (c.f3.length : Int)).1 (i : Int)) 0 c.f3, 0)
noncomputable def dY : Nat → aI → aI
 | 0, c => c
 | n + 1, c => ⟨c.f0, c.f1, c.f2, (if (nK c).2 = 0 then (nK c).1 else c.f3).map (dY n)⟩
theorem amZ (ax : Int) (c : aI) (b : Int) : sz (aZ ax c b) ≤ sz c := by
 have h1 := gm c
 unfold aZ
 split
 ·rw [show sz z26 = 1 by decide]; omega
 ·split
  ·rw [show sz z26 = 1 by decide]; omega
  ·rw [(Jw _).1 _ (Nat.le_refl _), (Tt ax _).1 _ (Nat.le_refl _)]; exact Nat.le_refl _
theorem ac2 (ax : Int) (ns : Nat → Int) : ∀ (l : List aI) (i : Nat), jw (mW ax ns i l) ≤ jw l := by
 intro l
 induction l with
 | nil => intro i; exact Nat.le_refl _
 | cons k ks ih =>
  intro i
  simp only [mW]
  rw [gz, gz]
  have h1 := amZ ax (bu k 0 0) (wrap64 (ns i - dA ax k.f1))
  rw [(Jw _).1 _ (Nat.le_refl _)] at h1
  have h2 := ih (i + 1)
  unfold dX
  omega
theorem LG (c : aI) : jw (if (nK c).2 = 0 then (nK c).1 else c.f3) ≤ jw c.f3 := by
 split
 ·unfold nK
  split
  ·rw [vU]; omega
  ·split
   ·rw [vU]; omega
   ·split
    ·rw [vU]; omega
    ·exact ac2 _ _ _ _
 ·exact Nat.le_refl _
theorem Vb : ∀ (n : Nat) (c : aI), sz (dY n c) ≤ sz c := by
 intro n
 induction n with
 | zero => intro c; exact Nat.le_refl _
 | succ n ih =>
  intro c
  have hm : ∀ l : List aI, jw (l.map (dY n)) ≤ jw l := by
   intro l
   induction l with
   | nil => exact Nat.le_refl _
   | cons x xs ihl => rw [List.map_cons, gz, gz]; have := ih x; omega
  have h1 := hm (if (nK c).2 = 0 then (nK c).1 else c.f3)
  have h2 := LG c
  simp only [dY]
  rw [gm, gm c]
  show 1 + jw ((if (nK c).2 = 0 then (nK c).1 else c.f3).map (dY n)) ≤ _
  omega
noncomputable def Yl (c : aI) : Int := if jy c = true then 0 else 1
noncomputable def tY (c : aI) : aI := if jy c = true then bu (dY 100000 c) c.f1.f0 c.f1.f1 else z26
theorem ah8 (f : aI → aI) (pre : List aI) (k : aI) (rest : List aI) : (pre.map f ++ k :: rest).set pre.length (f k) = (pre ++ [k]).map f ++ rest := by
 rw [List.map_append, List.append_assoc, List.set_append_right _ _ (by rw [List.length_map]; exact Nat.le_refl _), List.length_map, Nat.sub_self, List.set_cons_zero]
 rfl
theorem akT (f : aI → aI) (pre : List aI) (k : aI) (rest : List aI) : au (pre.map f ++ k :: rest) (pre.length : Int) = k := by
 have := lS (pre.map f) k rest
 rw [List.length_map] at this
 exact this
section
variable {W : World} {b : Nat} {P : Nat → Prop} {A : Option Addr} {cc : Nat}
theorem aim (s n : Int) : Calls Try.prog 53 #[.int .i64 s, .int .i64 n] W fun e w' => ∃ A' c', e = .returned (.tuple #[.slice A' (uT s n).1.length c', .bool (uT s n).2]) ∧ (Kd.int .i64).R 3 w' W.heap.size (fun _ => True) (.slice A' (uT s n).1.length c') (uT s n).1 ∧ Below W.heap.size W w' := by
 obtain ⟨k, hk⟩ := (ali s n).rounds
 exact (fU.calls k s n _ _ W hk).mono (fun e w' ⟨v, he, hR, hB⟩ => by
  obtain ⟨A', c', rfl⟩ := Kd.iJ hR
  exact ⟨A', c', he, hR, hB⟩)
theorem adO (s n : Int) : Calls Try.prog 54 #[.int .i64 s, .int .i64 n] W fun e w' => ∃ A' c', e = .returned (.tuple #[.slice A' (uT s n).1.length c', .bool (uT s n).2]) ∧ (Kd.int .i64).R 3 w' W.heap.size (fun _ => True) (.slice A' (uT s n).1.length c') (uT s n).1 ∧ Below W.heap.size W w' := by
 obtain ⟨k, hk⟩ := (aiq s n).rounds
 exact (bQ.calls k s n _ _ W hk).mono (fun e w' ⟨v, he, hR, hB⟩ => by
  obtain ⟨A', c', rfl⟩ := Kd.iJ hR
  exact ⟨A', c', he, hR, hB⟩)
end
abbrev ab7 (w : World) (P : Nat → Prop) (l : List aI) (n : Int) (e : Ending) (w' : World) : Prop := ∃ A c, e = .returned (.tuple #[.slice A l.length c, .int .i64 n]) ∧ Kd.V k26 26 w' w.heap.size (fun k => P k ∨ w.heap.size ≤ k) (.slice A l.length c) l ∧ Below w.heap.size w w'
def zf.T18 : Bool × List (List Nat × List Nat) := (true, [([], []), ([0], [0]), ([], []), ([], []), ([], []), ([], []), ([3, 4, 5], [3, 4, 5]), ([1, 2, 0, 1, 2, 3, 4, 5, 6], [1, 2]), ([7, 6, 6, 0, 1, 2, 3, 4, 5, 6], [6, 7])])
def zf.B18 : List Nat := [0, 1, 0, 0, 0, 0, 56, 127, 255]
theorem zf.an' : lC .any (opsOf Try.f199 18) = zf.T18 := by kernel_rfl
theorem zf.ajN : lu zf.T18.2 zf.B18 = true := by kernel_rfl
theorem afQ {W : World} {b : Nat} {P : Nat → Prop} {A : Option Addr} {n cc : Nat} (c : aI) (ax : Int) (hV : Kd.V k26 26 W b P (.slice A n cc) c.f3) :
  Calls Try.prog 99 #[.agg #[.int .u8 c.f0, .int .i64 c.f1.f0, .int .i64 c.f1.f1, .int .i64 c.f1.f2, .int .i64 c.f1.f3, .int .i64 c.f2, .slice A n cc], .int .u8 ax] W fun e w' => e = .returned (.bool (kQ ax c.f0)) ∧ Below W.heap.size W w' := by
 obtain rfl := (Kd.oH hV).1
 exact afP c ax hV
theorem ajF (ax : Int) : ∀ (N : Nat) (c : aI), sz c ≤ N → N ≤ 100000 → ∀ (bY : Int), (-2147483647 ≤ bY ∧ bY ≤ 2147483647) → ∀ (P : Nat → Prop) (A : Option Addr) (cc : Nat) (w : World), Kd.V k26 26 w w.heap.size P (.slice A c.f3.length cc) c.f3 →
  Calls Try.prog 199 #[.agg #[.int .u8 c.f0, .int .i64 c.f1.f0, .int .i64 c.f1.f1, .int .i64 c.f1.f2, .int .i64 c.f1.f3, .int .i64 c.f2, .slice A c.f3.length cc], .int .u8 ax, .int .i64 bY] w (zt w P (eU ax c bY)) := by
 intro N
 induction N with
 | zero => intro c h; rw [gm] at h; omega
 | succ N ih =>
  intro c hc hN bY hby P A cc w hv
  have hsz := gm c
  have hlen := nN c.f3
  have hl1 : c.f3.length ≤ 100000 := by omega
  have IH := ae.mk fun (k : aI) (hk : k ∈ c.f3) (n : Int) (hn : -2147483647 ≤ n ∧ n ≤ 2147483647) P A cc w h => ih k (by have := vV hk; omega) (by omega) n hn P A cc w h
  have Bf := ae.mk fun (k : aI) (hk : k ∈ c.f3) => (show sz k ≤ 1048576 by have := vV hk; omega)
  have pG := ae.mk (show c.f3.length ≤ 1000000 by omega)
  have Q3 := DX bY (c.f3.map (gy ax)) (by simpa using hl1) hby.1 hby.2
  have hsl := XF (b := bY) (gs := c.f3.map (gy ax)) (by simpa using hl1) hby.1 hby.2
  have hsb := abH (b := bY) (gs := c.f3.map (gy ax)) (by simpa using hl1) hby.1 hby.2
  have Hq := fun (Ag : Option Addr) (cg : Nat) (W : World) (hC : Kd.C (Kd.int .i64) W Ag (c.f3.map (gy ax)).length (c.f3.map (gy ax))) (h2 : (c.f3.map (gy ax)).length ≤ cg) => adS bY (c.f3.map (gy ax)) (by simpa using hl1) hby.1 hby.2 hC h2
  have xU : ∀ i, Xv ax c.f0 c.f3 bY i = if (uS bY (c.f3.map (gy ax))).2 = true ∧ kQ ax c.f0 = true then rd (uS bY (c.f3.map (gy ax))).1 (i : Int) else bY := fun i => rfl
  rw [OM]
  have S := ae.mk (St.start (ts := [(.slice A c.f3.length cc, c.f3)]) (b0 := w.heap.size) (w := w) (P := P) (fun t ht => by rw [List.mem_singleton.1 ht]; exact hv))
  obtain ⟨ck, ⟨cx, cy, cw, ch⟩, aV, l⟩ := c
  simp only [] at S IH Bf pG Q3 hsl hsb Hq xU hl1 ⊢
  obtain ⟨gw, hgw⟩ : ∃ gw, gw = if ax = 1 then wrap64 (cw + bY) else cw := ⟨_, rfl⟩
  obtain ⟨gh, hgh⟩ : ∃ gh, gh = if ax = 1 then ch else wrap64 (ch + bY) := ⟨_, rfl⟩
  simp only [grow]
  rw [← hgw, ← hgh]
  generalize Xv ax ck l bY = NS at xU ⊢
  obtain ⟨⟨sl, ok⟩, hsp⟩ : ∃ sp, sp = uS bY (l.map (gy ax)) := ⟨_, rfl⟩
  simp only [← hsp, List.length_map] at hsl hsb Hq xU
  have HNB := ae.mk (show ∀ i, i < l.length → -2147483647 ≤ NS i ∧ NS i ≤ 2147483647 from fun i hi => by
   rw [xU i]
   split
   ·rename_i h
    exact hsb _ (by unfold rd; rw [List.getD_eq_getElem?_getD, List.getElem?_eq_getElem (by rw [hsl h.1]; simpa using hi)]; exact List.getElem_mem _)
   ·exact hby)
  have MW := ae.mk hsl
  have KG := ae.mk xU
  have Z_ := ae.mk Hq
  have KF := ae.mk hgw
  have SQ := ae.mk hgh
  have HL1 := ae.mk hl1
  clear ih hc hN hby hv hsz hlen Q3 hsl hsb Hq xU hgw hgh hsp hl1
  go_enter Try.func199, Try.ntmps199
  go_upto_if 16 with (first
   | ((with_reducible refine bV 3 rfl ?_); refine boxS 3 #[.int .u8 ck, .int .i64 cx, .int .i64 cy, .int .i64 cw, .int .i64 ch, .int .i64 aV, .slice A l.length cc] 26 S ?_; clear S; intro b3 oC S)
   | ((with_reducible refine bV 6 rfl ?_); refine boxS 6 #[.int .u8 0, .int .i64 0, .int .i64 0, .int .i64 0, .int .i64 0, .int .i64 0, .slice none 0 0] 26 S ?_; clear S; intro b6 qU S)
   | fail)
  go_cut [] (fun wc => ae (St w P [(some b6, .cells #[.int .u8 0, .int .i64 0, .int .i64 0, .int .i64 0, .int .i64 0, .int .i64 0, .slice none 0 0] 26 (0, 0)), (some b3, .cells #[.int .u8 ck, .int .i64 cx, .int .i64 cy, .int .i64 gw, .int .i64 gh, .int .i64 aV, .slice A l.length cc] 26 (0, 0))] [] [(.slice A l.length cc, l)] [] wc))
  case first =>
   by_cases hx : ax = 1
   ·have hxb : (ax == 1) = true := beq_iff_eq.mpr hx
    have HX := ae.mk hx
    clear hx
    have ig := (S.out.at (.tail _ (.head _)) 3).trans rfl
    go_wp2_with (first
     | ((with_reducible refine kR 3 (.tmp 23) (.tmp 21) rfl ?_); refine BP 3 23 21 #[.int .u8 ck, .int .i64 cx, .int .i64 cy, .int .i64 (wrap64 (cw + bY)), .int .i64 ch, .int .i64 aV, .slice A l.length cc] 3 1 S ?_; clear S; intro xm S; clear ig)
     | fail)
    go_meet
    case rel => rw [KF.out, SQ.out, if_pos HX.out, if_pos HX.out]; exact S
   ·have hxb : (ax == 1) = false := beq_eq_false_iff_ne.mpr hx
    have HX := ae.mk hx
    clear hx
    have ik := (S.out.at (.tail _ (.head _)) 4).trans rfl
    go_wp2_with (first
     | ((with_reducible refine kR 3 (.tmp 30) (.tmp 28) rfl ?_); refine BP 3 30 28 #[.int .u8 ck, .int .i64 cx, .int .i64 cy, .int .i64 cw, .int .i64 (wrap64 (ch + bY)), .int .i64 aV, .slice A l.length cc] 4 1 S ?_; clear S; intro wJ S; clear ik)
     | fail)
    go_meet
    case rel => rw [KF.out, SQ.out, if_neg HX.out, if_neg HX.out]; exact S
  case rest =>
   clear S KF SQ
   rename World => wx
   have S := hcut
   clear hcut
   have eY := (S.out.at (.tail _ (.head _)) 6).trans rfl
   go_wp2_with (first
    | ((with_reducible refine bV 33 rfl ?_); refine YL (some 33) Try.func137 S (OV l pG.out (S.out.tree _ (.head _))) ?_; clear S; intro A1 c1 D9 S; clear eY)
    | ((with_reducible refine kR 24 (.tmp 34) (.tmp 33) rfl ?_); refine BP 24 34 33 #[.int .u8 ck, .int .i64 cx, .int .i64 cy, .int .i64 gw, .int .i64 gh, .int .i64 aV, .slice A1 l.length c1] 6 1 S ?_; clear S; intro KY S; have eY := (S.out.at (.tail _ (.head _)) 6).trans rfl)
    | fail)
   clear eY
   obtain ⟨oi, S1, HI0⟩ := S.out.noI
   clear S
   go_loopg [7, 38] l.length (fun gg v7 v38 wr => ∃ (pre rest : List aI) (Ag : Option Addr) (cg : Nat) (og : Obj), v7 = .slice Ag pre.length cg ∧ v38 = .int .i64 (pre.length : Int) ∧ ae (pre ++ rest = l) ∧ rest.length ≤ gg ∧ ae (IR w.heap.size (.slice Ag pre.length cg) (pre.map (gy ax)) og) ∧ ae (St w P [((Value.slice Ag pre.length cg).ownBlock, og), (some b6, .cells #[.int .u8 0, .int .i64 0, .int .i64 0, .int .i64 0, .int .i64 0, .int .i64 0, .slice none 0 0] 26 (0, 0)), (some b3, .cells #[.int .u8 ck, .int .i64 cx, .int .i64 cy, .int .i64 gw, .int .i64 gh, .int .i64 aV, .slice A1 l.length c1] 26 (0, 0))] [(.slice A1 l.length c1, l)] [(.slice A l.length cc, l)] [] wr))
   case atStart => exact ⟨[], l, none, 0, oi, rfl, rfl, ⟨rfl⟩, Nat.le_refl _, ⟨HI0⟩, ⟨S1⟩⟩
   case round =>
    clear S1 HI0 oi
    obtain ⟨pre, rest, Ag, cg, og, rfl, rfl, HE, hgg, HI, S⟩ := hrel
    cases rest with
    | nil =>
     have hE := HE.out
     rw [List.append_nil] at hE
     have hE2 := hE.symm
     subst hE2
     clear hE HE hgg
     have hlt : ¬ ((l.length : Int) < (l.length : Int)) := by omega
     have Q3 := fun W hW => Z_.out Ag cg W (by have h := (Kd.dH (HI.out W hW)).2.2; rw [List.length_map] at h; exact h) (by have h := (Kd.dH (HI.out W hW)).2.1; exact h)
     have HSH := ae.mk Q3
     clear Q3 Z_
     go_wp2_with (first
      | ((with_reducible refine bV 52 rfl ?_); refine NK (some 52) Try.func49 (HSH.out _ (S.out.blk _ (.head _))) ?_; rintro e JH ⟨As, cs, rfl, h1, hb⟩; refine ⟨_, rfl, ?_⟩; obtain ⟨os, S1, HI1⟩ := S.out.Ju h1 hb; replace S := ae.mk S1; have HIS := ae.mk HI1; clear S1 HI1 h1 hb; have eY := (S.out.at (.tail _ (.tail _ (.tail _ (.head _)))) 6).trans rfl)
      | fail)
     clear eY
     go_loopg [58] l.length (fun gg v58 wr => ∃ (pre rest : List aI), v58 = .int .i64 (pre.length : Int) ∧ ae (pre ++ rest = l) ∧ rest.length ≤ gg ∧ ae (St w P [((Value.slice As sl.length cs).ownBlock, os), ((Value.slice Ag l.length cg).ownBlock, og), (some b6, .cells #[.int .u8 0, .int .i64 0, .int .i64 0, .int .i64 0, .int .i64 0, .int .i64 0, .slice none 0 0] 26 (0, 0)), (some b3, .cells #[.int .u8 ck, .int .i64 cx, .int .i64 cy, .int .i64 gw, .int .i64 gh, .int .i64 aV, .slice A1 l.length c1] 26 (0, 0))] [(.slice A1 l.length c1, (nC ax pre NS 0 ++ rest))] [(.slice A l.length cc, l)] [] wr))
     case atStart => exact ⟨[], l, rfl, ⟨rfl⟩, Nat.le_refl _, ⟨by rw [zX]; exact S.out⟩⟩
     case round =>
      clear S
      obtain ⟨pre, rest, rfl, HE, hgg, S⟩ := hrel
      cases rest with
      | nil =>
       have hE := HE.out
       rw [List.append_nil] at hE
       have hE2 := hE.symm
       subst hE2
       clear hE HE hgg
       have hlt : ¬ ((l.length : Int) < (l.length : Int)) := by omega
       obtain ⟨gY, gZ, g_, ig, ik, je, eY⟩ := St.nU S (.tail _ (.tail _ (.tail _ (.head _))))
       go_wp2_with (first
        | ((with_reducible refine kR 26 (.tmp 6) (.tmp 83) rfl ?_); refine ak1 26 6 83 #[.int .u8 ck, .int .i64 cx, .int .i64 cy, .int .i64 gw, .int .i64 gh, .int .i64 aV, .slice A1 l.length c1] 0 7 S ?_; clear S; intro Rk S; clear gY gZ g_ ig ik je eY)
        | fail)
       refine bodyPost_ret (results_cell_row rfl _ _ b6 26 #[.int .u8 ck, .int .i64 cx, .int .i64 cy, .int .i64 gw, .int .i64 gh, .int .i64 aV, .slice A1 l.length c1] (0, 0) _ rfl (S.out.blk _ (.tail _ (.tail _ (.head _))) _ rfl) Try.underlying26 rfl (by kernel_rfl)) rfl ?_
       have hN := S.out.Aj
       rw [List.append_nil] at hN
       simp only [zt, zW]
       exact ⟨_, _, rfl, hN, S.out.below⟩
      | cons k rest =>
       have hk : k ∈ l := by rw [← HE.out]; simp
       have hlt : (pre.length : Int) < (l.length : Int) := by rw [← HE.out, List.length_append, List.length_cons]; omega
       have hw1 : wrap64 ((pre.length : Int) + 1) = ((pre ++ [k]).length : Int) := by have := pG.out; rw [List.length_append, List.length_singleton]; unfold wrap64; omega
       have HW1 := ae.mk hw1
       have qO := ae.mk hgg
       have HK := ae.mk hk
       have Il := ae.mk (Bf.out k hk)
       have Em := ae.mk (show pre.length ≤ 1000000 by have := pG.out; omega)
       have HJ := ae.mk (show pre.length < l.length by omega)
       have Ej := ae.mk (show (pre.length : Int) < ((nC ax pre NS 0 ++ k :: rest).length : Int) by rw [List.length_append, zW, List.length_cons]; omega)
       obtain ⟨g, cap, ev, _⟩ := Kd.Io S.out.Aj (by have := Ej.out; omega)
       injection ev with e1 e2 e3
       subst e1
       clear e2 e3 hk hgg hw1
       obtain ⟨ua, uc, S1, hcell⟩ := S.out.JR (pre.length : Int) (Int.natCast_nonneg _) Ej.out
       have hrd : au (nC ax pre NS 0 ++ k :: rest) (pre.length : Int) = k := ajG ax NS pre k rest
       rw [hrd] at S1 hcell
       replace S := ae.mk S1
       have x0 : wr.cell? ⟨g, pre.length * 7, none⟩ = some (.int .u8 k.f0) := hcell 0 _ rfl
       have x1 : wr.cell? ⟨g, pre.length * 7 + 1, none⟩ = some (.int .i64 k.f1.f0) := hcell 1 _ rfl
       have x2 : wr.cell? ⟨g, pre.length * 7 + 2, none⟩ = some (.int .i64 k.f1.f1) := hcell 2 _ rfl
       have x3 : wr.cell? ⟨g, pre.length * 7 + 3, none⟩ = some (.int .i64 k.f1.f2) := hcell 3 _ rfl
       have x4 : wr.cell? ⟨g, pre.length * 7 + 4, none⟩ = some (.int .i64 k.f1.f3) := hcell 4 _ rfl
       have x5 : wr.cell? ⟨g, pre.length * 7 + 5, none⟩ = some (.int .i64 k.f2) := hcell 5 _ rfl
       have x6 : wr.cell? ⟨g, pre.length * 7 + 6, none⟩ = some (.slice ua k.f3.length uc) := hcell 6 _ rfl
       clear S1 hcell hrd
       go_upto_region 16 with (first
        | ((with_reducible refine bV 13 rfl ?_); refine boxS 13 #[.int .u8 0, .int .i64 0, .int .i64 0, .int .i64 0, .int .i64 0, .int .i64 0, .slice none 0 0] 26 S ?_; clear S; intro b13 Rl S; clear x0 x1 x2 x3 x4 x5 x6)
        | ((with_reducible refine kR 26 (.tmp 13) (.tmp 62) rfl ?_); refine rU 26 13 62 #[.int .u8 k.f0, .int .i64 k.f1.f0, .int .i64 k.f1.f1, .int .i64 k.f1.f2, .int .i64 k.f1.f3, .int .i64 k.f2, .slice ua k.f3.length uc] 0 7 S ?_; clear S; intro QC S)
        | fail)
       go_cut [69] (fun v69 wc => v69 = .bool (ok && kQ ax ck) ∧ ae (St w P [(some b13, .cells #[.int .u8 k.f0, .int .i64 k.f1.f0, .int .i64 k.f1.f1, .int .i64 k.f1.f2, .int .i64 k.f1.f3, .int .i64 k.f2, .slice ua k.f3.length uc] 26 (0, 0)), ((Value.slice As sl.length cs).ownBlock, os), ((Value.slice Ag l.length cg).ownBlock, og), (some b6, .cells #[.int .u8 0, .int .i64 0, .int .i64 0, .int .i64 0, .int .i64 0, .int .i64 0, .slice none 0 0] 26 (0, 0)), (some b3, .cells #[.int .u8 ck, .int .i64 cx, .int .i64 cy, .int .i64 gw, .int .i64 gh, .int .i64 aV, .slice (some ⟨g, 0, none⟩) l.length c1] 26 (0, 0))] [(.slice (some ⟨g, 0, none⟩) l.length c1, (nC ax pre NS 0 ++ k :: rest))] [(.slice ua k.f3.length uc, k.f3), (.slice A l.length cc, l)] [] wc))
       case first =>
        cases ok with
        | false =>
         go_wp2
         go_meet
         case rel => exact ⟨by first | rfl | simp, S⟩
        | true =>
         obtain ⟨gY, gZ, g_, ig, ik, je, eY⟩ := St.nU S (.tail _ (.tail _ (.tail _ (.tail _ (.head _)))))
         go_wp2_with (first
          | ((with_reducible refine bV 68 rfl ?_); (refine eQ (by rfl) ?_; dsimp only); refine jX (some 68) Try.func99 S (afQ ⟨ck, ⟨cx, cy, gw, gh⟩, aV, _⟩ ax (Kd.xO (base' := 0) (S.out.own _ (.head _)))) ?_; clear S; intro Me S; clear gY gZ g_ ig ik je eY)
          | fail)
         go_meet
         case rel => exact ⟨by first | rfl | simp, S⟩
       case rest =>
        clear S
        obtain ⟨rfl, S⟩ := hcut
        rename World => wz
        go_upto_if 69 with fail
        go_cut [14] (fun v14 wc => v14 = .int .i64 (NS pre.length) ∧ ae (St w P [(some b13, .cells #[.int .u8 k.f0, .int .i64 k.f1.f0, .int .i64 k.f1.f1, .int .i64 k.f1.f2, .int .i64 k.f1.f3, .int .i64 k.f2, .slice ua k.f3.length uc] 26 (0, 0)), ((Value.slice As sl.length cs).ownBlock, os), ((Value.slice Ag l.length cg).ownBlock, og), (some b6, .cells #[.int .u8 0, .int .i64 0, .int .i64 0, .int .i64 0, .int .i64 0, .int .i64 0, .slice none 0 0] 26 (0, 0)), (some b3, .cells #[.int .u8 ck, .int .i64 cx, .int .i64 cy, .int .i64 gw, .int .i64 gh, .int .i64 aV, .slice (some ⟨g, 0, none⟩) l.length c1] 26 (0, 0))] [(.slice (some ⟨g, 0, none⟩) l.length c1, (nC ax pre NS 0 ++ k :: rest))] [(.slice ua k.f3.length uc, k.f3), (.slice A l.length cc, l)] [] wc))
        case first =>
         cases hoa : (ok && kQ ax ck) with
         | false =>
          go_wp2
          go_meet
          case rel => exact ⟨by rw [KG.out, if_neg (by intro h; rw [h.1, h.2] at hoa; cases hoa)], S⟩
         | true =>
          have hok : ok = true ∧ kQ ax ck = true := by simpa using hoa
          have hsl2 : sl.length = l.length := MW.out hok.1
          have hlt2 : (pre.length : Int) < (sl.length : Int) := by rw [hsl2]; exact hlt
          obtain ⟨ads, ea, _⟩ := Kd.iU (Kd.dH (HIS.out _ (S.out.blk _ (.tail _ (.head _))))).2.2 (pre.length : Int) (Int.natCast_nonneg _) hlt2
          subst ea
          have Z9 := ae.mk hok
          clear hok
          have xs := GM HIS.out (S.out.blk _ (.tail _ (.head _))) pre.length hlt2
          go_wp2
          clear xs
          go_meet
          case rel => exact ⟨by rw [KG.out, if_pos Z9.out], S⟩
        case rest =>
         clear S
         obtain ⟨rfl, S⟩ := hcut
         rename World => wy
         go_wp2
         refine m_ (n := 9) (S := fun w' => St w _ _ _ _ _ w') (ds := [8]) (bA 9 0) (by kernel_rfl) rfl rfl (S.out.call (fF (Below.refl _ _))) (fun hHeld => ?_); refine jr zf.an' zf.ajN (fun aW gX => ?_)
         replace S := ae.mk (S.out.call (fF (Below.refl _ _)))
         generalize wy.drew = aw_ at S hHeld ⊢
         refine bH 0 74 (bA 9 1) aW ?_
         refine jq 1 75 (bA 9 3) aW gX hHeld ?_ (hv := by intro w' hs_; have eY := (hs_.at (.tail _ (.tail _ (.tail _ (.tail _ (.head _))))) 6).trans rfl; go_simp; with_reducible rfl)
         refine bH 2 76 (bA 9 7) aW ?_
         refine jq 3 77 (bA 9 15) aW gX hHeld ?_ (hv := by intro w' hs_; have atw := (hs_.at (.head _) 0).trans rfl; have atx := (hs_.at (.head _) 1).trans rfl; have aty := (hs_.at (.head _) 2).trans rfl; have atz := (hs_.at (.head _) 3).trans rfl; have atA := (hs_.at (.head _) 4).trans rfl; have atB := (hs_.at (.head _) 5).trans rfl; have atD := (hs_.at (.head _) 6).trans rfl; go_simp; with_reducible rfl)
         refine bH 4 78 (bA 9 31) aW ?_
         refine bH 5 79 (bA 9 63) aW ?_
         refine jY (i := 6) (N := some 80) (bA 9 127) rfl rfl (eX aW.out (by kernel_rfl)) (by decide) (fun K hK => ?_)
         refine jc Try.func199 (by kernel_rfl) rfl #[.agg #[.int .u8 k.f0, .int .i64 k.f1.f0, .int .i64 k.f1.f1, .int .i64 k.f1.f2, .int .i64 k.f1.f3, .int .i64 k.f2, .slice ua k.f3.length uc], .int .u8 ax, .int .i64 (NS pre.length)] (by rfl) rfl rfl (by (try simp only [List.map_toArray, List.map_cons, List.map_nil]); first | done | rfl) ?_
         refine (IH.out k HK.out (NS pre.length) (HNB.out _ HJ.out) _ ua uc _ (jS (S.out.tree _ (.head _)))).mono ?_
         rintro e Vk ⟨Av, cv, rfl, h1, hb⟩
         refine ⟨_, rfl, ?_⟩
         replace S := ae.mk (S.out.res (Kd.xO (base' := 0) h1) hb)
         clear h1 hb
         refine hK.out _ _ S.out.dW (fun hHeld => ?_)
         clear hK K
         refine iW 80 ?_
         refine bH 7 81 (bA 9 255) aW ?_
         refine zD (i := 8) (N := none) (bA 9 511) rfl rfl (eX aW.out (by kernel_rfl)) (by decide) (fun K hK => ?_)
         refine XC (pre.length : Int) (eU ax k (NS pre.length)) (.tmp 81) (.tmp 80) rfl S.out (by rfl) rfl (Int.natCast_nonneg _) Ej.out (by first | rfl | (go_simp; rfl)) rfl (by kernel_rfl) (.head _) ?_
         intro ad6 S1
         rw [show (nC ax pre NS 0 ++ k :: rest).set (pre.length : Int).toNat (eU ax k (NS pre.length)) = nC ax (pre ++ [k]) NS 0 ++ rest from afO ax NS pre k rest] at S1
         replace S := ae.mk S1
         clear S1
         refine hK.out _ _ ?_
         clear hK K
         refine oV (lh aW.out (by kernel_rfl)) ?_
         clear hHeld
         go_wp2
         have hw1 := HW1.out
         go_wp2
         go_roundg rest.length
         case measure => exact Nat.lt_of_lt_of_le (Nat.lt_succ_self _) qO.out
         case rel => exact ⟨pre ++ [k], rest, (by rw [hw1]), ⟨by rw [List.append_assoc]; exact HE.out⟩, Nat.le_refl _, ⟨S.out.jT.dW.dW⟩⟩
    | cons k rest =>
     have hk : k ∈ l := by rw [← HE.out]; simp
     have hlt : (pre.length : Int) < (l.length : Int) := by rw [← HE.out, List.length_append, List.length_cons]; omega
     have hw1 : wrap64 ((pre.length : Int) + 1) = ((pre ++ [k]).length : Int) := by have := pG.out; rw [List.length_append, List.length_singleton]; unfold wrap64; omega
     have HW1 := ae.mk hw1
     have qO := ae.mk hgg
     have HK := ae.mk hk
     have Il := ae.mk (Bf.out k hk)
     have Em := ae.mk (show pre.length ≤ 1000000 by have := pG.out; omega)
     have HJ := ae.mk (show pre.length < l.length by omega)
     have Ej := ae.mk (show (pre.length : Int) < ((l).length : Int) by omega)
     obtain ⟨g, cap, ev, _⟩ := Kd.Io S.out.Aj (by have := Ej.out; omega)
     injection ev with e1 e2 e3
     subst e1
     clear e2 e3 hk hgg hw1
     obtain ⟨ua, uc, S1, hcell⟩ := S.out.JR (pre.length : Int) (Int.natCast_nonneg _) Ej.out
     have hrd : au (l) (pre.length : Int) = k := (by rw [← HE.out]; exact lS pre k rest)
     rw [hrd] at S1 hcell
     replace S := ae.mk S1
     have x0 : wr.cell? ⟨g, pre.length * 7, none⟩ = some (.int .u8 k.f0) := hcell 0 _ rfl
     have x1 : wr.cell? ⟨g, pre.length * 7 + 1, none⟩ = some (.int .i64 k.f1.f0) := hcell 1 _ rfl
     have x2 : wr.cell? ⟨g, pre.length * 7 + 2, none⟩ = some (.int .i64 k.f1.f1) := hcell 2 _ rfl
     have x3 : wr.cell? ⟨g, pre.length * 7 + 3, none⟩ = some (.int .i64 k.f1.f2) := hcell 3 _ rfl
     have x4 : wr.cell? ⟨g, pre.length * 7 + 4, none⟩ = some (.int .i64 k.f1.f3) := hcell 4 _ rfl
     have x5 : wr.cell? ⟨g, pre.length * 7 + 5, none⟩ = some (.int .i64 k.f2) := hcell 5 _ rfl
     have x6 : wr.cell? ⟨g, pre.length * 7 + 6, none⟩ = some (.slice ua k.f3.length uc) := hcell 6 _ rfl
     clear S1 hcell hrd
     go_wp2_with (first
      | ((with_reducible refine bV 9 rfl ?_); refine boxS 9 #[.int .u8 0, .int .i64 0, .int .i64 0, .int .i64 0, .int .i64 0, .int .i64 0, .slice none 0 0] 26 S ?_; clear S; intro b9 ZL S; clear x0 x1 x2 x3 x4 x5 x6)
      | ((with_reducible refine kR 26 (.tmp 9) (.tmp 41) rfl ?_); refine rU 26 9 41 #[.int .u8 k.f0, .int .i64 k.f1.f0, .int .i64 k.f1.f1, .int .i64 k.f1.f2, .int .i64 k.f1.f3, .int .i64 k.f2, .slice ua k.f3.length uc] 0 7 S ?_; clear S; intro ad7 S; obtain ⟨RZ, Nz, NC, ND, NF, R_, Si⟩ := St.nU S (.head _))
      | ((with_reducible refine bV 45 rfl ?_); refine jX (some 45) Try.func86 S (JS k ax Il.out (S.out.tree _ (.head _))) ?_; clear S; intro alr S; clear RZ Nz NC ND NF R_ Si)
      | ((with_reducible refine aQ (N := 47) rfl ?_); at_builtin; go_loud (refine afR (.tmp 42) (.tmp 46) rfl rfl Try.underlying41 info3 S.out.Ox HI.out (gy ax k) rfl (by first | (go_simp; done) | (go_simp; rfl)) (by have := Em.out; simp only [List.length_map]; omega) ?_); intro Ag2 cg2 og2 ad8 S1 I1; rw [show (pre.map (gy ax) ++ [gy ax k]).length = (pre ++ [k]).length by simp] at S1 I1 ⊢; replace S := ae.mk S1.Ox; have HI2 := ae.mk I1; clear S1 I1 HI)
      | fail)
     have hw1 := HW1.out
     go_wp2
     go_roundg rest.length
     case measure => exact Nat.lt_of_lt_of_le (Nat.lt_succ_self _) qO.out
     case rel => exact ⟨pre ++ [k], rest, Ag2, cg2, og2, (by simp), (by rw [hw1]), ⟨by rw [List.append_assoc]; exact HE.out⟩, Nat.le_refl _, ⟨by rw [List.map_append]; exact HI2.out⟩, ⟨S.out.jT.dW⟩⟩
def BG.T6 : Bool × List (List Nat × List Nat) := (true, [([], []), ([], []), ([], []), ([0, 1, 2], [0, 1, 2]), ([], []), ([4], [4]), ([5], [5]), ([], []), ([7], [7]), ([8], [8]), ([3, 6, 9, 3], [3, 6, 9]), ([10, 10, 0, 1, 2, 3, 4, 5, 6, 7, 8, 9, 10], [10]), ([11, 0, 1, 2, 3, 4, 5, 6, 7, 8, 9, 10, 11], [])])
def BG.B6 : List Nat := [0, 0, 0, 7, 0, 16, 48, 0, 128, 384, 1023, 2047, 4095]
theorem BG.tab6 : lC .any (opsOf Try.f183 6) = BG.T6 := by kernel_rfl
theorem BG.JP : lu BG.T6.2 BG.B6 = true := by kernel_rfl
theorem Es (ax : Int) (c : aI) (hz : sz c ≤ 1048576) (bY : Int) (P : Nat → Prop) (A : Option Addr) (cc : Nat) (w : World) (hv : Kd.V k26 26 w w.heap.size P (.slice A c.f3.length cc) c.f3) :
  Calls Try.prog 183 #[.agg #[.int .u8 c.f0, .int .i64 c.f1.f0, .int .i64 c.f1.f1, .int .i64 c.f1.f2, .int .i64 c.f1.f3, .int .i64 c.f2, .slice A c.f3.length cc], .int .u8 ax, .int .i64 bY] w (En w P (aZ ax c bY) (aN ax c bY)) := by
 have S := ae.mk (St.start (ts := [(.slice A c.f3.length cc, c.f3)]) (b0 := w.heap.size) (w := w) (P := P) (fun t ht => by rw [List.mem_singleton.1 ht]; exact hv))
 have HZ := ae.mk hz
 obtain ⟨ck, ⟨cx, cy, cw, ch⟩, aV, l⟩ := c
 simp only [] at S
 clear hv hz
 cases ht : jy ⟨ck, ⟨cx, cy, cw, ch⟩, aV, l⟩ with
 | false =>
  have HB := ae.mk (show vX ax ⟨ck, ⟨cx, cy, cw, ch⟩, aV, l⟩ = true by unfold vX; rw [ht]; rfl)
  go_enter Try.func183, Try.ntmps183
  go_wp2_with (first
   | ((with_reducible refine bV 3 rfl ?_); refine boxS 3 #[.int .u8 ck, .int .i64 cx, .int .i64 cy, .int .i64 cw, .int .i64 ch, .int .i64 aV, .slice A l.length cc] 26 S ?_; clear S; intro b3 oC S)
   | ((with_reducible refine bV 6 rfl ?_); refine boxS 6 #[.int .u8 0, .int .i64 0, .int .i64 0, .int .i64 0, .int .i64 0, .int .i64 0, .slice none 0 0] 26 S ?_; clear S; intro b6 qU S; obtain ⟨gY, gZ, g_, ig, ik, je, eY⟩ := St.nU S (.tail _ (.head _)))
   | ((with_reducible refine aQ (N := 10) rfl ?_); refine CJ (N := 10) rfl rfl ⟨ck, ⟨cx, cy, cw, ch⟩, aV, l⟩ S.out (S.out.tree _ (.head _)) ?hr ?_; (case hr => first | (go_simp; done) | (go_simp; rfl)); intro abR acm xm S1 h1 h2; replace S := ae.mk S1; have CW := ae.mk h1; have Fg := ae.mk h2; clear S1 h1 h2; clear gY gZ g_ ig ik je eY)
   | ((with_reducible refine bV 11 rfl ?_); refine jX (some 11) Try.func148 S (CS ⟨ck, ⟨cx, cy, cw, ch⟩, aV, l⟩ HZ.out Fg.out CW.out) ?_; clear S; intro wJ S)
   | ((with_reducible refine kR 26 (.tmp 6) (.tmp 21) rfl ?_); refine rU 26 6 21 #[.int .u8 0, .int .i64 0, .int .i64 0, .int .i64 0, .int .i64 0, .int .i64 0, .slice none 0 0] 0 7 S ?_; clear S; intro D9 S)
   | fail)
  refine bodyPost_ret (jP rfl _ _ b6 26 #[.int .u8 0, .int .i64 0, .int .i64 0, .int .i64 0, .int .i64 0, .int .i64 0, .slice none 0 0] (0, 0) _ rfl (S.out.blk _ (.head _) _ rfl) Try.underlying26 rfl (by kernel_rfl)) rfl ?_
  rw [show aN ax ⟨ck, ⟨cx, cy, cw, ch⟩, aV, l⟩ bY = 1 by unfold aN; rw [if_pos HB.out], show aZ ax ⟨ck, ⟨cx, cy, cw, ch⟩, aV, l⟩ bY = z26 by unfold aZ; rw [if_pos HB.out]]
  exact ⟨_, _, rfl, Kd.wE _ _ _ _ _, S.out.below⟩
 | true =>
  have HT := ae.mk ht
  by_cases hax : ax = 1 ∨ ax = 2
  ·have HB := ae.mk (show vX ax ⟨ck, ⟨cx, cy, cw, ch⟩, aV, l⟩ = false by unfold vX; rw [ht]; rcases hax with rfl | rfl <;> rfl)
   have KE := ae.mk hax
   clear ht hax
   go_enter Try.func183, Try.ntmps183
   go_upto_region 1 with (first
    | ((with_reducible refine bV 3 rfl ?_); refine boxS 3 #[.int .u8 ck, .int .i64 cx, .int .i64 cy, .int .i64 cw, .int .i64 ch, .int .i64 aV, .slice A l.length cc] 26 S ?_; clear S; intro b3 oC S)
    | ((with_reducible refine bV 6 rfl ?_); refine boxS 6 #[.int .u8 0, .int .i64 0, .int .i64 0, .int .i64 0, .int .i64 0, .int .i64 0, .slice none 0 0] 26 S ?_; clear S; intro b6 qU S)
    | fail)
   (try simp only [Act.put, List.setIfInBounds_toArray, List.set_cons_zero, List.set_cons_succ])
   go_cut [20] (fun v20 wc => v20 = .bool false ∧ ae (St w P [(some b6, .cells #[.int .u8 0, .int .i64 0, .int .i64 0, .int .i64 0, .int .i64 0, .int .i64 0, .slice none 0 0] 26 (0, 0)), (some b3, .cells #[.int .u8 ck, .int .i64 cx, .int .i64 cy, .int .i64 cw, .int .i64 ch, .int .i64 aV, .slice A l.length cc] 26 (0, 0))] [] [(.slice A l.length cc, l)] [] wc))
   case first =>
    by_cases h1 : ax = 1
    ·have HX := ae.mk h1
     have h1b : (ax != 1) = false := by rw [h1]; rfl
     clear h1
     obtain ⟨gY, gZ, g_, ig, ik, je, eY⟩ := St.nU S (.tail _ (.head _))
     go_wp2_with (first
      | ((with_reducible refine aQ (N := 10) rfl ?_); refine CJ (N := 10) rfl rfl ⟨ck, ⟨cx, cy, cw, ch⟩, aV, l⟩ S.out (S.out.tree _ (.head _)) ?hr ?_; (case hr => first | (go_simp; done) | (go_simp; rfl)); intro abR acm oC S1 h1 h2; replace S := ae.mk S1; have CW := ae.mk h1; have Fg := ae.mk h2; clear S1 h1 h2; clear gY gZ g_ ig ik je eY)
      | ((with_reducible refine bV 11 rfl ?_); refine jX (some 11) Try.func148 S (vW HT.out (CS ⟨ck, ⟨cx, cy, cw, ch⟩, aV, l⟩ HZ.out Fg.out CW.out)) ?_; clear S; intro qU S)
      | fail)
     go_meet
     case rel => exact ⟨by first | rfl | simp, S⟩
    ·have HX := ae.mk h1
     have h1b : (ax != 1) = true := bne_iff_ne.mpr h1
     have h2b : (ax != 2) = false := by rw [KE.out.resolve_left h1]; rfl
     clear h1
     obtain ⟨gY, gZ, g_, ig, ik, je, eY⟩ := St.nU S (.tail _ (.head _))
     go_wp2_with (first
      | ((with_reducible refine aQ (N := 10) rfl ?_); refine CJ (N := 10) rfl rfl ⟨ck, ⟨cx, cy, cw, ch⟩, aV, l⟩ S.out (S.out.tree _ (.head _)) ?hr ?_; (case hr => first | (go_simp; done) | (go_simp; rfl)); intro abR acm oC S1 h1 h2; replace S := ae.mk S1; have CW := ae.mk h1; have Fg := ae.mk h2; clear S1 h1 h2; clear gY gZ g_ ig ik je eY)
      | ((with_reducible refine bV 11 rfl ?_); refine jX (some 11) Try.func148 S (vW HT.out (CS ⟨ck, ⟨cx, cy, cw, ch⟩, aV, l⟩ HZ.out Fg.out CW.out)) ?_; clear S; intro qU S)
      | fail)
     go_meet
     case rel => exact ⟨by first | rfl | simp, S⟩
   case rest =>
    clear S
    obtain ⟨rfl, S⟩ := hcut
    rename World => wx
    have gZ := (S.out.at (.tail _ (.head _)) 1).trans rfl
    have ig := (S.out.at (.tail _ (.head _)) 3).trans rfl
    have g_ := (S.out.at (.tail _ (.head _)) 2).trans rfl
    have ik := (S.out.at (.tail _ (.head _)) 4).trans rfl
    go_upto_region 4 with (first
     | ((with_reducible refine bV 38 rfl ?_); refine jX (some 38) Try.func98 S (Gz ⟨0, 0, wrap64 (cx + cw), wrap64 (cy + ch)⟩ ax) ?_; clear S; intro oC S; clear gZ ig g_ ik)
     | fail)
    (try simp only [Act.put, List.setIfInBounds_toArray, List.set_cons_zero, List.set_cons_succ])
    by_cases h4 : bY < wrap64 (-(gy ax ⟨ck, ⟨cx, cy, cw, ch⟩, aV, l⟩))
    ·have IC : decide (bY < wrap64 (-(gy ax ⟨ck, ⟨cx, cy, cw, ch⟩, aV, l⟩))) = true := decide_eq_true h4
     have HO := ae.mk (show BN ax ⟨ck, ⟨cx, cy, cw, ch⟩, aV, l⟩ bY = true by unfold BN; rw [IC]; rfl)
     clear h4
     obtain ⟨gY, gZ, g_, ig, ik, je, eY⟩ := St.nU S (.tail _ (.head _))
     go_wp2_with (first
      | ((with_reducible refine bV 42 rfl ?_); refine jX (some 42) Try.func86 S (JS ⟨ck, ⟨cx, cy, cw, ch⟩, aV, l⟩ ax HZ.out (S.out.tree _ (.head _))) ?_; clear S; intro oC S; clear gY gZ g_ ig ik je eY)
      | ((with_reducible refine kR 26 (.tmp 6) (.tmp 51) rfl ?_); refine rU 26 6 51 #[.int .u8 0, .int .i64 0, .int .i64 0, .int .i64 0, .int .i64 0, .int .i64 0, .slice none 0 0] 0 7 S ?_; clear S; intro qU S)
      | fail)
     refine bodyPost_ret (jP rfl _ _ b6 26 #[.int .u8 0, .int .i64 0, .int .i64 0, .int .i64 0, .int .i64 0, .int .i64 0, .slice none 0 0] (0, 0) _ rfl (S.out.blk _ (.head _) _ rfl) Try.underlying26 rfl (by kernel_rfl)) rfl ?_
     rw [show aN ax ⟨ck, ⟨cx, cy, cw, ch⟩, aV, l⟩ bY = 7 by unfold aN; rw [if_neg (by rw [HB.out]; simp), if_pos HO.out], show aZ ax ⟨ck, ⟨cx, cy, cw, ch⟩, aV, l⟩ bY = z26 by unfold aZ; rw [if_neg (by rw [HB.out]; simp), if_pos HO.out]]
     exact ⟨_, _, rfl, Kd.wE _ _ _ _ _, S.out.below⟩
    ·have IC : decide (bY < wrap64 (-(gy ax ⟨ck, ⟨cx, cy, cw, ch⟩, aV, l⟩))) = false := decide_eq_false h4
     by_cases h5 : bY > wrap64 (10000 - (dA ax ⟨0, 0, wrap64 (cx + cw), wrap64 (cy + ch)⟩))
     ·have NL : decide (bY > wrap64 (10000 - (dA ax ⟨0, 0, wrap64 (cx + cw), wrap64 (cy + ch)⟩))) = true := decide_eq_true h5
      have h5c : decide (wrap64 (10000 - (dA ax ⟨0, 0, wrap64 (cx + cw), wrap64 (cy + ch)⟩)) < bY) = true := decide_eq_true h5
      have HO := ae.mk (show BN ax ⟨ck, ⟨cx, cy, cw, ch⟩, aV, l⟩ bY = true by unfold BN; rw [IC]; exact NL)
      clear h4 h5
      obtain ⟨gY, gZ, g_, ig, ik, je, eY⟩ := St.nU S (.tail _ (.head _))
      go_wp2_with (first
       | ((with_reducible refine bV 42 rfl ?_); refine jX (some 42) Try.func86 S (JS ⟨ck, ⟨cx, cy, cw, ch⟩, aV, l⟩ ax HZ.out (S.out.tree _ (.head _))) ?_; clear S; intro oC S; clear gY gZ g_ ig ik je eY)
       | ((with_reducible refine kR 26 (.tmp 6) (.tmp 51) rfl ?_); refine rU 26 6 51 #[.int .u8 0, .int .i64 0, .int .i64 0, .int .i64 0, .int .i64 0, .int .i64 0, .slice none 0 0] 0 7 S ?_; clear S; intro qU S)
       | fail)
      refine bodyPost_ret (jP rfl _ _ b6 26 #[.int .u8 0, .int .i64 0, .int .i64 0, .int .i64 0, .int .i64 0, .int .i64 0, .slice none 0 0] (0, 0) _ rfl (S.out.blk _ (.head _) _ rfl) Try.underlying26 rfl (by kernel_rfl)) rfl ?_
      rw [show aN ax ⟨ck, ⟨cx, cy, cw, ch⟩, aV, l⟩ bY = 7 by unfold aN; rw [if_neg (by rw [HB.out]; simp), if_pos HO.out], show aZ ax ⟨ck, ⟨cx, cy, cw, ch⟩, aV, l⟩ bY = z26 by unfold aZ; rw [if_neg (by rw [HB.out]; simp), if_pos HO.out]]
      exact ⟨_, _, rfl, Kd.wE _ _ _ _ _, S.out.below⟩
     ·have NL : decide (bY > wrap64 (10000 - (dA ax ⟨0, 0, wrap64 (cx + cw), wrap64 (cy + ch)⟩))) = false := decide_eq_false h5
      have h5c : decide (wrap64 (10000 - (dA ax ⟨0, 0, wrap64 (cx + cw), wrap64 (cy + ch)⟩)) < bY) = false := decide_eq_false h5
      have HO := ae.mk (show BN ax ⟨ck, ⟨cx, cy, cw, ch⟩, aV, l⟩ bY = false by unfold BN; rw [IC]; exact NL)
      have hf := ajE HB.out HO.out
      have HZ2 := ae.mk (show sz ⟨ck, ⟨cx, cy, cw, ch⟩, aV, l⟩ ≤ 100000 by omega)
      have HZ3 := ae.mk (show sz (eU ax ⟨ck, ⟨cx, cy, cw, ch⟩, aV, l⟩ bY) ≤ 1000000 by rw [(Tt ax _).1 _ (Nat.le_refl _)]; omega)
      have HBY := ae.mk (show -2147483647 ≤ bY ∧ bY ≤ 2147483647 by omega)
      clear hf h4 h5
      obtain ⟨gY, gZ, g_, ig, ik, je, eY⟩ := St.nU S (.tail _ (.head _))
      go_wp2_with (first
       | ((with_reducible refine bV 42 rfl ?_); refine jX (some 42) Try.func86 S (JS ⟨ck, ⟨cx, cy, cw, ch⟩, aV, l⟩ ax HZ.out (S.out.tree _ (.head _))) ?_; clear S; intro oC S; clear gY gZ g_ ig ik je eY)
       | fail)
      refine m_ (n := 13) (S := fun w' => St w _ _ _ _ _ w') (ds := [11]) (bA 13 0) (by kernel_rfl) rfl rfl (S.out.call (fF (Below.refl _ _))) (fun hHeld => ?_); refine jr BG.tab6 BG.JP (fun aW gX => ?_)
      replace S := ae.mk (S.out.call (fF (Below.refl _ _)))
      generalize oC.drew = wd2 at S hHeld ⊢
      refine jq 0 52 (bA 13 1) aW gX hHeld ?_ (hv := by intro w' hs_; have gY := (hs_.at (.tail _ (.head _)) 0).trans rfl; have gZ := (hs_.at (.tail _ (.head _)) 1).trans rfl; have g_ := (hs_.at (.tail _ (.head _)) 2).trans rfl; have ig := (hs_.at (.tail _ (.head _)) 3).trans rfl; have ik := (hs_.at (.tail _ (.head _)) 4).trans rfl; have je := (hs_.at (.tail _ (.head _)) 5).trans rfl; have eY := (hs_.at (.tail _ (.head _)) 6).trans rfl; go_simp; with_reducible rfl)
      refine bH 1 53 (bA 13 3) aW ?_
      refine bH 2 54 (bA 13 7) aW ?_
      refine bH 4 56 (bA 13 23) aW ?_
      refine bH 5 57 (bA 13 55) aW ?_
      refine jq 6 58 (bA 13 119) aW gX hHeld ?_ (hv := by intro w' hs_; have gZ := (hs_.at (.tail _ (.head _)) 1).trans rfl; go_simp; with_reducible rfl)
      refine bH 7 59 (bA 13 247) aW ?_
      refine bH 8 60 (bA 13 503) aW ?_
      refine jq 9 61 (bA 13 1015) aW gX hHeld ?_ (hv := by intro w' hs_; have g_ := (hs_.at (.tail _ (.head _)) 2).trans rfl; go_simp; with_reducible rfl)
      refine jY (i := 3) (N := some 55) (bA 13 1023) rfl rfl (eX aW.out (by kernel_rfl)) (by decide) (fun K hK => ?_)
      refine jc Try.func199 (by kernel_rfl) rfl #[.agg #[.int .u8 ck, .int .i64 cx, .int .i64 cy, .int .i64 cw, .int .i64 ch, .int .i64 aV, .slice A l.length cc], .int .u8 ax, .int .i64 bY] (by rfl) rfl rfl (by (try simp only [List.map_toArray, List.map_cons, List.map_nil]); first | done | rfl) ?_
      refine (ajF ax 100000 ⟨ck, ⟨cx, cy, cw, ch⟩, aV, l⟩ HZ2.out (Nat.le_refl _) bY HBY.out _ A cc _ (jS (S.out.tree _ (.head _)))).mono ?_
      rintro e xm ⟨Fe, zZ, rfl, h1, hb⟩
      refine ⟨_, rfl, ?_⟩
      replace S := ae.mk (S.out.res (Kd.xO (base' := 0) h1) hb)
      clear h1 hb
      refine hK.out _ _ S.out.dW (fun hHeld => ?_)
      clear hK K
      refine iW 55 ?_
      refine jY (i := 10) (N := some 62) (bA 13 2047) rfl rfl (eX aW.out (by kernel_rfl)) (by decide) (fun K hK => ?_)
      refine jc Try.func66 (by kernel_rfl) rfl #[.agg #[.int .u8 ((eU ax ⟨ck, ⟨cx, cy, cw, ch⟩, aV, l⟩ bY).f0), .int .i64 ((eU ax ⟨ck, ⟨cx, cy, cw, ch⟩, aV, l⟩ bY).f1.f0), .int .i64 ((eU ax ⟨ck, ⟨cx, cy, cw, ch⟩, aV, l⟩ bY).f1.f1), .int .i64 ((eU ax ⟨ck, ⟨cx, cy, cw, ch⟩, aV, l⟩ bY).f1.f2), .int .i64 ((eU ax ⟨ck, ⟨cx, cy, cw, ch⟩, aV, l⟩ bY).f1.f3), .int .i64 ((eU ax ⟨ck, ⟨cx, cy, cw, ch⟩, aV, l⟩ bY).f2), .slice Fe ((eU ax ⟨ck, ⟨cx, cy, cw, ch⟩, aV, l⟩ bY).f3.length) zZ], .int .i64 cx, .int .i64 cy] (by rfl) rfl rfl (by (try simp only [List.map_toArray, List.map_cons, List.map_nil]); first | done | rfl) ?_
      refine (Sm (eU ax ⟨ck, ⟨cx, cy, cw, ch⟩, aV, l⟩ bY) cx cy HZ3.out (S.out.tree _ (.head _))).mono ?_
      rintro e wJ ⟨A62, YB, rfl, h1, hb⟩
      refine ⟨_, rfl, ?_⟩
      replace S := ae.mk (S.out.Qv h1 hb)
      clear h1 hb
      refine hK.out _ _ S.out.free.dW.dW (fun hHeld => ?_)
      clear hK K
      refine iW 62 ?_
      refine zD (i := 11) (N := none) (bA 13 4095) rfl rfl (eX aW.out (by kernel_rfl)) (by decide) (fun K hK => ?_)
      refine CP 0 rfl 26 (.tmp 6) (.tmp 62) rfl #[.int .u8 ((bu (eU ax ⟨ck, ⟨cx, cy, cw, ch⟩, aV, l⟩ bY) cx cy).f0), .int .i64 ((bu (eU ax ⟨ck, ⟨cx, cy, cw, ch⟩, aV, l⟩ bY) cx cy).f1.f0), .int .i64 ((bu (eU ax ⟨ck, ⟨cx, cy, cw, ch⟩, aV, l⟩ bY) cx cy).f1.f1), .int .i64 ((bu (eU ax ⟨ck, ⟨cx, cy, cw, ch⟩, aV, l⟩ bY) cx cy).f1.f2), .int .i64 ((bu (eU ax ⟨ck, ⟨cx, cy, cw, ch⟩, aV, l⟩ bY) cx cy).f1.f3), .int .i64 ((bu (eU ax ⟨ck, ⟨cx, cy, cw, ch⟩, aV, l⟩ bY) cx cy).f2), .slice A62 ((bu (eU ax ⟨ck, ⟨cx, cy, cw, ch⟩, aV, l⟩ bY) cx cy).f3.length) YB] (j := 0) (u := .agg #[.int .u8 ((bu (eU ax ⟨ck, ⟨cx, cy, cw, ch⟩, aV, l⟩ bY) cx cy).f0), .int .i64 ((bu (eU ax ⟨ck, ⟨cx, cy, cw, ch⟩, aV, l⟩ bY) cx cy).f1.f0), .int .i64 ((bu (eU ax ⟨ck, ⟨cx, cy, cw, ch⟩, aV, l⟩ bY) cx cy).f1.f1), .int .i64 ((bu (eU ax ⟨ck, ⟨cx, cy, cw, ch⟩, aV, l⟩ bY) cx cy).f1.f2), .int .i64 ((bu (eU ax ⟨ck, ⟨cx, cy, cw, ch⟩, aV, l⟩ bY) cx cy).f1.f3), .int .i64 ((bu (eU ax ⟨ck, ⟨cx, cy, cw, ch⟩, aV, l⟩ bY) cx cy).f2), .slice A62 ((bu (eU ax ⟨ck, ⟨cx, cy, cw, ch⟩, aV, l⟩ bY) cx cy).f3.length) YB]) (dL := [.int .u8 ((bu (eU ax ⟨ck, ⟨cx, cy, cw, ch⟩, aV, l⟩ bY) cx cy).f0), .int .i64 ((bu (eU ax ⟨ck, ⟨cx, cy, cw, ch⟩, aV, l⟩ bY) cx cy).f1.f0), .int .i64 ((bu (eU ax ⟨ck, ⟨cx, cy, cw, ch⟩, aV, l⟩ bY) cx cy).f1.f1), .int .i64 ((bu (eU ax ⟨ck, ⟨cx, cy, cw, ch⟩, aV, l⟩ bY) cx cy).f1.f2), .int .i64 ((bu (eU ax ⟨ck, ⟨cx, cy, cw, ch⟩, aV, l⟩ bY) cx cy).f1.f3), .int .i64 ((bu (eU ax ⟨ck, ⟨cx, cy, cw, ch⟩, aV, l⟩ bY) cx cy).f2), .slice A62 ((bu (eU ax ⟨ck, ⟨cx, cy, cw, ch⟩, aV, l⟩ bY) cx cy).f3.length) YB]) S.out (by rfl) rfl rfl rfl rfl (by kernel_rfl) (by simp [Value.oneCell']) (by first | decide | simp) rfl ?_
      intro D9 S1
      simp only [List.set_cons_zero, List.set_cons_succ] at S1
      replace S := ae.mk S1
      clear S1
      refine hK.out _ _ ?_
      clear hK K
      refine bH 12 7 (bA 13 8191) aW ?_
      refine oV (lh aW.out (by kernel_rfl)) ?_
      clear hHeld
      go_wp2
      refine bodyPost_ret (jP rfl _ _ b6 26 #[.int .u8 ((bu (eU ax ⟨ck, ⟨cx, cy, cw, ch⟩, aV, l⟩ bY) cx cy).f0), .int .i64 ((bu (eU ax ⟨ck, ⟨cx, cy, cw, ch⟩, aV, l⟩ bY) cx cy).f1.f0), .int .i64 ((bu (eU ax ⟨ck, ⟨cx, cy, cw, ch⟩, aV, l⟩ bY) cx cy).f1.f1), .int .i64 ((bu (eU ax ⟨ck, ⟨cx, cy, cw, ch⟩, aV, l⟩ bY) cx cy).f1.f2), .int .i64 ((bu (eU ax ⟨ck, ⟨cx, cy, cw, ch⟩, aV, l⟩ bY) cx cy).f1.f3), .int .i64 ((bu (eU ax ⟨ck, ⟨cx, cy, cw, ch⟩, aV, l⟩ bY) cx cy).f2), .slice A62 ((bu (eU ax ⟨ck, ⟨cx, cy, cw, ch⟩, aV, l⟩ bY) cx cy).f3.length) YB] (0, 0) _ rfl (S.out.blk _ (.head _) _ rfl) Try.underlying26 rfl (by kernel_rfl)) rfl ?_
      rw [show aN ax ⟨ck, ⟨cx, cy, cw, ch⟩, aV, l⟩ bY = 0 by unfold aN; rw [if_neg (by rw [HB.out]; simp), if_neg (by rw [HO.out]; simp)], show aZ ax ⟨ck, ⟨cx, cy, cw, ch⟩, aV, l⟩ bY = bu (eU ax ⟨ck, ⟨cx, cy, cw, ch⟩, aV, l⟩ bY) cx cy by unfold aZ; rw [if_neg (by rw [HB.out]; simp), if_neg (by rw [HO.out]; simp)]]
      exact ⟨_, _, rfl, S.out.Aj, S.out.below⟩
  ·have h1b : (ax != 1) = true := bne_iff_ne.mpr (fun h => hax (.inl h))
   have h2b : (ax != 2) = true := bne_iff_ne.mpr (fun h => hax (.inr h))
   have HB := ae.mk (show vX ax ⟨ck, ⟨cx, cy, cw, ch⟩, aV, l⟩ = true by unfold vX; rw [ht, h1b, h2b]; rfl)
   clear hax
   go_enter Try.func183, Try.ntmps183
   go_wp2_with (first
    | ((with_reducible refine bV 3 rfl ?_); refine boxS 3 #[.int .u8 ck, .int .i64 cx, .int .i64 cy, .int .i64 cw, .int .i64 ch, .int .i64 aV, .slice A l.length cc] 26 S ?_; clear S; intro b3 oC S)
    | ((with_reducible refine bV 6 rfl ?_); refine boxS 6 #[.int .u8 0, .int .i64 0, .int .i64 0, .int .i64 0, .int .i64 0, .int .i64 0, .slice none 0 0] 26 S ?_; clear S; intro b6 qU S; obtain ⟨gY, gZ, g_, ig, ik, je, eY⟩ := St.nU S (.tail _ (.head _)))
    | ((with_reducible refine aQ (N := 10) rfl ?_); refine CJ (N := 10) rfl rfl ⟨ck, ⟨cx, cy, cw, ch⟩, aV, l⟩ S.out (S.out.tree _ (.head _)) ?hr ?_; (case hr => first | (go_simp; done) | (go_simp; rfl)); intro abR acm xm S1 h1 h2; replace S := ae.mk S1; have CW := ae.mk h1; have Fg := ae.mk h2; clear S1 h1 h2; clear gY gZ g_ ig ik je eY)
    | ((with_reducible refine bV 11 rfl ?_); refine jX (some 11) Try.func148 S (CS ⟨ck, ⟨cx, cy, cw, ch⟩, aV, l⟩ HZ.out Fg.out CW.out) ?_; clear S; intro wJ S)
    | ((with_reducible refine kR 26 (.tmp 6) (.tmp 21) rfl ?_); refine rU 26 6 21 #[.int .u8 0, .int .i64 0, .int .i64 0, .int .i64 0, .int .i64 0, .int .i64 0, .slice none 0 0] 0 7 S ?_; clear S; intro D9 S)
    | fail)
   refine bodyPost_ret (jP rfl _ _ b6 26 #[.int .u8 0, .int .i64 0, .int .i64 0, .int .i64 0, .int .i64 0, .int .i64 0, .slice none 0 0] (0, 0) _ rfl (S.out.blk _ (.head _) _ rfl) Try.underlying26 rfl (by kernel_rfl)) rfl ?_
   rw [show aN ax ⟨ck, ⟨cx, cy, cw, ch⟩, aV, l⟩ bY = 1 by unfold aN; rw [if_pos HB.out], show aZ ax ⟨ck, ⟨cx, cy, cw, ch⟩, aV, l⟩ bY = z26 by unfold aZ; rw [if_pos HB.out]]
   exact ⟨_, _, rfl, Kd.wE _ _ _ _ _, S.out.below⟩
def xX.T4 : Bool × List (List Nat × List Nat) := (true, [([], []), ([0], [0]), ([], []), ([1, 2], [1, 2]), ([], []), ([4], [4]), ([5], [5]), ([3, 6, 3], [3, 6]), ([7], [7]), ([8], [8]), ([8], [8]), ([9, 7, 0, 1, 2, 3, 4, 5, 6, 7, 8, 9], [9]), ([10, 11, 0, 1, 2, 3, 4, 5, 6, 7, 8, 9, 10, 11], [10])])
def xX.B4 : List Nat := [0, 1, 0, 7, 0, 16, 48, 127, 255, 511, 511, 1023, 4095]
theorem xX.alo : lC .any (opsOf Try.f155 4) = xX.T4 := by kernel_rfl
theorem xX.aeL : lu xX.T4.2 xX.B4 = true := by kernel_rfl
def yY.T11 : Bool × List (List Nat × List Nat) := (true, [([], []), ([0], [0]), ([], []), ([], []), ([], []), ([3, 4], [3, 4]), ([5], [5]), ([], []), ([7], [7]), ([], []), ([8, 9, 1], [8, 9]), ([6, 10], [6, 10]), ([1, 2, 11, 10], [1, 2, 11]), ([12], [12]), ([13], [13]), ([13], [13]), ([], []), ([16, 14, 12, 0, 1, 2, 3, 4, 5, 6, 7, 8, 9, 10, 11, 12, 13, 14, 16], [14, 16]), ([15, 17, 0, 1, 2, 3, 4, 5, 6, 7, 8, 9, 10, 11, 12, 13, 14, 15, 16, 17], [15])])
def yY.B11 : List Nat := [0, 1, 0, 0, 0, 24, 56, 0, 128, 0, 899, 2043, 4095, 8191, 16383, 16383, 0, 98303, 262143]
theorem yY.ZG : lC .any (opsOf Try.f155 11) = yY.T11 := by kernel_rfl
theorem yY.Tv : lu yY.T11.2 yY.B11 = true := by kernel_rfl
theorem Kw {ax n m : Int} {k : aI} {args : Array Value} {W : World} {P : Nat → Prop} (h : n = m) (hc : Calls Try.prog 183 args W (En W P (aZ ax (bu k 0 0) (wrap64 (n - dA ax k.f1))) (aN ax (bu k 0 0) (wrap64 (n - dA ax k.f1))))) : Calls Try.prog 183 args W (En W P (dX ax k m) (vw ax k m)) := by
 subst h
 exact hc
theorem ah0 (c : aI) (hz : sz c ≤ 100000) (P : Nat → Prop) (A : Option Addr) (cc : Nat) (w : World) (hv : Kd.V k26 26 w w.heap.size P (.slice A c.f3.length cc) c.f3) :
  Calls Try.prog 155 #[.agg #[.int .u8 c.f0, .int .i64 c.f1.f0, .int .i64 c.f1.f1, .int .i64 c.f1.f2, .int .i64 c.f1.f3, .int .i64 c.f2, .slice A c.f3.length cc]] w (ab7 w P (nK c).1 (nK c).2) := by
 have S := ae.mk (St.start (ts := [(.slice A c.f3.length cc, c.f3)]) (b0 := w.heap.size) (w := w) (P := P) (fun t ht => by rw [List.mem_singleton.1 ht]; exact hv))
 have hsz := gm c
 have hlen := nN c.f3
 have pG := ae.mk (show c.f3.length ≤ 1000000 by omega)
 have La := ae.mk fun (k : aI) (hk : k ∈ c.f3) => (show sz k ≤ 1000000 by have := vV hk; omega)
 obtain ⟨ck, ⟨cx, cy, cw, ch⟩, aV, l⟩ := c
 simp only [] at S pG La
 clear hv hz hsz hlen
 by_cases hk : ck = 1
 ·have hkb : (ck == 1) = true := beq_iff_eq.mpr hk
  have HR := ae.mk (show nK ⟨ck, ⟨cx, cy, cw, ch⟩, aV, l⟩ = ([], 10) by unfold nK; rw [if_pos hk])
  clear hk
  go_enter Try.func155, Try.ntmps155
  go_wp2_with (first
   | ((with_reducible refine bV 1 rfl ?_); refine boxS 1 #[.int .u8 ck, .int .i64 cx, .int .i64 cy, .int .i64 cw, .int .i64 ch, .int .i64 aV, .slice A l.length cc] 26 S ?_; clear S; intro b1 oC S; have gW := (S.out.at (.head _) 0).trans rfl)
   | fail)
  clear gW
  refine bodyPost_ret (results_tmp2 rfl _ _ _) rfl ?_
  rw [HR.out]
  exact ⟨none, 0, rfl, Kd.Yi _ _ _ _ _, S.out.below⟩
 ·have hkb : (ck == 1) = false := beq_eq_false_iff_ne.mpr hk
  have jI := ae.mk hk
  obtain ⟨ax, hax⟩ : ∃ ax, ax = FB ck := ⟨_, rfl⟩
  have hSZ := fun W => aim (W := W) (dA ax ⟨cx, cy, cw, ch⟩) (l.length : Int)
  have hR : nK ⟨ck, ⟨cx, cy, cw, ch⟩, aV, l⟩ = if (uT (dA ax ⟨cx, cy, cw, ch⟩) (l.length : Int)).2 = false then ([], 7) else if vz ax (fun (i : Nat) => rd (uT (dA ax ⟨cx, cy, cw, ch⟩) (l.length : Int)).1 (i : Int)) 0 l = true then ([], 7) else (mW ax (fun (i : Nat) => rd (uT (dA ax ⟨cx, cy, cw, ch⟩) (l.length : Int)).1 (i : Int)) 0 l, 0) := by rw [hax]; unfold nK; rw [if_neg hk]
  have hsl := @XG (dA ax ⟨cx, cy, cw, ch⟩) l.length
  generalize uT (dA ax ⟨cx, cy, cw, ch⟩) (l.length : Int) = sp at hSZ hR hsl
  obtain ⟨sl, ok⟩ := sp
  simp only [] at hSZ hR hsl
  have HSZ := ae.mk hSZ
  have MW := ae.mk hsl
  have KE := ae.mk hax
  clear hk hSZ hsl hax
  cases ok with
  | false =>
   have HR := ae.mk (hR.trans (if_pos rfl))
   clear hR
   go_enter Try.func155, Try.ntmps155
   go_upto_region 3 with (first
    | ((with_reducible refine bV 1 rfl ?_); refine boxS 1 #[.int .u8 ck, .int .i64 cx, .int .i64 cy, .int .i64 cw, .int .i64 ch, .int .i64 aV, .slice A l.length cc] 26 S ?_; clear S; intro b1 oC S; have gW := (S.out.at (.head _) 0).trans rfl)
    | fail)
   clear gW
   go_cut [4] (fun v4 wc => v4 = .int .u8 ax ∧ ae (St w P [(some b1, .cells #[.int .u8 ck, .int .i64 cx, .int .i64 cy, .int .i64 cw, .int .i64 ch, .int .i64 aV, .slice A l.length cc] 26 (0, 0))] [] [(.slice A l.length cc, l)] [] wc))
   case first =>
    have gW := (S.out.at (.head _) 0).trans rfl
    go_wp2
    clear gW
    go_meet
    case rel => exact ⟨by rw [KE.out]; first | rfl | (simp [FB]; done), S⟩
   case rest =>
    clear S
    obtain ⟨rfl, S⟩ := hcut
    rename World => wx
    go_wp2
    refine m_ (n := 13) (S := fun w' => St w _ _ _ _ _ w') (ds := []) (bA 13 0) (by kernel_rfl) rfl rfl (S.out.call (fF (Below.refl _ _))) (fun hHeld => ?_); refine jr xX.alo xX.aeL (fun aW gX => ?_)
    replace S := ae.mk (S.out.call (fF (Below.refl _ _)))
    generalize wx.drew = wd2 at S hHeld ⊢
    refine bH 0 20 (bA 13 1) aW ?_
    refine jq 1 21 (bA 13 3) aW gX hHeld ?_ (hv := by intro w' hs_; have jA := (hs_.at (.head _) 1).trans rfl; have jB := (hs_.at (.head _) 2).trans rfl; have jK := (hs_.at (.head _) 3).trans rfl; have jL := (hs_.at (.head _) 4).trans rfl; go_simp; with_reducible rfl)
    refine bH 2 22 (bA 13 7) aW ?_
    refine bH 4 24 (bA 13 23) aW ?_
    refine jq 5 25 (bA 13 55) aW gX hHeld ?_ (hv := by intro w' hs_; have iI := (hs_.at (.head _) 6).trans rfl; go_simp; with_reducible rfl)
    refine bH 6 26 (bA 13 119) aW ?_
    refine jY (i := 3) (N := some 23) (bA 13 127) rfl rfl (eX aW.out (by kernel_rfl)) (by decide) (fun K hK => ?_)
    refine jc Try.func98 (by kernel_rfl) rfl #[.agg #[.int .i64 cx, .int .i64 cy, .int .i64 cw, .int .i64 ch], .int .u8 ax] (by rfl) rfl rfl (by (try simp only [List.map_toArray, List.map_cons, List.map_nil]); first | done | rfl) ?_
    refine (Gz ⟨cx, cy, cw, ch⟩ ax).mono ?_
    rintro e xm ⟨rfl, hb⟩
    refine ⟨_, rfl, ?_⟩
    replace S := ae.mk (S.out.call hb)
    clear hb
    refine hK.out _ _ S.out (fun hHeld => ?_)
    clear hK K
    refine iW 23 ?_
    refine jY (i := 7) (N := some 27) (bA 13 255) rfl rfl (eX aW.out (by kernel_rfl)) (by decide) (fun K hK => ?_)
    refine jc Try.func53 (by kernel_rfl) rfl #[.int .i64 (dA ax ⟨cx, cy, cw, ch⟩), .int .i64 (l.length : Int)] (by rfl) rfl rfl (by (try simp only [List.map_toArray, List.map_cons, List.map_nil]); first | done | rfl) ?_
    refine (HSZ.out _).mono ?_
    rintro e wJ ⟨As, cs, rfl, h1, hb⟩
    refine ⟨_, rfl, ?_⟩
    obtain ⟨os, S1, HI1⟩ := S.out.Ju h1 hb
    replace S := ae.mk S1
    have HIS := ae.mk HI1
    clear S1 HI1 h1 hb
    refine hK.out _ _ S.out.jT (fun hHeld => ?_)
    clear hK K
    refine iW 27 ?_
    refine bH 8 19 (bA 13 511) aW ?_
    refine bH 9 28 (bA 13 1023) aW ?_
    refine bH 10 29 (bA 13 2047) aW ?_
    refine bH 11 5 (bA 13 4095) aW ?_
    refine bH 12 6 (bA 13 8191) aW ?_
    refine oV (lh aW.out (by kernel_rfl)) ?_
    clear hHeld
    go_wp2
    refine bodyPost_ret (results_tmp2 rfl _ _ _) rfl ?_
    rw [HR.out]
    exact ⟨none, 0, rfl, Kd.Yi _ _ _ _ _, S.out.below⟩
  | true =>
   have hR2 := hR.trans (if_neg (by simp))
   obtain ⟨NS, xU⟩ : ∃ NS : Nat → Int, NS = fun (i : Nat) => rd sl (i : Int) := ⟨_, rfl⟩
   rw [← xU] at hR2
   have HR := ae.mk hR2
   have KG := ae.mk xU
   clear hR hR2 xU
   go_enter Try.func155, Try.ntmps155
   go_upto_region 3 with (first
    | ((with_reducible refine bV 1 rfl ?_); refine boxS 1 #[.int .u8 ck, .int .i64 cx, .int .i64 cy, .int .i64 cw, .int .i64 ch, .int .i64 aV, .slice A l.length cc] 26 S ?_; clear S; intro b1 oC S; have gW := (S.out.at (.head _) 0).trans rfl)
    | fail)
   clear gW
   go_cut [4] (fun v4 wc => v4 = .int .u8 ax ∧ ae (St w P [(some b1, .cells #[.int .u8 ck, .int .i64 cx, .int .i64 cy, .int .i64 cw, .int .i64 ch, .int .i64 aV, .slice A l.length cc] 26 (0, 0))] [] [(.slice A l.length cc, l)] [] wc))
   case first =>
    have gW := (S.out.at (.head _) 0).trans rfl
    go_wp2
    clear gW
    go_meet
    case rel => exact ⟨by rw [KE.out]; first | rfl | (simp [FB]; done), S⟩
   case rest =>
    clear S
    obtain ⟨rfl, S⟩ := hcut
    rename World => wx
    go_wp2
    refine m_ (n := 13) (S := fun w' => St w _ _ _ _ _ w') (ds := []) (bA 13 0) (by kernel_rfl) rfl rfl (S.out.call (fF (Below.refl _ _))) (fun hHeld => ?_); refine jr xX.alo xX.aeL (fun aW gX => ?_)
    replace S := ae.mk (S.out.call (fF (Below.refl _ _)))
    generalize wx.drew = wd2 at S hHeld ⊢
    refine bH 0 20 (bA 13 1) aW ?_
    refine jq 1 21 (bA 13 3) aW gX hHeld ?_ (hv := by intro w' hs_; have jA := (hs_.at (.head _) 1).trans rfl; have jB := (hs_.at (.head _) 2).trans rfl; have jK := (hs_.at (.head _) 3).trans rfl; have jL := (hs_.at (.head _) 4).trans rfl; go_simp; with_reducible rfl)
    refine bH 2 22 (bA 13 7) aW ?_
    refine bH 4 24 (bA 13 23) aW ?_
    refine jq 5 25 (bA 13 55) aW gX hHeld ?_ (hv := by intro w' hs_; have iI := (hs_.at (.head _) 6).trans rfl; go_simp; with_reducible rfl)
    refine bH 6 26 (bA 13 119) aW ?_
    refine jY (i := 3) (N := some 23) (bA 13 127) rfl rfl (eX aW.out (by kernel_rfl)) (by decide) (fun K hK => ?_)
    refine jc Try.func98 (by kernel_rfl) rfl #[.agg #[.int .i64 cx, .int .i64 cy, .int .i64 cw, .int .i64 ch], .int .u8 ax] (by rfl) rfl rfl (by (try simp only [List.map_toArray, List.map_cons, List.map_nil]); first | done | rfl) ?_
    refine (Gz ⟨cx, cy, cw, ch⟩ ax).mono ?_
    rintro e xm ⟨rfl, hb⟩
    refine ⟨_, rfl, ?_⟩
    replace S := ae.mk (S.out.call hb)
    clear hb
    refine hK.out _ _ S.out (fun hHeld => ?_)
    clear hK K
    refine iW 23 ?_
    refine jY (i := 7) (N := some 27) (bA 13 255) rfl rfl (eX aW.out (by kernel_rfl)) (by decide) (fun K hK => ?_)
    refine jc Try.func53 (by kernel_rfl) rfl #[.int .i64 (dA ax ⟨cx, cy, cw, ch⟩), .int .i64 (l.length : Int)] (by rfl) rfl rfl (by (try simp only [List.map_toArray, List.map_cons, List.map_nil]); first | done | rfl) ?_
    refine (HSZ.out _).mono ?_
    rintro e wJ ⟨As, cs, rfl, h1, hb⟩
    refine ⟨_, rfl, ?_⟩
    obtain ⟨os, S1, HI1⟩ := S.out.Ju h1 hb
    replace S := ae.mk S1
    have HIS := ae.mk HI1
    clear S1 HI1 h1 hb
    refine hK.out _ _ S.out.jT (fun hHeld => ?_)
    clear hK K
    refine iW 27 ?_
    refine bH 8 19 (bA 13 511) aW ?_
    refine bH 9 28 (bA 13 1023) aW ?_
    refine bH 10 29 (bA 13 2047) aW ?_
    refine bH 11 5 (bA 13 4095) aW ?_
    refine bH 12 6 (bA 13 8191) aW ?_
    refine oV (lh aW.out (by kernel_rfl)) ?_
    clear hHeld
    have iI := (S.out.at (.tail _ (.head _)) 6).trans rfl
    go_wp2_with (first
     | ((with_reducible refine bV 34 rfl ?_); refine YL (some 34) Try.func137 S (OV l pG.out (S.out.tree _ (.head _))) ?_; clear S; intro A1 c1 D9 S; clear iI)
     | fail)
    go_loopg [37] l.length (fun gg v37 wr => ∃ (pre rest : List aI), v37 = .int .i64 (pre.length : Int) ∧ ae (pre ++ rest = l) ∧ rest.length ≤ gg ∧ ae (vz ax NS 0 pre = false) ∧ ae (St w P [((Value.slice As sl.length cs).ownBlock, os), (some b1, .cells #[.int .u8 ck, .int .i64 cx, .int .i64 cy, .int .i64 cw, .int .i64 ch, .int .i64 aV, .slice A l.length cc] 26 (0, 0))] [(.slice A1 l.length c1, (mW ax NS 0 pre ++ rest))] [(.slice A l.length cc, l)] [] wr))
    case atStart => exact ⟨[], l, rfl, ⟨rfl⟩, Nat.le_refl _, ⟨rfl⟩, ⟨S.out⟩⟩
    case round =>
     clear S
     obtain ⟨pre, rest, rfl, HE, hgg, Z7, S⟩ := hrel
     cases rest with
     | nil =>
      have hE := HE.out
      rw [List.append_nil] at hE
      have hE2 := hE.symm
      subst hE2
      clear hE HE hgg
      have hlt : ¬ ((l.length : Int) < (l.length : Int)) := by omega
      go_wp2
      refine bodyPost_ret (results_tmp2 rfl _ _ _) rfl ?_
      rw [HR.out, if_neg (by rw [Z7.out]; simp)]
      have hV := S.out.free.UY (b0 := w.heap.size) (.head _)
      rw [List.append_nil] at hV
      simp only [ab7, yU]
      exact ⟨_, _, rfl, hV, S.out.below⟩
     | cons k rest =>
      have hk : k ∈ l := by rw [← HE.out]; simp
      have hlt : (pre.length : Int) < (l.length : Int) := by rw [← HE.out, List.length_append, List.length_cons]; omega
      have hw1 : wrap64 ((pre.length : Int) + 1) = ((pre ++ [k]).length : Int) := by have := pG.out; rw [List.length_append, List.length_singleton]; unfold wrap64; omega
      have HW1 := ae.mk hw1
      have qO := ae.mk hgg
      have Il := ae.mk (La.out k hk)
      have Bf := ae.mk (show sz (bu k 0 0) ≤ 1048576 by rw [(Jw _).1 _ (Nat.le_refl _)]; have := La.out k hk; omega)
      have Ej := ae.mk (show (pre.length : Int) < ((mW ax NS 0 pre ++ k :: rest).length : Int) by rw [List.length_append, yU, List.length_cons]; omega)
      obtain ⟨g, cap, ev, _⟩ := Kd.Io S.out.Aj (by have := Ej.out; omega)
      injection ev with e1 e2 e3
      subst e1
      clear e2 e3 hk hgg hw1
      obtain ⟨ua, uc, S1, hcell⟩ := S.out.JR (pre.length : Int) (Int.natCast_nonneg _) Ej.out
      have hrd : au (mW ax NS 0 pre ++ k :: rest) (pre.length : Int) = k := ah1 ax NS pre k rest
      rw [hrd] at S1 hcell
      replace S := ae.mk S1
      have x0 : wr.cell? ⟨g, pre.length * 7, none⟩ = some (.int .u8 k.f0) := hcell 0 _ rfl
      have x1 : wr.cell? ⟨g, pre.length * 7 + 1, none⟩ = some (.int .i64 k.f1.f0) := hcell 1 _ rfl
      have x2 : wr.cell? ⟨g, pre.length * 7 + 2, none⟩ = some (.int .i64 k.f1.f1) := hcell 2 _ rfl
      have x3 : wr.cell? ⟨g, pre.length * 7 + 3, none⟩ = some (.int .i64 k.f1.f2) := hcell 3 _ rfl
      have x4 : wr.cell? ⟨g, pre.length * 7 + 4, none⟩ = some (.int .i64 k.f1.f3) := hcell 4 _ rfl
      have x5 : wr.cell? ⟨g, pre.length * 7 + 5, none⟩ = some (.int .i64 k.f2) := hcell 5 _ rfl
      have x6 : wr.cell? ⟨g, pre.length * 7 + 6, none⟩ = some (.slice ua k.f3.length uc) := hcell 6 _ rfl
      clear S1 hcell hrd
      have hlt2 : (pre.length : Int) < (sl.length : Int) := by rw [MW.out trivial]; exact hlt
      obtain ⟨ads, ea, _⟩ := Kd.iU (Kd.dH (HIS.out _ (S.out.blk _ (.head _)))).2.2 (pre.length : Int) (Int.natCast_nonneg _) hlt2
      subst ea
      have ab1 := ae.mk hlt2
      obtain ⟨ni, hni⟩ : ∃ ni, ni = rd sl (pre.length : Int) := ⟨_, rfl⟩
      have akH : ni = NS pre.length := by rw [hni, KG.out]
      have HNI := ae.mk akH
      have MR := ae.mk (show rd sl (pre.length : Int) = NS pre.length by rw [KG.out])
      clear hni akH ni HNI
      go_wp2_with (first
       | ((with_reducible refine bV 9 rfl ?_); refine boxS 9 #[.int .u8 0, .int .i64 0, .int .i64 0, .int .i64 0, .int .i64 0, .int .i64 0, .slice none 0 0] 26 S ?_; clear S; intro b9 KY S; clear x0 x1 x2 x3 x4 x5 x6)
       | ((with_reducible refine kR 26 (.tmp 9) (.tmp 41) rfl ?_); refine rU 26 9 41 #[.int .u8 k.f0, .int .i64 k.f1.f0, .int .i64 k.f1.f1, .int .i64 k.f1.f2, .int .i64 k.f1.f3, .int .i64 k.f2, .slice ua k.f3.length uc] 0 7 S ?_; clear S; intro JH S)
       | fail)
      refine m_ (n := 19) (S := fun w' => St w _ _ _ _ _ w') (ds := [17]) (bA 19 0) (by kernel_rfl) rfl rfl (S.out.call (fF (Below.refl _ _))) (fun hHeld => ?_); refine jr yY.ZG yY.Tv (fun aW gX => ?_)
      replace S := ae.mk (S.out.call (fF (Below.refl _ _)))
      generalize JH.drew = wd8 at S hHeld ⊢
      refine jq 0 43 (bA 19 1) aW gX hHeld ?_ (hv := by intro w' hs_; have RZ := (hs_.at (.head _) 0).trans rfl; have Nz := (hs_.at (.head _) 1).trans rfl; have NC := (hs_.at (.head _) 2).trans rfl; have ND := (hs_.at (.head _) 3).trans rfl; have NF := (hs_.at (.head _) 4).trans rfl; have R_ := (hs_.at (.head _) 5).trans rfl; have Si := (hs_.at (.head _) 6).trans rfl; go_simp; with_reducible rfl)
      refine bH 2 45 (bA 19 5) aW ?_
      refine bH 3 46 (bA 19 13) aW ?_
      refine bH 4 47 (bA 19 29) aW ?_
      refine bH 5 48 (bA 19 61) aW ?_
      refine jq 6 49 (bA 19 125) aW gX hHeld ?_ (hv := by intro w' hs_; have xs := GM HIS.out (hs_.blk _ (.tail _ (.head _))) pre.length ab1.out; go_simp; with_reducible rfl)
      refine bH 7 50 (bA 19 253) aW ?_
      refine jq 8 51 (bA 19 509) aW gX hHeld ?_ (hv := by intro w' hs_; have Nz := (hs_.at (.head _) 1).trans rfl; have NC := (hs_.at (.head _) 2).trans rfl; have ND := (hs_.at (.head _) 3).trans rfl; have NF := (hs_.at (.head _) 4).trans rfl; go_simp; with_reducible rfl)
      refine bH 9 52 (bA 19 1021) aW ?_
      refine ae_ (σ := Option Addr × Nat × Option Addr × Nat × Nat) 2 (bA 19 131071) (fun s_ => [(44, .agg #[.int .u8 ((bu k 0 0).f0), .int .i64 ((bu k 0 0).f1.f0), .int .i64 ((bu k 0 0).f1.f1), .int .i64 ((bu k 0 0).f1.f2), .int .i64 ((bu k 0 0).f1.f3), .int .i64 ((bu k 0 0).f2), .slice s_.1 ((bu k 0 0).f3.length) s_.2.1]), (53, .int .i64 (dA ax ⟨k.f1.f0, k.f1.f1, k.f1.f2, k.f1.f3⟩)), (54, .int .i64 (wrap64 ((rd sl (pre.length : Int)) - (dA ax ⟨k.f1.f0, k.f1.f1, k.f1.f2, k.f1.f3⟩)))), (55, .tuple #[.agg #[.int .u8 ((dX ax k (NS pre.length)).f0), .int .i64 ((dX ax k (NS pre.length)).f1.f0), .int .i64 ((dX ax k (NS pre.length)).f1.f1), .int .i64 ((dX ax k (NS pre.length)).f1.f2), .int .i64 ((dX ax k (NS pre.length)).f1.f3), .int .i64 ((dX ax k (NS pre.length)).f2), .slice s_.2.2.1 ((dX ax k (NS pre.length)).f3.length) s_.2.2.2.1], .int .i64 (vw ax k (NS pre.length))]), (42, .tuple #[.agg #[.int .u8 ((dX ax k (NS pre.length)).f0), .int .i64 ((dX ax k (NS pre.length)).f1.f0), .int .i64 ((dX ax k (NS pre.length)).f1.f1), .int .i64 ((dX ax k (NS pre.length)).f1.f2), .int .i64 ((dX ax k (NS pre.length)).f1.f3), .int .i64 ((dX ax k (NS pre.length)).f2), .slice s_.2.2.1 ((dX ax k (NS pre.length)).f3.length) s_.2.2.2.1], .int .i64 (vw ax k (NS pre.length))]), (56, .agg #[.int .u8 ((dX ax k (NS pre.length)).f0), .int .i64 ((dX ax k (NS pre.length)).f1.f0), .int .i64 ((dX ax k (NS pre.length)).f1.f1), .int .i64 ((dX ax k (NS pre.length)).f1.f2), .int .i64 ((dX ax k (NS pre.length)).f1.f3), .int .i64 ((dX ax k (NS pre.length)).f2), .slice s_.2.2.1 ((dX ax k (NS pre.length)).f3.length) s_.2.2.2.1]), (57, .int .i64 (vw ax k (NS pre.length))), (10, .pointer (some ⟨s_.2.2.2.2, 0, none⟩))]) (fun s_ w' => St w P [(some s_.2.2.2.2, .cells #[.int .u8 0, .int .i64 0, .int .i64 0, .int .i64 0, .int .i64 0, .int .i64 0, .slice none 0 0] 26 (0, 0)), (some b9, .cells #[.int .u8 k.f0, .int .i64 k.f1.f0, .int .i64 k.f1.f1, .int .i64 k.f1.f2, .int .i64 k.f1.f3, .int .i64 k.f2, .slice ua k.f3.length uc] 26 (0, 0)), ((Value.slice (some ads) sl.length cs).ownBlock, os), (some b1, .cells #[.int .u8 ck, .int .i64 cx, .int .i64 cy, .int .i64 cw, .int .i64 ch, .int .i64 aV, .slice A l.length cc] 26 (0, 0))] [(.slice (some ⟨g, 0, none⟩) l.length c1, (mW ax NS 0 pre ++ k :: rest))] [(.slice s_.2.2.1 ((dX ax k (NS pre.length)).f3.length) s_.2.2.2.1, (dX ax k (NS pre.length)).f3), (.slice s_.1 ((bu k 0 0).f3.length) s_.2.1, (bu k 0 0).f3), (.slice ua k.f3.length uc, k.f3), (.slice A l.length cc, l)] [] w') ?_ ?_
      rotate_left
      ·intro Cf
       refine Qz (i := 1) (j := 16) (Ni := some 44) (Nj := some 10) (bA 19 1023) (bA 19 66557) rfl rfl rfl rfl (GH aW.out (by kernel_rfl)) (by decide) (by decide) (fun K hK => ?_) (fun K hK => ?_)
       ·skip
        refine jc Try.func66 (by kernel_rfl) rfl #[.agg #[.int .u8 k.f0, .int .i64 k.f1.f0, .int .i64 k.f1.f1, .int .i64 k.f1.f2, .int .i64 k.f1.f3, .int .i64 k.f2, .slice ua k.f3.length uc], .int .i64 0, .int .i64 0] (by rfl) rfl rfl (by (try simp only [List.map_toArray, List.map_cons, List.map_nil]); first | done | rfl) ?_
        refine (Sm k 0 0 Il.out (S.out.tree _ (.head _))).mono ?_
        rintro e Rl ⟨KC, EU, rfl, h1, hb⟩
        refine ⟨_, rfl, ?_⟩
        replace S := ae.mk (S.out.res (Kd.xO (base' := 0) h1) hb)
        clear h1 hb
        refine hK.out _ _ S.out.dW (fun hHeld => ?_)
        clear hK K
        refine iW 44 ?_
        refine Qz (i := 10) (j := 16) (Ni := some 53) (Nj := some 10) (bA 19 2047) (bA 19 66559) rfl rfl rfl rfl (GH aW.out (by kernel_rfl)) (by decide) (by decide) (fun K hK => ?_) (fun K hK => ?_)
        ·skip
         refine jc Try.func98 (by kernel_rfl) rfl #[.agg #[.int .i64 k.f1.f0, .int .i64 k.f1.f1, .int .i64 k.f1.f2, .int .i64 k.f1.f3], .int .u8 ax] (by rfl) rfl rfl (by (try simp only [List.map_toArray, List.map_cons, List.map_nil]); first | done | rfl) ?_
         refine (Gz ⟨k.f1.f0, k.f1.f1, k.f1.f2, k.f1.f3⟩ ax).mono ?_
         rintro e QC ⟨rfl, hb⟩
         refine ⟨_, rfl, ?_⟩
         replace S := ae.mk (S.out.call hb)
         clear hb
         refine hK.out _ _ S.out.dW (fun hHeld => ?_)
         clear hK K
         refine iW 53 ?_
         refine bH 11 54 (bA 19 4095) aW ?_
         refine Qz (i := 12) (j := 16) (Ni := some 55) (Nj := some 10) (bA 19 8191) (bA 19 69631) rfl rfl rfl rfl (GH aW.out (by kernel_rfl)) (by decide) (by decide) (fun K hK => ?_) (fun K hK => ?_)
         ·skip
          refine jc Try.func183 (by kernel_rfl) rfl #[.agg #[.int .u8 ((bu k 0 0).f0), .int .i64 ((bu k 0 0).f1.f0), .int .i64 ((bu k 0 0).f1.f1), .int .i64 ((bu k 0 0).f1.f2), .int .i64 ((bu k 0 0).f1.f3), .int .i64 ((bu k 0 0).f2), .slice KC ((bu k 0 0).f3.length) EU], .int .u8 ax, .int .i64 (wrap64 ((rd sl (pre.length : Int)) - (dA ax ⟨k.f1.f0, k.f1.f1, k.f1.f2, k.f1.f3⟩)))] (by rfl) rfl rfl (by (try simp only [List.map_toArray, List.map_cons, List.map_nil]); first | done | rfl) ?_
          refine (Kw MR.out (Es ax (bu k 0 0) Bf.out _ _ _ _ _ (jS (S.out.tree _ (.head _))))).mono ?_
          rintro e Me ⟨Fe, zZ, rfl, h1, hb⟩
          refine ⟨_, rfl, ?_⟩
          replace S := ae.mk (S.out.res (Kd.xO (base' := 0) h1) hb)
          clear h1 hb
          refine hK.out _ _ S.out.dW.dW (fun hHeld => ?_)
          clear hK K
          refine iW 55 ?_
          refine bH 13 42 (bA 19 16383) aW ?_
          refine bH 14 56 (bA 19 32767) aW ?_
          refine bH 15 57 (bA 19 65535) aW ?_
          refine jY (i := 16) (N := some 10) (bA 19 131071) rfl rfl (eX aW.out (by kernel_rfl)) (by decide) (fun K hK => ?_)
          refine wR ?hg (N := 10) ?hd (cs := #[.int .u8 0, .int .i64 0, .int .i64 0, .int .i64 0, .int .i64 0, .int .i64 0, .slice none 0 0]) (t := 26) ?hr ?_; (case hd => rfl); (case hg => rfl); (case hr => first | (go_simp; done) | (go_simp; rfl))
          intro b10 hg Vj hbox hb
          replace S := ae.mk (S.out.box hg hbox hb)
          clear hg hbox hb
          refine hK.out _ _ S.out.jT.dW.dW (fun hHeld => ?_)
          clear hK K
          refine iW 10 ?_
          exact qi (by simp only [uH, Act.put, List.setIfInBounds_toArray, List.set_cons_zero, List.set_cons_succ] <;> rfl) (Cf (KC, EU, Fe, zZ, b10) _ S.out)
         ·skip
          refine wR ?hg (N := 10) ?hd (cs := #[.int .u8 0, .int .i64 0, .int .i64 0, .int .i64 0, .int .i64 0, .int .i64 0, .slice none 0 0]) (t := 26) ?hr ?_; (case hd => rfl); (case hg => rfl); (case hr => first | (go_simp; done) | (go_simp; rfl))
          intro b10 hg Vk hbox hb
          replace S := ae.mk (S.out.box hg hbox hb)
          clear hg hbox hb
          refine hK.out _ _ S.out.jT.dW (fun hHeld => ?_)
          clear hK K
          refine iW 10 ?_
          refine jY (i := 12) (N := some 55) (bA 19 73727) rfl rfl (eX aW.out (by kernel_rfl)) (by decide) (fun K hK => ?_)
          refine jc Try.func183 (by kernel_rfl) rfl #[.agg #[.int .u8 ((bu k 0 0).f0), .int .i64 ((bu k 0 0).f1.f0), .int .i64 ((bu k 0 0).f1.f1), .int .i64 ((bu k 0 0).f1.f2), .int .i64 ((bu k 0 0).f1.f3), .int .i64 ((bu k 0 0).f2), .slice KC ((bu k 0 0).f3.length) EU], .int .u8 ax, .int .i64 (wrap64 ((rd sl (pre.length : Int)) - (dA ax ⟨k.f1.f0, k.f1.f1, k.f1.f2, k.f1.f3⟩)))] (by rfl) rfl rfl (by (try simp only [List.map_toArray, List.map_cons, List.map_nil]); first | done | rfl) ?_
          refine (Kw MR.out (Es ax (bu k 0 0) Bf.out _ _ _ _ _ (jS (S.out.tree _ (.head _))))).mono ?_
          rintro e ad6 ⟨Fe, zZ, rfl, h1, hb⟩
          refine ⟨_, rfl, ?_⟩
          replace S := ae.mk (S.out.res (Kd.xO (base' := 0) h1) hb)
          clear h1 hb
          refine hK.out _ _ S.out.jT.dW.dW (fun hHeld => ?_)
          clear hK K
          refine iW 55 ?_
          refine bH 13 42 (bA 19 81919) aW ?_
          refine bH 14 56 (bA 19 98303) aW ?_
          refine bH 15 57 (bA 19 131071) aW ?_
          exact qi (by simp only [uH, Act.put, List.setIfInBounds_toArray, List.set_cons_zero, List.set_cons_succ] <;> rfl) (Cf (KC, EU, Fe, zZ, b10) _ S.out)
        ·skip
         refine wR ?hg (N := 10) ?hd (cs := #[.int .u8 0, .int .i64 0, .int .i64 0, .int .i64 0, .int .i64 0, .int .i64 0, .slice none 0 0]) (t := 26) ?hr ?_; (case hd => rfl); (case hg => rfl); (case hr => first | (go_simp; done) | (go_simp; rfl))
         intro b10 hg ZL hbox hb
         replace S := ae.mk (S.out.box hg hbox hb)
         clear hg hbox hb
         refine hK.out _ _ S.out.jT.dW (fun hHeld => ?_)
         clear hK K
         refine iW 10 ?_
         refine jY (i := 10) (N := some 53) (bA 19 67583) rfl rfl (eX aW.out (by kernel_rfl)) (by decide) (fun K hK => ?_)
         refine jc Try.func98 (by kernel_rfl) rfl #[.agg #[.int .i64 k.f1.f0, .int .i64 k.f1.f1, .int .i64 k.f1.f2, .int .i64 k.f1.f3], .int .u8 ax] (by rfl) rfl rfl (by (try simp only [List.map_toArray, List.map_cons, List.map_nil]); first | done | rfl) ?_
         refine (Gz ⟨k.f1.f0, k.f1.f1, k.f1.f2, k.f1.f3⟩ ax).mono ?_
         rintro e ad7 ⟨rfl, hb⟩
         refine ⟨_, rfl, ?_⟩
         replace S := ae.mk (S.out.call hb)
         clear hb
         refine hK.out _ _ S.out.jT.dW (fun hHeld => ?_)
         clear hK K
         refine iW 53 ?_
         refine bH 11 54 (bA 19 69631) aW ?_
         refine jY (i := 12) (N := some 55) (bA 19 73727) rfl rfl (eX aW.out (by kernel_rfl)) (by decide) (fun K hK => ?_)
         refine jc Try.func183 (by kernel_rfl) rfl #[.agg #[.int .u8 ((bu k 0 0).f0), .int .i64 ((bu k 0 0).f1.f0), .int .i64 ((bu k 0 0).f1.f1), .int .i64 ((bu k 0 0).f1.f2), .int .i64 ((bu k 0 0).f1.f3), .int .i64 ((bu k 0 0).f2), .slice KC ((bu k 0 0).f3.length) EU], .int .u8 ax, .int .i64 (wrap64 ((rd sl (pre.length : Int)) - (dA ax ⟨k.f1.f0, k.f1.f1, k.f1.f2, k.f1.f3⟩)))] (by rfl) rfl rfl (by (try simp only [List.map_toArray, List.map_cons, List.map_nil]); first | done | rfl) ?_
         refine (Kw MR.out (Es ax (bu k 0 0) Bf.out _ _ _ _ _ (jS (S.out.tree _ (.head _))))).mono ?_
         rintro e alr ⟨Fe, zZ, rfl, h1, hb⟩
         refine ⟨_, rfl, ?_⟩
         replace S := ae.mk (S.out.res (Kd.xO (base' := 0) h1) hb)
         clear h1 hb
         refine hK.out _ _ S.out.jT.dW.dW (fun hHeld => ?_)
         clear hK K
         refine iW 55 ?_
         refine bH 13 42 (bA 19 81919) aW ?_
         refine bH 14 56 (bA 19 98303) aW ?_
         refine bH 15 57 (bA 19 131071) aW ?_
         exact qi (by simp only [uH, Act.put, List.setIfInBounds_toArray, List.set_cons_zero, List.set_cons_succ] <;> rfl) (Cf (KC, EU, Fe, zZ, b10) _ S.out)
       ·skip
        refine wR ?hg (N := 10) ?hd (cs := #[.int .u8 0, .int .i64 0, .int .i64 0, .int .i64 0, .int .i64 0, .int .i64 0, .slice none 0 0]) (t := 26) ?hr ?_; (case hd => rfl); (case hg => rfl); (case hr => first | (go_simp; done) | (go_simp; rfl))
        intro b10 hg ad8 hbox hb
        replace S := ae.mk (S.out.box hg hbox hb)
        clear hg hbox hb
        refine hK.out _ _ S.out.jT (fun hHeld => ?_)
        clear hK K
        refine iW 10 ?_
        refine jY (i := 1) (N := some 44) (bA 19 66559) rfl rfl (eX aW.out (by kernel_rfl)) (by decide) (fun K hK => ?_)
        refine jc Try.func66 (by kernel_rfl) rfl #[.agg #[.int .u8 k.f0, .int .i64 k.f1.f0, .int .i64 k.f1.f1, .int .i64 k.f1.f2, .int .i64 k.f1.f3, .int .i64 k.f2, .slice ua k.f3.length uc], .int .i64 0, .int .i64 0] (by rfl) rfl rfl (by (try simp only [List.map_toArray, List.map_cons, List.map_nil]); first | done | rfl) ?_
        refine (Sm k 0 0 Il.out (S.out.tree _ (.head _))).mono ?_
        rintro e apH ⟨KC, EU, rfl, h1, hb⟩
        refine ⟨_, rfl, ?_⟩
        replace S := ae.mk (S.out.res (Kd.xO (base' := 0) h1) hb)
        clear h1 hb
        refine hK.out _ _ S.out.jT.dW (fun hHeld => ?_)
        clear hK K
        refine iW 44 ?_
        refine jY (i := 10) (N := some 53) (bA 19 67583) rfl rfl (eX aW.out (by kernel_rfl)) (by decide) (fun K hK => ?_)
        refine jc Try.func98 (by kernel_rfl) rfl #[.agg #[.int .i64 k.f1.f0, .int .i64 k.f1.f1, .int .i64 k.f1.f2, .int .i64 k.f1.f3], .int .u8 ax] (by rfl) rfl rfl (by (try simp only [List.map_toArray, List.map_cons, List.map_nil]); first | done | rfl) ?_
        refine (Gz ⟨k.f1.f0, k.f1.f1, k.f1.f2, k.f1.f3⟩ ax).mono ?_
        rintro e aw6 ⟨rfl, hb⟩
        refine ⟨_, rfl, ?_⟩
        replace S := ae.mk (S.out.call hb)
        clear hb
        refine hK.out _ _ S.out.jT.dW (fun hHeld => ?_)
        clear hK K
        refine iW 53 ?_
        refine bH 11 54 (bA 19 69631) aW ?_
        refine jY (i := 12) (N := some 55) (bA 19 73727) rfl rfl (eX aW.out (by kernel_rfl)) (by decide) (fun K hK => ?_)
        refine jc Try.func183 (by kernel_rfl) rfl #[.agg #[.int .u8 ((bu k 0 0).f0), .int .i64 ((bu k 0 0).f1.f0), .int .i64 ((bu k 0 0).f1.f1), .int .i64 ((bu k 0 0).f1.f2), .int .i64 ((bu k 0 0).f1.f3), .int .i64 ((bu k 0 0).f2), .slice KC ((bu k 0 0).f3.length) EU], .int .u8 ax, .int .i64 (wrap64 ((rd sl (pre.length : Int)) - (dA ax ⟨k.f1.f0, k.f1.f1, k.f1.f2, k.f1.f3⟩)))] (by rfl) rfl rfl (by (try simp only [List.map_toArray, List.map_cons, List.map_nil]); first | done | rfl) ?_
        refine (Kw MR.out (Es ax (bu k 0 0) Bf.out _ _ _ _ _ (jS (S.out.tree _ (.head _))))).mono ?_
        rintro e apI ⟨Fe, zZ, rfl, h1, hb⟩
        refine ⟨_, rfl, ?_⟩
        replace S := ae.mk (S.out.res (Kd.xO (base' := 0) h1) hb)
        clear h1 hb
        refine hK.out _ _ S.out.jT.dW.dW (fun hHeld => ?_)
        clear hK K
        refine iW 55 ?_
        refine bH 13 42 (bA 19 81919) aW ?_
        refine bH 14 56 (bA 19 98303) aW ?_
        refine bH 15 57 (bA 19 131071) aW ?_
        exact qi (by simp only [uH, Act.put, List.setIfInBounds_toArray, List.set_cons_zero, List.set_cons_succ] <;> rfl) (Cf (KC, EU, Fe, zZ, b10) _ S.out)
      rintro ⟨KC, EU, Fe, zZ, b10⟩ axc S1
      simp only [uH, Act.put, List.setIfInBounds_toArray, List.set_cons_zero, List.set_cons_succ]
      replace S := ae.mk S1
      clear S1 hHeld
      have hHeld := S.out.jT.dW.dW
      refine zD (i := 17) (N := none) (bA 19 262143) rfl rfl (eX aW.out (by kernel_rfl)) (by decide) (fun K hK => ?_)
      refine CP 0 rfl 26 (.tmp 10) (.tmp 56) rfl #[.int .u8 ((dX ax k (NS pre.length)).f0), .int .i64 ((dX ax k (NS pre.length)).f1.f0), .int .i64 ((dX ax k (NS pre.length)).f1.f1), .int .i64 ((dX ax k (NS pre.length)).f1.f2), .int .i64 ((dX ax k (NS pre.length)).f1.f3), .int .i64 ((dX ax k (NS pre.length)).f2), .slice Fe ((dX ax k (NS pre.length)).f3.length) zZ] (j := 0) (u := .agg #[.int .u8 ((dX ax k (NS pre.length)).f0), .int .i64 ((dX ax k (NS pre.length)).f1.f0), .int .i64 ((dX ax k (NS pre.length)).f1.f1), .int .i64 ((dX ax k (NS pre.length)).f1.f2), .int .i64 ((dX ax k (NS pre.length)).f1.f3), .int .i64 ((dX ax k (NS pre.length)).f2), .slice Fe ((dX ax k (NS pre.length)).f3.length) zZ]) (dL := [.int .u8 ((dX ax k (NS pre.length)).f0), .int .i64 ((dX ax k (NS pre.length)).f1.f0), .int .i64 ((dX ax k (NS pre.length)).f1.f1), .int .i64 ((dX ax k (NS pre.length)).f1.f2), .int .i64 ((dX ax k (NS pre.length)).f1.f3), .int .i64 ((dX ax k (NS pre.length)).f2), .slice Fe ((dX ax k (NS pre.length)).f3.length) zZ]) S.out (by rfl) rfl rfl rfl rfl (by kernel_rfl) (by simp [Value.oneCell']) (by first | decide | simp) rfl ?_
      intro apJ S1
      simp only [List.set_cons_zero, List.set_cons_succ] at S1
      replace S := ae.mk S1
      clear S1
      refine hK.out _ _ ?_
      clear hK K
      refine bH 18 11 (bA 19 524287) aW ?_
      refine oV (lh aW.out (by kernel_rfl)) ?_
      clear hHeld
      by_cases hkn : (vw ax k (NS pre.length)) = 0
      ·have hkb2 : ((vw ax k (NS pre.length)) != 0) = false := by rw [hkn]; rfl
       have SS := ae.mk hkn
       have hkd : decide ((vw ax k (NS pre.length)) = 0) = true := decide_eq_true hkn
       obtain ⟨ajW, ajX, ajY, ajZ, aj0, aj1, aj2⟩ := St.nU S (.head _)
       go_wp2_with (first
        | ((with_reducible refine sS (.store 26 (.tmp 63) (.tmp 62)) rfl ?_); go_loud (refine alf (pre.length : Int) (dX ax k (NS pre.length)) (.tmp 63) (.tmp 62) rfl S.out (Int.natCast_nonneg _) Ej.out ?sA ?sX (by kernel_rfl) (.head _) rfl rfl ?_; (case sA => first | rfl | (go_simp; rfl)); (case sX => rfl); intro aw8 S1; rw [show (mW ax NS 0 pre ++ k :: rest).set (pre.length : Int).toNat (dX ax k (NS pre.length)) = mW ax NS 0 (pre ++ [k]) ++ rest from ac4 ax NS pre k rest] at S1; replace S := ae.mk S1; clear S1); clear ajW ajX ajY ajZ aj0 aj1 aj2)
        | fail)
       have hw1 := HW1.out
       go_wp2
       go_roundg rest.length
       case measure => exact Nat.lt_of_lt_of_le (Nat.lt_succ_self _) qO.out
       case rel => exact ⟨pre ++ [k], rest, (by rw [hw1]), ⟨by rw [List.append_assoc]; exact HE.out⟩, Nat.le_refl _, ⟨by rw [ED, Z7.out]; simp only [vz, Nat.zero_add, Bool.false_or, Bool.or_false]; rw [SS.out]; rfl⟩, ⟨S.out.jT.jT.dW.dW.dW⟩⟩
      ·have hkb2 : ((vw ax k (NS pre.length)) != 0) = true := bne_iff_ne.mpr hkn
       have SS := ae.mk hkb2
       have hkd : decide ((vw ax k (NS pre.length)) = 0) = false := decide_eq_false hkn
       go_wp2
       refine bodyPost_ret (results_tmp2 rfl _ _ _) rfl ?_
       rw [HR.out, if_pos (by rw [← HE.out, ED]; simp only [vz, Nat.zero_add]; rw [SS.out]; simp)]
       exact ⟨none, 0, rfl, Kd.Yi _ _ _ _ _, S.out.below⟩
def BF.T8 : Bool × List (List Nat × List Nat) := (true, [([], []), ([0], [0]), ([], []), ([], []), ([3], [3]), ([1, 2, 0, 1, 2, 3, 4], [1, 2]), ([5, 4, 4, 0, 1, 2, 3, 4], [4, 5])])
def BF.B8 : List Nat := [0, 1, 0, 0, 8, 31, 63]
theorem BF.adZ : lC .any (opsOf Try.f153 8) = BF.T8 := by kernel_rfl
theorem BF.Yn : lu BF.T8.2 BF.B8 = true := by kernel_rfl
theorem ajJ : ∀ (N : Nat) (c : aI), sz c ≤ N → N ≤ 100000 → ∀ (P : Nat → Prop) (A : Option Addr) (cc : Nat) (w : World), Kd.V k26 26 w w.heap.size P (.slice A c.f3.length cc) c.f3 →
  Calls Try.prog 153 #[.agg #[.int .u8 c.f0, .int .i64 c.f1.f0, .int .i64 c.f1.f1, .int .i64 c.f1.f2, .int .i64 c.f1.f3, .int .i64 c.f2, .slice A c.f3.length cc]] w (zt w P (dY N c)) := by
 intro N
 induction N with
 | zero => intro c h; rw [gm] at h; omega
 | succ N ih =>
  intro c hc hN P A cc w hv
  have hsz := gm c
  have hks := LG c
  have NP := fun P W A cc (h : Kd.V k26 26 W W.heap.size P (.slice A c.f3.length cc) c.f3) => ah0 c (by omega) P A cc W h
  have S := ae.mk (St.start (ts := [(.slice A c.f3.length cc, c.f3)]) (b0 := w.heap.size) (w := w) (P := P) (fun t ht => by rw [List.mem_singleton.1 ht]; exact hv))
  simp only [dY]
  obtain ⟨L0, hL0⟩ : ∃ L0, L0 = if (nK c).2 = 0 then (nK c).1 else c.f3 := ⟨_, rfl⟩
  rw [← hL0] at hks ⊢
  have hlen := nN L0
  have pG := ae.mk (show L0.length ≤ 1000000 by omega)
  have IH := ae.mk fun (k : aI) (hk : k ∈ L0) P A cc w h => ih k (by have := vV hk; omega) (by omega) P A cc w h
  generalize nK c = kr at hL0 NP
  obtain ⟨L, en⟩ := kr
  obtain ⟨ck, ⟨cx, cy, cw, ch⟩, aV, l⟩ := c
  simp only [] at S hL0 NP ⊢
  have Z8 := ae.mk NP
  have SV := ae.mk hL0
  clear ih hc hN hv hsz hks NP hL0 hlen
  go_enter Try.func153, Try.ntmps153
  go_upto_if 13 with (first
   | ((with_reducible refine bV 1 rfl ?_); refine boxS 1 #[.int .u8 ck, .int .i64 cx, .int .i64 cy, .int .i64 cw, .int .i64 ch, .int .i64 aV, .slice A l.length cc] 26 S ?_; clear S; intro b1 oC S)
   | ((with_reducible refine bV 2 rfl ?_); refine boxS 2 #[.int .u8 0, .int .i64 0, .int .i64 0, .int .i64 0, .int .i64 0, .int .i64 0, .slice none 0 0] 26 S ?_; clear S; intro b2 qU S; obtain ⟨gW, jA, jB, jK, jL, kH, iI⟩ := St.nU S (.tail _ (.head _)))
   | ((with_reducible refine bV 9 rfl ?_); refine anD (some 9) Try.func155 S (Z8.out _ _ A cc (jS (S.out.tree _ (.head _)))) ?_; clear S; intro Ak ca xm S; clear gW jA jB jK jL kH iI)
   | fail)
  go_cut [] (fun wc => ∃ A0 c0, ae (St w P [(some b2, .cells #[.int .u8 0, .int .i64 0, .int .i64 0, .int .i64 0, .int .i64 0, .int .i64 0, .slice none 0 0] 26 (0, 0)), (some b1, .cells #[.int .u8 ck, .int .i64 cx, .int .i64 cy, .int .i64 cw, .int .i64 ch, .int .i64 aV, .slice A0 L0.length c0] 26 (0, 0))] [] [(.slice A0 L0.length c0, L0)] [] wc))
  case first =>
   by_cases hen : en = 0
   ·have hl : L0 = L := by rw [SV.out, if_pos hen]
    have hed : decide (en = 0) = true := decide_eq_true hen
    have heb : (en == 0) = true := beq_iff_eq.mpr hen
    go_wp2_with (first
     | ((with_reducible refine kR 24 (.tmp 15) (.tmp 14) rfl ?_); refine BP 24 15 14 #[.int .u8 ck, .int .i64 cx, .int .i64 cy, .int .i64 cw, .int .i64 ch, .int .i64 aV, .slice Ak L.length ca] 6 1 S ?_; clear S; intro wJ S)
     | fail)
    go_meet
    case rel => rw [hl]; exact ⟨_, _, ⟨S.out.Sl (.head _)⟩⟩
   ·have hl : L0 = l := by rw [SV.out, if_neg hen]
    have hed : decide (en = 0) = false := decide_eq_false hen
    have heb : (en == 0) = false := beq_eq_false_iff_ne.mpr hen
    go_wp2
    go_meet
    case rel => rw [hl]; exact ⟨_, _, ⟨S.out.Sl (.tail _ (.head _))⟩⟩
  case rest =>
   clear S Z8 SV
   obtain ⟨A0, c0, S⟩ := hcut
   rename World => wx
   have iI := (S.out.at (.tail _ (.head _)) 6).trans rfl
   go_wp2_with (first
    | ((with_reducible refine bV 18 rfl ?_); refine YL (some 18) Try.func137 S (OV L0 pG.out (S.out.tree _ (.head _))) ?_; clear S; intro A1 c1 D9 S; clear iI)
    | ((with_reducible refine kR 24 (.tmp 19) (.tmp 18) rfl ?_); refine BP 24 19 18 #[.int .u8 ck, .int .i64 cx, .int .i64 cy, .int .i64 cw, .int .i64 ch, .int .i64 aV, .slice A1 L0.length c1] 6 1 S ?_; clear S; intro KY S; have iI := (S.out.at (.tail _ (.head _)) 6).trans rfl)
    | fail)
   clear iI
   go_loopg [23] L0.length (fun gg v23 wr => ∃ (pre rest : List aI), v23 = .int .i64 (pre.length : Int) ∧ ae (pre ++ rest = L0) ∧ rest.length ≤ gg ∧ ae (St w P [(some b2, .cells #[.int .u8 0, .int .i64 0, .int .i64 0, .int .i64 0, .int .i64 0, .int .i64 0, .slice none 0 0] 26 (0, 0)), (some b1, .cells #[.int .u8 ck, .int .i64 cx, .int .i64 cy, .int .i64 cw, .int .i64 ch, .int .i64 aV, .slice A1 L0.length c1] 26 (0, 0))] [(.slice A1 L0.length c1, (pre.map (dY N) ++ rest))] [(.slice A0 L0.length c0, L0)] [] wr))
   case atStart => exact ⟨[], L0, rfl, ⟨rfl⟩, Nat.le_refl _, ⟨S.out⟩⟩
   case round =>
    clear S
    obtain ⟨pre, rest, rfl, HE, hgg, S⟩ := hrel
    cases rest with
    | nil =>
     have hE := HE.out
     rw [List.append_nil] at hE
     have hE2 := hE.symm
     subst hE2
     clear hE HE hgg
     have hlt : ¬ ((L0.length : Int) < (L0.length : Int)) := by omega
     obtain ⟨gW, jA, jB, jK, jL, kH, iI⟩ := St.nU S (.tail _ (.head _))
     go_wp2_with (first
      | ((with_reducible refine kR 26 (.tmp 2) (.tmp 35) rfl ?_); refine rU 26 2 35 #[.int .u8 ck, .int .i64 cx, .int .i64 cy, .int .i64 cw, .int .i64 ch, .int .i64 aV, .slice A1 L0.length c1] 0 7 S ?_; clear S; intro JH S; clear gW jA jB jK jL kH iI)
      | fail)
     refine bodyPost_ret (results_cell_row rfl _ _ b2 26 #[.int .u8 ck, .int .i64 cx, .int .i64 cy, .int .i64 cw, .int .i64 ch, .int .i64 aV, .slice A1 L0.length c1] (0, 0) _ rfl (S.out.blk _ (.head _) _ rfl) Try.underlying26 rfl (by kernel_rfl)) rfl ?_
     have hN := S.out.Aj
     rw [List.append_nil] at hN
     simp only [zt, List.length_map]
     exact ⟨_, _, rfl, hN, S.out.below⟩
    | cons k rest =>
     have hk : k ∈ L0 := by rw [← HE.out]; simp
     have hlt : (pre.length : Int) < (L0.length : Int) := by rw [← HE.out, List.length_append, List.length_cons]; omega
     have hw1 : wrap64 ((pre.length : Int) + 1) = ((pre ++ [k]).length : Int) := by have := pG.out; rw [List.length_append, List.length_singleton]; unfold wrap64; omega
     have HW1 := ae.mk hw1
     have qO := ae.mk hgg
     have HK := ae.mk hk
     have Ej := ae.mk (show (pre.length : Int) < ((pre.map (dY N) ++ k :: rest).length : Int) by rw [List.length_append, List.length_map, List.length_cons]; omega)
     obtain ⟨g, cap, ev, _⟩ := Kd.Io S.out.Aj (by have := Ej.out; omega)
     injection ev with e1 e2 e3
     subst e1
     clear e2 e3 hk hgg hw1
     obtain ⟨ua, uc, S1, hcell⟩ := S.out.JR (pre.length : Int) (Int.natCast_nonneg _) Ej.out
     have hrd : au (pre.map (dY N) ++ k :: rest) (pre.length : Int) = k := akT (dY N) pre k rest
     rw [hrd] at S1 hcell
     replace S := ae.mk S1
     have x0 : wr.cell? ⟨g, pre.length * 7, none⟩ = some (.int .u8 k.f0) := hcell 0 _ rfl
     have x1 : wr.cell? ⟨g, pre.length * 7 + 1, none⟩ = some (.int .i64 k.f1.f0) := hcell 1 _ rfl
     have x2 : wr.cell? ⟨g, pre.length * 7 + 2, none⟩ = some (.int .i64 k.f1.f1) := hcell 2 _ rfl
     have x3 : wr.cell? ⟨g, pre.length * 7 + 3, none⟩ = some (.int .i64 k.f1.f2) := hcell 3 _ rfl
     have x4 : wr.cell? ⟨g, pre.length * 7 + 4, none⟩ = some (.int .i64 k.f1.f3) := hcell 4 _ rfl
     have x5 : wr.cell? ⟨g, pre.length * 7 + 5, none⟩ = some (.int .i64 k.f2) := hcell 5 _ rfl
     have x6 : wr.cell? ⟨g, pre.length * 7 + 6, none⟩ = some (.slice ua k.f3.length uc) := hcell 6 _ rfl
     clear S1 hcell hrd
     go_wp2_with (first
      | ((with_reducible refine bV 6 rfl ?_); refine boxS 6 #[.int .u8 0, .int .i64 0, .int .i64 0, .int .i64 0, .int .i64 0, .int .i64 0, .slice none 0 0] 26 S ?_; clear S; intro b6 Rk S; clear x0 x1 x2 x3 x4 x5 x6)
      | ((with_reducible refine kR 26 (.tmp 6) (.tmp 27) rfl ?_); refine rU 26 6 27 #[.int .u8 k.f0, .int .i64 k.f1.f0, .int .i64 k.f1.f1, .int .i64 k.f1.f2, .int .i64 k.f1.f3, .int .i64 k.f2, .slice ua k.f3.length uc] 0 7 S ?_; clear S; intro Rl S)
      | fail)
     refine m_ (n := 7) (S := fun w' => St w _ _ _ _ _ w') (ds := [6]) (bA 7 0) (by kernel_rfl) rfl rfl (S.out.call (fF (Below.refl _ _))) (fun hHeld => ?_); refine jr BF.adZ BF.Yn (fun aW gX => ?_)
     replace S := ae.mk (S.out.call (fF (Below.refl _ _)))
     generalize Rl.drew = aw9 at S hHeld ⊢
     refine bH 0 28 (bA 7 1) aW ?_
     refine jq 1 29 (bA 7 3) aW gX hHeld ?_ (hv := by intro w' hs_; have iI := (hs_.at (.tail _ (.tail _ (.head _))) 6).trans rfl; go_simp; with_reducible rfl)
     refine bH 2 30 (bA 7 7) aW ?_
     refine jq 3 31 (bA 7 15) aW gX hHeld ?_ (hv := by intro w' hs_; have au1 := (hs_.at (.head _) 0).trans rfl; have au2 := (hs_.at (.head _) 1).trans rfl; have au3 := (hs_.at (.head _) 2).trans rfl; have au4 := (hs_.at (.head _) 3).trans rfl; have au5 := (hs_.at (.head _) 4).trans rfl; have au6 := (hs_.at (.head _) 5).trans rfl; have au7 := (hs_.at (.head _) 6).trans rfl; go_simp; with_reducible rfl)
     refine jY (i := 4) (N := some 32) (bA 7 31) rfl rfl (eX aW.out (by kernel_rfl)) (by decide) (fun K hK => ?_)
     refine jc Try.func153 (by kernel_rfl) rfl #[.agg #[.int .u8 k.f0, .int .i64 k.f1.f0, .int .i64 k.f1.f1, .int .i64 k.f1.f2, .int .i64 k.f1.f3, .int .i64 k.f2, .slice ua k.f3.length uc]] (by rfl) rfl rfl (by (try simp only [List.map_toArray, List.map_cons, List.map_nil]); first | done | rfl) ?_
     refine (IH.out k HK.out _ ua uc _ (jS (S.out.tree _ (.head _)))).mono ?_
     rintro e Me ⟨A32, awi, rfl, h1, hb⟩
     refine ⟨_, rfl, ?_⟩
     replace S := ae.mk (S.out.res (Kd.xO (base' := 0) h1) hb)
     clear h1 hb
     refine hK.out _ _ S.out.dW (fun hHeld => ?_)
     clear hK K
     refine iW 32 ?_
     refine bH 5 33 (bA 7 63) aW ?_
     refine zD (i := 6) (N := none) (bA 7 127) rfl rfl (eX aW.out (by kernel_rfl)) (by decide) (fun K hK => ?_)
     refine XC (pre.length : Int) (dY N k) (.tmp 33) (.tmp 32) rfl S.out (by rfl) rfl (Int.natCast_nonneg _) Ej.out (by first | rfl | (go_simp; rfl)) rfl (by kernel_rfl) (.head _) ?_
     intro Vj S1
     rw [show (pre.map (dY N) ++ k :: rest).set (pre.length : Int).toNat (dY N k) = (pre ++ [k]).map (dY N) ++ rest from ah8 (dY N) pre k rest] at S1
     replace S := ae.mk S1
     clear S1
     refine hK.out _ _ ?_
     clear hK K
     refine oV (lh aW.out (by kernel_rfl)) ?_
     clear hHeld
     go_wp2
     have hw1 := HW1.out
     go_wp2
     go_roundg rest.length
     case measure => exact Nat.lt_of_lt_of_le (Nat.lt_succ_self _) qO.out
     case rel => exact ⟨pre ++ [k], rest, (by rw [hw1]), ⟨by rw [List.append_assoc]; exact HE.out⟩, Nat.le_refl _, ⟨S.out.jT.dW.dW⟩⟩
def BC.T3 : Bool × List (List Nat × List Nat) := (true, [([], []), ([0], [0]), ([], []), ([2], [2]), ([3], [3]), ([], []), ([5], [5]), ([6], [6]), ([1, 4, 7, 1], [1, 4, 7]), ([8, 8, 0, 1, 2, 3, 4, 5, 6, 7, 8], [8]), ([9, 0, 1, 2, 3, 4, 5, 6, 7, 8, 9], [])])
def BC.B3 : List Nat := [0, 1, 0, 4, 12, 0, 32, 96, 255, 511, 1023]
theorem BC.JC : lC .any (opsOf Try.f107 3) = BC.T3 := by kernel_rfl
theorem BC.Eu : lu BC.T3.2 BC.B3 = true := by kernel_rfl
theorem ajI (c : aI) (hz : sz c ≤ 1048576) (P : Nat → Prop) (A : Option Addr) (cc : Nat) (w : World) (hv : Kd.V k26 26 w w.heap.size P (.slice A c.f3.length cc) c.f3) :
  Calls Try.prog 107 #[.agg #[.int .u8 c.f0, .int .i64 c.f1.f0, .int .i64 c.f1.f1, .int .i64 c.f1.f2, .int .i64 c.f1.f3, .int .i64 c.f2, .slice A c.f3.length cc]] w (En w P (tY c) (Yl c)) := by
 have S := ae.mk (St.start (ts := [(.slice A c.f3.length cc, c.f3)]) (b0 := w.heap.size) (w := w) (P := P) (fun t ht => by rw [List.mem_singleton.1 ht]; exact hv))
 have HZ := ae.mk hz
 have hs := fun h => uP (xk (c := c) h)
 unfold tY Yl
 obtain ⟨ck, ⟨cx, cy, cw, ch⟩, aV, l⟩ := c
 simp only [] at S ⊢
 clear hv hz
 cases ht : jy ⟨ck, ⟨cx, cy, cw, ch⟩, aV, l⟩ with
 | false =>
  have HT := ae.mk ht
  clear ht hs
  go_enter Try.func107, Try.ntmps107
  go_wp2_with (first
   | ((with_reducible refine bV 1 rfl ?_); refine boxS 1 #[.int .u8 ck, .int .i64 cx, .int .i64 cy, .int .i64 cw, .int .i64 ch, .int .i64 aV, .slice A l.length cc] 26 S ?_; clear S; intro b1 oC S)
   | ((with_reducible refine bV 2 rfl ?_); refine boxS 2 #[.int .u8 0, .int .i64 0, .int .i64 0, .int .i64 0, .int .i64 0, .int .i64 0, .slice none 0 0] 26 S ?_; clear S; intro b2 qU S; obtain ⟨gW, jA, jB, jK, jL, kH, iI⟩ := St.nU S (.tail _ (.head _)))
   | ((with_reducible refine aQ (N := 5) rfl ?_); refine CJ (N := 5) rfl rfl ⟨ck, ⟨cx, cy, cw, ch⟩, aV, l⟩ S.out (S.out.tree _ (.head _)) ?hr ?_; (case hr => first | (go_simp; done) | (go_simp; rfl)); intro Al5 cl5 xm S1 h1 h2; replace S := ae.mk S1; have CW := ae.mk h1; have Fg := ae.mk h2; clear S1 h1 h2; clear gW jA jB jK jL kH iI)
   | ((with_reducible refine bV 6 rfl ?_); refine jX (some 6) Try.func148 S (vW HT.out (CS ⟨ck, ⟨cx, cy, cw, ch⟩, aV, l⟩ HZ.out Fg.out CW.out)) ?_; clear S; intro wJ S)
   | ((with_reducible refine kR 26 (.tmp 2) (.tmp 8) rfl ?_); refine rU 26 2 8 #[.int .u8 0, .int .i64 0, .int .i64 0, .int .i64 0, .int .i64 0, .int .i64 0, .slice none 0 0] 0 7 S ?_; clear S; intro D9 S)
   | fail)
  refine bodyPost_ret (jP rfl _ _ b2 26 #[.int .u8 0, .int .i64 0, .int .i64 0, .int .i64 0, .int .i64 0, .int .i64 0, .slice none 0 0] (0, 0) _ rfl (S.out.blk _ (.head _) _ rfl) Try.underlying26 rfl (by kernel_rfl)) rfl ?_
  exact ⟨_, _, rfl, Kd.wE _ _ _ _ _, S.out.below⟩
 | true =>
  have hs2 := hs ht
  have HZ2 := ae.mk (show sz ⟨ck, ⟨cx, cy, cw, ch⟩, aV, l⟩ ≤ 100000 by omega)
  have HZ3 := ae.mk (show sz (dY 100000 ⟨ck, ⟨cx, cy, cw, ch⟩, aV, l⟩) ≤ 1000000 by have := Vb 100000 ⟨ck, ⟨cx, cy, cw, ch⟩, aV, l⟩; omega)
  have HT := ae.mk ht
  clear ht hs hs2
  go_enter Try.func107, Try.ntmps107
  go_wp2_with (first
   | ((with_reducible refine bV 1 rfl ?_); refine boxS 1 #[.int .u8 ck, .int .i64 cx, .int .i64 cy, .int .i64 cw, .int .i64 ch, .int .i64 aV, .slice A l.length cc] 26 S ?_; clear S; intro b1 oC S)
   | ((with_reducible refine bV 2 rfl ?_); refine boxS 2 #[.int .u8 0, .int .i64 0, .int .i64 0, .int .i64 0, .int .i64 0, .int .i64 0, .slice none 0 0] 26 S ?_; clear S; intro b2 qU S; obtain ⟨gW, jA, jB, jK, jL, kH, iI⟩ := St.nU S (.tail _ (.head _)))
   | ((with_reducible refine aQ (N := 5) rfl ?_); refine CJ (N := 5) rfl rfl ⟨ck, ⟨cx, cy, cw, ch⟩, aV, l⟩ S.out (S.out.tree _ (.head _)) ?hr ?_; (case hr => first | (go_simp; done) | (go_simp; rfl)); intro Al5 cl5 xm S1 h1 h2; replace S := ae.mk S1; have CW := ae.mk h1; have Fg := ae.mk h2; clear S1 h1 h2; clear gW jA jB jK jL kH iI)
   | ((with_reducible refine bV 6 rfl ?_); refine jX (some 6) Try.func148 S (vW HT.out (CS ⟨ck, ⟨cx, cy, cw, ch⟩, aV, l⟩ HZ.out Fg.out CW.out)) ?_; clear S; intro wJ S)
   | fail)
  refine m_ (n := 11) (S := fun w' => St w _ _ _ _ _ w') (ds := [9]) (bA 11 0) (by kernel_rfl) rfl rfl (S.out.call (fF (Below.refl _ _))) (fun hHeld => ?_); refine jr BC.JC BC.Eu (fun aW gX => ?_)
  replace S := ae.mk (S.out.call (fF (Below.refl _ _)))
  generalize wJ.drew = wd5 at S hHeld ⊢
  refine jq 0 9 (bA 11 1) aW gX hHeld ?_ (hv := by intro w' hs_; have gW := (hs_.at (.tail _ (.head _)) 0).trans rfl; have jA := (hs_.at (.tail _ (.head _)) 1).trans rfl; have jB := (hs_.at (.tail _ (.head _)) 2).trans rfl; have jK := (hs_.at (.tail _ (.head _)) 3).trans rfl; have jL := (hs_.at (.tail _ (.head _)) 4).trans rfl; have kH := (hs_.at (.tail _ (.head _)) 5).trans rfl; have iI := (hs_.at (.tail _ (.head _)) 6).trans rfl; go_simp; with_reducible rfl)
  refine bH 2 11 (bA 11 5) aW ?_
  refine bH 3 12 (bA 11 13) aW ?_
  refine jq 4 13 (bA 11 29) aW gX hHeld ?_ (hv := by intro w' hs_; have jA := (hs_.at (.tail _ (.head _)) 1).trans rfl; go_simp; with_reducible rfl)
  refine bH 5 14 (bA 11 61) aW ?_
  refine bH 6 15 (bA 11 125) aW ?_
  refine jq 7 16 (bA 11 253) aW gX hHeld ?_ (hv := by intro w' hs_; have jB := (hs_.at (.tail _ (.head _)) 2).trans rfl; go_simp; with_reducible rfl)
  refine jY (i := 1) (N := some 10) (bA 11 255) rfl rfl (eX aW.out (by kernel_rfl)) (by decide) (fun K hK => ?_)
  refine jc Try.func153 (by kernel_rfl) rfl #[.agg #[.int .u8 ck, .int .i64 cx, .int .i64 cy, .int .i64 cw, .int .i64 ch, .int .i64 aV, .slice A l.length cc]] (by rfl) rfl rfl (by (try simp only [List.map_toArray, List.map_cons, List.map_nil]); first | done | rfl) ?_
  refine (ajJ 100000 ⟨ck, ⟨cx, cy, cw, ch⟩, aV, l⟩ HZ2.out (Nat.le_refl _) _ A cc _ (jS (S.out.tree _ (.head _)))).mono ?_
  rintro e KY ⟨VH, aoN, rfl, h1, hb⟩
  refine ⟨_, rfl, ?_⟩
  replace S := ae.mk (S.out.res (Kd.xO (base' := 0) h1) hb)
  clear h1 hb
  refine hK.out _ _ S.out.dW (fun hHeld => ?_)
  clear hK K
  refine iW 10 ?_
  refine jY (i := 8) (N := some 17) (bA 11 511) rfl rfl (eX aW.out (by kernel_rfl)) (by decide) (fun K hK => ?_)
  refine jc Try.func66 (by kernel_rfl) rfl #[.agg #[.int .u8 ((dY 100000 ⟨ck, ⟨cx, cy, cw, ch⟩, aV, l⟩).f0), .int .i64 ((dY 100000 ⟨ck, ⟨cx, cy, cw, ch⟩, aV, l⟩).f1.f0), .int .i64 ((dY 100000 ⟨ck, ⟨cx, cy, cw, ch⟩, aV, l⟩).f1.f1), .int .i64 ((dY 100000 ⟨ck, ⟨cx, cy, cw, ch⟩, aV, l⟩).f1.f2), .int .i64 ((dY 100000 ⟨ck, ⟨cx, cy, cw, ch⟩, aV, l⟩).f1.f3), .int .i64 ((dY 100000 ⟨ck, ⟨cx, cy, cw, ch⟩, aV, l⟩).f2), .slice VH ((dY 100000 ⟨ck, ⟨cx, cy, cw, ch⟩, aV, l⟩).f3.length) aoN], .int .i64 cx, .int .i64 cy] (by rfl) rfl rfl (by (try simp only [List.map_toArray, List.map_cons, List.map_nil]); first | done | rfl) ?_
  refine (Sm (dY 100000 ⟨ck, ⟨cx, cy, cw, ch⟩, aV, l⟩) cx cy HZ3.out (S.out.tree _ (.head _))).mono ?_
  rintro e JH ⟨MN, YA, rfl, h1, hb⟩
  refine ⟨_, rfl, ?_⟩
  replace S := ae.mk (S.out.Qv h1 hb)
  clear h1 hb
  refine hK.out _ _ S.out.free.dW.dW (fun hHeld => ?_)
  clear hK K
  refine iW 17 ?_
  refine zD (i := 9) (N := none) (bA 11 1023) rfl rfl (eX aW.out (by kernel_rfl)) (by decide) (fun K hK => ?_)
  refine CP 0 rfl 26 (.tmp 2) (.tmp 17) rfl #[.int .u8 ((bu (dY 100000 ⟨ck, ⟨cx, cy, cw, ch⟩, aV, l⟩) cx cy).f0), .int .i64 ((bu (dY 100000 ⟨ck, ⟨cx, cy, cw, ch⟩, aV, l⟩) cx cy).f1.f0), .int .i64 ((bu (dY 100000 ⟨ck, ⟨cx, cy, cw, ch⟩, aV, l⟩) cx cy).f1.f1), .int .i64 ((bu (dY 100000 ⟨ck, ⟨cx, cy, cw, ch⟩, aV, l⟩) cx cy).f1.f2), .int .i64 ((bu (dY 100000 ⟨ck, ⟨cx, cy, cw, ch⟩, aV, l⟩) cx cy).f1.f3), .int .i64 ((bu (dY 100000 ⟨ck, ⟨cx, cy, cw, ch⟩, aV, l⟩) cx cy).f2), .slice MN ((bu (dY 100000 ⟨ck, ⟨cx, cy, cw, ch⟩, aV, l⟩) cx cy).f3.length) YA] (j := 0) (u := .agg #[.int .u8 ((bu (dY 100000 ⟨ck, ⟨cx, cy, cw, ch⟩, aV, l⟩) cx cy).f0), .int .i64 ((bu (dY 100000 ⟨ck, ⟨cx, cy, cw, ch⟩, aV, l⟩) cx cy).f1.f0), .int .i64 ((bu (dY 100000 ⟨ck, ⟨cx, cy, cw, ch⟩, aV, l⟩) cx cy).f1.f1), .int .i64 ((bu (dY 100000 ⟨ck, ⟨cx, cy, cw, ch⟩, aV, l⟩) cx cy).f1.f2), .int .i64 ((bu (dY 100000 ⟨ck, ⟨cx, cy, cw, ch⟩, aV, l⟩) cx cy).f1.f3), .int .i64 ((bu (dY 100000 ⟨ck, ⟨cx, cy, cw, ch⟩, aV, l⟩) cx cy).f2), .slice MN ((bu (dY 100000 ⟨ck, ⟨cx, cy, cw, ch⟩, aV, l⟩) cx cy).f3.length) YA]) (dL := [.int .u8 ((bu (dY 100000 ⟨ck, ⟨cx, cy, cw, ch⟩, aV, l⟩) cx cy).f0), .int .i64 ((bu (dY 100000 ⟨ck, ⟨cx, cy, cw, ch⟩, aV, l⟩) cx cy).f1.f0), .int .i64 ((bu (dY 100000 ⟨ck, ⟨cx, cy, cw, ch⟩, aV, l⟩) cx cy).f1.f1), .int .i64 ((bu (dY 100000 ⟨ck, ⟨cx, cy, cw, ch⟩, aV, l⟩) cx cy).f1.f2), .int .i64 ((bu (dY 100000 ⟨ck, ⟨cx, cy, cw, ch⟩, aV, l⟩) cx cy).f1.f3), .int .i64 ((bu (dY 100000 ⟨ck, ⟨cx, cy, cw, ch⟩, aV, l⟩) cx cy).f2), .slice MN ((bu (dY 100000 ⟨ck, ⟨cx, cy, cw, ch⟩, aV, l⟩) cx cy).f3.length) YA]) S.out (by rfl) rfl rfl rfl rfl (by kernel_rfl) (by simp [Value.oneCell']) (by first | decide | simp) rfl ?_
  intro Rk S1
  simp only [List.set_cons_zero, List.set_cons_succ] at S1
  replace S := ae.mk S1
  clear S1
  refine hK.out _ _ ?_
  clear hK K
  refine bH 10 3 (bA 11 2047) aW ?_
  refine oV (lh aW.out (by kernel_rfl)) ?_
  clear hHeld
  go_wp2
  refine bodyPost_ret (jP rfl _ _ b2 26 #[.int .u8 ((bu (dY 100000 ⟨ck, ⟨cx, cy, cw, ch⟩, aV, l⟩) cx cy).f0), .int .i64 ((bu (dY 100000 ⟨ck, ⟨cx, cy, cw, ch⟩, aV, l⟩) cx cy).f1.f0), .int .i64 ((bu (dY 100000 ⟨ck, ⟨cx, cy, cw, ch⟩, aV, l⟩) cx cy).f1.f1), .int .i64 ((bu (dY 100000 ⟨ck, ⟨cx, cy, cw, ch⟩, aV, l⟩) cx cy).f1.f2), .int .i64 ((bu (dY 100000 ⟨ck, ⟨cx, cy, cw, ch⟩, aV, l⟩) cx cy).f1.f3), .int .i64 ((bu (dY 100000 ⟨ck, ⟨cx, cy, cw, ch⟩, aV, l⟩) cx cy).f2), .slice MN ((bu (dY 100000 ⟨ck, ⟨cx, cy, cw, ch⟩, aV, l⟩) cx cy).f3.length) YA] (0, 0) _ rfl (S.out.blk _ (.head _) _ rfl) Try.underlying26 rfl (by kernel_rfl)) rfl ?_
  exact ⟨_, _, rfl, S.out.Aj, S.out.below⟩
theorem anX (k : aI) (x : Int) : DV 2 k x = wrap64 (wrap64 (x + k.f1.f2) + 1) := by
 unfold DV
 rw [if_pos rfl]
 unfold wrap64
 omega
theorem anY (k : aI) (y : Int) : DW 3 k y = wrap64 (wrap64 (y + k.f1.f3) + 1) := by
 unfold DW
 rw [if_neg (by decide), if_pos rfl]
 unfold wrap64
 omega
theorem ala : ∀ (N : Nat) (c : aI), sz c ≤ N → N ≤ 1000000 → ∀ (P : Nat → Prop) (A : Option Addr) (cc : Nat) (x y : Int) (w : World), Kd.V k26 26 w w.heap.size P (.slice A c.f3.length cc) c.f3 →
  Calls Try.prog 67 #[.agg #[.int .u8 c.f0, .int .i64 c.f1.f0, .int .i64 c.f1.f1, .int .i64 c.f1.f2, .int .i64 c.f1.f3, .int .i64 c.f2, .slice A c.f3.length cc], .int .i64 x, .int .i64 y] w (zt w P (bu c x y)) := by
 intro N
 induction N with
 | zero => intro c h; rw [gm] at h; omega
 | succ N ih =>
  intro c hc hN P A cc x y w hv
  have hsz := gm c
  have S := ae.mk (St.start (ts := [(.slice A c.f3.length cc, c.f3)]) (b0 := w.heap.size) (w := w) (P := P) (fun t ht => by rw [List.mem_singleton.1 ht]; exact hv))
  rw [CQ]
  have hlen := nN c.f3
  have pG := ae.mk (show c.f3.length ≤ 1000000 by omega)
  have IH := ae.mk fun (k : aI) (hk : k ∈ c.f3) P A cc x y w h => ih k (by have := vV hk; omega) (by omega) P A cc x y w h
  obtain ⟨ck, ⟨cx, cy, cw, ch⟩, aV, l⟩ := c
  simp only [] at S IH pG ⊢
  clear ih hc hN hv hsz hlen
  go_enter Try.func67, Try.ntmps67
  go_wp2_with (first
   | ((with_reducible refine bV 3 rfl ?_); refine boxS 3 #[.int .u8 ck, .int .i64 cx, .int .i64 cy, .int .i64 cw, .int .i64 ch, .int .i64 aV, .slice A l.length cc] 26 S ?_; clear S; intro b3 oC S)
   | ((with_reducible refine bV 6 rfl ?_); refine boxS 6 #[.int .u8 0, .int .i64 0, .int .i64 0, .int .i64 0, .int .i64 0, .int .i64 0, .slice none 0 0] 26 S ?_; clear S; intro b6 qU S)
   | ((with_reducible refine kR 3 (.tmp 11) (.tmp 9) rfl ?_); refine BP 3 11 9 #[.int .u8 ck, .int .i64 x, .int .i64 cy, .int .i64 cw, .int .i64 ch, .int .i64 aV, .slice A l.length cc] 1 1 S ?_; clear S; intro xm S)
   | ((with_reducible refine kR 3 (.tmp 14) (.tmp 12) rfl ?_); refine BP 3 14 12 #[.int .u8 ck, .int .i64 x, .int .i64 y, .int .i64 cw, .int .i64 ch, .int .i64 aV, .slice A l.length cc] 2 1 S ?_; clear S; intro wJ S)
   | ((with_reducible refine bV 15 rfl ?_); refine Dy (N := 15) rfl rfl S.out ?hr ?_; (case hr => first | (go_simp; done) | (go_simp; rfl)); intro X0 YE D9 S1; replace S := ae.mk S1; clear S1; have eY := (S.out.at (.tail _ (.head _)) 6).trans rfl)
   | fail)
  clear eY
  go_loopg [7, 19, 1, 2] l.length (fun gg v7 v19 v1 v2 wr => ∃ (pre rest : List aI) (Ap : Option Addr) (cp : Nat), v7 = .slice Ap pre.length cp ∧ v19 = .int .i64 (pre.length : Int) ∧ v1 = .int .i64 (qL ck pre x) ∧ v2 = .int .i64 (qM ck pre y) ∧ ae (pre ++ rest = l) ∧ rest.length ≤ gg ∧ ae (St w P [(some b6, .cells #[.int .u8 0, .int .i64 0, .int .i64 0, .int .i64 0, .int .i64 0, .int .i64 0, .slice none 0 0] 26 (0, 0)), (some b3, .cells #[.int .u8 ck, .int .i64 x, .int .i64 y, .int .i64 cw, .int .i64 ch, .int .i64 aV, .slice A l.length cc] 26 (0, 0))] [(.slice Ap pre.length cp, (qf ck pre x y))] [(.slice A l.length cc, l)] [] wr))
  case atStart => exact ⟨[], l, _, _, rfl, rfl, rfl, rfl, ⟨rfl⟩, Nat.le_refl _, ⟨by rw [yA]; exact S.out⟩⟩
  case round =>
   clear S
   obtain ⟨pre, rest, Ap, cp, rfl, rfl, rfl, rfl, HE, hgg, S⟩ := hrel
   cases rest with
   | nil =>
    have hE := HE.out
    rw [List.append_nil] at hE
    have hE2 := hE.symm
    subst hE2
    clear hE HE hgg
    have hlt : ¬ ((l.length : Int) < (l.length : Int)) := by omega
    go_wp2_with (first
     | ((with_reducible refine kR 24 (.tmp 61) (.tmp 60) rfl ?_); refine BP 24 61 60 #[.int .u8 ck, .int .i64 x, .int .i64 y, .int .i64 cw, .int .i64 ch, .int .i64 aV, .slice Ap l.length cp] 6 1 S ?_; clear S; intro KY S; obtain ⟨gY, gZ, g_, ig, ik, je, eY⟩ := St.nU S (.tail _ (.head _)))
     | ((with_reducible refine kR 26 (.tmp 6) (.tmp 62) rfl ?_); refine rU 26 6 62 #[.int .u8 ck, .int .i64 x, .int .i64 y, .int .i64 cw, .int .i64 ch, .int .i64 aV, .slice Ap l.length cp] 0 7 S ?_; clear S; intro JH S; clear gY gZ g_ ig ik je eY)
     | fail)
    refine bodyPost_ret (results_cell_row rfl _ _ b6 26 #[.int .u8 ck, .int .i64 x, .int .i64 y, .int .i64 cw, .int .i64 ch, .int .i64 aV, .slice Ap l.length cp] (0, 0) _ rfl (S.out.blk _ (.head _) _ rfl) Try.underlying26 rfl (by kernel_rfl)) rfl ?_
    have hN := S.out.Aj
    simp only [zt, vG]
    exact ⟨_, _, rfl, hN, S.out.below⟩
   | cons k rest =>
    have hk : k ∈ l := by rw [← HE.out]; simp
    have hlt : (pre.length : Int) < (l.length : Int) := by rw [← HE.out, List.length_append, List.length_cons]; omega
    have hw1 : wrap64 ((pre.length : Int) + 1) = ((pre ++ [k]).length : Int) := by have := pG.out; rw [List.length_append, List.length_singleton]; unfold wrap64; omega
    have HW1 := ae.mk hw1
    have qO := ae.mk hgg
    have HK := ae.mk hk
    have Em := ae.mk (show pre.length ≤ 1000000 by have := pG.out; omega)
    obtain ⟨mf, ua, uc, ek, S1⟩ := S.out.elem (.head _) (pre.length : Int) (Int.natCast_nonneg _) hlt
    subst ek
    have hrd : au l (pre.length : Int) = k := by rw [← HE.out]; exact lS pre k rest
    rw [hrd] at S1
    simp only [Int.toNat_natCast] at S1
    replace S := ae.mk S1
    clear S1 hrd hk hgg hw1
    by_cases h2 : ck = 2
    ·subst h2
     obtain ⟨rG, qw, qx, pR, pU, uK, uM⟩ := St.el7 S
     have eY := (S.out.at (.tail _ (.head _)) 6).trans rfl
     go_wp2_with (first
      | ((with_reducible refine bV 30 rfl ?_); refine AZ (some 30) Try.func67 S (IH.out k HK.out _ ua uc _ _ _ (jS (S.out.tree _ (.head _)))) ?_; clear S; intro A30 ajU Rk S; clear rG qw qx pR pU uK uM eY)
      | ((with_reducible refine bV 32 rfl ?_); at_builtin; go_loud (refine CG (.tmp 22) (.tmp 31) rfl rfl Try.underlying24 info26 S.out (bu k (qL 2 pre x) (qM 2 pre y)) (.head _) rfl (by first | (go_simp; done) | (go_simp; rfl)) (by have := Em.out; rw [vG]; omega) ?_); intro Aq cq Rl S1; rw [← EL 2 k pre x y] at S1 ⊢; rw [vG] at S1 ⊢; replace S := ae.mk S1; clear S1; have gY := (S.out.at (.tail _ (.head _)) 0).trans rfl; have eY := (S.out.at (.tail _ (.head _)) 6).trans rfl; have pR := (S.out.cell _ (.tail _ (.tail _ (.tail _ (.head _))))).1)
      | fail)
     clear gY eY pR
     have hw1 := HW1.out
     go_wp2
     go_roundg rest.length
     case measure => exact Nat.lt_of_lt_of_le (Nat.lt_succ_self _) qO.out
     case rel => exact ⟨pre ++ [k], rest, Aq, cq, (by simp), (by rw [hw1]), (by rw [xE]; rw [anX]), (by rw [xG]; simp [DW]), ⟨by rw [List.append_assoc]; exact HE.out⟩, Nat.le_refl _, ⟨S.out.dW.dW.dK.dK.dK.dK.dK.dK.dK⟩⟩
    ·have h2b : (ck == 2) = false := beq_eq_false_iff_ne.mpr h2
     have h2d : decide (ck = 2) = false := decide_eq_false h2
     by_cases h3 : ck = 3
     ·subst h3
      obtain ⟨rG, qw, qx, pR, pU, uK, uM⟩ := St.el7 S
      have eY := (S.out.at (.tail _ (.head _)) 6).trans rfl
      go_wp2_with (first
       | ((with_reducible refine bV 30 rfl ?_); refine AZ (some 30) Try.func67 S (IH.out k HK.out _ ua uc _ _ _ (jS (S.out.tree _ (.head _)))) ?_; clear S; intro A30 ajU QC S; clear rG qw qx pR pU uK uM eY)
       | ((with_reducible refine bV 32 rfl ?_); at_builtin; go_loud (refine CG (.tmp 22) (.tmp 31) rfl rfl Try.underlying24 info26 S.out (bu k (qL 3 pre x) (qM 3 pre y)) (.head _) rfl (by first | (go_simp; done) | (go_simp; rfl)) (by have := Em.out; rw [vG]; omega) ?_); intro Aq cq Me S1; rw [← EL 3 k pre x y] at S1 ⊢; rw [vG] at S1 ⊢; replace S := ae.mk S1; clear S1; have gY := (S.out.at (.tail _ (.head _)) 0).trans rfl; have eY := (S.out.at (.tail _ (.head _)) 6).trans rfl; have pU := (S.out.cell _ (.tail _ (.tail _ (.tail _ (.tail _ (.head _)))))).1)
       | fail)
      clear gY eY pU
      have hw1 := HW1.out
      go_wp2
      go_roundg rest.length
      case measure => exact Nat.lt_of_lt_of_le (Nat.lt_succ_self _) qO.out
      case rel => exact ⟨pre ++ [k], rest, Aq, cq, (by simp), (by rw [hw1]), (by rw [xE]; simp [DV]), (by rw [xG]; rw [anY]), ⟨by rw [List.append_assoc]; exact HE.out⟩, Nat.le_refl _, ⟨S.out.dW.dW.dK.dK.dK.dK.dK.dK.dK⟩⟩
     ·have h3b : (ck == 3) = false := beq_eq_false_iff_ne.mpr h3
      have h3d : decide (ck = 3) = false := decide_eq_false h3
      have H2 := ae.mk h2
      have H3 := ae.mk h3
      clear h2 h3
      obtain ⟨rG, qw, qx, pR, pU, uK, uM⟩ := St.el7 S
      have eY := (S.out.at (.tail _ (.head _)) 6).trans rfl
      go_wp2_with (first
       | ((with_reducible refine bV 30 rfl ?_); refine AZ (some 30) Try.func67 S (IH.out k HK.out _ ua uc _ _ _ (jS (S.out.tree _ (.head _)))) ?_; clear S; intro A30 ajU Vj S; clear rG qw qx pR pU uK uM eY)
       | ((with_reducible refine bV 32 rfl ?_); at_builtin; go_loud (refine CG (.tmp 22) (.tmp 31) rfl rfl Try.underlying24 info26 S.out (bu k (qL ck pre x) (qM ck pre y)) (.head _) rfl (by first | (go_simp; done) | (go_simp; rfl)) (by have := Em.out; rw [vG]; omega) ?_); intro Aq cq Vk S1; rw [← EL ck k pre x y] at S1 ⊢; rw [vG] at S1 ⊢; replace S := ae.mk S1; clear S1; have gY := (S.out.at (.tail _ (.head _)) 0).trans rfl)
       | fail)
      clear gY
      have hw1 := HW1.out
      go_wp2
      go_roundg rest.length
      case measure => exact Nat.lt_of_lt_of_le (Nat.lt_succ_self _) qO.out
      case rel => exact ⟨pre ++ [k], rest, Aq, cq, (by simp), (by rw [hw1]), (by rw [xE]; unfold DV; rw [if_neg H2.out]), (by rw [xG]; unfold DW; rw [if_neg H2.out, if_neg H3.out]), ⟨by rw [List.append_assoc]; exact HE.out⟩, Nat.le_refl _, ⟨S.out.dW.dW.dK.dK.dK.dK.dK.dK.dK⟩⟩
end Go.Proofs.Ytfdmfgaiblfbhaa.P
namespace Go.Proofs.Ytfdmfgaiblfbhaa.Pure
open Go.RowKit Go.Proofs.Ytfdmfgaiblfbhaa.P Go.Proofs.ai.bg Go.Proofs.ai.di Go.Proofs.ai.dG
theorem acX {b : Int} {gs : List Int} {r : List Int × Bool} (h : GU b gs r) : r.2 = false → r.1 = [] := by
 rcases h with ⟨rfl, _⟩ | ⟨rfl, _⟩ | ⟨qs, rfl, _⟩ <;> simp
theorem ak7 (b : Int) (gs : List Int) (hl : gs.length ≤ 100000) (h0 : -100000 ≤ b) (h1 : b ≤ 100000) (r : List Int × Bool) (h : GU b gs r) : Ev (fun k => qc.f k b gs) r := by
 unfold qc.f
 refine Ev.nz ⟨h0, h1, hl⟩ ?_
 rcases h with ⟨rfl, h⟩ | ⟨rfl, hne, hg, hb⟩ | ⟨qs, rfl, hg, hb, hf, hq, he, ho, hr⟩
 ·rcases h with h | h | ⟨h, h2⟩
  ·exact Ev.nz h (Ev.now _)
  ·refine Ev.lM ?_ (Ev.lM h (Ev.now _))
   rintro rfl
   exact h fun g hg => by cases hg
  ·by_cases hne : gs = []
   ·exact Ev.nz hne (Ev.now _)
   ·refine Ev.lM hne (Ev.nz h ?_)
    have ht := D7 gs fun g hg => (h g hg).1
    have := abw (-b).toNat (-b) (gs.map fun g => (g, 0)) rfl (OB h) (by rw [KT]; omega) (by omega)
    rw [Int.neg_neg] at this
    exact this
 ·exact Ev.lM hne (Ev.nz hg (adK b gs hb hne))
 ·refine Ev.lM ?_ (Ev.nz hg hr)
  rintro rfl
  have : qs = [] := List.map_eq_nil_iff.1 hf
  subst this
  simp [outs] at ho
  omega
theorem Rn : ∀ (a b : List aI), jo (a ++ b) = true → jo b = true := by
 intro a
 induction a with
 | nil => intro b h; exact h
 | cons x xs ih =>
  intro b h
  rw [List.cons_append] at h
  simp only [jo, Bool.and_eq_true] at h
  exact ih b h.2
theorem Ro (a b : List aI) (h : jo (a ++ b) = true) : jo a = true := by
 cases ha : jo a with
 | true => rfl
 | false => rw [BO a b ha] at h; cases h
theorem ah9 {c x : aI} (h : o6 c = true) (hx : x ∈ c.f3) : o6 x = true := by
 have hs := uP h
 have hok := Bo h
 have h1 := abK hx
 have h2 := gm c
 have hd : jo (rZ c) = true := by
  unfold o6 at h
  simp only [Bool.and_eq_true] at h
  exact h.2.2
 unfold o6
 rw [decide_eq_true (by omega), Qr hok hx, Bool.true_and, Bool.true_and]
 obtain ⟨p, q, e⟩ := List.append_of_mem hx
 have e2 : jh c = (c :: allL p) ++ (jh x ++ allL q) := by rw [yH, e, GV, sO]; rfl
 unfold rZ at hd ⊢
 rw [e2, List.filter_append, List.filter_append] at hd
 exact Ro _ _ (Rn _ _ hd)
theorem abL {c x : aI} (h : jy c = true) (hx : x ∈ c.f3) : jy x = true := by
 have hm := xk h
 unfold jy at h ⊢
 simp only [Bool.and_eq_true] at h
 rw [ah9 hm hx, E5 h.2 hx]
 rfl
theorem QZ {ax : Int} (hax : ax = 1 ∨ ax = 2) {c : aI} (h : jy c = true) : gy ax c = dA ax c.f1 - gU ax c ∧ 0 ≤ dA ax c.f1 - gU ax c ∧ 1 ≤ gU ax c ∧ dA ax c.f1 ≤ 10000 := by
 have hm := xk h
 have hB : pO c = true := by
  unfold jy at h
  simp only [Bool.and_eq_true] at h
  exact h.2
 have f := Hu hax (sz c) c (Nat.le_refl _) (uP hm) (Bo hm)
 have g := f.2 hB
 have r := Bz (Gv (Ai (Bo hm))) hax
 unfold gy
 rw [if_pos ⟨hax, h⟩, wq (by omega) (by omega)]
 omega
end Go.Proofs.Ytfdmfgaiblfbhaa.Pure
namespace Go.Proofs.Ytfdmfgaiblfbhaa.P
open Go.RowKit Go.Proofs.ai.bg Go.Proofs.ai.di Go.Proofs.ai.dG
section
variable {W : World} {b : Nat} {P : Nat → Prop} {A : Option Addr} {cc : Nat}
theorem Aw (r : bC) (ax : Int) : Calls Try.prog 87 #[.agg #[.int .i64 r.f0, .int .i64 r.f1, .int .i64 r.f2, .int .i64 r.f3], .int .u8 ax] W fun e w' => e = .returned (.int .i64 (dA ax r)) ∧ Below W.heap.size W w' :=
 qW.calls r.f0 r.f1 r.f2 r.f3 ax _ W (Zz r ax)
theorem Zy (c : aI) (ax : Int) (hz : sz c ≤ 1048576) (ht : jy c = true) (hV : Kd.V k26 26 W b P (.slice A c.f3.length cc) c.f3) :
  Calls Try.prog 152 #[.agg #[.int .u8 c.f0, .int .i64 c.f1.f0, .int .i64 c.f1.f1, .int .i64 c.f1.f2, .int .i64 c.f1.f3, .int .i64 c.f2, .slice A c.f3.length cc], .int .u8 ax] W fun e w' => e = .returned (.int .i64 (gU ax c)) ∧ Below W.heap.size W w' := by
 obtain ⟨k, hk⟩ := (anR ax (sz c) c (Nat.le_refl _) hz (Bo (xk ht))).rounds
 have h := Kd.oH hV
 exact dE.calls k _ _ _ _ _ _ A cc c.f3 ax _ W h.2.2 h.2.1 hk
theorem adI (c : aI) (ax : Int) (hV : Kd.V k26 26 W b P (.slice A c.f3.length cc) c.f3) :
  Calls Try.prog 88 #[.agg #[.int .u8 c.f0, .int .i64 c.f1.f0, .int .i64 c.f1.f1, .int .i64 c.f1.f2, .int .i64 c.f1.f3, .int .i64 c.f2, .slice A c.f3.length cc], .int .u8 ax] W fun e w' => e = .returned (.bool (kQ ax c.f0)) ∧ Below W.heap.size W w' := by
 have h := Kd.oH hV
 exact lW.calls _ _ _ _ _ _ A cc c.f3 ax _ W h.2.2 h.2.1 (KN c ax)
theorem Oq (c : aI) (x y : Int) (hz : sz c ≤ 1000000) (hV : Kd.V k26 26 W b P (.slice A c.f3.length cc) c.f3) :
  Calls Try.prog 67 #[.agg #[.int .u8 c.f0, .int .i64 c.f1.f0, .int .i64 c.f1.f1, .int .i64 c.f1.f2, .int .i64 c.f1.f3, .int .i64 c.f2, .slice A c.f3.length cc], .int .i64 x, .int .i64 y] W (zt W P (bu c x y)) := by
 exact ala 1000000 c hz (Nat.le_refl _) P A cc x y W (jS hV)
theorem abA (b : Int) (gs : List Int) (hl : gs.length ≤ 100000) (h0 : -100000 ≤ b) (h1 : b ≤ 100000) (hC : Kd.C (Kd.int .i64) W A gs.length gs) (hc : gs.length ≤ cc) :
  Calls Try.prog 50 #[.int .i64 b, .slice A gs.length cc] W fun e w' => ∃ A' c', e = .returned (.tuple #[.slice A' (uS b gs).1.length c', .bool (uS b gs).2]) ∧ (Kd.int .i64).R 3 w' W.heap.size (fun _ => True) (.slice A' (uS b gs).1.length c') (uS b gs).1 ∧ Below W.heap.size W w' := by
 obtain ⟨k, hk⟩ := (Pure.ak7 b gs hl h0 h1 _ (DX b gs hl (by omega) (by omega)).1).rounds
 exact (qc.calls k b A cc gs _ _ W hC hc hk).mono (fun e w' ⟨v, he, hR, hB⟩ => by
  obtain ⟨A', c', rfl⟩ := Kd.iJ hR
  exact ⟨A', c', he, hR, hB⟩)
end
theorem alg {b : Int} {gs : List Int} (hl : gs.length ≤ 100000) (h0 : -2147483647 ≤ b) (h1 : b ≤ 2147483647) (h : (uS b gs).2 = false) : (uS b gs).1 = [] := Pure.acX (DX b gs hl h0 h1).1 h
theorem abI {b : Int} {gs : List Int} (hl : gs.length ≤ 100000) (h0 : -100000 ≤ b) (h1 : b ≤ 100000) (hg : ∀ g, g ∈ gs → g ≤ 100000) : ∀ x, x ∈ (uS b gs).1 → -100000 ≤ x ∧ x ≤ 100000 := by
 intro x hx
 rcases (DX b gs hl (by omega) (by omega)).1 with ⟨e, _⟩ | ⟨e, hne, _, hb⟩ | ⟨qs, e, _, _, hq, hgd, _⟩
 ·rw [e] at hx; cases hx
 ·rw [e] at hx
  simp only [moreL, List.mem_map, List.mem_range] at hx
  obtain ⟨i, hi, rfl⟩ := hx
  have hn : (0 : Int) < (gs.length : Int) := by have := List.length_pos_iff.2 hne; omega
  unfold oz
  have hd : 0 ≤ b / (gs.length : Int) := Int.ediv_nonneg hb (by omega)
  have hm : 0 ≤ b % (gs.length : Int) := Int.emod_nonneg _ (by omega)
  have hdm := Int.mul_ediv_add_emod b (gs.length : Int)
  have hle : b / (gs.length : Int) ≤ (gs.length : Int) * (b / (gs.length : Int)) := by
   have := Int.mul_le_mul_of_nonneg_right (show (1 : Int) ≤ (gs.length : Int) by omega) hd
   omega
  split <;> omega
 ·rw [e] at hx
  simp only [List.mem_map] at hx
  obtain ⟨p, hp, rfl⟩ := hx
  have h2 := hgd p hp
  have h3 := hg p.1 (by rw [← hq]; exact List.mem_map_of_mem hp)
  omega
section
variable {Pr : Program} {ops : Array Oper} {rest : List Oper} {op : Oper} {a : Act} {Q : Exit → Act → World → Prop} {w W : World} {P : Nat → Prop} {bs : List (Option Nat × Obj)} {ow : List (Value × List aI)} {ts : List (Value × List aI)} {ro : List (Addr × Value)}
theorem Xr {N : Tmp} (hd : op.dst = some N) (hgd : op.guard = none) (S : St w P bs ow ts ro W) (hrun : (execOp a.eval op).run Pr W = .ok (.value (.slice (some ⟨W.heap.size, 0, none⟩) 0 0)) (W.alloc (.cells #[] 3)))
  (h : ∀ A c o w1, St w P (((Value.slice A 0 c).ownBlock, o) :: bs) ow ts ro w1 → IR w.heap.size (.slice A 0 c) [] o → wpList Pr ops Q rest (a.put op.dst (.slice A 0 c)) w1) : wpList Pr ops Q (op :: rest) a W :=
 Kd.o8 (Kd.int .i64) (w0 := W) W.heap.size 3 hgd hd (xs := ([] : List Int)) (inner := []) (ok := fun _ => True) (iO := fun _ => True) hrun (dB.none _ _) (fun _ hk => hk) trivial (Below.refl _ _) (Nat.le_refl _) (by simp) (fun v1 w1 hR hb hg _ => by
  obtain ⟨A, c, rfl⟩ := Kd.iJ hR
  obtain ⟨o, S1, HI⟩ := S.Ju hR (Di hg)
  exact h A c o w1 S1 HI)
end
def BI.T8 : Bool × List (List Nat × List Nat) := (true, [([], []), ([], []), ([1], [1]), ([], []), ([2, 3], [2, 3]), ([4], [4]), ([5], [5]), ([], []), ([6, 7], [6, 7]), ([], []), ([9], [9]), ([], []), ([10, 11], [10, 11]), ([12], [12]), ([], []), ([13, 14, 8], [13, 14]), ([8, 15], [8, 15]), ([16], [16]), ([0, 17, 15], [0, 17]), ([18, 18, 0, 1, 2, 3, 4, 5, 6, 7, 8, 9, 10, 11, 12, 13, 14, 15, 16, 17, 18], [0, 18])])
def BI.B8 : List Nat := [0, 0, 2, 0, 14, 30, 62, 0, 254, 0, 512, 0, 3584, 7680, 0, 32766, 65534, 131070, 262143, 524287]
theorem BI.adZ : lC .any (opsOf Try.f200 8) = BI.T8 := by kernel_rfl
theorem BI.Yn : lu BI.T8.2 BI.B8 = true := by kernel_rfl
theorem ab9 (ax : Int) (k : aI) (l : List aI) (ns : Nat → Int) : nC ax (l ++ [k]) ns 0 = nC ax l ns 0 ++ [eU ax k (ns l.length)] := by rw [QW, Nat.zero_add]
theorem aie (ax : Int) (hax : ax = 1 ∨ ax = 2) : ∀ (N : Nat) (c : aI), sz c ≤ N → N ≤ 100000 → jy c = true → ∀ (bY : Int), (-100000 ≤ bY ∧ bY ≤ 100000) → ∀ (P : Nat → Prop) (A : Option Addr) (cc : Nat) (w : World), Kd.V k26 26 w w.heap.size P (.slice A c.f3.length cc) c.f3 →
  Calls Try.prog 200 #[.agg #[.int .u8 c.f0, .int .i64 c.f1.f0, .int .i64 c.f1.f1, .int .i64 c.f1.f2, .int .i64 c.f1.f3, .int .i64 c.f2, .slice A c.f3.length cc], .int .u8 ax, .int .i64 bY] w (zt w P (eU ax c bY)) := by
 intro N
 induction N with
 | zero => intro c h; rw [gm] at h; omega
 | succ N ih =>
  intro c hc hN ht bY hby P A cc w hv
  have hsz := gm c
  have hlen := nN c.f3
  have hl1 : c.f3.length ≤ 100000 := by omega
  have hkt := fun (k : aI) (hk : k ∈ c.f3) => Pure.abL ht hk
  have IH := ae.mk fun (k : aI) (hk : k ∈ c.f3) (n : Int) (hn : -100000 ≤ n ∧ n ≤ 100000) P A cc w h => ih k (by have := vV hk; omega) (by omega) (hkt k hk) n hn P A cc w h
  have Bf := ae.mk fun (k : aI) (hk : k ∈ c.f3) => (show sz k ≤ 1048576 by have := vV hk; omega)
  have HTK := ae.mk hkt
  have qO := ae.mk fun (k : aI) (hk : k ∈ c.f3) => (show wrap64 (dA ax k.f1 - gU ax k) = gy ax k by unfold gy; rw [if_pos ⟨hax, hkt k hk⟩])
  have hgb : ∀ g, g ∈ c.f3.map (gy ax) → g ≤ 100000 := fun g hg => by
   obtain ⟨k, hk, rfl⟩ := List.mem_map.1 hg
   have := Pure.QZ hax (hkt k hk)
   omega
  have pG := ae.mk (show c.f3.length ≤ 1000000 by omega)
  have hsl := XF (b := bY) (gs := c.f3.map (gy ax)) (by simpa using hl1) (by omega) (by omega)
  have hno := alg (b := bY) (gs := c.f3.map (gy ax)) (by simpa using hl1) (by omega) (by omega)
  have hsb := abI (b := bY) (gs := c.f3.map (gy ax)) (by simpa using hl1) hby.1 hby.2 hgb
  have Hq := fun (Ag : Option Addr) (cg : Nat) (W : World) (hC : Kd.C (Kd.int .i64) W Ag (c.f3.map (gy ax)).length (c.f3.map (gy ax))) (h2 : (c.f3.map (gy ax)).length ≤ cg) => abA bY (c.f3.map (gy ax)) (by simpa using hl1) hby.1 hby.2 hC h2
  have xU : ∀ i, Xv ax c.f0 c.f3 bY i = if (uS bY (c.f3.map (gy ax))).2 = true ∧ kQ ax c.f0 = true then rd (uS bY (c.f3.map (gy ax))).1 (i : Int) else bY := fun i => rfl
  rw [OM]
  have S := ae.mk (St.start (ts := [(.slice A c.f3.length cc, c.f3)]) (b0 := w.heap.size) (w := w) (P := P) (fun t ht => by rw [List.mem_singleton.1 ht]; exact hv))
  obtain ⟨ck, ⟨cx, cy, cw, ch⟩, aV, l⟩ := c
  simp only [] at S IH Bf HTK qO pG hsl hno hsb Hq xU hl1 ⊢
  obtain ⟨gw, hgw⟩ : ∃ gw, gw = if ax = 1 then wrap64 (cw + bY) else cw := ⟨_, rfl⟩
  obtain ⟨gh, hgh⟩ : ∃ gh, gh = if ax = 1 then ch else wrap64 (ch + bY) := ⟨_, rfl⟩
  simp only [grow]
  rw [← hgw, ← hgh]
  generalize Xv ax ck l bY = NS at xU ⊢
  obtain ⟨⟨sl, ok⟩, hsp⟩ : ∃ sp, sp = uS bY (l.map (gy ax)) := ⟨_, rfl⟩
  simp only [← hsp, List.length_map] at hsl hno hsb Hq xU
  have HNB := ae.mk (show ∀ i, i < l.length → -100000 ≤ NS i ∧ NS i ≤ 100000 from fun i hi => by
   rw [xU i]
   split
   ·rename_i h
    exact hsb _ (by unfold rd; rw [List.getD_eq_getElem?_getD, List.getElem?_eq_getElem (by rw [hsl h.1]; simpa using hi)]; exact List.getElem_mem _)
   ·exact hby)
  obtain ⟨SL, hSL⟩ : ∃ SL, SL = if kQ ax ck = true then sl else [] := ⟨_, rfl⟩
  have KG := ae.mk (show ∀ i, i < l.length → NS i = if 0 < SL.length then rd SL (i : Int) else bY from fun i hi => by
   rw [xU i, hSL]
   cases ha : kQ ax ck with
   | false => simp
   | true =>
    cases ok with
    | false => rw [hno rfl]; simp
    | true => rw [if_pos ⟨rfl, rfl⟩, if_pos rfl, if_pos (by rw [hsl rfl]; omega)])
  have aoH := ae.mk (show 0 < SL.length → SL.length = l.length by
   intro h
   rw [hSL] at h ⊢
   cases ha : kQ ax ck with
   | false => rw [ha] at h; simp at h
   | true =>
    rw [ha] at h
    cases ok with
    | false => rw [hno rfl] at h; simp at h
    | true => rw [if_pos rfl, hsl rfl])
  have MW := ae.mk hSL
  have Z_ := ae.mk Hq
  have KF := ae.mk hgw
  have SQ := ae.mk hgh
  clear ih hc hN hby hv hsz hlen hsl hno hsb hgb hkt ht Hq xU hgw hgh hsp hl1 hSL
  go_enter Try.func200, Try.ntmps200
  go_upto_if 14 with (first
   | ((with_reducible refine bV 3 rfl ?_); refine boxS 3 #[.int .u8 ck, .int .i64 cx, .int .i64 cy, .int .i64 cw, .int .i64 ch, .int .i64 aV, .slice A l.length cc] 26 S ?_; clear S; intro b3 oC S)
   | ((with_reducible refine bV 6 rfl ?_); refine boxS 6 #[.int .u8 0, .int .i64 0, .int .i64 0, .int .i64 0, .int .i64 0, .int .i64 0, .slice none 0 0] 26 S ?_; clear S; intro b6 qU S)
   | fail)
  go_cut [] (fun wc => ae (St w P [(some b6, .cells #[.int .u8 0, .int .i64 0, .int .i64 0, .int .i64 0, .int .i64 0, .int .i64 0, .slice none 0 0] 26 (0, 0)), (some b3, .cells #[.int .u8 ck, .int .i64 cx, .int .i64 cy, .int .i64 gw, .int .i64 gh, .int .i64 aV, .slice A l.length cc] 26 (0, 0))] [] [(.slice A l.length cc, l)] [] wc))
  case first =>
   by_cases hx : ax = 1
   ·have hxb : (ax == 1) = true := beq_iff_eq.mpr hx
    have HX := ae.mk hx
    clear hx
    have ig := (S.out.at (.tail _ (.head _)) 3).trans rfl
    go_wp2_with (first
     | ((with_reducible refine kR 3 (.tmp 21) (.tmp 19) rfl ?_); refine BP 3 21 19 #[.int .u8 ck, .int .i64 cx, .int .i64 cy, .int .i64 (wrap64 (cw + bY)), .int .i64 ch, .int .i64 aV, .slice A l.length cc] 3 1 S ?_; clear S; intro xm S; clear ig)
     | fail)
    go_meet
    case rel => rw [KF.out, SQ.out, if_pos HX.out, if_pos HX.out]; exact S
   ·have hxb : (ax == 1) = false := beq_eq_false_iff_ne.mpr hx
    have HX := ae.mk hx
    clear hx
    have ik := (S.out.at (.tail _ (.head _)) 4).trans rfl
    go_wp2_with (first
     | ((with_reducible refine kR 3 (.tmp 28) (.tmp 26) rfl ?_); refine BP 3 28 26 #[.int .u8 ck, .int .i64 cx, .int .i64 cy, .int .i64 cw, .int .i64 (wrap64 (ch + bY)), .int .i64 aV, .slice A l.length cc] 4 1 S ?_; clear S; intro wJ S; clear ik)
     | fail)
    go_meet
    case rel => rw [KF.out, SQ.out, if_neg HX.out, if_neg HX.out]; exact S
  case rest =>
   clear S KF SQ
   rename World => wx
   have S := hcut
   clear hcut
   go_wp2_with (first
    | ((with_reducible refine aQ (N := 29) rfl ?_); refine Xr (N := 29) rfl rfl S.out ?hr ?_; (case hr => first | (go_simp; done) | (go_simp; rfl)); intro av9 awj awy D9 S1 h1; replace S := ae.mk S1; have aev := ae.mk h1; clear S1 h1; have eY := (S.out.at (.tail _ (.tail _ (.head _))) 6).trans rfl)
    | fail)
   clear eY
   go_loopg [7, 33] l.length (fun gg v7 v33 wr => ∃ (pre rest : List aI) (Ag : Option Addr) (cg : Nat) (og : Obj), v7 = .slice Ag pre.length cg ∧ v33 = .int .i64 (pre.length : Int) ∧ ae (pre ++ rest = l) ∧ rest.length ≤ gg ∧ ae (IR w.heap.size (.slice Ag pre.length cg) (pre.map (gy ax)) og) ∧ ae (St w P [((Value.slice Ag pre.length cg).ownBlock, og), (some b6, .cells #[.int .u8 0, .int .i64 0, .int .i64 0, .int .i64 0, .int .i64 0, .int .i64 0, .slice none 0 0] 26 (0, 0)), (some b3, .cells #[.int .u8 ck, .int .i64 cx, .int .i64 cy, .int .i64 gw, .int .i64 gh, .int .i64 aV, .slice A l.length cc] 26 (0, 0))] [] [(.slice A l.length cc, l)] [] wr))
   case atStart => exact ⟨[], l, _, _, _, rfl, rfl, ⟨rfl⟩, Nat.le_refl _, ⟨aev.out⟩, ⟨S.out⟩⟩
   case round =>
    clear S aev
    obtain ⟨pre, rest, Ag, cg, og, rfl, rfl, HE, hgg, HI, S⟩ := hrel
    cases rest with
    | nil =>
     have hE := HE.out
     rw [List.append_nil] at hE
     have hE2 := hE.symm
     subst hE2
     clear hE HE hgg
     have hlt : ¬ ((l.length : Int) < (l.length : Int)) := by omega
     have Q3 := fun W hW => Z_.out Ag cg W (by have h := (Kd.dH (HI.out W hW)).2.2; rw [List.length_map] at h; exact h) (by have h := (Kd.dH (HI.out W hW)).2.1; exact h)
     have HSH := ae.mk Q3
     clear Q3 Z_
     go_upto_if 59 with (first
      | ((with_reducible refine aQ (N := 56) rfl ?_); refine Xr (N := 56) rfl rfl S.out ?hr ?_; (case hr => first | (go_simp; done) | (go_simp; rfl)); intro av_ awk awz KY S1 h1; replace S := ae.mk S1; have aew := ae.mk h1; clear S1 h1; obtain ⟨gY, gZ, g_, ig, ik, je, eY⟩ := St.nU S (.tail _ (.tail _ (.tail _ (.head _)))))
      | ((with_reducible refine bV 59 rfl ?_); refine jX (some 59) Try.func88 S (adI ⟨ck, ⟨cx, cy, gw, gh⟩, aV, l⟩ ax (S.out.tree _ (.head _))) ?_; clear S; intro JH S; clear gY gZ g_ ig ik je eY)
      | fail)
     (try simp only [Act.put, List.setIfInBounds_toArray, List.set_cons_zero, List.set_cons_succ])
     go_cut [9] (fun v9 wc => ∃ (A9 : Option Addr) (c9 : Nat) (o9 : Obj), v9 = .slice A9 SL.length c9 ∧ ae (IR w.heap.size (.slice A9 SL.length c9) SL o9) ∧ ae (St w P [((Value.slice A9 SL.length c9).ownBlock, o9), (some b6, .cells #[.int .u8 0, .int .i64 0, .int .i64 0, .int .i64 0, .int .i64 0, .int .i64 0, .slice none 0 0] 26 (0, 0)), (some b3, .cells #[.int .u8 ck, .int .i64 cx, .int .i64 cy, .int .i64 gw, .int .i64 gh, .int .i64 aV, .slice A l.length cc] 26 (0, 0))] [] [(.slice A l.length cc, l)] [] wc))
     case first =>
      cases ha : kQ ax ck with
      | false =>
       have hs : SL = [] := by rw [MW.out, ha]; simp
       go_wp2
       go_meet
       case rel => rw [hs]; exact ⟨_, _, _, rfl, ⟨aew.out⟩, ⟨S.out.Ox.jT⟩⟩
      | true =>
       have hs : SL = sl := by rw [MW.out, ha]; simp
       go_wp2_with (first
        | ((with_reducible refine bV 63 rfl ?_); refine NK (some 63) Try.func50 (HSH.out _ (S.out.blk _ (.tail _ (.head _)))) ?_; rintro e Rk ⟨As, cs, rfl, h1, hb⟩; refine ⟨_, rfl, ?_⟩; obtain ⟨os, S1, HI1⟩ := S.out.Ju h1 hb; replace S := ae.mk S1; have HIS := ae.mk HI1; clear S1 HI1 h1 hb)
        | fail)
       go_meet
       case rel => rw [hs]; exact ⟨_, _, _, rfl, ⟨HIS.out⟩, ⟨S.out.Ox.jT.Ox.jT⟩⟩
     case rest =>
      clear S HSH MW aew HI
      obtain ⟨A9, c9, o9, rfl, HI9, S⟩ := hcut
      rename World => wz
      go_wp2_with (first
       | ((with_reducible refine aQ (N := 66) rfl ?_); refine Dy (N := 66) rfl rfl S.out ?hr ?_; (case hr => first | (go_simp; done) | (go_simp; rfl)); intro Ao co Rl S1; replace S := ae.mk S1; clear S1; have eY := (S.out.at (.tail _ (.tail _ (.head _))) 6).trans rfl)
       | fail)
      clear eY
      go_loopg [10, 70] l.length (fun gg v10 v70 wr => ∃ (pre rest : List aI) (Ap : Option Addr) (cp : Nat), v10 = .slice Ap (nC ax pre NS 0).length cp ∧ v70 = .int .i64 (pre.length : Int) ∧ ae (pre ++ rest = l) ∧ rest.length ≤ gg ∧ ae (St w P [((Value.slice A9 SL.length c9).ownBlock, o9), (some b6, .cells #[.int .u8 0, .int .i64 0, .int .i64 0, .int .i64 0, .int .i64 0, .int .i64 0, .slice none 0 0] 26 (0, 0)), (some b3, .cells #[.int .u8 ck, .int .i64 cx, .int .i64 cy, .int .i64 gw, .int .i64 gh, .int .i64 aV, .slice A l.length cc] 26 (0, 0))] [(.slice Ap ((nC ax pre NS 0).length) cp, (nC ax pre NS 0))] [(.slice A l.length cc, l)] [] wr))
      case atStart => exact ⟨[], l, Ao, co, (by rw [zX]; rfl), rfl, ⟨rfl⟩, Nat.le_refl _, ⟨by rw [zX]; exact S.out⟩⟩
      case round =>
       clear S
       obtain ⟨pre, rest, Ap, cp, rfl, rfl, HE, hgg, S⟩ := hrel
       cases rest with
       | nil =>
        have hE := HE.out
        rw [List.append_nil] at hE
        have hE2 := hE.symm
        subst hE2
        clear hE HE hgg
        have hlt : ¬ ((l.length : Int) < (l.length : Int)) := by omega
        go_wp2_with (first
         | ((with_reducible refine kR 24 (.tmp 94) (.tmp 93) rfl ?_); refine ak1 24 94 93 #[.int .u8 ck, .int .i64 cx, .int .i64 cy, .int .i64 gw, .int .i64 gh, .int .i64 aV, .slice Ap ((nC ax l NS 0).length) cp] 6 1 S ?_; clear S; intro QC S; obtain ⟨gY, gZ, g_, ig, ik, je, eY⟩ := St.nU S (.tail _ (.tail _ (.head _))))
         | ((with_reducible refine kR 26 (.tmp 6) (.tmp 95) rfl ?_); refine BP 26 6 95 #[.int .u8 ck, .int .i64 cx, .int .i64 cy, .int .i64 gw, .int .i64 gh, .int .i64 aV, .slice Ap ((nC ax l NS 0).length) cp] 0 7 S ?_; clear S; intro Me S; clear gY gZ g_ ig ik je eY)
         | fail)
        refine bodyPost_ret (results_cell_row rfl _ _ b6 26 #[.int .u8 ck, .int .i64 cx, .int .i64 cy, .int .i64 gw, .int .i64 gh, .int .i64 aV, .slice Ap ((nC ax l NS 0).length) cp] (0, 0) _ rfl (S.out.blk _ (.tail _ (.head _)) _ rfl) Try.underlying26 rfl (by kernel_rfl)) rfl ?_
        exact ⟨_, _, rfl, S.out.Aj, S.out.below⟩
       | cons k rest =>
        have hk : k ∈ l := by rw [← HE.out]; simp
        have hlt : (pre.length : Int) < (l.length : Int) := by rw [← HE.out, List.length_append, List.length_cons]; omega
        have hw1 : wrap64 ((pre.length : Int) + 1) = ((pre ++ [k]).length : Int) := by have := pG.out; rw [List.length_append, List.length_singleton]; unfold wrap64; omega
        have HW1 := ae.mk hw1
        have abZ := ae.mk hgg
        have HK := ae.mk hk
        have Il := ae.mk (Bf.out k hk)
        have HKT := ae.mk (HTK.out k hk)
        have HGV := ae.mk (qO.out k hk)
        have Em := ae.mk (show pre.length ≤ 1000000 by have := pG.out; omega)
        have HJ := ae.mk (show pre.length < l.length by omega)
        obtain ⟨mf, ua, uc, ek, S1⟩ := S.out.elem (.head _) (pre.length : Int) (Int.natCast_nonneg _) hlt
        subst ek
        have hrd : au l (pre.length : Int) = k := by rw [← HE.out]; exact lS pre k rest
        rw [hrd] at S1
        simp only [Int.toNat_natCast] at S1
        replace S := ae.mk S1
        clear S1 hrd hk hgg hw1
        go_upto_if 76 with fail
        (try simp only [Act.put, List.setIfInBounds_toArray, List.set_cons_zero, List.set_cons_succ])
        go_cut [12] (fun v12 wc => v12 = .int .i64 (NS pre.length) ∧ ae (St w P [((Value.slice A9 SL.length c9).ownBlock, o9), (some b6, .cells #[.int .u8 0, .int .i64 0, .int .i64 0, .int .i64 0, .int .i64 0, .int .i64 0, .slice none 0 0] 26 (0, 0)), (some b3, .cells #[.int .u8 ck, .int .i64 cx, .int .i64 cy, .int .i64 gw, .int .i64 gh, .int .i64 aV, .slice (some mf) l.length cc] 26 (0, 0))] [(.slice Ap ((nC ax pre NS 0).length) cp, (nC ax pre NS 0))] [(.slice ua k.f3.length uc, k.f3), (.slice (some mf) l.length cc, l)] [((mf.add (pre.length * 7)), .int .u8 k.f0), (⟨(mf.add (pre.length * 7)).block, (mf.add (pre.length * 7)).off + 1, none⟩, .int .i64 k.f1.f0), (⟨(mf.add (pre.length * 7)).block, (mf.add (pre.length * 7)).off + 2, none⟩, .int .i64 k.f1.f1), (⟨(mf.add (pre.length * 7)).block, (mf.add (pre.length * 7)).off + 3, none⟩, .int .i64 k.f1.f2), (⟨(mf.add (pre.length * 7)).block, (mf.add (pre.length * 7)).off + 4, none⟩, .int .i64 k.f1.f3), (⟨(mf.add (pre.length * 7)).block, (mf.add (pre.length * 7)).off + 5, none⟩, .int .i64 k.f2), (⟨(mf.add (pre.length * 7)).block, (mf.add (pre.length * 7)).off + 6, none⟩, .slice ua k.f3.length uc)] wc))
        case first =>
         by_cases hp : (SL.length : Int) > 0
         ·have hpd : decide ((SL.length : Int) > 0) = true := decide_eq_true hp
          have hpe : decide (0 < (SL.length : Int)) = true := decide_eq_true hp
          have hpf : decide (0 < SL.length) = true := decide_eq_true (by omega)
          have hlt2 : (pre.length : Int) < (SL.length : Int) := by rw [aoH.out (by omega)]; exact hlt
          obtain ⟨ads, ea, _⟩ := Kd.iU (Kd.dH (HI9.out _ (S.out.blk _ (.head _)))).2.2 (pre.length : Int) (Int.natCast_nonneg _) hlt2
          subst ea
          have HP := ae.mk hp
          rw [hpf]
          clear hp hpd hpe hpf
          have xs := GM HI9.out (S.out.blk _ (.head _)) pre.length hlt2
          go_wp2
          clear xs
          go_meet
          case rel => exact ⟨by rw [KG.out _ HJ.out, if_pos (by have := HP.out; omega)], S⟩
         ·have hpd : decide ((SL.length : Int) > 0) = false := decide_eq_false hp
          have hpe : decide (0 < (SL.length : Int)) = false := decide_eq_false hp
          have hpf : decide (0 < SL.length) = false := decide_eq_false (by omega)
          have HP := ae.mk hp
          rw [hpf]
          clear hp hpd hpe hpf
          go_wp2
          go_meet
          case rel => exact ⟨by rw [KG.out _ HJ.out, if_neg (by have := HP.out; omega)], S⟩
        case rest =>
         clear S
         obtain ⟨rfl, S⟩ := hcut
         rename World => wy
         obtain ⟨rG, qw, qx, pR, pU, uK, uM⟩ := St.el7 S
         have eY := (S.out.at (.tail _ (.tail _ (.head _))) 6).trans rfl
         go_wp2_with (first
          | ((with_reducible refine bV 89 rfl ?_); refine AZ (some 89) Try.func200 S (IH.out k HK.out (NS pre.length) (HNB.out _ HJ.out) _ ua uc _ (jS (S.out.tree _ (.head _)))) ?_; clear S; intro Av cv Vj S; clear rG qw qx pR pU uK uM eY)
          | ((with_reducible refine aQ (N := 91) rfl ?_); at_builtin; go_loud (refine CG (.tmp 81) (.tmp 90) rfl rfl Try.underlying24 info26 S.out (eU ax k (NS pre.length)) (.head _) rfl (by first | (go_simp; done) | (go_simp; rfl)) (by have := Em.out; rw [zW]; omega) ?_); intro Aq cq Vk S1; rw [← ab9] at S1 ⊢; replace S := ae.mk S1; clear S1)
          | fail)
         have hw1 := HW1.out
         go_wp2
         go_roundg rest.length
         case measure => exact Nat.lt_of_lt_of_le (Nat.lt_succ_self _) abZ.out
         case rel => exact ⟨pre ++ [k], rest, Aq, cq, (by simp), (by rw [hw1]), ⟨by rw [List.append_assoc]; exact HE.out⟩, Nat.le_refl _, ⟨S.out.dW.dW.dK.dK.dK.dK.dK.dK.dK⟩⟩
    | cons k rest =>
     have hk : k ∈ l := by rw [← HE.out]; simp
     have hlt : (pre.length : Int) < (l.length : Int) := by rw [← HE.out, List.length_append, List.length_cons]; omega
     have hw1 : wrap64 ((pre.length : Int) + 1) = ((pre ++ [k]).length : Int) := by have := pG.out; rw [List.length_append, List.length_singleton]; unfold wrap64; omega
     have HW1 := ae.mk hw1
     have abZ := ae.mk hgg
     have HK := ae.mk hk
     have Il := ae.mk (Bf.out k hk)
     have HKT := ae.mk (HTK.out k hk)
     have HGV := ae.mk (qO.out k hk)
     have Em := ae.mk (show pre.length ≤ 1000000 by have := pG.out; omega)
     have HJ := ae.mk (show pre.length < l.length by omega)
     obtain ⟨mf, ua, uc, ek, S1⟩ := S.out.elem (.head _) (pre.length : Int) (Int.natCast_nonneg _) hlt
     subst ek
     have hrd : au l (pre.length : Int) = k := by rw [← HE.out]; exact lS pre k rest
     rw [hrd] at S1
     simp only [Int.toNat_natCast] at S1
     replace S := ae.mk S1
     clear S1 hrd hk hgg hw1
     go_wp2
     refine m_ (n := 20) (S := fun w' => St w _ _ _ _ _ w') (ds := [18]) (bA 20 0) (by kernel_rfl) rfl rfl (S.out.jT.call (fF (Below.refl _ _))) (fun hHeld => ?_); refine jr BI.adZ BI.Yn (fun aW gX => ?_)
     replace S := ae.mk (S.out.call (fF (Below.refl _ _)))
     generalize wr.drew = aw' at S hHeld ⊢
     refine bH 0 36 (bA 20 1) aW ?_
     refine bH 1 37 (bA 20 3) aW ?_
     refine jq 2 38 (bA 20 7) aW gX hHeld ?_ (hv := by intro w' hs_; have eY := (hs_.at (.tail _ (.head _)) 6).trans rfl; go_simp; with_reducible rfl)
     refine bH 3 39 (bA 20 15) aW ?_
     refine bH 4 40 (bA 20 31) aW ?_
     refine bH 5 41 (bA 20 63) aW ?_
     refine jq 6 42 (bA 20 127) aW gX hHeld ?_ (hv := by intro w' hs_; have qw := (hs_.cell _ (.tail _ (.head _))).1; have qx := (hs_.cell _ (.tail _ (.tail _ (.head _)))).1; have pR := (hs_.cell _ (.tail _ (.tail _ (.tail _ (.head _))))).1; have pU := (hs_.cell _ (.tail _ (.tail _ (.tail _ (.tail _ (.head _)))))).1; go_simp; with_reducible rfl)
     refine bH 7 43 (bA 20 255) aW ?_
     refine bH 9 45 (bA 20 767) aW ?_
     refine jq 10 46 (bA 20 1791) aW gX hHeld ?_ (hv := by intro w' hs_; have eY := (hs_.at (.tail _ (.head _)) 6).trans rfl; go_simp; with_reducible rfl)
     refine bH 11 47 (bA 20 3839) aW ?_
     refine bH 12 48 (bA 20 7935) aW ?_
     refine jq 13 49 (bA 20 16127) aW gX hHeld ?_ (hv := by intro w' hs_; have rG := (hs_.cell _ (.head _)).1; have qw := (hs_.cell _ (.tail _ (.head _))).1; have qx := (hs_.cell _ (.tail _ (.tail _ (.head _)))).1; have pR := (hs_.cell _ (.tail _ (.tail _ (.tail _ (.head _))))).1; have pU := (hs_.cell _ (.tail _ (.tail _ (.tail _ (.tail _ (.head _)))))).1; have uK := (hs_.cell _ (.tail _ (.tail _ (.tail _ (.tail _ (.tail _ (.head _))))))).1; have uM := (hs_.cell _ (.tail _ (.tail _ (.tail _ (.tail _ (.tail _ (.tail _ (.head _)))))))).1; go_simp; with_reducible rfl)
     refine bH 14 50 (bA 20 32511) aW ?_
     refine jY (i := 8) (N := some 44) (bA 20 32767) rfl rfl (eX aW.out (by kernel_rfl)) (by decide) (fun K hK => ?_)
     refine jc Try.func87 (by kernel_rfl) rfl #[.agg #[.int .i64 k.f1.f0, .int .i64 k.f1.f1, .int .i64 k.f1.f2, .int .i64 k.f1.f3], .int .u8 ax] (by rfl) rfl rfl (by (try simp only [List.map_toArray, List.map_cons, List.map_nil]); first | done | rfl) ?_
     refine (Aw k.f1 ax).mono ?_
     rintro e ZL ⟨rfl, hb⟩
     refine ⟨_, rfl, ?_⟩
     replace S := ae.mk (S.out.call hb)
     clear hb
     refine hK.out _ _ S.out.jT (fun hHeld => ?_)
     clear hK K
     refine iW 44 ?_
     refine jY (i := 15) (N := some 51) (bA 20 65535) rfl rfl (eX aW.out (by kernel_rfl)) (by decide) (fun K hK => ?_)
     refine jc Try.func152 (by kernel_rfl) rfl #[.agg #[.int .u8 k.f0, .int .i64 k.f1.f0, .int .i64 k.f1.f1, .int .i64 k.f1.f2, .int .i64 k.f1.f3, .int .i64 k.f2, .slice ua k.f3.length uc], .int .u8 ax] (by rfl) rfl rfl (by (try simp only [List.map_toArray, List.map_cons, List.map_nil]); first | done | rfl) ?_
     refine (Zy k ax Il.out HKT.out (S.out.tree _ (.head _))).mono ?_
     rintro e ad7 ⟨rfl, hb⟩
     refine ⟨_, rfl, ?_⟩
     replace S := ae.mk (S.out.call hb)
     clear hb
     refine hK.out _ _ S.out.jT (fun hHeld => ?_)
     clear hK K
     refine iW 51 ?_
     refine bH 16 52 (bA 20 131071) aW ?_
     refine jY (i := 17) (N := some 53) (bA 20 262143) rfl rfl (eX aW.out (by kernel_rfl)) (by decide) (fun K hK => ?_)
     refine Vh (w1 := ?_) (v := ?_) (by rfl) rfl ?_ ?_
     rotate_left 2
     ·go_simp
      constructor
      ·rfl
      ·rfl
     refine hK.out _ _ (S.out.jT.call (kz (Below.refl _ _) _)) (fun hHeld => ?_)
     clear hK K
     refine iW 53 ?_
     refine zD (i := 18) (N := some 54) (bA 20 524287) rfl rfl (eX aW.out (by kernel_rfl)) (by decide) (fun K hK => ?_)
     go_loud (refine acd (.tmp 36) (.tmp 53) (by rfl) rfl Try.underlying41 info3 S.out HI.out (wrap64 (dA ax k.f1 - gU ax k)) rfl rfl (by have := Em.out; simp only [List.length_map]; omega) ?_)
     intro Ag2 cg2 og2 ad8 S1 I1
     rw [show pre.map (gy ax) ++ [wrap64 (dA ax k.f1 - gU ax k)] = (pre ++ [k]).map (gy ax) by rw [HGV.out]; simp] at S1 I1 ⊢
     rw [show ((pre ++ [k]).map (gy ax)).length = (pre ++ [k]).length by simp] at S1 I1 ⊢
     replace S := ae.mk S1
     have HI2 := ae.mk I1
     clear S1 I1 HI
     refine hK.out _ _ ?_
     clear hK K
     refine iW 54 ?_
     refine bH 19 7 (bA 20 1048575) aW ?_
     refine oV (lh aW.out (by kernel_rfl)) ?_
     clear hHeld
     go_wp2
     have hw1 := HW1.out
     go_wp2
     go_roundg rest.length
     case measure => exact Nat.lt_of_lt_of_le (Nat.lt_succ_self _) abZ.out
     case rel => exact ⟨pre ++ [k], rest, Ag2, cg2, og2, (by simp), (by rw [hw1]), ⟨by rw [List.append_assoc]; exact HE.out⟩, Nat.le_refl _, ⟨HI2.out⟩, ⟨S.out.dW.dK.dK.dK.dK.dK.dK.dK⟩⟩
def BH.T9 : Bool × List (List Nat × List Nat) := (true, [([], []), ([], []), ([], []), ([0, 1, 2], [0, 1, 2]), ([], []), ([4], [4]), ([5], [5]), ([], []), ([7], [7]), ([8], [8]), ([3, 6, 9, 3], [3, 6, 9]), ([10, 10, 0, 1, 2, 3, 4, 5, 6, 7, 8, 9, 10], [10]), ([11, 0, 1, 2, 3, 4, 5, 6, 7, 8, 9, 10, 11], [])])
def BH.B9 : List Nat := [0, 0, 0, 7, 0, 16, 48, 0, 128, 384, 1023, 2047, 4095]
theorem BH.ZI : lC .any (opsOf Try.f184 9) = BH.T9 := by kernel_rfl
theorem BH.RN : lu BH.T9.2 BH.B9 = true := by kernel_rfl
def atR (ax : Int) (r : bC) : Int := if ax = 1 then r.f0 else r.f1
theorem anU {ax : Int} {c : aI} {b : Int} (ht : jy c = true) (hax : ax = 1 ∨ ax = 2) :
  BN ax c b = (decide (b > 10000) || (decide (b < -10000) || (decide (wrap64 (wrap64 (atR ax c.f1 + dA ax c.f1) + b) > 10000) || decide (wrap64 (dA ax c.f1 + b) < gU ax c)))) := by
 have hm := xk ht
 have hr := Gv (Ai (Bo hm))
 have r := Bz hr hax
 have hg := Pure.QZ hax ht
 have hw1 : wrap64 (-(gy ax c)) = -(gy ax c) := by rw [hg.1]; unfold wrap64; omega
 have hq : 0 ≤ c.f1.f0 ∧ 0 ≤ c.f1.f1 ∧ c.f1.f0 + c.f1.f2 ≤ 10000 ∧ c.f1.f1 + c.f1.f3 ≤ 10000 ∧ 1 ≤ c.f1.f2 ∧ 1 ≤ c.f1.f3 := by
  unfold rQ zF at hr
  simp only [Bool.and_eq_true, decide_eq_true_eq] at hr
  omega
 have he : dA ax ⟨0, 0, wrap64 (c.f1.f0 + c.f1.f2), wrap64 (c.f1.f1 + c.f1.f3)⟩ = atR ax c.f1 + dA ax c.f1 := by
  unfold dA atR
  rcases hax with rfl | rfl
  ·simp only [if_true]; unfold wrap64; omega
  ·simp only [show ¬ ((2 : Int) = 1) by decide, if_false, if_true]; unfold wrap64; omega
 have ha : 0 ≤ atR ax c.f1 ∧ atR ax c.f1 + dA ax c.f1 ≤ 10000 := by
  unfold dA atR
  rcases hax with rfl | rfl
  ·simp only [if_true]; omega
  ·simp only [show ¬ ((2 : Int) = 1) by decide, if_false, if_true]; omega
 generalize atR ax c.f1 = at_ at *
 generalize dA ax c.f1 = s at *
 generalize gU ax c = l at *
 unfold BN
 rw [hw1, he, hg.1, show wrap64 (10000 - (at_ + s)) = 10000 - (at_ + s) by unfold wrap64; omega]
 by_cases h1 : b > 10000
 ·rw [decide_eq_true h1, decide_eq_true (show b > 10000 - (at_ + s) by omega)]; simp
 ·by_cases h2 : b < -10000
  ·rw [decide_eq_true h2, decide_eq_true (show b < -(s - l) by omega)]; simp
  ·rw [decide_eq_false h1, decide_eq_false h2, show wrap64 (wrap64 (at_ + s) + b) = at_ + s + b by unfold wrap64; omega, show wrap64 (s + b) = s + b by unfold wrap64; omega]
   simp only [Bool.false_or]
   rw [Bool.or_comm]
   congr 1
   ·exact decide_eq_decide.2 (by omega)
   ·exact decide_eq_decide.2 (by omega)
theorem Ci (ax : Int) (c : aI) (hz : sz c ≤ 1048576) (bY : Int) (P : Nat → Prop) (A : Option Addr) (cc : Nat) (w : World) (hv : Kd.V k26 26 w w.heap.size P (.slice A c.f3.length cc) c.f3) :
  Calls Try.prog 184 #[.agg #[.int .u8 c.f0, .int .i64 c.f1.f0, .int .i64 c.f1.f1, .int .i64 c.f1.f2, .int .i64 c.f1.f3, .int .i64 c.f2, .slice A c.f3.length cc], .int .u8 ax, .int .i64 bY] w (En w P (aZ ax c bY) (aN ax c bY)) := by
 have S := ae.mk (St.start (ts := [(.slice A c.f3.length cc, c.f3)]) (b0 := w.heap.size) (w := w) (P := P) (fun t ht => by rw [List.mem_singleton.1 ht]; exact hv))
 have HZ := ae.mk hz
 have hO := fun h1 h2 => @anU ax c bY h1 h2
 obtain ⟨ck, ⟨cx, cy, cw, ch⟩, aV, l⟩ := c
 simp only [] at S hO
 clear hv hz
 cases ht : jy ⟨ck, ⟨cx, cy, cw, ch⟩, aV, l⟩ with
 | false =>
  have HT := ae.mk ht
  have HB := ae.mk (show vX ax ⟨ck, ⟨cx, cy, cw, ch⟩, aV, l⟩ = true by unfold vX; rw [ht]; rfl)
  clear ht hO
  go_enter Try.func184, Try.ntmps184
  go_wp2_with (first
   | ((with_reducible refine bV 3 rfl ?_); refine boxS 3 #[.int .u8 ck, .int .i64 cx, .int .i64 cy, .int .i64 cw, .int .i64 ch, .int .i64 aV, .slice A l.length cc] 26 S ?_; clear S; intro b3 oC S)
   | ((with_reducible refine bV 6 rfl ?_); refine boxS 6 #[.int .u8 0, .int .i64 0, .int .i64 0, .int .i64 0, .int .i64 0, .int .i64 0, .slice none 0 0] 26 S ?_; clear S; intro b6 qU S; obtain ⟨gY, gZ, g_, ig, ik, je, eY⟩ := St.nU S (.tail _ (.head _)))
   | ((with_reducible refine bV 11 rfl ?_); refine jX (some 11) Try.func84 S (vW HT.out (Az ⟨ck, ⟨cx, cy, cw, ch⟩, aV, l⟩ HZ.out (S.out.tree _ (.head _)))) ?_; clear S; intro xm S; clear gY gZ g_ ig ik je eY)
   | ((with_reducible refine kR 26 (.tmp 6) (.tmp 21) rfl ?_); refine rU 26 6 21 #[.int .u8 0, .int .i64 0, .int .i64 0, .int .i64 0, .int .i64 0, .int .i64 0, .slice none 0 0] 0 7 S ?_; clear S; intro wJ S)
   | fail)
  refine bodyPost_ret (jP rfl _ _ b6 26 #[.int .u8 0, .int .i64 0, .int .i64 0, .int .i64 0, .int .i64 0, .int .i64 0, .slice none 0 0] (0, 0) _ rfl (S.out.blk _ (.head _) _ rfl) Try.underlying26 rfl (by kernel_rfl)) rfl ?_
  rw [show aN ax ⟨ck, ⟨cx, cy, cw, ch⟩, aV, l⟩ bY = 1 by unfold aN; rw [if_pos HB.out], show aZ ax ⟨ck, ⟨cx, cy, cw, ch⟩, aV, l⟩ bY = z26 by unfold aZ; rw [if_pos HB.out]]
  exact ⟨_, _, rfl, Kd.wE _ _ _ _ _, S.out.below⟩
 | true =>
  have HT := ae.mk ht
  by_cases h1 : ax < 1
  ·have h1b : decide (ax < 1) = true := decide_eq_true h1
   have HB := ae.mk (show vX ax ⟨ck, ⟨cx, cy, cw, ch⟩, aV, l⟩ = true by unfold vX; rw [ht, show (ax != 1) = true from bne_iff_ne.mpr (by omega), show (ax != 2) = true from bne_iff_ne.mpr (by omega)]; rfl)
   clear ht hO h1
   go_enter Try.func184, Try.ntmps184
   go_wp2_with (first
    | ((with_reducible refine bV 3 rfl ?_); refine boxS 3 #[.int .u8 ck, .int .i64 cx, .int .i64 cy, .int .i64 cw, .int .i64 ch, .int .i64 aV, .slice A l.length cc] 26 S ?_; clear S; intro b3 oC S)
    | ((with_reducible refine bV 6 rfl ?_); refine boxS 6 #[.int .u8 0, .int .i64 0, .int .i64 0, .int .i64 0, .int .i64 0, .int .i64 0, .slice none 0 0] 26 S ?_; clear S; intro b6 qU S; obtain ⟨gY, gZ, g_, ig, ik, je, eY⟩ := St.nU S (.tail _ (.head _)))
    | ((with_reducible refine bV 11 rfl ?_); refine jX (some 11) Try.func84 S (vW HT.out (Az ⟨ck, ⟨cx, cy, cw, ch⟩, aV, l⟩ HZ.out (S.out.tree _ (.head _)))) ?_; clear S; intro xm S; clear gY gZ g_ ig ik je eY)
    | ((with_reducible refine kR 26 (.tmp 6) (.tmp 21) rfl ?_); refine rU 26 6 21 #[.int .u8 0, .int .i64 0, .int .i64 0, .int .i64 0, .int .i64 0, .int .i64 0, .slice none 0 0] 0 7 S ?_; clear S; intro wJ S)
    | fail)
   refine bodyPost_ret (jP rfl _ _ b6 26 #[.int .u8 0, .int .i64 0, .int .i64 0, .int .i64 0, .int .i64 0, .int .i64 0, .slice none 0 0] (0, 0) _ rfl (S.out.blk _ (.head _) _ rfl) Try.underlying26 rfl (by kernel_rfl)) rfl ?_
   rw [show aN ax ⟨ck, ⟨cx, cy, cw, ch⟩, aV, l⟩ bY = 1 by unfold aN; rw [if_pos HB.out], show aZ ax ⟨ck, ⟨cx, cy, cw, ch⟩, aV, l⟩ bY = z26 by unfold aZ; rw [if_pos HB.out]]
   exact ⟨_, _, rfl, Kd.wE _ _ _ _ _, S.out.below⟩
  ·by_cases h2 : ax > 2
   ·have h1b : decide (ax < 1) = false := decide_eq_false h1
    have h2b : decide (ax > 2) = true := decide_eq_true h2
    have h2c : decide (2 < ax) = true := decide_eq_true h2
    have HB := ae.mk (show vX ax ⟨ck, ⟨cx, cy, cw, ch⟩, aV, l⟩ = true by unfold vX; rw [ht, show (ax != 1) = true from bne_iff_ne.mpr (by omega), show (ax != 2) = true from bne_iff_ne.mpr (by omega)]; rfl)
    clear ht hO h1 h2
    go_enter Try.func184, Try.ntmps184
    go_wp2_with (first
     | ((with_reducible refine bV 3 rfl ?_); refine boxS 3 #[.int .u8 ck, .int .i64 cx, .int .i64 cy, .int .i64 cw, .int .i64 ch, .int .i64 aV, .slice A l.length cc] 26 S ?_; clear S; intro b3 oC S)
     | ((with_reducible refine bV 6 rfl ?_); refine boxS 6 #[.int .u8 0, .int .i64 0, .int .i64 0, .int .i64 0, .int .i64 0, .int .i64 0, .slice none 0 0] 26 S ?_; clear S; intro b6 qU S; obtain ⟨gY, gZ, g_, ig, ik, je, eY⟩ := St.nU S (.tail _ (.head _)))
     | ((with_reducible refine bV 11 rfl ?_); refine jX (some 11) Try.func84 S (vW HT.out (Az ⟨ck, ⟨cx, cy, cw, ch⟩, aV, l⟩ HZ.out (S.out.tree _ (.head _)))) ?_; clear S; intro xm S; clear gY gZ g_ ig ik je eY)
     | ((with_reducible refine kR 26 (.tmp 6) (.tmp 21) rfl ?_); refine rU 26 6 21 #[.int .u8 0, .int .i64 0, .int .i64 0, .int .i64 0, .int .i64 0, .int .i64 0, .slice none 0 0] 0 7 S ?_; clear S; intro wJ S)
     | fail)
    refine bodyPost_ret (jP rfl _ _ b6 26 #[.int .u8 0, .int .i64 0, .int .i64 0, .int .i64 0, .int .i64 0, .int .i64 0, .slice none 0 0] (0, 0) _ rfl (S.out.blk _ (.head _) _ rfl) Try.underlying26 rfl (by kernel_rfl)) rfl ?_
    rw [show aN ax ⟨ck, ⟨cx, cy, cw, ch⟩, aV, l⟩ bY = 1 by unfold aN; rw [if_pos HB.out], show aZ ax ⟨ck, ⟨cx, cy, cw, ch⟩, aV, l⟩ bY = z26 by unfold aZ; rw [if_pos HB.out]]
    exact ⟨_, _, rfl, Kd.wE _ _ _ _ _, S.out.below⟩
   ·have hax : ax = 1 ∨ ax = 2 := by omega
    have KE := ae.mk hax
    have hO2 := hO ht hax
    have HB := ae.mk (show vX ax ⟨ck, ⟨cx, cy, cw, ch⟩, aV, l⟩ = false by unfold vX; rw [ht]; rcases hax with rfl | rfl <;> rfl)
    have h1b : decide (ax < 1) = false := decide_eq_false h1
    have h2b : decide (ax > 2) = false := decide_eq_false h2
    have h2c : decide (2 < ax) = false := decide_eq_false h2
    have hfit := fun h => @ajE ax ⟨ck, ⟨cx, cy, cw, ch⟩, aV, l⟩ bY HB.out h
    have VL := ae.mk hO2
    have ajg := ae.mk hfit
    clear ht hax h1 h2 hO hO2 hfit
    go_enter Try.func184, Try.ntmps184
    go_upto_if 30 with (first
     | ((with_reducible refine bV 3 rfl ?_); refine boxS 3 #[.int .u8 ck, .int .i64 cx, .int .i64 cy, .int .i64 cw, .int .i64 ch, .int .i64 aV, .slice A l.length cc] 26 S ?_; clear S; intro b3 oC S)
     | ((with_reducible refine bV 6 rfl ?_); refine boxS 6 #[.int .u8 0, .int .i64 0, .int .i64 0, .int .i64 0, .int .i64 0, .int .i64 0, .slice none 0 0] 26 S ?_; clear S; intro b6 qU S; obtain ⟨gY, gZ, g_, ig, ik, je, eY⟩ := St.nU S (.tail _ (.head _)))
     | ((with_reducible refine bV 11 rfl ?_); refine jX (some 11) Try.func84 S (vW HT.out (Az ⟨ck, ⟨cx, cy, cw, ch⟩, aV, l⟩ HZ.out (S.out.tree _ (.head _)))) ?_; clear S; intro xm S; clear gY gZ g_ ig ik je eY; have gZ := (S.out.at (.tail _ (.head _)) 1).trans rfl; have g_ := (S.out.at (.tail _ (.head _)) 2).trans rfl; have ig := (S.out.at (.tail _ (.head _)) 3).trans rfl; have ik := (S.out.at (.tail _ (.head _)) 4).trans rfl)
     | ((with_reducible refine bV 25 rfl ?_); refine jX (some 25) Try.func87 S (Aw ⟨cx, cy, cw, ch⟩ ax) ?_; clear S; intro wJ S; clear gZ g_ ig ik; have gZ := (S.out.at (.tail _ (.head _)) 1).trans rfl)
     | fail)
    clear gZ
    (try simp only [Act.put, List.setIfInBounds_toArray, List.set_cons_zero, List.set_cons_succ])
    go_cut [9] (fun v9 wc => v9 = .int .i64 (atR ax ⟨cx, cy, cw, ch⟩) ∧ ae (St w P [(some b6, .cells #[.int .u8 0, .int .i64 0, .int .i64 0, .int .i64 0, .int .i64 0, .int .i64 0, .slice none 0 0] 26 (0, 0)), (some b3, .cells #[.int .u8 ck, .int .i64 cx, .int .i64 cy, .int .i64 cw, .int .i64 ch, .int .i64 aV, .slice A l.length cc] 26 (0, 0))] [] [(.slice A l.length cc, l)] [] wc))
    case first =>
     by_cases hx : ax = 1
     ·have hxb : (ax == 2) = false := by rw [hx]; rfl
      have HX := ae.mk hx
      clear hx
      go_wp2
      go_meet
      case rel => exact ⟨by unfold atR; rw [if_pos HX.out], S⟩
     ·have hxb : (ax == 2) = true := by rw [show ax = 2 from KE.out.resolve_left hx]; rfl
      have HX := ae.mk hx
      clear hx
      have g_ := (S.out.at (.tail _ (.head _)) 2).trans rfl
      go_wp2
      clear g_
      go_meet
      case rel => exact ⟨by unfold atR; rw [if_neg HX.out], S⟩
    case rest =>
     clear S
     obtain ⟨rfl, S⟩ := hcut
     rename World => wx
     have hO2 := VL.out
     have hfit := ajg.out
     clear VL ajg
     by_cases h4 : bY > 10000
     ·have hO3 := hO2
      rw [decide_eq_true h4, Bool.true_or] at hO3
      have IC : decide (bY > 10000) = true := decide_eq_true h4
      have h4c : decide (10000 < bY) = true := decide_eq_true h4
      clear h4 hO2
      have HO := ae.mk hO3
      clear hO3 hfit
      go_wp2_with (first
       | ((with_reducible refine kR 26 (.tmp 6) (.tmp 57) rfl ?_); refine rU 26 6 57 #[.int .u8 0, .int .i64 0, .int .i64 0, .int .i64 0, .int .i64 0, .int .i64 0, .slice none 0 0] 0 7 S ?_; clear S; intro oC S)
       | fail)
      refine bodyPost_ret (jP rfl _ _ b6 26 #[.int .u8 0, .int .i64 0, .int .i64 0, .int .i64 0, .int .i64 0, .int .i64 0, .slice none 0 0] (0, 0) _ rfl (S.out.blk _ (.head _) _ rfl) Try.underlying26 rfl (by kernel_rfl)) rfl ?_
      rw [show aN ax ⟨ck, ⟨cx, cy, cw, ch⟩, aV, l⟩ bY = 7 by unfold aN; rw [if_neg (by rw [HB.out]; simp), if_pos HO.out], show aZ ax ⟨ck, ⟨cx, cy, cw, ch⟩, aV, l⟩ bY = z26 by unfold aZ; rw [if_neg (by rw [HB.out]; simp), if_pos HO.out]]
      exact ⟨_, _, rfl, Kd.wE _ _ _ _ _, S.out.below⟩
     ·rw [decide_eq_false h4, Bool.false_or] at hO2
      have IC : decide (bY > 10000) = false := decide_eq_false h4
      have h4c : decide (10000 < bY) = false := decide_eq_false h4
      by_cases h5 : bY < -10000
      ·have hO3 := hO2
       rw [decide_eq_true h5, Bool.true_or] at hO3
       have NL : decide (bY < -10000) = true := decide_eq_true h5
       clear h4 h5 hO2
       have HO := ae.mk hO3
       clear hO3 hfit
       go_wp2_with (first
        | ((with_reducible refine kR 26 (.tmp 6) (.tmp 57) rfl ?_); refine rU 26 6 57 #[.int .u8 0, .int .i64 0, .int .i64 0, .int .i64 0, .int .i64 0, .int .i64 0, .slice none 0 0] 0 7 S ?_; clear S; intro oC S)
        | fail)
       refine bodyPost_ret (jP rfl _ _ b6 26 #[.int .u8 0, .int .i64 0, .int .i64 0, .int .i64 0, .int .i64 0, .int .i64 0, .slice none 0 0] (0, 0) _ rfl (S.out.blk _ (.head _) _ rfl) Try.underlying26 rfl (by kernel_rfl)) rfl ?_
       rw [show aN ax ⟨ck, ⟨cx, cy, cw, ch⟩, aV, l⟩ bY = 7 by unfold aN; rw [if_neg (by rw [HB.out]; simp), if_pos HO.out], show aZ ax ⟨ck, ⟨cx, cy, cw, ch⟩, aV, l⟩ bY = z26 by unfold aZ; rw [if_neg (by rw [HB.out]; simp), if_pos HO.out]]
       exact ⟨_, _, rfl, Kd.wE _ _ _ _ _, S.out.below⟩
      ·rw [decide_eq_false h5, Bool.false_or] at hO2
       have NL : decide (bY < -10000) = false := decide_eq_false h5
       by_cases h6 : wrap64 (wrap64 ((atR ax ⟨cx, cy, cw, ch⟩) + dA ax ⟨cx, cy, cw, ch⟩) + bY) > 10000
       ·have hO3 := hO2
        rw [decide_eq_true h6, Bool.true_or] at hO3
        have h6b : decide (wrap64 (wrap64 ((atR ax ⟨cx, cy, cw, ch⟩) + dA ax ⟨cx, cy, cw, ch⟩) + bY) > 10000) = true := decide_eq_true h6
        have h6c : decide (10000 < wrap64 (wrap64 ((atR ax ⟨cx, cy, cw, ch⟩) + dA ax ⟨cx, cy, cw, ch⟩) + bY)) = true := decide_eq_true h6
        clear h4 h5 h6 hO2
        have HO := ae.mk hO3
        clear hO3 hfit
        go_wp2_with (first
         | ((with_reducible refine kR 26 (.tmp 6) (.tmp 57) rfl ?_); refine rU 26 6 57 #[.int .u8 0, .int .i64 0, .int .i64 0, .int .i64 0, .int .i64 0, .int .i64 0, .slice none 0 0] 0 7 S ?_; clear S; intro oC S)
         | fail)
        refine bodyPost_ret (jP rfl _ _ b6 26 #[.int .u8 0, .int .i64 0, .int .i64 0, .int .i64 0, .int .i64 0, .int .i64 0, .slice none 0 0] (0, 0) _ rfl (S.out.blk _ (.head _) _ rfl) Try.underlying26 rfl (by kernel_rfl)) rfl ?_
        rw [show aN ax ⟨ck, ⟨cx, cy, cw, ch⟩, aV, l⟩ bY = 7 by unfold aN; rw [if_neg (by rw [HB.out]; simp), if_pos HO.out], show aZ ax ⟨ck, ⟨cx, cy, cw, ch⟩, aV, l⟩ bY = z26 by unfold aZ; rw [if_neg (by rw [HB.out]; simp), if_pos HO.out]]
        exact ⟨_, _, rfl, Kd.wE _ _ _ _ _, S.out.below⟩
       ·rw [decide_eq_false h6, Bool.false_or] at hO2
        have h6b : decide (wrap64 (wrap64 ((atR ax ⟨cx, cy, cw, ch⟩) + dA ax ⟨cx, cy, cw, ch⟩) + bY) > 10000) = false := decide_eq_false h6
        have h6c : decide (10000 < wrap64 (wrap64 ((atR ax ⟨cx, cy, cw, ch⟩) + dA ax ⟨cx, cy, cw, ch⟩) + bY)) = false := decide_eq_false h6
        by_cases h7 : wrap64 (dA ax ⟨cx, cy, cw, ch⟩ + bY) < gU ax ⟨ck, ⟨cx, cy, cw, ch⟩, aV, l⟩
        ·have hO3 := hO2
         rw [decide_eq_true h7] at hO3
         have h7b : decide (wrap64 (dA ax ⟨cx, cy, cw, ch⟩ + bY) < gU ax ⟨ck, ⟨cx, cy, cw, ch⟩, aV, l⟩) = true := decide_eq_true h7
         clear h4 h5 h6 h7 hO2
         have HO := ae.mk hO3
         clear hO3 hfit
         obtain ⟨gY, gZ, g_, ig, ik, je, eY⟩ := St.nU S (.tail _ (.head _))
         go_wp2_with (first
          | ((with_reducible refine bV 54 rfl ?_); (refine eQ (by rfl) ?_; dsimp only); refine jX (some 54) Try.func152 S (Zy ⟨ck, ⟨cx, cy, cw, ch⟩, aV, l⟩ ax HZ.out HT.out (S.out.tree _ (.head _))) ?_; clear S; intro oC S; clear gY gZ g_ ig ik je eY)
          | ((with_reducible refine kR 26 (.tmp 6) (.tmp 57) rfl ?_); refine rU 26 6 57 #[.int .u8 0, .int .i64 0, .int .i64 0, .int .i64 0, .int .i64 0, .int .i64 0, .slice none 0 0] 0 7 S ?_; clear S; intro qU S)
          | fail)
         refine bodyPost_ret (jP rfl _ _ b6 26 #[.int .u8 0, .int .i64 0, .int .i64 0, .int .i64 0, .int .i64 0, .int .i64 0, .slice none 0 0] (0, 0) _ rfl (S.out.blk _ (.head _) _ rfl) Try.underlying26 rfl (by kernel_rfl)) rfl ?_
         rw [show aN ax ⟨ck, ⟨cx, cy, cw, ch⟩, aV, l⟩ bY = 7 by unfold aN; rw [if_neg (by rw [HB.out]; simp), if_pos HO.out], show aZ ax ⟨ck, ⟨cx, cy, cw, ch⟩, aV, l⟩ bY = z26 by unfold aZ; rw [if_neg (by rw [HB.out]; simp), if_pos HO.out]]
         exact ⟨_, _, rfl, Kd.wE _ _ _ _ _, S.out.below⟩
        ·rw [decide_eq_false h7] at hO2
         have h7b : decide (wrap64 (dA ax ⟨cx, cy, cw, ch⟩ + bY) < gU ax ⟨ck, ⟨cx, cy, cw, ch⟩, aV, l⟩) = false := decide_eq_false h7
         have HO := ae.mk hO2
         have hf := hfit hO2
         have HZ2 := ae.mk (show sz ⟨ck, ⟨cx, cy, cw, ch⟩, aV, l⟩ ≤ 100000 by omega)
         have HZ3 := ae.mk (show sz (eU ax ⟨ck, ⟨cx, cy, cw, ch⟩, aV, l⟩ bY) ≤ 1000000 by rw [(Tt ax _).1 _ (Nat.le_refl _)]; omega)
         have HBY := ae.mk (show -100000 ≤ bY ∧ bY ≤ 100000 by omega)
         clear hf hfit h4 h5 h6 h7 hO2
         obtain ⟨gY, gZ, g_, ig, ik, je, eY⟩ := St.nU S (.tail _ (.head _))
         go_wp2_with (first
          | ((with_reducible refine bV 54 rfl ?_); (refine eQ (by rfl) ?_; dsimp only); refine jX (some 54) Try.func152 S (Zy ⟨ck, ⟨cx, cy, cw, ch⟩, aV, l⟩ ax HZ.out HT.out (S.out.tree _ (.head _))) ?_; clear S; intro oC S; clear gY gZ g_ ig ik je eY)
          | fail)
         refine m_ (n := 13) (S := fun w' => St w _ _ _ _ _ w') (ds := [11]) (bA 13 0) (by kernel_rfl) rfl rfl (S.out.call (fF (Below.refl _ _))) (fun hHeld => ?_); refine jr BH.ZI BH.RN (fun aW gX => ?_)
         replace S := ae.mk (S.out.call (fF (Below.refl _ _)))
         generalize oC.drew = wd2 at S hHeld ⊢
         refine jq 0 58 (bA 13 1) aW gX hHeld ?_ (hv := by intro w' hs_; have gY := (hs_.at (.tail _ (.head _)) 0).trans rfl; have gZ := (hs_.at (.tail _ (.head _)) 1).trans rfl; have g_ := (hs_.at (.tail _ (.head _)) 2).trans rfl; have ig := (hs_.at (.tail _ (.head _)) 3).trans rfl; have ik := (hs_.at (.tail _ (.head _)) 4).trans rfl; have je := (hs_.at (.tail _ (.head _)) 5).trans rfl; have eY := (hs_.at (.tail _ (.head _)) 6).trans rfl; go_simp; with_reducible rfl)
         refine bH 1 59 (bA 13 3) aW ?_
         refine bH 2 60 (bA 13 7) aW ?_
         refine bH 4 62 (bA 13 23) aW ?_
         refine bH 5 63 (bA 13 55) aW ?_
         refine jq 6 64 (bA 13 119) aW gX hHeld ?_ (hv := by intro w' hs_; have gZ := (hs_.at (.tail _ (.head _)) 1).trans rfl; go_simp; with_reducible rfl)
         refine bH 7 65 (bA 13 247) aW ?_
         refine bH 8 66 (bA 13 503) aW ?_
         refine jq 9 67 (bA 13 1015) aW gX hHeld ?_ (hv := by intro w' hs_; have g_ := (hs_.at (.tail _ (.head _)) 2).trans rfl; go_simp; with_reducible rfl)
         refine jY (i := 3) (N := some 61) (bA 13 1023) rfl rfl (eX aW.out (by kernel_rfl)) (by decide) (fun K hK => ?_)
         refine jc Try.func200 (by kernel_rfl) rfl #[.agg #[.int .u8 ck, .int .i64 cx, .int .i64 cy, .int .i64 cw, .int .i64 ch, .int .i64 aV, .slice A l.length cc], .int .u8 ax, .int .i64 bY] (by rfl) rfl rfl (by (try simp only [List.map_toArray, List.map_cons, List.map_nil]); first | done | rfl) ?_
         refine (aie ax KE.out 100000 ⟨ck, ⟨cx, cy, cw, ch⟩, aV, l⟩ HZ2.out (Nat.le_refl _) HT.out bY HBY.out _ A cc _ (jS (S.out.tree _ (.head _)))).mono ?_
         rintro e xm ⟨A61, aoQ, rfl, h1, hb⟩
         refine ⟨_, rfl, ?_⟩
         replace S := ae.mk (S.out.res (Kd.xO (base' := 0) h1) hb)
         clear h1 hb
         refine hK.out _ _ S.out.dW (fun hHeld => ?_)
         clear hK K
         refine iW 61 ?_
         refine jY (i := 10) (N := some 68) (bA 13 2047) rfl rfl (eX aW.out (by kernel_rfl)) (by decide) (fun K hK => ?_)
         refine jc Try.func67 (by kernel_rfl) rfl #[.agg #[.int .u8 ((eU ax ⟨ck, ⟨cx, cy, cw, ch⟩, aV, l⟩ bY).f0), .int .i64 ((eU ax ⟨ck, ⟨cx, cy, cw, ch⟩, aV, l⟩ bY).f1.f0), .int .i64 ((eU ax ⟨ck, ⟨cx, cy, cw, ch⟩, aV, l⟩ bY).f1.f1), .int .i64 ((eU ax ⟨ck, ⟨cx, cy, cw, ch⟩, aV, l⟩ bY).f1.f2), .int .i64 ((eU ax ⟨ck, ⟨cx, cy, cw, ch⟩, aV, l⟩ bY).f1.f3), .int .i64 ((eU ax ⟨ck, ⟨cx, cy, cw, ch⟩, aV, l⟩ bY).f2), .slice A61 ((eU ax ⟨ck, ⟨cx, cy, cw, ch⟩, aV, l⟩ bY).f3.length) aoQ], .int .i64 cx, .int .i64 cy] (by rfl) rfl rfl (by (try simp only [List.map_toArray, List.map_cons, List.map_nil]); first | done | rfl) ?_
         refine (Oq (eU ax ⟨ck, ⟨cx, cy, cw, ch⟩, aV, l⟩ bY) cx cy HZ3.out (S.out.tree _ (.head _))).mono ?_
         rintro e wJ ⟨A68, YC, rfl, h1, hb⟩
         refine ⟨_, rfl, ?_⟩
         replace S := ae.mk (S.out.Qv h1 hb)
         clear h1 hb
         refine hK.out _ _ S.out.free.dW.dW (fun hHeld => ?_)
         clear hK K
         refine iW 68 ?_
         refine zD (i := 11) (N := none) (bA 13 4095) rfl rfl (eX aW.out (by kernel_rfl)) (by decide) (fun K hK => ?_)
         refine CP 0 rfl 26 (.tmp 6) (.tmp 68) rfl #[.int .u8 ((bu (eU ax ⟨ck, ⟨cx, cy, cw, ch⟩, aV, l⟩ bY) cx cy).f0), .int .i64 ((bu (eU ax ⟨ck, ⟨cx, cy, cw, ch⟩, aV, l⟩ bY) cx cy).f1.f0), .int .i64 ((bu (eU ax ⟨ck, ⟨cx, cy, cw, ch⟩, aV, l⟩ bY) cx cy).f1.f1), .int .i64 ((bu (eU ax ⟨ck, ⟨cx, cy, cw, ch⟩, aV, l⟩ bY) cx cy).f1.f2), .int .i64 ((bu (eU ax ⟨ck, ⟨cx, cy, cw, ch⟩, aV, l⟩ bY) cx cy).f1.f3), .int .i64 ((bu (eU ax ⟨ck, ⟨cx, cy, cw, ch⟩, aV, l⟩ bY) cx cy).f2), .slice A68 ((bu (eU ax ⟨ck, ⟨cx, cy, cw, ch⟩, aV, l⟩ bY) cx cy).f3.length) YC] (j := 0) (u := .agg #[.int .u8 ((bu (eU ax ⟨ck, ⟨cx, cy, cw, ch⟩, aV, l⟩ bY) cx cy).f0), .int .i64 ((bu (eU ax ⟨ck, ⟨cx, cy, cw, ch⟩, aV, l⟩ bY) cx cy).f1.f0), .int .i64 ((bu (eU ax ⟨ck, ⟨cx, cy, cw, ch⟩, aV, l⟩ bY) cx cy).f1.f1), .int .i64 ((bu (eU ax ⟨ck, ⟨cx, cy, cw, ch⟩, aV, l⟩ bY) cx cy).f1.f2), .int .i64 ((bu (eU ax ⟨ck, ⟨cx, cy, cw, ch⟩, aV, l⟩ bY) cx cy).f1.f3), .int .i64 ((bu (eU ax ⟨ck, ⟨cx, cy, cw, ch⟩, aV, l⟩ bY) cx cy).f2), .slice A68 ((bu (eU ax ⟨ck, ⟨cx, cy, cw, ch⟩, aV, l⟩ bY) cx cy).f3.length) YC]) (dL := [.int .u8 ((bu (eU ax ⟨ck, ⟨cx, cy, cw, ch⟩, aV, l⟩ bY) cx cy).f0), .int .i64 ((bu (eU ax ⟨ck, ⟨cx, cy, cw, ch⟩, aV, l⟩ bY) cx cy).f1.f0), .int .i64 ((bu (eU ax ⟨ck, ⟨cx, cy, cw, ch⟩, aV, l⟩ bY) cx cy).f1.f1), .int .i64 ((bu (eU ax ⟨ck, ⟨cx, cy, cw, ch⟩, aV, l⟩ bY) cx cy).f1.f2), .int .i64 ((bu (eU ax ⟨ck, ⟨cx, cy, cw, ch⟩, aV, l⟩ bY) cx cy).f1.f3), .int .i64 ((bu (eU ax ⟨ck, ⟨cx, cy, cw, ch⟩, aV, l⟩ bY) cx cy).f2), .slice A68 ((bu (eU ax ⟨ck, ⟨cx, cy, cw, ch⟩, aV, l⟩ bY) cx cy).f3.length) YC]) S.out (by rfl) rfl rfl rfl rfl (by kernel_rfl) (by simp [Value.oneCell']) (by first | decide | simp) rfl ?_
         intro D9 S1
         simp only [List.set_cons_zero, List.set_cons_succ] at S1
         replace S := ae.mk S1
         clear S1
         refine hK.out _ _ ?_
         clear hK K
         refine bH 12 7 (bA 13 8191) aW ?_
         refine oV (lh aW.out (by kernel_rfl)) ?_
         clear hHeld
         go_wp2
         refine bodyPost_ret (jP rfl _ _ b6 26 #[.int .u8 ((bu (eU ax ⟨ck, ⟨cx, cy, cw, ch⟩, aV, l⟩ bY) cx cy).f0), .int .i64 ((bu (eU ax ⟨ck, ⟨cx, cy, cw, ch⟩, aV, l⟩ bY) cx cy).f1.f0), .int .i64 ((bu (eU ax ⟨ck, ⟨cx, cy, cw, ch⟩, aV, l⟩ bY) cx cy).f1.f1), .int .i64 ((bu (eU ax ⟨ck, ⟨cx, cy, cw, ch⟩, aV, l⟩ bY) cx cy).f1.f2), .int .i64 ((bu (eU ax ⟨ck, ⟨cx, cy, cw, ch⟩, aV, l⟩ bY) cx cy).f1.f3), .int .i64 ((bu (eU ax ⟨ck, ⟨cx, cy, cw, ch⟩, aV, l⟩ bY) cx cy).f2), .slice A68 ((bu (eU ax ⟨ck, ⟨cx, cy, cw, ch⟩, aV, l⟩ bY) cx cy).f3.length) YC] (0, 0) _ rfl (S.out.blk _ (.head _) _ rfl) Try.underlying26 rfl (by kernel_rfl)) rfl ?_
         rw [show aN ax ⟨ck, ⟨cx, cy, cw, ch⟩, aV, l⟩ bY = 0 by unfold aN; rw [if_neg (by rw [HB.out]; simp), if_neg (by rw [HO.out]; simp)], show aZ ax ⟨ck, ⟨cx, cy, cw, ch⟩, aV, l⟩ bY = bu (eU ax ⟨ck, ⟨cx, cy, cw, ch⟩, aV, l⟩ bY) cx cy by unfold aZ; rw [if_neg (by rw [HB.out]; simp), if_neg (by rw [HO.out]; simp)]]
         exact ⟨_, _, rfl, S.out.Aj, S.out.below⟩
end Go.Proofs.Ytfdmfgaiblfbhaa.P
