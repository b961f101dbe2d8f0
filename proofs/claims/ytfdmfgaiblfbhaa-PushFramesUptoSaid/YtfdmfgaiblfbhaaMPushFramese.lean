/- PushFrames: part 5 of 6 of this claim's texts, one behind the other, made small by a program: the words of the kit's printer cut down to those that are used, the claim's own names made short. -/
import Derived.Test.YtfdmfgaiblfbhaaMPushFramesc
import Derived.Test.YtfdmfgaiblfbhaaMPushFramesd
import Derived.WalkSpells
set_option maxHeartbeats 8000000
set_option maxRecDepth 100000
set_option linter.unusedVariables false
set_option linter.unusedSimpArgs false
namespace Go.Proofs.Ytfdmfgaiblfbhaa.P
open Go.RowKit Go.Proofs.ag.aT Go.Proofs.ag.bK Go.Proofs.ag.bY
attribute [local go_sem] je jr jO kC jL jM kN kQ
noncomputable def b_.j0 : Nat → Int → Bool → Int → Int → Int → Int → Int → Int → List (ai) → Option (Int)
 | 0, _, _, _, _, _, _, _, _, _ => none
 | k + 1, x1, GN, aam, O5, O6, O7, O8, aan, aao => if GN = true then (some 0) else ((oI.f O5 O6 O7 O8 x1).bind fun FH => ((kJ.f k aam O5 O6 O7 O8 aan aao x1).bind fun DJ => (some (wrap64 (FH - DJ)))))
noncomputable def b_.f (k : Nat) (ay : Int) (aH : Int) (aC : Int) (aG : Int) (bz : Int) (bC : Int) (aJ : List (ai)) (a1 : Int) : Option (Int) := (jX.f a1).bind fun Ir => (if Ir = true then ((kW.f (([(⟨ay, (⟨aH, aC, aG, bz⟩ : dD), bC, aJ⟩ : ai)] : List (ai)))).bind fun wS => (b_.j0 k a1 (!wS) ay aH aC aG bz bC aJ)) else (b_.j0 k a1 true ay aH aC aG bz bC aJ))
def b_.T3 : Bool × List (List Nat × List Nat) := (true, [([], []), ([0], [0]), ([], []), ([1, 2], [1, 2]), ([], []), ([], []), ([4, 5, 3], [4, 5]), ([3, 6], [3, 6]), ([7, 6, 0, 1, 2, 3, 4, 5, 6, 7], [7])])
def b_.B3 : List Nat := [0, 1, 0, 7, 0, 0, 63, 127, 255]
theorem b_.QD : g_ .any (opsOf Try.f86 3) = b_.T3 := by kernel_rfl
theorem b_.JH : iL b_.T3.2 b_.B3 = true := by kernel_rfl
theorem b_.calls (k : Nat) (ay : Int) (aH : Int) (aC : Int) (aG : Int) (bz : Int) (bC : Int) (eX : Nat → Prop) (dE : Option Addr) (dF : Nat) (aJ : List (ai)) (a1 : Int) (r : Int) (w : World) (D7 : Kd.V k26 26 w w.heap.size (fun k_ => eX k_) (.slice dE aJ.length dF) aJ) (h : b_.f k ay aH aC aG bz bC aJ a1 = some r) :
  Calls Try.prog 86 #[.agg #[.int .u8 ay, .int .i64 aH, .int .i64 aC, .int .i64 aG, .int .i64 bz, .int .i64 bC, .slice dE aJ.length dF], .int .u8 a1] w fun e w' => e = .returned (.int .i64 r) ∧ Below w.heap.size w w' := by
 have H_ := Try.underlying26
 have P_ := Try.underlying23
 have iQ := ae.mk (show Kd.V k26 26 w w.heap.size (fun k_ => (eX k_ ∨ w.heap.size ≤ k_)) (.slice dE aJ.length dF) aJ from Kd.gG D7 (fun k_ hk => .inl hk))
 have HB := ae.mk (Below.refl w.heap.size w)
 have H : ((jX.f a1).bind fun Ir => (if Ir = true then ((kW.f (([(⟨ay, (⟨aH, aC, aG, bz⟩ : dD), bC, aJ⟩ : ai)] : List (ai)))).bind fun wS => (b_.j0 k a1 (!wS) ay aH aC aG bz bC aJ)) else (b_.j0 k a1 true ay aH aC aG bz bC aJ))) = some r := h
 clear h
 have HC3 := ae.mk H
 clear H
 go_enter Try.func86, Try.ntmps86
 go_upto_region 1 with (((with_reducible refine aA (N := 2) rfl ?_); (try (refine fB (by rfl) ?_; dsimp only)); refine aQ ?hg (N := 2) ?hd (cs := #[.int .u8 ay, .int .i64 aH, .int .i64 aC, .int .i64 aG, .int .i64 bz, .int .i64 bC, .slice dE aJ.length dF]) (t := 26) ?hr ?_; (case hd => rfl); (case hg => rfl); (case hr => (go_simp; done)); intro lq hg w4 hbox hb; have dZ := ae.mk (hbox); replace iQ := ae.mk (Kd.iI (Kd.ni iQ.out lq (Nat.le_of_eq hg.symm)) hb); replace HB := ae.mk (ak (by repeat ((with_reducible exact HB.out))) hb); clear hb hbox hg))
 (skip)
 go_cut [13] (fun v13 wc => ∃ (kq : Nat) (JM : Bool), v13 = .bool JM ∧ ae (b_.j0 kq a1 JM ay aH aC aG bz bC aJ = some r) ∧ ae (kq ≤ k) ∧ ae (Kd.V k26 26 wc w.heap.size (fun k_ => (eX k_ ∨ w.heap.size ≤ k_) ∧ k_ ≠ lq) (.slice dE aJ.length dF) aJ) ∧ ae (wc.heap[lq]? = some (.cells #[.int .u8 ay, .int .i64 aH, .int .i64 aC, .int .i64 aG, .int .i64 bz, .int .i64 bC, (.slice dE aJ.length dF)] 26 (0, 0))) ∧ ae (Below w.heap.size w wc))
 case first =>
  have H := HC3.out
  clear HC3
  replace H := Option.bind_eq_some_iff.mp H
  obtain ⟨Ir, A50, H⟩ := H
  replace H : (if Ir = true then ((kW.f (([(⟨ay, (⟨aH, aC, aG, bz⟩ : dD), bC, aJ⟩ : ai)] : List (ai)))).bind fun wS => (b_.j0 k a1 (!wS) ay aH aC aG bz bC aJ)) else (b_.j0 k a1 true ay aH aC aG bz bC aJ)) = some r := H
  have A5 := ae.mk A50
  clear A50
  by_cases c6 : Ir = true
  ·subst c6
   have H1 : ((kW.f (([(⟨ay, (⟨aH, aC, aG, bz⟩ : dD), bC, aJ⟩ : ai)] : List (ai)))).bind fun wS => (b_.j0 k a1 (!wS) ay aH aC aG bz bC aJ)) = some r := by rw [if_pos rfl] at H; exact H
   clear H
   have H := H1
   clear H1
   obtain ⟨adO, Qg⟩ : ∃ y_ : List (ai), y_ = (([(⟨ay, (⟨aH, aC, aG, bz⟩ : dD), bC, aJ⟩ : ai)] : List (ai))) := ⟨_, rfl⟩
   replace H : ((kW.f adO).bind fun wS => (b_.j0 k a1 (!wS) ay aH aC aG bz bC aJ)) = some r := by (rw [Qg]; with_reducible exact H)
   have ad9 := ae.mk Qg
   clear Qg
   replace H := Option.bind_eq_some_iff.mp H
   obtain ⟨wS, A70, H⟩ := H
   replace H : (b_.j0 k a1 (!wS) ay aH aC aG bz bC aJ) = some r := H
   have A7 := ae.mk A70
   clear A70
   have H' := ae.mk H
   clear H
   go_wp2_with (first | ((with_reducible refine kH (f := 147) rfl ?_); refine nC (some 6) rfl rfl Try.func147 (by kernel_rfl) rfl #[.int .u8 a1] rfl (by (try simp only [List.map_toArray, List.map_cons, List.map_nil]); rfl) ?_; (with_reducible refine (jX.calls a1 true _ A5.out).mono ?_); rintro e w8 ⟨rfl, hb⟩; refine ⟨_, rfl, ?_⟩; replace iQ := ae.mk (Kd.iI iQ.out hb); replace dZ := ae.mk (aI dZ.out hb); replace HB := ae.mk (ak (by repeat ((with_reducible exact HB.out))) hb); (try clear hb); have Sr : w8.cell? ⟨lq, 0, none⟩ = some (.int .u8 ay) := (af dZ.out 0).trans rfl; have Su : w8.cell? ⟨lq, 1, none⟩ = some (.int .i64 aH) := (af dZ.out 1).trans rfl; have Sv : w8.cell? ⟨lq, 2, none⟩ = some (.int .i64 aC) := (af dZ.out 2).trans rfl; have Sz : w8.cell? ⟨lq, 3, none⟩ = some (.int .i64 aG) := (af dZ.out 3).trans rfl; have SA : w8.cell? ⟨lq, 4, none⟩ = some (.int .i64 bz) := (af dZ.out 4).trans rfl; have SB : w8.cell? ⟨lq, 5, none⟩ = some (.int .i64 bC) := (af dZ.out 5).trans rfl; have SC : w8.cell? ⟨lq, 6, none⟩ = some (.slice dE aJ.length dF) := (af dZ.out 6).trans rfl; have SS := ah dZ.out 0; have SV := ah dZ.out 1; have SX := ah dZ.out 2; have SY := ah dZ.out 3; have S9 := ah dZ.out 4; have S_ := ah dZ.out 5; have Tc := ah dZ.out 6) | ((with_reducible refine aA (N := 10) rfl ?_); (try (refine fB (by rfl) ?_; dsimp only)); refine Kd.yt k26 _ 26 ?hg (N' := 10) ?hd (xs := ([(⟨ay, (⟨aH, aC, aG, bz⟩ : dD), bC, aJ⟩ : ai)] : List (ai))) (inner := [.int .u8 ay, .int .i64 aH, .int .i64 aC, .int .i64 aG, .int .i64 bz, .int .i64 bC, .slice dE aJ.length dF]) (ok := (fun k_ => (eX k_ ∨ w.heap.size ≤ k_) ∧ k_ ≠ lq)) (fE := (fun k_ => (eX k_ ∨ w.heap.size ≤ k_) ∧ k_ ≠ lq)) ?hr ?hp (fun _ hk => hk) ((show ∀ k_, w8.heap.size ≤ k_ → (fun k_ => (eX k_ ∨ w.heap.size ≤ k_) ∧ k_ ≠ lq) k_ from fun k_ hk => ⟨(.inr (Nat.le_trans (dR (by repeat ((with_reducible exact HB.out)))) hk)), Kd.yR dZ.out k_ hk⟩) _ (Nat.le_refl _)) (Below.refl _ _) (Nat.le_refl _) (by simp) ?_; (case hd => rfl); (case hg => rfl); (case hr => (go_simp; done)); (case hp => exact (bV.c7 (show Kd.FK k26 _ _ (⟨ay, (⟨aH, aC, aG, bz⟩ : dD), bC, aJ⟩ : ai) [.int .u8 ay, .int .i64 aH, .int .i64 aC, .int .i64 aG, .int .i64 bz, .int .i64 bC, .slice dE aJ.length dF] from (nS _ _ (⟨ay, (⟨aH, aC, aG, bz⟩ : dD), bC, aJ⟩ : ai) (Kd.jZ (Kd.gG (ok' := (fun k_ => (eX k_ ∨ w.heap.size ≤ k_) ∧ k_ ≠ lq)) (iQ.out) (fun k_ hk => ⟨hk.1, hk.2⟩))).2.1 (Kd.Rk (Kd.gG (ok' := (fun k_ => (eX k_ ∨ w.heap.size ≤ k_) ∧ k_ ≠ lq)) (iQ.out) (fun k_ hk => ⟨hk.1, hk.2⟩))))) (bV.none _ _))); intro aka w10 P9 hb nD jc; clear nD jc; (rw [← ad9.out] at P9); have FW := ae.mk (Kd.uO P9 (dR (by repeat ((with_reducible exact HB.out))))); replace iQ := ae.mk (Kd.wH iQ.out (Kd.vz P9) hb); replace dZ := ae.mk (aI dZ.out hb); replace HB := ae.mk (ak (by repeat ((with_reducible exact HB.out))) hb); clear hb P9; obtain ⟨ajI, ajR, age⟩ := Kd.jm FW.out; subst age) | (go_at_call 148; (with_reducible refine (kW.calls _ _ adO wS _ ?sU ?yC A7.out).mono ?_); (case sU => repeat (exact (Kd.iF FW.out).2.2)); (case yC => exact (Kd.iF FW.out).2.1); rintro e tH ⟨rfl, hb⟩; replace iQ := ae.mk (Kd.iI iQ.out hb); replace FW := ae.mk (Kd.pg FW.out hb); replace dZ := ae.mk (aI dZ.out hb); replace HB := ae.mk (ak (by repeat ((with_reducible exact HB.out))) hb); (try clear hb)))
   go_meet
   case rel => exact ⟨_, (!wS), (by rfl), H', ⟨by omega⟩, ⟨by exact Kd.gG iQ.out (fun _ hk => ⟨hk.1.1, hk.1.2⟩)⟩, ⟨by exact dZ.out⟩, ⟨by repeat ((with_reducible exact HB.out))⟩⟩
  ·replace c6 := Bool.eq_false_iff.mpr c6
   subst c6
   have H1 : (b_.j0 k a1 true ay aH aC aG bz bC aJ) = some r := by rw [if_neg (show ¬ (false = true) by decide)] at H; exact H
   clear H
   have H := H1
   clear H1
   have H' := ae.mk H
   clear H
   go_wp2_with (((with_reducible refine kH (f := 147) rfl ?_); refine nC (some 6) rfl rfl Try.func147 (by kernel_rfl) rfl #[.int .u8 a1] rfl (by (try simp only [List.map_toArray, List.map_cons, List.map_nil]); rfl) ?_; (with_reducible refine (jX.calls a1 false _ A5.out).mono ?_); rintro e w14 ⟨rfl, hb⟩; refine ⟨_, rfl, ?_⟩; replace iQ := ae.mk (Kd.iI iQ.out hb); replace dZ := ae.mk (aI dZ.out hb); replace HB := ae.mk (ak (by repeat ((with_reducible exact HB.out))) hb); (try clear hb)))
   go_meet
   case rel => exact ⟨_, (true), (by rfl), H', ⟨by omega⟩, ⟨by exact iQ.out⟩, ⟨by exact dZ.out⟩, ⟨by repeat ((with_reducible exact HB.out))⟩⟩
 case rest =>
  clear HC3
  obtain ⟨kq, JM, rfl, HA, HJ2, nZ, dZ, HB⟩ := hcut
  cases kq with
  | zero => exact absurd HA.out (by simp [b_.j0])
  | succ kj2 =>
   have H := HA.out
   clear HA
   simp only [b_.j0] at H
   by_cases c15 : JM = true
   ·subst c15
    have H1 : (some 0) = some r := by rw [if_pos rfl] at H; exact H
    clear H
    have H := H1
    clear H1
    obtain rfl := Option.some.inj H
    go_wp2
    go_ret
    exact ⟨by rfl, by repeat ((with_reducible exact HB.out))⟩
   ·replace c15 := Bool.eq_false_iff.mpr c15
    subst c15
    have H1 : ((oI.f aH aC aG bz a1).bind fun FH => ((kJ.f kj2 ay aH aC aG bz bC aJ a1).bind fun DJ => (some (wrap64 (FH - DJ))))) = some r := by rw [if_neg (show ¬ (false = true) by decide)] at H; exact H
    clear H
    have H := H1
    clear H1
    replace H := Option.bind_eq_some_iff.mp H
    obtain ⟨FH, JP, H⟩ := H
    replace H : ((kJ.f kj2 ay aH aC aG bz bC aJ a1).bind fun DJ => (some (wrap64 (FH - DJ)))) = some r := H
    have A16 := ae.mk JP
    clear JP
    replace H := Option.bind_eq_some_iff.mp H
    obtain ⟨DJ, aav, H⟩ := H
    replace H : (some (wrap64 (FH - DJ))) = some r := H
    have A17 := ae.mk aav
    clear aav
    obtain rfl := Option.some.inj H
    try go_wp2
    replace nZ := ae.mk (Kd.KA nZ.out); replace dZ := ae.mk (uF dZ.out); replace HB := ae.mk (tZ HB.out)
    refine ik (n := 9) (S := fun w' => w'.cell? ⟨lq, 0, none⟩ = some (.int .u8 ay) ∧ w'.cell? ⟨lq, 1, none⟩ = some (.int .i64 aH) ∧ w'.cell? ⟨lq, 2, none⟩ = some (.int .i64 aC) ∧ w'.cell? ⟨lq, 3, none⟩ = some (.int .i64 aG) ∧ w'.cell? ⟨lq, 4, none⟩ = some (.int .i64 bz) ∧ w'.cell? ⟨lq, 5, none⟩ = some (.int .i64 bC) ∧ w'.cell? ⟨lq, 6, none⟩ = some (.slice dE aJ.length dF)) (ds := []) #[false, false, false, false, false, false, false, false, false] (by kernel_rfl) rfl rfl ⟨(af dZ.out 0).trans rfl, (af dZ.out 1).trans rfl, (af dZ.out 2).trans rfl, (af dZ.out 3).trans rfl, (af dZ.out 4).trans rfl, (af dZ.out 5).trans rfl, (af dZ.out 6).trans rfl⟩ (fun hHeld => ?_); refine ed b_.QD b_.JH (fun aj dW => ?_)
    generalize wc.drew = w18 at nZ dZ HB hHeld ⊢
    refine qy (i := 0) (N := some 14) (v := ?_) (a' := ?_) #[true, false, false, false, false, false, false, false, false] rfl rfl (ny aj.out (by kernel_rfl)) (fun _ _ _ h => h) (Or.inl ⟨by rfl, ?_⟩) ?_ ?_
    rotate_left
    ·intro w'
     go_simp
     with_reducible rfl
    rotate_left
    ·simp only [Act.put, List.setIfInBounds_toArray, List.set_cons_zero, List.set_cons_succ, jD, jC]
     rfl
    refine qy (i := 2) (N := some 16) (v := ?_) (a' := ?_) #[true, false, true, false, false, false, false, false, false] rfl rfl (ny aj.out (by kernel_rfl)) (fun _ _ _ h => h) (Or.inl ⟨by rfl, ?_⟩) ?_ ?_
    rotate_left
    ·intro w'
     go_simp
     with_reducible rfl
    rotate_left
    ·simp only [Act.put, List.setIfInBounds_toArray, List.set_cons_zero, List.set_cons_succ, jD, jC]
     rfl
    refine qy (i := 5) (N := some 19) (v := ?_) (a' := ?_) #[true, false, true, false, false, true, false, false, false] rfl rfl (ny aj.out (by kernel_rfl)) (fun _ _ _ h => h) (Or.inl ⟨by rfl, ?_⟩) ?_ ?_
    rotate_left
    ·intro w'
     go_simp
     with_reducible rfl
    rotate_left
    ·simp only [Act.put, List.setIfInBounds_toArray, List.set_cons_zero, List.set_cons_succ, jD, jC]
     rfl
    refine yD (i := 1) (N := some 15) (v := ?_) (a' := ?_) #[true, true, true, false, false, true, false, false, false] rfl rfl (uH aj.out dW.out (by kernel_rfl)) (fun _ _ _ h => h) (Or.inl ⟨by rfl, ?_⟩) hHeld ?_ ?_
    rotate_left
    ·rintro w' ⟨s0, s1, s2, s3, s4, s5, s6⟩
     go_simp
     with_reducible rfl
    rotate_left
    ·simp only [Act.put, List.setIfInBounds_toArray, List.set_cons_zero, List.set_cons_succ, jD, jC]
     rfl
    refine yD (i := 4) (N := some 18) (v := ?_) (a' := ?_) #[true, true, true, false, true, true, false, false, false] rfl rfl (uH aj.out dW.out (by kernel_rfl)) (fun _ _ _ h => h) (Or.inl ⟨by rfl, ?_⟩) hHeld ?_ ?_
    rotate_left
    ·rintro w' ⟨s0, s1, s2, s3, s4, s5, s6⟩
     go_simp
     with_reducible rfl
    rotate_left
    ·simp only [Act.put, List.setIfInBounds_toArray, List.set_cons_zero, List.set_cons_succ, jD, jC]
     rfl
    refine MV (i := 3) (N := some 17) #[true, true, true, true, true, true, false, false, false] rfl rfl (xw aj.out (by kernel_rfl)) (by decide) (fun K hK => ?_)
    refine jB Try.func98 (by kernel_rfl) rfl #[.agg #[.int .i64 aH, .int .i64 aC, .int .i64 aG, .int .i64 bz], .int .u8 a1] (by rfl) rfl rfl (by (try simp only [List.map_toArray, List.map_cons, List.map_nil]); rfl) ?_
    with_reducible refine (oI.calls aH aC aG bz a1 FH _ A16.out).mono ?_
    rintro e Ew ⟨rfl, hb⟩
    refine ⟨_, rfl, ?_⟩
    replace nZ := ae.mk (Kd.iI nZ.out hb); replace dZ := ae.mk (aI dZ.out hb); replace HB := ae.mk (ak (by repeat ((with_reducible exact HB.out))) hb)
    (try clear hb)
    (skip)
    (skip)
    (skip)
    refine hK.out _ _ ⟨(af dZ.out 0).trans rfl, (af dZ.out 1).trans rfl, (af dZ.out 2).trans rfl, (af dZ.out 3).trans rfl, (af dZ.out 4).trans rfl, (af dZ.out 5).trans rfl, (af dZ.out 6).trans rfl⟩ (fun hHeld => ?_)
    clear hK K
    refine lW (a' := ?_) ?_ ?_
    rotate_left
    ·show Act.put _ (some 17) _ = _
     simp only [Act.put, List.setIfInBounds_toArray, List.set_cons_zero, List.set_cons_succ, jD, jC]
     rfl
    refine MV (i := 6) (N := some 20) #[true, true, true, true, true, true, true, false, false] rfl rfl (xw aj.out (by kernel_rfl)) (by decide) (fun K hK => ?_)
    refine jB Try.func149 (by kernel_rfl) rfl #[.agg #[.int .u8 ay, .int .i64 aH, .int .i64 aC, .int .i64 aG, .int .i64 bz, .int .i64 bC, .slice dE aJ.length dF], .int .u8 a1] (by rfl) rfl rfl (by (try simp only [List.map_toArray, List.map_cons, List.map_nil]); rfl) ?_
    with_reducible refine (kJ.calls kj2 ay aH aC aG bz bC _ _ aJ a1 DJ _ ?sU ?yC A17.out).mono ?_
    (case sU => repeat (exact (Kd.jZ nZ.out).2.2))
    (case yC => exact (Kd.jZ nZ.out).2.1)
    rintro e w20 ⟨rfl, hb⟩
    refine ⟨_, rfl, ?_⟩
    replace nZ := ae.mk (Kd.iI nZ.out hb); replace dZ := ae.mk (aI dZ.out hb); replace HB := ae.mk (ak (by repeat ((with_reducible exact HB.out))) hb)
    (try clear hb)
    (skip)
    (skip)
    (skip)
    refine hK.out _ _ ⟨(af dZ.out 0).trans rfl, (af dZ.out 1).trans rfl, (af dZ.out 2).trans rfl, (af dZ.out 3).trans rfl, (af dZ.out 4).trans rfl, (af dZ.out 5).trans rfl, (af dZ.out 6).trans rfl⟩ (fun hHeld => ?_)
    clear hK K
    refine lW (a' := ?_) ?_ ?_
    rotate_left
    ·show Act.put _ (some 20) _ = _
     simp only [Act.put, List.setIfInBounds_toArray, List.set_cons_zero, List.set_cons_succ, jD, jC]
     rfl
    refine qy (i := 7) (N := some 21) (v := ?_) (a' := ?_) #[true, true, true, true, true, true, true, true, false] rfl rfl (ny aj.out (by kernel_rfl)) (fun _ _ _ h => h) (Or.inl ⟨by rfl, ?_⟩) ?_ ?_
    rotate_left
    ·intro w'
     go_simp
     with_reducible rfl
    rotate_left
    ·simp only [Act.put, List.setIfInBounds_toArray, List.set_cons_zero, List.set_cons_succ, jD, jC]
     rfl
    refine qy (i := 8) (N := some 4) (v := ?_) (a' := ?_) #[true, true, true, true, true, true, true, true, true] rfl rfl (ny aj.out (by kernel_rfl)) (fun _ _ _ h => h) (Or.inl ⟨by rfl, ?_⟩) ?_ ?_
    rotate_left
    ·intro w'
     go_simp
     with_reducible rfl
    rotate_left
    ·simp only [Act.put, List.setIfInBounds_toArray, List.set_cons_zero, List.set_cons_succ, jD, jC]
     rfl
    refine ji (fP aj.out (by kernel_rfl)) ?_
    try go_wp2
    go_ret
    exact ⟨by rfl, by repeat ((with_reducible exact HB.out))⟩
def ZP.f (ay : Int) (aH : Int) (aC : Int) (aG : Int) (a1 : Int) : Option (Int) := if a1 = 1 then (some aC) else (if a1 = 2 then (some aG) else (some 0))
end Go.Proofs.Ytfdmfgaiblfbhaa.P
namespace Go.Proofs.Ytfdmfgaiblfbhaa.P
open Go.RowKit Go.Proofs.ag.aT Go.Proofs.ag.bK Go.Proofs.ag.bY
theorem Ev.unique {α : Type} {g : Nat → Option α} {a b : α} (h : Ev g a) (k : Ev g b) : a = b := by
 obtain ⟨n, hn⟩ := h
 obtain ⟨m, hm⟩ := k
 have e := (hn (max n m) (by omega)).symm.trans (hm (max n m) (by omega))
 exact Option.some.inj e
theorem Eu (c : ai) (hz : sz c ≤ 1048576) : kW.f ([(⟨c.f0, (⟨c.f1.f0, c.f1.f1, c.f1.f2, c.f1.f3⟩ : dD), c.f2, c.f3⟩ : ai)] : List ai) = some (bZ c) := by
 rw [D5]
 unfold kW.f
 rw [if_pos (by simp [hz])]
 simp
theorem pR {c : ai} (h : kP c = true) : (fJ c).all l9 = true := by
 unfold kP at h
 simp only [Bool.and_eq_true] at h
 exact h.2.1
theorem lg {c : ai} (h : bZ c = true) : kP c = true := by
 unfold bZ at h
 simp only [Bool.and_eq_true] at h
 exact h.1
noncomputable def aU (ax : Int) (c : ai) : Int := if (ax = 1 ∨ ax = 2) ∧ bZ c = true then wrap64 (aV ax c.f1 - dH ax c) else 0
theorem Ve (c : ai) (hz : sz c ≤ 1048576) (ax : Int) : Ev (fun k => b_.f k c.f0 c.f1.f0 c.f1.f1 c.f1.f2 c.f1.f3 c.f2 c.f3 ax) (aU ax c) := by
 have no : Ev (fun k => b_.j0 k ax true c.f0 c.f1.f0 c.f1.f1 c.f1.f2 c.f1.f3 c.f2 c.f3) 0 := by
  refine Ev.step (f := fun _ => some 0) (fun k => ?_) (Ev.now _)
  simp only [b_.j0]
  rw [if_pos trivial]
 unfold aU
 by_cases hax : ax = 1 ∨ ax = 2
 ·have ha : jX.f ax = some true := by
   unfold jX.f
   rcases hax with rfl | rfl <;> rfl
  cases ht : bZ c with
  | false =>
   rw [if_neg (by simp)]
   refine Ev.congr (f := fun k => b_.j0 k ax true c.f0 c.f1.f0 c.f1.f1 c.f1.f2 c.f1.f3 c.f2 c.f3) (fun k => ?_) no
   unfold b_.f
   rw [ha]
   simp only [Option.bind_some, if_true]
   rw [Eu c hz, ht]
   rfl
  | true =>
   rw [if_pos ⟨hax, rfl⟩]
   refine Ev.congr (f := fun k => b_.j0 k ax false c.f0 c.f1.f0 c.f1.f1 c.f1.f2 c.f1.f3 c.f2 c.f3) (fun k => ?_) (Ev.step (f := fun k => (kJ.f k c.f0 c.f1.f0 c.f1.f1 c.f1.f2 c.f1.f3 c.f2 c.f3 ax).bind fun t => some (wrap64 (aV ax c.f1 - t))) (fun k => ?_) (Ev.bind (Vy ax (sz c) c (Nat.le_refl _) hz) (Ev.now _)))
   ·unfold b_.f
    rw [ha]
    simp only [Option.bind_some, if_true]
    rw [Eu c hz, ht]
    rfl
   ·simp only [b_.j0]
    rw [if_neg (by simp), Jq c.f1 ax]
    rfl
 ·rw [if_neg (fun h => hax h.1)]
  refine Ev.congr (f := fun k => b_.j0 k ax true c.f0 c.f1.f0 c.f1.f1 c.f1.f2 c.f1.f3 c.f2 c.f3) (fun k => ?_) no
  unfold b_.f jX.f
  rw [if_neg (fun h => hax (.inl h)), show (ax == 2) = false from by simp; exact fun h => hax (.inr h)]
  simp only [Option.bind_some, Bool.false_eq_true, if_false]
theorem OZ {l : List ai} {k : ai} (h : k ∈ l) : sz k ≤ dO l := by
 obtain ⟨p, q, e⟩ := List.append_of_mem h
 rw [e, nX, bW]; omega
noncomputable def qN (b : Int) (gs : List Int) : List Int × Bool := by
 classical
 exact if h : ∃ r, Ev (fun k => bF.f k b gs) r then Classical.choose h else ([], false)
theorem DF (b : Int) (gs : List Int) (hl : gs.length ≤ 100000) (h0 : -2147483647 ≤ b) (h1 : b ≤ 2147483647) : Ky b gs (qN b gs) ∧ Ev (fun k => bF.f k b gs) (qN b gs) := by
 obtain ⟨r, hs, he⟩ := Ub b gs hl h0 h1
 have hx : ∃ r, Ev (fun k => bF.f k b gs) r := ⟨r, he⟩
 have e : qN b gs = r := by
  unfold qN
  rw [dif_pos hx]
  exact Ev.unique (Classical.choose_spec hx) he
 rw [e]
 exact ⟨hs, he⟩
theorem ZT {b : Int} {gs : List Int} (hl : gs.length ≤ 100000) (h0 : -2147483647 ≤ b) (h1 : b ≤ 2147483647) (h : (qN b gs).2 = true) : (qN b gs).1.length = gs.length := by
 rcases (DF b gs hl h0 h1).1 with ⟨e, _⟩ | ⟨e, _⟩ | ⟨qs, e, _, _, hq, _⟩
 ·rw [e] at h; cases h
 ·rw [e]; exact rY _ _
 ·rw [e, ← hq]; simp
theorem Uc {b : Int} {gs : List Int} (hl : gs.length ≤ 100000) (h0 : -2147483647 ≤ b) (h1 : b ≤ 2147483647) : ∀ x, x ∈ (qN b gs).1 → -2147483647 ≤ x ∧ x ≤ 2147483647 := by
 intro x hx
 rcases (DF b gs hl h0 h1).1 with ⟨e, _⟩ | ⟨e, hne, _, hb⟩ | ⟨qs, e, _, _, hq, hg, _⟩
 ·rw [e] at hx; cases hx
 ·rw [e] at hx
  simp only [moreL, List.mem_map, List.mem_range] at hx
  obtain ⟨i, hi, rfl⟩ := hx
  have hn : (0 : Int) < (gs.length : Int) := by have := List.length_pos_iff.2 hne; omega
  unfold qL
  have hd : 0 ≤ b / (gs.length : Int) := Int.ediv_nonneg hb (by omega)
  have hm : 0 ≤ b % (gs.length : Int) := Int.emod_nonneg _ (by omega)
  have hdm := Int.mul_ediv_add_emod b (gs.length : Int)
  have hle : b / (gs.length : Int) ≤ (gs.length : Int) * (b / (gs.length : Int)) := by
   have := Int.mul_le_mul_of_nonneg_right (show (1 : Int) ≤ (gs.length : Int) by omega) hd
   omega
  split <;> omega
 ·rw [e] at hx
  simp only [List.mem_map] at hx
  obtain ⟨p, hp, rfl⟩ := hx
  have := hg p hp
  omega
def grow (ax bI : Int) (r : dD) : dD := ⟨r.f0, r.f1, if ax = 1 then wrap64 (r.f2 + bI) else r.f2, if ax = 1 then r.f3 else wrap64 (r.f3 + bI)⟩
noncomputable def Jk (ax k : Int) (l : List ai) (bI : Int) (i : Nat) : Int := if (qN bI (l.map (aU ax))).2 = true ∧ fG ax k = true then rd (qN bI (l.map (aU ax))).1 (i : Int) else bI
mutual
noncomputable def fF (ax : Int) : ai → Int → ai
 | ⟨k, r, id, l⟩, b => ⟨k, grow ax b r, id, kK ax l (Jk ax k l b) 0⟩
noncomputable def kK (ax : Int) : List ai → (Nat → Int) → Nat → List ai
 | [], _, _ => []
 | k :: ks, ns, i => fF ax k (ns i) :: kK ax ks ns (i + 1)
end
theorem yE (ax : Int) (c : ai) (b : Int) : fF ax c b = ⟨c.f0, grow ax b c.f1, c.f2, kK ax c.f3 (Jk ax c.f0 c.f3 b) 0⟩ := by cases c; simp [fF]
theorem rM (ax : Int) (ns : Nat → Int) (i : Nat) : kK ax [] ns i = [] := by simp [kK]
theorem uP (ax : Int) (k : ai) (ks : List ai) (ns : Nat → Int) (i : Nat) : kK ax (k :: ks) ns i = fF ax k (ns i) :: kK ax ks ns (i + 1) := by simp [kK]
theorem yI (ax : Int) : ∀ (l : List ai) (ns : Nat → Int) (i : Nat), (kK ax l ns i).length = l.length := by
 intro l
 induction l with
 | nil => intro ns i; rw [rM]
 | cons k ks ih => intro ns i; rw [uP, List.length_cons, List.length_cons, ih]
theorem Rn (ax : Int) (k : ai) : ∀ (l : List ai) (ns : Nat → Int) (i : Nat), kK ax (l ++ [k]) ns i = kK ax l ns i ++ [fF ax k (ns (i + l.length))] := by
 intro l
 induction l with
 | nil => intro ns i; simp [kK]
 | cons x xs ih => intro ns i; rw [List.cons_append, uP, uP, ih, List.cons_append, List.length_cons, show i + 1 + xs.length = i + (xs.length + 1) by omega]
theorem XK (ax : Int) (ns : Nat → Int) (pre : List ai) (k : ai) (rest : List ai) : (kK ax pre ns 0 ++ k :: rest).set pre.length (fF ax k (ns pre.length)) = kK ax (pre ++ [k]) ns 0 ++ rest := by
 rw [Rn, List.append_assoc, List.set_append_right _ _ (by rw [yI]; exact Nat.le_refl _), yI, Nat.sub_self, List.set_cons_zero, Nat.zero_add]
 rfl
theorem abb (ax : Int) (ns : Nat → Int) (pre : List ai) (k : ai) (rest : List ai) : az (kK ax pre ns 0 ++ k :: rest) (pre.length : Int) = k := by
 have := lN (kK ax pre ns 0) k rest
 rw [yI] at this
 exact this
theorem abd (ax : Int) : ∀ (N : Nat), (∀ c : ai, sz c ≤ N → ∀ b, sz (fF ax c b) = sz c) ∧ (∀ l : List ai, dO l ≤ N → ∀ ns i, dO (kK ax l ns i) = dO l) := by
 intro N
 induction N with
 | zero => exact ⟨fun c h => by rw [df] at h; omega, fun l h ns i => by cases l with
  | nil => rw [rM]
  | cons x xs => rw [bW] at h; have := df x; omega⟩
 | succ N ih =>
  have hC : ∀ c : ai, sz c ≤ N + 1 → ∀ b, sz (fF ax c b) = sz c := fun c h b => by
   rw [yE, df, df c]
   show 1 + dO (kK ax c.f3 _ 0) = _
   rw [ih.2 c.f3 (by rw [df] at h; omega)]
  refine ⟨hC, fun l => ?_⟩
  induction l with
  | nil => intro _ ns i; rw [rM]
  | cons x xs ihl =>
   intro h ns i
   rw [uP, bW, bW]
   rw [bW] at h
   rw [hC x (by omega), ihl (by omega)]
def pI.f (l0 : List (ai)) : Option (List ai) := if l0.length ≤ 1000000 then some l0 else none
theorem pI.calls (Q_ : Nat → Prop) (A0 : Option Addr) (c0 : Nat) (l0 : List (ai)) (r : List ai) (w : World) (hs0 : Kd.V k26 26 w w.heap.size (fun k_ => Q_ k_) (.slice A0 l0.length c0) l0) (h : pI.f l0 = some r) :
  Calls Try.prog 137 #[.slice A0 l0.length c0] w fun e w' => ∃ uZ : Value, e = .returned (uZ) ∧ Kd.N k26 26 w' w.heap.size (fun k_ => (Q_ k_ ∨ w.heap.size ≤ k_)) uZ r ∧ Below w.heap.size w w' := by
 unfold pI.f at h
 split at h
 ·rename_i hl
  injection h with h
  subst h
  have HR := ae.mk (Kd.Rk hs0)
  have HL := ae.mk hl
  clear hl
  cases A0 with
  | none =>
   have heq : ∀ W : World, (binOp .eql 24 (.slice none l0.length c0) (.slice none 0 0)).run Try.prog W = .ok (.bool true) W := fun W => Lib.run_eql_slice_nil W 24 26 none l0.length c0 0 0 Try.underlying24
   have e0 : l0 = [] := by
    cases l0 with
    | nil => rfl
    | cons x xs =>
     obtain ⟨ad, h1, _⟩ := (Kd.FO HR.out).2.2 (by simp)
     cases h1
   have E0 := ae.mk e0
   clear hs0 e0
   go_enter Try.func137, Try.ntmps137
   go_wp2
   go_ret
   exact ⟨_, rfl, by rw [E0.out]; exact Kd.yu _ _ _ _ _, Below.refl _ _⟩
  | some ad =>
   have heq : ∀ W : World, (binOp .eql 24 (.slice (some ad) l0.length c0) (.slice none 0 0)).run Try.prog W = .ok (.bool false) W := fun W => Lib.run_eql_slice_nil W 24 26 (some ad) l0.length c0 0 0 Try.underlying24
   clear hs0
   go_enter Try.func137, Try.ntmps137
   go_wp2_with (first | ((with_reducible refine aA (N := 5) rfl ?_); refine Kd.yt k26 w.heap.size 26 ?hg (N' := 5) ?hd (xs := ([] : List ai)) (inner := []) (ok := fun k_ => (Q_ k_ ∨ w.heap.size ≤ k_)) (fE := fun _ => False) ?hr ?hp (fun _ hk => hk.elim) (.inr (Nat.le_refl _)) (Below.refl _ _) (Nat.le_refl _) (by simp) ?_; (case hd => rfl); (case hg => rfl); (case hr => first | (go_simp; done) | (go_simp; rfl)); (case hp => exact bV.none _ _); intro v5 w5 ho hb nD jc; clear nD; have HO := ae.mk ho; have HB := ae.mk hb; have HF := ae.mk (Kd.qG (Kd.JU (v := v5) HR.out (fun k hk => by obtain ⟨b, h1, h2⟩ := jc; rw [h1] at hk; cases hk; exact h2) hb) (fun k hk => hk)); clear ho hb jc; obtain ⟨Ao, co, eo⟩ := Kd.jm HO.out; subst eo) | ((with_reducible refine vT (b := .append) (xs := #[.tmp 5, .tmp 6]) rfl ?_); at_builtin; refine Kd.BV k26 (w0 := w) w.heap.size rfl (.tmp 5) (.tmp 6) 24 26 (.agg #[(.int .u8 0), (.int .i64 0), (.int .i64 0), (.int .i64 0), (.int .i64 0), (.int .i64 0), (.slice none 0 0)]) 72 rfl Try.underlying24 info26 rfl (by decide) (by omega) (.slice Ao ([] : List ai).length co) [] l0 _ _ _ (fun k_ => (Q_ k_ ∨ w.heap.size ≤ k_)) (fun k_ => Q_ k_ ∧ some k_ ≠ (Value.slice Ao ([] : List ai).length co).ownBlock) rfl rfl ?aO ?aR (fun _ h => ⟨.inl h.1, h.2⟩) (fun k hk => .inr (Nat.le_trans (dR HB.out) hk)) ?aB ?aS ?aL ?_; (case aO => exact HO.out); (case aR => exact HF.out); (case aB => exact HB.out); (case aS => exact dR HB.out); (case aL => (have := HL.out; simp only [List.length_nil]; omega)); intro v7 w7 h1 h2 h3_ h4_; clear h3_ h4_; have HO7 := ae.mk h1; have HB7 := ae.mk h2; clear h1 h2 HO HB HF))
   go_wp2
   go_ret
   exact ⟨_, rfl, HO7.out, HB7.out⟩
 ·exact absurd h (by simp)
def zh (a : Int) (k : ai) (x : Int) : Int := if a = 2 then wrap64 (x + wrap64 (k.f1.f2 + 1)) else x
def zi (a : Int) (k : ai) (y : Int) : Int := if a = 2 then y else if a = 3 then wrap64 (y + wrap64 (k.f1.f3 + 1)) else y
mutual
def dA : ai → Int → Int → ai
 | ⟨a, b, d, l⟩, x, y => ⟨a, ⟨x, y, b.f2, b.f3⟩, d, jf a l x y⟩
def jf : Int → List ai → Int → Int → List ai
 | _, [], _, _ => []
 | a, k :: ks, x, y => dA k x y :: jf a ks (zh a k x) (zi a k y)
end
theorem kY (c : ai) (x y : Int) : dA c x y = ⟨c.f0, ⟨x, y, c.f1.f2, c.f1.f3⟩, c.f2, jf c.f0 c.f3 x y⟩ := by cases c; simp [dA]
theorem lS (a x y : Int) : jf a [] x y = [] := by simp [jf]
theorem mY (a : Int) (k : ai) (ks : List ai) (x y : Int) : jf a (k :: ks) x y = dA k x y :: jf a ks (zh a k x) (zi a k y) := by simp [jf]
def qC (a : Int) (l : List ai) (x : Int) : Int := l.foldl (fun x k => zh a k x) x
def qE (a : Int) (l : List ai) (y : Int) : Int := l.foldl (fun y k => zi a k y) y
theorem TY (a : Int) (k : ai) : ∀ (l : List ai) (x y : Int), jf a (l ++ [k]) x y = jf a l x y ++ [dA k (qC a l x) (qE a l y)] := by
 intro l
 induction l with
 | nil => intro x y; rw [List.nil_append, mY, lS, lS]; rfl
 | cons z zs ih => intro x y; rw [List.cons_append, mY, mY, ih]; rfl
theorem BN (a : Int) (k : ai) (l : List ai) (x : Int) : qC a (l ++ [k]) x = zh a k (qC a l x) := by simp [qC]
theorem BO (a : Int) (k : ai) (l : List ai) (y : Int) : qE a (l ++ [k]) y = zi a k (qE a l y) := by simp [qE]
theorem su (a : Int) : ∀ (l : List ai) (x y : Int), (jf a l x y).length = l.length := by
 intro l
 induction l with
 | nil => intro x y; rw [lS]
 | cons z zs ih => intro x y; rw [mY]; simp [ih]
theorem ZR (a : Int) (pre : List ai) (k : ai) (rest : List ai) (x y : Int) : (jf a pre x y ++ k :: rest).set pre.length (dA k (qC a pre x) (qE a pre y)) = jf a (pre ++ [k]) x y ++ rest := by
 rw [TY, ← su a pre x y, List.set_append_right _ _ (Nat.le_refl _), Nat.sub_self, List.set_cons_zero]
 simp
theorem T_ (a : Int) (pre : List ai) (k : ai) (rest : List ai) (x y : Int) : az (jf a pre x y ++ k :: rest) (pre.length : Int) = k := by
 rw [← su a pre x y]
 simp [az, List.getD_eq_getElem?_getD]
def mJ.T6 : Bool × List (List Nat × List Nat) := (true, [([], []), ([0], [0]), ([], []), ([], []), ([], []), ([], []), ([3, 4, 5], [3, 4, 5]), ([1, 2, 0, 1, 2, 3, 4, 5, 6], [1, 2]), ([7, 6, 6, 0, 1, 2, 3, 4, 5, 6], [6, 7])])
def mJ.B6 : List Nat := [0, 1, 0, 0, 0, 0, 56, 127, 255]
theorem mJ.tab6 : g_ .any (opsOf Try.f66 6) = mJ.T6 := by kernel_rfl
theorem mJ.F5 : iL mJ.T6.2 mJ.B6 = true := by kernel_rfl
theorem aeZ : ∀ (N : Nat) (c : ai), sz c ≤ N → N ≤ 1000000 → ∀ (P : Nat → Prop) (A : Option Addr) (cc : Nat) (x y : Int) (w : World), Kd.V k26 26 w w.heap.size P (.slice A c.f3.length cc) c.f3 →
  Calls Try.prog 66 #[.agg #[.int .u8 c.f0, .int .i64 c.f1.f0, .int .i64 c.f1.f1, .int .i64 c.f1.f2, .int .i64 c.f1.f3, .int .i64 c.f2, .slice A c.f3.length cc], .int .i64 x, .int .i64 y] w
   fun e w' => ∃ v : Value, e = .returned (.agg #[.int .u8 c.f0, .int .i64 x, .int .i64 y, .int .i64 c.f1.f2, .int .i64 c.f1.f3, .int .i64 c.f2, v]) ∧ Kd.N k26 26 w' w.heap.size (fun k => P k ∨ w.heap.size ≤ k) v (jf c.f0 c.f3 x y) ∧ Below w.heap.size w w' := by
 intro N
 induction N with
 | zero => intro c h; rw [df] at h; omega
 | succ N ih =>
  intro c hc hN P A cc x y w hs
  have hsz := df c
  have hlen := jF c.f3
  have IH := ae.mk fun (k : ai) (hk : k ∈ c.f3) => ih k (by
   have : sz k ≤ dO c.f3 := by
    obtain ⟨p, q, e⟩ := List.append_of_mem hk
    rw [e, nX, bW]; omega
   omega) (by omega)
  have JV := ae.mk fun (W : World) (P' : Nat → Prop) (hV : Kd.V k26 26 W w.heap.size P' (.slice A c.f3.length cc) c.f3) => pI.calls P' A cc c.f3 c.f3 W hV (if_pos (by omega))
  have HO := ae.mk hs
  have HL := ae.mk (show c.f3.length ≤ 1000000 by omega)
  have HB := ae.mk (Below.refl w.heap.size w)
  clear ih hs hc hN hsz hlen
  obtain ⟨ck, ⟨cx, cy, cw, ch⟩, aK, l⟩ := c
  simp only [] at HO HL IH JV ⊢
  go_enter Try.func66, Try.ntmps66
  go_upto_region 2 with (first | ((with_reducible refine aA (N := 3) rfl ?_); refine aQ ?hg (N := 3) ?hd (cs := #[.int .u8 ck, .int .i64 cx, .int .i64 cy, .int .i64 cw, .int .i64 ch, .int .i64 aK, .slice A l.length cc]) (t := 26) ?hr ?_; (case hd => rfl); (case hg => rfl); (case hr => (go_simp; done)); intro b3 hg Um hbox hb; have QS := ae.mk (show w.heap.size ≤ b3 by rw [hg]; exact HB.out.size); have kS := ae.mk (ak HB.out hb); have rZ := ae.mk (Kd.iI (Kd.ni HO.out b3 (by rw [hg]; exact Nat.le_refl _)) hb); clear HB HO; have HB := kS; have HO := rZ; clear kS rZ; have cZ := ae.mk hbox; clear hb hbox hg) | ((with_reducible refine aA (N := 6) rfl ?_); refine aQ ?hg (N := 6) ?hd (cs := #[.int .u8 0, .int .i64 0, .int .i64 0, .int .i64 0, .int .i64 0, .int .i64 0, .slice none 0 0]) (t := 26) ?hr ?_; (case hd => rfl); (case hg => rfl); (case hr => (go_simp; done)); intro b6 hg wb6 hbox hb; have Gb6 := ae.mk (show w.heap.size ≤ b6 by rw [hg]; exact HB.out.size); have uC := ae.mk (show b3 ≠ b6 by rw [hg]; exact Nat.ne_of_lt (eY cZ.out)); have kS := ae.mk (ak HB.out hb); have rZ := ae.mk (Kd.iI (Kd.ni HO.out b6 (by rw [hg]; exact Nat.le_refl _)) hb); have gY := ae.mk (aI cZ.out hb); clear HB HO cZ; have HB := kS; have HO := rZ; have cZ := gY; clear kS rZ gY; have fM := ae.mk hbox; clear hb hbox hg) | ((with_reducible refine lh (.store 3 (.tmp 12) (.tmp 9)) rfl ?_); go_loud (refine fV (w0 := w) rfl rfl 3 (.tmp 12) (.tmp 9) rfl (g := b3) (j := 1) (base := w.heap.size) #[.int .u8 ck, .int .i64 x, .int .i64 cy, .int .i64 cw, .int .i64 ch, .int .i64 aK, .slice A l.length cc] (u := .int .i64 x) (bJ := [.int .i64 x]) ?sA ?sX rfl ?sT ?s1 cZ.out ?sJ rfl HB.out HB.out.size QS.out ?_; (case sA => rfl); (case sX => rfl); (case sT => rfl); (case s1 => (simp [Value.oneCell'])); (case sJ => (simp)); intro ws1 hbk hbb hgg; have rZ := ae.mk (Kd.wI HO.out hgg (fun k_ hk e_ => absurd (Option.some.inj e_) hk.1.2)); have gZ := ae.mk (dh fM.out hgg (fun e_ => absurd (Option.some.inj e_) (by exact (fun LH => uC.out LH.symm)))); clear HO fM; have HO := rZ; have fM := gZ; clear rZ gZ; clear cZ HB; have cZ := ae.mk hbk; have HB := ae.mk hbb; clear hbk hbb hgg)) | ((with_reducible refine lh (.store 3 (.tmp 14) (.tmp 10)) rfl ?_); go_loud (refine fV (w0 := w) rfl rfl 3 (.tmp 14) (.tmp 10) rfl (g := b3) (j := 2) (base := w.heap.size) #[.int .u8 ck, .int .i64 x, .int .i64 y, .int .i64 cw, .int .i64 ch, .int .i64 aK, .slice A l.length cc] (u := .int .i64 y) (bJ := [.int .i64 y]) ?sA ?sX rfl ?sT ?s1 cZ.out ?sJ rfl HB.out HB.out.size QS.out ?_; (case sA => rfl); (case sX => rfl); (case sT => rfl); (case s1 => (simp [Value.oneCell'])); (case sJ => (simp)); intro ws2 hbk hbb hgg; have rZ := ae.mk (Kd.wI HO.out hgg (fun k_ hk e_ => absurd (Option.some.inj e_) hk.1.2)); have gZ := ae.mk (dh fM.out hgg (fun e_ => absurd (Option.some.inj e_) (by exact (fun LH => uC.out LH.symm)))); clear HO fM; have HO := rZ; have fM := gZ; clear rZ gZ; clear cZ HB; have cZ := ae.mk hbk; have HB := ae.mk hbb; clear hbk hbb hgg)))
  have F8 : _ = some (Value.slice A l.length cc) := (af cZ.out 6).trans rfl
  go_upto_region 3 with (first | ((with_reducible refine kH (f := 137) rfl ?_); refine nC (some 17) rfl rfl Try.func137 (by kernel_rfl) rfl #[.slice A l.length cc] rfl (by (try simp only [List.map_toArray, List.map_cons, List.map_nil]); rfl) ?_; refine (JV.out _ _ HO.out).mono ?_; rintro e wc1 ⟨v1, rfl, ho, hb⟩; refine ⟨_, rfl, ?_⟩; have HN := ae.mk (Ku ho (eY cZ.out) (eY fM.out) HB.out.size); clear ho HO; obtain ⟨A1, c1, e1⟩ := Kd.jm HN.out; subst e1; have kS := ae.mk (ak HB.out hb); have gY := ae.mk (aI cZ.out hb); have gZ := ae.mk (aI fM.out hb); clear HB cZ fM; have HB := kS; have cZ := gY; have fM := gZ; clear kS gY gZ; clear hb) | ((with_reducible refine lh (.store 24 (.tmp 18) (.tmp 17)) rfl ?_); go_loud (refine fV (w0 := w) rfl rfl 24 (.tmp 18) (.tmp 17) rfl (g := b3) (j := 6) (base := w.heap.size) #[.int .u8 ck, .int .i64 x, .int .i64 y, .int .i64 cw, .int .i64 ch, .int .i64 aK, .slice A1 l.length c1] (u := .slice A1 l.length c1) (bJ := [.slice A1 l.length c1]) ?sA ?sX rfl ?sT ?s1 cZ.out ?sJ rfl HB.out HB.out.size QS.out ?_; (case sA => rfl); (case sX => rfl); (case sT => rfl); (case s1 => (simp [Value.oneCell'])); (case sJ => (simp)); intro ws3 hbk hbb hgg; have gZ := ae.mk (dh fM.out hgg (fun e_ => absurd (Option.some.inj e_) (by exact (fun LH => uC.out LH.symm)))); have kT := ae.mk (Kd.uN HN.out hgg (fun k_ hk e_ => absurd (Option.some.inj e_) hk.1.2)); clear fM HN; have fM := gZ; have HN := kT; clear gZ kT; clear cZ HB; have cZ := ae.mk hbk; have HB := ae.mk hbb; clear hbk hbb hgg)))
  clear F8
  have F8 : _ = some (Value.slice A1 l.length c1) := (af cZ.out 6).trans rfl
  go_wp2
  clear F8
  go_loopg [1, 2, 22] l.length (fun gg v1 v2 v22 wr => ∃ (pre rest : List ai), v1 = .int .i64 (qC ck pre x) ∧ v2 = .int .i64 (qE ck pre y) ∧ v22 = .int .i64 (pre.length : Int) ∧ ae (pre ++ rest = l) ∧ rest.length ≤ gg ∧ ae (Kd.N k26 26 wr w.heap.size (fun q => ((P q ∨ w.heap.size ≤ q) ∧ q ≠ b3) ∧ q ≠ b6) (.slice A1 l.length c1) (jf ck pre x y ++ rest)) ∧ ae (wr.heap[b3]? = some (.cells #[.int .u8 ck, .int .i64 x, .int .i64 y, .int .i64 cw, .int .i64 ch, .int .i64 aK, .slice A1 l.length c1] 26 (0, 0))) ∧ ae (wr.heap[b6]? = some (.cells #[.int .u8 0, .int .i64 0, .int .i64 0, .int .i64 0, .int .i64 0, .int .i64 0, .slice none 0 0] 26 (0, 0))) ∧ ae (Below w.heap.size w wr))
  case atStart => exact ⟨[], l, rfl, rfl, rfl, ⟨rfl⟩, Nat.le_refl _, ⟨by rw [lS]; exact HN.out⟩, cZ, fM, HB⟩
  case round =>
   clear HN cZ fM HB
   obtain ⟨pre, rest, rfl, rfl, rfl, HE, hgg, HN, cZ, fM, HB⟩ := hrel
   cases rest with
   | nil =>
    have hpl : pre = l := by have := HE.out; rwa [List.append_nil] at this
    have hlt : ¬ ((pre.length : Int) < (l.length : Int)) := by rw [hpl]; omega
    have HP := ae.mk hpl
    clear hpl hgg
    have c30 := (af cZ.out 0).trans rfl
    have c31 := (af cZ.out 1).trans rfl
    have c32 := (af cZ.out 2).trans rfl
    have c33 := (af cZ.out 3).trans rfl
    have c34 := (af cZ.out 4).trans rfl
    have c35 := (af cZ.out 5).trans rfl
    have F8 := (af cZ.out 6).trans rfl
    go_wp2_with (((with_reducible refine lh (.store 26 (.tmp 6) (.tmp 54)) rfl ?_); go_loud (refine fV (w0 := w) rfl rfl 26 (.tmp 6) (.tmp 54) rfl (g := b6) (j := 0) (base := w.heap.size) #[.int .u8 ck, .int .i64 x, .int .i64 y, .int .i64 cw, .int .i64 ch, .int .i64 aK, .slice A1 l.length c1] (u := .agg #[.int .u8 ck, .int .i64 x, .int .i64 y, .int .i64 cw, .int .i64 ch, .int .i64 aK, .slice A1 l.length c1]) (bJ := [.int .u8 ck, .int .i64 x, .int .i64 y, .int .i64 cw, .int .i64 ch, .int .i64 aK, .slice A1 l.length c1]) ?sA ?sX rfl ?sT ?s1 fM.out ?sJ rfl HB.out HB.out.size Gb6.out ?_; (case sA => rfl); (case sX => rfl); (case sT => rfl); (case s1 => (simp [Value.oneCell'])); (case sJ => (simp)); intro agI hbk hbb hgg; have kT := ae.mk (Kd.uN HN.out hgg (fun k_ hk e_ => absurd (Option.some.inj e_) hk.2)); have gY := ae.mk (dh cZ.out hgg (fun e_ => absurd (Option.some.inj e_) uC.out)); clear HN cZ; have HN := kT; have cZ := gY; clear kT gY; clear fM HB; have fM := ae.mk hbk; have HB := ae.mk hbb; clear hbk hbb hgg)))
    refine bodyPost_ret (results_cell_row rfl _ _ b6 26 _ (0, 0) _ rfl fM.out Try.underlying26 rfl (by kernel_rfl)) rfl ?_
    refine ⟨_, rfl, ?_, HB.out⟩
    rw [← HP.out]
    have hf := HN.out
    rw [List.append_nil] at hf
    rw [HP.out] at hf ⊢
    exact Kd.iE hf (fun q hq => hq.1.1)
   | cons k rest =>
    have hk : k ∈ l := by rw [← HE.out]; simp
    have hlt : (pre.length : Int) < (l.length : Int) := by rw [← HE.out, List.length_append, List.length_cons]; omega
    have hw : wrap64 ((pre.length : Int) + 1) = ((pre ++ [k]).length : Int) := by rw [List.length_append, List.length_singleton]; unfold wrap64; have := HL.out; omega
    obtain ⟨g, cap, he, hgb, Vq, _⟩ := Kd.xm HN.out (by rw [List.length_append, List.length_cons]; omega)
    injection he with ea en ec
    subst ea
    subst ec
    clear en
    have zV := ae.mk hgb
    obtain ⟨ce, hcl, hM, hcc, hfr⟩ := Kd.xk HN.out z26 (pre.length : Int) (Int.natCast_nonneg _) hlt
    have hrd : (jf ck pre x y ++ k :: rest).getD (pre.length : Int).toNat z26 = k := T_ ck pre k rest x y
    rw [hrd] at hM
    obtain ⟨ua, uc, rfl, ul, ge⟩ := mQ hM
    have HV := ae.mk (show Kd.V k26 26 wr w.heap.size _ (.slice ua k.f3.length uc) k.f3 from Kd.tK ul ge)
    have x0 : wr.cell? ⟨g, pre.length * 7, none⟩ = some (.int .u8 k.f0) := hcc 0 _ rfl
    have x1 : wr.cell? ⟨g, pre.length * 7 + 1, none⟩ = some (.int .i64 k.f1.f0) := hcc 1 _ rfl
    have x2 : wr.cell? ⟨g, pre.length * 7 + 2, none⟩ = some (.int .i64 k.f1.f1) := hcc 2 _ rfl
    have x3 : wr.cell? ⟨g, pre.length * 7 + 3, none⟩ = some (.int .i64 k.f1.f2) := hcc 3 _ rfl
    have x4 : wr.cell? ⟨g, pre.length * 7 + 4, none⟩ = some (.int .i64 k.f1.f3) := hcc 4 _ rfl
    have x5 : wr.cell? ⟨g, pre.length * 7 + 5, none⟩ = some (.int .i64 k.f2) := hcc 5 _ rfl
    have x6 : wr.cell? ⟨g, pre.length * 7 + 6, none⟩ = some (.slice ua k.f3.length uc) := hcc 6 _ rfl
    have HW1 := ae.mk hw
    have HK := ae.mk hk
    have gz := ae.mk hgg
    clear hcl hM hcc hfr hrd ul ge hgb Vq hw hk hgg
    go_upto_region 6 with (first | ((with_reducible refine aA (N := 8) rfl ?_); refine aQ ?hg (N := 8) ?hd (cs := #[.int .u8 0, .int .i64 0, .int .i64 0, .int .i64 0, .int .i64 0, .int .i64 0, .slice none 0 0]) (t := 26) ?hr ?_; (case hd => rfl); (case hg => rfl); (case hr => (go_simp; done)); intro b8 hg wb8 hbox hb; have Gb8 := ae.mk (show w.heap.size ≤ b8 by rw [hg]; exact HB.out.size); have EK := ae.mk (show b3 ≠ b8 by rw [hg]; exact Nat.ne_of_lt (eY cZ.out)); have EL := ae.mk (show b6 ≠ b8 by rw [hg]; exact Nat.ne_of_lt (eY fM.out)); have kS := ae.mk (ak HB.out hb); have kT := ae.mk (Kd.pg (Kd.A_ HN.out b8 (by rw [hg]; exact Nat.le_refl _)) hb); have r_ := ae.mk (Kd.iI (Kd.ni HV.out b8 (by rw [hg]; exact Nat.le_refl _)) hb); have gY := ae.mk (aI cZ.out hb); have gZ := ae.mk (aI fM.out hb); clear HB HN HV cZ fM; have HB := kS; have HN := kT; have HV := r_; have cZ := gY; have fM := gZ; clear kS kT r_ gY gZ; have Kb8 := ae.mk hbox; clear hb hbox hg) | ((with_reducible refine lh (.store 26 (.tmp 8) (.tmp 26)) rfl ?_); go_loud (refine fV (w0 := w) rfl rfl 26 (.tmp 8) (.tmp 26) rfl (g := b8) (j := 0) (base := w.heap.size) #[.int .u8 k.f0, .int .i64 k.f1.f0, .int .i64 k.f1.f1, .int .i64 k.f1.f2, .int .i64 k.f1.f3, .int .i64 k.f2, .slice ua k.f3.length uc] (u := .agg #[.int .u8 k.f0, .int .i64 k.f1.f0, .int .i64 k.f1.f1, .int .i64 k.f1.f2, .int .i64 k.f1.f3, .int .i64 k.f2, .slice ua k.f3.length uc]) (bJ := [.int .u8 k.f0, .int .i64 k.f1.f0, .int .i64 k.f1.f1, .int .i64 k.f1.f2, .int .i64 k.f1.f3, .int .i64 k.f2, .slice ua k.f3.length uc]) ?sA ?sX rfl ?sT ?s1 Kb8.out ?sJ rfl HB.out HB.out.size Gb8.out ?_; (case sA => rfl); (case sX => rfl); (case sT => rfl); (case s1 => (simp [Value.oneCell'])); (case sJ => (simp)); intro Wp hbk hbb hgg; have kT := ae.mk (Kd.uN HN.out hgg (fun k_ hk e_ => absurd (Option.some.inj e_) hk.2)); have r_ := ae.mk (Kd.wI HV.out hgg (fun k_ hk e_ => absurd (Option.some.inj e_) hk.2)); have gY := ae.mk (dh cZ.out hgg (fun e_ => absurd (Option.some.inj e_) EK.out)); have gZ := ae.mk (dh fM.out hgg (fun e_ => absurd (Option.some.inj e_) EL.out)); clear HN HV cZ fM; have HN := kT; have HV := r_; have cZ := gY; have fM := gZ; clear kT r_ gY gZ; clear Kb8 HB; have Kb8 := ae.mk hbk; have HB := ae.mk hbb; clear hbk hbb hgg)))
    clear x0 x1 x2 x3 x4 x5 x6
    have q_ := ae.mk (tZ HB.out)
    clear HB
    have HB := q_
    clear q_
    have q_ := ae.mk (Kd.Q7 HN.out)
    clear HN
    have HN := q_
    clear q_
    have q_ := ae.mk (Kd.KA HV.out)
    clear HV
    have HV := q_
    clear q_
    have q_ := ae.mk (uF cZ.out)
    clear cZ
    have cZ := q_
    clear q_
    have q_ := ae.mk (uF fM.out)
    clear fM
    have fM := q_
    clear q_
    have q_ := ae.mk (uF Kb8.out)
    clear Kb8
    have Kb8 := q_
    clear q_
    refine ik (n := 9) (S := fun w' => w'.heap[b3]? = some (.cells #[.int .u8 ck, .int .i64 x, .int .i64 y, .int .i64 cw, .int .i64 ch, .int .i64 aK, .slice (some ⟨g, 0, none⟩) l.length c1] 26 (0, 0)) ∧ w'.heap[b8]? = some (.cells #[.int .u8 k.f0, .int .i64 k.f1.f0, .int .i64 k.f1.f1, .int .i64 k.f1.f2, .int .i64 k.f1.f3, .int .i64 k.f2, .slice ua k.f3.length uc] 26 (0, 0))) (ds := [8]) #[false, false, false, false, false, false, false, false, false] (by kernel_rfl) rfl rfl ⟨cZ.out, Kb8.out⟩ (fun hHeld => ?_); refine ed mJ.tab6 mJ.F5 (fun aj dW => ?_)
    generalize Wp.drew = wd at HB HN HV cZ fM Kb8 hHeld ⊢
    refine qy (i := 0) (N := some 27) (v := ?_) (a' := ?_) #[true, false, false, false, false, false, false, false, false] rfl rfl (ny aj.out (by kernel_rfl)) (fun _ _ _ h => h) (Or.inl ⟨by rfl, ?_⟩) ?_ ?_
    rotate_left
    ·intro w'; go_simp; with_reducible rfl
    rotate_left
    ·simp only [Act.put, List.setIfInBounds_toArray, List.set_cons_zero, List.set_cons_succ, jD, jC]
     rfl
    refine qy (i := 2) (N := some 29) (v := ?_) (a' := ?_) #[true, false, true, false, false, false, false, false, false] rfl rfl (ny aj.out (by kernel_rfl)) (fun _ _ _ h => h) (Or.inl ⟨by rfl, ?_⟩) ?_ ?_
    rotate_left
    ·intro w'; go_simp; with_reducible rfl
    rotate_left
    ·simp only [Act.put, List.setIfInBounds_toArray, List.set_cons_zero, List.set_cons_succ, jD, jC]
     rfl
    refine qy (i := 4) (N := some 31) (v := ?_) (a' := ?_) #[true, false, true, false, true, false, false, false, false] rfl rfl (ny aj.out (by kernel_rfl)) (fun _ _ _ h => h) (Or.inl ⟨by rfl, ?_⟩) ?_ ?_
    rotate_left
    ·intro w'; go_simp; with_reducible rfl
    rotate_left
    ·simp only [Act.put, List.setIfInBounds_toArray, List.set_cons_zero, List.set_cons_succ, jD, jC]
     rfl
    refine qy (i := 5) (N := some 32) (v := ?_) (a' := ?_) #[true, false, true, false, true, true, false, false, false] rfl rfl (ny aj.out (by kernel_rfl)) (fun _ _ _ h => h) (Or.inl ⟨by rfl, ?_⟩) ?_ ?_
    rotate_left
    ·intro w'; go_simp; with_reducible rfl
    rotate_left
    ·simp only [Act.put, List.setIfInBounds_toArray, List.set_cons_zero, List.set_cons_succ, jD, jC]
     rfl
    refine yD (i := 1) (N := some 28) (v := ?_) (a' := ?_) #[true, true, true, false, true, true, false, false, false] rfl rfl (uH aj.out dW.out (by kernel_rfl)) (fun _ _ _ h => h) (Or.inl ⟨by rfl, ?_⟩) hHeld ?_ ?_
    rotate_left
    ·intro w' hs_
     have c := (af hs_.1 6).trans rfl
     go_simp; with_reducible rfl
    rotate_left
    ·simp only [Act.put, List.setIfInBounds_toArray, List.set_cons_zero, List.set_cons_succ, jD, jC]
     rfl
    refine yD (i := 3) (N := some 30) (v := ?_) (a' := ?_) #[true, true, true, true, true, true, false, false, false] rfl rfl (uH aj.out dW.out (by kernel_rfl)) (fun _ _ _ h => h) (Or.inl ⟨by rfl, ?_⟩) hHeld ?_ ?_
    rotate_left
    ·intro w' hs_
     have c0 := (af hs_.2 0).trans rfl
     have c1 := (af hs_.2 1).trans rfl
     have c2 := (af hs_.2 2).trans rfl
     have c3 := (af hs_.2 3).trans rfl
     have c4 := (af hs_.2 4).trans rfl
     have c5 := (af hs_.2 5).trans rfl
     have c6 := (af hs_.2 6).trans rfl
     go_simp; with_reducible rfl
    rotate_left
    ·simp only [Act.put, List.setIfInBounds_toArray, List.set_cons_zero, List.set_cons_succ, jD, jC]
     rfl
    refine MV (i := 6) (N := some 33) #[true, true, true, true, true, true, true, false, false] rfl rfl (xw aj.out (by kernel_rfl)) (by decide) (fun K hK => ?_)
    refine jB Try.func66 (by kernel_rfl) rfl #[.agg #[.int .u8 k.f0, .int .i64 k.f1.f0, .int .i64 k.f1.f1, .int .i64 k.f1.f2, .int .i64 k.f1.f3, .int .i64 k.f2, .slice ua k.f3.length uc], .int .i64 (qC ck pre x), .int .i64 (qE ck pre y)] (by rfl) rfl rfl (by (try simp only [List.map_toArray, List.map_cons, List.map_nil]); rfl) ?_
    refine (IH.out k HK.out _ ua uc (qC ck pre x) (qE ck pre y) wd HV.out).mono ?_
    rintro e wk ⟨v, rfl, ho, hb⟩
    refine ⟨_, rfl, ?_⟩
    have HE3 := ae.mk (eY cZ.out)
    have HE6 := ae.mk (eY fM.out)
    have HE8 := ae.mk (eY Kb8.out)
    have HEG := ae.mk (Kd.EM HN.out g rfl)
    have HS := ae.mk HB.out.size
    have kS := ae.mk (ak HB.out hb); have kT := ae.mk (Kd.pg HN.out hb); have r_ := ae.mk (Kd.iI HV.out hb); have gY := ae.mk (aI cZ.out hb); have gZ := ae.mk (aI fM.out hb); have Gt := ae.mk (aI Kb8.out hb); clear HB HN HV cZ fM Kb8; have HB := kS; have HN := kT; have HV := r_; have cZ := gY; have fM := gZ; have Kb8 := Gt; clear kS kT r_ gY gZ Gt
    clear HV hb
    obtain ⟨Av, cv, ev⟩ := Kd.jm ho
    subst ev
    have qX := ae.mk ho
    clear ho
    refine hK.out _ _ ⟨cZ.out, Kb8.out⟩ (fun hHeld => ?_)
    clear hK K
    refine lW (a' := ?_) ?_ ?_
    rotate_left
    ·show Act.put _ (some 33) _ = _
     simp only [Act.put, List.setIfInBounds_toArray, List.set_cons_zero, List.set_cons_succ, jD, jC]
     rfl
    refine qy (i := 7) (N := some 34) (v := ?_) (a' := ?_) #[true, true, true, true, true, true, true, true, false] rfl rfl (ny aj.out (by kernel_rfl)) (fun _ _ _ h => h) (Or.inl ⟨by rfl, ?_⟩) ?_ ?_
    rotate_left
    ·intro w'; go_simp; with_reducible rfl
    rotate_left
    ·simp only [Act.put, List.setIfInBounds_toArray, List.set_cons_zero, List.set_cons_succ, jD, jC]
     rfl
    obtain ⟨ce, hcl, hM, hcc, hfr⟩ := Kd.xk HN.out z26 (pre.length : Int) (Int.natCast_nonneg _) hlt
    have hrd : (jf ck pre x y ++ k :: rest).getD (pre.length : Int).toNat z26 = k := T_ ck pre k rest x y
    rw [hrd] at hM
    obtain ⟨ub, ud, rfl, _, _⟩ := mQ hM
    have x0 : wk.cell? ⟨g, pre.length * 7, none⟩ = some (.int .u8 k.f0) := hcc 0 _ rfl
    have f0 : wk.frozen? ⟨g, pre.length * 7, none⟩ = false := hfr 0
    have x1 : wk.cell? ⟨g, pre.length * 7 + 1, none⟩ = some (.int .i64 k.f1.f0) := hcc 1 _ rfl
    have f1 : wk.frozen? ⟨g, pre.length * 7 + 1, none⟩ = false := hfr 1
    have x2 : wk.cell? ⟨g, pre.length * 7 + 2, none⟩ = some (.int .i64 k.f1.f1) := hcc 2 _ rfl
    have f2 : wk.frozen? ⟨g, pre.length * 7 + 2, none⟩ = false := hfr 2
    have x3 : wk.cell? ⟨g, pre.length * 7 + 3, none⟩ = some (.int .i64 k.f1.f2) := hcc 3 _ rfl
    have f3 : wk.frozen? ⟨g, pre.length * 7 + 3, none⟩ = false := hfr 3
    have x4 : wk.cell? ⟨g, pre.length * 7 + 4, none⟩ = some (.int .i64 k.f1.f3) := hcc 4 _ rfl
    have f4 : wk.frozen? ⟨g, pre.length * 7 + 4, none⟩ = false := hfr 4
    have x5 : wk.cell? ⟨g, pre.length * 7 + 5, none⟩ = some (.int .i64 k.f2) := hcc 5 _ rfl
    have f5 : wk.frozen? ⟨g, pre.length * 7 + 5, none⟩ = false := hfr 5
    have x6 : wk.cell? ⟨g, pre.length * 7 + 6, none⟩ = some (.slice ub k.f3.length ud) := hcc 6 _ rfl
    have f6 : wk.frozen? ⟨g, pre.length * 7 + 6, none⟩ = false := hfr 6
    have jq : ∀ q, (((fun q => ((P q ∨ w.heap.size ≤ q) ∧ q ≠ b3) ∧ q ≠ b6) q ∧ q ≠ g) ∧ q ≠ b8) ∨ wd.heap.size ≤ q → ((fun q => ((P q ∨ w.heap.size ≤ q) ∧ q ≠ b3) ∧ q ≠ b6) q ∧ q ≠ b8) ∧ q ≠ g := fun q hq => hq.elim (fun h => ⟨⟨h.1.1, h.2⟩, h.1.2⟩) (fun hn => ⟨⟨⟨⟨.inr (Nat.le_trans HS.out hn), Nat.ne_of_gt (Nat.lt_of_lt_of_le HE3.out hn)⟩, Nat.ne_of_gt (Nat.lt_of_lt_of_le HE6.out hn)⟩, Nat.ne_of_gt (Nat.lt_of_lt_of_le HE8.out hn)⟩, Nat.ne_of_gt (Nat.lt_of_lt_of_le HEG.out hn)⟩)
    have I9 := nS wk _ (dA k (qC ck pre x) (qE ck pre y)) (A6 := Av) (c6 := cv) (by rw [kY]; exact (Kd.iF qX.out).2.1) (by rw [kY]; exact Kd.WH qX.out)
    have hseg := Kd.Py HN.out (pre.length : Int) (Int.natCast_nonneg _) hlt (bJ := [.int .u8 k.f0, .int .i64 (qC ck pre x), .int .i64 (qE ck pre y), .int .i64 k.f1.f2, .int .i64 k.f1.f3, .int .i64 k.f2, .slice Av (jf k.f0 k.f3 (qC ck pre x) (qE ck pre y)).length cv]) (j := 0) hcl hcc (show 0 + 7 ≤ 7 from by decide) (x' := dA k (qC ck pre x) (qE ck pre y)) (by rw [kY] at I9 ⊢; exact I9) jq
    rw [show (jf ck pre x y ++ k :: rest).set (pre.length : Int).toNat (dA k (qC ck pre x) (qE ck pre y)) = jf ck (pre ++ [k]) x y ++ rest from ZR ck pre k rest x y] at hseg
    obtain ⟨w9, Dl⟩ : ∃ w9, w9 = wk.setCells g ((pre.length : Int).toNat * 7 + 0) [.int .u8 k.f0, .int .i64 (qC ck pre x), .int .i64 (qE ck pre y), .int .i64 k.f1.f2, .int .i64 k.f1.f3, .int .i64 k.f2, .slice Av (jf k.f0 k.f3 (qC ck pre x) (qE ck pre y)).length cv] := ⟨_, rfl⟩
    replace hseg : Kd.N k26 26 w9 w.heap.size (fun q => (fun q => ((P q ∨ w.heap.size ≤ q) ∧ q ≠ b3) ∧ q ≠ b6) q ∧ q ≠ b8) (.slice (some ⟨g, 0, none⟩) l.length c1) (jf ck (pre ++ [k]) x y ++ rest) ∧ wk.grownBy w9 (some g) := by rw [Dl]; exact hseg
    have QX := ae.mk (Kd.Q8 hseg.1)
    have JW := ae.mk (grown_below HB.out hseg.2 zV.out HB.out.size)
    have xN := ae.mk (dh cZ.out hseg.2 (fun e_ => (HN.out.1 g rfl).1.1.2 (Option.some.inj e_).symm))
    have Ko := ae.mk (dh fM.out hseg.2 (fun e_ => (HN.out.1 g rfl).1.2 (Option.some.inj e_).symm))
    have EJ := ae.mk (dh Kb8.out hseg.2 (fun e_ => (HN.out.1 g rfl).2 (Option.some.inj e_).symm))
    clear hseg I9 jq hcl hcc hfr hM hrd HN HB cZ fM Kb8 hHeld qX
    refine Qi (i := 8) (N := none) #[true, true, true, true, true, true, true, true, true] rfl rfl (xw aj.out (by kernel_rfl)) (by decide) (fun K hK => ?_)
    refine Gy (w1 := w9) (by rfl) rfl ?_ ?_
    ·rw [Dl]; go_simp; rfl
    refine hK.out _ _ ?_
    clear hK K x0 x1 x2 x3 x4 x5 x6 f0 f1 f2 f3 f4 f5 f6 Dl
    refine ji (fP aj.out (by kernel_rfl)) ?_
    have d0 := (af xN.out 0).trans rfl
    have e0 := (af EJ.out 0).trans rfl
    have d1 := (af xN.out 1).trans rfl
    have e1 := (af EJ.out 1).trans rfl
    have d2 := (af xN.out 2).trans rfl
    have e2 := (af EJ.out 2).trans rfl
    have d3 := (af xN.out 3).trans rfl
    have e3 := (af EJ.out 3).trans rfl
    have d4 := (af xN.out 4).trans rfl
    have e4 := (af EJ.out 4).trans rfl
    have d5 := (af xN.out 5).trans rfl
    have e5 := (af EJ.out 5).trans rfl
    have d6 := (af xN.out 6).trans rfl
    have e6 := (af EJ.out 6).trans rfl
    by_cases k2 : ck = 2
    ·have agu : (ck == 2) = true := beq_iff_eq.mpr k2
     have K2 := ae.mk k2
     clear k2
     have hw := HW1.out
     go_wp2
     clear d0 d1 d2 d3 d4 d5 d6 e0 e1 e2 e3 e4 e5 e6
     go_roundg rest.length
     case measure => exact Nat.lt_of_lt_of_le (Nat.lt_succ_self _) gz.out
     case rel => exact ⟨pre ++ [k], rest, (by rw [BN]; unfold zh; rw [if_pos K2.out]), (by rw [BO]; unfold zi; rw [if_pos K2.out]), (by rw [hw]), ⟨by rw [List.append_assoc]; exact HE.out⟩, Nat.le_refl _, QX, xN, Ko, JW⟩
    ·have agu : (ck == 2) = false := beq_eq_false_iff_ne.mpr k2
     have K2 := ae.mk k2
     clear k2
     by_cases k3 : ck = 3
     ·have agv : (ck == 3) = true := beq_iff_eq.mpr k3
      have K3 := ae.mk k3
      clear k3
      have hw := HW1.out
      go_wp2
      clear d0 d1 d2 d3 d4 d5 d6 e0 e1 e2 e3 e4 e5 e6
      go_roundg rest.length
      case measure => exact Nat.lt_of_lt_of_le (Nat.lt_succ_self _) gz.out
      case rel => exact ⟨pre ++ [k], rest, (by rw [BN]; unfold zh; rw [if_neg K2.out]), (by rw [BO]; unfold zi; rw [if_neg K2.out, if_pos K3.out]), (by rw [hw]), ⟨by rw [List.append_assoc]; exact HE.out⟩, Nat.le_refl _, QX, xN, Ko, JW⟩
     ·have agv : (ck == 3) = false := beq_eq_false_iff_ne.mpr k3
      have K3 := ae.mk k3
      clear k3
      have hw := HW1.out
      go_wp2
      clear d0 d1 d2 d3 d4 d5 d6 e0 e1 e2 e3 e4 e5 e6
      go_roundg rest.length
      case measure => exact Nat.lt_of_lt_of_le (Nat.lt_succ_self _) gz.out
      case rel => exact ⟨pre ++ [k], rest, (by rw [BN]; unfold zh; rw [if_neg K2.out]), (by rw [BO]; unfold zi; rw [if_neg K2.out, if_neg K3.out]), (by rw [hw]), ⟨by rw [List.append_assoc]; exact HE.out⟩, Nat.le_refl _, QX, xN, Ko, JW⟩
def mJ.f (a0 a1 a2 a3 a4 a5 : Int) (l : List ai) (x y : Int) : Option (Int × Int × Int × Int × Int × Int × List ai) := if sz ⟨a0, ⟨a1, a2, a3, a4⟩, a5, l⟩ ≤ 1000000 then some (a0, x, y, a3, a4, a5, jf a0 l x y) else none
section
variable {W : World} {b : Nat} {P : Nat → Prop} {A : Option Addr} {cc : Nat}
abbrev PD (w : World) (P : Nat → Prop) (z : ai) (e : Ending) (w' : World) : Prop := ∃ A c, e = .returned (.agg #[.int .u8 z.f0, .int .i64 z.f1.f0, .int .i64 z.f1.f1, .int .i64 z.f1.f2, .int .i64 z.f1.f3, .int .i64 z.f2, .slice A z.f3.length c]) ∧ Kd.N k26 26 w' w.heap.size (fun k => P k ∨ w.heap.size ≤ k) (.slice A z.f3.length c) z.f3 ∧ Below w.heap.size w w'
theorem AA (c : ai) (ax : Int) (hz : sz c ≤ 1048576) (hV : Kd.V k26 26 W b P (.slice A c.f3.length cc) c.f3) :
  Calls Try.prog 86 #[.agg #[.int .u8 c.f0, .int .i64 c.f1.f0, .int .i64 c.f1.f1, .int .i64 c.f1.f2, .int .i64 c.f1.f3, .int .i64 c.f2, .slice A c.f3.length cc], .int .u8 ax] W fun e w' => e = .returned (.int .i64 (aU ax c)) ∧ Below W.heap.size W w' := by
 obtain ⟨k, hk⟩ := (Ve c hz ax).rounds
 exact b_.calls k _ _ _ _ _ _ P A cc c.f3 ax _ W (f_ hV) hk
theorem XL (c : ai) (ax : Int) (hV : Kd.V k26 26 W b P (.slice A c.f3.length cc) c.f3) :
  Calls Try.prog 99 #[.agg #[.int .u8 c.f0, .int .i64 c.f1.f0, .int .i64 c.f1.f1, .int .i64 c.f1.f2, .int .i64 c.f1.f3, .int .i64 c.f2, .slice A c.f3.length cc], .int .u8 ax] W fun e w' => e = .returned (.bool (fG ax c.f0)) ∧ Below W.heap.size W w' := by
 have h := Kd.jZ hV
 exact qQ.calls _ _ _ _ _ _ A cc c.f3 ax _ W h.2.2 h.2.1 (Bf c ax)
theorem XR (l : List ai) (hl : l.length ≤ 1000000) (hV : Kd.V k26 26 W b P (.slice A l.length cc) l) :
  Calls Try.prog 137 #[.slice A l.length cc] W fun e w' => ∃ A' c', e = .returned (.slice A' l.length c') ∧ Kd.N k26 26 w' W.heap.size (fun k => P k ∨ W.heap.size ≤ k) (.slice A' l.length c') l ∧ Below W.heap.size W w' :=
 (pI.calls P A cc l l W (f_ hV) (if_pos hl)).mono (fun e w' ⟨v, he, hN, hB⟩ => by
  obtain ⟨A', c', rfl⟩ := Kd.jm hN
  exact ⟨A', c', he, hN, hB⟩)
theorem JL (c : ai) (x y : Int) (hz : sz c ≤ 1000000) (hV : Kd.V k26 26 W b P (.slice A c.f3.length cc) c.f3) :
  Calls Try.prog 66 #[.agg #[.int .u8 c.f0, .int .i64 c.f1.f0, .int .i64 c.f1.f1, .int .i64 c.f1.f2, .int .i64 c.f1.f3, .int .i64 c.f2, .slice A c.f3.length cc], .int .i64 x, .int .i64 y] W (PD W P (dA c x y)) :=
 (aeZ 1000000 c hz (Nat.le_refl _) P A cc x y W (f_ hV)).mono (fun e w' ⟨v, he, hN, hB⟩ => by
  rw [kY]
  obtain ⟨A', c', rfl⟩ := Kd.jm hN
  exact ⟨A', c', he, hN, hB⟩)
theorem Wh (b : Int) (gs : List Int) (hl : gs.length ≤ 100000) (h0 : -2147483647 ≤ b) (h1 : b ≤ 2147483647) (hC : Kd.C (Kd.int .i64) W A gs.length gs) (hc : gs.length ≤ cc) :
  Calls Try.prog 49 #[.int .i64 b, .slice A gs.length cc] W fun e w' => ∃ A' c', e = .returned (.tuple #[.slice A' (qN b gs).1.length c', .bool (qN b gs).2]) ∧ (Kd.int .i64).R 3 w' W.heap.size (fun _ => True) (.slice A' (qN b gs).1.length c') (qN b gs).1 ∧ Below W.heap.size W w' := by
 obtain ⟨k, hk⟩ := (DF b gs hl h0 h1).2.rounds
 exact (bF.calls k b A cc gs _ _ W hC hc hk).mono (fun e w' ⟨v, he, hR, hB⟩ => by
  obtain ⟨A', c', rfl⟩ := Kd.gQ hR
  exact ⟨A', c', he, hR, hB⟩)
end
def ae1.T6 : Bool × List (List Nat × List Nat) := (true, [([], []), ([0], [0]), ([], []), ([1, 2], [1, 2]), ([3], [3]), ([], []), ([5], [5]), ([], []), ([6, 7], [6, 7]), ([8], [8]), ([4, 9], [4, 9]), ([10], [10])])
def ae1.B6 : List Nat := [0, 1, 0, 7, 15, 0, 32, 0, 224, 480, 1023, 2047]
theorem GY : ∀ (is : List Int) (c x : ai), oh c is = some x → sz x ≤ sz c := by
 intro is
 induction is with
 | nil => intro c x h; injection h with h; rw [h]; exact Nat.le_refl _
 | cons i is ih =>
  intro c x h
  simp only [oh] at h
  split at h
  ·cases h
  ·rename_i hi
   have h1 := ih _ x h
   have h2 := xB (Gv c.f3 i (by omega) (by omega))
   have h3 := df c
   omega
theorem Aj (id : Int) : ∀ (N : Nat), (∀ c : ai, sz c ≤ N → ∀ p, fA id c = some p → ∃ z, oh c p = some z ∧ z.f0 = 1 ∧ z.f2 = id) ∧
  (∀ l : List ai, dO l ≤ N → ∀ (pre : List ai) (p : List Int), oC id pre.length l = some p → ∃ i is z, p = i :: is ∧ 0 ≤ i ∧ i < ((pre ++ l).length : Int) ∧ oh (az (pre ++ l) i) is = some z ∧ z.f0 = 1 ∧ z.f2 = id) := by
 intro N
 induction N with
 | zero =>
  refine ⟨fun c h => ?_, fun l h => ?_⟩
  ·rw [df] at h; omega
  ·cases l with
   | nil => intro pre p hp; rw [rW] at hp; cases hp
   | cons z zs => rw [bW, df] at h; omega
 | succ N ih =>
  have hC : ∀ c : ai, sz c ≤ N + 1 → ∀ p, fA id c = some p → ∃ z, oh c p = some z ∧ z.f0 = 1 ∧ z.f2 = id := by
   intro c h p hp
   have hs := df c
   rw [Bo] at hp
   split at hp
   ·rename_i hq
    injection hp with hp
    subst hp
    exact ⟨c, rfl, hq.1, hq.2⟩
   ·obtain ⟨i, is, z, rfl, h0, h1, h2, h3⟩ := ih.2 c.f3 (by omega) [] p hp
    refine ⟨z, ?_, h3⟩
    rw [List.nil_append] at h1 h2
    simp only [oh]
    rw [if_neg (by omega)]
    exact h2
  refine ⟨hC, fun l => ?_⟩
  induction l with
  | nil => intro _ pre p hp; rw [rW] at hp; cases hp
  | cons x xs ihl =>
   intro h pre p hp
   rw [bW] at h
   rw [oD] at hp
   cases hx : fA id x with
   | some q =>
    rw [hx] at hp
    injection hp with hp
    obtain ⟨z, hz, h3⟩ := hC x (by omega) q hx
    refine ⟨(pre.length : Int), q, z, hp.symm, by omega, by rw [List.length_append, List.length_cons]; omega, ?_, h3⟩
    rw [lN]
    exact hz
   | none =>
    rw [hx] at hp
    have e := ihl (by omega) (pre ++ [x]) p (by rw [List.length_append]; exact hp)
    rwa [List.append_assoc] at e
def mM.T5 : Bool × List (List Nat × List Nat) := (true, [([], []), ([0], [0]), ([], []), ([], []), ([3], [3]), ([1, 2, 0, 1, 2, 3, 4], [1, 2]), ([5, 4, 4, 0, 1, 2, 3, 4], [4, 5])])
def mM.B5 : List Nat := [0, 1, 0, 0, 8, 31, 63]
theorem mM.Iu : g_ .any (opsOf Try.f151 5) = mM.T5 := by kernel_rfl
theorem mM.DX : iL mM.T5.2 mM.B5 = true := by kernel_rfl
theorem EU : ∀ (N : Nat) (c : ai), sz c ≤ N → N ≤ 1000000 → ∀ (P : Nat → Prop) (A : Option Addr) (cc : Nat) (w : World), Kd.V k26 26 w w.heap.size P (.slice A c.f3.length cc) c.f3 →
  Calls Try.prog 151 #[.agg #[.int .u8 c.f0, .int .i64 c.f1.f0, .int .i64 c.f1.f1, .int .i64 c.f1.f2, .int .i64 c.f1.f3, .int .i64 c.f2, .slice A c.f3.length cc]] w
   fun e w' => ∃ v : Value, e = .returned (.agg #[.int .u8 c.f0, .int .i64 c.f1.f0, .int .i64 c.f1.f1, .int .i64 c.f1.f2, .int .i64 c.f1.f3, .int .i64 c.f2, v]) ∧ Kd.N k26 26 w' w.heap.size (fun k => P k ∨ w.heap.size ≤ k) v c.f3 ∧ Below w.heap.size w w' := by
 intro N
 induction N with
 | zero => intro c h; rw [df] at h; omega
 | succ N ih =>
  intro c hc hN P A cc w hs
  have hsz := df c
  have hlen := jF c.f3
  have IH := ae.mk fun (k : ai) (hk : k ∈ c.f3) => ih k (by
   have : sz k ≤ dO c.f3 := by
    obtain ⟨p, q, e⟩ := List.append_of_mem hk
    rw [e, nX, bW]; omega
   omega) (by omega)
  have JV := ae.mk fun (W : World) (P' : Nat → Prop) (hV : Kd.V k26 26 W w.heap.size P' (.slice A c.f3.length cc) c.f3) => pI.calls P' A cc c.f3 c.f3 W hV (if_pos (by omega))
  have HO := ae.mk hs
  have HL := ae.mk (show c.f3.length ≤ 1000000 by omega)
  have HB := ae.mk (Below.refl w.heap.size w)
  clear ih hs hc hN hsz hlen
  obtain ⟨ck, ⟨cx, cy, cw, ch⟩, aK, l⟩ := c
  simp only [] at HO HL IH JV ⊢
  go_enter Try.func151, Try.ntmps151
  go_upto_region 1 with (first | ((with_reducible refine aA (N := 1) rfl ?_); refine aQ ?hg (N := 1) ?hd (cs := #[.int .u8 ck, .int .i64 cx, .int .i64 cy, .int .i64 cw, .int .i64 ch, .int .i64 aK, .slice A l.length cc]) (t := 26) ?hr ?_; (case hd => rfl); (case hg => rfl); (case hr => (go_simp; done)); intro b3 hg Um hbox hb; have QS := ae.mk (show w.heap.size ≤ b3 by rw [hg]; exact HB.out.size); have kS := ae.mk (ak HB.out hb); have rZ := ae.mk (Kd.iI (Kd.ni HO.out b3 (by rw [hg]; exact Nat.le_refl _)) hb); clear HB HO; have HB := kS; have HO := rZ; clear kS rZ; have cZ := ae.mk hbox; clear hb hbox hg) | ((with_reducible refine aA (N := 2) rfl ?_); refine aQ ?hg (N := 2) ?hd (cs := #[.int .u8 0, .int .i64 0, .int .i64 0, .int .i64 0, .int .i64 0, .int .i64 0, .slice none 0 0]) (t := 26) ?hr ?_; (case hd => rfl); (case hg => rfl); (case hr => (go_simp; done)); intro b6 hg wb6 hbox hb; have Gb6 := ae.mk (show w.heap.size ≤ b6 by rw [hg]; exact HB.out.size); have uC := ae.mk (show b3 ≠ b6 by rw [hg]; exact Nat.ne_of_lt (eY cZ.out)); have kS := ae.mk (ak HB.out hb); have rZ := ae.mk (Kd.iI (Kd.ni HO.out b6 (by rw [hg]; exact Nat.le_refl _)) hb); have gY := ae.mk (aI cZ.out hb); clear HB HO cZ; have HB := kS; have HO := rZ; have cZ := gY; clear kS rZ gY; have fM := ae.mk hbox; clear hb hbox hg))
  have F8 : _ = some (Value.slice A l.length cc) := (af cZ.out 6).trans rfl
  go_upto_region 2 with (first | ((with_reducible refine kH (f := 137) rfl ?_); refine nC (some 7) rfl rfl Try.func137 (by kernel_rfl) rfl #[.slice A l.length cc] rfl (by (try simp only [List.map_toArray, List.map_cons, List.map_nil]); rfl) ?_; refine (JV.out _ _ HO.out).mono ?_; rintro e wc1 ⟨v1, rfl, ho, hb⟩; refine ⟨_, rfl, ?_⟩; have HN := ae.mk (Ku ho (eY cZ.out) (eY fM.out) HB.out.size); clear ho HO; obtain ⟨A1, c1, e1⟩ := Kd.jm HN.out; subst e1; have kS := ae.mk (ak HB.out hb); have gY := ae.mk (aI cZ.out hb); have gZ := ae.mk (aI fM.out hb); clear HB cZ fM; have HB := kS; have cZ := gY; have fM := gZ; clear kS gY gZ; clear hb) | ((with_reducible refine lh (.store 24 (.tmp 8) (.tmp 7)) rfl ?_); go_loud (refine fV (w0 := w) rfl rfl 24 (.tmp 8) (.tmp 7) rfl (g := b3) (j := 6) (base := w.heap.size) #[.int .u8 ck, .int .i64 cx, .int .i64 cy, .int .i64 cw, .int .i64 ch, .int .i64 aK, .slice A1 l.length c1] (u := .slice A1 l.length c1) (bJ := [.slice A1 l.length c1]) ?sA ?sX rfl ?sT ?s1 cZ.out ?sJ rfl HB.out HB.out.size QS.out ?_; (case sA => rfl); (case sX => rfl); (case sT => rfl); (case s1 => (simp [Value.oneCell'])); (case sJ => (simp)); intro ws1 hbk hbb hgg; have gZ := ae.mk (dh fM.out hgg (fun e_ => absurd (Option.some.inj e_) (by exact (fun LH => uC.out LH.symm)))); have kT := ae.mk (Kd.uN HN.out hgg (fun k_ hk e_ => absurd (Option.some.inj e_) hk.1.2)); clear fM HN; have fM := gZ; have HN := kT; clear gZ kT; clear cZ HB; have cZ := ae.mk hbk; have HB := ae.mk hbb; clear hbk hbb hgg)))
  clear F8
  have F8 : _ = some (Value.slice A1 l.length c1) := (af cZ.out 6).trans rfl
  go_wp2
  clear F8
  go_loopg [12] l.length (fun gg v22 wr => ∃ (pre rest : List ai), v22 = .int .i64 (pre.length : Int) ∧ ae (pre ++ rest = l) ∧ rest.length ≤ gg ∧ ae (Kd.N k26 26 wr w.heap.size (fun q => ((P q ∨ w.heap.size ≤ q) ∧ q ≠ b3) ∧ q ≠ b6) (.slice A1 l.length c1) l) ∧ ae (wr.heap[b3]? = some (.cells #[.int .u8 ck, .int .i64 cx, .int .i64 cy, .int .i64 cw, .int .i64 ch, .int .i64 aK, .slice A1 l.length c1] 26 (0, 0))) ∧ ae (wr.heap[b6]? = some (.cells #[.int .u8 0, .int .i64 0, .int .i64 0, .int .i64 0, .int .i64 0, .int .i64 0, .slice none 0 0] 26 (0, 0))) ∧ ae (Below w.heap.size w wr))
  case atStart => exact ⟨[], l, rfl, ⟨rfl⟩, Nat.le_refl _, HN, cZ, fM, HB⟩
  case round =>
   clear HN cZ fM HB
   obtain ⟨pre, rest, rfl, HE, hgg, HN, cZ, fM, HB⟩ := hrel
   cases rest with
   | nil =>
    have hpl : pre = l := by have := HE.out; rwa [List.append_nil] at this
    have hlt : ¬ ((pre.length : Int) < (l.length : Int)) := by rw [hpl]; omega
    clear hpl hgg
    have c30 := (af cZ.out 0).trans rfl
    have c31 := (af cZ.out 1).trans rfl
    have c32 := (af cZ.out 2).trans rfl
    have c33 := (af cZ.out 3).trans rfl
    have c34 := (af cZ.out 4).trans rfl
    have c35 := (af cZ.out 5).trans rfl
    have F8 := (af cZ.out 6).trans rfl
    go_wp2_with (((with_reducible refine lh (.store 26 (.tmp 2) (.tmp 24)) rfl ?_); go_loud (refine fV (w0 := w) rfl rfl 26 (.tmp 2) (.tmp 24) rfl (g := b6) (j := 0) (base := w.heap.size) #[.int .u8 ck, .int .i64 cx, .int .i64 cy, .int .i64 cw, .int .i64 ch, .int .i64 aK, .slice A1 l.length c1] (u := .agg #[.int .u8 ck, .int .i64 cx, .int .i64 cy, .int .i64 cw, .int .i64 ch, .int .i64 aK, .slice A1 l.length c1]) (bJ := [.int .u8 ck, .int .i64 cx, .int .i64 cy, .int .i64 cw, .int .i64 ch, .int .i64 aK, .slice A1 l.length c1]) ?sA ?sX rfl ?sT ?s1 fM.out ?sJ rfl HB.out HB.out.size Gb6.out ?_; (case sA => rfl); (case sX => rfl); (case sT => rfl); (case s1 => (simp [Value.oneCell'])); (case sJ => (simp)); intro agI hbk hbb hgg; have kT := ae.mk (Kd.uN HN.out hgg (fun k_ hk e_ => absurd (Option.some.inj e_) hk.2)); have gY := ae.mk (dh cZ.out hgg (fun e_ => absurd (Option.some.inj e_) uC.out)); clear HN cZ; have HN := kT; have cZ := gY; clear kT gY; clear fM HB; have fM := ae.mk hbk; have HB := ae.mk hbb; clear hbk hbb hgg)))
    refine bodyPost_ret (results_cell_row rfl _ _ b6 26 _ (0, 0) _ rfl fM.out Try.underlying26 rfl (by kernel_rfl)) rfl ?_
    exact ⟨_, rfl, Kd.iE HN.out (fun q hq => hq.1.1), HB.out⟩
   | cons k rest =>
    have hk : k ∈ l := by rw [← HE.out]; simp
    have hlt : (pre.length : Int) < (l.length : Int) := by rw [← HE.out, List.length_append, List.length_cons]; omega
    have hw : wrap64 ((pre.length : Int) + 1) = ((pre ++ [k]).length : Int) := by rw [List.length_append, List.length_singleton]; unfold wrap64; have := HL.out; omega
    obtain ⟨g, cap, he, hgb, Vq, _⟩ := Kd.xm HN.out (by omega)
    injection he with ea en ec
    subst ea
    subst ec
    clear en
    have zV := ae.mk hgb
    obtain ⟨ce, hcl, hM, hcc, hfr⟩ := Kd.xk HN.out z26 (pre.length : Int) (Int.natCast_nonneg _) hlt
    have hrd : l.getD (pre.length : Int).toNat z26 = k := by rw [← HE.out, Int.toNat_natCast]; simp [List.getD_eq_getElem?_getD]
    rw [hrd] at hM
    obtain ⟨ua, uc, rfl, ul, ge⟩ := mQ hM
    have HV := ae.mk (show Kd.V k26 26 wr w.heap.size _ (.slice ua k.f3.length uc) k.f3 from Kd.tK ul ge)
    have HRD := ae.mk hrd
    have x0 : wr.cell? ⟨g, pre.length * 7, none⟩ = some (.int .u8 k.f0) := hcc 0 _ rfl
    have x1 : wr.cell? ⟨g, pre.length * 7 + 1, none⟩ = some (.int .i64 k.f1.f0) := hcc 1 _ rfl
    have x2 : wr.cell? ⟨g, pre.length * 7 + 2, none⟩ = some (.int .i64 k.f1.f1) := hcc 2 _ rfl
    have x3 : wr.cell? ⟨g, pre.length * 7 + 3, none⟩ = some (.int .i64 k.f1.f2) := hcc 3 _ rfl
    have x4 : wr.cell? ⟨g, pre.length * 7 + 4, none⟩ = some (.int .i64 k.f1.f3) := hcc 4 _ rfl
    have x5 : wr.cell? ⟨g, pre.length * 7 + 5, none⟩ = some (.int .i64 k.f2) := hcc 5 _ rfl
    have x6 : wr.cell? ⟨g, pre.length * 7 + 6, none⟩ = some (.slice ua k.f3.length uc) := hcc 6 _ rfl
    have HW1 := ae.mk hw
    have HK := ae.mk hk
    have gz := ae.mk hgg
    clear hcl hM hcc hfr hrd ul ge hgb Vq hw hk hgg
    go_upto_region 5 with (first | ((with_reducible refine aA (N := 4) rfl ?_); refine aQ ?hg (N := 4) ?hd (cs := #[.int .u8 0, .int .i64 0, .int .i64 0, .int .i64 0, .int .i64 0, .int .i64 0, .slice none 0 0]) (t := 26) ?hr ?_; (case hd => rfl); (case hg => rfl); (case hr => (go_simp; done)); intro b8 hg wb8 hbox hb; have Gb8 := ae.mk (show w.heap.size ≤ b8 by rw [hg]; exact HB.out.size); have EK := ae.mk (show b3 ≠ b8 by rw [hg]; exact Nat.ne_of_lt (eY cZ.out)); have EL := ae.mk (show b6 ≠ b8 by rw [hg]; exact Nat.ne_of_lt (eY fM.out)); have kS := ae.mk (ak HB.out hb); have kT := ae.mk (Kd.pg (Kd.A_ HN.out b8 (by rw [hg]; exact Nat.le_refl _)) hb); have r_ := ae.mk (Kd.iI (Kd.ni HV.out b8 (by rw [hg]; exact Nat.le_refl _)) hb); have gY := ae.mk (aI cZ.out hb); have gZ := ae.mk (aI fM.out hb); clear HB HN HV cZ fM; have HB := kS; have HN := kT; have HV := r_; have cZ := gY; have fM := gZ; clear kS kT r_ gY gZ; have Kb8 := ae.mk hbox; clear hb hbox hg) | ((with_reducible refine lh (.store 26 (.tmp 4) (.tmp 16)) rfl ?_); go_loud (refine fV (w0 := w) rfl rfl 26 (.tmp 4) (.tmp 16) rfl (g := b8) (j := 0) (base := w.heap.size) #[.int .u8 k.f0, .int .i64 k.f1.f0, .int .i64 k.f1.f1, .int .i64 k.f1.f2, .int .i64 k.f1.f3, .int .i64 k.f2, .slice ua k.f3.length uc] (u := .agg #[.int .u8 k.f0, .int .i64 k.f1.f0, .int .i64 k.f1.f1, .int .i64 k.f1.f2, .int .i64 k.f1.f3, .int .i64 k.f2, .slice ua k.f3.length uc]) (bJ := [.int .u8 k.f0, .int .i64 k.f1.f0, .int .i64 k.f1.f1, .int .i64 k.f1.f2, .int .i64 k.f1.f3, .int .i64 k.f2, .slice ua k.f3.length uc]) ?sA ?sX rfl ?sT ?s1 Kb8.out ?sJ rfl HB.out HB.out.size Gb8.out ?_; (case sA => rfl); (case sX => rfl); (case sT => rfl); (case s1 => (simp [Value.oneCell'])); (case sJ => (simp)); intro Wp hbk hbb hgg; have kT := ae.mk (Kd.uN HN.out hgg (fun k_ hk e_ => absurd (Option.some.inj e_) hk.2)); have r_ := ae.mk (Kd.wI HV.out hgg (fun k_ hk e_ => absurd (Option.some.inj e_) hk.2)); have gY := ae.mk (dh cZ.out hgg (fun e_ => absurd (Option.some.inj e_) EK.out)); have gZ := ae.mk (dh fM.out hgg (fun e_ => absurd (Option.some.inj e_) EL.out)); clear HN HV cZ fM; have HN := kT; have HV := r_; have cZ := gY; have fM := gZ; clear kT r_ gY gZ; clear Kb8 HB; have Kb8 := ae.mk hbk; have HB := ae.mk hbb; clear hbk hbb hgg)))
    clear x0 x1 x2 x3 x4 x5 x6
    have q_ := ae.mk (tZ HB.out)
    clear HB
    have HB := q_
    clear q_
    have q_ := ae.mk (Kd.Q7 HN.out)
    clear HN
    have HN := q_
    clear q_
    have q_ := ae.mk (Kd.KA HV.out)
    clear HV
    have HV := q_
    clear q_
    have q_ := ae.mk (uF cZ.out)
    clear cZ
    have cZ := q_
    clear q_
    have q_ := ae.mk (uF fM.out)
    clear fM
    have fM := q_
    clear q_
    have q_ := ae.mk (uF Kb8.out)
    clear Kb8
    have Kb8 := q_
    clear q_
    refine ik (n := 7) (S := fun w' => w'.heap[b3]? = some (.cells #[.int .u8 ck, .int .i64 cx, .int .i64 cy, .int .i64 cw, .int .i64 ch, .int .i64 aK, .slice (some ⟨g, 0, none⟩) l.length c1] 26 (0, 0)) ∧ w'.heap[b8]? = some (.cells #[.int .u8 k.f0, .int .i64 k.f1.f0, .int .i64 k.f1.f1, .int .i64 k.f1.f2, .int .i64 k.f1.f3, .int .i64 k.f2, .slice ua k.f3.length uc] 26 (0, 0))) (ds := [6]) #[false, false, false, false, false, false, false] (by kernel_rfl) rfl rfl ⟨cZ.out, Kb8.out⟩ (fun hHeld => ?_); refine ed mM.Iu mM.DX (fun aj dW => ?_)
    generalize Wp.drew = wd at HB HN HV cZ fM Kb8 hHeld ⊢
    refine qy (i := 0) (N := some 17) (v := ?_) (a' := ?_) #[true, false, false, false, false, false, false] rfl rfl (ny aj.out (by kernel_rfl)) (fun _ _ _ h => h) (Or.inl ⟨by rfl, ?_⟩) ?_ ?_
    rotate_left
    ·intro w'; go_simp; with_reducible rfl
    rotate_left
    ·simp only [Act.put, List.setIfInBounds_toArray, List.set_cons_zero, List.set_cons_succ, jD, jC]
     rfl
    refine yD (i := 1) (N := some 18) (v := ?_) (a' := ?_) #[true, true, false, false, false, false, false] rfl rfl (uH aj.out dW.out (by kernel_rfl)) (fun _ _ _ h => h) (Or.inl ⟨by rfl, ?_⟩) hHeld ?_ ?_
    rotate_left
    ·intro w' hs_
     have c := (af hs_.1 6).trans rfl
     go_simp; with_reducible rfl
    rotate_left
    ·simp only [Act.put, List.setIfInBounds_toArray, List.set_cons_zero, List.set_cons_succ, jD, jC]
     rfl
    refine qy (i := 2) (N := some 19) (v := ?_) (a' := ?_) #[true, true, true, false, false, false, false] rfl rfl (ny aj.out (by kernel_rfl)) (fun _ _ _ h => h) (Or.inl ⟨by rfl, ?_⟩) ?_ ?_
    rotate_left
    ·intro w'; go_simp; with_reducible rfl
    rotate_left
    ·simp only [Act.put, List.setIfInBounds_toArray, List.set_cons_zero, List.set_cons_succ, jD, jC]
     rfl
    refine yD (i := 3) (N := some 20) (v := ?_) (a' := ?_) #[true, true, true, true, false, false, false] rfl rfl (uH aj.out dW.out (by kernel_rfl)) (fun _ _ _ h => h) (Or.inl ⟨by rfl, ?_⟩) hHeld ?_ ?_
    rotate_left
    ·intro w' hs_
     have c0 := (af hs_.2 0).trans rfl
     have c1 := (af hs_.2 1).trans rfl
     have c2 := (af hs_.2 2).trans rfl
     have c3 := (af hs_.2 3).trans rfl
     have c4 := (af hs_.2 4).trans rfl
     have c5 := (af hs_.2 5).trans rfl
     have c6 := (af hs_.2 6).trans rfl
     go_simp; with_reducible rfl
    rotate_left
    ·simp only [Act.put, List.setIfInBounds_toArray, List.set_cons_zero, List.set_cons_succ, jD, jC]
     rfl
    refine MV (i := 4) (N := some 21) #[true, true, true, true, true, false, false] rfl rfl (xw aj.out (by kernel_rfl)) (by decide) (fun K hK => ?_)
    refine jB Try.func151 (by kernel_rfl) rfl #[.agg #[.int .u8 k.f0, .int .i64 k.f1.f0, .int .i64 k.f1.f1, .int .i64 k.f1.f2, .int .i64 k.f1.f3, .int .i64 k.f2, .slice ua k.f3.length uc]] (by rfl) rfl rfl (by (try simp only [List.map_toArray, List.map_cons, List.map_nil]); rfl) ?_
    refine (IH.out k HK.out _ ua uc wd HV.out).mono ?_
    rintro e wk ⟨v, rfl, ho, hb⟩
    refine ⟨_, rfl, ?_⟩
    have HE3 := ae.mk (eY cZ.out)
    have HE6 := ae.mk (eY fM.out)
    have HE8 := ae.mk (eY Kb8.out)
    have HEG := ae.mk (Kd.EM HN.out g rfl)
    have HS := ae.mk HB.out.size
    have kS := ae.mk (ak HB.out hb); have kT := ae.mk (Kd.pg HN.out hb); have r_ := ae.mk (Kd.iI HV.out hb); have gY := ae.mk (aI cZ.out hb); have gZ := ae.mk (aI fM.out hb); have Gt := ae.mk (aI Kb8.out hb); clear HB HN HV cZ fM Kb8; have HB := kS; have HN := kT; have HV := r_; have cZ := gY; have fM := gZ; have Kb8 := Gt; clear kS kT r_ gY gZ Gt
    clear HV hb
    obtain ⟨Av, cv, ev⟩ := Kd.jm ho
    subst ev
    have qX := ae.mk ho
    clear ho
    refine hK.out _ _ ⟨cZ.out, Kb8.out⟩ (fun hHeld => ?_)
    clear hK K
    refine lW (a' := ?_) ?_ ?_
    rotate_left
    ·show Act.put _ (some 21) _ = _
     simp only [Act.put, List.setIfInBounds_toArray, List.set_cons_zero, List.set_cons_succ, jD, jC]
     rfl
    refine qy (i := 5) (N := some 22) (v := ?_) (a' := ?_) #[true, true, true, true, true, true, false] rfl rfl (ny aj.out (by kernel_rfl)) (fun _ _ _ h => h) (Or.inl ⟨by rfl, ?_⟩) ?_ ?_
    rotate_left
    ·intro w'; go_simp; with_reducible rfl
    rotate_left
    ·simp only [Act.put, List.setIfInBounds_toArray, List.set_cons_zero, List.set_cons_succ, jD, jC]
     rfl
    refine Qi (i := 6) (N := none) #[true, true, true, true, true, true, true] rfl rfl (xw aj.out (by kernel_rfl)) (by decide) (fun K hK => ?_)
    obtain ⟨ce, hcl, hM, hcc, hfr⟩ := Kd.xk HN.out z26 (pre.length : Int) (Int.natCast_nonneg _) hlt
    rw [HRD.out] at hM
    obtain ⟨ub, ud, rfl, _, _⟩ := mQ hM
    have x0 : wk.cell? ⟨g, pre.length * 7, none⟩ = some (.int .u8 k.f0) := hcc 0 _ rfl
    have f0 : wk.frozen? ⟨g, pre.length * 7, none⟩ = false := hfr 0
    have x1 : wk.cell? ⟨g, pre.length * 7 + 1, none⟩ = some (.int .i64 k.f1.f0) := hcc 1 _ rfl
    have f1 : wk.frozen? ⟨g, pre.length * 7 + 1, none⟩ = false := hfr 1
    have x2 : wk.cell? ⟨g, pre.length * 7 + 2, none⟩ = some (.int .i64 k.f1.f1) := hcc 2 _ rfl
    have f2 : wk.frozen? ⟨g, pre.length * 7 + 2, none⟩ = false := hfr 2
    have x3 : wk.cell? ⟨g, pre.length * 7 + 3, none⟩ = some (.int .i64 k.f1.f2) := hcc 3 _ rfl
    have f3 : wk.frozen? ⟨g, pre.length * 7 + 3, none⟩ = false := hfr 3
    have x4 : wk.cell? ⟨g, pre.length * 7 + 4, none⟩ = some (.int .i64 k.f1.f3) := hcc 4 _ rfl
    have f4 : wk.frozen? ⟨g, pre.length * 7 + 4, none⟩ = false := hfr 4
    have x5 : wk.cell? ⟨g, pre.length * 7 + 5, none⟩ = some (.int .i64 k.f2) := hcc 5 _ rfl
    have f5 : wk.frozen? ⟨g, pre.length * 7 + 5, none⟩ = false := hfr 5
    have x6 : wk.cell? ⟨g, pre.length * 7 + 6, none⟩ = some (.slice ub k.f3.length ud) := hcc 6 _ rfl
    have f6 : wk.frozen? ⟨g, pre.length * 7 + 6, none⟩ = false := hfr 6
    have jq : ∀ q, (((fun q => ((P q ∨ w.heap.size ≤ q) ∧ q ≠ b3) ∧ q ≠ b6) q ∧ q ≠ g) ∧ q ≠ b8) ∨ wd.heap.size ≤ q → ((fun q => ((P q ∨ w.heap.size ≤ q) ∧ q ≠ b3) ∧ q ≠ b6) q ∧ q ≠ b8) ∧ q ≠ g := fun q hq => hq.elim (fun h => ⟨⟨h.1.1, h.2⟩, h.1.2⟩) (fun hn => ⟨⟨⟨⟨.inr (Nat.le_trans HS.out hn), Nat.ne_of_gt (Nat.lt_of_lt_of_le HE3.out hn)⟩, Nat.ne_of_gt (Nat.lt_of_lt_of_le HE6.out hn)⟩, Nat.ne_of_gt (Nat.lt_of_lt_of_le HE8.out hn)⟩, Nat.ne_of_gt (Nat.lt_of_lt_of_le HEG.out hn)⟩)
    have I9 := nS wk _ k (A6 := Av) (c6 := cv) (Kd.iF qX.out).2.1 (Kd.WH qX.out)
    have hseg := Kd.Py HN.out (pre.length : Int) (Int.natCast_nonneg _) hlt (bJ := [.int .u8 k.f0, .int .i64 k.f1.f0, .int .i64 k.f1.f1, .int .i64 k.f1.f2, .int .i64 k.f1.f3, .int .i64 k.f2, .slice Av k.f3.length cv]) (j := 0) hcl hcc (show 0 + 7 ≤ 7 from by decide) (x' := k) I9 jq
    rw [show l.set (pre.length : Int).toNat k = l from by rw [← HE.out, Int.toNat_natCast]; simp] at hseg
    obtain ⟨w9, Dl⟩ : ∃ w9, w9 = wk.setCells g ((pre.length : Int).toNat * 7 + 0) [.int .u8 k.f0, .int .i64 k.f1.f0, .int .i64 k.f1.f1, .int .i64 k.f1.f2, .int .i64 k.f1.f3, .int .i64 k.f2, .slice Av k.f3.length cv] := ⟨_, rfl⟩
    replace hseg : Kd.N k26 26 w9 w.heap.size (fun q => (fun q => ((P q ∨ w.heap.size ≤ q) ∧ q ≠ b3) ∧ q ≠ b6) q ∧ q ≠ b8) (.slice (some ⟨g, 0, none⟩) l.length c1) l ∧ wk.grownBy w9 (some g) := by rw [Dl]; exact hseg
    have QX := ae.mk (Kd.Q8 hseg.1)
    have JW := ae.mk (grown_below HB.out hseg.2 zV.out HB.out.size)
    have xN := ae.mk (dh cZ.out hseg.2 (fun e_ => (HN.out.1 g rfl).1.1.2 (Option.some.inj e_).symm))
    have Ko := ae.mk (dh fM.out hseg.2 (fun e_ => (HN.out.1 g rfl).1.2 (Option.some.inj e_).symm))
    clear hseg I9 jq hcl hcc hfr hM HN HB cZ fM Kb8 hHeld qX
    refine Gy (w1 := w9) (by rfl) rfl ?_ ?_
    ·rw [Dl]; go_simp; rfl
    refine hK.out _ _ ?_
    clear hK K x0 x1 x2 x3 x4 x5 x6 f0 f1 f2 f3 f4 f5 f6 Dl
    refine ji (fP aj.out (by kernel_rfl)) ?_
    have hw := HW1.out
    go_wp2
    go_roundg rest.length
    case measure => exact Nat.lt_of_lt_of_le (Nat.lt_succ_self _) gz.out
    case rel => exact ⟨pre ++ [k], rest, (by rw [hw]), ⟨by rw [List.append_assoc]; exact HE.out⟩, Nat.le_refl _, QX, xN, Ko, JW⟩
def mM.f (a0 a1 a2 a3 a4 a5 : Int) (l : List ai) : Option (Int × Int × Int × Int × Int × Int × List ai) := if sz ⟨a0, ⟨a1, a2, a3, a4⟩, a5, l⟩ ≤ 1000000 then some (a0, a1, a2, a3, a4, a5, l) else none
def AtN (w : World) (P : Nat → Prop) : Option ai → Ending → World → Prop
 | none, e, w' => ∃ A2 c2, e = .returned (.tuple #[.agg #[.int .u8 0, .int .i64 0, .int .i64 0, .int .i64 0, .int .i64 0, .int .i64 0, .slice A2 0 c2], .bool false]) ∧ Kd.N k26 26 w' w.heap.size (fun k => P k ∨ w.heap.size ≤ k) (.slice A2 0 c2) [] ∧ Below w.heap.size w w'
 | some z, e, w' => ∃ A2 c2, e = .returned (.tuple #[.agg #[.int .u8 z.f0, .int .i64 z.f1.f0, .int .i64 z.f1.f1, .int .i64 z.f1.f2, .int .i64 z.f1.f3, .int .i64 z.f2, .slice A2 z.f3.length c2], .bool true]) ∧ Kd.N k26 26 w' w.heap.size (fun k => P k ∨ w.heap.size ≤ k) (.slice A2 z.f3.length c2) z.f3 ∧ Below w.heap.size w w'
theorem afZ (c : ai) (path : List Int) (r : Option ai) (hr : oh c path = r) (hp : path.length ≤ 1048576) (hc : sz c ≤ 1000000) (b : Nat) (P : Nat → Prop) (A : Option Addr) (cc : Nat) (B : Option Addr) (cb : Nat) (w : World) (hv : Kd.V k26 26 w b P (.slice A c.f3.length cc) c.f3) (hi : Kd.C (Kd.int .i64) w B path.length path) :
  Calls Try.prog 91 #[.agg #[.int .u8 c.f0, .int .i64 c.f1.f0, .int .i64 c.f1.f1, .int .i64 c.f1.f2, .int .i64 c.f1.f3, .int .i64 c.f2, .slice A c.f3.length cc], .slice B path.length cb] w (AtN w P r) := by
 have S := ae.mk (St.start (ts := [(.slice A c.f3.length cc, c.f3)]) (b0 := w.heap.size) (w := w) (P := P) (fun t ht => by rw [List.mem_singleton.1 ht]; exact f_ hv))
 have HI := ae.mk hi
 have jl := ae.mk hp
 have HZ := ae.mk hc
 have HR := ae.mk hr
 clear hi hp hc hr hv
 go_enter Try.func91, Try.ntmps91
 go_wp2_with (first
  | (refine boxS 2 _ 26 S ?_; clear S; intro b2 dJ S)
  | (refine boxS 4 _ 26 S ?_; clear S; intro b4 dX S)
  | fail)
 go_loopg [10] path.length (fun gg v10 wr => ∃ (pre rest : List Int) (z : ai) (Az : Option Addr) (cz : Nat), v10 = .int .i64 (pre.length : Int) ∧ ae (pre ++ rest = path) ∧ ae (oh z rest = r) ∧ ae (sz z ≤ 1000000) ∧ rest.length ≤ gg ∧ ae (St w P [(some b4, .cells #[.int .u8 0, .int .i64 0, .int .i64 0, .int .i64 0, .int .i64 0, .int .i64 0, .slice none 0 0] 26 (0, 0)), (some b2, .cells #[.int .u8 z.f0, .int .i64 z.f1.f0, .int .i64 z.f1.f1, .int .i64 z.f1.f2, .int .i64 z.f1.f3, .int .i64 z.f2, .slice Az z.f3.length cz] 26 (0, 0))] [] [(.slice Az z.f3.length cz, z.f3)] [] wr))
 case atStart => exact ⟨[], path, c, A, cc, rfl, ⟨rfl⟩, HR, HZ, Nat.le_refl _, S⟩
 case round =>
  clear S HR HZ
  obtain ⟨pre, rest, z, Az, cz, rfl, HE, HR, HZ, hgg, S⟩ := hrel
  cases rest with
  | nil =>
   have hr := HR.out
   simp only [oh] at hr
   subst hr
   clear HR
   have hE := HE.out
   rw [List.append_nil] at hE
   have hE2 := hE.symm
   subst hE2
   clear hE HE hgg
   have hlt : ¬ ((path.length : Int) < (path.length : Int)) := by omega
   obtain ⟨oz, vK, vM, vN, vO, sH, jh⟩ := St.eQ S bG
   go_wp2_with (first
    | (refine jb (some 31) Try.func151 (EU 1000000 z HZ.out (Nat.le_refl _) _ Az cz _ (S.out.tree _ (.head _))) ?_; rintro e fU ⟨v, rfl, h1, hb⟩; refine ⟨_, rfl, ?_⟩; obtain ⟨Ac, cc', ev⟩ := Kd.jm h1; subst ev; replace S := ae.mk (S.out.x_ h1 hb); clear h1 hb; clear oz vK vM vN vO sH jh)
    | (refine iT 26 4 31 #[.int .u8 z.f0, .int .i64 z.f1.f0, .int .i64 z.f1.f1, .int .i64 z.f1.f2, .int .i64 z.f1.f3, .int .i64 z.f2, .slice Ac z.f3.length cc'] 0 7 S ?_; clear S; intro iW S)
    | fail)
   refine bodyPost_ret (fC rfl _ _ b4 26 _ (0, 0) _ rfl (S.out.blk _ (.head _) _ rfl) Try.underlying26 rfl (by kernel_rfl)) rfl ?_
   exact ⟨_, _, rfl, S.out.xY, S.out.below⟩
  | cons i is =>
   have hlt : (pre.length : Int) < (path.length : Int) := by rw [← HE.out, List.length_append, List.length_cons]; omega
   have acQ : pre.length < path.length := by omega
   have hw1 : wrap64 ((pre.length : Int) + 1) = ((pre ++ [i]).length : Int) := by have := jl.out; rw [List.length_append, List.length_singleton]; unfold wrap64; omega
   have HW1 := ae.mk hw1
   have gz := ae.mk hgg
   have NY := ae.mk hlt
   have hrd : rd path (pre.length : Int) = i := by rw [← HE.out]; simp [rd, List.getD_eq_getElem?_getD]
   obtain ⟨WN, ek, xi⟩ := Kd.iy (Kd.fK HI.out S.out.below) (pre.length : Int) (Int.natCast_nonneg _) hlt
   subst ek
   have zX := ae.mk (fun (W : World) (h : Below w.heap.size w W) => (show W.cell? (WN.add pre.length) = some (.int .i64 i) by have h2 := Kd.iy (Kd.fK HI.out h) (pre.length : Int) (Int.natCast_nonneg _) NY.out; obtain ⟨ad, e1, e2⟩ := h2; injection e1 with e1; subst e1; simp only [Int.toNat_natCast] at e2; rw [e2, hrd]))
   clear hrd xi hgg hw1
   have hr := HR.out
   simp only [oh] at hr
   by_cases h0 : i < 0
   case pos =>
    rw [if_pos (.inl h0)] at hr
    subst hr
    clear HR
    obtain ⟨I8, wC⟩ := mV (a := i) (b := 0) (by omega)
    have xi := zX.out _ S.out.below
    go_wp2_with (first
     | (refine iT 26 4 23 #[.int .u8 0, .int .i64 0, .int .i64 0, .int .i64 0, .int .i64 0, .int .i64 0, .slice none 0 0] 0 7 S ?_; clear S; intro dJ S; clear xi)
     | fail)
    refine bodyPost_ret (fC rfl _ _ b4 26 _ (0, 0) _ rfl (S.out.blk _ (.head _) _ rfl) Try.underlying26 rfl (by kernel_rfl)) rfl ?_
    exact ⟨none, 0, rfl, Kd.yu _ _ _ _ _, S.out.below⟩
   by_cases h1 : i ≥ (z.f3.length : Int)
   case pos =>
    rw [if_pos (.inr h1)] at hr
    subst hr
    clear HR
    obtain ⟨I8, wC⟩ := lU (a := i) (b := 0) (by omega)
    have h1b : decide (i ≥ (z.f3.length : Int)) = true := decide_eq_true h1
    have h1c : decide ((z.f3.length : Int) ≤ i) = true := decide_eq_true h1
    have xi := zX.out _ S.out.below
    have jh := (S.out.at bG 6).trans rfl
    go_wp2_with (first
     | (refine iT 26 4 23 #[.int .u8 0, .int .i64 0, .int .i64 0, .int .i64 0, .int .i64 0, .int .i64 0, .slice none 0 0] 0 7 S ?_; clear S; intro dJ S; clear xi jh)
     | fail)
    refine bodyPost_ret (fC rfl _ _ b4 26 _ (0, 0) _ rfl (S.out.blk _ (.head _) _ rfl) Try.underlying26 rfl (by kernel_rfl)) rfl ?_
    exact ⟨none, 0, rfl, Kd.yu _ _ _ _ _, S.out.below⟩
   rw [if_neg (fun h => h.elim h0 h1)] at hr
   obtain ⟨I8, wC⟩ := lU (a := i) (b := 0) (by omega)
   have h1b : decide (i ≥ (z.f3.length : Int)) = false := decide_eq_false h1
   have h1c : decide ((z.f3.length : Int) ≤ i) = false := decide_eq_false h1
   have hi0 : 0 ≤ i := by omega
   have hi1 : i < (z.f3.length : Int) := by omega
   obtain ⟨ku, ua, uc, ek, S1⟩ := S.out.elem (.head _) i hi0 hi1
   subst ek
   have hkz : sz (az z.f3 i) ≤ 1000000 := by have h2 := xB (Gv z.f3 i hi0 hi1); have h3 := df z; have := HZ.out; omega
   obtain ⟨k, hk⟩ : ∃ k, k = az z.f3 i := ⟨_, rfl⟩
   rw [← hk] at S1 hr hkz
   replace S := ae.mk S1
   replace HR := ae.mk hr
   have lC := ae.mk hkz
   clear S1 hk hr hkz
   obtain ⟨gX, iY, jH, jv, jw, lD, lF⟩ := St.I4 S
   have xi := zX.out _ S.out.below
   have jh := (S.out.at bG 6).trans rfl
   go_wp2_with (first
    | (refine zQ 26 2 28 #[.int .u8 k.f0, .int .i64 k.f1.f0, .int .i64 k.f1.f1, .int .i64 k.f1.f2, .int .i64 k.f1.f3, .int .i64 k.f2, .slice ua k.f3.length uc] 0 7 S ?_; clear S; intro dJ S; clear gX iY jH jv jw lD lF xi jh)
    | fail)
   have hw1 := HW1.out
   go_wp2
   go_roundg is.length
   case measure => exact Nat.lt_of_lt_of_le (Nat.lt_succ_self _) gz.out
   case rel => exact ⟨pre ++ [i], is, k, ua, uc, (by rw [hw1]), ⟨by rw [List.append_assoc]; exact HE.out⟩, HR, lC, Nat.le_refl _, ⟨S.out.bQ.bQ.bQ.bQ.bQ.bQ.bQ.aeW (.head _)⟩⟩
section
variable {W : World} {b : Nat} {P : Nat → Prop} {A : Option Addr} {cc cb : Nat}
theorem GX (c : ai) (path : List Int) (z : ai) (hz : oh c path = some z) (hp : path.length ≤ 1048576) (hc : sz c ≤ 1000000) {B : Option Addr} (hV : Kd.V k26 26 W b P (.slice A c.f3.length cc) c.f3) (hi : Kd.C (Kd.int .i64) W B path.length path) (_ : path.length ≤ cb) :
  Calls Try.prog 91 #[.agg #[.int .u8 c.f0, .int .i64 c.f1.f0, .int .i64 c.f1.f1, .int .i64 c.f1.f2, .int .i64 c.f1.f3, .int .i64 c.f2, .slice A c.f3.length cc], .slice B path.length cb] W fun e w' => ∃ A2 c2, e = .returned (.tuple #[.agg #[.int .u8 z.f0, .int .i64 z.f1.f0, .int .i64 z.f1.f1, .int .i64 z.f1.f2, .int .i64 z.f1.f3, .int .i64 z.f2, .slice A2 z.f3.length c2], .bool true]) ∧ Kd.N k26 26 w' W.heap.size (fun k => P k ∨ W.heap.size ≤ k) (.slice A2 z.f3.length c2) z.f3 ∧ Below W.heap.size W w' := afZ c path (some z) hz hp hc b P A cc B cb W hV hi
end
section
variable {W : World} {b b' : Nat} {P P' : Nat → Prop} {A A' : Option Addr} {cc cc' : Nat}
theorem AB (c : ai) (g : Bool) (hg : ∃ k, ig.f k c.f0 c.f1.f0 c.f1.f1 c.f1.f2 c.f1.f3 c.f2 c.f3 = some g) (hV : Kd.V k26 26 W b P (.slice A c.f3.length cc) c.f3) :
  Calls Try.prog 34 #[.agg #[.int .u8 c.f0, .int .i64 c.f1.f0, .int .i64 c.f1.f1, .int .i64 c.f1.f2, .int .i64 c.f1.f3, .int .i64 c.f2, .slice A c.f3.length cc]] W fun e w' => e = .returned (.bool g) ∧ Below W.heap.size W w' := by
 obtain ⟨k, hk⟩ := hg
 have h := Kd.jZ hV
 exact ig.calls k _ _ _ _ _ _ A cc c.f3 g W h.2.2 h.2.1 hk
end
section
variable {Pr : Program} {ops : Array Oper} {rest : List Oper} {op : Oper} {a : Act} {Q : Exit → Act → World → Prop} {w W : World} {P : Nat → Prop} {bs : List (Option Nat × Obj)} {ts : List (Value × List ai)} {ro : List (Addr × Value)}
end
theorem GH {l : List ai} {k : ai} (h : k ∈ l) : sz k ≤ dO l := by
 obtain ⟨p, q, e⟩ := List.append_of_mem h
 rw [e, nX, bW]
 omega
theorem Dy {a b : dD} : qB a b = true ↔ a.f0 = b.f0 ∧ a.f1 = b.f1 ∧ a.f2 = b.f2 ∧ a.f3 = b.f3 := by
 unfold qB
 simp
theorem NG (ax X Y W H : Int) (hax : ax = 1 ∨ ax = 2) : ∀ (kids : List ai) (ns : List Int) (off : Int), kids.length = ns.length → rV (fun k r => qB k.f1 r) kids (xU ax X Y W H off ns) = true → ∀ x, x ∈ kids → aV (3 - ax) x.f1 = tX ax H W := by
 intro kids
 induction kids with
 | nil => intro _ _ _ _ x hx; cases hx
 | cons k ks ih =>
  intro ns off hl he x hx
  cases ns with
  | nil => simp at hl
  | cons n ns =>
   simp only [xU, rV, Bool.and_eq_true] at he
   rcases List.mem_cons.1 hx with rfl | hx
   ·obtain ⟨_, _, h2, h3⟩ := Dy.1 he.1
    simp only [] at h2 h3
    rcases hax with rfl | rfl
    ·unfold aV tX at *
     simp at h3 ⊢
     exact h3
    ·unfold aV tX at *
     simp at h2 ⊢
     exact h2
   ·exact ih ns (off + n + 1) (by simpa using hl) he.2 x hx
theorem BD {c : ai} (h1 : mr c = true) (hk : c.f0 = 2 ∨ c.f0 = 3) (hl : c.f3.length ≤ 20000) :
  (c.f3.map (fun k => aV (c.f0 - 1) k.f1)).sum + (c.f3.length : Int) - 1 = aV (c.f0 - 1) c.f1 ∧ ∀ x, x ∈ c.f3 → aV (3 - (c.f0 - 1)) x.f1 = aV (3 - (c.f0 - 1)) c.f1 := by
 unfold mr BH at h1
 rw [show (c.f0 == 1) = false from by simp; omega, Bool.false_or] at h1
 simp only [Bool.and_eq_true] at h1
 obtain ⟨ht, hlen, hE⟩ := h1
 obtain ⟨hax, gp, gs, _⟩ := CJ ht
 have e1 : yj c.f0 = c.f0 - 1 := by unfold yj; omega
 rw [e1] at hax gp gs
 have e2 : iV c = c.f3.map (fun k => aV (c.f0 - 1) k.f1) := by
  unfold iV
  apply List.map_congr_left
  intro k _
  unfold szK qi aV
  rcases hk with h | h
  ·rw [if_pos h, if_pos (by omega)]
  ·rw [if_neg (by omega), if_neg (by omega), if_pos (by omega)]
 have e3 : ∀ r : dD, tX (c.f0 - 1) r.f2 r.f3 = aV (c.f0 - 1) r ∧ tX (c.f0 - 1) r.f3 r.f2 = aV (3 - (c.f0 - 1)) r := by
  intro r
  rcases hk with h | h <;> simp [tX, aV, h]
 refine ⟨?_, fun x hx => ?_⟩
 ·rw [← e2, ← (e3 c.f1).1, ← gs]
  simp [iV]
 ·rw [gp] at hE
  rw [← (e3 c.f1).2]
  exact NG (c.f0 - 1) _ _ _ _ hax c.f3 (iV c) 0 (by simp [iV]) hE x hx
theorem sQ {c : ai} (h : l9 c = true) : jQ c.f1 = true := by
 unfold l9 at h
 simp only [Bool.and_eq_true] at h
 exact h.1.1.1
theorem mX {r : dD} (h : jQ r = true) {ax : Int} (hax : ax = 1 ∨ ax = 2) : 1 ≤ aV ax r ∧ aV ax r ≤ 10000 := by
 have := uU.1 h
 unfold aV
 rcases hax with rfl | rfl
 ·rw [if_pos rfl]; omega
 ·rw [if_neg (by omega), if_pos rfl]; omega
theorem zS {c x : ai} (h : kD c = true) (hx : x ∈ c.f3) : kD x = true := by
 rw [sF, Bool.and_eq_true] at h
 exact List.all_eq_true.1 h.2 x hx
theorem TF (ax m : Int) (a b : List ai) : lu ax m (a ++ b) = lu ax (lu ax m a) b := by
 induction a generalizing m with
 | nil => rw [List.nil_append, qh]
 | cons x xs ih => rw [List.cons_append, jY, jY, ih]
theorem VG {ax u : Int} : ∀ {l : List ai} {m : Int}, m ≤ u → (∀ x, x ∈ l → dH ax x ≤ u) → lu ax m l ≤ u := by
 intro l
 induction l with
 | nil => intro m h _; rw [qh]; exact h
 | cons x xs ih =>
  intro m h hx
  rw [jY]
  exact ih (Xe h (hx x (by simp))) (fun y hy => hx y (by simp [hy]))
theorem MS {ax : Int} : ∀ {l : List ai} {m : Int}, m ≤ lu ax m l := by
 intro l
 induction l with
 | nil => intro m; rw [qh]; exact Int.le_refl _
 | cons x xs ih =>
  intro m
  rw [jY]
  exact Int.le_trans (Tu m (dH ax x)) ih
theorem ZV {ax : Int} : ∀ {l : List ai}, (∀ x, x ∈ l → dH ax x ≤ aV ax x.f1) → lX ax l ≤ (l.map (fun k => aV ax k.f1)).sum := by
 intro l
 induction l with
 | nil => intro _; rw [sD]; exact Int.le_refl _
 | cons x xs ih =>
  intro hx
  rw [oM, List.map_cons, List.sum_cons]
  have h1 := hx x (by simp)
  have h2 := ih (fun y hy => hx y (by simp [hy]))
  omega
theorem BF {ax : Int} (hax : ax = 1 ∨ ax = 2) : ∀ (N : Nat) (c : ai), sz c ≤ N → N ≤ 20000 → (fJ c).all l9 = true → 1 ≤ dH ax c ∧ (kD c = true → dH ax c ≤ aV ax c.f1) := by
 intro N
 induction N with
 | zero => intro c h; rw [df] at h; omega
 | succ N ih =>
  intro c hc hN hok
  have hs := df c
  have hlen := jF c.f3
  have hk : ∀ x, x ∈ c.f3 → 1 ≤ dH ax x ∧ (kD x = true → dH ax x ≤ aV ax x.f1) := fun x hx => by
   refine ih x ?_ (by omega) (OM hok hx)
   have := GH hx
   omega
  rw [qf]
  rcases yX (nT hok) with ⟨h1, h2⟩ | ⟨h1, h2⟩
  ·rw [if_pos h1]
   exact ⟨Int.le_refl _, fun _ => (mX (sQ (nT hok)) hax).1⟩
  ·rw [if_neg (by omega)]
   have hsum : ∀ l : List ai, (∀ x, x ∈ l → 1 ≤ dH ax x) → (l.length : Int) ≤ lX ax l := by
    intro l
    induction l with
    | nil => intro _; rw [sD]; simp
    | cons x xs ihl =>
     intro h
     have a1 := h x (by simp)
     have a2 := ihl (fun y hy => h y (by simp [hy]))
     rw [oM, List.length_cons]
     omega
   have acN := fun (ht : kD c = true) => BD (c := c) (by rw [sF, Bool.and_eq_true] at ht; exact ht.1) h1 (by omega)
   cases ha : fG ax c.f0 with
   | true =>
    have e : c.f0 - 1 = ax := by
     unfold fG at ha
     simp at ha
     omega
    simp only [if_true]
    refine ⟨by have := hsum c.f3 (fun x hx => (hk x hx).1); omega, fun ht => ?_⟩
    obtain ⟨g1, _⟩ := acN ht
    rw [e] at g1
    have := ZV (ax := ax) (l := c.f3) (fun x hx => (hk x hx).2 (zS ht hx))
    omega
   | false =>
    have e : 3 - (c.f0 - 1) = ax := by
     unfold fG at ha
     simp at ha
     omega
    simp only [Bool.false_eq_true, if_false]
    refine ⟨?_, fun ht => ?_⟩
    ·cases hl : c.f3 with
     | nil => rw [hl] at h2; simp at h2
     | cons x xs =>
      have := (hk x (by rw [hl]; simp)).1
      rw [jY]
      exact Int.le_trans this (Int.le_trans (Tv 0 _) MS)
    ·obtain ⟨_, g2⟩ := acN ht
     rw [e] at g2
     have := mX (sQ (nT hok)) hax
     exact VG (by omega) (fun x hx => by
      have := (hk x hx).2 (zS ht hx)
      rw [g2 x hx] at this
      exact this)
section
variable {W : World} {b : Nat} {P : Nat → Prop} {A : Option Addr} {cc : Nat}
theorem pW (c : ai) (hz : sz c ≤ 1048576) (h1 : Kd.C k26 W A 1 [c]) (h2 : 1 ≤ cc) : Calls Try.prog 148 #[.slice A 1 cc] W fun e w' => e = .returned (.bool (bZ c)) ∧ Below W.heap.size W w' := by
 have h := Nv [c] (fun x hx => by rw [List.mem_singleton.1 hx]; exact hz) A cc W h1 h2
 simpa using h
theorem kE {c : ai} {v : Bool} {f : FuncId} {args : Array Value} (h : bZ c = v) (hc : Calls Try.prog f args W fun e w' => e = .returned (.bool (bZ c)) ∧ Below W.heap.size W w') : Calls Try.prog f args W fun e w' => e = .returned (.bool v) ∧ Below W.heap.size W w' := by
 rw [h] at hc
 exact hc
theorem Ns (c : ai) (hz : sz c ≤ 1048576) (hV : Kd.V k26 26 W b P (.slice A c.f3.length cc) c.f3) :
  Calls Try.prog 84 #[.agg #[.int .u8 c.f0, .int .i64 c.f1.f0, .int .i64 c.f1.f1, .int .i64 c.f1.f2, .int .i64 c.f1.f3, .int .i64 c.f2, .slice A c.f3.length cc]] W fun e w' => e = .returned (.bool (bZ c)) ∧ Below W.heap.size W w' := by
 obtain ⟨k, hk⟩ := (Nl c hz).rounds
 have h := Kd.jZ hV
 exact l_.calls k _ _ _ _ _ _ A cc c.f3 _ W h.2.2 h.2.1 hk
theorem ady (r : dD) (ax : Int) : Calls Try.prog 98 #[.agg #[.int .i64 r.f0, .int .i64 r.f1, .int .i64 r.f2, .int .i64 r.f3], .int .u8 ax] W fun e w' => e = .returned (.int .i64 (aV ax r)) ∧ Below W.heap.size W w' :=
 oI.calls r.f0 r.f1 r.f2 r.f3 ax _ W (Jq r ax)
end
section
variable {Pr : Program} {ops : Array Oper} {rest : List Oper} {op : Oper} {a : Act} {Q : Exit → Act → World → Prop} {w W : World} {P P' : Nat → Prop} {bs : List (Option Nat × Obj)} {ow : List (Value × List ai)} {ts : List (Value × List ai)} {ro : List (Addr × Value)}
theorem pO {N : Tmp} (hd : op.dst = some N) (hgd : op.guard = none) (x : ai) {A : Option Addr} {c b : Nat} (S : St w P bs ow ts ro W) (hV : Kd.V k26 26 W b P' (.slice A x.f3.length c) x.f3)
  (hrun : (execOp a.eval op).run Pr W = .ok (.value (.slice (some ⟨W.heap.size, 0, none⟩) 1 1)) (W.alloc (.cells (kL x A c).toArray 26)))
  (h : ∀ A1 c1 w1, St w P bs ow ts ro w1 → 1 ≤ c1 → Kd.C k26 w1 A1 1 [x] → wpList Pr ops Q rest (a.put op.dst (.slice A1 1 c1)) w1) : wpList Pr ops Q (op :: rest) a W := by
 obtain ⟨_, hl, hF⟩ := Kd.Bd hV
 refine Kd.yt k26 (w0 := W) W.heap.size 26 hgd hd (xs := [x]) (inner := kL x A c) (ok := fun _ => True) (fE := P') hrun (bV.c7 (nS W P' x hl hF) (bV.none _ _)) (fun _ _ => trivial) trivial (Below.refl _ _) (Nat.le_refl _) (by simp) ?_
 intro v1 w1 hN _ hg _
 obtain ⟨A1, c1, rfl⟩ := Kd.jm hN
 exact h A1 c1 w1 (S.call (vU hg)) (Kd.iF hN).2.1 (Kd.iF hN).2.2
end
abbrev aed (w : World) (P : Nat → Prop) (z : ai) (n : Int) (e : Ending) (w' : World) : Prop := ∃ A c, e = .returned (.tuple #[.agg #[.int .u8 z.f0, .int .i64 z.f1.f0, .int .i64 z.f1.f1, .int .i64 z.f1.f2, .int .i64 z.f1.f3, .int .i64 z.f2, .slice A z.f3.length c], .int .i64 n]) ∧ Kd.N k26 26 w' w.heap.size (fun k => P k ∨ w.heap.size ≤ k) (.slice A z.f3.length c) z.f3 ∧ Below w.heap.size w w'
noncomputable def xP (ax : Int) (c : ai) : Bool := !bZ c || (ax != 1 && ax != 2)
noncomputable def xQ (ax : Int) (c : ai) (b : Int) : Bool := decide (b < wrap64 (-(aU ax c))) || decide (b > wrap64 (10000 - aV ax ⟨0, 0, wrap64 (c.f1.f0 + c.f1.f2), wrap64 (c.f1.f1 + c.f1.f3)⟩))
noncomputable def aN (ax : Int) (c : ai) (b : Int) : Int := if xP ax c = true then 1 else if xQ ax c b = true then 7 else 0
noncomputable def aZ (ax : Int) (c : ai) (b : Int) : ai := if xP ax c = true then z26 else if xQ ax c b = true then z26 else dA (fF ax c b) c.f1.f0 c.f1.f1
theorem afY {ax : Int} {c : ai} {b : Int} (h1 : xP ax c = false) (h2 : xQ ax c b = false) : bZ c = true ∧ (ax = 1 ∨ ax = 2) ∧ sz c ≤ 20000 ∧ -10000 ≤ b ∧ b ≤ 10000 ∧ -(aU ax c) ≤ b ∧ aU ax c = aV ax c.f1 - dH ax c ∧ aV ax c.f1 + b ≤ 10000 := by
 unfold xP at h1
 simp only [Bool.or_eq_false_iff, Bool.not_eq_false', Bool.and_eq_false_iff, bne_eq_false_iff_eq] at h1
 obtain ⟨ht, hax⟩ := h1
 have hm := lg ht
 have hs := mW hm
 have hB : kD c = true := by
  unfold bZ at ht
  simp only [Bool.and_eq_true] at ht
  exact ht.2
 have f := (BF hax (sz c) c (Nat.le_refl _) hs (pR hm)).2 hB
 have f1 := (BF hax (sz c) c (Nat.le_refl _) hs (pR hm)).1
 have hr := sQ (nT (pR hm))
 have r := mX hr hax
 have hg : aU ax c = aV ax c.f1 - dH ax c := by
  unfold aU
  rw [if_pos ⟨hax, ht⟩]
  unfold wrap64
  omega
 unfold xQ at h2
 simp only [Bool.or_eq_false_iff, decide_eq_false_iff_not] at h2
 have hw1 : wrap64 (-(aU ax c)) = -(aU ax c) := by rw [hg]; unfold wrap64; omega
 have hq : 0 ≤ c.f1.f0 ∧ 0 ≤ c.f1.f1 ∧ c.f1.f0 + c.f1.f2 ≤ 10000 ∧ c.f1.f1 + c.f1.f3 ≤ 10000 ∧ 1 ≤ c.f1.f2 ∧ 1 ≤ c.f1.f3 := by
  unfold jQ oV at hr
  simp only [Bool.and_eq_true, decide_eq_true_eq] at hr
  omega
 have he : aV ax ⟨0, 0, wrap64 (c.f1.f0 + c.f1.f2), wrap64 (c.f1.f1 + c.f1.f3)⟩ = (if ax = 1 then c.f1.f0 else c.f1.f1) + aV ax c.f1 := by
  unfold aV
  rcases hax with rfl | rfl
  ·simp only [if_true]; unfold wrap64; omega
  ·simp only [show ¬ ((2 : Int) = 1) by decide, if_false, if_true]; unfold wrap64; omega
 rw [hw1, he] at h2
 have hw2 : wrap64 (10000 - ((if ax = 1 then c.f1.f0 else c.f1.f1) + aV ax c.f1)) = 10000 - ((if ax = 1 then c.f1.f0 else c.f1.f1) + aV ax c.f1) := by unfold wrap64; split <;> omega
 rw [hw2] at h2
 refine ⟨ht, hax, hs, ?_, ?_, ?_, hg, ?_⟩ <;> (split at h2 <;> omega)
def xC.T6 : Bool × List (List Nat × List Nat) := (true, [([], []), ([0], [0]), ([], []), ([1, 2], [1, 2]), ([3], [3]), ([], []), ([], []), ([6], [6]), ([4, 5, 7], [4, 5, 7]), ([8], [8]), ([9], [9]), ([9], [9]), ([], []), ([12, 10, 8, 0, 1, 2, 3, 4, 5, 6, 7, 8, 9, 10, 12], [10, 12]), ([11, 13, 0, 1, 2, 3, 4, 5, 6, 7, 8, 9, 10, 11, 12, 13], [11])])
def xC.B6 : List Nat := [0, 1, 0, 7, 15, 0, 0, 64, 255, 511, 1023, 1023, 0, 6143, 16383]
theorem xC.tab6 : g_ .any (opsOf Try.f102 6) = xC.T6 := by kernel_rfl
theorem xC.F5 : iL xC.T6.2 xC.B6 = true := by kernel_rfl
def wP (kid : ai) : List Int → ai → Option ai
 | [], _ => some kid
 | i :: is, c => if i < 0 ∨ i ≥ (c.f3.length : Int) then none else match wP kid is (az c.f3 i) with
  | none => none
  | some k => some ⟨c.f0, c.f1, c.f2, c.f3.set i.toNat k⟩
abbrev UA (w : World) (P : Nat → Prop) : Option ai → Ending → World → Prop
 | none, e, w' => e = .returned (.tuple #[.agg #[.int .u8 0, .int .i64 0, .int .i64 0, .int .i64 0, .int .i64 0, .int .i64 0, .slice none 0 0], .bool false]) ∧ Below w.heap.size w w'
 | some z, e, w' => ∃ A c, e = .returned (.tuple #[.agg #[.int .u8 z.f0, .int .i64 z.f1.f0, .int .i64 z.f1.f1, .int .i64 z.f1.f2, .int .i64 z.f1.f3, .int .i64 z.f2, .slice A z.f3.length c], .bool true]) ∧ Kd.N k26 26 w' w.heap.size (fun k => P k ∨ w.heap.size ≤ k) (.slice A z.f3.length c) z.f3 ∧ Below w.heap.size w w'
def adD.T5 : Bool × List (List Nat × List Nat) := (true, [([], []), ([0], [0]), ([], []), ([2], [2]), ([3], [3]), ([1, 4], [1, 4]), ([5], [5]), ([], []), ([], []), ([8], [8]), ([6, 7, 9], [6, 7, 9]), ([10], [10]), ([11], [11]), ([11], [11]), ([], []), ([14, 12, 10, 0, 1, 2, 3, 4, 5, 6, 7, 8, 9, 10, 11, 12, 14], [12, 14]), ([13, 15, 0, 1, 2, 3, 4, 5, 6, 7, 8, 9, 10, 11, 12, 13, 14, 15], [13])])
def adD.B5 : List Nat := [0, 1, 0, 4, 12, 31, 63, 0, 0, 256, 1023, 2047, 4095, 4095, 0, 24575, 65535]
def adE.T9 : Bool × List (List Nat × List Nat) := (true, [([], []), ([], []), ([1], [1]), ([2], [2]), ([], []), ([0, 3, 0, 1, 2, 3, 4], [0, 3]), ([5, 4, 0, 1, 2, 3, 4], [4, 5])])
def adE.B9 : List Nat := [0, 0, 2, 6, 0, 31, 63]
theorem QC : ∀ (l : List ai) (n : Nat) (k : ai) (m : Nat), n < l.length → sz k ≤ sz (l.getD n z26) + m → dO (l.set n k) ≤ dO l + m := by
 intro l
 induction l with
 | nil => intro n k m h; simp at h
 | cons x xs ih =>
  intro n k m h hk
  cases n with
  | zero => rw [List.set_cons_zero, bW, bW]; simp only [List.getD_cons_zero] at hk; omega
  | succ n => rw [List.set_cons_succ, bW, bW]; have := ih n k m (by simpa using h) (by simpa using hk); omega
theorem VX (kid : ai) : ∀ (path : List Int) (c x : ai), wP kid path c = some x → sz x ≤ sz c + sz kid := by
 intro path
 induction path with
 | nil => intro c x h; simp only [wP] at h; rw [← Option.some.inj h]; omega
 | cons i is ih =>
  intro c x h
  simp only [wP] at h
  split at h
  ·cases h
  ·rename_i hi
   cases hp : wP kid is (az c.f3 i) with
   | none => rw [hp] at h; cases h
   | some k =>
    rw [hp] at h
    have h := Option.some.inj h
    subst h
    have h1 := ih _ _ hp
    have h2 := QC c.f3 i.toNat k (sz kid) (by omega) h1
    rw [df, df c]
    show 1 + dO (c.f3.set i.toNat k) ≤ _
    omega
section
variable {Pr : Program} {ops : Array Oper} {rest : List Oper} {op : Oper} {a : Act} {Q : Exit → Act → World → Prop} {w W : World} {P : Nat → Prop} {bs : List (Option Nat × Obj)} {ow : List (Value × List ai)} {ts : List (Value × List ai)} {ro : List (Addr × Value)}
theorem VD (N : Tmp) (y : Int) (S : ae (St w P bs ow ts ro W)) (h : ∀ A c o w1, ae (St w P (((Value.slice A [y].length c).ownBlock, o) :: bs) ow ts ro w1) → ae (KR (Kd.int .i64) 3 w.heap.size (.slice A [y].length c) [y] o) → wpList Pr ops Q rest (a.put op.dst (.slice A [y].length c)) w1)
  (hd : op.dst = some N := by rfl) (hgd : op.guard = none := by rfl) (hrun : (execOp a.eval op).run Pr W = .ok (.value (.slice (some ⟨W.heap.size, 0, none⟩) 1 1)) (W.alloc (.cells #[.int .i64 y] 3)) := by first | (go_simp; done) | (go_simp; rfl)) : wpList Pr ops Q (op :: rest) a W :=
 Kd.vC (Kd.int .i64) (w0 := W) W.heap.size 3 hgd hd (xs := [y]) (inner := [.int .i64 y]) (ok := fun _ => True) (fE := fun _ => True) hrun (bV.one (show Kd.M (Kd.int .i64) _ _ _ y [.int .i64 y] from rfl) (bV.none _ _)) (fun _ hk => hk) trivial (Below.refl _ _) (Nat.le_refl _) (by simp) (fun v1 w1 hR hb hg _ => by
  obtain ⟨A, c, rfl⟩ := Kd.gQ hR
  obtain ⟨o, S1, HI⟩ := S.out.Fz (d := Kd.int .i64) (e := 3) rfl hR (vU hg)
  exact h A c o w1 ⟨S1⟩ ⟨HI⟩)
end
abbrev yw (W : World) (p : List Int) (t : Bool) (e : Ending) (w' : World) : Prop := ∃ A c, e = .returned (.tuple #[.slice A p.length c, .bool t]) ∧ (Kd.int .i64).R 3 w' W.heap.size (fun _ => True) (.slice A p.length c) p ∧ Below W.heap.size W w'
theorem RP {id : Int} {k : ai} {r : Option (List Int)} {args : Array Value} {W : World} (h : fA id k = r) (hc : Calls Try.prog 90 args W (yw W ((fA id k).getD []) (fA id k).isSome)) : Calls Try.prog 90 args W (yw W (r.getD []) r.isSome) := by
 rw [h] at hc
 exact hc
theorem ZO (id : Int) : ∀ (N : Nat) (c : ai), sz c ≤ N → N ≤ 1000000 → ∀ (b : Nat) (P : Nat → Prop) (A : Option Addr) (cc : Nat) (w : World), Kd.V k26 26 w b P (.slice A c.f3.length cc) c.f3 →
  Calls Try.prog 90 #[.agg #[.int .u8 c.f0, .int .i64 c.f1.f0, .int .i64 c.f1.f1, .int .i64 c.f1.f2, .int .i64 c.f1.f3, .int .i64 c.f2, .slice A c.f3.length cc], .int .i64 id] w (yw w ((fA id c).getD []) (fA id c).isSome) := by
 intro N
 induction N with
 | zero => intro c h; rw [df] at h; omega
 | succ N ih =>
  intro c hc hN b P A cc w hv
  have hsz := df c
  have hlen := jF c.f3
  have S := ae.mk (St.start (ts := [(.slice A c.f3.length cc, c.f3)]) (b0 := w.heap.size) (w := w) (P := P) (fun t ht => by rw [List.mem_singleton.1 ht]; exact f_ hv))
  have jl := ae.mk (show c.f3.length ≤ 1000000 by omega)
  have IH := ae.mk fun (k : ai) (hk : k ∈ c.f3) A cc w {b P} h => ih k (by have := xB hk; omega) (by omega) b P A cc w h
  have HQS := ae.mk fun (k : ai) (hk : k ∈ c.f3) q (h : fA id k = some q) => (show q.length ≤ 1000000 by have := (Bq id (sz k)).1 k (Nat.le_refl _) q h; have := xB hk; omega)
  rw [Bo]
  obtain ⟨ck, ⟨cx, cy, cw, ch⟩, aK, l⟩ := c
  simp only [] at S jl IH HQS ⊢
  clear ih hc hN hv hsz hlen
  by_cases hq : ck = 1 ∧ aK = id
  case pos =>
   rw [if_pos hq]
   obtain ⟨h1, h2⟩ := hq
   obtain ⟨h1a, h1b, h1d⟩ := yQ (a := ck) (b := 1) (by omega)
   obtain ⟨h2a, h2b, h2d⟩ := yQ (a := aK) (b := id) (by omega)
   clear h1 h2
   go_enter Try.func90, Try.ntmps90
   go_wp2_with (first
    | (refine boxS 2 _ 26 S ?_; clear S; intro b2 dJ S; have oz := (S.out.at (.head _) 0).trans rfl; have sH := (S.out.at (.head _) 5).trans rfl)
    | (refine gm 18 rfl ?_; refine lL (Kd.int .i64) 3 rfl 18 S ?_; clear S; intro An cn on dX S yg; clear oz sH)
    | fail)
   go_ret2
   exact ⟨_, _, rfl, S.out.Fh yg.out (.head _), S.out.below⟩
  rw [if_neg hq]
  have hw : ((ck == 1) = true ∧ decide (ck = 1) = true ∧ (aK == id) = false ∧ decide (aK = id) = false) ∨ ((ck == 1) = false ∧ decide (ck = 1) = false) := by
   by_cases h1 : ck = 1
   ·exact .inl ⟨beq_iff_eq.mpr h1, decide_eq_true h1, beq_eq_false_iff_ne.mpr (fun h => hq ⟨h1, h⟩), decide_eq_false (fun h => hq ⟨h1, h⟩)⟩
   ·exact .inr ⟨beq_eq_false_iff_ne.mpr h1, decide_eq_false h1⟩
  obtain ⟨R, hR⟩ : ∃ R, R = oC id 0 l := ⟨_, rfl⟩
  rw [← hR]
  have HR := ae.mk hR.symm
  clear hq hR
  rcases hw with ⟨ha, hb, hc, hd⟩ | ⟨ha, hb⟩
  all_goals
   go_enter Try.func90, Try.ntmps90
   go_wp2_with (first
    | (refine boxS 2 _ 26 S ?_; clear S; intro b2 dJ S; have oz := (S.out.at (.head _) 0).trans rfl; have sH := (S.out.at (.head _) 5).trans rfl; have jh := (S.out.at (.head _) 6).trans rfl)
    | fail)
   clear oz sH jh
   go_loopg [22] l.length (fun gg v22 wr => ∃ (pre rest : List ai), v22 = .int .i64 (pre.length : Int) ∧ ae (pre ++ rest = l) ∧ ae (oC id pre.length rest = R) ∧ rest.length ≤ gg ∧ ae (St w P [(some b2, .cells #[.int .u8 ck, .int .i64 cx, .int .i64 cy, .int .i64 cw, .int .i64 ch, .int .i64 aK, .slice A l.length cc] 26 (0, 0))] [] [(.slice A l.length cc, l)] [] wr))
   case atStart => exact ⟨[], l, rfl, ⟨rfl⟩, HR, Nat.le_refl _, S⟩
   case round =>
    clear S HR
    obtain ⟨pre, rest, rfl, HE, HR, hgg, S⟩ := hrel
    cases rest with
    | nil =>
     have hr := HR.out
     rw [rW] at hr
     replace HR := ae.mk hr.symm
     clear hr
     have hE := HE.out
     rw [List.append_nil] at hE
     have hE2 := hE.symm
     subst hE2
     clear hE HE hgg
     have hlt : ¬ ((l.length : Int) < (l.length : Int)) := by omega
     go_wp2_with (first
      | (refine gm 41 rfl ?_; refine lL (Kd.int .i64) 3 rfl 41 S ?_; clear S; intro An cn on dX S yg)
      | fail)
     go_ret2
     rw [HR.out]
     exact ⟨_, _, rfl, S.out.Fh yg.out (.head _), S.out.below⟩
    | cons k rest =>
     have hk : k ∈ l := by rw [← HE.out]; simp
     have hlt : (pre.length : Int) < (l.length : Int) := by rw [← HE.out, List.length_append, List.length_cons]; omega
     have hw1 : wrap64 ((pre.length : Int) + 1) = ((pre ++ [k]).length : Int) := by have := jl.out; rw [List.length_append, List.length_singleton]; unfold wrap64; omega
     have HW1 := ae.mk hw1
     have gz := ae.mk hgg
     have HK := ae.mk hk
     have Eh := ae.mk (show pre.length ≤ 1048576 by have := jl.out; omega)
     obtain ⟨ku, ua, uc, ek, S1⟩ := S.out.elem (.head _) (pre.length : Int) (Int.natCast_nonneg _) hlt
     subst ek
     have hrd : az l (pre.length : Int) = k := by rw [← HE.out]; exact lN pre k rest
     rw [hrd] at S1
     simp only [Int.toNat_natCast] at S1
     replace S := ae.mk S1
     clear S1 hrd hk hgg hw1
     cases hf : fA id k with
     | none =>
      have HF := ae.mk hf
      have hr := HR.out
      rw [oD, hf] at hr
      replace HR := ae.mk (show oC id (pre ++ [k]).length rest = R by rw [List.length_append]; exact hr)
      clear hf hr
      obtain ⟨gX, iY, jH, jv, jw, lD, lF⟩ := St.I4 S
      have jh := (S.out.at (.head _) 6).trans rfl
      go_wp2_with (first
       | (refine jb (some 32) Try.func90 (RP HF.out (IH.out k HK.out ua uc _ (S.out.tree _ (.head _)))) ?_; rintro e dJ ⟨Aq, cq, rfl, h1, hb⟩; refine ⟨_, rfl, ?_⟩; obtain ⟨oq, S1, hI⟩ := S.out.Fz (d := Kd.int .i64) (e := 3) rfl h1 hb; replace S := ae.mk S1; have lY := ae.mk hI; clear S1 hI h1 hb; clear gX iY jH jv jw lD lF jh)
       | fail)
      have hw1 := HW1.out
      go_wp2
      go_roundg rest.length
      case measure => exact Nat.lt_of_lt_of_le (Nat.lt_succ_self _) gz.out
      case rel => exact ⟨pre ++ [k], rest, (by rw [hw1]), ⟨by rw [List.append_assoc]; exact HE.out⟩, HR, Nat.le_refl _, ⟨S.out.dQ.dG.bQ.bQ.bQ.bQ.bQ.bQ.bQ⟩⟩
     | some q =>
      have HF := ae.mk hf
      have HQL := ae.mk (HQS.out k HK.out q hf)
      have hr := HR.out
      rw [oD, hf] at hr
      replace HR := ae.mk (show R = some ((pre.length : Int) :: q) from hr.symm)
      clear hf hr
      obtain ⟨gX, iY, jH, jv, jw, lD, lF⟩ := St.I4 S
      have jh := (S.out.at (.head _) 6).trans rfl
      go_wp2_with (first
       | (refine jb (some 32) Try.func90 (RP HF.out (IH.out k HK.out ua uc _ (S.out.tree _ (.head _)))) ?_; rintro e dJ ⟨Aq, cq, rfl, h1, hb⟩; refine ⟨_, rfl, ?_⟩; obtain ⟨oq, S1, hI⟩ := S.out.Fz (d := Kd.int .i64) (e := 3) rfl h1 hb; replace S := ae.mk S1; have lY := ae.mk hI; clear S1 hI h1 hb; clear gX iY jH jv jw lD lF jh)
       | (refine gm 37 rfl ?_; refine VD 37 (pre.length : Int) S ?_; clear S; intro An cn on dX S yg)
       | (refine gm 39 rfl ?_; at_builtin; refine KO (Kd.int .i64) 3 rfl 37 38 41 (.int .i64 0) 8 Try.underlying41 info3 rfl (by decide) (by decide) (by decide) S yg q (Uy lY.out S.out bG).1 (fun _ _ _ _ _ h => h) (by have := HQL.out; simp only [List.length_cons, List.length_nil]; omega) ?_; clear S yg; intro An2 cn2 on2 fU S yg)
       | fail)
      go_ret2
      rw [HR.out]
      exact ⟨_, _, rfl, S.out.Fh yg.out (.head _), S.out.below⟩
def ae2.T3 : Bool × List (List Nat × List Nat) := (true, [([], []), ([0], [0]), ([1], [1]), ([2], [2]), ([3], [3]), ([4], [4]), ([5, 4], [4, 5]), ([6, 4], [4, 6]), ([4], [4]), ([8, 4], [4, 8]), ([9, 4], [4, 9]), ([7, 10, 4], [4, 7, 10]), ([4, 11], [4, 11])])
def ae2.B3 : List Nat := [0, 1, 3, 7, 15, 31, 63, 127, 31, 287, 799, 2047, 4095]
def xe.T5 : Bool × List (List Nat × List Nat) := (true, [([], []), ([0], [0]), ([], []), ([2], [2]), ([3], [3]), ([1, 4], [1, 4]), ([5], [5]), ([], []), ([7], [7]), ([6, 8], [6, 8]), ([9], [9]), ([9], [9]), ([10, 9, 0, 1, 2, 3, 4, 5, 6, 7, 8, 9, 10, 11], [10]), ([11, 12, 0, 1, 2, 3, 4, 5, 6, 7, 8, 9, 10, 11, 12], [11])])
def xe.B5 : List Nat := [0, 1, 0, 4, 12, 31, 63, 0, 128, 511, 1023, 1023, 4095, 8191]
theorem xe.Iu : g_ .any (opsOf Try.f92 5) = xe.T5 := by kernel_rfl
theorem xe.DX : iL xe.T5.2 xe.B5 = true := by kernel_rfl
def AtV (w : World) (P : Nat → Prop) : Option ai → Ending → World → Prop
 | none, e, w' => ∃ A2 c2, e = .returned (.tuple #[.agg #[.int .u8 0, .int .i64 0, .int .i64 0, .int .i64 0, .int .i64 0, .int .i64 0, .slice A2 ([] : List ai).length c2], .bool false]) ∧ Kd.V k26 26 w' w.heap.size (fun k => P k ∨ w.heap.size ≤ k) (.slice A2 ([] : List ai).length c2) ([] : List ai) ∧ Below w.heap.size w w'
 | some z, e, w' => ∃ A2 c2, e = .returned (.tuple #[.agg #[.int .u8 z.f0, .int .i64 z.f1.f0, .int .i64 z.f1.f1, .int .i64 z.f1.f2, .int .i64 z.f1.f3, .int .i64 z.f2, .slice A2 z.f3.length c2], .bool true]) ∧ Kd.V k26 26 w' w.heap.size (fun k => P k ∨ w.heap.size ≤ k) (.slice A2 z.f3.length c2) z.f3 ∧ Below w.heap.size w w'
theorem af0 : ∀ (is : List Int) (c : ai) (P : Nat → Prop) (A : Option Addr) (cc : Nat) (B : Option Addr) (cb : Nat) (w : World), Kd.V k26 26 w w.heap.size P (.slice A c.f3.length cc) c.f3 → Kd.C (Kd.int .i64) w B is.length is → is.length ≤ cb →
  Calls Try.prog 92 #[.agg #[.int .u8 c.f0, .int .i64 c.f1.f0, .int .i64 c.f1.f1, .int .i64 c.f1.f2, .int .i64 c.f1.f3, .int .i64 c.f2, .slice A c.f3.length cc], .slice B is.length cb] w (AtV w P (oh c is)) := by
 intro is
 induction is with
 | nil =>
  intro c P A cc B cb w hv hi hb
  show Calls Try.prog 92 #[.agg #[.int .u8 c.f0, .int .i64 c.f1.f0, .int .i64 c.f1.f1, .int .i64 c.f1.f2, .int .i64 c.f1.f3, .int .i64 c.f2, .slice A c.f3.length cc], .slice B 0 cb] w (AtV w P (some c))
  have S := ae.mk (St.start (ts := [(.slice A c.f3.length cc, c.f3)]) (b0 := w.heap.size) (w := w) (P := P) (fun t ht => by rw [List.mem_singleton.1 ht]; exact hv))
  clear hv hi hb
  obtain ⟨ck, ⟨cx, cy, cw, ch⟩, aK, l⟩ := c
  simp only [] at S ⊢
  go_enter Try.func92, Try.ntmps92
  go_wp2_with (first | (refine boxS 2 _ 26 S ?_; clear S; intro b2 dJ S) | (refine boxS 4 _ 26 S ?_; clear S; intro b4 dX S; obtain ⟨oz, vK, vM, vN, vO, sH, jh⟩ := St.eQ S bG) | (refine iT 26 4 9 #[.int .u8 ck, .int .i64 cx, .int .i64 cy, .int .i64 cw, .int .i64 ch, .int .i64 aK, .slice A l.length cc] 0 7 S ?_; clear S; intro fU S; clear oz vK vM vN vO sH jh))
  refine bodyPost_ret (fC rfl _ _ b4 26 _ (0, 0) _ rfl (S.out.blk _ (.head _) _ rfl) Try.underlying26 rfl (by kernel_rfl)) rfl ?_
  exact ⟨_, _, rfl, S.out.VK (.head _), S.out.below⟩
 | cons i is ih =>
  intro c P A cc B cb w hv hi hb
  have IH := ae.mk ih
  have HI := ae.mk hi
  have LI := ae.mk hb
  have S := ae.mk (St.start (ts := [(.slice A c.f3.length cc, c.f3)]) (b0 := w.heap.size) (w := w) (P := P) (fun t ht => by rw [List.mem_singleton.1 ht]; exact hv))
  obtain ⟨Ei, rfl, xi⟩ := Kd.iy hi 0 (by omega) (by simp)
  rw [show ((0 : Int)).toNat = 0 from rfl, Addr.add_zero'] at xi
  have xi : w.cell? Ei = some (.int .i64 i) := xi
  replace S := ae.mk (S.out.lZ xi)
  have hlen0 : (0 : Int) < ((is.length : Int) + 1) := by omega
  have hl0 : ((is.length + 1 : Nat) : Int) = (is.length : Int) + 1 := by omega
  clear ih hv hi hb xi
  simp only [oh]
  obtain ⟨ck, ⟨cx, cy, cw, ch⟩, aK, l⟩ := c
  simp only [] at S ⊢
  simp only [List.length_cons] at HI LI ⊢
  by_cases h0 : i < 0
  ·rw [if_pos (.inl h0)]
   have wC : decide (i < 0) = true := decide_eq_true h0
   go_enter Try.func92, Try.ntmps92
   go_wp2_with (first | (refine boxS 2 _ 26 S ?_; clear S; intro b2 dJ S) | (refine boxS 4 _ 26 S ?_; clear S; intro b4 dX S; have gX := (S.out.cell _ (.head _)).1))
   go_quiet (fail)
   clear gX
   replace S := ae.mk (S.out.call (eH (Below.refl _ _) nq))
   generalize dX.drewN nq = Un at S ⊢
   go_wp2_with ((refine iT 26 4 23 #[.int .u8 0, .int .i64 0, .int .i64 0, .int .i64 0, .int .i64 0, .int .i64 0, .slice none 0 0] 0 7 S ?_; clear S; intro iW S))
   refine bodyPost_ret (fC rfl _ _ b4 26 _ (0, 0) _ rfl (S.out.blk _ (.head _) _ rfl) Try.underlying26 rfl (by kernel_rfl)) rfl ?_
   exact ⟨_, _, rfl, Kd.JG _ _ _ _ _, S.out.below⟩
  ·by_cases h1 : i ≥ (l.length : Int)
   ·rw [if_pos (.inr h1)]
    have wC : decide (i < 0) = false := decide_eq_false h0
    have h1b : decide (i ≥ (l.length : Int)) = true := decide_eq_true h1
    have h1c : decide ((l.length : Int) ≤ i) = true := decide_eq_true h1
    go_enter Try.func92, Try.ntmps92
    go_wp2_with (first | (refine boxS 2 _ 26 S ?_; clear S; intro b2 dJ S) | (refine boxS 4 _ 26 S ?_; clear S; intro b4 dX S; have gX := (S.out.cell _ (.head _)).1; have jh := (S.out.at bG 6).trans rfl))
    go_quiet (fail)
    clear gX jh
    replace S := ae.mk (S.out.call (eH (Below.refl _ _) nq))
    generalize dX.drewN nq = Un at S ⊢
    go_wp2_with ((refine iT 26 4 23 #[.int .u8 0, .int .i64 0, .int .i64 0, .int .i64 0, .int .i64 0, .int .i64 0, .slice none 0 0] 0 7 S ?_; clear S; intro iW S))
    refine bodyPost_ret (fC rfl _ _ b4 26 _ (0, 0) _ rfl (S.out.blk _ (.head _) _ rfl) Try.underlying26 rfl (by kernel_rfl)) rfl ?_
    exact ⟨_, _, rfl, Kd.JG _ _ _ _ _, S.out.below⟩
   ·rw [if_neg (fun h => h.elim h0 h1)]
    have wC : decide (i < 0) = false := decide_eq_false h0
    have h1b : decide (i ≥ (l.length : Int)) = false := decide_eq_false h1
    have h1c : decide ((l.length : Int) ≤ i) = false := decide_eq_false h1
    have h0z : 0 ≤ i := by omega
    have h1z : i < (l.length : Int) := by omega
    obtain ⟨ku, ua, uc, ek, S1⟩ := S.out.elem (.head _) i h0z h1z
    subst ek
    replace S := ae.mk S1
    clear S1
    generalize az l i = k at S ⊢
    obtain ⟨i0, hi0, _, hsz, _⟩ := info_parts info3
    have hcut := LD (P := Try.prog) 41 3 .i64 Try.underlying41 hi0 1 hsz (some Ei) (is.length + 1) cb 1 (by omega) (by omega)
    have hdrop := Kd.QQ HI.out (m := 1) (by rw [List.length_cons]; omega) LI.out
    obtain ⟨A2, hA2⟩ : ∃ A2, A2 = (if cb = (1 : Int).toNat then (some Ei) else ((some Ei) : Option Addr).map (·.add ((1 : Int).toNat * 1))) := ⟨_, rfl⟩
    obtain ⟨c2, hc2⟩ : ∃ c2, c2 = cb - (1 : Int).toNat := ⟨_, rfl⟩
    rw [← hA2, ← hc2, show is.length + 1 - (1 : Int).toNat = is.length by simp] at hcut
    have HI2 := ae.mk (show Kd.C (Kd.int .i64) w A2 is.length is by rw [hA2]; exact hdrop)
    have LI2 := ae.mk (show is.length ≤ c2 by have h3 := LI.out; rw [hc2]; simp; omega)
    have Pn := ae.mk hcut
    clear hdrop hA2 hc2 hi0 hsz hcut h0 h1
    have IY := fun Q W h1 h2 => IH.out k Q ua uc A2 c2 W h1 h2 LI2.out
    cases hp : oh k is with
    | none =>
     simp only [hp] at IY ⊢
     have hcut := Pn.out
     go_enter Try.func92, Try.ntmps92
     go_wp2_with (first | (refine boxS 2 _ 26 S ?_; clear S; intro b2 dJ S) | (refine boxS 4 _ 26 S ?_; clear S; intro b4 dX S; have Ce := (S.out.cell _ Jh).1; have jh := (S.out.at bG 6).trans rfl))
     go_quiet (fail)
     clear Ce jh
     replace S := ae.mk (S.out.call (eH (Below.refl _ _) nq))
     generalize dX.drewN nq = Un at S ⊢
     go_wp2
     refine ik (n := 14) (S := fun w' => St w _ _ _ _ _ w') (ds := [12]) (bA 14 0) (by kernel_rfl) rfl rfl (S.out.call (bg (Below.refl _ _))) (fun hHeld => ?_); refine ed xe.Iu xe.DX (fun aj dW => ?_)
     replace S := ae.mk (S.out.call (bg (Below.refl _ _)))
     generalize Un.drew = wd4 at S hHeld ⊢
     refine au 0 24 (bA 14 1) aj ?_
     refine dS 1 25 (bA 14 3) aj dW hHeld ?_ (hv := by intro w' hs_; have jh := (hs_.at bG 6).trans rfl; go_simp; with_reducible rfl)
     refine au 2 26 (bA 14 7) aj ?_
     refine au 3 27 (bA 14 15) aj ?_
     refine dS 4 28 (bA 14 31) aj dW hHeld ?_ (hv := by intro w' hs_; have Ce := (hs_.cell _ Jh).1; go_simp; with_reducible rfl)
     refine au 5 29 (bA 14 63) aj ?_
     refine dS 6 30 (bA 14 127) aj dW hHeld ?_ (hv := by intro w' hs_; have gX := (hs_.cell _ (.head _)).1; have iY := (hs_.cell _ bG).1; have jH := (hs_.cell _ dN).1; have jv := (hs_.cell _ kR).1; have jw := (hs_.cell _ qg).1; have lD := (hs_.cell _ zD).1; have lF := (hs_.cell _ zF).1; go_simp; with_reducible rfl)
     refine au 7 31 (bA 14 255) aj ?_
     refine au 8 32 (bA 14 511) aj ?_
     refine jR 9 (some 33) (bA 14 1023) aj (fun K hK => ?_)
     refine jB Try.func92 (by kernel_rfl) rfl #[.agg #[.int .u8 k.f0, .int .i64 k.f1.f0, .int .i64 k.f1.f1, .int .i64 k.f1.f2, .int .i64 k.f1.f3, .int .i64 k.f2, .slice ua k.f3.length uc], .slice A2 is.length c2] (by rfl) rfl rfl (by (try simp only [List.map_toArray, List.map_cons, List.map_nil]); rfl) ?_
     refine (IY _ _ (f_ (S.out.tree _ (.head _))) (Kd.fK HI2.out S.out.below)).mono ?_
     rintro e mG ⟨Ez, EW, rfl, h1, hb⟩
     refine ⟨_, rfl, ?_⟩
     replace S := ae.mk (S.out.res h1 hb)
     clear h1 hb
     refine hK.out _ _ S.out.dG (fun hHeld => ?_)
     clear hK K
     refine eF 33 ?_
     refine au 10 34 (bA 14 2047) aj ?_
     refine au 11 35 (bA 14 4095) aj ?_
     refine oH 12 none (bA 14 8191) aj (fun K hK => ?_)
     refine nU 0 rfl 26 (.tmp 4) (.tmp 34) rfl #[.int .u8 0, .int .i64 0, .int .i64 0, .int .i64 0, .int .i64 0, .int .i64 0, .slice Ez (([] : List ai).length) EW] (j := 0) (u := .agg #[.int .u8 0, .int .i64 0, .int .i64 0, .int .i64 0, .int .i64 0, .int .i64 0, .slice Ez (([] : List ai).length) EW]) (bJ := [.int .u8 0, .int .i64 0, .int .i64 0, .int .i64 0, .int .i64 0, .int .i64 0, .slice Ez (([] : List ai).length) EW]) S.out (by rfl) rfl rfl rfl rfl (by kernel_rfl) (by simp [Value.oneCell']) (by simp) rfl ?_
     intro Cb S1
     simp only [List.set_cons_zero, List.set_cons_succ] at S1
     replace S := ae.mk S1
     clear S1
     refine hK.out _ _ ?_
     clear hK K
     refine au 13 5 (bA 14 16383) aj ?_
     refine ji (fP aj.out (by kernel_rfl)) ?_
     clear hHeld
     go_wp2
     refine bodyPost_ret (fC rfl _ _ b4 26 _ (0, 0) _ rfl (S.out.blk _ (.head _) _ rfl) Try.underlying26 rfl (by kernel_rfl)) rfl ?_
     exact ⟨_, _, rfl, S.out.VK (.head _), S.out.below⟩
    | some z =>
     simp only [hp] at IY ⊢
     have hcut := Pn.out
     go_enter Try.func92, Try.ntmps92
     go_wp2_with (first | (refine boxS 2 _ 26 S ?_; clear S; intro b2 dJ S) | (refine boxS 4 _ 26 S ?_; clear S; intro b4 dX S; have Ce := (S.out.cell _ Jh).1; have jh := (S.out.at bG 6).trans rfl))
     go_quiet (fail)
     clear Ce jh
     replace S := ae.mk (S.out.call (eH (Below.refl _ _) nq))
     generalize dX.drewN nq = Un at S ⊢
     go_wp2
     refine ik (n := 14) (S := fun w' => St w _ _ _ _ _ w') (ds := [12]) (bA 14 0) (by kernel_rfl) rfl rfl (S.out.call (bg (Below.refl _ _))) (fun hHeld => ?_); refine ed xe.Iu xe.DX (fun aj dW => ?_)
     replace S := ae.mk (S.out.call (bg (Below.refl _ _)))
     generalize Un.drew = wd4 at S hHeld ⊢
     refine au 0 24 (bA 14 1) aj ?_
     refine dS 1 25 (bA 14 3) aj dW hHeld ?_ (hv := by intro w' hs_; have jh := (hs_.at bG 6).trans rfl; go_simp; with_reducible rfl)
     refine au 2 26 (bA 14 7) aj ?_
     refine au 3 27 (bA 14 15) aj ?_
     refine dS 4 28 (bA 14 31) aj dW hHeld ?_ (hv := by intro w' hs_; have Ce := (hs_.cell _ Jh).1; go_simp; with_reducible rfl)
     refine au 5 29 (bA 14 63) aj ?_
     refine dS 6 30 (bA 14 127) aj dW hHeld ?_ (hv := by intro w' hs_; have gX := (hs_.cell _ (.head _)).1; have iY := (hs_.cell _ bG).1; have jH := (hs_.cell _ dN).1; have jv := (hs_.cell _ kR).1; have jw := (hs_.cell _ qg).1; have lD := (hs_.cell _ zD).1; have lF := (hs_.cell _ zF).1; go_simp; with_reducible rfl)
     refine au 7 31 (bA 14 255) aj ?_
     refine au 8 32 (bA 14 511) aj ?_
     refine jR 9 (some 33) (bA 14 1023) aj (fun K hK => ?_)
     refine jB Try.func92 (by kernel_rfl) rfl #[.agg #[.int .u8 k.f0, .int .i64 k.f1.f0, .int .i64 k.f1.f1, .int .i64 k.f1.f2, .int .i64 k.f1.f3, .int .i64 k.f2, .slice ua k.f3.length uc], .slice A2 is.length c2] (by rfl) rfl rfl (by (try simp only [List.map_toArray, List.map_cons, List.map_nil]); rfl) ?_
     refine (IY _ _ (f_ (S.out.tree _ (.head _))) (Kd.fK HI2.out S.out.below)).mono ?_
     rintro e mG ⟨Ez, EW, rfl, h1, hb⟩
     refine ⟨_, rfl, ?_⟩
     replace S := ae.mk (S.out.res h1 hb)
     clear h1 hb
     refine hK.out _ _ S.out.dG (fun hHeld => ?_)
     clear hK K
     refine eF 33 ?_
     refine au 10 34 (bA 14 2047) aj ?_
     refine au 11 35 (bA 14 4095) aj ?_
     refine oH 12 none (bA 14 8191) aj (fun K hK => ?_)
     refine nU 0 rfl 26 (.tmp 4) (.tmp 34) rfl #[.int .u8 z.f0, .int .i64 z.f1.f0, .int .i64 z.f1.f1, .int .i64 z.f1.f2, .int .i64 z.f1.f3, .int .i64 z.f2, .slice Ez z.f3.length EW] (j := 0) (u := .agg #[.int .u8 z.f0, .int .i64 z.f1.f0, .int .i64 z.f1.f1, .int .i64 z.f1.f2, .int .i64 z.f1.f3, .int .i64 z.f2, .slice Ez z.f3.length EW]) (bJ := [.int .u8 z.f0, .int .i64 z.f1.f0, .int .i64 z.f1.f1, .int .i64 z.f1.f2, .int .i64 z.f1.f3, .int .i64 z.f2, .slice Ez z.f3.length EW]) S.out (by rfl) rfl rfl rfl rfl (by kernel_rfl) (by simp [Value.oneCell']) (by simp) rfl ?_
     intro Cb S1
     simp only [List.set_cons_zero, List.set_cons_succ] at S1
     replace S := ae.mk S1
     clear S1
     refine hK.out _ _ ?_
     clear hK K
     refine au 13 5 (bA 14 16383) aj ?_
     refine ji (fP aj.out (by kernel_rfl)) ?_
     clear hHeld
     go_wp2
     refine bodyPost_ret (fC rfl _ _ b4 26 _ (0, 0) _ rfl (S.out.blk _ (.head _) _ rfl) Try.underlying26 rfl (by kernel_rfl)) rfl ?_
     exact ⟨_, _, rfl, S.out.VK (.head _), S.out.below⟩
section
variable {W : World} {b : Nat} {P : Nat → Prop} {A B : Option Addr} {cc cb : Nat}
theorem zH (c : ai) (path : List Int) (z : ai) (hz : oh c path = some z) (hV : Kd.V k26 26 W b P (.slice A c.f3.length cc) c.f3) (hi : Kd.C (Kd.int .i64) W B path.length path) (hb : path.length ≤ cb) :
  Calls Try.prog 92 #[.agg #[.int .u8 c.f0, .int .i64 c.f1.f0, .int .i64 c.f1.f1, .int .i64 c.f1.f2, .int .i64 c.f1.f3, .int .i64 c.f2, .slice A c.f3.length cc], .slice B path.length cb] W fun e w' => ∃ A2 c2, e = .returned (.tuple #[.agg #[.int .u8 z.f0, .int .i64 z.f1.f0, .int .i64 z.f1.f1, .int .i64 z.f1.f2, .int .i64 z.f1.f3, .int .i64 z.f2, .slice A2 z.f3.length c2], .bool true]) ∧ Kd.V k26 26 w' W.heap.size (fun k => P k ∨ W.heap.size ≤ k) (.slice A2 z.f3.length c2) z.f3 ∧ Below W.heap.size W w' := by
 have h := af0 path c P A cc B cb W (f_ hV) hi hb
 rw [hz] at h
 exact h
end
theorem ZJ : ∀ (is : List Int) (c kid : ai) (P : Nat → Prop) (A : Option Addr) (cc : Nat) (Ak : Option Addr) (Af : Nat) (B : Option Addr) (cb : Nat) (w : World), sz c ≤ 1000000 → sz kid ≤ 1000000 →
  Kd.V k26 26 w w.heap.size P (.slice A c.f3.length cc) c.f3 → Kd.V k26 26 w w.heap.size P (.slice Ak kid.f3.length Af) kid.f3 → Kd.C (Kd.int .i64) w B is.length is → is.length ≤ cb → wP kid is c ≠ none →
  Calls Try.prog 102 #[.agg #[.int .u8 c.f0, .int .i64 c.f1.f0, .int .i64 c.f1.f1, .int .i64 c.f1.f2, .int .i64 c.f1.f3, .int .i64 c.f2, .slice A c.f3.length cc], .agg #[.int .u8 kid.f0, .int .i64 kid.f1.f0, .int .i64 kid.f1.f1, .int .i64 kid.f1.f2, .int .i64 kid.f1.f3, .int .i64 kid.f2, .slice Ak kid.f3.length Af], .slice B is.length cb] w (UA w P (wP kid is c)) := by
 intro is
 induction is with
 | nil =>
  intro c kid P A cc Ak Af B cb w hz Ti hv hvk hi hb _
  show Calls Try.prog 102 #[.agg #[.int .u8 c.f0, .int .i64 c.f1.f0, .int .i64 c.f1.f1, .int .i64 c.f1.f2, .int .i64 c.f1.f3, .int .i64 c.f2, .slice A c.f3.length cc], .agg #[.int .u8 kid.f0, .int .i64 kid.f1.f0, .int .i64 kid.f1.f1, .int .i64 kid.f1.f2, .int .i64 kid.f1.f3, .int .i64 kid.f2, .slice Ak kid.f3.length Af], .slice B 0 cb] w (UA w P (some kid))
  have S := ae.mk (St.start (ts := [(.slice A c.f3.length cc, c.f3), (.slice Ak kid.f3.length Af, kid.f3)]) (b0 := w.heap.size) (w := w) (P := P) (fun t ht => by
   rcases List.mem_cons.1 ht with rfl | ht
   ·exact hv
   ·rw [List.mem_singleton.1 ht]; exact hvk))
  have HZ := ae.mk hz
  have HZK := ae.mk Ti
  clear hz Ti hv hvk hi hb
  obtain ⟨ck, ⟨cx, cy, cw, ch⟩, aK, l⟩ := c
  obtain ⟨kk, ⟨kx, ky, kw, kh⟩, kid, m⟩ := kid
  simp only [] at S ⊢
  go_enter Try.func102, Try.ntmps102
  go_wp2_with (first
   | (refine boxS 3 _ 26 S ?_; clear S; intro b3 dJ S)
   | (refine boxS 4 _ 26 S ?_; clear S; intro b4 dX S)
   | (refine boxS 6 _ 26 S ?_; clear S; intro b6 fU S; obtain ⟨l7, nN, nO, qY, qZ, rf, o7⟩ := St.eQ S bG)
   | (refine jb (some 15) Try.func151 (EU 1000000 ⟨kk, ⟨kx, ky, kw, kh⟩, kid, m⟩ HZK.out (Nat.le_refl _) _ Ak Af _ (S.out.tree _ bG)) ?_; rintro e iW ⟨v, rfl, h1, hb⟩; refine ⟨_, rfl, ?_⟩; obtain ⟨afR, af7, ev⟩ := Kd.jm h1; subst ev; replace S := ae.mk (S.out.x_ h1 hb); clear h1 hb; clear l7 nN nO qY qZ rf o7)
   | (refine iT 26 6 15 #[.int .u8 kk, .int .i64 kx, .int .i64 ky, .int .i64 kw, .int .i64 kh, .int .i64 kid, .slice afR m.length af7] 0 7 S ?_; clear S; intro mG S)
   | fail)
  refine bodyPost_ret (fC rfl _ _ b6 26 _ (0, 0) _ rfl (S.out.blk _ (.head _) _ rfl) Try.underlying26 rfl (by kernel_rfl)) rfl ?_
  exact ⟨_, _, rfl, S.out.xY, S.out.below⟩
 | cons i is ih =>
  intro c kid P A cc Ak Af B cb w hz Ti hv hvk hi hb hne
  have IH := ae.mk ih
  have HI := ae.mk hi
  have LI := ae.mk hb
  have S := ae.mk (St.start (ts := [(.slice A c.f3.length cc, c.f3), (.slice Ak kid.f3.length Af, kid.f3)]) (b0 := w.heap.size) (w := w) (P := P) (fun t ht => by
   rcases List.mem_cons.1 ht with rfl | ht
   ·exact hv
   ·rw [List.mem_singleton.1 ht]; exact hvk))
  obtain ⟨Ei, rfl, xi⟩ := Kd.iy hi 0 (by omega) (by simp)
  rw [show ((0 : Int)).toNat = 0 from rfl, Addr.add_zero'] at xi
  have xi : w.cell? Ei = some (.int .i64 i) := xi
  replace S := ae.mk (S.out.lZ xi)
  have hlen0 : (0 : Int) < ((is.length : Int) + 1) := by omega
  have hl0 : ((is.length + 1 : Nat) : Int) = (is.length : Int) + 1 := by omega
  have HZ := ae.mk hz
  have HZK := ae.mk Ti
  have Ci := ae.mk hne
  clear ih hv hvk hi hb hne xi hz Ti
  simp only [wP] at Ci ⊢
  obtain ⟨ck, ⟨cx, cy, cw, ch⟩, aK, l⟩ := c
  obtain ⟨kk, ⟨kx, ky, kw, kh⟩, kid, m⟩ := kid
  simp only [] at S Ci ⊢
  simp only [List.length_cons] at HI LI ⊢
  have h0 : ¬ i < 0 := fun h => Ci.out (if_pos (.inl h))
  by_cases h1 : i ≥ (l.length : Int)
  ·exact absurd (if_pos (.inr h1)) Ci.out
  ·rw [if_neg (fun h => h.elim h0 h1)]
   have hne := Ci.out
   rw [if_neg (fun h => h.elim h0 h1)] at hne
   have wC : decide (i < 0) = false := decide_eq_false h0
   have h1b : decide (i ≥ (l.length : Int)) = false := decide_eq_false h1
   have h1c : decide ((l.length : Int) ≤ i) = false := decide_eq_false h1
   have h0z : 0 ≤ i := by omega
   have h1z : i < (l.length : Int) := by omega
   obtain ⟨ku, ua, uc, ek, S1⟩ := S.out.elem (.head _) i h0z h1z
   subst ek
   replace S := ae.mk S1
   have lC := ae.mk (show sz (az l i) ≤ 1000000 by have := xB (Gv l i h0z h1z); have := HZ.out; rw [df] at this; simp only [] at this; omega)
   clear S1
   generalize az l i = k at S lC hne ⊢
   obtain ⟨i0, hi0, _, hsz, _⟩ := info_parts info3
   have hcut := LD (P := Try.prog) 41 3 .i64 Try.underlying41 hi0 1 hsz (some Ei) (is.length + 1) cb 1 (by omega) (by omega)
   have hdrop := Kd.QQ HI.out (m := 1) (by rw [List.length_cons]; omega) LI.out
   obtain ⟨A2, hA2⟩ : ∃ A2, A2 = (if cb = (1 : Int).toNat then (some Ei) else ((some Ei) : Option Addr).map (·.add ((1 : Int).toNat * 1))) := ⟨_, rfl⟩
   obtain ⟨c2, hc2⟩ : ∃ c2, c2 = cb - (1 : Int).toNat := ⟨_, rfl⟩
   rw [← hA2, ← hc2, show is.length + 1 - (1 : Int).toNat = is.length by simp] at hcut
   have HI2 := ae.mk (show Kd.C (Kd.int .i64) w A2 is.length is by rw [hA2]; exact hdrop)
   have LI2 := ae.mk (show is.length ≤ c2 by have h3 := LI.out; rw [hc2]; simp; omega)
   have Pn := ae.mk hcut
   clear hdrop hA2 hc2 hi0 hsz hcut h0 h1
   have H0Z := ae.mk h0z
   have H1Z := ae.mk h1z
   cases hp : wP ⟨kk, ⟨kx, ky, kw, kh⟩, kid, m⟩ is k with
   | none => rw [hp] at hne; exact absurd rfl hne
   | some z =>
    have IY := fun Q W h1 h2 h3 => IH.out k ⟨kk, ⟨kx, ky, kw, kh⟩, kid, m⟩ Q ua uc Ak Af A2 c2 W lC.out HZK.out h1 h2 h3 LI2.out (by rw [hp]; simp)
    simp only [hp] at IY ⊢
    clear hne
    have hcut := Pn.out
    go_enter Try.func102, Try.ntmps102
    go_wp2_with (first
     | (refine boxS 3 _ 26 S ?_; clear S; intro b3 dJ S)
     | (refine boxS 4 _ 26 S ?_; clear S; intro b4 dX S)
     | (refine boxS 6 _ 26 S ?_; clear S; intro b6 fU S; have Ce := (S.out.cell _ Jh).1; have bu := (S.out.at dN 6).trans rfl)
     | fail)
    clear Ce bu
    refine ik (n := 15) (S := fun w' => St w _ _ _ _ _ w') (ds := [13]) (bA 15 0) (by kernel_rfl) rfl rfl (S.out.call (bg (Below.refl _ _))) (fun hHeld => ?_); refine ed xC.tab6 xC.F5 (fun aj dW => ?_)
    replace S := ae.mk (S.out.call (bg (Below.refl _ _)))
    generalize fU.drew = wd4 at S hHeld ⊢
    refine au 0 30 (bA 15 1) aj ?_
    refine dS 1 31 (bA 15 3) aj dW hHeld ?_ (hv := by intro w' hs_; have bu := (hs_.at dN 6).trans rfl; go_simp; with_reducible rfl)
    refine au 2 32 (bA 15 7) aj ?_
    refine au 3 33 (bA 15 15) aj ?_
    refine dS 4 34 (bA 15 31) aj dW hHeld ?_ (hv := by intro w' hs_; have gX := (hs_.cell _ (.head _)).1; have iY := (hs_.cell _ bG).1; have jH := (hs_.cell _ dN).1; have jv := (hs_.cell _ kR).1; have jw := (hs_.cell _ qg).1; have lD := (hs_.cell _ zD).1; have lF := (hs_.cell _ zF).1; go_simp; with_reducible rfl)
    refine dS 5 35 (bA 15 63) aj dW hHeld ?_ (hv := by intro w' hs_; have l7 := (hs_.at bG 0).trans rfl; have nN := (hs_.at bG 1).trans rfl; have nO := (hs_.at bG 2).trans rfl; have qY := (hs_.at bG 3).trans rfl; have qZ := (hs_.at bG 4).trans rfl; have rf := (hs_.at bG 5).trans rfl; have o7 := (hs_.at bG 6).trans rfl; go_simp; with_reducible rfl)
    refine au 6 36 (bA 15 127) aj ?_
    refine au 7 37 (bA 15 255) aj ?_
    refine zC (σ := Option Addr × Nat × Nat) 2 (bA 15 8191) (fun s_ => [(38, .tuple #[.agg #[.int .u8 z.f0, .int .i64 z.f1.f0, .int .i64 z.f1.f1, .int .i64 z.f1.f2, .int .i64 z.f1.f3, .int .i64 z.f2, .slice s_.1 z.f3.length s_.2.1], .bool true]), (29, .tuple #[.agg #[.int .u8 z.f0, .int .i64 z.f1.f0, .int .i64 z.f1.f1, .int .i64 z.f1.f2, .int .i64 z.f1.f3, .int .i64 z.f2, .slice s_.1 z.f3.length s_.2.1], .bool true]), (39, .agg #[.int .u8 z.f0, .int .i64 z.f1.f0, .int .i64 z.f1.f1, .int .i64 z.f1.f2, .int .i64 z.f1.f3, .int .i64 z.f2, .slice s_.1 z.f3.length s_.2.1]), (40, .bool true), (9, .pointer (some ⟨s_.2.2, 0, none⟩))]) (fun s_ w' => St w P [(some s_.2.2, .cells #[.int .u8 0, .int .i64 0, .int .i64 0, .int .i64 0, .int .i64 0, .int .i64 0, .slice none 0 0] 26 (0, 0)), (some b6, .cells #[.int .u8 0, .int .i64 0, .int .i64 0, .int .i64 0, .int .i64 0, .int .i64 0, .slice none 0 0] 26 (0, 0)), (some b4, .cells #[.int .u8 kk, .int .i64 kx, .int .i64 ky, .int .i64 kw, .int .i64 kh, .int .i64 kid, .slice Ak m.length Af] 26 (0, 0)), (some b3, .cells #[.int .u8 ck, .int .i64 cx, .int .i64 cy, .int .i64 cw, .int .i64 ch, .int .i64 aK, .slice (some ku) l.length cc] 26 (0, 0))] [] [(.slice s_.1 z.f3.length s_.2.1, z.f3), (.slice ua k.f3.length uc, k.f3), (.slice (some ku) l.length cc, l), (.slice Ak m.length Af, m)] [((ku.add (i.toNat * 7)), .int .u8 k.f0), (⟨(ku.add (i.toNat * 7)).block, (ku.add (i.toNat * 7)).off + 1, none⟩, .int .i64 k.f1.f0), (⟨(ku.add (i.toNat * 7)).block, (ku.add (i.toNat * 7)).off + 2, none⟩, .int .i64 k.f1.f1), (⟨(ku.add (i.toNat * 7)).block, (ku.add (i.toNat * 7)).off + 3, none⟩, .int .i64 k.f1.f2), (⟨(ku.add (i.toNat * 7)).block, (ku.add (i.toNat * 7)).off + 4, none⟩, .int .i64 k.f1.f3), (⟨(ku.add (i.toNat * 7)).block, (ku.add (i.toNat * 7)).off + 5, none⟩, .int .i64 k.f2), (⟨(ku.add (i.toNat * 7)).block, (ku.add (i.toNat * 7)).off + 6, none⟩, .slice ua k.f3.length uc), (Ei, .int .i64 i)] w') ?_ ?_
    rotate_left
    ·intro kM
     refine DN (i := 8) (j := 12) (Ni := some 38) (Nj := some 9) (bA 15 511) (bA 15 4351) rfl rfl rfl rfl (xM aj.out (by kernel_rfl)) (by decide) (by decide) (fun K hK => ?_) (fun K hK => ?_)
     ·skip
      refine BA Try.func102 #[.agg #[.int .u8 k.f0, .int .i64 k.f1.f0, .int .i64 k.f1.f1, .int .i64 k.f1.f2, .int .i64 k.f1.f3, .int .i64 k.f2, .slice ua k.f3.length uc], .agg #[.int .u8 kk, .int .i64 kx, .int .i64 ky, .int .i64 kw, .int .i64 kh, .int .i64 kid, .slice Ak m.length Af], .slice A2 is.length c2] ?_
      refine (IY _ _ (f_ (S.out.tree _ (.head _))) (f_ (S.out.tree _ dN)) (Kd.fK HI2.out S.out.below)).mono ?_
      rintro e mG ⟨EC, EX, rfl, h1, hb⟩
      refine ⟨_, rfl, ?_⟩
      replace S := ae.mk (S.out.res (Kd.qJ (base' := 0) h1) hb)
      clear h1 hb
      refine hK.out _ _ S.out.dG (fun hHeld => ?_)
      clear hK K
      refine eF 38 ?_
      refine au 9 29 (bA 15 1023) aj ?_
      refine au 10 39 (bA 15 2047) aj ?_
      refine au 11 40 (bA 15 4095) aj ?_
      refine jR 12 (some 9) (bA 15 8191) aj (fun K hK => ?_)
      refine jI ?hg (N := 9) ?hd (cs := #[.int .u8 0, .int .i64 0, .int .i64 0, .int .i64 0, .int .i64 0, .int .i64 0, .slice none 0 0]) (t := 26) ?hr ?_; (case hd => rfl); (case hg => rfl); (case hr => first | (go_simp; done) | (go_simp; rfl))
      intro b9 hg Cb hbox hb
      replace S := ae.mk (S.out.box hg hbox hb)
      clear hg hbox hb
      refine hK.out _ _ S.out.dQ.dG (fun hHeld => ?_)
      clear hK K
      refine eF 9 ?_
      exact lW (by simp only [iJ, Act.put, List.setIfInBounds_toArray, List.set_cons_zero, List.set_cons_succ] <;> rfl) (kM (EC, EX, b9) _ S.out)
     ·skip
      refine jI ?hg (N := 9) ?hd (cs := #[.int .u8 0, .int .i64 0, .int .i64 0, .int .i64 0, .int .i64 0, .int .i64 0, .slice none 0 0]) (t := 26) ?hr ?_; (case hd => rfl); (case hg => rfl); (case hr => first | (go_simp; done) | (go_simp; rfl))
      intro b9 hg zL hbox hb
      replace S := ae.mk (S.out.box hg hbox hb)
      clear hg hbox hb
      refine hK.out _ _ S.out.dQ (fun hHeld => ?_)
      clear hK K
      refine eF 9 ?_
      refine jR 8 (some 38) (bA 15 4607) aj (fun K hK => ?_)
      refine BA Try.func102 #[.agg #[.int .u8 k.f0, .int .i64 k.f1.f0, .int .i64 k.f1.f1, .int .i64 k.f1.f2, .int .i64 k.f1.f3, .int .i64 k.f2, .slice ua k.f3.length uc], .agg #[.int .u8 kk, .int .i64 kx, .int .i64 ky, .int .i64 kw, .int .i64 kh, .int .i64 kid, .slice Ak m.length Af], .slice A2 is.length c2] ?_
      refine (IY _ _ (f_ (S.out.tree _ (.head _))) (f_ (S.out.tree _ dN)) (Kd.fK HI2.out S.out.below)).mono ?_
      rintro e zM ⟨EC, EX, rfl, h1, hb⟩
      refine ⟨_, rfl, ?_⟩
      replace S := ae.mk (S.out.res (Kd.qJ (base' := 0) h1) hb)
      clear h1 hb
      refine hK.out _ _ S.out.dQ.dG (fun hHeld => ?_)
      clear hK K
      refine eF 38 ?_
      refine au 9 29 (bA 15 5119) aj ?_
      refine au 10 39 (bA 15 6143) aj ?_
      refine au 11 40 (bA 15 8191) aj ?_
      exact lW (by simp only [iJ, Act.put, List.setIfInBounds_toArray, List.set_cons_zero, List.set_cons_succ] <;> rfl) (kM (EC, EX, b9) _ S.out)
    rintro ⟨EC, EX, b9⟩ wj9 S1
    simp only [iJ, Act.put, List.setIfInBounds_toArray, List.set_cons_zero, List.set_cons_succ]
    replace S := ae.mk S1
    clear S1 hHeld
    have hHeld := S.out.dQ.dG
    refine oH 13 none (bA 15 16383) aj (fun K hK => ?_)
    refine nU 0 rfl 26 (.tmp 9) (.tmp 39) rfl #[.int .u8 z.f0, .int .i64 z.f1.f0, .int .i64 z.f1.f1, .int .i64 z.f1.f2, .int .i64 z.f1.f3, .int .i64 z.f2, .slice EC z.f3.length EX] (j := 0) (u := .agg #[.int .u8 z.f0, .int .i64 z.f1.f0, .int .i64 z.f1.f1, .int .i64 z.f1.f2, .int .i64 z.f1.f3, .int .i64 z.f2, .slice EC z.f3.length EX]) (bJ := [.int .u8 z.f0, .int .i64 z.f1.f0, .int .i64 z.f1.f1, .int .i64 z.f1.f2, .int .i64 z.f1.f3, .int .i64 z.f2, .slice EC z.f3.length EX]) S.out (by rfl) rfl rfl rfl rfl (by kernel_rfl) (by simp [Value.oneCell']) (by first | decide | simp) rfl ?_
    intro BQ S1
    simp only [List.set_cons_zero, List.set_cons_succ] at S1
    replace S := ae.mk S1
    clear S1
    refine hK.out _ _ ?_
    clear hK K
    refine au 14 10 (bA 15 32767) aj ?_
    refine ji (fP aj.out (by kernel_rfl)) ?_
    clear hHeld
    obtain ⟨a_, aW, aY, aX, bD, bH, bu⟩ := St.eQ S kR
    go_wp2_with (first
     | (refine jb (some 45) Try.func151 (EU 1000000 ⟨ck, ⟨cx, cy, cw, ch⟩, aK, l⟩ HZ.out (Nat.le_refl _) _ (some ku) cc _ (f_ (S.out.tree _ dN))) ?_; rintro e QJ ⟨v, rfl, h1, hb⟩; refine ⟨_, rfl, ?_⟩; obtain ⟨g45, WU, ev, _⟩ := Kd.xm h1 (by have := H1Z.out; have := H0Z.out; simp only []; omega); subst ev; replace S := ae.mk (S.out.x_ h1 hb); clear h1 hb; clear a_ aW aY aX bD bH bu)
     | (refine VW 26 3 45 #[.int .u8 ck, .int .i64 cx, .int .i64 cy, .int .i64 cw, .int .i64 ch, .int .i64 aK, .slice (some ⟨g45, 0, none⟩) l.length WU] 0 7 S ?_; clear S; intro agG S; obtain ⟨sK, Bi, vP, Bj, PL, PM, PN⟩ := St.eQ S (.head _); have bu := (S.out.at kR 6).trans rfl)
     | ((with_reducible refine lh (.store 26 (.tmp 50) (.tmp 49)) rfl ?_); go_loud (refine adu i z (.tmp 50) (.tmp 49) rfl S.out H0Z.out H1Z.out ?sA ?sX (by kernel_rfl) (.head _) rfl rfl ?_; (case sA => first | rfl | (go_simp; rfl)); (case sX => rfl); intro adG S1; replace S := ae.mk S1; clear S1); clear sK Bi vP Bj PL PM PN bu; obtain ⟨a_, aW, aY, aX, bD, bH, bu⟩ := St.eQ S kR)
     | (refine zQ 26 6 51 #[.int .u8 ck, .int .i64 cx, .int .i64 cy, .int .i64 cw, .int .i64 ch, .int .i64 aK, .slice (some ⟨g45, 0, none⟩) l.length WU] 0 7 S ?_; clear S; intro adH S; clear a_ aW aY aX bD bH bu)
     | fail)
    refine bodyPost_ret (fC rfl _ _ b6 26 _ (0, 0) _ rfl (S.out.blk _ bG _ rfl) Try.underlying26 rfl (by kernel_rfl)) rfl ?_
    simp only [UA, List.length_set]
    exact ⟨_, _, rfl, S.out.xY, S.out.below⟩
def ZY.T5 : Bool × List (List Nat × List Nat) := (true, [([], []), ([0], [0]), ([], []), ([2], [2]), ([3], [3]), ([1, 4], [1, 4]), ([5], [5]), ([], []), ([], []), ([8], [8]), ([6, 7, 9], [6, 7, 9]), ([10], [10]), ([11], [11]), ([11], [11]), ([], []), ([14, 12, 10, 0, 1, 2, 3, 4, 5, 6, 7, 8, 9, 10, 11, 12, 14], [12, 14]), ([13, 15, 0, 1, 2, 3, 4, 5, 6, 7, 8, 9, 10, 11, 12, 13, 14, 15], [13])])
def ZY.B5 : List Nat := [0, 1, 0, 4, 12, 31, 63, 0, 0, 256, 1023, 2047, 4095, 4095, 0, 24575, 65535]
def ZZ.T9 : Bool × List (List Nat × List Nat) := (true, [([], []), ([], []), ([1], [1]), ([2], [2]), ([], []), ([0, 3, 0, 1, 2, 3, 4], [0, 3]), ([5, 4, 0, 1, 2, 3, 4], [4, 5])])
def ZZ.B9 : List Nat := [0, 0, 2, 6, 0, 31, 63]
section
variable {W : World} {b b' : Nat} {P : Nat → Prop} {A A' B : Option Addr} {cc cc' cb : Nat}
theorem Xh (c kid : ai) (path : List Int) (z : ai) (hz : wP kid path c = some z) (hc : sz c ≤ 1000000) (hk : sz kid ≤ 1000000) (hV : Kd.V k26 26 W b P (.slice A c.f3.length cc) c.f3) (hV' : Kd.V k26 26 W b' P (.slice A' kid.f3.length cc') kid.f3) (hi : Kd.C (Kd.int .i64) W B path.length path) (hb : path.length ≤ cb) :
  Calls Try.prog 102 #[.agg #[.int .u8 c.f0, .int .i64 c.f1.f0, .int .i64 c.f1.f1, .int .i64 c.f1.f2, .int .i64 c.f1.f3, .int .i64 c.f2, .slice A c.f3.length cc], .agg #[.int .u8 kid.f0, .int .i64 kid.f1.f0, .int .i64 kid.f1.f1, .int .i64 kid.f1.f2, .int .i64 kid.f1.f3, .int .i64 kid.f2, .slice A' kid.f3.length cc'], .slice B path.length cb] W fun e w' => ∃ A2 c2, e = .returned (.tuple #[.agg #[.int .u8 z.f0, .int .i64 z.f1.f0, .int .i64 z.f1.f1, .int .i64 z.f1.f2, .int .i64 z.f1.f3, .int .i64 z.f2, .slice A2 z.f3.length c2], .bool true]) ∧ Kd.N k26 26 w' W.heap.size (fun k => P k ∨ W.heap.size ≤ k) (.slice A2 z.f3.length c2) z.f3 ∧ Below W.heap.size W w' := by
 have h := ZJ path c kid P A cc A' cc' B cb W hc hk (f_ hV) (f_ hV') hi hb (by rw [hz]; simp)
 rw [hz] at h
 exact h
theorem RN (id : Int) (c : ai) (r : Option (List Int)) (h : fA id c = r) (hc : sz c ≤ 1000000) (hV : Kd.V k26 26 W b P (.slice A c.f3.length cc) c.f3) :
  Calls Try.prog 89 #[.agg #[.int .u8 c.f0, .int .i64 c.f1.f0, .int .i64 c.f1.f1, .int .i64 c.f1.f2, .int .i64 c.f1.f3, .int .i64 c.f2, .slice A c.f3.length cc], .int .i64 id] W (yw W (r.getD []) r.isSome) := by
 have h2 := Kd.jZ hV
 refine (abX id 1000000 c hc (Nat.le_refl _) A cc W h2.2.2 h2.2.1).mono (fun e w' ⟨v, he, hR, hB⟩ => ?_)
 rw [h] at he hR
 obtain ⟨A2, c2, rfl⟩ := Kd.gQ hR
 exact ⟨A2, c2, he, hR, hB⟩
theorem zB (id : Int) (c : ai) (p : List Int) (h : fA id c = some p) (hc : sz c ≤ 1000000) (hV : Kd.V k26 26 W b P (.slice A c.f3.length cc) c.f3) :
  Calls Try.prog 89 #[.agg #[.int .u8 c.f0, .int .i64 c.f1.f0, .int .i64 c.f1.f1, .int .i64 c.f1.f2, .int .i64 c.f1.f3, .int .i64 c.f2, .slice A c.f3.length cc], .int .i64 id] W (yw W p true) := RN id c (some p) h hc hV
theorem Og (id : Int) (c : ai) (h : fA id c = none) (hc : sz c ≤ 1000000) (hV : Kd.V k26 26 W b P (.slice A c.f3.length cc) c.f3) :
  Calls Try.prog 89 #[.agg #[.int .u8 c.f0, .int .i64 c.f1.f0, .int .i64 c.f1.f1, .int .i64 c.f1.f2, .int .i64 c.f1.f3, .int .i64 c.f2, .slice A c.f3.length cc], .int .i64 id] W (yw W [] false) := RN id c none h hc hV
theorem OT (id : Int) (c : ai) (r : Option (List Int)) (h : fA id c = r) (hc : sz c ≤ 1000000) (hV : Kd.V k26 26 W b P (.slice A c.f3.length cc) c.f3) :
  Calls Try.prog 90 #[.agg #[.int .u8 c.f0, .int .i64 c.f1.f0, .int .i64 c.f1.f1, .int .i64 c.f1.f2, .int .i64 c.f1.f3, .int .i64 c.f2, .slice A c.f3.length cc], .int .i64 id] W (yw W (r.getD []) r.isSome) := by
 have h2 := ZO id 1000000 c hc (Nat.le_refl _) b P A cc W hV
 rwa [h] at h2
theorem yA (id : Int) (c : ai) (p : List Int) (h : fA id c = some p) (hc : sz c ≤ 1000000) (hV : Kd.V k26 26 W b P (.slice A c.f3.length cc) c.f3) :
  Calls Try.prog 90 #[.agg #[.int .u8 c.f0, .int .i64 c.f1.f0, .int .i64 c.f1.f1, .int .i64 c.f1.f2, .int .i64 c.f1.f3, .int .i64 c.f2, .slice A c.f3.length cc], .int .i64 id] W (yw W p true) := OT id c (some p) h hc hV
theorem Nq (id : Int) (c : ai) (h : fA id c = none) (hc : sz c ≤ 1000000) (hV : Kd.V k26 26 W b P (.slice A c.f3.length cc) c.f3) :
  Calls Try.prog 90 #[.agg #[.int .u8 c.f0, .int .i64 c.f1.f0, .int .i64 c.f1.f1, .int .i64 c.f1.f2, .int .i64 c.f1.f3, .int .i64 c.f2, .slice A c.f3.length cc], .int .i64 id] W (yw W [] false) := OT id c none h hc hV
end
theorem adl {kid x : ai} : ∀ (path : List Int) (c : ai), oh c path = some x → ∃ z, wP kid path c = some z := by
 intro path
 induction path with
 | nil => intro c _; exact ⟨kid, rfl⟩
 | cons i is ih =>
  intro c h
  simp only [oh] at h
  split at h
  ·cases h
  ·rename_i hi
   obtain ⟨z, hz⟩ := ih _ h
   refine ⟨⟨c.f0, c.f1, c.f2, c.f3.set i.toNat z⟩, ?_⟩
   simp only [wP]
   rw [if_neg hi, hz]
section
variable {Pr : Program} {ops : Array Oper} {rest : List Oper} {op : Oper} {a : Act} {Q : Exit → Act → World → Prop} {w W : World} {P : Nat → Prop} {bs : List (Option Nat × Obj)} {ow : List (Value × List ai)} {ts : List (Value × List ai)} {ro : List (Addr × Value)}
theorem uA (N : Option Tmp) {f : FuncId} {fn : Func} (hf : Pr.funcs[f]? = some fn) {ar : Array Operand} {GI : Array TypeId} {args : Array Value} {l : List Int} {F : Option Addr → Nat → Value} (S : ae (St w P bs ow ts ro W))
  (hc : Calls Pr f args W fun e w' => ∃ A c, e = .returned (F A c) ∧ (Kd.int .i64).R 3 w' W.heap.size (fun _ => True) (.slice A l.length c) l ∧ Below W.heap.size W w')
  (h : ∀ A c o w1, ae (St w P (((Value.slice A l.length c).ownBlock, o) :: bs) ow ts ro w1) → ae (IR w.heap.size (.slice A l.length c) l o) → wpList Pr ops Q rest (a.put N (F A c)) w1) (hd : op.dst = N := by rfl) (hg : op.guard = none := by rfl) (hop : op.op = .call { callee := .value (.func f), args := ar, argTypes := GI } := by rfl)
  (hname : (fn.name == "runtime.NumGoroutine") = false := by kernel_rfl) (hb : fn.body.isSome = true := by rfl) (hargs : ar.map a.eval = args := by ((try simp only [List.map_toArray, List.map_cons, List.map_nil]); first | done | rfl)) : wpList Pr ops Q (op :: rest) a W :=
 nC N hd hg hf hname hb args hop hargs (hc.mono fun e w1 ⟨A, c, he, h1, hb⟩ => by
  obtain ⟨o, S1, HI⟩ := S.out.V5 h1 hb
  exact ⟨_, he, h A c o w1 ⟨S1⟩ ⟨HI⟩⟩)
end
section
variable {base : Nat} {W : World} {A : Option Addr} {c : Nat} {l : List Int} {o : Obj} {w : World} {P : Nat → Prop} {bs : List (Option Nat × Obj)} {ow : List (Value × List ai)} {ts : List (Value × List ai)} {ro : List (Addr × Value)}
theorem EI (HI : IR base (.slice A l.length c) l o) (S : St w P bs ow ts ro W) (hm : ((Value.slice A l.length c).ownBlock, o) ∈ bs) : Kd.C (Kd.int .i64) W A l.length l ∧ l.length ≤ c :=
 have h := Kd.dP (HI W (S.blk _ hm))
 ⟨h.2.2, h.2.1⟩
theorem fD {q : List Int} {m : Nat} (HI : IR base (.slice A l.length c) l o) (S : St w P bs ow ts ro W) (hm : ((Value.slice A l.length c).ownBlock, o) ∈ bs) (hq : q = l.take m ∧ m ≤ l.length) : Kd.C (Kd.int .i64) W A q.length q ∧ q.length ≤ c := by
 obtain ⟨h1, h2⟩ := EI HI S hm
 rw [hq.1]
 exact ⟨Kd.aay h1 hq.2, by rw [List.length_take]; omega⟩
end
section
end
theorem St.join {w W W1 : World} {P : Nat → Prop} {bs : List (Option Nat × Obj)} {ts : List (Value × List ai)} {ro : List (Addr × Value)} {k : Option Nat} {o : Obj} {v : Value} {l : List ai} (S : St w P bs [] ts ro W) (T : St W (Ok w P (keys bs [])) [(k, o)] [(v, l)] [] [] W1) : St w P ((k, o) :: bs) [(v, l)] ts ro W1 := by
 have ke : ∀ x, x ∈ keys ((k, o) :: bs) [(v, l)] ↔ x ∈ keys [(k, o)] [(v, l)] ∨ x ∈ keys bs [] := fun x => by
  unfold keys
  simp only [List.filterMap_cons, List.filterMap_nil, List.flatMap_cons, List.flatMap_nil, List.append_nil]
  cases k <;> cases v.ownBlock <;> simp [or_comm, or_assoc]
 have hb : Below W.heap.size W W1 := T.below
 have hold : ∀ x, x ∈ keys bs [] → x < W.heap.size := fun x hx => S.lt hx
 have hnew : ∀ x, x ∈ keys [(k, o)] [(v, l)] → W.heap.size ≤ x := fun x hx => (T.new x hx).1
 refine ⟨ak S.below hb, fun p hp g hg => ?_, fun x hx => ?_, ?_, fun t ht => ?_, fun r hr => ?_, fun c hc => ?_⟩
 ·rcases List.mem_cons.1 hp with rfl | hp
  ·exact T.blk _ List.mem_cons_self g hg
  ·exact aI (S.blk p hp g hg) hb
 ·rcases (ke x).1 hx with h | h
  ·exact ⟨Nat.le_trans S.below.size (hnew x h), (T.new x h).2⟩
  ·exact ⟨(S.new x h).1, Nat.lt_of_lt_of_le (S.new x h).2 hb.size⟩
 ·have h1 := T.nd
  have h2 := S.nd
  have e : keys ((k, o) :: bs) [(v, l)] = (k.toList ++ bs.filterMap (·.1)) ++ v.ownBlock.toList := by
   unfold keys
   simp only [List.filterMap_cons, List.flatMap_cons, List.flatMap_nil, List.append_nil]
   cases k <;> cases v.ownBlock <;> rfl
  have e1 : keys [(k, o)] [(v, l)] = k.toList ++ v.ownBlock.toList := by
   unfold keys
   simp only [List.filterMap_cons, List.filterMap_nil, List.flatMap_cons, List.flatMap_nil, List.append_nil]
   cases k <;> cases v.ownBlock <;> rfl
  have e2 : keys bs [] = bs.filterMap (·.1) := by unfold keys; simp
  rw [e1] at h1 hnew
  rw [e2] at h2 hold
  rw [e]
  obtain ⟨a1, a2, a3⟩ := List.nodup_append.1 h1
  refine List.nodup_append.2 ⟨List.nodup_append.2 ⟨a1, h2, fun x hx y hy => ?_⟩, a2, fun x hx y hy => ?_⟩
  ·rintro rfl
   have := hold x hy
   have := hnew x (List.mem_append_left _ hx)
   omega
  ·rcases List.mem_append.1 hx with hx | hx
   ·exact a3 x hx y hy
   ·rintro rfl
    have := hold x hx
    have := hnew x (List.mem_append_right _ hy)
    omega
 ·exact Kd.gG (Kd.iI (Kd.z_ (S.tree t ht)) hb) (fun x h => ⟨h.1.1, fun hk => by
   rcases (ke x).1 hk with h2 | h2
   ·have := hnew x h2; have := h.2; omega
   ·exact h.1.2 h2⟩)
 ·rw [List.mem_singleton] at hr
  subst hr
  refine Kd.iE (Kd.uO (T.own _ (List.mem_singleton.2 rfl)) S.below.size) (fun x h => Or.imp (fun h => ⟨?_, fun hk => ?_⟩) id h)
  ·rcases h.1 with h1 | h1
   ·exact h1.1
   ·exact .inr (Nat.le_trans S.below.size h1)
  ·rcases (ke x).1 hk with h2 | h2
   ·exact h.2 h2
   ·rcases h.1 with h1 | h1
    ·exact h1.2 h2
    ·have := hold x h2; omega
 ·have hlt := World.block_lt_of_cell? W _ (S.cell c hc).1
  exact ⟨(hb.cell hlt).trans (S.cell c hc).1, fun hk => by
   rcases (ke _).1 hk with h2 | h2
   ·have := hnew _ h2; omega
   ·exact (S.cell c hc).2 h2⟩
end Go.Proofs.Ytfdmfgaiblfbhaa.P
namespace Go.Proofs.Ytfdmfgaiblfbhaa.Pure
open Go.RowKit Go.Proofs.Ytfdmfgaiblfbhaa.P Go.Proofs.ag.aT Go.Proofs.ag.bK Go.Proofs.ag.bY
theorem Ju : ∀ (a b : List ai), eG (a ++ b) = true → eG b = true := by
 intro a
 induction a with
 | nil => intro b h; exact h
 | cons x xs ih =>
  intro b h
  rw [List.cons_append] at h
  simp only [eG, Bool.and_eq_true] at h
  exact ih b h.2
theorem Jv (a b : List ai) (h : eG (a ++ b) = true) : eG a = true := by
 cases ha : eG a with
 | true => rfl
 | false => rw [xX a b ha] at h; cases h
theorem ZB {c x : ai} (h : kP c = true) (hx : x ∈ c.f3) : kP x = true := by
 have hs := mW h
 have hok := pR h
 have h1 := GH hx
 have h2 := df c
 have hd : eG (lK c) = true := by
  unfold kP at h
  simp only [Bool.and_eq_true] at h
  exact h.2.2
 unfold kP
 rw [decide_eq_true (by omega), OM hok hx, Bool.true_and, Bool.true_and]
 obtain ⟨p, q, e⟩ := List.append_of_mem hx
 have e2 : fJ c = (c :: allL p) ++ (fJ x ++ allL q) := by rw [pG, e, Be, kZ]; rfl
 unfold lK at hd ⊢
 rw [e2, List.filter_append, List.filter_append] at hd
 exact Jv _ _ (Ju _ _ hd)
theorem xK {c x : ai} (h : bZ c = true) (hx : x ∈ c.f3) : bZ x = true := by
 have hm := lg h
 unfold bZ at h ⊢
 simp only [Bool.and_eq_true] at h
 rw [ZB hm hx, zS h.2 hx]
 rfl
theorem kz {ax : Int} (hax : ax = 1 ∨ ax = 2) {c : ai} (h : bZ c = true) : aU ax c = aV ax c.f1 - dH ax c ∧ 0 ≤ aV ax c.f1 - dH ax c ∧ 1 ≤ dH ax c ∧ aV ax c.f1 ≤ 10000 := by
 have hm := lg h
 have hB : kD c = true := by
  unfold bZ at h
  simp only [Bool.and_eq_true] at h
  exact h.2
 have f := BF hax (sz c) c (Nat.le_refl _) (mW hm) (pR hm)
 have g := f.2 hB
 have r := mX (sQ (nT (pR hm))) hax
 unfold aU
 rw [if_pos ⟨hax, h⟩, wq (by omega) (by omega)]
 omega
end Go.Proofs.Ytfdmfgaiblfbhaa.Pure
namespace Go.Proofs.Ytfdmfgaiblfbhaa.P
open Go.RowKit Go.Proofs.ag.aT Go.Proofs.ag.bK Go.Proofs.ag.bY
theorem Jr {c : ai} (hk : c.f0 = 2 ∨ c.f0 = 3) : iV c = c.f3.map (fun k => aV (c.f0 - 1) k.f1) := by
 unfold iV
 apply List.map_congr_left
 intro k _
 unfold szK qi aV
 rcases hk with h | h
 ·rw [if_pos h, if_pos (by omega)]
 ·rw [if_neg (by omega), if_neg (by omega), if_pos (by omega)]
theorem O0 {a : Int} (ha : a = 2 ∨ a = 3) (r : dD) : tX (a - 1) r.f2 r.f3 = aV (a - 1) r ∧ tX (a - 1) r.f3 r.f2 = aV (4 - a) r := by
 rcases ha with h | h <;> simp [tX, aV, h]
theorem XV (c : ai) (hk : c.f0 = 2 ∨ c.f0 = 3) (hm : jQ c.f1 = true) (hl : c.f3.length ≤ 20000) (hne : 0 < c.f3.length) (hs : (c.f3.map (fun k => aV (c.f0 - 1) k.f1)).sum + (c.f3.length : Int) - 1 = aV (c.f0 - 1) c.f1) (hp : ∀ k, k ∈ c.f3 → 1 ≤ aV (c.f0 - 1) k.f1) : (xW c).2.2 = true := by
 have ha : yj c.f0 = c.f0 - 1 := by unfold yj; omega
 have hax : yj c.f0 = 1 ∨ yj c.f0 = 2 := by omega
 have hlen : (iV c).length = c.f3.length := by simp [iV]
 have hm' : oV c.f1.f0 c.f1.f1 c.f1.f2 c.f1.f3 = true := hm
 have hsz := Jr hk
 exact XT hax hm' (fun e => by rw [e] at hlen; simp at hlen; omega) (by rw [hlen, hsz, ha, (O0 hk c.f1).1]; omega) (fun m hm => by
  rw [hsz] at hm
  obtain ⟨k, hk2, rfl⟩ := List.mem_map.1 hm
  exact hp k hk2)
theorem TZ (a X Y W H : Int) (ha : a = 2 ∨ a = 3) (hX : 0 ≤ X ∧ X ≤ 10000) (hY : 0 ≤ Y ∧ Y ≤ 10000) : ∀ (l : List ai) (off : Int), 0 ≤ off → off + (l.map (fun k => aV (a - 1) k.f1)).sum + (l.length : Int) ≤ 1000000 →
  (∀ k, k ∈ l → 1 ≤ aV (a - 1) k.f1 ∧ aV (4 - a) k.f1 = tX (a - 1) H W) →
  rV (fun k r => qB k.f1 r) (jf a l (if a = 2 then X + off else X) (if a = 2 then Y else Y + off)) (xU (a - 1) X Y W H off (l.map (fun k => aV (a - 1) k.f1))) = true := by
 intro l
 induction l with
 | nil => intro off _ _ _; rw [lS]; rfl
 | cons k ks ih =>
  intro off h0 hs hk
  have h1 := hk k (by simp)
  have hp := Io (ks.map (fun k => aV (a - 1) k.f1)) (fun m hm => by
   obtain ⟨q, hq, rfl⟩ := List.mem_map.1 hm
   exact (hk q (by simp [hq])).1)
  rw [List.length_map] at hp
  rw [List.map_cons, List.sum_cons, List.length_cons] at hs
  have e := ih (off + aV (a - 1) k.f1 + 1) (by omega) (by omega) (fun q hq => hk q (by simp [hq]))
  have hb : off + aV (a - 1) k.f1 ≤ 1000000 := by omega
  rw [mY, List.map_cons]
  simp only [xU, rV, Bool.and_eq_true]
  rcases ha with rfl | rfl
  ·have hx : zh 2 k (X + off) = X + (off + aV (2 - 1) k.f1 + 1) := by
    simp only [zh, aV] at h1 hb ⊢
    simp at h1 hb ⊢
    rw [wp (x := k.f1.f2 + 1) (by omega) (by omega), wp (by omega) (by omega)]
    omega
   refine ⟨Dy.2 ?_, ?_⟩
   ·rw [kY]
    simp [tX, aV] at h1 ⊢
    exact h1.2
   ·simp only [if_true] at e ⊢
    rw [hx]
    exact e
  ·have hy : zi 3 k (Y + off) = Y + (off + aV (3 - 1) k.f1 + 1) := by
    simp only [zi, aV] at h1 hb ⊢
    simp at h1 hb ⊢
    rw [wp (x := k.f1.f3 + 1) (by omega) (by omega), wp (by omega) (by omega)]
    omega
   refine ⟨Dy.2 ?_, ?_⟩
   ·rw [kY]
    simp [tX, aV] at h1 ⊢
    exact h1.2
   ·simp only [show ¬ ((3 : Int) = 2) by decide, if_false] at e ⊢
    rw [hy]
    exact e
theorem adv (a : Int) (r : dD) (ha : a = 2 ∨ a = 3) (hr : jQ r = true) : ∀ (l : List ai) (off : Int), 0 ≤ off → off + (l.map (fun k => aV (a - 1) k.f1)).sum + (l.length : Int) - 1 ≤ aV (a - 1) r →
  (∀ k, k ∈ l → 1 ≤ aV (a - 1) k.f1 ∧ aV (4 - a) k.f1 = aV (4 - a) r) →
  ∀ z, z ∈ jf a l (if a = 2 then r.f0 + off else r.f0) (if a = 2 then r.f1 else r.f1 + off) → ∃ k, k ∈ l ∧ ∃ x y, z = dA k x y ∧ jQ ⟨x, y, k.f1.f2, k.f1.f3⟩ = true := by
 have hm := uU.1 hr
 intro l
 induction l with
 | nil => intro off _ _ _ z hz; rw [lS] at hz; cases hz
 | cons k ks ih =>
  intro off h0 hs hk z hz
  have h1 := hk k (by simp)
  have hp := Io (ks.map (fun k => aV (a - 1) k.f1)) (fun m hm => by
   obtain ⟨q, hq, rfl⟩ := List.mem_map.1 hm
   exact (hk q (by simp [hq])).1)
  rw [List.length_map] at hp
  rw [List.map_cons, List.sum_cons, List.length_cons] at hs
  have hb : off + aV (a - 1) k.f1 ≤ aV (a - 1) r := by omega
  rw [mY] at hz
  rcases List.mem_cons.1 hz with rfl | hz
  ·refine ⟨k, by simp, _, _, rfl, uU.2 ?_⟩
   rcases ha with rfl | rfl
   ·simp [aV] at h1 hb hm ⊢
    omega
   ·simp [aV] at h1 hb hm ⊢
    omega
  ·have e : ∃ q, q ∈ ks ∧ ∃ x y, z = dA q x y ∧ jQ ⟨x, y, q.f1.f2, q.f1.f3⟩ = true := by
    refine ih (off + aV (a - 1) k.f1 + 1) (by omega) (by omega) (fun q hq => hk q (by simp [hq])) z ?_
    rcases ha with rfl | rfl
    ·have hx : zh 2 k (r.f0 + off) = r.f0 + (off + aV (2 - 1) k.f1 + 1) := by
      simp [zh, aV] at h1 hb hm ⊢
      rw [wp (x := k.f1.f2 + 1) (by omega) (by omega), wp (by omega) (by omega)]
      omega
     simp only [if_true] at hz ⊢
     rw [hx] at hz
     exact hz
    ·have hy : zi 3 k (r.f1 + off) = r.f1 + (off + aV (3 - 1) k.f1 + 1) := by
      simp [zi, aV] at h1 hb hm ⊢
      rw [wp (x := k.f1.f3 + 1) (by omega) (by omega), wp (by omega) (by omega)]
      omega
     simp only [show ¬ ((3 : Int) = 2) by decide, if_false] at hz ⊢
     rw [hy] at hz
     exact hz
   obtain ⟨q, hq, e⟩ := e
   exact ⟨q, by simp [hq], e⟩
def wU (c : ai) : Prop := (fJ c).all l9 = true ∧ kD c = true
theorem EZ {c : ai} (h1 : l9 c = true) (h2 : mr c = true) (hk : ∀ k, k ∈ c.f3 → wU k) : wU c := by
 refine ⟨?_, ?_⟩
 ·rw [pG, List.all_cons, h1, Bool.true_and]
  have : ∀ l : List ai, (∀ k, k ∈ l → wU k) → (allL l).all l9 = true := by
   intro l
   induction l with
   | nil => intro _; rw [oQ]; rfl
   | cons x xs ih => intro h; rw [kZ, List.all_append, (h x (by simp)).1, ih (fun k hk => h k (by simp [hk]))]; rfl
  exact this c.f3 hk
 ·rw [sF, h2, Bool.true_and]
  exact List.all_eq_true.2 fun k hk2 => (hk k hk2).2
theorem Jj (a : Int) (r : dD) (l : List ai) (ha : a = 2 ∨ a = 3) (hr : jQ r = true) (hl : 2 ≤ l.length) (hl2 : l.length ≤ 20000) (hs : (l.map (fun k => aV (a - 1) k.f1)).sum + (l.length : Int) - 1 = aV (a - 1) r)
  (hk : ∀ k, k ∈ l → 1 ≤ aV (a - 1) k.f1 ∧ aV (4 - a) k.f1 = aV (4 - a) r) (hg : ∀ k, k ∈ l → ∀ x y, jQ ⟨x, y, k.f1.f2, k.f1.f3⟩ = true → wU (dA k x y)) : wU ⟨a, r, 0, jf a l r.f0 r.f1⟩ := by
 have hm := uU.1 hr
 have hsz : ∀ (l : List ai) (x y : Int) (f : ai → Int), (∀ k x y, f (dA k x y) = f k) → (jf a l x y).map f = l.map f := by
  intro l
  induction l with
  | nil => intro x y f _; rw [lS]
  | cons k ks ih => intro x y f hf; rw [mY, List.map_cons, List.map_cons, ih _ _ f hf, hf]
 have hin := adv a r ha hr l 0 (by omega) (by omega) hk
 have acT := TZ a r.f0 r.f1 r.f2 r.f3 ha (by omega) (by omega) l 0 (by omega) (by have := mX hr (ax := a - 1) (by omega); omega) (fun k h => by rw [(O0 ha r).2]; exact hk k h)
 have hxy : (if a = 2 then r.f0 + 0 else r.f0) = r.f0 ∧ (if a = 2 then r.f1 else r.f1 + 0) = r.f1 := by constructor <;> split <;> omega
 rw [hxy.1, hxy.2] at hin acT
 have hmap : ∀ l x y, (jf a l x y).map (fun k => aV (a - 1) k.f1) = l.map (fun k => aV (a - 1) k.f1) := fun l x y => hsz l x y _ (fun k x y => by rw [kY]; rfl)
 refine EZ ?_ ?_ (fun z hz => ?_)
 ·unfold l9
  simp only [hr, su, Bool.true_and]
  rw [decide_eq_true (show 1 ≤ a ∧ a ≤ 3 by omega), decide_eq_true (show a = 1 → l.length = 0 ∧ (0 : Int) ≤ 0 ∧ (0 : Int) ≤ 2147483647 from fun h => by omega), decide_eq_true (show a > 1 → 2 ≤ l.length ∧ True from fun _ => ⟨hl, trivial⟩)]
  rfl
 ·have ht : (xW ⟨a, r, 0, jf a l r.f0 r.f1⟩).2.2 = true := XV _ ha hr (by rw [su]; exact hl2) (by rw [su]; omega) (by simp only []; rw [hmap, su]; exact hs) (fun k hk2 => by
   obtain ⟨q, hq, x, y, rfl, _⟩ := hin k hk2
   rw [kY]
   exact (hk q hq).1)
  obtain ⟨_, gp, _, _⟩ := CJ ht
  rw [Jr (c := ⟨a, r, 0, jf a l r.f0 r.f1⟩) ha] at gp
  simp only [] at gp
  rw [hmap, show yj a = a - 1 by unfold yj; omega] at gp
  unfold mr BH
  rw [ht, gp, acT]
  simp only [Bool.true_and, Bool.and_true, Bool.or_eq_true]
  right
  have : ∀ (ns : List Int) (off : Int), (xU (a - 1) r.f0 r.f1 r.f2 r.f3 off ns).length = ns.length := fun ns off => Lt _ _ _ _ _ ns off
  rw [this, List.length_map, su]
  simp
 ·obtain ⟨q, hq, x, y, rfl, hm2⟩ := hin z hz
  exact hg q hq x y hm2
theorem DL (l : List Int) : total l = l.sum := by
 induction l with
 | nil => rfl
 | cons x xs ih => simp only [total, List.sum_cons, ih]
theorem adx {b : Int} {gs : List Int} (hl : gs.length ≤ 100000) (h0 : -2147483647 ≤ b) (h1 : b ≤ 2147483647) (hg : ∀ g, g ∈ gs → 0 ≤ g ∧ g ≤ 2147483647) (hne : gs ≠ []) (hb : -gs.sum ≤ b) :
  (qN b gs).2 = true ∧ (qN b gs).1.length = gs.length ∧ (qN b gs).1.sum = b ∧ ∀ p, p ∈ gs.zip (qN b gs).1 → -p.1 ≤ p.2 := by
 rcases (DF b gs hl h0 h1).1 with ⟨e, h⟩ | ⟨e, _, _, hb0⟩ | ⟨qs, e, _, _, hq, hgd, _, ho, _⟩
 ·exfalso
  rw [DL] at h
  rcases h with h | h | h
  ·exact hne h
  ·exact h hg
  ·omega
 ·rw [e]
  refine ⟨rfl, rY _ _, ?_, ?_⟩
  ·rw [← DL]
   exact NP b gs.length hb0 (List.length_pos_iff.2 hne)
  ·intro p hp
   obtain ⟨a1, a2⟩ := List.of_mem_zip hp
   have h2 := hg _ a1
   simp only [moreL, List.mem_map, List.mem_range] at a2
   obtain ⟨i, _, e2⟩ := a2
   have hn : (0 : Int) < (gs.length : Int) := by have := List.length_pos_iff.2 hne; omega
   have hd : 0 ≤ b / (gs.length : Int) := Int.ediv_nonneg hb0 (by omega)
   unfold qL at e2
   split at e2 <;> omega
 ·rw [e]
  refine ⟨rfl, by rw [← hq]; simp, by rw [← DL, ← Qn]; exact ho, fun p hp => ?_⟩
  simp only [] at hp
  rw [← hq, List.zip_map'] at hp
  obtain ⟨q, hq2, rfl⟩ := List.mem_map.1 hp
  exact (hgd q hq2).2.2.1
theorem KL (ax : Int) : ∀ (l : List ai) (ss : List Int) (ns : Nat → Int) (i : Nat), ss.length = l.length → (∀ j, j < l.length → ns (i + j) = ss.getD j 0) → kK ax l ns i = (l.zip ss).map fun p => fF ax p.1 p.2 := by
 intro l
 induction l with
 | nil => intro ss ns i _ _; rw [rM]; rfl
 | cons k ks ih =>
  intro ss ns i hl hn
  cases ss with
  | nil => simp at hl
  | cons s ss =>
   have h0 := hn 0 (by simp)
   rw [Nat.add_zero] at h0
   rw [uP, List.zip_cons_cons, List.map_cons, h0, ih ss ns (i + 1) (by simpa using hl) (fun j hj => by
    have := hn (j + 1) (by simpa using hj)
    rw [show i + 1 + j = i + (j + 1) by omega, this]
    rfl)]
   rfl
theorem O9 (f : ai → Int) : ∀ (l : List ai) (ss : List Int), ss.length = l.length → ((l.zip ss).map fun p => f p.1 + p.2).sum = (l.map f).sum + ss.sum := by
 intro l
 induction l with
 | nil => intro ss h; cases ss with
  | nil => rfl
  | cons s ss => simp at h
 | cons k ks ih =>
  intro ss h
  cases ss with
  | nil => simp at h
  | cons s ss =>
   rw [List.zip_cons_cons, List.map_cons, List.map_cons, List.sum_cons, List.sum_cons, List.sum_cons, ih ss (by simpa using h)]
   show f k + s + _ = _
   omega
theorem zip_fst (f : ai → Int) : ∀ (l : List ai) (ss : List Int), ss.length = l.length → ((l.zip ss).map fun p => f p.1) = l.map f := by
 intro l
 induction l with
 | nil => intro ss h; rfl
 | cons k ks ih =>
  intro ss h
  cases ss with
  | nil => simp at h
  | cons s ss => rw [List.zip_cons_cons, List.map_cons, List.map_cons, ih ss (by simpa using h)]
theorem CP {ax : Int} (hax : ax = 1 ∨ ax = 2) {r : dD} {b : Int} (h0 : 0 ≤ aV ax r + b) (h1 : aV ax r + b ≤ 100000) : aV ax (grow ax b r) = aV ax r + b ∧ aV (3 - ax) (grow ax b r) = aV (3 - ax) r := by
 rcases hax with rfl | rfl
 ·simp [aV, grow] at h0 h1 ⊢
  exact wp (by omega) (by omega)
 ·simp [aV, grow] at h0 h1 ⊢
  exact wp (by omega) (by omega)
theorem FI {c : ai} (h : bZ c = true) : kD c = true := by
 unfold bZ at h
 simp only [Bool.and_eq_true] at h
 exact h.2
theorem Xg {c : ai} (h : l9 c = true) (hk : c.f0 = 2 ∨ c.f0 = 3) : c.f2 = 0 := by
 unfold l9 at h
 simp only [Bool.and_eq_true, decide_eq_true_eq] at h
 exact (h.2 (by omega)).2
theorem Tt {ax : Int} (hax : ax = 1 ∨ ax = 2) : ∀ (N : Nat) (c : ai), sz c ≤ N → bZ c = true → ∀ b, dH ax c ≤ aV ax c.f1 + b → aV ax c.f1 + b ≤ 10000 → ∀ x y, jQ ⟨x, y, (grow ax b c.f1).f2, (grow ax b c.f1).f3⟩ = true → wU (dA (fF ax c b) x y) := by
 intro N
 induction N with
 | zero => intro c h; rw [df] at h; omega
 | succ N ih =>
  intro c hc ht b hb1 hb2 x y hr
  have hm := lg ht
  have hok := nT (pR hm)
  have hsm := mW hm
  have hB := FI ht
  have hsz := df c
  have hlen := jF c.f3
  rw [yE, kY]
  simp only []
  rcases yX hok with ⟨h1, h2⟩ | ⟨h1, h2⟩
  ·rw [List.eq_nil_of_length_eq_zero h2, rM, lS]
   refine EZ ?_ ?_ (fun k hk => by cases hk)
   ·unfold l9 at hok ⊢
    simp only [Bool.and_eq_true, decide_eq_true_eq, h1] at hok ⊢
    exact ⟨⟨⟨hr, by omega⟩, fun _ => ⟨rfl, (hok.1.2 trivial).2⟩⟩, fun h => by omega⟩
   ·unfold mr BH
    simp [h1]
  ·have RX : mr c = true := by rw [sF, Bool.and_eq_true] at hB; exact hB.1
   obtain ⟨g1, g2⟩ := BD RX h1 (by omega)
   have Fb : ∀ k, k ∈ c.f3 → sz k ≤ N ∧ bZ k = true ∧ aU ax k = aV ax k.f1 - dH ax k ∧ 0 ≤ aV ax k.f1 - dH ax k ∧ 1 ≤ dH ax k ∧ aV ax k.f1 ≤ 10000 ∧ ∀ a, a = 1 ∨ a = 2 → 1 ≤ aV a k.f1 := fun k hk => by
    have q := Pure.xK ht hk
    have q2 := Pure.kz hax q
    have q3 := GH hk
    exact ⟨by omega, q, q2.1, q2.2.1, q2.2.2.1, q2.2.2.2, fun a ha => (mX (sQ (nT (pR (lg q)))) ha).1⟩
   rw [Xg hok h1]
   have hw1 : 0 ≤ aV ax c.f1 + b := by
    have := (Pure.kz hax ht).2.2.1
    omega
   have hgr := CP hax (r := c.f1) (b := b) hw1 (by omega)
   have fin : ∀ ss : List Int, ss.length = c.f3.length → kK ax c.f3 (Jk ax c.f0 c.f3 b) 0 = (c.f3.zip ss).map (fun p => fF ax p.1 p.2) → (∀ p, p ∈ c.f3.zip ss → dH ax p.1 ≤ aV ax p.1.f1 + p.2 ∧ aV ax p.1.f1 + p.2 ≤ 10000) →
     (c.f0 - 1 = ax → ss.sum = b) → (4 - c.f0 = ax → ∀ p, p ∈ c.f3.zip ss → p.2 = b) → wU ⟨c.f0, ⟨x, y, (grow ax b c.f1).f2, (grow ax b c.f1).f3⟩, 0, jf c.f0 (kK ax c.f3 (Jk ax c.f0 c.f3 b) 0) x y⟩ := by
    intro ss hss L8 hp hal hcr
    have hf1 : ∀ p : ai × Int, (fF ax p.1 p.2).f1 = grow ax p.2 p.1.f1 := fun p => by rw [yE]
    have hpk : ∀ p, p ∈ c.f3.zip ss → p.1 ∈ c.f3 := fun p hq => (List.of_mem_zip hq).1
    have hps : ∀ p, p ∈ c.f3.zip ss → aV ax (fF ax p.1 p.2).f1 = aV ax p.1.f1 + p.2 ∧ aV (3 - ax) (fF ax p.1 p.2).f1 = aV (3 - ax) p.1.f1 := fun p hq => by
     rw [hf1]
     have := (Fb _ (hpk p hq)).2.2.2.2.1
     have := hp p hq
     exact CP hax (by omega) (by omega)
    rw [L8]
    refine Jj c.f0 ⟨x, y, (grow ax b c.f1).f2, (grow ax b c.f1).f3⟩ _ h1 hr (by simp [hss]; omega) (by simp [hss]; omega) ?_ ?_ ?_
    ·have e0 : ∀ a, aV a ⟨x, y, (grow ax b c.f1).f2, (grow ax b c.f1).f3⟩ = aV a (grow ax b c.f1) := fun a => rfl
     rw [e0, List.map_map, List.length_map, List.length_zip, hss, Nat.min_self]
     by_cases e : c.f0 - 1 = ax
     ·rw [e] at g1 ⊢
      have e2 : List.map ((fun k => aV ax k.f1) ∘ fun p : ai × Int => fF ax p.1 p.2) (c.f3.zip ss) = List.map (fun p => aV ax p.1.f1 + p.2) (c.f3.zip ss) := List.map_congr_left (fun p hq => (hps p hq).1)
      rw [hgr.1, e2, O9 (fun k => aV ax k.f1) _ _ hss, hal e]
      omega
     ·have e2 : c.f0 - 1 = 3 - ax := by omega
      rw [e2] at g1 ⊢
      have e3 : List.map ((fun k => aV (3 - ax) k.f1) ∘ fun p : ai × Int => fF ax p.1 p.2) (c.f3.zip ss) = List.map (fun p => aV (3 - ax) p.1.f1) (c.f3.zip ss) := List.map_congr_left (fun p hq => (hps p hq).2)
      rw [hgr.2, e3, zip_fst (fun k => aV (3 - ax) k.f1) _ _ hss]
      exact g1
    ·intro k hk
     obtain ⟨p, hq, rfl⟩ := List.mem_map.1 hk
     have q1 := hps p hq
     have q2 := Fb _ (hpk p hq)
     have q3 := hp p hq
     have q4 := g2 _ (hpk p hq)
     have e0 : ∀ a, aV a ⟨x, y, (grow ax b c.f1).f2, (grow ax b c.f1).f3⟩ = aV a (grow ax b c.f1) := fun a => rfl
     rw [e0]
     by_cases e : c.f0 - 1 = ax
     ·rw [show 4 - c.f0 = 3 - ax by omega, e, hgr.2, q1.1, q1.2]
      rw [show 3 - (c.f0 - 1) = 3 - ax by omega] at q4
      exact ⟨by omega, q4⟩
     ·have e2 : c.f0 - 1 = 3 - ax := by omega
      have e3 : 4 - c.f0 = ax := by omega
      rw [e2, e3, hgr.1, q1.1, q1.2]
      rw [show 3 - (c.f0 - 1) = ax by omega] at q4
      exact ⟨q2.2.2.2.2.2.2 _ (by omega), by rw [q4, hcr e3 p hq]⟩
    ·intro k hk x' y' hm2
     obtain ⟨p, hq, rfl⟩ := List.mem_map.1 hk
     have q2 := Fb _ (hpk p hq)
     have q3 := hp p hq
     rw [hf1] at hm2
     exact ih p.1 q2.1 q2.2.1 p.2 q3.1 q3.2 x' y' hm2
   have hrs := mX hr hax
   rw [show aV ax ⟨x, y, (grow ax b c.f1).f2, (grow ax b c.f1).f3⟩ = aV ax (grow ax b c.f1) from rfl, hgr.1] at hrs
   by_cases e : c.f0 - 1 = ax
   ·have ha : fG ax c.f0 = true := by
     unfold fG
     simp
     omega
    have hgs : c.f3.map (aU ax) = c.f3.map (fun k => aV ax k.f1 - dH ax k) := List.map_congr_left (fun k hk => (Fb k hk).2.2.1)
    have hsub : ∀ l : List ai, (l.map (fun k => aV ax k.f1 - dH ax k)).sum = (l.map (fun k => aV ax k.f1)).sum - lX ax l := by
     intro l
     induction l with
     | nil => rw [sD]; rfl
     | cons k ks ihk => rw [List.map_cons, List.map_cons, List.sum_cons, List.sum_cons, oM, ihk]; omega
    rw [qf, if_neg (by omega), ha, if_pos rfl] at hb1
    rw [e] at g1
    obtain ⟨s1, s2, s3, s4⟩ := adx (b := b) (gs := c.f3.map (aU ax)) (by simp; omega) (by have := mX (sQ hok) hax; omega) (by have := mX (sQ hok) hax; omega) (fun g hg => by
     obtain ⟨k, hk, rfl⟩ := List.mem_map.1 hg
     have := Fb k hk
     omega) (fun h => by rw [List.map_eq_nil_iff] at h; rw [h] at h2; simp at h2) (by rw [hgs, hsub]; omega)
    rw [List.length_map] at s2
    have hz : ∀ p, p ∈ c.f3.zip (qN b (c.f3.map (aU ax))).1 → -(aU ax p.1) ≤ p.2 := fun p hp => s4 (aU ax p.1, p.2) (by
     rw [List.zip_map_left]
     exact List.mem_map.2 ⟨p, hp, rfl⟩)
    have hle : ∀ p, p ∈ c.f3.zip (qN b (c.f3.map (aU ax))).1 → dH ax p.1 ≤ aV ax p.1.f1 + p.2 := fun p hp => by
     have q1 := hz p hp
     have q2 := Fb p.1 (List.of_mem_zip hp).1
     omega
    refine fin (qN b (c.f3.map (aU ax))).1 s2 (KL ax _ _ _ _ s2 (fun j hj => ?_)) (fun p hp => ⟨hle p hp, ?_⟩) (fun _ => s3) (fun h => by omega)
    ·rw [Nat.zero_add]
     unfold Jk
     rw [if_pos ⟨s1, ha⟩]
     rfl
    ·
     have q := O9 (fun k => aV ax k.f1) c.f3 (qN b (c.f3.map (aU ax))).1 s2
     rw [s3] at q
     obtain ⟨u, v, huv⟩ := List.append_of_mem hp
     have hpos : ∀ z : List (ai × Int), (∀ p, p ∈ z → p ∈ c.f3.zip (qN b (c.f3.map (aU ax))).1) → 0 ≤ (z.map fun p => aV ax p.1.f1 + p.2).sum := by
      intro z
      induction z with
      | nil => intro _; simp
      | cons w ws ihw =>
       intro hw
       have a1 := ihw (fun p hp => hw p (by simp [hp]))
       have a2 := hle w (hw w (by simp))
       have a3 := (Fb w.1 (List.of_mem_zip (hw w (by simp))).1).2.2.2.2.1
       rw [List.map_cons, List.sum_cons]
       omega
     have p1 := hpos u (fun p hp => by rw [huv]; simp [hp])
     have p2 := hpos v (fun p hp => by rw [huv]; simp [hp])
     rw [huv, List.map_append, List.map_cons, List.sum_append, List.sum_cons] at q
     omega
   ·have ha : fG ax c.f0 = false := by
     unfold fG
     simp
     omega
    have e3 : 4 - c.f0 = ax := by omega
    rw [qf, if_neg (by omega), ha, if_neg (by simp)] at hb1
    have aeN : ∀ k, k ∈ c.f3 → dH ax k ≤ lu ax 0 c.f3 := fun k hk => by
     obtain ⟨u, v, huv⟩ := List.append_of_mem hk
     rw [huv, TF, jY]
     exact Int.le_trans (Tv _ _) MS
    have hrep : ∀ p, p ∈ c.f3.zip (List.replicate c.f3.length b) → p.2 = b := fun p hp => (List.mem_replicate.1 (List.of_mem_zip hp).2).2
    refine fin (List.replicate c.f3.length b) (by simp) (KL ax _ _ _ _ (by simp) (fun j hj => ?_)) (fun p hp => ?_) (fun h => absurd h e) (fun _ => hrep)
    ·unfold Jk
     rw [if_neg (by rw [ha]; simp)]
     simp [List.getD_eq_getElem?_getD, hj]
    ·have q := (List.of_mem_zip hp).1
     rw [hrep p hp]
     have q1 := aeN p.1 q
     have q2 := g2 p.1 q
     rw [show 3 - (c.f0 - 1) = ax by omega] at q2
     omega
mutual
inductive nM : ai → ai → Prop
 | node (a : Int) (r r' : dD) (d : Int) (l l' : List ai) : sG l l' → nM ⟨a, r, d, l⟩ ⟨a, r', d, l'⟩
inductive sG : List ai → List ai → Prop
 | nil : sG [] []
 | cons {k k' : ai} {l l' : List ai} : nM k k' → sG l l' → sG (k :: l) (k' :: l')
end
def tag (d : ai) : Int × Int := (d.f0, d.f2)
mutual
theorem Dq : ∀ {c d : ai}, nM c d → (fJ c).map tag = (fJ d).map tag
 | _, _, .node a r r' d l l' h => by
  rw [pG, pG, List.map_cons, List.map_cons]
  exact congr (congrArg List.cons rfl) (Jg h)
theorem Jg : ∀ {l l' : List ai}, sG l l' → (allL l).map tag = (allL l').map tag
 | _, _, .nil => rfl
 | _, _, .cons h hs => by rw [kZ, kZ, List.map_append, List.map_append, Dq h, Jg hs]
end
theorem Je : ∀ {l l' : List ai}, sG l l' → l.length = l'.length
 | _, _, .nil => rfl
 | _, _, .cons _ hs => by rw [List.length_cons, List.length_cons, Je hs]
mutual
theorem wV {ax : Int} : ∀ {c d : ai}, nM c d → dH ax c = dH ax d
 | _, _, .node a r r' d l l' h => by
  rw [qf, qf]
  simp only []
  rw [Je h, Jf h, Gl h]
theorem Jf {ax : Int} : ∀ {l l' : List ai}, sG l l' → lX ax l = lX ax l'
 | _, _, .nil => rfl
 | _, _, .cons h hs => by rw [oM, oM, wV h, Jf hs]
theorem Gl {ax : Int} : ∀ {l l' : List ai} {m : Int}, sG l l' → lu ax m l = lu ax m l'
 | _, _, _, .nil => rfl
 | _, _, _, .cons h hs => by rw [jY, jY, wV h, Gl hs]
end
theorem Fg {c d : ai} (h : nM c d) : sz c = sz d := by
 have := congrArg List.length (Dq h)
 rwa [List.length_map, List.length_map] at this
theorem Qk : ∀ (N : Nat), (∀ c : ai, sz c ≤ N → ∀ d e, nM c d → nM d e → nM c e) ∧ (∀ l : List ai, dO l ≤ N → ∀ m n, sG l m → sG m n → sG l n) := by
 intro N
 induction N with
 | zero =>
  refine ⟨fun c h => by rw [df] at h; omega, fun l h m n h1 h2 => ?_⟩
  cases h1 with
  | nil => exact h2
  | cons a b => rw [bW, df] at h; omega
 | succ N ih =>
  have hC : ∀ c : ai, sz c ≤ N + 1 → ∀ d e, nM c d → nM d e → nM c e := by
   intro c h d e h1 h2
   cases h1 with
   | node a r r' i l l' h3 =>
    cases h2 with
    | node _ _ r2 _ _ l2 h4 => exact .node _ _ _ _ _ _ (ih.2 l (by rw [df] at h; simp only [] at h; omega) _ _ h3 h4)
  refine ⟨hC, fun l => ?_⟩
  induction l with
  | nil => intro _ m n h1 h2; cases h1; exact h2
  | cons x xs ihl =>
   intro h m n h1 h2
   rw [bW] at h
   cases h1 with
   | cons a b =>
    cases h2 with
    | cons a2 b2 => exact .cons (hC x (by omega) _ _ a a2) (ihl (by omega) _ _ b b2)
theorem UD (ax : Int) : ∀ (N : Nat), (∀ c : ai, sz c ≤ N → ∀ b, nM c (fF ax c b)) ∧ (∀ l : List ai, dO l ≤ N → ∀ ns i, sG l (kK ax l ns i)) := by
 intro N
 induction N with
 | zero =>
  refine ⟨fun c h => by rw [df] at h; omega, fun l h ns i => ?_⟩
  cases l with
  | nil => rw [rM]; exact .nil
  | cons x xs => rw [bW, df] at h; omega
 | succ N ih =>
  have hC : ∀ c : ai, sz c ≤ N + 1 → ∀ b, nM c (fF ax c b) := by
   intro c h b
   rw [yE]
   obtain ⟨a, r, d, l⟩ := c
   exact .node _ _ _ _ _ _ (ih.2 l (by rw [df] at h; simp only [] at h; omega) _ _)
  refine ⟨hC, fun l => ?_⟩
  induction l with
  | nil => intro _ ns i; rw [rM]; exact .nil
  | cons x xs ihl =>
   intro h ns i
   rw [bW] at h
   rw [uP]
   exact .cons (hC x (by omega) _) (ihl (by omega) _ _)
theorem FC : ∀ (N : Nat), (∀ c : ai, sz c ≤ N → ∀ x y, nM c (dA c x y)) ∧ (∀ l : List ai, dO l ≤ N → ∀ a x y, sG l (jf a l x y)) := by
 intro N
 induction N with
 | zero =>
  refine ⟨fun c h => by rw [df] at h; omega, fun l h a x y => ?_⟩
  cases l with
  | nil => rw [lS]; exact .nil
  | cons x xs => rw [bW, df] at h; omega
 | succ N ih =>
  have hC : ∀ c : ai, sz c ≤ N + 1 → ∀ x y, nM c (dA c x y) := by
   intro c h x y
   rw [kY]
   obtain ⟨a, r, d, l⟩ := c
   exact .node _ _ _ _ _ _ (ih.2 l (by rw [df] at h; simp only [] at h; omega) _ _ _)
  refine ⟨hC, fun l => ?_⟩
  induction l with
  | nil => intro _ a x y; rw [lS]; exact .nil
  | cons z zs ihl =>
   intro h a x y
   rw [bW] at h
   rw [mY]
   exact .cons (hC z (by omega) _ _) (ihl (by omega) _ _ _)
theorem LG : ∀ {a b : List ai}, a.map (·.f2) = b.map (·.f2) → eG a = eG b := by
 intro a
 induction a with
 | nil => intro b h; cases b with
  | nil => rfl
  | cons y ys => cases h
 | cons x xs ih =>
  intro b h
  cases b with
  | nil => cases h
  | cons y ys =>
   simp only [List.map_cons, List.cons.injEq] at h
   unfold eG
   rw [ih h.2, h.1]
   congr 1
   have e : ∀ l : List ai, (l.all fun z => decide (z.f2 ≠ y.f2)) = (l.map (·.f2)).all fun i => decide (i ≠ y.f2) := fun l => by rw [List.all_map]; rfl
   rw [e, e, h.2]
theorem VB {c d : ai} (h : nM c d) : (lK c).map (·.f2) = (lK d).map (·.f2) := by
 have e : ∀ l : List ai, (l.filter fun x => decide (x.f0 = 1)).map (·.f2) = ((l.map tag).filter fun p => decide (p.1 = 1)).map (·.2) := by
  intro l
  induction l with
  | nil => rfl
  | cons x xs ih =>
   rw [List.map_cons, List.filter_cons, List.filter_cons]
   have ht : (decide ((tag x).1 = 1)) = decide (x.f0 = 1) := rfl
   rw [ht]
   cases decide (x.f0 = 1) with
   | true => simp only [if_true, List.map_cons, ih]; rfl
   | false => simp only [Bool.false_eq_true, if_false, ih]
 unfold lK
 rw [e, e, Dq h]
theorem Gm {c d : ai} (h : nM c d) (hc : bZ c = true) (hd : wU d) : bZ d = true := by
 have hm := lg hc
 unfold kP at hm
 simp only [Bool.and_eq_true, decide_eq_true_eq] at hm
 unfold bZ kP
 rw [hd.1, hd.2, decide_eq_true (by rw [← Fg h]; exact hm.1), ← LG (VB h), hm.2.2]
 rfl
theorem V_ : ∀ (N : Nat) (c : ai), sz c ≤ N → bZ c = true → ∀ x y, jQ ⟨x, y, c.f1.f2, c.f1.f3⟩ = true → wU (dA c x y) := by
 intro N
 induction N with
 | zero => intro c h; rw [df] at h; omega
 | succ N ih =>
  intro c hc ht x y hr
  have hm := lg ht
  have hok := nT (pR hm)
  have hsm := mW hm
  have hB := FI ht
  have hsz := df c
  have hlen := jF c.f3
  rw [kY]
  rcases yX hok with ⟨h1, h2⟩ | ⟨h1, h2⟩
  ·rw [List.eq_nil_of_length_eq_zero h2, lS]
   refine EZ ?_ ?_ (fun k hk => by cases hk)
   ·unfold l9 at hok ⊢
    simp only [Bool.and_eq_true, decide_eq_true_eq, h1] at hok ⊢
    exact ⟨⟨⟨hr, by omega⟩, fun _ => ⟨rfl, (hok.1.2 trivial).2⟩⟩, fun h => by omega⟩
   ·unfold mr BH
    simp [h1]
  ·have RX : mr c = true := by rw [sF, Bool.and_eq_true] at hB; exact hB.1
   obtain ⟨g1, g2⟩ := BD RX h1 (by omega)
   rw [Xg hok h1]
   refine Jj c.f0 ⟨x, y, c.f1.f2, c.f1.f3⟩ c.f3 h1 hr h2 (by omega) g1 (fun k hk => ?_) (fun k hk x' y' hm2 => ?_)
   ·have q := Pure.xK ht hk
    have r := sQ (nT (pR (lg q)))
    refine ⟨(mX r (by omega)).1, ?_⟩
    have := g2 k hk
    rwa [show 3 - (c.f0 - 1) = 4 - c.f0 by omega] at this
   ·exact ih k (by have := GH hk; omega) (Pure.xK ht hk) x' y' hm2
theorem Ua {c : ai} (h : bZ c = true) {x y : Int} (hr : jQ ⟨x, y, c.f1.f2, c.f1.f3⟩ = true) : bZ (dA c x y) = true :=
 Gm ((FC (sz c)).1 c (Nat.le_refl _) x y) h (V_ _ c (Nat.le_refl _) h x y hr)
noncomputable def xR (ax n : Int) (k : ai) : ai := aZ ax (dA k 0 0) n
theorem Rl {ax n : Int} {k : ai} (hax : ax = 1 ∨ ax = 2) (ht : bZ k = true) (h0 : -(aU ax k) ≤ n) (h1 : aV ax k.f1 + n ≤ 10000) :
  bZ (xR ax n k) = true ∧ aV ax (xR ax n k).f1 = aV ax k.f1 + n ∧ aU ax (xR ax n k) = aU ax k + n ∧ sz (xR ax n k) = sz k := by
 have hm := lg ht
 have hr := uU.1 (show oV k.f1.f0 k.f1.f1 k.f1.f2 k.f1.f3 = true from sQ (nT (pR hm)))
 have g := Pure.kz hax ht
 have hz : jQ ⟨0, 0, k.f1.f2, k.f1.f3⟩ = true := show oV 0 0 k.f1.f2 k.f1.f3 = true from uU.2 (by omega)
 have ht0 := Ua ht hz
 have e0 : (dA k 0 0).f1 = ⟨0, 0, k.f1.f2, k.f1.f3⟩ := by rw [kY]
 have es : ∀ a, aV a (dA k 0 0).f1 = aV a k.f1 := fun a => by rw [e0]; rfl
 have hl0 := (FC (sz k)).1 k (Nat.le_refl _) 0 0
 have g0 := Pure.kz hax ht0
 have el : dH ax (dA k 0 0) = dH ax k := (wV hl0).symm
 rw [es, el] at g0
 have hsz : aV ax k.f1 = k.f1.f2 ∨ aV ax k.f1 = k.f1.f3 := by unfold aV; rcases hax with h | h <;> simp [h]
 have hbad : xP ax (dA k 0 0) = false := by
  unfold xP
  rw [ht0]
  rcases hax with h | h <;> simp [h]
 have hout : xQ ax (dA k 0 0) n = false := by
  unfold xQ
  rw [g0.1, e0]
  simp only []
  have hw : wrap64 (-(aV ax k.f1 - dH ax k)) = -(aV ax k.f1 - dH ax k) := by unfold wrap64; omega
  have hs : aV ax ⟨0, 0, wrap64 (0 + k.f1.f2), wrap64 (0 + k.f1.f3)⟩ = aV ax k.f1 := by
   rw [show wrap64 (0 + k.f1.f2) = k.f1.f2 by unfold wrap64; omega, show wrap64 (0 + k.f1.f3) = k.f1.f3 by unfold wrap64; omega]
   rfl
  rw [hs, show wrap64 (10000 - aV ax k.f1) = 10000 - aV ax k.f1 by unfold wrap64; omega, hw]
  rw [decide_eq_false (by omega), decide_eq_false (by omega)]
  rfl
 have L8 : xR ax n k = dA (fF ax (dA k 0 0) n) 0 0 := by
  unfold xR aZ
  rw [hbad, hout, e0]
  simp
 have hgr := CP hax (r := (dA k 0 0).f1) (b := n) (by rw [es]; omega) (by rw [es]; omega)
 have ef1 : (fF ax (dA k 0 0) n).f1 = grow ax n (dA k 0 0).f1 := by rw [yE]
 have eg : (xR ax n k).f1 = ⟨0, 0, (grow ax n (dA k 0 0).f1).f2, (grow ax n (dA k 0 0).f1).f3⟩ := by rw [L8, kY, ef1]
 have hsize : aV ax (xR ax n k).f1 = aV ax k.f1 + n := by rw [eg]; rw [es] at hgr; exact hgr.1
 have hmay : jQ ⟨0, 0, (grow ax n (dA k 0 0).f1).f2, (grow ax n (dA k 0 0).f1).f3⟩ = true := by
  show oV 0 0 (grow ax n (dA k 0 0).f1).f2 (grow ax n (dA k 0 0).f1).f3 = true
  refine uU.2 ?_
  have h3 := hgr.1
  have h4 := hgr.2
  rw [es] at h3 h4
  generalize grow ax n (dA k 0 0).f1 = G at h3 h4 ⊢
  have h5 : 1 ≤ aV ax k.f1 + n := by omega
  unfold aV at h3 h4 h1 h5
  rcases hax with rfl | rfl
  ·simp at h3 h4 h1 h5; omega
  ·simp at h3 h4 h1 h5; omega
 have aeK : wU (xR ax n k) := by
  rw [L8]
  exact Tt hax _ (dA k 0 0) (Nat.le_refl _) ht0 n (by rw [es, el]; omega) (by rw [es]; omega) 0 0 hmay
 have hl1 : nM (dA k 0 0) (xR ax n k) := by
  rw [L8]
  exact (Qk _).1 _ (Nat.le_refl _) _ _ ((UD ax _).1 _ (Nat.le_refl _) n) ((FC _).1 _ (Nat.le_refl _) 0 0)
 have htt := Gm hl1 ht0 aeK
 have g1 := Pure.kz hax htt
 refine ⟨htt, hsize, ?_, by rw [← Fg hl1, ← Fg hl0]⟩
 rw [g1.1, hsize, ← wV hl1, el, g.1]
 omega
def kd (L : List ai) (i : Nat) : ai := L.getD i z26
theorem vV {L : List ai} {i : Nat} (h : i < L.length) : kd L i ∈ L := by
 unfold kd
 rw [List.getD_eq_getElem?_getD, List.getElem?_eq_getElem h, Option.getD_some]
 exact List.getElem_mem _
theorem Qh (L : List ai) (i : Nat) : az L (i : Int) = kd L i := by unfold kd az; rw [Int.toNat_natCast]
theorem MO {L : List ai} {i j : Nat} {k : ai} (h : i < L.length) : kd (L.set i k) j = if j = i then k else kd L j := by
 unfold kd
 rw [List.getD_eq_getElem?_getD, List.getD_eq_getElem?_getD, List.getElem?_set]
 by_cases e : i = j
 ·subst e; rw [if_pos rfl, if_pos rfl, if_pos h]; rfl
 ·rw [if_neg e, if_neg (fun x => e x.symm)]
theorem ZW (f : ai → Int) : ∀ {L : List ai} {i : Nat} {k : ai}, i < L.length → ((L.set i k).map f).sum = (L.map f).sum - f (kd L i) + f k := by
 intro L
 induction L with
 | nil => intro i k h; simp at h
 | cons x xs ih =>
  intro i k h
  cases i with
  | zero => simp only [List.set_cons_zero, List.map_cons, List.sum_cons]; show _ = f x + _ - f x + f k; omega
  | succ i =>
   simp only [List.set_cons_succ, List.map_cons, List.sum_cons]
   rw [ih (by simpa using h)]
   show _ = f x + _ - f (kd xs i) + f k
   omega
theorem Wl : ∀ {L : List ai} {i : Nat} {k : ai}, i < L.length → sz k = sz (kd L i) → dO (L.set i k) = dO L := by
 intro L
 induction L with
 | nil => intro i k h; simp at h
 | cons x xs ih =>
  intro i k h hs
  cases i with
  | zero => rw [List.set_cons_zero, bW, bW, hs]; rfl
  | succ i => rw [List.set_cons_succ, bW, bW, ih (by simpa using h) hs]
theorem ac4 {f : ai → Int} : ∀ {L : List ai}, (∀ k, k ∈ L → 0 ≤ f k) → ∀ k, k ∈ L → f k ≤ (L.map f).sum := by
 intro L
 induction L with
 | nil => intro _ k h; cases h
 | cons x xs ih =>
  intro h k hk
  have h0 : ∀ l : List ai, (∀ k, k ∈ l → 0 ≤ f k) → 0 ≤ (l.map f).sum := by
   intro l
   induction l with
   | nil => intro _; exact Int.le_refl _
   | cons y ys ihl =>
    intro h
    have := h y (by simp)
    have := ihl (fun k hk => h k (by simp [hk]))
    rw [List.map_cons, List.sum_cons]
    omega
  rw [List.map_cons, List.sum_cons]
  have h1 := h x (by simp)
  have h2 := h0 xs (fun k hk => h k (by simp [hk]))
  rcases List.mem_cons.1 hk with rfl | hk
  ·omega
  ·have := ih (fun k hk => h k (by simp [hk])) k hk; omega
noncomputable def dL (ax : Int) (i : Nat) (n : Int) (L : List ai) : List ai := L.set i (xR ax n (kd L i))
structure qW (ax s : Int) (L : List ai) : Prop where
 rE : ∀ k, k ∈ L → bZ k = true
 sum : (L.map (fun k => aV ax k.f1)).sum = s
 small : s ≤ 10000
theorem qW.size {ax s : Int} {L : List ai} (hax : ax = 1 ∨ ax = 2) (h : qW ax s L) {k : ai} (hk : k ∈ L) : aV ax k.f1 ≤ s := by
 have := ac4 (f := fun k => aV ax k.f1) (fun k hk => by have := Pure.kz hax (h.rE k hk); omega) k hk
 rw [h.sum] at this
 exact this
theorem qW.move {ax s : Int} {L : List ai} (hax : ax = 1 ∨ ax = 2) (h : qW ax s L) {i : Nat} {n : Int} (hi : i < L.length) (h0 : -(aU ax (kd L i)) ≤ n) (h1 : s + n ≤ 10000) :
  qW ax (s + n) (dL ax i n L) ∧ aU ax (kd (dL ax i n L) i) = aU ax (kd L i) + n ∧ (∀ j, j ≠ i → kd (dL ax i n L) j = kd L j) ∧ (dL ax i n L).length = L.length ∧ dO (dL ax i n L) = dO L ∧ aV ax (kd (dL ax i n L) i).f1 = aV ax (kd L i).f1 + n := by
 have hm := vV hi
 have hs := h.size hax hm
 obtain ⟨k1, k2, k3, k4⟩ := Rl hax (h.rE _ hm) h0 (by omega)
 unfold dL
 refine ⟨⟨fun k hk => ?_, ?_, h1⟩, ?_, fun j hj => by rw [MO hi, if_neg hj], by rw [List.length_set], Wl hi k4, ?_⟩
 ·rcases List.mem_or_eq_of_mem_set hk with hk | rfl
  ·exact h.rE k hk
  ·exact k1
 ·rw [ZW _ hi, h.sum, k2]
  omega
 ·rw [MO hi, if_pos rfl, k3]
 ·rw [MO hi, if_pos rfl, k2]
structure uD (ax s : Int) (p N : Nat) (L0 L : List ai) (d : Int) : Prop where
 good : qW ax s L
 MZ : p < L.length
 d0 : 0 ≤ d
 dg : aU ax (kd L p) = aU ax (kd L0 p) + d
 ds : aV ax (kd L p).f1 = aV ax (kd L0 p).f1 + d
 z : dO L = N
 len : L.length = L0.length
theorem uD.start {ax s : Int} {p : Nat} {L : List ai} (h : qW ax s L) (hp : p < L.length) : uD ax s p (dO L) L L 0 := ⟨h, hp, Int.le_refl _, by omega, by omega, rfl, rfl⟩
theorem uD.small {ax s : Int} {p N : Nat} {L0 L : List ai} {d : Int} (hax : ax = 1 ∨ ax = 2) (h : uD ax s p N L0 L d) (h0 : 0 ≤ aU ax (kd L0 p)) : d ≤ 9999 := by
 have := Pure.kz hax (h.good.rE _ (vV h.MZ))
 have := h.dg
 omega
theorem uD.step {ax s : Int} {p N : Nat} {L0 L : List ai} {d n : Int} {i : Nat} (hax : ax = 1 ∨ ax = 2) (h : uD ax s p N L0 L d) (hi : i < L.length) (hne : i ≠ p) (hn0 : 0 ≤ n) (hn : n ≤ aU ax (kd L i)) :
  uD ax s p N L0 (dL ax p n (dL ax i (-n) L)) (d + n) := by
 obtain ⟨a1, a2, a3, a4, a5, a6⟩ := h.good.move hax hi (n := -n) (by omega) (by have := h.good.small; omega)
 have hp : p < (dL ax i (-n) L).length := by rw [a4]; exact h.MZ
 have e := a3 p (fun e => hne e.symm)
 have hg := Pure.kz hax (h.good.rE _ (vV h.MZ))
 obtain ⟨b1, b2, b3, b4, b5, b6⟩ := a1.move hax hp (n := n) (by rw [e]; omega) (by have := h.good.small; omega)
 have hd := h.dg
 have hs := h.ds
 have h0 := h.d0
 refine ⟨?_, by rw [b4]; exact hp, by omega, by rw [b2, e]; omega, by rw [b6, e]; omega, by rw [b5, a5]; exact h.z, by rw [b4, a4]; exact h.len⟩
 have e2 : s + -n + n = s := by omega
 rw [e2] at b1
 exact b1
def I7 (p : Nat → Bool) : Nat → Nat → Option Nat
 | 0, _ => none
 | f + 1, i => if p i = true then some i else I7 p f (i + 1)
def oG (p : Nat → Bool) : Nat → Option Nat
 | 0 => none
 | n + 1 => if p n = true then some n else oG p n
noncomputable def qx (ax : Int) (L : List ai) (i : Nat) : Bool := decide (0 < aU ax (kd L i))
noncomputable def mF (ax : Int) (q : Nat) (m : Bool) (L : List ai) : Option Nat :=
 match (if m = true then I7 (qx ax L) (L.length - (q + 1)) (q + 1) else none) with
 | some i => some i
 | none => oG (qx ax L) (if m = true then q else q + 1)
theorem Vd {p : Nat → Bool} : ∀ {f i j : Nat}, I7 p f i = some j → i ≤ j ∧ j < i + f ∧ p j = true := by
 intro f
 induction f with
 | zero => intro i j h; cases h
 | succ f ih =>
  intro i j h
  unfold I7 at h
  split at h
  ·rename_i hp; injection h with h; subst h; exact ⟨Nat.le_refl _, by omega, hp⟩
  ·obtain ⟨a, b, c⟩ := ih h; exact ⟨by omega, by omega, c⟩
theorem E8 {p : Nat → Bool} : ∀ {n j : Nat}, oG p n = some j → j < n ∧ p j = true := by
 intro n
 induction n with
 | zero => intro j h; cases h
 | succ n ih =>
  intro j h
  unfold oG at h
  split at h
  ·rename_i hp; injection h with h; subst h; exact ⟨by omega, hp⟩
  ·obtain ⟨a, b⟩ := ih h; exact ⟨by omega, b⟩
def place (q : Nat) (m : Bool) : Nat := if m = true then q else q + 1
theorem Bz {ax : Int} {q : Nat} {m : Bool} {L : List ai} {i : Nat} (h : mF ax q m L = some i) (hq : q + 1 < L.length) : i < L.length ∧ i ≠ place q m ∧ 0 < aU ax (kd L i) := by
 unfold mF at h
 unfold place
 cases m with
 | true =>
  simp only [if_true] at h ⊢
  cases hu : I7 (qx ax L) (L.length - (q + 1)) (q + 1) with
  | some j =>
   rw [hu] at h
   injection h with h
   subst h
   obtain ⟨a, b, c⟩ := Vd hu
   exact ⟨by omega, by omega, by simpa [qx] using c⟩
  | none =>
   rw [hu] at h
   obtain ⟨a, b⟩ := E8 h
   exact ⟨by omega, by omega, by simpa [qx] using b⟩
 | false =>
  simp only [Bool.false_eq_true, if_false] at h ⊢
  obtain ⟨a, b⟩ := E8 h
  exact ⟨by omega, by omega, by simpa [qx] using b⟩
noncomputable def gW (ax : Int) (q : Nat) (m : Bool) (left : Int) : Nat → List ai → Int → List ai × Int
 | 0, L, d => (L, d)
 | f + 1, L, d => if left ≤ d then (L, d) else match mF ax q m L with
  | none => (L, d)
  | some i => gW ax q m left f (dL ax (place q m) (mn (left - d) (aU ax (kd L i))) (dL ax i (-(mn (left - d) (aU ax (kd L i)))) L)) (d + mn (left - d) (aU ax (kd L i)))
theorem wY {ax : Int} {q : Nat} {m : Bool} {left : Int} {f : Nat} {L : List ai} {d : Int} (h : left ≤ d) : gW ax q m left f L d = (L, d) := by
 cases f with
 | zero => rfl
 | succ f => unfold gW; rw [if_pos h]
theorem zO {ax : Int} {q : Nat} {m : Bool} {left : Int} {f : Nat} {L : List ai} {d : Int} (h : mF ax q m L = none) : gW ax q m left f L d = (L, d) := by
 cases f with
 | zero => rfl
 | succ f => unfold gW; rw [h]; split <;> rfl
theorem wX {ax : Int} {q : Nat} {m : Bool} {left : Int} {f : Nat} {L : List ai} {d : Int} {i : Nat} (hl : ¬ left ≤ d) (h : mF ax q m L = some i) :
  gW ax q m left (f + 1) L d = gW ax q m left f (dL ax (place q m) (mn (left - d) (aU ax (kd L i))) (dL ax i (-(mn (left - d) (aU ax (kd L i)))) L)) (d + mn (left - d) (aU ax (kd L i))) := by
 rw [gW, if_neg hl, h]
theorem ac9 (a b : Int) : mn a b ≤ a := by unfold mn; split <;> omega
theorem ac_ (a b : Int) : mn a b ≤ b := by unfold mn; split <;> omega
theorem ac' {a b : Int} (h : 0 < a) (k : 0 < b) : 0 < mn a b := by unfold mn; split <;> omega
theorem Qr {ax s : Int} (hax : ax = 1 ∨ ax = 2) {q : Nat} {m : Bool} {left : Int} {N : Nat} {L0 : List ai} : ∀ (f : Nat) (L : List ai) (d : Int), uD ax s (place q m) N L0 L d → q + 1 < L.length →
  uD ax s (place q m) N L0 (gW ax q m left f L d).1 (gW ax q m left f L d).2 ∧ d ≤ (gW ax q m left f L d).2 ∧ (d ≤ left → (gW ax q m left f L d).2 ≤ left) := by
 intro f
 induction f with
 | zero => intro L d h _; exact ⟨h, Int.le_refl _, fun h => h⟩
 | succ f ih =>
  intro L d h hq
  by_cases hl : left ≤ d
  ·rw [wY hl]; exact ⟨h, Int.le_refl _, fun h => h⟩
  ·cases hg : mF ax q m L with
   | none => rw [zO hg]; exact ⟨h, Int.le_refl _, fun h => h⟩
   | some i =>
    rw [wX hl hg]
    obtain ⟨g1, g2, g3⟩ := Bz hg hq
    have n0 := ac' (a := left - d) (b := aU ax (kd L i)) (by omega) g3
    have n1 := ac9 (left - d) (aU ax (kd L i))
    have h2 := h.step hax g1 g2 (Int.le_of_lt n0) (ac_ _ _)
    obtain ⟨a, b, c⟩ := ih _ _ h2 (by rw [h2.len, ← h.len]; exact hq)
    exact ⟨a, by omega, fun _ => c (by omega)⟩
def qU (ax : Int) (c : ai) (p : List Int) (d : Nat) : Bool := match oh c (p.take d) with
 | some z => fG ax z.f0
 | none => false
def CO (ax : Int) (c : ai) (p : List Int) : Option Nat := oG (qU ax c p) p.length
theorem Cm : ∀ (p : List Int) (c x : ai), oh c p = some x → ∀ d, d < p.length → ∃ z, oh c (p.take d) = some z ∧ 0 ≤ rd p (d : Int) ∧ rd p (d : Int) < (z.f3.length : Int) := by
 intro p
 induction p with
 | nil => intro c x _ d h; simp at h
 | cons i is ih =>
  intro c x h d hd
  simp only [oh] at h
  split at h
  ·cases h
  ·rename_i hi
   cases d with
   | zero =>
    refine ⟨c, rfl, ?_⟩
    have e : rd (i :: is) ((0 : Nat) : Int) = i := rfl
    rw [e]
    omega
   | succ d =>
    obtain ⟨z, h1, h2⟩ := ih _ x h d (by simpa using hd)
    refine ⟨z, ?_, ?_⟩
    ·rw [List.take_succ_cons]
     simp only [oh]
     rw [if_neg hi]
     exact h1
    ·have e : rd (i :: is) ((d + 1 : Nat) : Int) = rd is (d : Int) := by unfold rd; rw [Int.toNat_natCast, Int.toNat_natCast]; rfl
     rw [e]
     exact h2
theorem UH : ∀ (p : List Int) (c z : ai), bZ c = true → oh c p = some z → bZ z = true := by
 intro p
 induction p with
 | nil => intro c z h e; simp only [oh] at e; injection e with e; rwa [← e]
 | cons i is ih =>
  intro c z h e
  simp only [oh] at e
  split at e
  ·cases e
  ·rename_i hi
   exact ih _ z (Pure.xK h (Gv c.f3 i (by omega) (by omega))) e
structure wF (ax : Int) (c : ai) (p : List Int) (d : Nat) (z : ai) (q : Nat) : Prop where
 hd : d < p.length
 at' : oh c (p.take d) = some z
 al : fG ax z.f0 = true
 i0 : 0 ≤ rd p (d : Int)
 i1 : rd p (d : Int) < (z.f3.length : Int)
 len : 2 ≤ z.f3.length
 hq : (q : Int) = mn (rd p (d : Int)) ((z.f3.length : Int) - 2)
theorem wF.next {ax : Int} {c : ai} {p : List Int} {d : Nat} {z : ai} {q : Nat} (h : wF ax c p d z q) : q + 1 < z.f3.length := by
 have h1 := h.hq
 have h2 := h.len
 unfold mn at h1
 split at h1 <;> omega
theorem PU {ax : Int} {c : ai} {p : List Int} {x : ai} {d : Nat} (hc : bZ c = true) (hx : oh c p = some x) (h : CO ax c p = some d) : ∃ z q, wF ax c p d z q ∧ bZ z = true := by
 obtain ⟨h1, h2⟩ := E8 h
 obtain ⟨z, e, i0, i1⟩ := Cm p c x hx d h1
 unfold qU at h2
 rw [e] at h2
 simp only [] at h2
 have ht := UH _ c z hc e
 have hk := yX (nT (pR (lg ht)))
 have hl : 2 ≤ z.f3.length := by
  rcases hk with ⟨a, _⟩ | ⟨_, b⟩
  ·unfold fG at h2; simp [a] at h2
  ·exact b
 refine ⟨z, (mn (rd p (d : Int)) ((z.f3.length : Int) - 2)).toNat, ⟨h1, e, h2, i0, i1, hl, ?_⟩, ht⟩
 have : 0 ≤ mn (rd p (d : Int)) ((z.f3.length : Int) - 2) := by unfold mn; split <;> omega
 omega
theorem PT {ax : Int} {z : ai} (hax : ax = 1 ∨ ax = 2) (ht : bZ z = true) (ha : fG ax z.f0 = true) : qW ax (aV ax z.f1 - ((z.f3.length : Int) - 1)) z.f3 := by
 have hm := lg ht
 have hB := FI ht
 have RX : mr z = true := by rw [sF, Bool.and_eq_true] at hB; exact hB.1
 have hs := mW hm
 have hz := df z
 have hl := jF z.f3
 have e : z.f0 - 1 = ax ∧ (z.f0 = 2 ∨ z.f0 = 3) := by
  unfold fG at ha
  simp at ha
  omega
 obtain ⟨g1, _⟩ := BD RX e.2 (by omega)
 rw [e.1] at g1
 have hg := Pure.kz hax ht
 have hk : 2 ≤ z.f3.length := by
  rcases yX (nT (pR hm)) with ⟨a, _⟩ | ⟨_, b⟩
  ·omega
  ·exact b
 exact ⟨fun k hk => Pure.xK ht hk, by omega, by omega⟩
noncomputable def qc (ax id : Int) (c : ai) : Int := if bZ c = true ∧ (ax = 1 ∨ ax = 2) then (match fA id c with
 | none => 6
 | some p => match CO ax c p with
  | none => 10
  | some _ => 0) else 1
end Go.Proofs.Ytfdmfgaiblfbhaa.P
namespace Go.Proofs.Ytfdmfgaiblfbhaa.P
open Go.RowKit Go.Proofs.ag.aT Go.Proofs.ag.bK Go.Proofs.ag.bY
attribute [local go_sem] je jO jr kC
def qO.T9 : Bool × List (List Nat × List Nat) := (true, [([], []), ([], []), ([], []), ([1, 2], [1, 2]), ([0, 3], [0, 3]), ([4], [4]), ([5], [5]), ([5], [5]), ([], []), ([8, 6, 4, 0, 1, 2, 3, 4, 5, 6, 8], [6, 8]), ([7, 9, 0, 1, 2, 3, 4, 5, 6, 7, 8, 9], [7])])
def qO.B9 : List Nat := [0, 0, 0, 6, 15, 31, 63, 63, 0, 383, 1023]
theorem qO.zk : g_ .any (opsOf Try.f157 9) = qO.T9 := by kernel_rfl
theorem qO.vI : iL qO.T9.2 qO.B9 = true := by kernel_rfl
def uX.T11 : Bool × List (List Nat × List Nat) := (true, [([], []), ([], []), ([], []), ([1, 2], [1, 2]), ([], []), ([], []), ([4, 5], [4, 5]), ([6], [6]), ([], []), ([8], [8]), ([9], [9]), ([10], [10]), ([7, 11], [7, 11]), ([], []), ([0, 3, 12, 13], [0, 3, 12, 13]), ([14, 0, 1, 2, 3, 4, 5, 6, 7, 8, 9, 10, 11, 12, 13, 14], [14]), ([15, 0, 1, 2, 3, 4, 5, 6, 7, 8, 9, 10, 11, 12, 13, 14, 15], [])])
def uX.B11 : List Nat := [0, 0, 0, 6, 0, 0, 48, 112, 0, 256, 768, 1792, 4080, 0, 16383, 32767, 65535]
theorem uX.ae3 : g_ .any (opsOf Try.f157 11) = uX.T11 := by kernel_rfl
theorem uX.abj : iL uX.T11.2 uX.B11 = true := by kernel_rfl
abbrev XG (w : World) (n : Int) (e : Ending) (w' : World) : Prop := e = .returned (.tuple #[.agg #[.int .u8 0, .int .i64 0, .int .i64 0, .int .i64 0, .int .i64 0, .int .i64 0, .slice none 0 0, .slice none 0 0, .int .i64 0, .int .u8 0], .int .i64 n]) ∧ Below w.heap.size w w'
abbrev aaC (w : World) (P : Nat → Prop) (ax : Int) (p : List Int) (d : Nat) (z : ai) (q : Nat) (e : Ending) (w' : World) : Prop := ∃ Az cz Ap cp op, e = .returned (.tuple #[.agg #[.int .u8 z.f0, .int .i64 z.f1.f0, .int .i64 z.f1.f1, .int .i64 z.f1.f2, .int .i64 z.f1.f3, .int .i64 z.f2, .slice Az z.f3.length cz, .slice Ap (p.take d).length cp, .int .i64 (q : Int), .int .u8 ax], .int .i64 0]) ∧ IR w.heap.size (.slice Ap p.length cp) p op ∧ St w P [((Value.slice Ap p.length cp).ownBlock, op)] [(.slice Az z.f3.length cz, z.f3)] [] [] w'
theorem Hg (c : ai) (hz : sz c ≤ 1000000) (id ax : Int) (b : Nat) (P : Nat → Prop) (A : Option Addr) (cc : Nat) (w : World) (hv : Kd.V k26 26 w b P (.slice A c.f3.length cc) c.f3) :
  (∀ n, qc ax id c = n → n ≠ 0 → Calls Try.prog 157 #[.agg #[.int .u8 c.f0, .int .i64 c.f1.f0, .int .i64 c.f1.f1, .int .i64 c.f1.f2, .int .i64 c.f1.f3, .int .i64 c.f2, .slice A c.f3.length cc], .int .i64 id, .int .u8 ax] w (XG w n)) ∧
  (∀ p d z q, bZ c = true → (ax = 1 ∨ ax = 2) → fA id c = some p → CO ax c p = some d → wF ax c p d z q → Calls Try.prog 157 #[.agg #[.int .u8 c.f0, .int .i64 c.f1.f0, .int .i64 c.f1.f1, .int .i64 c.f1.f2, .int .i64 c.f1.f3, .int .i64 c.f2, .slice A c.f3.length cc], .int .i64 id, .int .u8 ax] w (aaC w P ax p d z q)) := by
 have S := ae.mk (St.start (ts := [(.slice A c.f3.length cc, c.f3)]) (b0 := w.heap.size) (w := w) (P := P) (fun t ht => by rw [List.mem_singleton.1 ht]; exact f_ hv))
 have uM := ae.mk (show sz c ≤ 1048576 by omega)
 have HZ := ae.mk hz
 have hpl := fun p (h : fA id c = some p) => (Bq id (sz c)).1 c (Nat.le_refl _) p h
 clear hz hv
 obtain ⟨ck, ⟨cx, cy, cw, ch⟩, aK, l⟩ := c
 simp only [] at S ⊢
 constructor
 ·intro n hn hn0
  unfold qc at hn
  cases ht : bZ ⟨ck, ⟨cx, cy, cw, ch⟩, aK, l⟩ with
  | false =>
   rw [if_neg (fun h => by rw [ht] at h; cases h.1)] at hn
   subst hn
   have HT := ae.mk ht
   clear ht hn0 hpl
   go_enter Try.func157, Try.ntmps157
   go_wp2_with (first | (refine boxS 3 _ 26 S ?_; clear S; intro b3 dJ S) | (refine boxS 6 _ 147 S ?_; clear S; intro b6 dX S; obtain ⟨a_, aW, aY, aX, bD, bH, bu⟩ := St.eQ S bG) | ((with_reducible refine aA (N := 14) rfl ?_); refine pO (N := 14) rfl rfl ⟨ck, ⟨cx, cy, cw, ch⟩, aK, l⟩ S.out (S.out.tree _ (.head _)) ?hr ?_; (case hr => (go_simp; rfl)); intro O_ PO fU S1 h1 h2; replace S := ae.mk S1; have oO := ae.mk h1; have rG := ae.mk h2; clear S1 h1 h2; clear a_ aW aY aX bD bH bu) | (refine bP (some 15) Try.func148 S (kE HT.out (pW ⟨ck, ⟨cx, cy, cw, ch⟩, aK, l⟩ uM.out rG.out oO.out)) ?_; clear S; intro iW S) | (refine iT 147 6 25 #[.int .u8 0, .int .i64 0, .int .i64 0, .int .i64 0, .int .i64 0, .int .i64 0, .slice none 0 0, .slice none 0 0, .int .i64 0, .int .u8 0] 0 10 S ?_; clear S; intro mG S))
   refine bodyPost_ret (fC rfl _ _ b6 147 _ (0, 0) _ rfl (S.out.blk _ (.head _) _ rfl) Try.underlying147 rfl (by kernel_rfl)) rfl ?_
   exact ⟨rfl, S.out.below⟩
  | true =>
   have HT := ae.mk ht
   by_cases h1 : ax = 1 ∨ ax = 2
   case neg =>
    rw [if_neg (fun h => h1 h.2)] at hn
    subst hn
    obtain ⟨hxa, hxb, hxd⟩ := eqF (a := ax) (b := 1) (by omega)
    obtain ⟨hya, hyb, hyd⟩ := eqF (a := ax) (b := 2) (by omega)
    clear ht hn0 hpl h1
    go_enter Try.func157, Try.ntmps157
    go_wp2_with (first | (refine boxS 3 _ 26 S ?_; clear S; intro b3 dJ S) | (refine boxS 6 _ 147 S ?_; clear S; intro b6 dX S; obtain ⟨a_, aW, aY, aX, bD, bH, bu⟩ := St.eQ S bG) | ((with_reducible refine aA (N := 14) rfl ?_); refine pO (N := 14) rfl rfl ⟨ck, ⟨cx, cy, cw, ch⟩, aK, l⟩ S.out (S.out.tree _ (.head _)) ?hr ?_; (case hr => (go_simp; rfl)); intro O_ PO fU S1 h1 h2; replace S := ae.mk S1; have oO := ae.mk h1; have rG := ae.mk h2; clear S1 h1 h2; clear a_ aW aY aX bD bH bu) | (refine bP (some 15) Try.func148 S (kE HT.out (pW ⟨ck, ⟨cx, cy, cw, ch⟩, aK, l⟩ uM.out rG.out oO.out)) ?_; clear S; intro iW S) | (refine iT 147 6 25 #[.int .u8 0, .int .i64 0, .int .i64 0, .int .i64 0, .int .i64 0, .int .i64 0, .slice none 0 0, .slice none 0 0, .int .i64 0, .int .u8 0] 0 10 S ?_; clear S; intro mG S))
    refine bodyPost_ret (fC rfl _ _ b6 147 _ (0, 0) _ rfl (S.out.blk _ (.head _) _ rfl) Try.underlying147 rfl (by kernel_rfl)) rfl ?_
    exact ⟨rfl, S.out.below⟩
   rw [if_pos ⟨ht, h1⟩] at hn
   cases hf : fA id ⟨ck, ⟨cx, cy, cw, ch⟩, aK, l⟩ with
   | none =>
    rw [hf] at hn
    simp only [] at hn
    subst hn
    have sZ := ae.mk hf
    clear ht hn0 hpl hf
    have hw : ((ax != 1) = false ∧ decide (ax = 1) = true ∧ (ax == 1) = true) ∨ ((ax != 1) = true ∧ decide (ax = 1) = false ∧ (ax == 1) = false ∧ (ax != 2) = false ∧ decide (ax = 2) = true ∧ (ax == 2) = true) := by rcases h1 with h | h <;> subst h <;> simp
    rcases hw with ⟨hxa, hxb, Tf⟩ | ⟨hxa, hxb, Tf, hxd, hxe, hxf⟩
    all_goals
     clear h1
     go_enter Try.func157, Try.ntmps157
     go_wp2_with (first | (refine boxS 3 _ 26 S ?_; clear S; intro b3 dJ S) | (refine boxS 6 _ 147 S ?_; clear S; intro b6 dX S; obtain ⟨a_, aW, aY, aX, bD, bH, bu⟩ := St.eQ S bG) | ((with_reducible refine aA (N := 14) rfl ?_); refine pO (N := 14) rfl rfl ⟨ck, ⟨cx, cy, cw, ch⟩, aK, l⟩ S.out (S.out.tree _ (.head _)) ?hr ?_; (case hr => (go_simp; rfl)); intro O_ PO fU S1 h1 h2; replace S := ae.mk S1; have oO := ae.mk h1; have rG := ae.mk h2; clear S1 h1 h2; clear a_ aW aY aX bD bH bu) | (refine bP (some 15) Try.func148 S (kE HT.out (pW ⟨ck, ⟨cx, cy, cw, ch⟩, aK, l⟩ uM.out rG.out oO.out)) ?_; clear S; intro iW S; obtain ⟨a_, aW, aY, aX, bD, bH, bu⟩ := St.eQ S bG) | (refine uA (some 29) Try.func89 S (Og id ⟨ck, ⟨cx, cy, cw, ch⟩, aK, l⟩ sZ.out HZ.out (S.out.tree _ (.head _))) ?_; clear S; intro Ap cp op mG S iq; clear a_ aW aY aX bD bH bu) | (refine zQ 147 6 34 #[.int .u8 0, .int .i64 0, .int .i64 0, .int .i64 0, .int .i64 0, .int .i64 0, .slice none 0 0, .slice none 0 0, .int .i64 0, .int .u8 0] 0 10 S ?_; clear S; intro Cb S))
     refine bodyPost_ret (fC rfl _ _ b6 147 _ (0, 0) _ rfl (S.out.blk _ bG _ rfl) Try.underlying147 rfl (by kernel_rfl)) rfl ?_
     exact ⟨rfl, S.out.below⟩
   | some p =>
    rw [hf] at hn
    simp only [] at hn
    have uK := ae.mk (show p.length ≤ 1000000 by have := hpl p hf; have := HZ.out; omega)
    have sZ := ae.mk hf
    obtain ⟨x, hx, _⟩ := (Aj id _).1 _ (Nat.le_refl _) p hf
    have HX := ae.mk hx
    cases hfr : CO ax ⟨ck, ⟨cx, cy, cw, ch⟩, aK, l⟩ p with
    | some d => rw [hfr] at hn; exact absurd hn.symm hn0
    | none =>
     rw [hfr] at hn
     simp only [] at hn
     subst hn
     have HR := ae.mk (show oG (qU ax ⟨ck, ⟨cx, cy, cw, ch⟩, aK, l⟩ p) p.length = none from hfr)
     clear ht hn0 hpl hf hx hfr
     have hw : ((ax != 1) = false ∧ decide (ax = 1) = true ∧ (ax == 1) = true) ∨ ((ax != 1) = true ∧ decide (ax = 1) = false ∧ (ax == 1) = false ∧ (ax != 2) = false ∧ decide (ax = 2) = true ∧ (ax == 2) = true) := by rcases h1 with h | h <;> subst h <;> simp
     rcases hw with ⟨hxa, hxb, Tf⟩ | ⟨hxa, hxb, Tf, hxd, hxe, hxf⟩
     all_goals
      clear h1
      go_enter Try.func157, Try.ntmps157
      go_wp2_with (first | (refine boxS 3 _ 26 S ?_; clear S; intro b3 dJ S) | (refine boxS 6 _ 147 S ?_; clear S; intro b6 dX S; obtain ⟨a_, aW, aY, aX, bD, bH, bu⟩ := St.eQ S bG) | ((with_reducible refine aA (N := 14) rfl ?_); refine pO (N := 14) rfl rfl ⟨ck, ⟨cx, cy, cw, ch⟩, aK, l⟩ S.out (S.out.tree _ (.head _)) ?hr ?_; (case hr => (go_simp; rfl)); intro O_ PO fU S1 h1 h2; replace S := ae.mk S1; have oO := ae.mk h1; have rG := ae.mk h2; clear S1 h1 h2; clear a_ aW aY aX bD bH bu) | (refine bP (some 15) Try.func148 S (kE HT.out (pW ⟨ck, ⟨cx, cy, cw, ch⟩, aK, l⟩ uM.out rG.out oO.out)) ?_; clear S; intro iW S; obtain ⟨a_, aW, aY, aX, bD, bH, bu⟩ := St.eQ S bG) | (refine uA (some 29) Try.func89 S (zB id ⟨ck, ⟨cx, cy, cw, ch⟩, aK, l⟩ p sZ.out HZ.out (S.out.tree _ (.head _))) ?_; clear S; intro Ap cp op mG S iq; clear a_ aW aY aX bD bH bu))
      go_loopg [10] (p.length + 1) (fun gg v10 wr => ∃ n : Nat, v10 = .int .i64 ((n : Int) - 1) ∧ ae (n ≤ p.length) ∧ n ≤ gg ∧ ae (oG (qU ax ⟨ck, ⟨cx, cy, cw, ch⟩, aK, l⟩ p) n = none) ∧ ae (St w P [((Value.slice Ap p.length cp).ownBlock, op), (some b6, .cells #[.int .u8 0, .int .i64 0, .int .i64 0, .int .i64 0, .int .i64 0, .int .i64 0, .slice none 0 0, .slice none 0 0, .int .i64 0, .int .u8 0] 147 (0, 0)), (some b3, .cells #[.int .u8 ck, .int .i64 cx, .int .i64 cy, .int .i64 cw, .int .i64 ch, .int .i64 aK, .slice A l.length cc] 26 (0, 0))] [] [(.slice A l.length cc, l)] [] wr))
      case atStart => exact ⟨p.length, (by have := uK.out; congr 1; unfold wrap64; omega), ⟨Nat.le_refl _⟩, Nat.le_succ _, HR, S⟩
      case round =>
       clear S HR
       obtain ⟨n, rfl, HN, hgg, HR, S⟩ := hrel
       cases n with
       | zero =>
        go_wp2_with ((refine zQ 147 6 68 #[.int .u8 0, .int .i64 0, .int .i64 0, .int .i64 0, .int .i64 0, .int .i64 0, .slice none 0 0, .slice none 0 0, .int .i64 0, .int .u8 0] 0 10 S ?_; clear S; intro dJ S))
        refine bodyPost_ret (fC rfl _ _ b6 147 _ (0, 0) _ rfl (S.out.blk _ bG _ rfl) Try.underlying147 rfl (by kernel_rfl)) rfl ?_
        exact ⟨rfl, S.out.below⟩
       | succ n =>
        have e1 : (((n + 1 : Nat) : Int) - 1) = (n : Int) := by omega
        rw [e1]
        have mD := ae.mk (show n < p.length from HN.out)
        have gz := ae.mk hgg
        have hw : wrap64 ((n : Int) - 1) = (n : Int) - 1 := by have := HN.out; have := uK.out; unfold wrap64; omega
        have HW := ae.mk hw
        have h0 : decide ((n : Int) ≥ 0) = true := decide_eq_true (Int.natCast_nonneg _)
        have wC : (0 : Int) ≤ (n : Int) := Int.natCast_nonneg _
        obtain ⟨z, qp, hi0, hi1⟩ := Cm p ⟨ck, ⟨cx, cy, cw, ch⟩, aK, l⟩ _ HX.out n mD.out
        obtain ⟨pq, hpq⟩ : ∃ pq, pq = p.take n := ⟨_, rfl⟩
        have hal : qU ax ⟨ck, ⟨cx, cy, cw, ch⟩, aK, l⟩ p n = fG ax z.f0 := by unfold qU; rw [qp]
        rw [← hpq] at qp
        have HAT := ae.mk qp
        have jy := ae.mk (And.intro hpq (Nat.le_of_lt mD.out))
        have EG := ae.mk (show pq.length ≤ 1048576 by rw [hpq, List.length_take]; have := uK.out; omega)
        have hcut : ∀ W : World, (Instr.slice 41 (.slice Ap p.length cp) none (some (.int .i64 (n : Int))) none).run Try.prog W = .ok (.slice Ap pq.length cp) W := by
         intro W
         obtain ⟨i0, hi0, _, hsz, _⟩ := info_parts info3
         have h := F_ (P := Try.prog) 41 3 .i64 Try.underlying41 hi0 Ap p.length cp (n : Int) (Int.natCast_nonneg _) (by have := mD.out; omega) (EI iq.out S.out (.head _)).2 W
         rw [Int.toNat_natCast, show n = pq.length by rw [hpq, List.length_take]; have := mD.out; omega] at h
         rw [show n = pq.length by rw [hpq, List.length_take]; have := mD.out; omega]
         exact h
        have hr := HR.out
        rw [oG, hal] at hr
        clear hw hgg e1 hal hpq qp hi0 hi1
        cases ha : fG ax z.f0 with
        | false =>
         rw [ha, if_neg (by simp)] at hr
         replace HR := ae.mk hr
         have HA := ae.mk ha
         clear hr ha
         go_wp2
         refine ik (n := 11) (S := fun w' => St w _ _ _ _ _ w') (ds := [9]) (bA 11 0) (by kernel_rfl) rfl rfl (S.out.call (bg (Below.refl _ _))) (fun hHeld => ?_); refine ed qO.zk qO.vI (fun aj dW => ?_)
         replace S := ae.mk (S.out.call (bg (Below.refl _ _)))
         generalize wr.drew = yl at S hHeld ⊢
         refine dS 0 43 (bA 11 1) aj dW hHeld ?_ (hv := by intro w' hs_; have a_ := (hs_.at dN 0).trans rfl; have aW := (hs_.at dN 1).trans rfl; have aY := (hs_.at dN 2).trans rfl; have aX := (hs_.at dN 3).trans rfl; have bD := (hs_.at dN 4).trans rfl; have bH := (hs_.at dN 5).trans rfl; have bu := (hs_.at dN 6).trans rfl; go_simp; with_reducible rfl)
         refine au 1 44 (bA 11 3) aj ?_
         refine au 2 45 (bA 11 7) aj ?_
         refine au 3 46 (bA 11 15) aj ?_
         refine zC (σ := Option Addr × Nat × Nat) 2 (bA 11 511) (fun s_ => [(47, .tuple #[.agg #[.int .u8 z.f0, .int .i64 z.f1.f0, .int .i64 z.f1.f1, .int .i64 z.f1.f2, .int .i64 z.f1.f3, .int .i64 z.f2, .slice s_.1 z.f3.length s_.2.1], .bool true]), (42, .tuple #[.agg #[.int .u8 z.f0, .int .i64 z.f1.f0, .int .i64 z.f1.f1, .int .i64 z.f1.f2, .int .i64 z.f1.f3, .int .i64 z.f2, .slice s_.1 z.f3.length s_.2.1], .bool true]), (48, .agg #[.int .u8 z.f0, .int .i64 z.f1.f0, .int .i64 z.f1.f1, .int .i64 z.f1.f2, .int .i64 z.f1.f3, .int .i64 z.f2, .slice s_.1 z.f3.length s_.2.1]), (49, .bool true), (11, .pointer (some ⟨s_.2.2, 0, none⟩))]) (fun s_ w' => St w P [(some s_.2.2, .cells #[.int .u8 0, .int .i64 0, .int .i64 0, .int .i64 0, .int .i64 0, .int .i64 0, .slice none 0 0] 26 (0, 0)), ((Value.slice Ap p.length cp).ownBlock, op), (some b6, .cells #[.int .u8 0, .int .i64 0, .int .i64 0, .int .i64 0, .int .i64 0, .int .i64 0, .slice none 0 0, .slice none 0 0, .int .i64 0, .int .u8 0] 147 (0, 0)), (some b3, .cells #[.int .u8 ck, .int .i64 cx, .int .i64 cy, .int .i64 cw, .int .i64 ch, .int .i64 aK, .slice A l.length cc] 26 (0, 0))] [(.slice s_.1 z.f3.length s_.2.1, z.f3)] [(.slice A l.length cc, l)] [] w') ?_ ?_
         rotate_left
         ·intro kM
          refine DN (i := 4) (j := 8) (Ni := some 47) (Nj := some 11) (bA 11 31) (bA 11 271) rfl rfl rfl rfl (xM aj.out (by kernel_rfl)) (by decide) (by decide) (fun K hK => ?_) (fun K hK => ?_)
          ·skip
           refine jB Try.func91 (by kernel_rfl) rfl #[.agg #[.int .u8 ck, .int .i64 cx, .int .i64 cy, .int .i64 cw, .int .i64 ch, .int .i64 aK, .slice A l.length cc], .slice Ap pq.length cp] (by rfl) rfl rfl (by (try simp only [List.map_toArray, List.map_cons, List.map_nil]); rfl) ?_
           refine (GX ⟨ck, ⟨cx, cy, cw, ch⟩, aK, l⟩ pq z HAT.out EG.out HZ.out (S.out.tree _ (.head _)) (fD iq.out S.out (.head _) jy.out).1 (fD iq.out S.out (.head _) jy.out).2).mono ?_
           rintro e dX ⟨Az, cz, rfl, h1, hb⟩
           refine ⟨_, rfl, ?_⟩
           replace S := ae.mk (S.out.x_ h1 hb)
           clear h1 hb
           refine hK.out _ _ S.out.free.dG (fun hHeld => ?_)
           clear hK K
           refine eF 47 ?_
           refine au 5 42 (bA 11 63) aj ?_
           refine au 6 48 (bA 11 127) aj ?_
           refine au 7 49 (bA 11 255) aj ?_
           refine jR 8 (some 11) (bA 11 511) aj (fun K hK => ?_)
           refine jI ?hg (N := 11) ?hd (cs := #[.int .u8 0, .int .i64 0, .int .i64 0, .int .i64 0, .int .i64 0, .int .i64 0, .slice none 0 0]) (t := 26) ?hr ?_; (case hd => rfl); (case hg => rfl); (case hr => (go_simp; done))
           intro b11 hg fU hbox hb
           replace S := ae.mk (S.out.box hg hbox hb)
           clear hg hbox hb
           refine hK.out _ _ S.out.dQ.free.dG (fun hHeld => ?_)
           clear hK K
           refine eF 11 ?_
           exact lW (by simp only [iJ, Act.put, List.setIfInBounds_toArray, List.set_cons_zero, List.set_cons_succ] <;> rfl) (kM (Az, cz, b11) _ S.out)
          ·skip
           refine jI ?hg (N := 11) ?hd (cs := #[.int .u8 0, .int .i64 0, .int .i64 0, .int .i64 0, .int .i64 0, .int .i64 0, .slice none 0 0]) (t := 26) ?hr ?_; (case hd => rfl); (case hg => rfl); (case hr => (go_simp; done))
           intro b11 hg iW hbox hb
           replace S := ae.mk (S.out.box hg hbox hb)
           clear hg hbox hb
           refine hK.out _ _ S.out.dQ (fun hHeld => ?_)
           clear hK K
           refine eF 11 ?_
           refine jR 4 (some 47) (bA 11 287) aj (fun K hK => ?_)
           refine jB Try.func91 (by kernel_rfl) rfl #[.agg #[.int .u8 ck, .int .i64 cx, .int .i64 cy, .int .i64 cw, .int .i64 ch, .int .i64 aK, .slice A l.length cc], .slice Ap pq.length cp] (by rfl) rfl rfl (by (try simp only [List.map_toArray, List.map_cons, List.map_nil]); rfl) ?_
           refine (GX ⟨ck, ⟨cx, cy, cw, ch⟩, aK, l⟩ pq z HAT.out EG.out HZ.out (S.out.tree _ (.head _)) (fD iq.out S.out bG jy.out).1 (fD iq.out S.out bG jy.out).2).mono ?_
           rintro e mG ⟨Az, cz, rfl, h1, hb⟩
           refine ⟨_, rfl, ?_⟩
           replace S := ae.mk (S.out.x_ h1 hb)
           clear h1 hb
           refine hK.out _ _ S.out.dQ.free.dG (fun hHeld => ?_)
           clear hK K
           refine eF 47 ?_
           refine au 5 42 (bA 11 319) aj ?_
           refine au 6 48 (bA 11 383) aj ?_
           refine au 7 49 (bA 11 511) aj ?_
           exact lW (by simp only [iJ, Act.put, List.setIfInBounds_toArray, List.set_cons_zero, List.set_cons_succ] <;> rfl) (kM (Az, cz, b11) _ S.out)
         rintro ⟨Az, cz, b11⟩ O4 S1
         simp only [iJ, Act.put, List.setIfInBounds_toArray, List.set_cons_zero, List.set_cons_succ]
         replace S := ae.mk S1
         clear S1 hHeld
         have hHeld := S.out.dQ.free.dG
         refine oH 9 none (bA 11 1023) aj (fun K hK => ?_)
         refine nU 0 rfl 26 (.tmp 11) (.tmp 48) rfl #[.int .u8 z.f0, .int .i64 z.f1.f0, .int .i64 z.f1.f1, .int .i64 z.f1.f2, .int .i64 z.f1.f3, .int .i64 z.f2, .slice Az z.f3.length cz] (j := 0) (u := .agg #[.int .u8 z.f0, .int .i64 z.f1.f0, .int .i64 z.f1.f1, .int .i64 z.f1.f2, .int .i64 z.f1.f3, .int .i64 z.f2, .slice Az z.f3.length cz]) (bJ := [.int .u8 z.f0, .int .i64 z.f1.f0, .int .i64 z.f1.f1, .int .i64 z.f1.f2, .int .i64 z.f1.f3, .int .i64 z.f2, .slice Az z.f3.length cz]) S.out (by rfl) rfl rfl rfl rfl (by kernel_rfl) (by simp [Value.oneCell']) (by simp) rfl ?_
         intro zL S1
         simp only [List.set_cons_zero, List.set_cons_succ] at S1
         replace S := ae.mk S1
         clear S1
         refine hK.out _ _ ?_
         clear hK K
         refine au 10 12 (bA 11 2047) aj ?_
         refine ji (fP aj.out (by kernel_rfl)) ?_
         clear hHeld
         obtain ⟨ug, uh, ui, uj, uk, um, rQ⟩ := St.eQ S (.head _)
         go_wp2_with ((refine bP (some 52) Try.func99 S (Ad (c := z) HA.out (Kd.qJ (base' := 0) (S.out.own _ (.head _)))) ?_; clear S; intro zM S; clear ug uh ui uj uk um rQ))
         have hw := HW.out
         go_wp2
         go_roundg n
         case measure => exact Nat.lt_of_lt_of_le (Nat.lt_succ_self _) gz.out
         case rel => exact ⟨n, (by rw [hw]), ⟨by have := HN.out; omega⟩, Nat.le_refl _, HR, ⟨S.out.free.dG.dQ.uS.uS.uS⟩⟩
        | true =>
         rw [ha, if_pos rfl] at hr
         cases hr
 ·intro p d z q ht h1 hf hfr hF
  have uK := ae.mk (show p.length ≤ 1000000 by have := hpl p hf; have := HZ.out; omega)
  have sZ := ae.mk hf
  obtain ⟨x, hx, _⟩ := (Aj id _).1 _ (Nat.le_refl _) p hf
  have HX := ae.mk hx
  have HT := ae.mk ht
  have yf := ae.mk hF
  have IX := ae.mk (show z.f3.length ≤ 1000000 by have h2 := GY _ _ _ hF.at'; have h3 := df z; have h4 := jF z.f3; have := HZ.out; omega)
  have HR := ae.mk (show oG (qU ax ⟨ck, ⟨cx, cy, cw, ch⟩, aK, l⟩ p) p.length = some d from hfr)
  clear ht hpl hf hx hfr hF
  have hw : ((ax != 1) = false ∧ decide (ax = 1) = true ∧ (ax == 1) = true) ∨ ((ax != 1) = true ∧ decide (ax = 1) = false ∧ (ax == 1) = false ∧ (ax != 2) = false ∧ decide (ax = 2) = true ∧ (ax == 2) = true) := by rcases h1 with h | h <;> subst h <;> simp
  rcases hw with ⟨hxa, hxb, Tf⟩ | ⟨hxa, hxb, Tf, hxd, hxe, hxf⟩
  all_goals
   clear h1
   go_enter Try.func157, Try.ntmps157
   go_wp2_with (first | (refine boxS 3 _ 26 S ?_; clear S; intro b3 dJ S) | (refine boxS 6 _ 147 S ?_; clear S; intro b6 dX S; obtain ⟨a_, aW, aY, aX, bD, bH, bu⟩ := St.eQ S bG) | ((with_reducible refine aA (N := 14) rfl ?_); refine pO (N := 14) rfl rfl ⟨ck, ⟨cx, cy, cw, ch⟩, aK, l⟩ S.out (S.out.tree _ (.head _)) ?hr ?_; (case hr => (go_simp; rfl)); intro O_ PO fU S1 h1 h2; replace S := ae.mk S1; have oO := ae.mk h1; have rG := ae.mk h2; clear S1 h1 h2; clear a_ aW aY aX bD bH bu) | (refine bP (some 15) Try.func148 S (kE HT.out (pW ⟨ck, ⟨cx, cy, cw, ch⟩, aK, l⟩ uM.out rG.out oO.out)) ?_; clear S; intro iW S; obtain ⟨a_, aW, aY, aX, bD, bH, bu⟩ := St.eQ S bG) | (refine uA (some 29) Try.func89 S (zB id ⟨ck, ⟨cx, cy, cw, ch⟩, aK, l⟩ p sZ.out HZ.out (S.out.tree _ (.head _))) ?_; clear S; intro Ap cp op mG S iq; clear a_ aW aY aX bD bH bu))
   go_loopg [10] (p.length + 1) (fun gg v10 wr => ∃ n : Nat, v10 = .int .i64 ((n : Int) - 1) ∧ ae (n ≤ p.length) ∧ n ≤ gg ∧ ae (oG (qU ax ⟨ck, ⟨cx, cy, cw, ch⟩, aK, l⟩ p) n = some d) ∧ ae (St w P [((Value.slice Ap p.length cp).ownBlock, op), (some b6, .cells #[.int .u8 0, .int .i64 0, .int .i64 0, .int .i64 0, .int .i64 0, .int .i64 0, .slice none 0 0, .slice none 0 0, .int .i64 0, .int .u8 0] 147 (0, 0)), (some b3, .cells #[.int .u8 ck, .int .i64 cx, .int .i64 cy, .int .i64 cw, .int .i64 ch, .int .i64 aK, .slice A l.length cc] 26 (0, 0))] [] [(.slice A l.length cc, l)] [] wr))
   case atStart => exact ⟨p.length, (by have := uK.out; congr 1; unfold wrap64; omega), ⟨Nat.le_refl _⟩, Nat.le_succ _, HR, S⟩
   case round =>
    clear S HR
    obtain ⟨n, rfl, HN, hgg, HR, S⟩ := hrel
    cases n with
    | zero =>
     have h := HR.out
     cases h
    | succ n =>
     have e1 : (((n + 1 : Nat) : Int) - 1) = (n : Int) := by omega
     rw [e1]
     have mD := ae.mk (show n < p.length from HN.out)
     have gz := ae.mk hgg
     have hw : wrap64 ((n : Int) - 1) = (n : Int) - 1 := by have := HN.out; have := uK.out; unfold wrap64; omega
     have HW := ae.mk hw
     have h0 : decide ((n : Int) ≥ 0) = true := decide_eq_true (Int.natCast_nonneg _)
     have wC : (0 : Int) ≤ (n : Int) := Int.natCast_nonneg _
     obtain ⟨z, qp, hi0, hi1⟩ := Cm p ⟨ck, ⟨cx, cy, cw, ch⟩, aK, l⟩ _ HX.out n mD.out
     obtain ⟨pq, hpq⟩ : ∃ pq, pq = p.take n := ⟨_, rfl⟩
     have hal : qU ax ⟨ck, ⟨cx, cy, cw, ch⟩, aK, l⟩ p n = fG ax z.f0 := by unfold qU; rw [qp]
     rw [← hpq] at qp
     have HAT := ae.mk qp
     have jy := ae.mk (And.intro hpq (Nat.le_of_lt mD.out))
     have EG := ae.mk (show pq.length ≤ 1048576 by rw [hpq, List.length_take]; have := uK.out; omega)
     have hcut : ∀ W : World, (Instr.slice 41 (.slice Ap p.length cp) none (some (.int .i64 (n : Int))) none).run Try.prog W = .ok (.slice Ap pq.length cp) W := by
      intro W
      obtain ⟨i0, hi0, _, hsz, _⟩ := info_parts info3
      have h := F_ (P := Try.prog) 41 3 .i64 Try.underlying41 hi0 Ap p.length cp (n : Int) (Int.natCast_nonneg _) (by have := mD.out; omega) (EI iq.out S.out (.head _)).2 W
      rw [Int.toNat_natCast, show n = pq.length by rw [hpq, List.length_take]; have := mD.out; omega] at h
      rw [show n = pq.length by rw [hpq, List.length_take]; have := mD.out; omega]
      exact h
     have hr := HR.out
     rw [oG, hal] at hr
     clear hw hgg e1 hal hpq qp hi0 hi1
     cases ha : fG ax z.f0 with
     | false =>
      rw [ha, if_neg (by simp)] at hr
      replace HR := ae.mk hr
      have HA := ae.mk ha
      clear hr ha
      go_wp2
      refine ik (n := 11) (S := fun w' => St w _ _ _ _ _ w') (ds := [9]) (bA 11 0) (by kernel_rfl) rfl rfl (S.out.call (bg (Below.refl _ _))) (fun hHeld => ?_); refine ed qO.zk qO.vI (fun aj dW => ?_)
      replace S := ae.mk (S.out.call (bg (Below.refl _ _)))
      generalize wr.drew = yl at S hHeld ⊢
      refine dS 0 43 (bA 11 1) aj dW hHeld ?_ (hv := by intro w' hs_; have a_ := (hs_.at dN 0).trans rfl; have aW := (hs_.at dN 1).trans rfl; have aY := (hs_.at dN 2).trans rfl; have aX := (hs_.at dN 3).trans rfl; have bD := (hs_.at dN 4).trans rfl; have bH := (hs_.at dN 5).trans rfl; have bu := (hs_.at dN 6).trans rfl; go_simp; with_reducible rfl)
      refine au 1 44 (bA 11 3) aj ?_
      refine au 2 45 (bA 11 7) aj ?_
      refine au 3 46 (bA 11 15) aj ?_
      refine zC (σ := Option Addr × Nat × Nat) 2 (bA 11 511) (fun s_ => [(47, .tuple #[.agg #[.int .u8 z.f0, .int .i64 z.f1.f0, .int .i64 z.f1.f1, .int .i64 z.f1.f2, .int .i64 z.f1.f3, .int .i64 z.f2, .slice s_.1 z.f3.length s_.2.1], .bool true]), (42, .tuple #[.agg #[.int .u8 z.f0, .int .i64 z.f1.f0, .int .i64 z.f1.f1, .int .i64 z.f1.f2, .int .i64 z.f1.f3, .int .i64 z.f2, .slice s_.1 z.f3.length s_.2.1], .bool true]), (48, .agg #[.int .u8 z.f0, .int .i64 z.f1.f0, .int .i64 z.f1.f1, .int .i64 z.f1.f2, .int .i64 z.f1.f3, .int .i64 z.f2, .slice s_.1 z.f3.length s_.2.1]), (49, .bool true), (11, .pointer (some ⟨s_.2.2, 0, none⟩))]) (fun s_ w' => St w P [(some s_.2.2, .cells #[.int .u8 0, .int .i64 0, .int .i64 0, .int .i64 0, .int .i64 0, .int .i64 0, .slice none 0 0] 26 (0, 0)), ((Value.slice Ap p.length cp).ownBlock, op), (some b6, .cells #[.int .u8 0, .int .i64 0, .int .i64 0, .int .i64 0, .int .i64 0, .int .i64 0, .slice none 0 0, .slice none 0 0, .int .i64 0, .int .u8 0] 147 (0, 0)), (some b3, .cells #[.int .u8 ck, .int .i64 cx, .int .i64 cy, .int .i64 cw, .int .i64 ch, .int .i64 aK, .slice A l.length cc] 26 (0, 0))] [(.slice s_.1 z.f3.length s_.2.1, z.f3)] [(.slice A l.length cc, l)] [] w') ?_ ?_
      rotate_left
      ·intro kM
       refine DN (i := 4) (j := 8) (Ni := some 47) (Nj := some 11) (bA 11 31) (bA 11 271) rfl rfl rfl rfl (xM aj.out (by kernel_rfl)) (by decide) (by decide) (fun K hK => ?_) (fun K hK => ?_)
       ·skip
        refine jB Try.func91 (by kernel_rfl) rfl #[.agg #[.int .u8 ck, .int .i64 cx, .int .i64 cy, .int .i64 cw, .int .i64 ch, .int .i64 aK, .slice A l.length cc], .slice Ap pq.length cp] (by rfl) rfl rfl (by (try simp only [List.map_toArray, List.map_cons, List.map_nil]); rfl) ?_
        refine (GX ⟨ck, ⟨cx, cy, cw, ch⟩, aK, l⟩ pq z HAT.out EG.out HZ.out (S.out.tree _ (.head _)) (fD iq.out S.out (.head _) jy.out).1 (fD iq.out S.out (.head _) jy.out).2).mono ?_
        rintro e dX ⟨Az, cz, rfl, h1, hb⟩
        refine ⟨_, rfl, ?_⟩
        replace S := ae.mk (S.out.x_ h1 hb)
        clear h1 hb
        refine hK.out _ _ S.out.free.dG (fun hHeld => ?_)
        clear hK K
        refine eF 47 ?_
        refine au 5 42 (bA 11 63) aj ?_
        refine au 6 48 (bA 11 127) aj ?_
        refine au 7 49 (bA 11 255) aj ?_
        refine jR 8 (some 11) (bA 11 511) aj (fun K hK => ?_)
        refine jI ?hg (N := 11) ?hd (cs := #[.int .u8 0, .int .i64 0, .int .i64 0, .int .i64 0, .int .i64 0, .int .i64 0, .slice none 0 0]) (t := 26) ?hr ?_; (case hd => rfl); (case hg => rfl); (case hr => (go_simp; done))
        intro b11 hg fU hbox hb
        replace S := ae.mk (S.out.box hg hbox hb)
        clear hg hbox hb
        refine hK.out _ _ S.out.dQ.free.dG (fun hHeld => ?_)
        clear hK K
        refine eF 11 ?_
        exact lW (by simp only [iJ, Act.put, List.setIfInBounds_toArray, List.set_cons_zero, List.set_cons_succ] <;> rfl) (kM (Az, cz, b11) _ S.out)
       ·skip
        refine jI ?hg (N := 11) ?hd (cs := #[.int .u8 0, .int .i64 0, .int .i64 0, .int .i64 0, .int .i64 0, .int .i64 0, .slice none 0 0]) (t := 26) ?hr ?_; (case hd => rfl); (case hg => rfl); (case hr => (go_simp; done))
        intro b11 hg iW hbox hb
        replace S := ae.mk (S.out.box hg hbox hb)
        clear hg hbox hb
        refine hK.out _ _ S.out.dQ (fun hHeld => ?_)
        clear hK K
        refine eF 11 ?_
        refine jR 4 (some 47) (bA 11 287) aj (fun K hK => ?_)
        refine jB Try.func91 (by kernel_rfl) rfl #[.agg #[.int .u8 ck, .int .i64 cx, .int .i64 cy, .int .i64 cw, .int .i64 ch, .int .i64 aK, .slice A l.length cc], .slice Ap pq.length cp] (by rfl) rfl rfl (by (try simp only [List.map_toArray, List.map_cons, List.map_nil]); rfl) ?_
        refine (GX ⟨ck, ⟨cx, cy, cw, ch⟩, aK, l⟩ pq z HAT.out EG.out HZ.out (S.out.tree _ (.head _)) (fD iq.out S.out bG jy.out).1 (fD iq.out S.out bG jy.out).2).mono ?_
        rintro e mG ⟨Az, cz, rfl, h1, hb⟩
        refine ⟨_, rfl, ?_⟩
        replace S := ae.mk (S.out.x_ h1 hb)
        clear h1 hb
        refine hK.out _ _ S.out.dQ.free.dG (fun hHeld => ?_)
        clear hK K
        refine eF 47 ?_
        refine au 5 42 (bA 11 319) aj ?_
        refine au 6 48 (bA 11 383) aj ?_
        refine au 7 49 (bA 11 511) aj ?_
        exact lW (by simp only [iJ, Act.put, List.setIfInBounds_toArray, List.set_cons_zero, List.set_cons_succ] <;> rfl) (kM (Az, cz, b11) _ S.out)
      rintro ⟨Az, cz, b11⟩ O4 S1
      simp only [iJ, Act.put, List.setIfInBounds_toArray, List.set_cons_zero, List.set_cons_succ]
      replace S := ae.mk S1
      clear S1 hHeld
      have hHeld := S.out.dQ.free.dG
      refine oH 9 none (bA 11 1023) aj (fun K hK => ?_)
      refine nU 0 rfl 26 (.tmp 11) (.tmp 48) rfl #[.int .u8 z.f0, .int .i64 z.f1.f0, .int .i64 z.f1.f1, .int .i64 z.f1.f2, .int .i64 z.f1.f3, .int .i64 z.f2, .slice Az z.f3.length cz] (j := 0) (u := .agg #[.int .u8 z.f0, .int .i64 z.f1.f0, .int .i64 z.f1.f1, .int .i64 z.f1.f2, .int .i64 z.f1.f3, .int .i64 z.f2, .slice Az z.f3.length cz]) (bJ := [.int .u8 z.f0, .int .i64 z.f1.f0, .int .i64 z.f1.f1, .int .i64 z.f1.f2, .int .i64 z.f1.f3, .int .i64 z.f2, .slice Az z.f3.length cz]) S.out (by rfl) rfl rfl rfl rfl (by kernel_rfl) (by simp [Value.oneCell']) (by simp) rfl ?_
      intro zL S1
      simp only [List.set_cons_zero, List.set_cons_succ] at S1
      replace S := ae.mk S1
      clear S1
      refine hK.out _ _ ?_
      clear hK K
      refine au 10 12 (bA 11 2047) aj ?_
      refine ji (fP aj.out (by kernel_rfl)) ?_
      clear hHeld
      obtain ⟨ug, uh, ui, uj, uk, um, rQ⟩ := St.eQ S (.head _)
      go_wp2_with ((refine bP (some 52) Try.func99 S (Ad (c := z) HA.out (Kd.qJ (base' := 0) (S.out.own _ (.head _)))) ?_; clear S; intro zM S; clear ug uh ui uj uk um rQ))
      have hw := HW.out
      go_wp2
      go_roundg n
      case measure => exact Nat.lt_of_lt_of_le (Nat.lt_succ_self _) gz.out
      case rel => exact ⟨n, (by rw [hw]), ⟨by have := HN.out; omega⟩, Nat.le_refl _, HR, ⟨S.out.free.dG.dQ.uS.uS.uS⟩⟩
     | true =>
      rw [ha, if_pos rfl] at hr
      injection hr with hr
      subst hr
      have hzz := HAT.out
      rw [jy.out.1, yf.out.at'] at hzz
      injection hzz with hzz
      subst hzz
      have HA := ae.mk ha
      clear ha
      obtain ⟨yh, ek, _⟩ := Kd.iy (EI iq.out S.out (.head _)).1 (n : Int) (Int.natCast_nonneg _) (by have := mD.out; omega)
      subst ek
      have HW2 := ae.mk (show wrap64 ((z.f3.length : Int) - 2) = (z.f3.length : Int) - 2 by have := yf.out.len; have := IX.out; unfold wrap64; omega)
      have Pq := ae.mk (show (n : Int) < (p.length : Int) by have := mD.out; omega)
      have hnn : n < p.length := mD.out
      go_wp2
      refine ik (n := 11) (S := fun w' => St w _ _ _ _ _ w') (ds := [9]) (bA 11 0) (by kernel_rfl) rfl rfl (S.out.call (bg (Below.refl _ _))) (fun hHeld => ?_); refine ed qO.zk qO.vI (fun aj dW => ?_)
      replace S := ae.mk (S.out.call (bg (Below.refl _ _)))
      generalize wr.drew = yl at S hHeld ⊢
      refine dS 0 43 (bA 11 1) aj dW hHeld ?_ (hv := by intro w' hs_; have a_ := (hs_.at dN 0).trans rfl; have aW := (hs_.at dN 1).trans rfl; have aY := (hs_.at dN 2).trans rfl; have aX := (hs_.at dN 3).trans rfl; have bD := (hs_.at dN 4).trans rfl; have bH := (hs_.at dN 5).trans rfl; have bu := (hs_.at dN 6).trans rfl; go_simp; with_reducible rfl)
      refine au 1 44 (bA 11 3) aj ?_
      refine au 2 45 (bA 11 7) aj ?_
      refine au 3 46 (bA 11 15) aj ?_
      refine zC (σ := Option Addr × Nat × Nat) 2 (bA 11 511) (fun s_ => [(47, .tuple #[.agg #[.int .u8 z.f0, .int .i64 z.f1.f0, .int .i64 z.f1.f1, .int .i64 z.f1.f2, .int .i64 z.f1.f3, .int .i64 z.f2, .slice s_.1 z.f3.length s_.2.1], .bool true]), (42, .tuple #[.agg #[.int .u8 z.f0, .int .i64 z.f1.f0, .int .i64 z.f1.f1, .int .i64 z.f1.f2, .int .i64 z.f1.f3, .int .i64 z.f2, .slice s_.1 z.f3.length s_.2.1], .bool true]), (48, .agg #[.int .u8 z.f0, .int .i64 z.f1.f0, .int .i64 z.f1.f1, .int .i64 z.f1.f2, .int .i64 z.f1.f3, .int .i64 z.f2, .slice s_.1 z.f3.length s_.2.1]), (49, .bool true), (11, .pointer (some ⟨s_.2.2, 0, none⟩))]) (fun s_ w' => St w P [(some s_.2.2, .cells #[.int .u8 0, .int .i64 0, .int .i64 0, .int .i64 0, .int .i64 0, .int .i64 0, .slice none 0 0] 26 (0, 0)), ((Value.slice (some yh) p.length cp).ownBlock, op), (some b6, .cells #[.int .u8 0, .int .i64 0, .int .i64 0, .int .i64 0, .int .i64 0, .int .i64 0, .slice none 0 0, .slice none 0 0, .int .i64 0, .int .u8 0] 147 (0, 0)), (some b3, .cells #[.int .u8 ck, .int .i64 cx, .int .i64 cy, .int .i64 cw, .int .i64 ch, .int .i64 aK, .slice A l.length cc] 26 (0, 0))] [(.slice s_.1 z.f3.length s_.2.1, z.f3)] [(.slice A l.length cc, l)] [] w') ?_ ?_
      rotate_left
      ·intro kM
       refine DN (i := 4) (j := 8) (Ni := some 47) (Nj := some 11) (bA 11 31) (bA 11 271) rfl rfl rfl rfl (xM aj.out (by kernel_rfl)) (by decide) (by decide) (fun K hK => ?_) (fun K hK => ?_)
       ·skip
        refine jB Try.func91 (by kernel_rfl) rfl #[.agg #[.int .u8 ck, .int .i64 cx, .int .i64 cy, .int .i64 cw, .int .i64 ch, .int .i64 aK, .slice A l.length cc], .slice (some yh) pq.length cp] (by rfl) rfl rfl (by (try simp only [List.map_toArray, List.map_cons, List.map_nil]); rfl) ?_
        refine (GX ⟨ck, ⟨cx, cy, cw, ch⟩, aK, l⟩ pq z HAT.out EG.out HZ.out (S.out.tree _ (.head _)) (fD iq.out S.out (.head _) jy.out).1 (fD iq.out S.out (.head _) jy.out).2).mono ?_
        rintro e dX ⟨Az, cz, rfl, h1, hb⟩
        refine ⟨_, rfl, ?_⟩
        replace S := ae.mk (S.out.x_ h1 hb)
        clear h1 hb
        refine hK.out _ _ S.out.free.dG (fun hHeld => ?_)
        clear hK K
        refine eF 47 ?_
        refine au 5 42 (bA 11 63) aj ?_
        refine au 6 48 (bA 11 127) aj ?_
        refine au 7 49 (bA 11 255) aj ?_
        refine jR 8 (some 11) (bA 11 511) aj (fun K hK => ?_)
        refine jI ?hg (N := 11) ?hd (cs := #[.int .u8 0, .int .i64 0, .int .i64 0, .int .i64 0, .int .i64 0, .int .i64 0, .slice none 0 0]) (t := 26) ?hr ?_; (case hd => rfl); (case hg => rfl); (case hr => (go_simp; done))
        intro b11 hg fU hbox hb
        replace S := ae.mk (S.out.box hg hbox hb)
        clear hg hbox hb
        refine hK.out _ _ S.out.dQ.free.dG (fun hHeld => ?_)
        clear hK K
        refine eF 11 ?_
        exact lW (by simp only [iJ, Act.put, List.setIfInBounds_toArray, List.set_cons_zero, List.set_cons_succ] <;> rfl) (kM (Az, cz, b11) _ S.out)
       ·skip
        refine jI ?hg (N := 11) ?hd (cs := #[.int .u8 0, .int .i64 0, .int .i64 0, .int .i64 0, .int .i64 0, .int .i64 0, .slice none 0 0]) (t := 26) ?hr ?_; (case hd => rfl); (case hg => rfl); (case hr => (go_simp; done))
        intro b11 hg iW hbox hb
        replace S := ae.mk (S.out.box hg hbox hb)
        clear hg hbox hb
        refine hK.out _ _ S.out.dQ (fun hHeld => ?_)
        clear hK K
        refine eF 11 ?_
        refine jR 4 (some 47) (bA 11 287) aj (fun K hK => ?_)
        refine jB Try.func91 (by kernel_rfl) rfl #[.agg #[.int .u8 ck, .int .i64 cx, .int .i64 cy, .int .i64 cw, .int .i64 ch, .int .i64 aK, .slice A l.length cc], .slice (some yh) pq.length cp] (by rfl) rfl rfl (by (try simp only [List.map_toArray, List.map_cons, List.map_nil]); rfl) ?_
        refine (GX ⟨ck, ⟨cx, cy, cw, ch⟩, aK, l⟩ pq z HAT.out EG.out HZ.out (S.out.tree _ (.head _)) (fD iq.out S.out bG jy.out).1 (fD iq.out S.out bG jy.out).2).mono ?_
        rintro e mG ⟨Az, cz, rfl, h1, hb⟩
        refine ⟨_, rfl, ?_⟩
        replace S := ae.mk (S.out.x_ h1 hb)
        clear h1 hb
        refine hK.out _ _ S.out.dQ.free.dG (fun hHeld => ?_)
        clear hK K
        refine eF 47 ?_
        refine au 5 42 (bA 11 319) aj ?_
        refine au 6 48 (bA 11 383) aj ?_
        refine au 7 49 (bA 11 511) aj ?_
        exact lW (by simp only [iJ, Act.put, List.setIfInBounds_toArray, List.set_cons_zero, List.set_cons_succ] <;> rfl) (kM (Az, cz, b11) _ S.out)
      rintro ⟨Az, cz, b11⟩ O4 S1
      simp only [iJ, Act.put, List.setIfInBounds_toArray, List.set_cons_zero, List.set_cons_succ]
      replace S := ae.mk S1
      clear S1 hHeld
      have hHeld := S.out.dQ.free.dG
      refine oH 9 none (bA 11 1023) aj (fun K hK => ?_)
      refine nU 0 rfl 26 (.tmp 11) (.tmp 48) rfl #[.int .u8 z.f0, .int .i64 z.f1.f0, .int .i64 z.f1.f1, .int .i64 z.f1.f2, .int .i64 z.f1.f3, .int .i64 z.f2, .slice Az z.f3.length cz] (j := 0) (u := .agg #[.int .u8 z.f0, .int .i64 z.f1.f0, .int .i64 z.f1.f1, .int .i64 z.f1.f2, .int .i64 z.f1.f3, .int .i64 z.f2, .slice Az z.f3.length cz]) (bJ := [.int .u8 z.f0, .int .i64 z.f1.f0, .int .i64 z.f1.f1, .int .i64 z.f1.f2, .int .i64 z.f1.f3, .int .i64 z.f2, .slice Az z.f3.length cz]) S.out (by rfl) rfl rfl rfl rfl (by kernel_rfl) (by simp [Value.oneCell']) (by simp) rfl ?_
      intro zL S1
      simp only [List.set_cons_zero, List.set_cons_succ] at S1
      replace S := ae.mk S1
      clear S1
      refine hK.out _ _ ?_
      clear hK K
      refine au 10 12 (bA 11 2047) aj ?_
      refine ji (fP aj.out (by kernel_rfl)) ?_
      clear hHeld
      obtain ⟨ug, uh, ui, uj, uk, um, rQ⟩ := St.eQ S (.head _)
      go_wp2_with ((refine bP (some 52) Try.func99 S (Ad (c := z) HA.out (Kd.qJ (base' := 0) (S.out.own _ (.head _)))) ?_; clear S; intro zM S; clear ug uh ui uj uk um rQ))
      refine ik (n := 17) (S := fun w' => St w _ _ _ _ _ w') (ds := [15]) (bA 17 0) (by kernel_rfl) rfl rfl (S.out.call (bg (Below.refl _ _))) (fun hHeld => ?_); refine ed uX.ae3 uX.abj (fun aj dW => ?_)
      replace S := ae.mk (S.out.call (bg (Below.refl _ _)))
      generalize zM.drew = wd9 at S hHeld ⊢
      refine dS 0 53 (bA 17 1) aj dW hHeld ?_ (hv := by intro w' hs_; have ug := (hs_.at (.head _) 0).trans rfl; have uh := (hs_.at (.head _) 1).trans rfl; have ui := (hs_.at (.head _) 2).trans rfl; have uj := (hs_.at (.head _) 3).trans rfl; have uk := (hs_.at (.head _) 4).trans rfl; have um := (hs_.at (.head _) 5).trans rfl; have rQ := (hs_.at (.head _) 6).trans rfl; go_simp; with_reducible rfl)
      refine au 1 54 (bA 17 3) aj ?_
      refine au 2 55 (bA 17 7) aj ?_
      refine au 3 56 (bA 17 15) aj ?_
      refine au 4 57 (bA 17 31) aj ?_
      refine au 5 58 (bA 17 63) aj ?_
      refine au 6 59 (bA 17 127) aj ?_
      refine dS 7 60 (bA 17 255) aj dW hHeld ?_ (hv := by intro w' hs_; have xp := AZ iq.out (hs_.blk _ bG) n Pq.out; go_simp; with_reducible rfl)
      refine au 8 61 (bA 17 511) aj ?_
      refine dS 9 62 (bA 17 1023) aj dW hHeld ?_ (hv := by intro w' hs_; have rQ := (hs_.at (.head _) 6).trans rfl; go_simp; with_reducible rfl)
      refine au 10 63 (bA 17 2047) aj ?_
      refine au 11 64 (bA 17 4095) aj ?_
      refine au 12 65 (bA 17 8191) aj ?_
      refine au 13 66 (bA 17 16383) aj ?_
      refine au 14 67 (bA 17 32767) aj ?_
      refine oH 15 none (bA 17 65535) aj (fun K hK => ?_)
      refine nU 2 rfl 147 (.tmp 6) (.tmp 67) rfl #[.int .u8 z.f0, .int .i64 z.f1.f0, .int .i64 z.f1.f1, .int .i64 z.f1.f2, .int .i64 z.f1.f3, .int .i64 z.f2, .slice Az z.f3.length cz, .slice (some yh) pq.length cp, .int .i64 (mn (rd p (n : Int)) (wrap64 ((z.f3.length : Int) - 2))), .int .u8 ax] (j := 0) (u := .agg #[.int .u8 z.f0, .int .i64 z.f1.f0, .int .i64 z.f1.f1, .int .i64 z.f1.f2, .int .i64 z.f1.f3, .int .i64 z.f2, .slice Az z.f3.length cz, .slice (some yh) pq.length cp, .int .i64 (mn (rd p (n : Int)) (wrap64 ((z.f3.length : Int) - 2))), .int .u8 ax]) (bJ := [.int .u8 z.f0, .int .i64 z.f1.f0, .int .i64 z.f1.f1, .int .i64 z.f1.f2, .int .i64 z.f1.f3, .int .i64 z.f2, .slice Az z.f3.length cz, .slice (some yh) pq.length cp, .int .i64 (mn (rd p (n : Int)) (wrap64 ((z.f3.length : Int) - 2))), .int .u8 ax]) S.out (by rfl) rfl rfl rfl rfl (by kernel_rfl) (by simp [Value.oneCell']) (by simp) rfl ?_
      intro BQ S1
      simp only [List.set_cons_zero, List.set_cons_succ] at S1
      replace S := ae.mk S1
      clear S1
      refine hK.out _ _ ?_
      clear hK K
      refine au 16 7 (bA 17 131071) aj ?_
      refine ji (fP aj.out (by kernel_rfl)) ?_
      clear hHeld
      go_wp2
      all_goals
       refine bodyPost_ret (fC rfl _ _ b6 147 _ (0, 0) _ rfl (S.out.blk _ dN _ rfl) Try.underlying147 rfl (by kernel_rfl)) rfl ?_
       rw [jy.out.1]
       exact ⟨_, _, _, _, _, (by rw [yf.out.hq, HW2.out]; rfl), iq.out, S.out.dQ.tC.dQ.tC.dQ.dG⟩
end Go.Proofs.Ytfdmfgaiblfbhaa.P
namespace Go.Proofs.Ytfdmfgaiblfbhaa.P
open Go.RowKit Go.Proofs.ag.aT Go.Proofs.ag.bK Go.Proofs.ag.bY
def xE.T1 : Bool × List (List Nat × List Nat) := (true, [([], []), ([0], [0]), ([1], [1]), ([2], [2]), ([3], [3]), ([], []), ([4, 5], [4, 5]), ([6], [6]), ([], []), ([8], [8]), ([9], [9]), ([10], [10]), ([7, 11], [7, 11]), ([12, 12, 0, 1, 2, 3, 4, 5, 6, 7, 8, 9, 10, 11, 12], [12])])
def xE.B1 : List Nat := [0, 1, 3, 7, 15, 0, 63, 127, 0, 256, 768, 1792, 4095, 8191]
theorem xE.agE : g_ .any (opsOf Try.f164 1) = xE.T1 := by kernel_rfl
theorem xE.ael : iL xE.T1.2 xE.B1 = true := by kernel_rfl
theorem mg {g : Nat} {fk fx fy fw fh zA ax : Int} {VP : Value} {q : Nat} {A : Option Addr} {cap : Nat} {L : List ai} {b : Nat} {P : Nat → Prop} {w : World} (i : Nat) (hi : i < L.length) (hz : dO L ≤ 1000000) (hF : w.heap[g]? = some (.cells #[.int .u8 fk, .int .i64 fx, .int .i64 fy, .int .i64 fw, .int .i64 fh, .int .i64 zA, .slice A L.length cap, VP, .int .i64 (q : Int), .int .u8 ax] 147 (0, 0))) (hv : Kd.V k26 26 w b P (.slice A L.length cap) L) :
  Calls Try.prog 164 #[.pointer (some ⟨g, 0, none⟩), .int .i64 (i : Int)] w fun e w' => e = .returned (.int .i64 (aU ax (kd L i))) ∧ Below w.heap.size w w' := by
 have S := ae.mk (St.start (ts := [(.slice A L.length cap, L)]) (b0 := w.heap.size) (w := w) (P := P) (fun t ht => by rw [List.mem_singleton.1 ht]; exact f_ hv))
 replace S := ae.mk (S.out.lZ (show w.cell? ⟨g, 6, none⟩ = some (.slice A L.length cap) from (af hF 6).trans rfl))
 replace S := ae.mk (S.out.lZ (show w.cell? ⟨g, 9, none⟩ = some (.int .u8 ax) from (af hF 9).trans rfl))
 have hi0 : (0 : Int) ≤ (i : Int) := Int.natCast_nonneg _
 have hi1 : (i : Int) < (L.length : Int) := by omega
 obtain ⟨ku, ua, uc, ek, S1⟩ := S.out.elem (.head _) (i : Int) hi0 hi1
 subst ek
 rw [Qh] at S1
 simp only [Int.toNat_natCast] at S1
 have lC := ae.mk (show sz (kd L i) ≤ 1048576 by have := xB (vV hi); omega)
 generalize kd L i = k at S1 lC ⊢
 replace S := ae.mk S1
 clear S1 hF hv hz
 go_enter Try.func164, Try.ntmps164
 go_wp2
 refine ik (n := 14) (S := fun w' => St w _ _ _ _ _ w') (ds := []) (bA 14 0) (by kernel_rfl) rfl rfl (S.out.call (bg (Below.refl _ _))) (fun hHeld => ?_); refine ed xE.agE xE.ael (fun aj dW => ?_)
 replace S := ae.mk (S.out.call (bg (Below.refl _ _)))
 generalize w.drew = yl at S hHeld ⊢
 refine au 0 5 (bA 14 1) aj ?_
 refine au 1 6 (bA 14 3) aj ?_
 refine au 2 7 (bA 14 7) aj ?_
 refine au 3 8 (bA 14 15) aj ?_
 refine dS 4 9 (bA 14 31) aj dW hHeld ?_ (hv := by intro w' hs_; have y8_ := (hs_.cell _ mm8).1; go_simp; with_reducible rfl)
 refine au 5 10 (bA 14 63) aj ?_
 refine au 6 11 (bA 14 127) aj ?_
 refine dS 7 12 (bA 14 255) aj dW hHeld ?_ (hv := by intro w' hs_; have gX := (hs_.cell _ (.head _)).1; have iY := (hs_.cell _ bG).1; have jH := (hs_.cell _ dN).1; have jv := (hs_.cell _ kR).1; have jw := (hs_.cell _ qg).1; have lD := (hs_.cell _ zD).1; have lF := (hs_.cell _ zF).1; go_simp; with_reducible rfl)
 refine au 8 13 (bA 14 511) aj ?_
 refine au 9 14 (bA 14 1023) aj ?_
 refine au 10 15 (bA 14 2047) aj ?_
 refine dS 11 16 (bA 14 4095) aj dW hHeld ?_ (hv := by intro w' hs_; have Ce := (hs_.cell _ Jh).1; go_simp; with_reducible rfl)
 refine jR 12 (some 17) (bA 14 8191) aj (fun K hK => ?_)
 refine BA Try.func86 #[.agg #[.int .u8 k.f0, .int .i64 k.f1.f0, .int .i64 k.f1.f1, .int .i64 k.f1.f2, .int .i64 k.f1.f3, .int .i64 k.f2, .slice ua k.f3.length uc], .int .u8 ax] ?_
 refine (AA k ax lC.out (S.out.tree _ (.head _))).mono ?_
 rintro e dX ⟨rfl, hb⟩
 refine ⟨_, rfl, ?_⟩
 replace S := ae.mk (S.out.call hb)
 clear hb
 refine hK.out _ _ S.out (fun hHeld => ?_)
 clear hK K
 refine eF 17 ?_
 refine au 13 4 (bA 14 16383) aj ?_
 refine ji (fP aj.out (by kernel_rfl)) ?_
 clear hHeld
 go_wp2
 go_ret
 exact ⟨rfl, S.out.below⟩
def Vs : Option Nat → Int
 | some i => i
 | none => -1
theorem wK {g : Nat} {fk fx fy fw fh zA ax : Int} {VP : Value} {q : Nat} {A : Option Addr} {cap : Nat} {L : List ai} {b : Nat} {P : Nat → Prop} {w : World} (m : Bool) (hq : q + 1 < L.length) (hl : L.length ≤ 1000000) (hz : dO L ≤ 1000000) (hF : w.heap[g]? = some (.cells #[.int .u8 fk, .int .i64 fx, .int .i64 fy, .int .i64 fw, .int .i64 fh, .int .i64 zA, .slice A L.length cap, VP, .int .i64 (q : Int), .int .u8 ax] 147 (0, 0))) (hv : Kd.V k26 26 w b P (.slice A L.length cap) L) :
  Calls Try.prog 185 #[.pointer (some ⟨g, 0, none⟩), .bool m] w fun e w' => e = .returned (.int .i64 (Vs (mF ax q m L))) ∧ Below w.heap.size w w' := by
 have S := ae.mk (St.start (ts := [(.slice A L.length cap, L)]) (b0 := w.heap.size) (w := w) (P := P) (fun t ht => by rw [List.mem_singleton.1 ht]; exact f_ hv))
 replace S := ae.mk (S.out.lZ (show w.cell? ⟨g, 6, none⟩ = some (.slice A L.length cap) from (af hF 6).trans rfl))
 replace S := ae.mk (S.out.lZ (show w.cell? ⟨g, 8, none⟩ = some (.int .i64 (q : Int)) from (af hF 8).trans rfl))
 have HF := ae.mk hF
 have HZ := ae.mk hz
 have jl := ae.mk hl
 have HQ := ae.mk hq
 have WB := ae.mk (show wrap64 ((q : Int) + 1) = ((q + 1 : Nat) : Int) by unfold wrap64; omega)
 generalize hR : mF ax q m L = R
 unfold mF at hR
 clear hF hz hl hq hv
 cases m with
 | true =>
  simp only [if_true] at hR
  have HR := ae.mk hR
  clear hR
  go_enter Try.func185, Try.ntmps185
  have gX := (S.out.cell _ (.head _)).1
  go_wp2
  clear gX
  go_loopg [5] L.length (fun gg v5 wr => ∃ i : Nat, v5 = .int .i64 (i : Int) ∧ ae (i ≤ L.length) ∧ L.length - i ≤ gg ∧ ae ((match I7 (qx ax L) (L.length - i) i with | some i => some i | none => oG (qx ax L) q) = R) ∧ ae (St w P [] [] [(.slice A L.length cap, L)] [(⟨g, 8, none⟩, .int .i64 (q : Int)), (⟨g, 6, none⟩, .slice A L.length cap)] wr))
  case atStart => exact ⟨q + 1, (by rw [WB.out]), ⟨by have := HQ.out; omega⟩, by omega, HR, S⟩
  case round =>
   clear S HR
   obtain ⟨i, rfl, HI, hgg, HR, S⟩ := hrel
   by_cases hlt : i < L.length
   case pos =>
    have jP := ae.mk hlt
    have hlz : (i : Int) < (L.length : Int) := by omega
    have gz := ae.mk hgg
    have hw : wrap64 ((i : Int) + 1) = ((i + 1 : Nat) : Int) := by have := jl.out; unfold wrap64; omega
    have HW := ae.mk hw
    have hr := HR.out
    rw [show L.length - i = (L.length - (i + 1)) + 1 by omega, I7] at hr
    clear hw hgg
    by_cases hp : 0 < aU ax (kd L i)
    case pos =>
     rw [if_pos (by unfold qx; simp; omega)] at hr
     replace HR := ae.mk hr
     obtain ⟨hga, hgb⟩ := mV (a := 0) (b := aU ax (kd L i)) (by omega)
     clear hr hp
     have iY := (S.out.cell _ bG).1
     go_wp2_with ((refine bP (some 27) Try.func164 S (mg i jP.out HZ.out (aI HF.out S.out.below) (S.out.tree _ (.head _))) ?_; clear S; intro dJ S; clear iY))
     go_ret
     rw [← HR.out]
     exact ⟨rfl, S.out.below⟩
    case neg =>
     rw [if_neg (by unfold qx; simp; omega)] at hr
     replace HR := ae.mk hr
     obtain ⟨hga, hgb⟩ := lU (a := 0) (b := aU ax (kd L i)) (by omega)
     clear hr hp
     have iY := (S.out.cell _ bG).1
     go_wp2_with ((refine bP (some 27) Try.func164 S (mg i jP.out HZ.out (aI HF.out S.out.below) (S.out.tree _ (.head _))) ?_; clear S; intro dJ S; clear iY))
     have hw := HW.out
     go_wp2
     go_roundg (L.length - (i + 1))
     case measure => have := gz.out; have := jP.out; omega
     case rel => exact ⟨i + 1, (by rw [hw]), ⟨by have := jP.out; omega⟩, Nat.le_refl _, HR, S⟩
   case neg =>
    have hlz : ¬ ((i : Int) < (L.length : Int)) := by omega
    have hr := HR.out
    rw [show L.length - i = 0 by omega, I7] at hr
    simp only [] at hr
    replace HR := ae.mk hr
    clear hr hgg
    have iY := (S.out.cell _ bG).1
    have gX := (S.out.cell _ (.head _)).1
    go_wp2
    clear iY gX
    clear hlt hlz
    go_loopg [6] (q + 1) (fun gg v6 wr => ∃ n : Nat, v6 = .int .i64 ((n : Int) - 1) ∧ ae (n ≤ q + 1) ∧ n ≤ gg ∧ ae (oG (qx ax L) (Nat.min n q) = R) ∧ ae (St w P [] [] [(.slice A L.length cap, L)] [(⟨g, 8, none⟩, .int .i64 (q : Int)), (⟨g, 6, none⟩, .slice A L.length cap)] wr))
    case atStart => exact ⟨q + 1, (by congr 1; omega), ⟨Nat.le_refl _⟩, Nat.le_refl _, ⟨by rw [show Nat.min (q + 1) q = q from Nat.min_eq_right (by omega)]; exact HR.out⟩, S⟩
    case round =>
     clear S HR
     obtain ⟨n, rfl, HN, hgg, HR, S⟩ := hrel
     cases n with
     | zero =>
      have hr := HR.out
      rw [show Nat.min 0 q = 0 from Nat.min_eq_left (Nat.zero_le _), oG] at hr
      replace HR := ae.mk hr
      clear hr
      go_wp2
      go_ret
      rw [← HR.out]
      exact ⟨rfl, S.out.below⟩
     | succ n =>
      have e1 : (((n + 1 : Nat) : Int) - 1) = (n : Int) := by omega
      rw [e1]
      have jP := ae.mk (show n < L.length by have := HN.out; have := HQ.out; omega)
      have gz := ae.mk hgg
      have hw : wrap64 ((n : Int) - 1) = (n : Int) - 1 := by have := HN.out; have := HQ.out; have := jl.out; unfold wrap64; omega
      have HW := ae.mk hw
      have h0 : decide ((n : Int) ≥ 0) = true := decide_eq_true (Int.natCast_nonneg _)
      have wC : (0 : Int) ≤ (n : Int) := Int.natCast_nonneg _
      have hr := HR.out
      clear hw hgg e1
      by_cases hp : 0 < aU ax (kd L n)
      case pos =>
       by_cases hnq : n < q
       case pos =>
        rw [show Nat.min (n + 1) q = n + 1 from Nat.min_eq_left (by omega), oG, if_pos (by unfold qx; simp; omega)] at hr
        replace HR := ae.mk hr
        obtain ⟨hga, hgb⟩ := mV (a := 0) (b := aU ax (kd L n)) (by omega)
        obtain ⟨hsa, hsb⟩ := mV (a := (n : Int)) (b := (q : Int)) (by omega)
        have hsc : decide (n < q) = true := decide_eq_true (by omega)
        have hse : n < q := by omega
        clear hr hp
        go_wp2_with ((refine bP (some 40) Try.func164 S (mg n jP.out HZ.out (aI HF.out S.out.below) (S.out.tree _ (.head _))) ?_; clear S; intro dJ S; have gX := (S.out.cell _ (.head _)).1))
        clear gX
        go_ret
        rw [← HR.out]
        exact ⟨rfl, S.out.below⟩
       case neg =>
        rw [show Nat.min (n + 1) q = Nat.min n q by rw [show Nat.min (n + 1) q = q from Nat.min_eq_right (by omega), show Nat.min n q = q from Nat.min_eq_right (by omega)]] at hr
        replace HR := ae.mk hr
        obtain ⟨hga, hgb⟩ := mV (a := 0) (b := aU ax (kd L n)) (by omega)
        obtain ⟨hsa, hsb⟩ := lU (a := (n : Int)) (b := (q : Int)) (by omega)
        have hsc : decide (n < q) = false := decide_eq_false (by omega)
        have hse : ¬ (n < q) := by omega
        clear hr hp
        go_wp2_with ((refine bP (some 40) Try.func164 S (mg n jP.out HZ.out (aI HF.out S.out.below) (S.out.tree _ (.head _))) ?_; clear S; intro dJ S; have gX := (S.out.cell _ (.head _)).1))
        clear gX
        have hw := HW.out
        go_wp2
        go_roundg n
        case measure => exact Nat.lt_of_lt_of_le (Nat.lt_succ_self _) gz.out
        case rel => exact ⟨n, (by rw [hw]), ⟨by have := HN.out; omega⟩, Nat.le_refl _, HR, S⟩
      case neg =>
       have hmn : oG (qx ax L) (Nat.min (n + 1) q) = oG (qx ax L) (Nat.min n q) := by
        by_cases hnq : n < q
        ·rw [show Nat.min (n + 1) q = n + 1 from Nat.min_eq_left (by omega), show Nat.min n q = n from Nat.min_eq_left (by omega), oG, if_neg (by unfold qx; simp; omega)]
        ·rw [show Nat.min (n + 1) q = q from Nat.min_eq_right (by omega), show Nat.min n q = q from Nat.min_eq_right (by omega)]
       rw [hmn] at hr; clear hmn
       replace HR := ae.mk hr
       obtain ⟨hga, hgb⟩ := lU (a := 0) (b := aU ax (kd L n)) (by omega)
       clear hr hp
       go_wp2_with ((refine bP (some 40) Try.func164 S (mg n jP.out HZ.out (aI HF.out S.out.below) (S.out.tree _ (.head _))) ?_; clear S; intro dJ S))
       have hw := HW.out
       go_wp2
       go_roundg n
       case measure => exact Nat.lt_of_lt_of_le (Nat.lt_succ_self _) gz.out
       case rel => exact ⟨n, (by rw [hw]), ⟨by have := HN.out; omega⟩, Nat.le_refl _, HR, S⟩
 | false =>
  simp only [Bool.false_eq_true, if_false] at hR
  have HR := ae.mk hR
  clear hR
  go_enter Try.func185, Try.ntmps185
  have gX := (S.out.cell _ (.head _)).1
  go_wp2
  clear gX
  go_loopg [5] 0 (fun gg v5 wr => ∃ i : Nat, v5 = .int .i64 (i : Int) ∧ ae (St w P [] [] [(.slice A L.length cap, L)] [(⟨g, 8, none⟩, .int .i64 (q : Int)), (⟨g, 6, none⟩, .slice A L.length cap)] wr))
  case atStart => exact ⟨q + 1, (by rw [WB.out]), S⟩
  case round =>
   clear S
   obtain ⟨i, rfl, S⟩ := hrel
   have gX := (S.out.cell _ (.head _)).1
   go_wp2
   clear gX
   go_loopg [6] (q + 1) (fun gg v6 wr => ∃ n : Nat, v6 = .int .i64 ((n : Int) - 1) ∧ ae (n ≤ q + 1) ∧ n ≤ gg ∧ ae (oG (qx ax L) n = R) ∧ ae (St w P [] [] [(.slice A L.length cap, L)] [(⟨g, 8, none⟩, .int .i64 (q : Int)), (⟨g, 6, none⟩, .slice A L.length cap)] wr))
   case atStart => exact ⟨q + 1, (by congr 1; omega), ⟨Nat.le_refl _⟩, Nat.le_refl _, HR, S⟩
   case round =>
    clear S HR
    obtain ⟨n, rfl, HN, hgg, HR, S⟩ := hrel
    cases n with
    | zero =>
     have hr := HR.out
     rw [oG] at hr
     replace HR := ae.mk hr
     clear hr
     go_wp2
     go_ret
     rw [← HR.out]
     exact ⟨rfl, S.out.below⟩
    | succ n =>
     have e1 : (((n + 1 : Nat) : Int) - 1) = (n : Int) := by omega
     rw [e1]
     have jP := ae.mk (show n < L.length by have := HN.out; have := HQ.out; omega)
     have gz := ae.mk hgg
     have hw : wrap64 ((n : Int) - 1) = (n : Int) - 1 := by have := HN.out; have := HQ.out; have := jl.out; unfold wrap64; omega
     have HW := ae.mk hw
     have h0 : decide ((n : Int) ≥ 0) = true := decide_eq_true (Int.natCast_nonneg _)
     have wC : (0 : Int) ≤ (n : Int) := Int.natCast_nonneg _
     have hr := HR.out
     clear hw hgg e1
     by_cases hp : 0 < aU ax (kd L n)
     case pos =>
      by_cases hnq : n < q
      case pos =>
       rw [oG, if_pos (by unfold qx; simp; omega)] at hr
       replace HR := ae.mk hr
       obtain ⟨hga, hgb⟩ := mV (a := 0) (b := aU ax (kd L n)) (by omega)
       obtain ⟨hsa, hsb⟩ := mV (a := (n : Int)) (b := (q : Int)) (by omega)
       have hsc : decide (n < q) = true := decide_eq_true (by omega)
       have hse : n < q := by omega
       clear hr hp
       go_wp2_with ((refine bP (some 40) Try.func164 S (mg n jP.out HZ.out (aI HF.out S.out.below) (S.out.tree _ (.head _))) ?_; clear S; intro dJ S; have gX := (S.out.cell _ (.head _)).1))
       clear gX
       go_ret
       rw [← HR.out]
       exact ⟨rfl, S.out.below⟩
      case neg =>
       rw [oG, if_pos (by unfold qx; simp; omega)] at hr
       replace HR := ae.mk hr
       obtain ⟨hga, hgb⟩ := mV (a := 0) (b := aU ax (kd L n)) (by omega)
       obtain ⟨hsa, hsb⟩ := lU (a := (n : Int)) (b := (q : Int)) (by omega)
       have hsc : decide (n < q) = false := decide_eq_false (by omega)
       have hse : ¬ (n < q) := by omega
       clear hr hp
       go_wp2_with ((refine bP (some 40) Try.func164 S (mg n jP.out HZ.out (aI HF.out S.out.below) (S.out.tree _ (.head _))) ?_; clear S; intro dJ S; have gX := (S.out.cell _ (.head _)).1))
       clear gX
       go_ret
       rw [← HR.out]
       exact ⟨rfl, S.out.below⟩
     case neg =>
      rw [oG, if_neg (by unfold qx; simp; omega)] at hr
      replace HR := ae.mk hr
      obtain ⟨hga, hgb⟩ := lU (a := 0) (b := aU ax (kd L n)) (by omega)
      clear hr hp
      go_wp2_with ((refine bP (some 40) Try.func164 S (mg n jP.out HZ.out (aI HF.out S.out.below) (S.out.tree _ (.head _))) ?_; clear S; intro dJ S))
      have hw := HW.out
      go_wp2
      go_roundg n
      case measure => exact Nat.lt_of_lt_of_le (Nat.lt_succ_self _) gz.out
      case rel => exact ⟨n, (by rw [hw]), ⟨by have := HN.out; omega⟩, Nat.le_refl _, HR, S⟩
def uY.T18 : Bool × List (List Nat × List Nat) := (true, [([], []), ([0], [0]), ([], []), ([], []), ([], []), ([], []), ([3, 4, 5], [3, 4, 5]), ([1, 2, 0, 1, 2, 3, 4, 5, 6], [1, 2]), ([7, 6, 6, 0, 1, 2, 3, 4, 5, 6], [6, 7])])
def uY.B18 : List Nat := [0, 1, 0, 0, 0, 0, 56, 127, 255]
theorem uY.ae4 : g_ .any (opsOf Try.f199 18) = uY.T18 := by kernel_rfl
theorem uY.abk : iL uY.T18.2 uY.B18 = true := by kernel_rfl
theorem XM {W : World} {b : Nat} {P : Nat → Prop} {A : Option Addr} {n cc : Nat} (c : ai) (ax : Int) (hV : Kd.V k26 26 W b P (.slice A n cc) c.f3) :
  Calls Try.prog 99 #[.agg #[.int .u8 c.f0, .int .i64 c.f1.f0, .int .i64 c.f1.f1, .int .i64 c.f1.f2, .int .i64 c.f1.f3, .int .i64 c.f2, .slice A n cc], .int .u8 ax] W fun e w' => e = .returned (.bool (fG ax c.f0)) ∧ Below W.heap.size W w' := by
 obtain rfl := (Kd.jZ hV).1
 exact XL c ax hV
theorem aba (ax : Int) : ∀ (N : Nat) (c : ai), sz c ≤ N → N ≤ 100000 → ∀ (bI : Int), (-2147483647 ≤ bI ∧ bI ≤ 2147483647) → ∀ (P : Nat → Prop) (A : Option Addr) (cc : Nat) (w : World), Kd.V k26 26 w w.heap.size P (.slice A c.f3.length cc) c.f3 →
  Calls Try.prog 199 #[.agg #[.int .u8 c.f0, .int .i64 c.f1.f0, .int .i64 c.f1.f1, .int .i64 c.f1.f2, .int .i64 c.f1.f3, .int .i64 c.f2, .slice A c.f3.length cc], .int .u8 ax, .int .i64 bI] w (PD w P (fF ax c bI)) := by
 intro N
 induction N with
 | zero => intro c h; rw [df] at h; omega
 | succ N ih =>
  intro c hc hN bI hby P A cc w hv
  have hsz := df c
  have hlen := jF c.f3
  have hl1 : c.f3.length ≤ 100000 := by omega
  have IH := ae.mk fun (k : ai) (hk : k ∈ c.f3) (n : Int) (hn : -2147483647 ≤ n ∧ n ≤ 2147483647) P A cc w h => ih k (by have := OZ hk; omega) (by omega) n hn P A cc w h
  have NV := ae.mk fun (k : ai) (hk : k ∈ c.f3) => (show sz k ≤ 1048576 by have := OZ hk; omega)
  have jl := ae.mk (show c.f3.length ≤ 1000000 by omega)
  have RZ := DF bI (c.f3.map (aU ax)) (by simpa using hl1) hby.1 hby.2
  have hsl := ZT (b := bI) (gs := c.f3.map (aU ax)) (by simpa using hl1) hby.1 hby.2
  have hsb := Uc (b := bI) (gs := c.f3.map (aU ax)) (by simpa using hl1) hby.1 hby.2
  have PX := fun (Ag : Option Addr) (cg : Nat) (W : World) (hC : Kd.C (Kd.int .i64) W Ag (c.f3.map (aU ax)).length (c.f3.map (aU ax))) (h2 : (c.f3.map (aU ax)).length ≤ cg) => Wh bI (c.f3.map (aU ax)) (by simpa using hl1) hby.1 hby.2 hC h2
  have Oi : ∀ i, Jk ax c.f0 c.f3 bI i = if (qN bI (c.f3.map (aU ax))).2 = true ∧ fG ax c.f0 = true then rd (qN bI (c.f3.map (aU ax))).1 (i : Int) else bI := fun i => rfl
  rw [yE]
  have S := ae.mk (St.start (ts := [(.slice A c.f3.length cc, c.f3)]) (b0 := w.heap.size) (w := w) (P := P) (fun t ht => by rw [List.mem_singleton.1 ht]; exact hv))
  obtain ⟨ck, ⟨cx, cy, cw, ch⟩, aK, l⟩ := c
  simp only [] at S IH NV jl RZ hsl hsb PX Oi hl1 ⊢
  obtain ⟨gw, hgw⟩ : ∃ gw, gw = if ax = 1 then wrap64 (cw + bI) else cw := ⟨_, rfl⟩
  obtain ⟨gh, hgh⟩ : ∃ gh, gh = if ax = 1 then ch else wrap64 (ch + bI) := ⟨_, rfl⟩
  simp only [grow]
  rw [← hgw, ← hgh]
  generalize Jk ax ck l bI = NS at Oi ⊢
  obtain ⟨⟨sl, ok⟩, hsp⟩ : ∃ sp, sp = qN bI (l.map (aU ax)) := ⟨_, rfl⟩
  simp only [← hsp, List.length_map] at hsl hsb PX Oi
  have HNB := ae.mk (show ∀ i, i < l.length → -2147483647 ≤ NS i ∧ NS i ≤ 2147483647 from fun i hi => by
   rw [Oi i]
   split
   ·rename_i h
    exact hsb _ (by unfold rd; rw [List.getD_eq_getElem?_getD, List.getElem?_eq_getElem (by rw [hsl h.1]; simpa using hi)]; exact List.getElem_mem _)
   ·exact hby)
  have WC := ae.mk hsl
  have HNS := ae.mk Oi
  have HSC := ae.mk PX
  have NU := ae.mk hgw
  have HGH := ae.mk hgh
  have HL1 := ae.mk hl1
  clear ih hc hN hby hv hsz hlen RZ hsl hsb PX Oi hgw hgh hsp hl1
  go_enter Try.func199, Try.ntmps199
  go_upto_if 16 with (first
   | (refine boxS 3 _ 26 S ?_; clear S; intro b3 dJ S)
   | (refine boxS 6 _ 26 S ?_; clear S; intro b6 dX S)
   | fail)
  go_cut [] (fun wc => ae (St w P [(some b6, .cells #[.int .u8 0, .int .i64 0, .int .i64 0, .int .i64 0, .int .i64 0, .int .i64 0, .slice none 0 0] 26 (0, 0)), (some b3, .cells #[.int .u8 ck, .int .i64 cx, .int .i64 cy, .int .i64 gw, .int .i64 gh, .int .i64 aK, .slice A l.length cc] 26 (0, 0))] [] [(.slice A l.length cc, l)] [] wc))
  case first =>
   by_cases hx : ax = 1
   ·have hxb : (ax == 1) = true := beq_iff_eq.mpr hx
    have HX := ae.mk hx
    clear hx
    have aX := (S.out.at bG 3).trans rfl
    go_wp2_with (first
     | (refine zQ 3 23 21 #[.int .u8 ck, .int .i64 cx, .int .i64 cy, .int .i64 (wrap64 (cw + bI)), .int .i64 ch, .int .i64 aK, .slice A l.length cc] 3 1 S ?_; clear S; intro fU S; clear aX)
     | fail)
    go_meet
    case rel => rw [NU.out, HGH.out, if_pos HX.out, if_pos HX.out]; exact S
   ·have hxb : (ax == 1) = false := beq_eq_false_iff_ne.mpr hx
    have HX := ae.mk hx
    clear hx
    have bD := (S.out.at bG 4).trans rfl
    go_wp2_with (first
     | (refine zQ 3 30 28 #[.int .u8 ck, .int .i64 cx, .int .i64 cy, .int .i64 cw, .int .i64 (wrap64 (ch + bI)), .int .i64 aK, .slice A l.length cc] 4 1 S ?_; clear S; intro iW S; clear bD)
     | fail)
    go_meet
    case rel => rw [NU.out, HGH.out, if_neg HX.out, if_neg HX.out]; exact S
  case rest =>
   clear S NU HGH
   rename World => wx
   have S := hcut
   clear hcut
   have bu := (S.out.at bG 6).trans rfl
   go_wp2_with (first
    | (refine PW (some 33) Try.func137 S (XR l jl.out (S.out.tree _ (.head _))) ?_; clear S; intro A1 c1 mG S; clear bu)
    | (refine zQ 24 34 33 #[.int .u8 ck, .int .i64 cx, .int .i64 cy, .int .i64 gw, .int .i64 gh, .int .i64 aK, .slice A1 l.length c1] 6 1 S ?_; clear S; intro Cb S; have bu := (S.out.at bG 6).trans rfl)
    | fail)
   clear bu
   obtain ⟨oi, S1, HI0⟩ := S.out.noI
   clear S
   go_loopg [7, 38] l.length (fun gg v7 v38 wr => ∃ (pre rest : List ai) (Ag : Option Addr) (cg : Nat) (og : Obj), v7 = .slice Ag pre.length cg ∧ v38 = .int .i64 (pre.length : Int) ∧ ae (pre ++ rest = l) ∧ rest.length ≤ gg ∧ ae (IR w.heap.size (.slice Ag pre.length cg) (pre.map (aU ax)) og) ∧ ae (St w P [((Value.slice Ag pre.length cg).ownBlock, og), (some b6, .cells #[.int .u8 0, .int .i64 0, .int .i64 0, .int .i64 0, .int .i64 0, .int .i64 0, .slice none 0 0] 26 (0, 0)), (some b3, .cells #[.int .u8 ck, .int .i64 cx, .int .i64 cy, .int .i64 gw, .int .i64 gh, .int .i64 aK, .slice A1 l.length c1] 26 (0, 0))] [(.slice A1 l.length c1, l)] [(.slice A l.length cc, l)] [] wr))
   case atStart => exact ⟨[], l, none, 0, oi, rfl, rfl, ⟨rfl⟩, Nat.le_refl _, ⟨HI0⟩, ⟨S1⟩⟩
   case round =>
    clear S1 HI0 oi
    obtain ⟨pre, rest, Ag, cg, og, rfl, rfl, HE, hgg, HI, S⟩ := hrel
    cases rest with
    | nil =>
     have hE := HE.out
     rw [List.append_nil] at hE
     have hE2 := hE.symm
     subst hE2
     clear hE HE hgg
     have hlt : ¬ ((l.length : Int) < (l.length : Int)) := by omega
     have RZ := fun W hW => HSC.out Ag cg W (by have h := (Kd.dP (HI.out W hW)).2.2; rw [List.length_map] at h; exact h) (by have h := (Kd.dP (HI.out W hW)).2.1; exact h)
     have HSH := ae.mk RZ
     clear RZ HSC
     go_wp2_with (first
      | (refine jb (some 52) Try.func49 (HSH.out _ (S.out.blk _ (.head _))) ?_; rintro e zL ⟨As, cs, rfl, h1, hb⟩; refine ⟨_, rfl, ?_⟩; obtain ⟨os, S1, HI1⟩ := S.out.V5 h1 hb; replace S := ae.mk S1; have HIS := ae.mk HI1; clear S1 HI1 h1 hb; have bu := (S.out.at kR 6).trans rfl)
      | fail)
     clear bu
     go_loopg [58] l.length (fun gg v58 wr => ∃ (pre rest : List ai), v58 = .int .i64 (pre.length : Int) ∧ ae (pre ++ rest = l) ∧ rest.length ≤ gg ∧ ae (St w P [((Value.slice As sl.length cs).ownBlock, os), ((Value.slice Ag l.length cg).ownBlock, og), (some b6, .cells #[.int .u8 0, .int .i64 0, .int .i64 0, .int .i64 0, .int .i64 0, .int .i64 0, .slice none 0 0] 26 (0, 0)), (some b3, .cells #[.int .u8 ck, .int .i64 cx, .int .i64 cy, .int .i64 gw, .int .i64 gh, .int .i64 aK, .slice A1 l.length c1] 26 (0, 0))] [(.slice A1 l.length c1, (kK ax pre NS 0 ++ rest))] [(.slice A l.length cc, l)] [] wr))
     case atStart => exact ⟨[], l, rfl, ⟨rfl⟩, Nat.le_refl _, ⟨by rw [rM]; exact S.out⟩⟩
     case round =>
      clear S
      obtain ⟨pre, rest, rfl, HE, hgg, S⟩ := hrel
      cases rest with
      | nil =>
       have hE := HE.out
       rw [List.append_nil] at hE
       have hE2 := hE.symm
       subst hE2
       clear hE HE hgg
       have hlt : ¬ ((l.length : Int) < (l.length : Int)) := by omega
       obtain ⟨a_, aW, aY, aX, bD, bH, bu⟩ := St.eQ S kR
       go_wp2_with (first
        | (refine Qs 26 6 83 #[.int .u8 ck, .int .i64 cx, .int .i64 cy, .int .i64 gw, .int .i64 gh, .int .i64 aK, .slice A1 l.length c1] 0 7 S ?_; clear S; intro zM S; clear a_ aW aY aX bD bH bu)
        | fail)
       refine bodyPost_ret (results_cell_row rfl _ _ b6 26 _ (0, 0) _ rfl (S.out.blk _ dN _ rfl) Try.underlying26 rfl (by kernel_rfl)) rfl ?_
       have hN := S.out.xY
       rw [List.append_nil] at hN
       simp only [PD, yI]
       exact ⟨_, _, rfl, hN, S.out.below⟩
      | cons k rest =>
       have hk : k ∈ l := by rw [← HE.out]; simp
       have hlt : (pre.length : Int) < (l.length : Int) := by rw [← HE.out, List.length_append, List.length_cons]; omega
       have hw1 : wrap64 ((pre.length : Int) + 1) = ((pre ++ [k]).length : Int) := by have := jl.out; rw [List.length_append, List.length_singleton]; unfold wrap64; omega
       have HW1 := ae.mk hw1
       have gz := ae.mk hgg
       have HK := ae.mk hk
       have lC := ae.mk (NV.out k hk)
       have Eh := ae.mk (show pre.length ≤ 1000000 by have := jl.out; omega)
       have HJ := ae.mk (show pre.length < l.length by omega)
       have uK := ae.mk (show (pre.length : Int) < ((kK ax pre NS 0 ++ k :: rest).length : Int) by rw [List.length_append, yI, List.length_cons]; omega)
       obtain ⟨g, cap, ev, _⟩ := Kd.xm S.out.xY (by have := uK.out; omega)
       injection ev with e1 e2 e3
       subst e1
       clear e2 e3 hk hgg hw1
       obtain ⟨ua, uc, S1, hcell⟩ := S.out.He (pre.length : Int) (Int.natCast_nonneg _) uK.out
       have hrd : az (kK ax pre NS 0 ++ k :: rest) (pre.length : Int) = k := abb ax NS pre k rest
       rw [hrd] at S1 hcell
       replace S := ae.mk S1
       have x0 : wr.cell? ⟨g, pre.length * 7, none⟩ = some (.int .u8 k.f0) := hcell 0 _ rfl
       have x1 : wr.cell? ⟨g, pre.length * 7 + 1, none⟩ = some (.int .i64 k.f1.f0) := hcell 1 _ rfl
       have x2 : wr.cell? ⟨g, pre.length * 7 + 2, none⟩ = some (.int .i64 k.f1.f1) := hcell 2 _ rfl
       have x3 : wr.cell? ⟨g, pre.length * 7 + 3, none⟩ = some (.int .i64 k.f1.f2) := hcell 3 _ rfl
       have x4 : wr.cell? ⟨g, pre.length * 7 + 4, none⟩ = some (.int .i64 k.f1.f3) := hcell 4 _ rfl
       have x5 : wr.cell? ⟨g, pre.length * 7 + 5, none⟩ = some (.int .i64 k.f2) := hcell 5 _ rfl
       have x6 : wr.cell? ⟨g, pre.length * 7 + 6, none⟩ = some (.slice ua k.f3.length uc) := hcell 6 _ rfl
       clear S1 hcell hrd
       go_upto_region 16 with (first
        | (refine boxS 13 _ 26 S ?_; clear S; intro b13 O3 S; clear x0 x1 x2 x3 x4 x5 x6)
        | (refine iT 26 13 62 #[.int .u8 k.f0, .int .i64 k.f1.f0, .int .i64 k.f1.f1, .int .i64 k.f1.f2, .int .i64 k.f1.f3, .int .i64 k.f2, .slice ua k.f3.length uc] 0 7 S ?_; clear S; intro BQ S)
        | fail)
       go_cut [69] (fun v69 wc => v69 = .bool (ok && fG ax ck) ∧ ae (St w P [(some b13, .cells #[.int .u8 k.f0, .int .i64 k.f1.f0, .int .i64 k.f1.f1, .int .i64 k.f1.f2, .int .i64 k.f1.f3, .int .i64 k.f2, .slice ua k.f3.length uc] 26 (0, 0)), ((Value.slice As sl.length cs).ownBlock, os), ((Value.slice Ag l.length cg).ownBlock, og), (some b6, .cells #[.int .u8 0, .int .i64 0, .int .i64 0, .int .i64 0, .int .i64 0, .int .i64 0, .slice none 0 0] 26 (0, 0)), (some b3, .cells #[.int .u8 ck, .int .i64 cx, .int .i64 cy, .int .i64 gw, .int .i64 gh, .int .i64 aK, .slice (some ⟨g, 0, none⟩) l.length c1] 26 (0, 0))] [(.slice (some ⟨g, 0, none⟩) l.length c1, (kK ax pre NS 0 ++ k :: rest))] [(.slice ua k.f3.length uc, k.f3), (.slice A l.length cc, l)] [] wc))
       case first =>
        cases ok with
        | false =>
         go_wp2
         go_meet
         case rel => exact ⟨by first | rfl | simp, S⟩
        | true =>
         obtain ⟨a_, aW, aY, aX, bD, bH, bu⟩ := St.eQ S qg
         go_wp2_with (first
          | (refine gm 68 rfl ?_; (refine fB (by rfl) ?_; dsimp only); refine bP (some 68) Try.func99 S (XM ⟨ck, ⟨cx, cy, gw, gh⟩, aK, _⟩ ax (Kd.qJ (base' := 0) (S.out.own _ (.head _)))) ?_; clear S; intro QJ S; clear a_ aW aY aX bD bH bu)
          | fail)
         go_meet
         case rel => exact ⟨by first | rfl | simp, S⟩
       case rest =>
        clear S
        obtain ⟨rfl, S⟩ := hcut
        rename World => wz
        go_upto_if 69 with fail
        go_cut [14] (fun v14 wc => v14 = .int .i64 (NS pre.length) ∧ ae (St w P [(some b13, .cells #[.int .u8 k.f0, .int .i64 k.f1.f0, .int .i64 k.f1.f1, .int .i64 k.f1.f2, .int .i64 k.f1.f3, .int .i64 k.f2, .slice ua k.f3.length uc] 26 (0, 0)), ((Value.slice As sl.length cs).ownBlock, os), ((Value.slice Ag l.length cg).ownBlock, og), (some b6, .cells #[.int .u8 0, .int .i64 0, .int .i64 0, .int .i64 0, .int .i64 0, .int .i64 0, .slice none 0 0] 26 (0, 0)), (some b3, .cells #[.int .u8 ck, .int .i64 cx, .int .i64 cy, .int .i64 gw, .int .i64 gh, .int .i64 aK, .slice (some ⟨g, 0, none⟩) l.length c1] 26 (0, 0))] [(.slice (some ⟨g, 0, none⟩) l.length c1, (kK ax pre NS 0 ++ k :: rest))] [(.slice ua k.f3.length uc, k.f3), (.slice A l.length cc, l)] [] wc))
        case first =>
         cases hoa : (ok && fG ax ck) with
         | false =>
          go_wp2
          go_meet
          case rel => exact ⟨by rw [HNS.out, if_neg (by intro h; rw [h.1, h.2] at hoa; cases hoa)], S⟩
         | true =>
          have hok : ok = true ∧ fG ax ck = true := by simpa using hoa
          have hsl2 : sl.length = l.length := WC.out hok.1
          have hlt2 : (pre.length : Int) < (sl.length : Int) := by rw [hsl2]; exact hlt
          obtain ⟨ads, ea, _⟩ := Kd.iy (Kd.dP (HIS.out _ (S.out.blk _ bG))).2.2 (pre.length : Int) (Int.natCast_nonneg _) hlt2
          subst ea
          have QY := ae.mk hok
          clear hok
          have xs := AZ HIS.out (S.out.blk _ bG) pre.length hlt2
          go_wp2
          clear xs
          go_meet
          case rel => exact ⟨by rw [HNS.out, if_pos QY.out], S⟩
        case rest =>
         clear S
         obtain ⟨rfl, S⟩ := hcut
         rename World => wy
         go_wp2
         refine ik (n := 9) (S := fun w' => St w _ _ _ _ _ w') (ds := [8]) (bA 9 0) (by kernel_rfl) rfl rfl (S.out.call (bg (Below.refl _ _))) (fun hHeld => ?_); refine ed uY.ae4 uY.abk (fun aj dW => ?_)
         replace S := ae.mk (S.out.call (bg (Below.refl _ _)))
         generalize wy.drew = ake at S hHeld ⊢
         refine au 0 74 (bA 9 1) aj ?_
         refine dS 1 75 (bA 9 3) aj dW hHeld ?_ (hv := by intro w' hs_; have bu := (hs_.at qg 6).trans rfl; go_simp; with_reducible rfl)
         refine au 2 76 (bA 9 7) aj ?_
         refine dS 3 77 (bA 9 15) aj dW hHeld ?_ (hv := by intro w' hs_; have ail := (hs_.at (.head _) 0).trans rfl; have aim := (hs_.at (.head _) 1).trans rfl; have ain := (hs_.at (.head _) 2).trans rfl; have aio := (hs_.at (.head _) 3).trans rfl; have aip := (hs_.at (.head _) 4).trans rfl; have aiq := (hs_.at (.head _) 5).trans rfl; have air := (hs_.at (.head _) 6).trans rfl; go_simp; with_reducible rfl)
         refine au 4 78 (bA 9 31) aj ?_
         refine au 5 79 (bA 9 63) aj ?_
         refine jR 6 (some 80) (bA 9 127) aj (fun K hK => ?_)
         refine BA Try.func199 #[.agg #[.int .u8 k.f0, .int .i64 k.f1.f0, .int .i64 k.f1.f1, .int .i64 k.f1.f2, .int .i64 k.f1.f3, .int .i64 k.f2, .slice ua k.f3.length uc], .int .u8 ax, .int .i64 (NS pre.length)] ?_
         refine (IH.out k HK.out (NS pre.length) (HNB.out _ HJ.out) _ ua uc _ (f_ (S.out.tree _ (.head _)))).mono ?_
         rintro e adG ⟨Av, cv, rfl, h1, hb⟩
         refine ⟨_, rfl, ?_⟩
         replace S := ae.mk (S.out.res (Kd.qJ (base' := 0) h1) hb)
         clear h1 hb
         refine hK.out _ _ S.out.dG (fun hHeld => ?_)
         clear hK K
         refine eF 80 ?_
         refine au 7 81 (bA 9 255) aj ?_
         refine oH 8 none (bA 9 511) aj (fun K hK => ?_)
         refine OV (pre.length : Int) (fF ax k (NS pre.length)) (.tmp 81) (.tmp 80) rfl S.out (by rfl) rfl (Int.natCast_nonneg _) uK.out (by first | rfl | (go_simp; rfl)) rfl (by kernel_rfl) (.head _) ?_
         intro adH S1
         rw [show (kK ax pre NS 0 ++ k :: rest).set (pre.length : Int).toNat (fF ax k (NS pre.length)) = kK ax (pre ++ [k]) NS 0 ++ rest from XK ax NS pre k rest] at S1
         replace S := ae.mk S1
         clear S1
         refine hK.out _ _ ?_
         clear hK K
         refine ji (fP aj.out (by kernel_rfl)) ?_
         clear hHeld
         go_wp2
         have hw1 := HW1.out
         go_wp2
         go_roundg rest.length
         case measure => exact Nat.lt_of_lt_of_le (Nat.lt_succ_self _) gz.out
         case rel => exact ⟨pre ++ [k], rest, (by rw [hw1]), ⟨by rw [List.append_assoc]; exact HE.out⟩, Nat.le_refl _, ⟨S.out.dQ.dG.dG⟩⟩
    | cons k rest =>
     have hk : k ∈ l := by rw [← HE.out]; simp
     have hlt : (pre.length : Int) < (l.length : Int) := by rw [← HE.out, List.length_append, List.length_cons]; omega
     have hw1 : wrap64 ((pre.length : Int) + 1) = ((pre ++ [k]).length : Int) := by have := jl.out; rw [List.length_append, List.length_singleton]; unfold wrap64; omega
     have HW1 := ae.mk hw1
     have gz := ae.mk hgg
     have HK := ae.mk hk
     have lC := ae.mk (NV.out k hk)
     have Eh := ae.mk (show pre.length ≤ 1000000 by have := jl.out; omega)
     have HJ := ae.mk (show pre.length < l.length by omega)
     have uK := ae.mk (show (pre.length : Int) < ((l).length : Int) by omega)
     obtain ⟨g, cap, ev, _⟩ := Kd.xm S.out.xY (by have := uK.out; omega)
     injection ev with e1 e2 e3
     subst e1
     clear e2 e3 hk hgg hw1
     obtain ⟨ua, uc, S1, hcell⟩ := S.out.He (pre.length : Int) (Int.natCast_nonneg _) uK.out
     have hrd : az (l) (pre.length : Int) = k := (by rw [← HE.out]; exact lN pre k rest)
     rw [hrd] at S1 hcell
     replace S := ae.mk S1
     have x0 : wr.cell? ⟨g, pre.length * 7, none⟩ = some (.int .u8 k.f0) := hcell 0 _ rfl
     have x1 : wr.cell? ⟨g, pre.length * 7 + 1, none⟩ = some (.int .i64 k.f1.f0) := hcell 1 _ rfl
     have x2 : wr.cell? ⟨g, pre.length * 7 + 2, none⟩ = some (.int .i64 k.f1.f1) := hcell 2 _ rfl
     have x3 : wr.cell? ⟨g, pre.length * 7 + 3, none⟩ = some (.int .i64 k.f1.f2) := hcell 3 _ rfl
     have x4 : wr.cell? ⟨g, pre.length * 7 + 4, none⟩ = some (.int .i64 k.f1.f3) := hcell 4 _ rfl
     have x5 : wr.cell? ⟨g, pre.length * 7 + 5, none⟩ = some (.int .i64 k.f2) := hcell 5 _ rfl
     have x6 : wr.cell? ⟨g, pre.length * 7 + 6, none⟩ = some (.slice ua k.f3.length uc) := hcell 6 _ rfl
     clear S1 hcell hrd
     go_wp2_with (first
      | (refine boxS 9 _ 26 S ?_; clear S; intro b9 agH S; clear x0 x1 x2 x3 x4 x5 x6)
      | (refine iT 26 9 41 #[.int .u8 k.f0, .int .i64 k.f1.f0, .int .i64 k.f1.f1, .int .i64 k.f1.f2, .int .i64 k.f1.f3, .int .i64 k.f2, .slice ua k.f3.length uc] 0 7 S ?_; clear S; intro akb S; obtain ⟨sK, Bi, vP, Bj, PL, PM, PN⟩ := St.eQ S (.head _))
      | (refine bP (some 45) Try.func86 S (AA k ax lC.out (S.out.tree _ (.head _))) ?_; clear S; intro akc S; clear sK Bi vP Bj PL PM PN)
      | ((with_reducible refine aA (N := 47) rfl ?_); at_builtin; go_loud (refine XN (.tmp 42) (.tmp 46) rfl rfl Try.underlying41 info3 S.out.Xn HI.out (aU ax k) rfl (by first | (go_simp; done) | (go_simp; rfl)) (by have := Eh.out; simp only [List.length_map]; omega) ?_); intro Ag2 cg2 og2 akd S1 I1; rw [show (pre.map (aU ax) ++ [aU ax k]).length = (pre ++ [k]).length by simp] at S1 I1 ⊢; replace S := ae.mk S1.Xn; have HI2 := ae.mk I1; clear S1 I1 HI)
      | fail)
     have hw1 := HW1.out
     go_wp2
     go_roundg rest.length
     case measure => exact Nat.lt_of_lt_of_le (Nat.lt_succ_self _) gz.out
     case rel => exact ⟨pre ++ [k], rest, Ag2, cg2, og2, (by simp), (by rw [hw1]), ⟨by rw [List.append_assoc]; exact HE.out⟩, Nat.le_refl _, ⟨by rw [List.map_append]; exact HI2.out⟩, ⟨S.out.dQ.dG⟩⟩
def xG.T6 : Bool × List (List Nat × List Nat) := (true, [([], []), ([], []), ([], []), ([0, 1, 2], [0, 1, 2]), ([], []), ([4], [4]), ([5], [5]), ([], []), ([7], [7]), ([8], [8]), ([3, 6, 9, 3], [3, 6, 9]), ([10, 10, 0, 1, 2, 3, 4, 5, 6, 7, 8, 9, 10], [10]), ([11, 0, 1, 2, 3, 4, 5, 6, 7, 8, 9, 10, 11], [])])
def xG.B6 : List Nat := [0, 0, 0, 7, 0, 16, 48, 0, 128, 384, 1023, 2047, 4095]
theorem xG.tab6 : g_ .any (opsOf Try.f183 6) = xG.T6 := by kernel_rfl
theorem xG.F5 : iL xG.T6.2 xG.B6 = true := by kernel_rfl
theorem Ro (ax : Int) (c : ai) (hz : sz c ≤ 1048576) (bI : Int) (P : Nat → Prop) (A : Option Addr) (cc : Nat) (w : World) (hv : Kd.V k26 26 w w.heap.size P (.slice A c.f3.length cc) c.f3) :
  Calls Try.prog 183 #[.agg #[.int .u8 c.f0, .int .i64 c.f1.f0, .int .i64 c.f1.f1, .int .i64 c.f1.f2, .int .i64 c.f1.f3, .int .i64 c.f2, .slice A c.f3.length cc], .int .u8 ax, .int .i64 bI] w (aed w P (aZ ax c bI) (aN ax c bI)) := by
 have S := ae.mk (St.start (ts := [(.slice A c.f3.length cc, c.f3)]) (b0 := w.heap.size) (w := w) (P := P) (fun t ht => by rw [List.mem_singleton.1 ht]; exact hv))
 have HZ := ae.mk hz
 obtain ⟨ck, ⟨cx, cy, cw, ch⟩, aK, l⟩ := c
 simp only [] at S
 clear hv hz
 cases ht : bZ ⟨ck, ⟨cx, cy, cw, ch⟩, aK, l⟩ with
 | false =>
  have HB := ae.mk (show xP ax ⟨ck, ⟨cx, cy, cw, ch⟩, aK, l⟩ = true by unfold xP; rw [ht]; rfl)
  go_enter Try.func183, Try.ntmps183
  go_wp2_with (first | (refine boxS 3 _ 26 S ?_; clear S; intro b3 dJ S) | (refine boxS 6 _ 26 S ?_; clear S; intro b6 dX S; obtain ⟨a_, aW, aY, aX, bD, bH, bu⟩ := St.eQ S bG) | ((with_reducible refine aA (N := 10) rfl ?_); refine pO (N := 10) rfl rfl ⟨ck, ⟨cx, cy, cw, ch⟩, aK, l⟩ S.out (S.out.tree _ (.head _)) ?hr ?_; (case hr => (go_simp; rfl)); intro Ur UW fU S1 h1 h2; replace S := ae.mk S1; have oO := ae.mk h1; have rG := ae.mk h2; clear S1 h1 h2; clear a_ aW aY aX bD bH bu) | (refine bP (some 11) Try.func148 S (pW ⟨ck, ⟨cx, cy, cw, ch⟩, aK, l⟩ HZ.out rG.out oO.out) ?_; clear S; intro iW S) | (refine iT 26 6 21 #[.int .u8 0, .int .i64 0, .int .i64 0, .int .i64 0, .int .i64 0, .int .i64 0, .slice none 0 0] 0 7 S ?_; clear S; intro mG S))
  refine bodyPost_ret (fC rfl _ _ b6 26 _ (0, 0) _ rfl (S.out.blk _ (.head _) _ rfl) Try.underlying26 rfl (by kernel_rfl)) rfl ?_
  rw [show aN ax ⟨ck, ⟨cx, cy, cw, ch⟩, aK, l⟩ bI = 1 by unfold aN; rw [if_pos HB.out], show aZ ax ⟨ck, ⟨cx, cy, cw, ch⟩, aK, l⟩ bI = z26 by unfold aZ; rw [if_pos HB.out]]
  exact ⟨_, _, rfl, Kd.yu _ _ _ _ _, S.out.below⟩
 | true =>
  have HT := ae.mk ht
  by_cases hax : ax = 1 ∨ ax = 2
  ·have HB := ae.mk (show xP ax ⟨ck, ⟨cx, cy, cw, ch⟩, aK, l⟩ = false by unfold xP; rw [ht]; rcases hax with rfl | rfl <;> rfl)
   have o_ := ae.mk hax
   clear ht hax
   go_enter Try.func183, Try.ntmps183
   go_upto_region 1 with (first | (refine boxS 3 _ 26 S ?_; clear S; intro b3 dJ S) | (refine boxS 6 _ 26 S ?_; clear S; intro b6 dX S))
   (skip)
   go_cut [20] (fun v20 wc => v20 = .bool false ∧ ae (St w P [(some b6, .cells #[.int .u8 0, .int .i64 0, .int .i64 0, .int .i64 0, .int .i64 0, .int .i64 0, .slice none 0 0] 26 (0, 0)), (some b3, .cells #[.int .u8 ck, .int .i64 cx, .int .i64 cy, .int .i64 cw, .int .i64 ch, .int .i64 aK, .slice A l.length cc] 26 (0, 0))] [] [(.slice A l.length cc, l)] [] wc))
   case first =>
    by_cases h1 : ax = 1
    ·skip
     have h1b : (ax != 1) = false := by rw [h1]; rfl
     clear h1
     obtain ⟨a_, aW, aY, aX, bD, bH, bu⟩ := St.eQ S bG
     go_wp2_with (first | ((with_reducible refine aA (N := 10) rfl ?_); refine pO (N := 10) rfl rfl ⟨ck, ⟨cx, cy, cw, ch⟩, aK, l⟩ S.out (S.out.tree _ (.head _)) ?hr ?_; (case hr => (go_simp; rfl)); intro Ur UW dJ S1 h1 h2; replace S := ae.mk S1; have oO := ae.mk h1; have rG := ae.mk h2; clear S1 h1 h2; clear a_ aW aY aX bD bH bu) | (refine bP (some 11) Try.func148 S (kE HT.out (pW ⟨ck, ⟨cx, cy, cw, ch⟩, aK, l⟩ HZ.out rG.out oO.out)) ?_; clear S; intro dX S))
     go_meet
     case rel => exact ⟨by rfl, S⟩
    ·skip
     have h1b : (ax != 1) = true := bne_iff_ne.mpr h1
     have h2b : (ax != 2) = false := by rw [o_.out.resolve_left h1]; rfl
     clear h1
     obtain ⟨a_, aW, aY, aX, bD, bH, bu⟩ := St.eQ S bG
     go_wp2_with (first | ((with_reducible refine aA (N := 10) rfl ?_); refine pO (N := 10) rfl rfl ⟨ck, ⟨cx, cy, cw, ch⟩, aK, l⟩ S.out (S.out.tree _ (.head _)) ?hr ?_; (case hr => (go_simp; rfl)); intro Ur UW dJ S1 h1 h2; replace S := ae.mk S1; have oO := ae.mk h1; have rG := ae.mk h2; clear S1 h1 h2; clear a_ aW aY aX bD bH bu) | (refine bP (some 11) Try.func148 S (kE HT.out (pW ⟨ck, ⟨cx, cy, cw, ch⟩, aK, l⟩ HZ.out rG.out oO.out)) ?_; clear S; intro dX S))
     go_meet
     case rel => exact ⟨by rfl, S⟩
   case rest =>
    clear S
    obtain ⟨rfl, S⟩ := hcut
    rename World => wx
    have aW := (S.out.at bG 1).trans rfl
    have aX := (S.out.at bG 3).trans rfl
    have aY := (S.out.at bG 2).trans rfl
    have bD := (S.out.at bG 4).trans rfl
    go_upto_region 4 with ((refine bP (some 38) Try.func98 S (ady ⟨0, 0, wrap64 (cx + cw), wrap64 (cy + ch)⟩ ax) ?_; clear S; intro dJ S; clear aW aX aY bD))
    (skip)
    by_cases h4 : bI < wrap64 (-(aU ax ⟨ck, ⟨cx, cy, cw, ch⟩, aK, l⟩))
    ·have Gh : decide (bI < wrap64 (-(aU ax ⟨ck, ⟨cx, cy, cw, ch⟩, aK, l⟩))) = true := decide_eq_true h4
     have HO := ae.mk (show xQ ax ⟨ck, ⟨cx, cy, cw, ch⟩, aK, l⟩ bI = true by unfold xQ; rw [Gh]; rfl)
     clear h4
     obtain ⟨a_, aW, aY, aX, bD, bH, bu⟩ := St.eQ S bG
     go_wp2_with (first | (refine bP (some 42) Try.func86 S (AA ⟨ck, ⟨cx, cy, cw, ch⟩, aK, l⟩ ax HZ.out (S.out.tree _ (.head _))) ?_; clear S; intro dJ S; clear a_ aW aY aX bD bH bu) | (refine iT 26 6 51 #[.int .u8 0, .int .i64 0, .int .i64 0, .int .i64 0, .int .i64 0, .int .i64 0, .slice none 0 0] 0 7 S ?_; clear S; intro dX S))
     refine bodyPost_ret (fC rfl _ _ b6 26 _ (0, 0) _ rfl (S.out.blk _ (.head _) _ rfl) Try.underlying26 rfl (by kernel_rfl)) rfl ?_
     rw [show aN ax ⟨ck, ⟨cx, cy, cw, ch⟩, aK, l⟩ bI = 7 by unfold aN; rw [if_neg (by rw [HB.out]; simp), if_pos HO.out], show aZ ax ⟨ck, ⟨cx, cy, cw, ch⟩, aK, l⟩ bI = z26 by unfold aZ; rw [if_neg (by rw [HB.out]; simp), if_pos HO.out]]
     exact ⟨_, _, rfl, Kd.yu _ _ _ _ _, S.out.below⟩
    ·have Gh : decide (bI < wrap64 (-(aU ax ⟨ck, ⟨cx, cy, cw, ch⟩, aK, l⟩))) = false := decide_eq_false h4
     by_cases h5 : bI > wrap64 (10000 - (aV ax ⟨0, 0, wrap64 (cx + cw), wrap64 (cy + ch)⟩))
     ·have LX : decide (bI > wrap64 (10000 - (aV ax ⟨0, 0, wrap64 (cx + cw), wrap64 (cy + ch)⟩))) = true := decide_eq_true h5
      have RY : decide (wrap64 (10000 - (aV ax ⟨0, 0, wrap64 (cx + cw), wrap64 (cy + ch)⟩)) < bI) = true := decide_eq_true h5
      have HO := ae.mk (show xQ ax ⟨ck, ⟨cx, cy, cw, ch⟩, aK, l⟩ bI = true by unfold xQ; rw [Gh]; exact LX)
      clear h4 h5
      obtain ⟨a_, aW, aY, aX, bD, bH, bu⟩ := St.eQ S bG
      go_wp2_with (first | (refine bP (some 42) Try.func86 S (AA ⟨ck, ⟨cx, cy, cw, ch⟩, aK, l⟩ ax HZ.out (S.out.tree _ (.head _))) ?_; clear S; intro dJ S; clear a_ aW aY aX bD bH bu) | (refine iT 26 6 51 #[.int .u8 0, .int .i64 0, .int .i64 0, .int .i64 0, .int .i64 0, .int .i64 0, .slice none 0 0] 0 7 S ?_; clear S; intro dX S))
      refine bodyPost_ret (fC rfl _ _ b6 26 _ (0, 0) _ rfl (S.out.blk _ (.head _) _ rfl) Try.underlying26 rfl (by kernel_rfl)) rfl ?_
      rw [show aN ax ⟨ck, ⟨cx, cy, cw, ch⟩, aK, l⟩ bI = 7 by unfold aN; rw [if_neg (by rw [HB.out]; simp), if_pos HO.out], show aZ ax ⟨ck, ⟨cx, cy, cw, ch⟩, aK, l⟩ bI = z26 by unfold aZ; rw [if_neg (by rw [HB.out]; simp), if_pos HO.out]]
      exact ⟨_, _, rfl, Kd.yu _ _ _ _ _, S.out.below⟩
     ·have LX : decide (bI > wrap64 (10000 - (aV ax ⟨0, 0, wrap64 (cx + cw), wrap64 (cy + ch)⟩))) = false := decide_eq_false h5
      have RY : decide (wrap64 (10000 - (aV ax ⟨0, 0, wrap64 (cx + cw), wrap64 (cy + ch)⟩)) < bI) = false := decide_eq_false h5
      have HO := ae.mk (show xQ ax ⟨ck, ⟨cx, cy, cw, ch⟩, aK, l⟩ bI = false by unfold xQ; rw [Gh]; exact LX)
      have hf := afY HB.out HO.out
      have HZ2 := ae.mk (show sz ⟨ck, ⟨cx, cy, cw, ch⟩, aK, l⟩ ≤ 100000 by omega)
      have HZ3 := ae.mk (show sz (fF ax ⟨ck, ⟨cx, cy, cw, ch⟩, aK, l⟩ bI) ≤ 1000000 by rw [(abd ax _).1 _ (Nat.le_refl _)]; omega)
      have HBY := ae.mk (show -2147483647 ≤ bI ∧ bI ≤ 2147483647 by omega)
      clear hf h4 h5
      obtain ⟨a_, aW, aY, aX, bD, bH, bu⟩ := St.eQ S bG
      go_wp2_with ((refine bP (some 42) Try.func86 S (AA ⟨ck, ⟨cx, cy, cw, ch⟩, aK, l⟩ ax HZ.out (S.out.tree _ (.head _))) ?_; clear S; intro dJ S; clear a_ aW aY aX bD bH bu))
      refine ik (n := 13) (S := fun w' => St w _ _ _ _ _ w') (ds := [11]) (bA 13 0) (by kernel_rfl) rfl rfl (S.out.call (bg (Below.refl _ _))) (fun hHeld => ?_); refine ed xG.tab6 xG.F5 (fun aj dW => ?_)
      replace S := ae.mk (S.out.call (bg (Below.refl _ _)))
      generalize dJ.drew = wd2 at S hHeld ⊢
      refine dS 0 52 (bA 13 1) aj dW hHeld ?_ (hv := by intro w' hs_; have a_ := (hs_.at bG 0).trans rfl; have aW := (hs_.at bG 1).trans rfl; have aY := (hs_.at bG 2).trans rfl; have aX := (hs_.at bG 3).trans rfl; have bD := (hs_.at bG 4).trans rfl; have bH := (hs_.at bG 5).trans rfl; have bu := (hs_.at bG 6).trans rfl; go_simp; with_reducible rfl)
      refine au 1 53 (bA 13 3) aj ?_
      refine au 2 54 (bA 13 7) aj ?_
      refine au 4 56 (bA 13 23) aj ?_
      refine au 5 57 (bA 13 55) aj ?_
      refine dS 6 58 (bA 13 119) aj dW hHeld ?_ (hv := by intro w' hs_; have aW := (hs_.at bG 1).trans rfl; go_simp; with_reducible rfl)
      refine au 7 59 (bA 13 247) aj ?_
      refine au 8 60 (bA 13 503) aj ?_
      refine dS 9 61 (bA 13 1015) aj dW hHeld ?_ (hv := by intro w' hs_; have aY := (hs_.at bG 2).trans rfl; go_simp; with_reducible rfl)
      refine jR 3 (some 55) (bA 13 1023) aj (fun K hK => ?_)
      refine jB Try.func199 (by kernel_rfl) rfl #[.agg #[.int .u8 ck, .int .i64 cx, .int .i64 cy, .int .i64 cw, .int .i64 ch, .int .i64 aK, .slice A l.length cc], .int .u8 ax, .int .i64 bI] (by rfl) rfl rfl (by (try simp only [List.map_toArray, List.map_cons, List.map_nil]); rfl) ?_
      refine (aba ax 100000 ⟨ck, ⟨cx, cy, cw, ch⟩, aK, l⟩ HZ2.out (Nat.le_refl _) bI HBY.out _ A cc _ (f_ (S.out.tree _ (.head _)))).mono ?_
      rintro e fU ⟨A55, af6, rfl, h1, hb⟩
      refine ⟨_, rfl, ?_⟩
      replace S := ae.mk (S.out.res (Kd.qJ (base' := 0) h1) hb)
      clear h1 hb
      refine hK.out _ _ S.out.dG (fun hHeld => ?_)
      clear hK K
      refine eF 55 ?_
      refine jR 10 (some 62) (bA 13 2047) aj (fun K hK => ?_)
      refine jB Try.func66 (by kernel_rfl) rfl #[.agg #[.int .u8 ((fF ax ⟨ck, ⟨cx, cy, cw, ch⟩, aK, l⟩ bI).f0), .int .i64 ((fF ax ⟨ck, ⟨cx, cy, cw, ch⟩, aK, l⟩ bI).f1.f0), .int .i64 ((fF ax ⟨ck, ⟨cx, cy, cw, ch⟩, aK, l⟩ bI).f1.f1), .int .i64 ((fF ax ⟨ck, ⟨cx, cy, cw, ch⟩, aK, l⟩ bI).f1.f2), .int .i64 ((fF ax ⟨ck, ⟨cx, cy, cw, ch⟩, aK, l⟩ bI).f1.f3), .int .i64 ((fF ax ⟨ck, ⟨cx, cy, cw, ch⟩, aK, l⟩ bI).f2), .slice A55 ((fF ax ⟨ck, ⟨cx, cy, cw, ch⟩, aK, l⟩ bI).f3.length) af6], .int .i64 cx, .int .i64 cy] (by rfl) rfl rfl (by (try simp only [List.map_toArray, List.map_cons, List.map_nil]); rfl) ?_
      refine (JL (fF ax ⟨ck, ⟨cx, cy, cw, ch⟩, aK, l⟩ bI) cx cy HZ3.out (S.out.tree _ (.head _))).mono ?_
      rintro e iW ⟨A62, UQ, rfl, h1, hb⟩
      refine ⟨_, rfl, ?_⟩
      replace S := ae.mk (S.out.x_ h1 hb)
      clear h1 hb
      refine hK.out _ _ S.out.free.dG.dG (fun hHeld => ?_)
      clear hK K
      refine eF 62 ?_
      refine oH 11 none (bA 13 4095) aj (fun K hK => ?_)
      refine nU 0 rfl 26 (.tmp 6) (.tmp 62) rfl #[.int .u8 ((dA (fF ax ⟨ck, ⟨cx, cy, cw, ch⟩, aK, l⟩ bI) cx cy).f0), .int .i64 ((dA (fF ax ⟨ck, ⟨cx, cy, cw, ch⟩, aK, l⟩ bI) cx cy).f1.f0), .int .i64 ((dA (fF ax ⟨ck, ⟨cx, cy, cw, ch⟩, aK, l⟩ bI) cx cy).f1.f1), .int .i64 ((dA (fF ax ⟨ck, ⟨cx, cy, cw, ch⟩, aK, l⟩ bI) cx cy).f1.f2), .int .i64 ((dA (fF ax ⟨ck, ⟨cx, cy, cw, ch⟩, aK, l⟩ bI) cx cy).f1.f3), .int .i64 ((dA (fF ax ⟨ck, ⟨cx, cy, cw, ch⟩, aK, l⟩ bI) cx cy).f2), .slice A62 ((dA (fF ax ⟨ck, ⟨cx, cy, cw, ch⟩, aK, l⟩ bI) cx cy).f3.length) UQ] (j := 0) (u := .agg #[.int .u8 ((dA (fF ax ⟨ck, ⟨cx, cy, cw, ch⟩, aK, l⟩ bI) cx cy).f0), .int .i64 ((dA (fF ax ⟨ck, ⟨cx, cy, cw, ch⟩, aK, l⟩ bI) cx cy).f1.f0), .int .i64 ((dA (fF ax ⟨ck, ⟨cx, cy, cw, ch⟩, aK, l⟩ bI) cx cy).f1.f1), .int .i64 ((dA (fF ax ⟨ck, ⟨cx, cy, cw, ch⟩, aK, l⟩ bI) cx cy).f1.f2), .int .i64 ((dA (fF ax ⟨ck, ⟨cx, cy, cw, ch⟩, aK, l⟩ bI) cx cy).f1.f3), .int .i64 ((dA (fF ax ⟨ck, ⟨cx, cy, cw, ch⟩, aK, l⟩ bI) cx cy).f2), .slice A62 ((dA (fF ax ⟨ck, ⟨cx, cy, cw, ch⟩, aK, l⟩ bI) cx cy).f3.length) UQ]) (bJ := [.int .u8 ((dA (fF ax ⟨ck, ⟨cx, cy, cw, ch⟩, aK, l⟩ bI) cx cy).f0), .int .i64 ((dA (fF ax ⟨ck, ⟨cx, cy, cw, ch⟩, aK, l⟩ bI) cx cy).f1.f0), .int .i64 ((dA (fF ax ⟨ck, ⟨cx, cy, cw, ch⟩, aK, l⟩ bI) cx cy).f1.f1), .int .i64 ((dA (fF ax ⟨ck, ⟨cx, cy, cw, ch⟩, aK, l⟩ bI) cx cy).f1.f2), .int .i64 ((dA (fF ax ⟨ck, ⟨cx, cy, cw, ch⟩, aK, l⟩ bI) cx cy).f1.f3), .int .i64 ((dA (fF ax ⟨ck, ⟨cx, cy, cw, ch⟩, aK, l⟩ bI) cx cy).f2), .slice A62 ((dA (fF ax ⟨ck, ⟨cx, cy, cw, ch⟩, aK, l⟩ bI) cx cy).f3.length) UQ]) S.out (by rfl) rfl rfl rfl rfl (by kernel_rfl) (by simp [Value.oneCell']) (by simp) rfl ?_
      intro mG S1
      simp only [List.set_cons_zero, List.set_cons_succ] at S1
      replace S := ae.mk S1
      clear S1
      refine hK.out _ _ ?_
      clear hK K
      refine au 12 7 (bA 13 8191) aj ?_
      refine ji (fP aj.out (by kernel_rfl)) ?_
      clear hHeld
      go_wp2
      refine bodyPost_ret (fC rfl _ _ b6 26 _ (0, 0) _ rfl (S.out.blk _ (.head _) _ rfl) Try.underlying26 rfl (by kernel_rfl)) rfl ?_
      rw [show aN ax ⟨ck, ⟨cx, cy, cw, ch⟩, aK, l⟩ bI = 0 by unfold aN; rw [if_neg (by rw [HB.out]; simp), if_neg (by rw [HO.out]; simp)], show aZ ax ⟨ck, ⟨cx, cy, cw, ch⟩, aK, l⟩ bI = dA (fF ax ⟨ck, ⟨cx, cy, cw, ch⟩, aK, l⟩ bI) cx cy by unfold aZ; rw [if_neg (by rw [HB.out]; simp), if_neg (by rw [HO.out]; simp)]]
      exact ⟨_, _, rfl, S.out.xY, S.out.below⟩
  ·have h1b : (ax != 1) = true := bne_iff_ne.mpr (fun h => hax (.inl h))
   have h2b : (ax != 2) = true := bne_iff_ne.mpr (fun h => hax (.inr h))
   have HB := ae.mk (show xP ax ⟨ck, ⟨cx, cy, cw, ch⟩, aK, l⟩ = true by unfold xP; rw [ht, h1b, h2b]; rfl)
   clear hax
   go_enter Try.func183, Try.ntmps183
   go_wp2_with (first | (refine boxS 3 _ 26 S ?_; clear S; intro b3 dJ S) | (refine boxS 6 _ 26 S ?_; clear S; intro b6 dX S; obtain ⟨a_, aW, aY, aX, bD, bH, bu⟩ := St.eQ S bG) | ((with_reducible refine aA (N := 10) rfl ?_); refine pO (N := 10) rfl rfl ⟨ck, ⟨cx, cy, cw, ch⟩, aK, l⟩ S.out (S.out.tree _ (.head _)) ?hr ?_; (case hr => (go_simp; rfl)); intro Ur UW fU S1 h1 h2; replace S := ae.mk S1; have oO := ae.mk h1; have rG := ae.mk h2; clear S1 h1 h2; clear a_ aW aY aX bD bH bu) | (refine bP (some 11) Try.func148 S (pW ⟨ck, ⟨cx, cy, cw, ch⟩, aK, l⟩ HZ.out rG.out oO.out) ?_; clear S; intro iW S) | (refine iT 26 6 21 #[.int .u8 0, .int .i64 0, .int .i64 0, .int .i64 0, .int .i64 0, .int .i64 0, .slice none 0 0] 0 7 S ?_; clear S; intro mG S))
   refine bodyPost_ret (fC rfl _ _ b6 26 _ (0, 0) _ rfl (S.out.blk _ (.head _) _ rfl) Try.underlying26 rfl (by kernel_rfl)) rfl ?_
   rw [show aN ax ⟨ck, ⟨cx, cy, cw, ch⟩, aK, l⟩ bI = 1 by unfold aN; rw [if_pos HB.out], show aZ ax ⟨ck, ⟨cx, cy, cw, ch⟩, aK, l⟩ bI = z26 by unfold aZ; rw [if_pos HB.out]]
   exact ⟨_, _, rfl, Kd.yu _ _ _ _ _, S.out.below⟩
end Go.Proofs.Ytfdmfgaiblfbhaa.P
namespace Go.Proofs.Ytfdmfgaiblfbhaa.P
open Go.RowKit Go.Proofs.ag.aT Go.Proofs.ag.bK Go.Proofs.ag.bY
attribute [local go_sem] je jr jO kC jL jM kN kQ
def DI.f (k : Nat) (a0 : Int) (a1 : Int) : Option (List Int × Bool) := if a1 < 1 then (some (([] : List Int), false)) else (if a1 > 20000 then (some (([] : List Int), false)) else (if a0 < (wrap64 ((wrap64 (2 * a1)) - 1)) then (some (([] : List Int), false)) else (if a0 > 2147483647 then (some (([] : List Int), false)) else (if 0 ≤ a1 then (if (a1 : Int).toNat ≤ 35184372088832 then ((bF.f k (wrap64 ((wrap64 (a0 - a1)) + 1)) (List.replicate (a1 : Int).toNat 0)).bind fun aem => (some (aem.1, true))) else (none)) else (none)))))
def Xl.f (k : Nat)  : Option (Bool) := (DI.f k 80 3).bind fun WR => ((DI.f k 8 3).bind fun WS => (if WR.2 = true then (if WS.2 = true then ((lQ.f k WR.1 (([26, 26, 26] : List Int))).bind fun agz => (if agz = true then ((lQ.f k WS.1 (([2, 2, 2] : List Int))).bind fun agA => (some agA)) else (some false))) else (some false)) else (some false)))
mutual
def jk.j0 : Nat → Int → Int → List Int → Bool → Option (List Int × Bool)
 | 0, _, _, _, _ => none
 | k + 1, x0, x1, x6, x27 => if x27 = true then (some (x6, false)) else (if x1 = 0 then (none) else (jk.l0 k x1 x6 (wrap64 (Int.tdiv (wrap64 (x0 - (wrap64 (x1 - 1)))) x1)) (Int.tmod (wrap64 (x0 - (wrap64 (x1 - 1)))) x1) 0))
def jk.l0 : Nat → Int → List Int → Int → Int → Int → Option (List Int × Bool)
 | 0, _, _, _, _, _ => none
 | k + 1, x1, x6, x7, x8, x9 => if x9 < x1 then (if x9 < x8 then (if x6.length < 17592186044416 then (jk.l0 k x1 (x6 ++ [wrap64 (x7 + 1)]) x7 x8 (wrap64 (x9 + 1))) else (none)) else (if x6.length < 17592186044416 then (jk.l0 k x1 (x6 ++ [x7]) x7 x8 (wrap64 (x9 + 1))) else (none))) else (some (x6, true))
end
def jk.f (k : Nat) (a0 : Int) (a1 : Int) : Option (List Int × Bool) := (some (([] : List Int) : List Int)).bind fun QK => (if a1 < 1 then (jk.j0 k a0 a1 QK true) else (if a1 > 20000 then (jk.j0 k a0 a1 QK true) else (if a0 < (wrap64 ((wrap64 (2 * a1)) - 1)) then (jk.j0 k a0 a1 QK true) else (jk.j0 k a0 a1 QK (decide (a0 > 2147483647))))))
end Go.Proofs.Ytfdmfgaiblfbhaa.P
namespace Go.Proofs.Ytfdmfgaiblfbhaa.Pure
open Go.RowKit Go.Proofs.Ytfdmfgaiblfbhaa.P Go.Proofs.ag.aT Go.Proofs.ag.bK Go.Proofs.ag.bY
def Can (s n : Int) : Prop := 1 ≤ n ∧ n ≤ 20000 ∧ 2 * n - 1 ≤ s ∧ s ≤ 2147483647
end Go.Proofs.Ytfdmfgaiblfbhaa.Pure
