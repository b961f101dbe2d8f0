/- PushOne: part 5 of 6 of this claim's texts, one behind the other, made small by a program: the words of the kit's printer cut down to those that are used, the claim's own names made short. -/
import Derived.Test.YtfdmfgaiblfbhaaMPushOnec
import Derived.Test.YtfdmfgaiblfbhaaMPushOned
import Derived.WalkSpells
set_option maxHeartbeats 8000000
set_option maxRecDepth 100000
set_option linter.unusedVariables false
set_option linter.unusedSimpArgs false
namespace Go.Proofs.Ytfdmfgaiblfbhaa.P
open Go.RowKit Go.Proofs.ag.aQ Go.Proofs.ag.bu Go.Proofs.ag.bP
attribute [local go_sem] jo jC jU kH jS jT kU kW
noncomputable def bV.j0 : Nat → Int → Bool → Int → Int → Int → Int → Int → Int → List (ai) → Option (Int)
 | 0, _, _, _, _, _, _, _, _, _ => none
 | k + 1, x1, Hf, aaV, PH, PI, PK, PL, aaW, aaX => if Hf = true then (some 0) else ((oN.f PH PI PK PL x1).bind fun FQ => ((kQ.f k aaV PH PI PK PL aaW aaX x1).bind fun DT => (some (wrap64 (FQ - DT)))))
noncomputable def bV.f (k : Nat) (ay : Int) (aH : Int) (aA : Int) (aG : Int) (aY : Int) (a_ : Int) (aJ : List (ai)) (a1 : Int) : Option (Int) := (kE.f a1).bind fun IJ => (if IJ = true then ((lu.f (([(⟨ay, (⟨aH, aA, aG, aY⟩ : dw), a_, aJ⟩ : ai)] : List (ai)))).bind fun wQ => (bV.j0 k a1 (!wQ) ay aH aA aG aY a_ aJ)) else (bV.j0 k a1 true ay aH aA aG aY a_ aJ))
def bV.T3 : Bool × List (List Nat × List Nat) := (true, [([], []), ([0], [0]), ([], []), ([1, 2], [1, 2]), ([], []), ([], []), ([4, 5, 3], [4, 5]), ([3, 6], [3, 6]), ([7, 6, 0, 1, 2, 3, 4, 5, 6, 7], [7])])
def bV.B3 : List Nat := [0, 1, 0, 7, 0, 0, 63, 127, 255]
theorem bV.QY : iD .any (opsOf Try.f86 3) = bV.T3 := by kernel_rfl
theorem bV.JV : iG bV.T3.2 bV.B3 = true := by kernel_rfl
theorem bV.calls (k : Nat) (ay : Int) (aH : Int) (aA : Int) (aG : Int) (aY : Int) (a_ : Int) (fC : Nat → Prop) (dE : Option Addr) (dF : Nat) (aJ : List (ai)) (a1 : Int) (r : Int) (w : World) (Ec : Kd.V k26 26 w w.heap.size (fun k_ => fC k_) (.slice dE aJ.length dF) aJ) (h : bV.f k ay aH aA aG aY a_ aJ a1 = some r) :
  Calls Try.prog 86 #[.agg #[.int .u8 ay, .int .i64 aH, .int .i64 aA, .int .i64 aG, .int .i64 aY, .int .i64 a_, .slice dE aJ.length dF], .int .u8 a1] w fun e w' => e = .returned (.int .i64 r) ∧ Below w.heap.size w w' := by
 have Il := Try.underlying26
 have MW := Try.underlying23
 have jb := ae.mk (show Kd.V k26 26 w w.heap.size (fun k_ => (fC k_ ∨ w.heap.size ≤ k_)) (.slice dE aJ.length dF) aJ from Kd.gJ Ec (fun k_ hk => .inl hk))
 have HB := ae.mk (Below.refl w.heap.size w)
 have H : ((kE.f a1).bind fun IJ => (if IJ = true then ((lu.f (([(⟨ay, (⟨aH, aA, aG, aY⟩ : dw), a_, aJ⟩ : ai)] : List (ai)))).bind fun wQ => (bV.j0 k a1 (!wQ) ay aH aA aG aY a_ aJ)) else (bV.j0 k a1 true ay aH aA aG aY a_ aJ))) = some r := h
 clear h
 have HC3 := ae.mk H
 clear H
 go_enter Try.func86, Try.ntmps86
 go_upto_region 1 with (((with_reducible refine aC (N := 2) rfl ?_); (try (refine gy (by rfl) ?_; dsimp only)); refine aK ?hg (N := 2) ?hd (cs := #[.int .u8 ay, .int .i64 aH, .int .i64 aA, .int .i64 aG, .int .i64 aY, .int .i64 a_, .slice dE aJ.length dF]) (t := 26) ?hr ?_; (case hd => rfl); (case hg => rfl); (case hr => (go_simp; done)); intro lI hg w4 hbox hb; have dY := ae.mk (hbox); replace jb := ae.mk (Kd.ja (Kd.nG jb.out lI (Nat.le_of_eq hg.symm)) hb); replace HB := ae.mk (ak (by repeat ((with_reducible exact HB.out))) hb); clear hb hbox hg))
 (skip)
 go_cut [13] (fun v13 wc => ∃ (kq : Nat) (JY : Bool), v13 = .bool JY ∧ ae (bV.j0 kq a1 JY ay aH aA aG aY a_ aJ = some r) ∧ ae (kq ≤ k) ∧ ae (Kd.V k26 26 wc w.heap.size (fun k_ => (fC k_ ∨ w.heap.size ≤ k_) ∧ k_ ≠ lI) (.slice dE aJ.length dF) aJ) ∧ ae (wc.heap[lI]? = some (.cells #[.int .u8 ay, .int .i64 aH, .int .i64 aA, .int .i64 aG, .int .i64 aY, .int .i64 a_, (.slice dE aJ.length dF)] 26 (0, 0))) ∧ ae (Below w.heap.size w wc))
 case first =>
  have H := HC3.out
  clear HC3
  replace H := Option.bind_eq_some_iff.mp H
  obtain ⟨IJ, A50, H⟩ := H
  replace H : (if IJ = true then ((lu.f (([(⟨ay, (⟨aH, aA, aG, aY⟩ : dw), a_, aJ⟩ : ai)] : List (ai)))).bind fun wQ => (bV.j0 k a1 (!wQ) ay aH aA aG aY a_ aJ)) else (bV.j0 k a1 true ay aH aA aG aY a_ aJ)) = some r := H
  have A5 := ae.mk A50
  clear A50
  by_cases c6 : IJ = true
  ·subst c6
   have H1 : ((lu.f (([(⟨ay, (⟨aH, aA, aG, aY⟩ : dw), a_, aJ⟩ : ai)] : List (ai)))).bind fun wQ => (bV.j0 k a1 (!wQ) ay aH aA aG aY a_ aJ)) = some r := by rw [if_pos rfl] at H; exact H
   clear H
   have H := H1
   clear H1
   obtain ⟨ael, QA⟩ : ∃ y_ : List (ai), y_ = (([(⟨ay, (⟨aH, aA, aG, aY⟩ : dw), a_, aJ⟩ : ai)] : List (ai))) := ⟨_, rfl⟩
   replace H : ((lu.f ael).bind fun wQ => (bV.j0 k a1 (!wQ) ay aH aA aG aY a_ aJ)) = some r := by (rw [QA]; with_reducible exact H)
   have aeE := ae.mk QA
   clear QA
   replace H := Option.bind_eq_some_iff.mp H
   obtain ⟨wQ, A70, H⟩ := H
   replace H : (bV.j0 k a1 (!wQ) ay aH aA aG aY a_ aJ) = some r := H
   have A7 := ae.mk A70
   clear A70
   have H' := ae.mk H
   clear H
   go_wp2_with (first | ((with_reducible refine kP (f := 147) rfl ?_); refine mM (some 6) rfl rfl Try.func147 (by kernel_rfl) rfl #[.int .u8 a1] rfl (by (try simp only [List.map_toArray, List.map_cons, List.map_nil]); rfl) ?_; (with_reducible refine (kE.calls a1 true _ A5.out).mono ?_); rintro e w8 ⟨rfl, hb⟩; refine ⟨_, rfl, ?_⟩; replace jb := ae.mk (Kd.ja jb.out hb); replace dY := ae.mk (aI dY.out hb); replace HB := ae.mk (ak (by repeat ((with_reducible exact HB.out))) hb); (try clear hb); have Tq : w8.cell? ⟨lI, 0, none⟩ = some (.int .u8 ay) := (af dY.out 0).trans rfl; have Tt : w8.cell? ⟨lI, 1, none⟩ = some (.int .i64 aH) := (af dY.out 1).trans rfl; have Tu : w8.cell? ⟨lI, 2, none⟩ = some (.int .i64 aA) := (af dY.out 2).trans rfl; have Tv : w8.cell? ⟨lI, 3, none⟩ = some (.int .i64 aG) := (af dY.out 3).trans rfl; have Tz : w8.cell? ⟨lI, 4, none⟩ = some (.int .i64 aY) := (af dY.out 4).trans rfl; have TA : w8.cell? ⟨lI, 5, none⟩ = some (.int .i64 a_) := (af dY.out 5).trans rfl; have TB : w8.cell? ⟨lI, 6, none⟩ = some (.slice dE aJ.length dF) := (af dY.out 6).trans rfl; have TP := ah dY.out 0; have TQ := ah dY.out 1; have TR := ah dY.out 2; have TS := ah dY.out 3; have TT := ah dY.out 4; have TU := ah dY.out 5; have TV := ah dY.out 6) | ((with_reducible refine aC (N := 10) rfl ?_); (try (refine gy (by rfl) ?_; dsimp only)); refine Kd.yA k26 _ 26 ?hg (N' := 10) ?hd (xs := ([(⟨ay, (⟨aH, aA, aG, aY⟩ : dw), a_, aJ⟩ : ai)] : List (ai))) (inner := [.int .u8 ay, .int .i64 aH, .int .i64 aA, .int .i64 aG, .int .i64 aY, .int .i64 a_, .slice dE aJ.length dF]) (ok := (fun k_ => (fC k_ ∨ w.heap.size ≤ k_) ∧ k_ ≠ lI)) (fB := (fun k_ => (fC k_ ∨ w.heap.size ≤ k_) ∧ k_ ≠ lI)) ?hr ?hp (fun _ hk => hk) ((show ∀ k_, w8.heap.size ≤ k_ → (fun k_ => (fC k_ ∨ w.heap.size ≤ k_) ∧ k_ ≠ lI) k_ from fun k_ hk => ⟨(.inr (Nat.le_trans (dS (by repeat ((with_reducible exact HB.out)))) hk)), Kd.yX dY.out k_ hk⟩) _ (Nat.le_refl _)) (Below.refl _ _) (Nat.le_refl _) (by simp) ?_; (case hd => rfl); (case hg => rfl); (case hr => (go_simp; done)); (case hp => exact (bQ.c7 (show Kd.FK k26 _ _ (⟨ay, (⟨aH, aA, aG, aY⟩ : dw), a_, aJ⟩ : ai) [.int .u8 ay, .int .i64 aH, .int .i64 aA, .int .i64 aG, .int .i64 aY, .int .i64 a_, .slice dE aJ.length dF] from (nY _ _ (⟨ay, (⟨aH, aA, aG, aY⟩ : dw), a_, aJ⟩ : ai) (Kd.kR (Kd.gJ (ok' := (fun k_ => (fC k_ ∨ w.heap.size ≤ k_) ∧ k_ ≠ lI)) (jb.out) (fun k_ hk => ⟨hk.1, hk.2⟩))).2.1 (Kd.RP (Kd.gJ (ok' := (fun k_ => (fC k_ ∨ w.heap.size ≤ k_) ∧ k_ ≠ lI)) (jb.out) (fun k_ hk => ⟨hk.1, hk.2⟩))))) (bQ.none _ _))); intro akG w10 Qu hb nI jm; clear nI jm; (rw [← aeE.out] at Qu); have F6 := ae.mk (Kd.uM Qu (dS (by repeat ((with_reducible exact HB.out))))); replace jb := ae.mk (Kd.wF jb.out (Kd.vk Qu) hb); replace dY := ae.mk (aI dY.out hb); replace HB := ae.mk (ak (by repeat ((with_reducible exact HB.out))) hb); clear hb Qu; obtain ⟨akf, ako, agO⟩ := Kd.jy F6.out; subst agO) | (go_at_call 148; (with_reducible refine (lu.calls _ _ ael wQ _ ?sO ?yI A7.out).mono ?_); (case sO => repeat (exact (Kd.iO F6.out).2.2)); (case yI => exact (Kd.iO F6.out).2.1); rintro e sZ ⟨rfl, hb⟩; replace jb := ae.mk (Kd.ja jb.out hb); replace F6 := ae.mk (Kd.pF F6.out hb); replace dY := ae.mk (aI dY.out hb); replace HB := ae.mk (ak (by repeat ((with_reducible exact HB.out))) hb); (try clear hb)))
   go_meet
   case rel => exact ⟨_, (!wQ), (by rfl), H', ⟨by omega⟩, ⟨by exact Kd.gJ jb.out (fun _ hk => ⟨hk.1.1, hk.1.2⟩)⟩, ⟨by exact dY.out⟩, ⟨by repeat ((with_reducible exact HB.out))⟩⟩
  ·replace c6 := Bool.eq_false_iff.mpr c6
   subst c6
   have H1 : (bV.j0 k a1 true ay aH aA aG aY a_ aJ) = some r := by rw [if_neg (show ¬ (false = true) by decide)] at H; exact H
   clear H
   have H := H1
   clear H1
   have H' := ae.mk H
   clear H
   go_wp2_with (((with_reducible refine kP (f := 147) rfl ?_); refine mM (some 6) rfl rfl Try.func147 (by kernel_rfl) rfl #[.int .u8 a1] rfl (by (try simp only [List.map_toArray, List.map_cons, List.map_nil]); rfl) ?_; (with_reducible refine (kE.calls a1 false _ A5.out).mono ?_); rintro e w14 ⟨rfl, hb⟩; refine ⟨_, rfl, ?_⟩; replace jb := ae.mk (Kd.ja jb.out hb); replace dY := ae.mk (aI dY.out hb); replace HB := ae.mk (ak (by repeat ((with_reducible exact HB.out))) hb); (try clear hb)))
   go_meet
   case rel => exact ⟨_, (true), (by rfl), H', ⟨by omega⟩, ⟨by exact jb.out⟩, ⟨by exact dY.out⟩, ⟨by repeat ((with_reducible exact HB.out))⟩⟩
 case rest =>
  clear HC3
  obtain ⟨kq, JY, rfl, HA, HJ2, oC, dY, HB⟩ := hcut
  cases kq with
  | zero => exact absurd HA.out (by simp [bV.j0])
  | succ kj2 =>
   have H := HA.out
   clear HA
   simp only [bV.j0] at H
   by_cases c15 : JY = true
   ·subst c15
    have H1 : (some 0) = some r := by rw [if_pos rfl] at H; exact H
    clear H
    have H := H1
    clear H1
    obtain rfl := Option.some.inj H
    go_wp2
    go_ret
    exact ⟨by rfl, by repeat ((with_reducible exact HB.out))⟩
   ·replace c15 := Bool.eq_false_iff.mpr c15
    subst c15
    have H1 : ((oN.f aH aA aG aY a1).bind fun FQ => ((kQ.f kj2 ay aH aA aG aY a_ aJ a1).bind fun DT => (some (wrap64 (FQ - DT))))) = some r := by rw [if_neg (show ¬ (false = true) by decide)] at H; exact H
    clear H
    have H := H1
    clear H1
    replace H := Option.bind_eq_some_iff.mp H
    obtain ⟨FQ, J3, H⟩ := H
    replace H : ((kQ.f kj2 ay aH aA aG aY a_ aJ a1).bind fun DT => (some (wrap64 (FQ - DT)))) = some r := H
    have A16 := ae.mk J3
    clear J3
    replace H := Option.bind_eq_some_iff.mp H
    obtain ⟨DT, aa4, H⟩ := H
    replace H : (some (wrap64 (FQ - DT))) = some r := H
    have A17 := ae.mk aa4
    clear aa4
    obtain rfl := Option.some.inj H
    try go_wp2
    replace oC := ae.mk (Kd.KO oC.out); replace dY := ae.mk (uF dY.out); replace HB := ae.mk (tV HB.out)
    refine iT (n := 9) (S := fun w' => w'.cell? ⟨lI, 0, none⟩ = some (.int .u8 ay) ∧ w'.cell? ⟨lI, 1, none⟩ = some (.int .i64 aH) ∧ w'.cell? ⟨lI, 2, none⟩ = some (.int .i64 aA) ∧ w'.cell? ⟨lI, 3, none⟩ = some (.int .i64 aG) ∧ w'.cell? ⟨lI, 4, none⟩ = some (.int .i64 aY) ∧ w'.cell? ⟨lI, 5, none⟩ = some (.int .i64 a_) ∧ w'.cell? ⟨lI, 6, none⟩ = some (.slice dE aJ.length dF)) (ds := []) #[false, false, false, false, false, false, false, false, false] (by kernel_rfl) rfl rfl ⟨(af dY.out 0).trans rfl, (af dY.out 1).trans rfl, (af dY.out 2).trans rfl, (af dY.out 3).trans rfl, (af dY.out 4).trans rfl, (af dY.out 5).trans rfl, (af dY.out 6).trans rfl⟩ (fun hHeld => ?_); refine eP bV.QY bV.JV (fun aj dW => ?_)
    generalize wc.drew = w18 at oC dY HB hHeld ⊢
    refine qY (i := 0) (N := some 14) (v := ?_) (a' := ?_) #[true, false, false, false, false, false, false, false, false] rfl rfl (oG aj.out (by kernel_rfl)) (fun _ _ _ h => h) (Or.inl ⟨by rfl, ?_⟩) ?_ ?_
    rotate_left
    ·intro w'
     go_simp
     with_reducible rfl
    rotate_left
    ·simp only [Act.put, List.setIfInBounds_toArray, List.set_cons_zero, List.set_cons_succ, jR, jQ]
     rfl
    refine qY (i := 2) (N := some 16) (v := ?_) (a' := ?_) #[true, false, true, false, false, false, false, false, false] rfl rfl (oG aj.out (by kernel_rfl)) (fun _ _ _ h => h) (Or.inl ⟨by rfl, ?_⟩) ?_ ?_
    rotate_left
    ·intro w'
     go_simp
     with_reducible rfl
    rotate_left
    ·simp only [Act.put, List.setIfInBounds_toArray, List.set_cons_zero, List.set_cons_succ, jR, jQ]
     rfl
    refine qY (i := 5) (N := some 19) (v := ?_) (a' := ?_) #[true, false, true, false, false, true, false, false, false] rfl rfl (oG aj.out (by kernel_rfl)) (fun _ _ _ h => h) (Or.inl ⟨by rfl, ?_⟩) ?_ ?_
    rotate_left
    ·intro w'
     go_simp
     with_reducible rfl
    rotate_left
    ·simp only [Act.put, List.setIfInBounds_toArray, List.set_cons_zero, List.set_cons_succ, jR, jQ]
     rfl
    refine yJ (i := 1) (N := some 15) (v := ?_) (a' := ?_) #[true, true, true, false, false, true, false, false, false] rfl rfl (uG aj.out dW.out (by kernel_rfl)) (fun _ _ _ h => h) (Or.inl ⟨by rfl, ?_⟩) hHeld ?_ ?_
    rotate_left
    ·rintro w' ⟨s0, s1, s2, s3, s4, s5, s6⟩
     go_simp
     with_reducible rfl
    rotate_left
    ·simp only [Act.put, List.setIfInBounds_toArray, List.set_cons_zero, List.set_cons_succ, jR, jQ]
     rfl
    refine yJ (i := 4) (N := some 18) (v := ?_) (a' := ?_) #[true, true, true, false, true, true, false, false, false] rfl rfl (uG aj.out dW.out (by kernel_rfl)) (fun _ _ _ h => h) (Or.inl ⟨by rfl, ?_⟩) hHeld ?_ ?_
    rotate_left
    ·rintro w' ⟨s0, s1, s2, s3, s4, s5, s6⟩
     go_simp
     with_reducible rfl
    rotate_left
    ·simp only [Act.put, List.setIfInBounds_toArray, List.set_cons_zero, List.set_cons_succ, jR, jQ]
     rfl
    refine Np (i := 3) (N := some 17) #[true, true, true, true, true, true, false, false, false] rfl rfl (xx aj.out (by kernel_rfl)) (by decide) (fun K hK => ?_)
    refine jH Try.func98 (by kernel_rfl) rfl #[.agg #[.int .i64 aH, .int .i64 aA, .int .i64 aG, .int .i64 aY], .int .u8 a1] (by rfl) rfl rfl (by (try simp only [List.map_toArray, List.map_cons, List.map_nil]); rfl) ?_
    with_reducible refine (oN.calls aH aA aG aY a1 FQ _ A16.out).mono ?_
    rintro e EH ⟨rfl, hb⟩
    refine ⟨_, rfl, ?_⟩
    replace oC := ae.mk (Kd.ja oC.out hb); replace dY := ae.mk (aI dY.out hb); replace HB := ae.mk (ak (by repeat ((with_reducible exact HB.out))) hb)
    (try clear hb)
    (skip)
    (skip)
    (skip)
    refine hK.out _ _ ⟨(af dY.out 0).trans rfl, (af dY.out 1).trans rfl, (af dY.out 2).trans rfl, (af dY.out 3).trans rfl, (af dY.out 4).trans rfl, (af dY.out 5).trans rfl, (af dY.out 6).trans rfl⟩ (fun hHeld => ?_)
    clear hK K
    refine kM (a' := ?_) ?_ ?_
    rotate_left
    ·show Act.put _ (some 17) _ = _
     simp only [Act.put, List.setIfInBounds_toArray, List.set_cons_zero, List.set_cons_succ, jR, jQ]
     rfl
    refine Np (i := 6) (N := some 20) #[true, true, true, true, true, true, true, false, false] rfl rfl (xx aj.out (by kernel_rfl)) (by decide) (fun K hK => ?_)
    refine jH Try.func149 (by kernel_rfl) rfl #[.agg #[.int .u8 ay, .int .i64 aH, .int .i64 aA, .int .i64 aG, .int .i64 aY, .int .i64 a_, .slice dE aJ.length dF], .int .u8 a1] (by rfl) rfl rfl (by (try simp only [List.map_toArray, List.map_cons, List.map_nil]); rfl) ?_
    with_reducible refine (kQ.calls kj2 ay aH aA aG aY a_ _ _ aJ a1 DT _ ?sO ?yI A17.out).mono ?_
    (case sO => repeat (exact (Kd.kR oC.out).2.2))
    (case yI => exact (Kd.kR oC.out).2.1)
    rintro e w20 ⟨rfl, hb⟩
    refine ⟨_, rfl, ?_⟩
    replace oC := ae.mk (Kd.ja oC.out hb); replace dY := ae.mk (aI dY.out hb); replace HB := ae.mk (ak (by repeat ((with_reducible exact HB.out))) hb)
    (try clear hb)
    (skip)
    (skip)
    (skip)
    refine hK.out _ _ ⟨(af dY.out 0).trans rfl, (af dY.out 1).trans rfl, (af dY.out 2).trans rfl, (af dY.out 3).trans rfl, (af dY.out 4).trans rfl, (af dY.out 5).trans rfl, (af dY.out 6).trans rfl⟩ (fun hHeld => ?_)
    clear hK K
    refine kM (a' := ?_) ?_ ?_
    rotate_left
    ·show Act.put _ (some 20) _ = _
     simp only [Act.put, List.setIfInBounds_toArray, List.set_cons_zero, List.set_cons_succ, jR, jQ]
     rfl
    refine qY (i := 7) (N := some 21) (v := ?_) (a' := ?_) #[true, true, true, true, true, true, true, true, false] rfl rfl (oG aj.out (by kernel_rfl)) (fun _ _ _ h => h) (Or.inl ⟨by rfl, ?_⟩) ?_ ?_
    rotate_left
    ·intro w'
     go_simp
     with_reducible rfl
    rotate_left
    ·simp only [Act.put, List.setIfInBounds_toArray, List.set_cons_zero, List.set_cons_succ, jR, jQ]
     rfl
    refine qY (i := 8) (N := some 4) (v := ?_) (a' := ?_) #[true, true, true, true, true, true, true, true, true] rfl rfl (oG aj.out (by kernel_rfl)) (fun _ _ _ h => h) (Or.inl ⟨by rfl, ?_⟩) ?_ ?_
    rotate_left
    ·intro w'
     go_simp
     with_reducible rfl
    rotate_left
    ·simp only [Act.put, List.setIfInBounds_toArray, List.set_cons_zero, List.set_cons_succ, jR, jQ]
     rfl
    refine jG (gK aj.out (by kernel_rfl)) ?_
    try go_wp2
    go_ret
    exact ⟨by rfl, by repeat ((with_reducible exact HB.out))⟩
def pY.f (ay : Int) (aH : Int) (aA : Int) (aG : Int) (a1 : Int) : Option (Int) := if a1 = 1 then (some aA) else (if a1 = 2 then (some aG) else (some 0))
theorem pY.calls (ay : Int) (aH : Int) (aA : Int) (aG : Int) (a1 : Int) (r : Int) (w : World) (h : pY.f ay aH aA aG a1 = some r) :
  Calls Try.prog 87 #[.agg #[.int .i64 ay, .int .i64 aH, .int .i64 aA, .int .i64 aG], .int .u8 a1] w fun e w' => e = .returned (.int .i64 r) ∧ Below w.heap.size w w' := by
 have MW := Try.underlying23
 have HB := ae.mk (Below.refl w.heap.size w)
 have H : (if a1 = 1 then (some aA) else (if a1 = 2 then (some aG) else (some 0))) = some r := h
 clear h
 by_cases c3 : a1 = 1
 ·rw [if_pos c3] at H
  have tC : (a1 == 1) = true := beq_iff_eq.mpr c3
  have yR : (a1 != 1) = false := bne_eq_false_iff_eq.mpr c3
  clear c3
  obtain rfl := Option.some.inj H
  go_enter Try.func87, Try.ntmps87
  go_wp2_with (((with_reducible refine aC (N := 2) rfl ?_); refine aK ?hg (N := 2) ?hd (cs := #[.int .i64 ay, .int .i64 aH, .int .i64 aA, .int .i64 aG]) (t := 23) ?hr ?_; (case hd => rfl); (case hg => rfl); (case hr => (go_simp; done)); intro wU hg w4 hbox hb; have nR := ae.mk (hbox); replace HB := ae.mk (ak (by repeat ((with_reducible exact HB.out))) hb); clear hb hbox hg; have acT : w4.cell? ⟨wU, 0, none⟩ = some (.int .i64 ay) := (af nR.out 0).trans rfl; have acU : w4.cell? ⟨wU, 1, none⟩ = some (.int .i64 aH) := (af nR.out 1).trans rfl; have acV : w4.cell? ⟨wU, 2, none⟩ = some (.int .i64 aA) := (af nR.out 2).trans rfl; have acW : w4.cell? ⟨wU, 3, none⟩ = some (.int .i64 aG) := (af nR.out 3).trans rfl; have ac_ := ah nR.out 0; have ac' := ah nR.out 1; have ada := ah nR.out 2; have adb := ah nR.out 3))
  go_ret
  exact ⟨by rfl, by repeat ((with_reducible exact HB.out))⟩
 ·rw [if_neg c3] at H
  have tC : (a1 == 1) = false := beq_eq_false_iff_ne.mpr c3
  have yR : (a1 != 1) = true := bne_iff_ne.mpr c3
  by_cases c6 : a1 = 2
  ·rw [if_pos c6] at H
   have Bv : (a1 == 2) = true := beq_iff_eq.mpr c6
   have Vt : (a1 != 2) = false := bne_eq_false_iff_eq.mpr c6
   clear c6
   obtain rfl := Option.some.inj H
   go_enter Try.func87, Try.ntmps87
   go_wp2_with (((with_reducible refine aC (N := 2) rfl ?_); refine aK ?hg (N := 2) ?hd (cs := #[.int .i64 ay, .int .i64 aH, .int .i64 aA, .int .i64 aG]) (t := 23) ?hr ?_; (case hd => rfl); (case hg => rfl); (case hr => (go_simp; done)); intro wU hg w7 hbox hb; have nR := ae.mk (hbox); replace HB := ae.mk (ak (by repeat ((with_reducible exact HB.out))) hb); clear hb hbox hg; have Ti : w7.cell? ⟨wU, 0, none⟩ = some (.int .i64 ay) := (af nR.out 0).trans rfl; have Tj : w7.cell? ⟨wU, 1, none⟩ = some (.int .i64 aH) := (af nR.out 1).trans rfl; have Tm : w7.cell? ⟨wU, 2, none⟩ = some (.int .i64 aA) := (af nR.out 2).trans rfl; have Tn : w7.cell? ⟨wU, 3, none⟩ = some (.int .i64 aG) := (af nR.out 3).trans rfl; have TK := ah nR.out 0; have TL := ah nR.out 1; have TM := ah nR.out 2; have TN := ah nR.out 3))
   go_ret
   exact ⟨by rfl, by repeat ((with_reducible exact HB.out))⟩
  ·rw [if_neg c6] at H
   have Bv : (a1 == 2) = false := beq_eq_false_iff_ne.mpr c6
   have Vt : (a1 != 2) = true := bne_iff_ne.mpr c6
   obtain rfl := Option.some.inj H
   go_enter Try.func87, Try.ntmps87
   go_wp2_with (((with_reducible refine aC (N := 2) rfl ?_); refine aK ?hg (N := 2) ?hd (cs := #[.int .i64 ay, .int .i64 aH, .int .i64 aA, .int .i64 aG]) (t := 23) ?hr ?_; (case hd => rfl); (case hg => rfl); (case hr => (go_simp; done)); intro wU hg w9 hbox hb; have nR := ae.mk (hbox); replace HB := ae.mk (ak (by repeat ((with_reducible exact HB.out))) hb); clear hb hbox hg))
   go_ret
   exact ⟨by rfl, by repeat ((with_reducible exact HB.out))⟩
end Go.Proofs.Ytfdmfgaiblfbhaa.P
namespace Go.Proofs.Ytfdmfgaiblfbhaa.P
open Go.RowKit Go.Proofs.ag.aQ Go.Proofs.ag.bu Go.Proofs.ag.bP
theorem Ev.unique {α : Type} {g : Nat → Option α} {a b : α} (h : Ev g a) (k : Ev g b) : a = b := by
 obtain ⟨n, hn⟩ := h
 obtain ⟨m, hm⟩ := k
 have e := (hn (max n m) (by omega)).symm.trans (hm (max n m) (by omega))
 exact Option.some.inj e
theorem QU (r : dw) (ax : Int) : pY.f r.f0 r.f1 r.f2 r.f3 ax = some (aV ax r) := by
 unfold pY.f aV
 split
 ·rfl
 ·split <;> rfl
theorem EG (c : ai) (hz : sz c ≤ 1048576) : lu.f ([(⟨c.f0, (⟨c.f1.f0, c.f1.f1, c.f1.f2, c.f1.f3⟩ : dw), c.f2, c.f3⟩ : ai)] : List ai) = some (dB c) := by
 rw [Gs]
 unfold lu.f
 rw [if_pos (by simp [hz])]
 simp
theorem pV {c : ai} (h : kV c = true) : (fP c).all mf = true := by
 unfold kV at h
 simp only [Bool.and_eq_true] at h
 exact h.2.1
theorem lG {c : ai} (h : dB c = true) : kV c = true := by
 unfold dB at h
 simp only [Bool.and_eq_true] at h
 exact h.1
noncomputable def aU (ax : Int) (c : ai) : Int := if (ax = 1 ∨ ax = 2) ∧ dB c = true then wrap64 (aV ax c.f1 - dH ax c) else 0
theorem VS (c : ai) (hz : sz c ≤ 1048576) (ax : Int) : Ev (fun k => bV.f k c.f0 c.f1.f0 c.f1.f1 c.f1.f2 c.f1.f3 c.f2 c.f3 ax) (aU ax c) := by
 have no : Ev (fun k => bV.j0 k ax true c.f0 c.f1.f0 c.f1.f1 c.f1.f2 c.f1.f3 c.f2 c.f3) 0 := by
  refine Ev.step (f := fun _ => some 0) (fun k => ?_) (Ev.now _)
  simp only [bV.j0]
  rw [if_pos trivial]
 unfold aU
 by_cases hax : ax = 1 ∨ ax = 2
 ·have ha : kE.f ax = some true := by
   unfold kE.f
   rcases hax with rfl | rfl <;> rfl
  cases ht : dB c with
  | false =>
   rw [if_neg (by simp)]
   refine Ev.congr (f := fun k => bV.j0 k ax true c.f0 c.f1.f0 c.f1.f1 c.f1.f2 c.f1.f3 c.f2 c.f3) (fun k => ?_) no
   unfold bV.f
   rw [ha]
   simp only [Option.bind_some, if_true]
   rw [EG c hz, ht]
   rfl
  | true =>
   rw [if_pos ⟨hax, rfl⟩]
   refine Ev.congr (f := fun k => bV.j0 k ax false c.f0 c.f1.f0 c.f1.f1 c.f1.f2 c.f1.f3 c.f2 c.f3) (fun k => ?_) (Ev.step (f := fun k => (kQ.f k c.f0 c.f1.f0 c.f1.f1 c.f1.f2 c.f1.f3 c.f2 c.f3 ax).bind fun t => some (wrap64 (aV ax c.f1 - t))) (fun k => ?_) (Ev.bind (Wh ax (sz c) c (Nat.le_refl _) hz) (Ev.now _)))
   ·unfold bV.f
    rw [ha]
    simp only [Option.bind_some, if_true]
    rw [EG c hz, ht]
    rfl
   ·simp only [bV.j0]
    rw [if_neg (by simp), JC c.f1 ax]
    rfl
 ·rw [if_neg (fun h => hax h.1)]
  refine Ev.congr (f := fun k => bV.j0 k ax true c.f0 c.f1.f0 c.f1.f1 c.f1.f2 c.f1.f3 c.f2 c.f3) (fun k => ?_) no
  unfold bV.f kE.f
  rw [if_neg (fun h => hax (.inl h)), show (ax == 2) = false from by simp; exact fun h => hax (.inr h)]
  simp only [Option.bind_some, Bool.false_eq_true, if_false]
theorem Pz {l : List ai} {k : ai} (h : k ∈ l) : sz k ≤ dN l := by
 obtain ⟨p, q, e⟩ := List.append_of_mem h
 rw [e, ou, bU]; omega
noncomputable def qK (b : Int) (gs : List Int) : List Int × Bool := by
 classical
 exact if h : ∃ r, Ev (fun k => bf.f k b gs) r then Classical.choose h else ([], false)
theorem DN (b : Int) (gs : List Int) (hl : gs.length ≤ 100000) (h0 : -2147483647 ≤ b) (h1 : b ≤ 2147483647) : KL b gs (qK b gs) ∧ Ev (fun k => bf.f k b gs) (qK b gs) := by
 obtain ⟨r, hs, he⟩ := UN b gs hl h0 h1
 have hx : ∃ r, Ev (fun k => bf.f k b gs) r := ⟨r, he⟩
 have e : qK b gs = r := by
  unfold qK
  rw [dif_pos hx]
  exact Ev.unique (Classical.choose_spec hx) he
 rw [e]
 exact ⟨hs, he⟩
theorem aax {b : Int} {gs : List Int} (hl : gs.length ≤ 100000) (h0 : -2147483647 ≤ b) (h1 : b ≤ 2147483647) (h : (qK b gs).2 = true) : (qK b gs).1.length = gs.length := by
 rcases (DN b gs hl h0 h1).1 with ⟨e, _⟩ | ⟨e, _⟩ | ⟨qs, e, _, _, hq, _⟩
 ·rw [e] at h; cases h
 ·rw [e]; exact rU _ _
 ·rw [e, ← hq]; simp
theorem UO {b : Int} {gs : List Int} (hl : gs.length ≤ 100000) (h0 : -2147483647 ≤ b) (h1 : b ≤ 2147483647) : ∀ x, x ∈ (qK b gs).1 → -2147483647 ≤ x ∧ x ≤ 2147483647 := by
 intro x hx
 rcases (DN b gs hl h0 h1).1 with ⟨e, _⟩ | ⟨e, hne, _, hb⟩ | ⟨qs, e, _, _, hq, hg, _⟩
 ·rw [e] at hx; cases hx
 ·rw [e] at hx
  simp only [moreL, List.mem_map, List.mem_range] at hx
  obtain ⟨i, hi, rfl⟩ := hx
  have hn : (0 : Int) < (gs.length : Int) := by have := List.length_pos_iff.2 hne; omega
  unfold qH
  have hd : 0 ≤ b / (gs.length : Int) := Int.ediv_nonneg hb (by omega)
  have hm : 0 ≤ b % (gs.length : Int) := Int.emod_nonneg _ (by omega)
  have hdm := Int.mul_ediv_add_emod b (gs.length : Int)
  have hle : b / (gs.length : Int) ≤ (gs.length : Int) * (b / (gs.length : Int)) := by
   have := Int.mul_le_mul_of_nonneg_right (show (1 : Int) ≤ (gs.length : Int) by omega) hd
   omega
  split <;> omega
 ·rw [e] at hx
  simp only [List.mem_map] at hx
  obtain ⟨p, hp, rfl⟩ := hx
  have := hg p hp
  omega
def grow (ax aW : Int) (r : dw) : dw := ⟨r.f0, r.f1, if ax = 1 then wrap64 (r.f2 + aW) else r.f2, if ax = 1 then r.f3 else wrap64 (r.f3 + aW)⟩
noncomputable def Jy (ax k : Int) (l : List ai) (aW : Int) (i : Nat) : Int := if (qK aW (l.map (aU ax))).2 = true ∧ fM ax k = true then rd (qK aW (l.map (aU ax))).1 (i : Int) else aW
mutual
noncomputable def fK (ax : Int) : ai → Int → ai
 | ⟨k, r, id, l⟩, b => ⟨k, grow ax b r, id, kS ax l (Jy ax k l b) 0⟩
noncomputable def kS (ax : Int) : List ai → (Nat → Int) → Nat → List ai
 | [], _, _ => []
 | k :: ks, ns, i => fK ax k (ns i) :: kS ax ks ns (i + 1)
end
theorem yM (ax : Int) (c : ai) (b : Int) : fK ax c b = ⟨c.f0, grow ax b c.f1, c.f2, kS ax c.f3 (Jy ax c.f0 c.f3 b) 0⟩ := by cases c; simp [fK]
theorem rE (ax : Int) (ns : Nat → Int) (i : Nat) : kS ax [] ns i = [] := by simp [kS]
theorem uN (ax : Int) (k : ai) (ks : List ai) (ns : Nat → Int) (i : Nat) : kS ax (k :: ks) ns i = fK ax k (ns i) :: kS ax ks ns (i + 1) := by simp [kS]
theorem yQ (ax : Int) : ∀ (l : List ai) (ns : Nat → Int) (i : Nat), (kS ax l ns i).length = l.length := by
 intro l
 induction l with
 | nil => intro ns i; rw [rE]
 | cons k ks ih => intro ns i; rw [uN, List.length_cons, List.length_cons, ih]
theorem RS (ax : Int) (k : ai) : ∀ (l : List ai) (ns : Nat → Int) (i : Nat), kS ax (l ++ [k]) ns i = kS ax l ns i ++ [fK ax k (ns (i + l.length))] := by
 intro l
 induction l with
 | nil => intro ns i; simp [kS]
 | cons x xs ih => intro ns i; rw [List.cons_append, uN, uN, ih, List.cons_append, List.length_cons, show i + 1 + xs.length = i + (xs.length + 1) by omega]
theorem Yn (ax : Int) (ns : Nat → Int) (pre : List ai) (k : ai) (rest : List ai) : (kS ax pre ns 0 ++ k :: rest).set pre.length (fK ax k (ns pre.length)) = kS ax (pre ++ [k]) ns 0 ++ rest := by
 rw [RS, List.append_assoc, List.set_append_right _ _ (by rw [yQ]; exact Nat.le_refl _), yQ, Nat.sub_self, List.set_cons_zero, Nat.zero_add]
 rfl
theorem abP (ax : Int) (ns : Nat → Int) (pre : List ai) (k : ai) (rest : List ai) : az (kS ax pre ns 0 ++ k :: rest) (pre.length : Int) = k := by
 have := lU (kS ax pre ns 0) k rest
 rw [yQ] at this
 exact this
theorem abQ (ax : Int) : ∀ (N : Nat), (∀ c : ai, sz c ≤ N → ∀ b, sz (fK ax c b) = sz c) ∧ (∀ l : List ai, dN l ≤ N → ∀ ns i, dN (kS ax l ns i) = dN l) := by
 intro N
 induction N with
 | zero => exact ⟨fun c h => by rw [bZ] at h; omega, fun l h ns i => by cases l with
  | nil => rw [rE]
  | cons x xs => rw [bU] at h; have := bZ x; omega⟩
 | succ N ih =>
  have hC : ∀ c : ai, sz c ≤ N + 1 → ∀ b, sz (fK ax c b) = sz c := fun c h b => by
   rw [yM, bZ, bZ c]
   show 1 + dN (kS ax c.f3 _ 0) = _
   rw [ih.2 c.f3 (by rw [bZ] at h; omega)]
  refine ⟨hC, fun l => ?_⟩
  induction l with
  | nil => intro _ ns i; rw [rE]
  | cons x xs ihl =>
   intro h ns i
   rw [uN, bU, bU]
   rw [bU] at h
   rw [hC x (by omega), ihl (by omega)]
def pK.f (l0 : List (ai)) : Option (List ai) := if l0.length ≤ 1000000 then some l0 else none
theorem pK.calls (RH : Nat → Prop) (A0 : Option Addr) (c0 : Nat) (l0 : List (ai)) (r : List ai) (w : World) (hs0 : Kd.V k26 26 w w.heap.size (fun k_ => RH k_) (.slice A0 l0.length c0) l0) (h : pK.f l0 = some r) :
  Calls Try.prog 137 #[.slice A0 l0.length c0] w fun e w' => ∃ uX : Value, e = .returned (uX) ∧ Kd.N k26 26 w' w.heap.size (fun k_ => (RH k_ ∨ w.heap.size ≤ k_)) uX r ∧ Below w.heap.size w w' := by
 unfold pK.f at h
 split at h
 ·rename_i hl
  injection h with h
  subst h
  have HR := ae.mk (Kd.RP hs0)
  have HL := ae.mk hl
  clear hl
  cases A0 with
  | none =>
   have heq : ∀ W : World, (binOp .eql 24 (.slice none l0.length c0) (.slice none 0 0)).run Try.prog W = .ok (.bool true) W := fun W => Lib.run_eql_slice_nil W 24 26 none l0.length c0 0 0 Try.underlying24
   have e0 : l0 = [] := by
    cases l0 with
    | nil => rfl
    | cons x xs =>
     obtain ⟨ad, h1, _⟩ := (Kd.FW HR.out).2.2 (by simp)
     cases h1
   have E0 := ae.mk e0
   clear hs0 e0
   go_enter Try.func137, Try.ntmps137
   go_wp2
   go_ret
   exact ⟨_, rfl, by rw [E0.out]; exact Kd.yB _ _ _ _ _, Below.refl _ _⟩
  | some ad =>
   have heq : ∀ W : World, (binOp .eql 24 (.slice (some ad) l0.length c0) (.slice none 0 0)).run Try.prog W = .ok (.bool false) W := fun W => Lib.run_eql_slice_nil W 24 26 (some ad) l0.length c0 0 0 Try.underlying24
   clear hs0
   go_enter Try.func137, Try.ntmps137
   go_wp2_with (first | ((with_reducible refine aC (N := 5) rfl ?_); refine Kd.yA k26 w.heap.size 26 ?hg (N' := 5) ?hd (xs := ([] : List ai)) (inner := []) (ok := fun k_ => (RH k_ ∨ w.heap.size ≤ k_)) (fB := fun _ => False) ?hr ?hp (fun _ hk => hk.elim) (.inr (Nat.le_refl _)) (Below.refl _ _) (Nat.le_refl _) (by simp) ?_; (case hd => rfl); (case hg => rfl); (case hr => first | (go_simp; done) | (go_simp; rfl)); (case hp => exact bQ.none _ _); intro v5 w5 ho hb nI jm; clear nI; have HO := ae.mk ho; have HB := ae.mk hb; have HF := ae.mk (Kd.ru (Kd.J8 (v := v5) HR.out (fun k hk => by obtain ⟨b, h1, h2⟩ := jm; rw [h1] at hk; cases hk; exact h2) hb) (fun k hk => hk)); clear ho hb jm; obtain ⟨Ao, co, eo⟩ := Kd.jy HO.out; subst eo) | ((with_reducible refine vU (b := .append) (xs := #[.tmp 5, .tmp 6]) rfl ?_); at_builtin; refine Kd.Cb k26 (w0 := w) w.heap.size rfl (.tmp 5) (.tmp 6) 24 26 (.agg #[(.int .u8 0), (.int .i64 0), (.int .i64 0), (.int .i64 0), (.int .i64 0), (.int .i64 0), (.slice none 0 0)]) 72 rfl Try.underlying24 info26 rfl (by decide) (by omega) (.slice Ao ([] : List ai).length co) [] l0 _ _ _ (fun k_ => (RH k_ ∨ w.heap.size ≤ k_)) (fun k_ => RH k_ ∧ some k_ ≠ (Value.slice Ao ([] : List ai).length co).ownBlock) rfl rfl ?aO ?aR (fun _ h => ⟨.inl h.1, h.2⟩) (fun k hk => .inr (Nat.le_trans (dS HB.out) hk)) ?aB ?aS ?aL ?_; (case aO => exact HO.out); (case aR => exact HF.out); (case aB => exact HB.out); (case aS => exact dS HB.out); (case aL => (have := HL.out; simp only [List.length_nil]; omega)); intro v7 w7 h1 h2 h3_ h4_; clear h3_ h4_; have HO7 := ae.mk h1; have HB7 := ae.mk h2; clear h1 h2 HO HB HF))
   go_wp2
   go_ret
   exact ⟨_, rfl, HO7.out, HB7.out⟩
 ·exact absurd h (by simp)
def zo (a : Int) (k : ai) (x : Int) : Int := if a = 2 then wrap64 (x + wrap64 (k.f1.f2 + 1)) else x
def zq (a : Int) (k : ai) (y : Int) : Int := if a = 2 then y else if a = 3 then wrap64 (y + wrap64 (k.f1.f3 + 1)) else y
mutual
def b_ : ai → Int → Int → ai
 | ⟨a, b, d, l⟩, x, y => ⟨a, ⟨x, y, b.f2, b.f3⟩, d, jg a l x y⟩
def jg : Int → List ai → Int → Int → List ai
 | _, [], _, _ => []
 | a, k :: ks, x, y => b_ k x y :: jg a ks (zo a k x) (zq a k y)
end
theorem jV (c : ai) (x y : Int) : b_ c x y = ⟨c.f0, ⟨x, y, c.f1.f2, c.f1.f3⟩, c.f2, jg c.f0 c.f3 x y⟩ := by cases c; simp [b_]
theorem lW (a x y : Int) : jg a [] x y = [] := by simp [jg]
theorem ni (a : Int) (k : ai) (ks : List ai) (x y : Int) : jg a (k :: ks) x y = b_ k x y :: jg a ks (zo a k x) (zq a k y) := by simp [jg]
def qA (a : Int) (l : List ai) (x : Int) : Int := l.foldl (fun x k => zo a k x) x
def qB (a : Int) (l : List ai) (y : Int) : Int := l.foldl (fun y k => zq a k y) y
theorem UJ (a : Int) (k : ai) : ∀ (l : List ai) (x y : Int), jg a (l ++ [k]) x y = jg a l x y ++ [b_ k (qA a l x) (qB a l y)] := by
 intro l
 induction l with
 | nil => intro x y; rw [List.nil_append, ni, lW, lW]; rfl
 | cons z zs ih => intro x y; rw [List.cons_append, ni, ni, ih]; rfl
theorem BU (a : Int) (k : ai) (l : List ai) (x : Int) : qA a (l ++ [k]) x = zo a k (qA a l x) := by simp [qA]
theorem BV (a : Int) (k : ai) (l : List ai) (y : Int) : qB a (l ++ [k]) y = zq a k (qB a l y) := by simp [qB]
theorem qy (a : Int) : ∀ (l : List ai) (x y : Int), (jg a l x y).length = l.length := by
 intro l
 induction l with
 | nil => intro x y; rw [lW]
 | cons z zs ih => intro x y; rw [ni]; simp [ih]
theorem aaw (a : Int) (pre : List ai) (k : ai) (rest : List ai) (x y : Int) : (jg a pre x y ++ k :: rest).set pre.length (b_ k (qA a pre x) (qB a pre y)) = jg a (pre ++ [k]) x y ++ rest := by
 rw [UJ, ← qy a pre x y, List.set_append_right _ _ (Nat.le_refl _), Nat.sub_self, List.set_cons_zero]
 simp
theorem UL (a : Int) (pre : List ai) (k : ai) (rest : List ai) (x y : Int) : az (jg a pre x y ++ k :: rest) (pre.length : Int) = k := by
 rw [← qy a pre x y]
 simp [az, List.getD_eq_getElem?_getD]
def mQ.T6 : Bool × List (List Nat × List Nat) := (true, [([], []), ([0], [0]), ([], []), ([], []), ([], []), ([], []), ([3, 4, 5], [3, 4, 5]), ([1, 2, 0, 1, 2, 3, 4, 5, 6], [1, 2]), ([7, 6, 6, 0, 1, 2, 3, 4, 5, 6], [6, 7])])
def mQ.B6 : List Nat := [0, 1, 0, 0, 0, 0, 56, 127, 255]
theorem mQ.tab6 : iD .any (opsOf Try.f66 6) = mQ.T6 := by kernel_rfl
theorem mQ.Gf : iG mQ.T6.2 mQ.B6 = true := by kernel_rfl
theorem afu : ∀ (N : Nat) (c : ai), sz c ≤ N → N ≤ 1000000 → ∀ (P : Nat → Prop) (A : Option Addr) (cc : Nat) (x y : Int) (w : World), Kd.V k26 26 w w.heap.size P (.slice A c.f3.length cc) c.f3 →
  Calls Try.prog 66 #[.agg #[.int .u8 c.f0, .int .i64 c.f1.f0, .int .i64 c.f1.f1, .int .i64 c.f1.f2, .int .i64 c.f1.f3, .int .i64 c.f2, .slice A c.f3.length cc], .int .i64 x, .int .i64 y] w
   fun e w' => ∃ v : Value, e = .returned (.agg #[.int .u8 c.f0, .int .i64 x, .int .i64 y, .int .i64 c.f1.f2, .int .i64 c.f1.f3, .int .i64 c.f2, v]) ∧ Kd.N k26 26 w' w.heap.size (fun k => P k ∨ w.heap.size ≤ k) v (jg c.f0 c.f3 x y) ∧ Below w.heap.size w w' := by
 intro N
 induction N with
 | zero => intro c h; rw [bZ] at h; omega
 | succ N ih =>
  intro c hc hN P A cc x y w hs
  have hsz := bZ c
  have hlen := jJ c.f3
  have IH := ae.mk fun (k : ai) (hk : k ∈ c.f3) => ih k (by
   have : sz k ≤ dN c.f3 := by
    obtain ⟨p, q, e⟩ := List.append_of_mem hk
    rw [e, ou, bU]; omega
   omega) (by omega)
  have J9 := ae.mk fun (W : World) (P' : Nat → Prop) (hV : Kd.V k26 26 W w.heap.size P' (.slice A c.f3.length cc) c.f3) => pK.calls P' A cc c.f3 c.f3 W hV (if_pos (by omega))
  have HO := ae.mk hs
  have HL := ae.mk (show c.f3.length ≤ 1000000 by omega)
  have HB := ae.mk (Below.refl w.heap.size w)
  clear ih hs hc hN hsz hlen
  obtain ⟨ck, ⟨cx, cy, cw, ch⟩, aT, l⟩ := c
  simp only [] at HO HL IH J9 ⊢
  go_enter Try.func66, Try.ntmps66
  go_upto_region 2 with (first | ((with_reducible refine aC (N := 3) rfl ?_); refine aK ?hg (N := 3) ?hd (cs := #[.int .u8 ck, .int .i64 cx, .int .i64 cy, .int .i64 cw, .int .i64 ch, .int .i64 aT, .slice A l.length cc]) (t := 26) ?hr ?_; (case hd => rfl); (case hg => rfl); (case hr => (go_simp; done)); intro b3 hg U1 hbox hb; have Rl := ae.mk (show w.heap.size ≤ b3 by rw [hg]; exact HB.out.size); have kZ := ae.mk (ak HB.out hb); have rW := ae.mk (Kd.ja (Kd.nG HO.out b3 (by rw [hg]; exact Nat.le_refl _)) hb); clear HB HO; have HB := kZ; have HO := rW; clear kZ rW; have bW := ae.mk hbox; clear hb hbox hg) | ((with_reducible refine aC (N := 6) rfl ?_); refine aK ?hg (N := 6) ?hd (cs := #[.int .u8 0, .int .i64 0, .int .i64 0, .int .i64 0, .int .i64 0, .int .i64 0, .slice none 0 0]) (t := 26) ?hr ?_; (case hd => rfl); (case hg => rfl); (case hr => (go_simp; done)); intro b6 hg wb6 hbox hb; have Gb6 := ae.mk (show w.heap.size ≤ b6 by rw [hg]; exact HB.out.size); have uB := ae.mk (show b3 ≠ b6 by rw [hg]; exact Nat.ne_of_lt (fD bW.out)); have kZ := ae.mk (ak HB.out hb); have rW := ae.mk (Kd.ja (Kd.nG HO.out b6 (by rw [hg]; exact Nat.le_refl _)) hb); have iy := ae.mk (aI bW.out hb); clear HB HO bW; have HB := kZ; have HO := rW; have bW := iy; clear kZ rW iy; have fQ := ae.mk hbox; clear hb hbox hg) | ((with_reducible refine lH (.store 3 (.tmp 12) (.tmp 9)) rfl ?_); go_loud (refine f_ (w0 := w) rfl rfl 3 (.tmp 12) (.tmp 9) rfl (g := b3) (j := 1) (base := w.heap.size) #[.int .u8 ck, .int .i64 x, .int .i64 cy, .int .i64 cw, .int .i64 ch, .int .i64 aT, .slice A l.length cc] (u := .int .i64 x) (bG := [.int .i64 x]) ?sA ?sX rfl ?sT ?s1 bW.out ?sJ rfl HB.out HB.out.size Rl.out ?_; (case sA => rfl); (case sX => rfl); (case sT => rfl); (case s1 => (simp [Value.oneCell'])); (case sJ => (simp)); intro ws1 hbk hbb hgg; have rW := ae.mk (Kd.wG HO.out hgg (fun k_ hk e_ => absurd (Option.some.inj e_) hk.1.2)); have iC := ae.mk (cO fQ.out hgg (fun e_ => absurd (Option.some.inj e_) (by exact (fun LZ => uB.out LZ.symm)))); clear HO fQ; have HO := rW; have fQ := iC; clear rW iC; clear bW HB; have bW := ae.mk hbk; have HB := ae.mk hbb; clear hbk hbb hgg)) | ((with_reducible refine lH (.store 3 (.tmp 14) (.tmp 10)) rfl ?_); go_loud (refine f_ (w0 := w) rfl rfl 3 (.tmp 14) (.tmp 10) rfl (g := b3) (j := 2) (base := w.heap.size) #[.int .u8 ck, .int .i64 x, .int .i64 y, .int .i64 cw, .int .i64 ch, .int .i64 aT, .slice A l.length cc] (u := .int .i64 y) (bG := [.int .i64 y]) ?sA ?sX rfl ?sT ?s1 bW.out ?sJ rfl HB.out HB.out.size Rl.out ?_; (case sA => rfl); (case sX => rfl); (case sT => rfl); (case s1 => (simp [Value.oneCell'])); (case sJ => (simp)); intro ws2 hbk hbb hgg; have rW := ae.mk (Kd.wG HO.out hgg (fun k_ hk e_ => absurd (Option.some.inj e_) hk.1.2)); have iC := ae.mk (cO fQ.out hgg (fun e_ => absurd (Option.some.inj e_) (by exact (fun LZ => uB.out LZ.symm)))); clear HO fQ; have HO := rW; have fQ := iC; clear rW iC; clear bW HB; have bW := ae.mk hbk; have HB := ae.mk hbb; clear hbk hbb hgg)))
  have Gi : _ = some (Value.slice A l.length cc) := (af bW.out 6).trans rfl
  go_upto_region 3 with (first | ((with_reducible refine kP (f := 137) rfl ?_); refine mM (some 17) rfl rfl Try.func137 (by kernel_rfl) rfl #[.slice A l.length cc] rfl (by (try simp only [List.map_toArray, List.map_cons, List.map_nil]); rfl) ?_; refine (J9.out _ _ HO.out).mono ?_; rintro e wc1 ⟨v1, rfl, ho, hb⟩; refine ⟨_, rfl, ?_⟩; have HN := ae.mk (KH ho (fD bW.out) (fD fQ.out) HB.out.size); clear ho HO; obtain ⟨A1, c1, e1⟩ := Kd.jy HN.out; subst e1; have kZ := ae.mk (ak HB.out hb); have iy := ae.mk (aI bW.out hb); have iC := ae.mk (aI fQ.out hb); clear HB bW fQ; have HB := kZ; have bW := iy; have fQ := iC; clear kZ iy iC; clear hb) | ((with_reducible refine lH (.store 24 (.tmp 18) (.tmp 17)) rfl ?_); go_loud (refine f_ (w0 := w) rfl rfl 24 (.tmp 18) (.tmp 17) rfl (g := b3) (j := 6) (base := w.heap.size) #[.int .u8 ck, .int .i64 x, .int .i64 y, .int .i64 cw, .int .i64 ch, .int .i64 aT, .slice A1 l.length c1] (u := .slice A1 l.length c1) (bG := [.slice A1 l.length c1]) ?sA ?sX rfl ?sT ?s1 bW.out ?sJ rfl HB.out HB.out.size Rl.out ?_; (case sA => rfl); (case sX => rfl); (case sT => rfl); (case s1 => (simp [Value.oneCell'])); (case sJ => (simp)); intro ws3 hbk hbb hgg; have iC := ae.mk (cO fQ.out hgg (fun e_ => absurd (Option.some.inj e_) (by exact (fun LZ => uB.out LZ.symm)))); have lg := ae.mk (Kd.uK HN.out hgg (fun k_ hk e_ => absurd (Option.some.inj e_) hk.1.2)); clear fQ HN; have fQ := iC; have HN := lg; clear iC lg; clear bW HB; have bW := ae.mk hbk; have HB := ae.mk hbb; clear hbk hbb hgg)))
  clear Gi
  have Gi : _ = some (Value.slice A1 l.length c1) := (af bW.out 6).trans rfl
  go_wp2
  clear Gi
  go_loopg [1, 2, 22] l.length (fun gg v1 v2 v22 wr => ∃ (pre rest : List ai), v1 = .int .i64 (qA ck pre x) ∧ v2 = .int .i64 (qB ck pre y) ∧ v22 = .int .i64 (pre.length : Int) ∧ ae (pre ++ rest = l) ∧ rest.length ≤ gg ∧ ae (Kd.N k26 26 wr w.heap.size (fun q => ((P q ∨ w.heap.size ≤ q) ∧ q ≠ b3) ∧ q ≠ b6) (.slice A1 l.length c1) (jg ck pre x y ++ rest)) ∧ ae (wr.heap[b3]? = some (.cells #[.int .u8 ck, .int .i64 x, .int .i64 y, .int .i64 cw, .int .i64 ch, .int .i64 aT, .slice A1 l.length c1] 26 (0, 0))) ∧ ae (wr.heap[b6]? = some (.cells #[.int .u8 0, .int .i64 0, .int .i64 0, .int .i64 0, .int .i64 0, .int .i64 0, .slice none 0 0] 26 (0, 0))) ∧ ae (Below w.heap.size w wr))
  case atStart => exact ⟨[], l, rfl, rfl, rfl, ⟨rfl⟩, Nat.le_refl _, ⟨by rw [lW]; exact HN.out⟩, bW, fQ, HB⟩
  case round =>
   clear HN bW fQ HB
   obtain ⟨pre, rest, rfl, rfl, rfl, HE, hgg, HN, bW, fQ, HB⟩ := hrel
   cases rest with
   | nil =>
    have hpl : pre = l := by have := HE.out; rwa [List.append_nil] at this
    have hlt : ¬ ((pre.length : Int) < (l.length : Int)) := by rw [hpl]; omega
    have HP := ae.mk hpl
    clear hpl hgg
    have c30 := (af bW.out 0).trans rfl
    have c31 := (af bW.out 1).trans rfl
    have c32 := (af bW.out 2).trans rfl
    have c33 := (af bW.out 3).trans rfl
    have c34 := (af bW.out 4).trans rfl
    have c35 := (af bW.out 5).trans rfl
    have Gi := (af bW.out 6).trans rfl
    go_wp2_with (((with_reducible refine lH (.store 26 (.tmp 6) (.tmp 54)) rfl ?_); go_loud (refine f_ (w0 := w) rfl rfl 26 (.tmp 6) (.tmp 54) rfl (g := b6) (j := 0) (base := w.heap.size) #[.int .u8 ck, .int .i64 x, .int .i64 y, .int .i64 cw, .int .i64 ch, .int .i64 aT, .slice A1 l.length c1] (u := .agg #[.int .u8 ck, .int .i64 x, .int .i64 y, .int .i64 cw, .int .i64 ch, .int .i64 aT, .slice A1 l.length c1]) (bG := [.int .u8 ck, .int .i64 x, .int .i64 y, .int .i64 cw, .int .i64 ch, .int .i64 aT, .slice A1 l.length c1]) ?sA ?sX rfl ?sT ?s1 fQ.out ?sJ rfl HB.out HB.out.size Gb6.out ?_; (case sA => rfl); (case sX => rfl); (case sT => rfl); (case s1 => (simp [Value.oneCell'])); (case sJ => (simp)); intro ahf hbk hbb hgg; have lg := ae.mk (Kd.uK HN.out hgg (fun k_ hk e_ => absurd (Option.some.inj e_) hk.2)); have iy := ae.mk (cO bW.out hgg (fun e_ => absurd (Option.some.inj e_) uB.out)); clear HN bW; have HN := lg; have bW := iy; clear lg iy; clear fQ HB; have fQ := ae.mk hbk; have HB := ae.mk hbb; clear hbk hbb hgg)))
    refine bodyPost_ret (results_cell_row rfl _ _ b6 26 _ (0, 0) _ rfl fQ.out Try.underlying26 rfl (by kernel_rfl)) rfl ?_
    refine ⟨_, rfl, ?_, HB.out⟩
    rw [← HP.out]
    have hf := HN.out
    rw [List.append_nil] at hf
    rw [HP.out] at hf ⊢
    exact Kd.iM hf (fun q hq => hq.1.1)
   | cons k rest =>
    have hk : k ∈ l := by rw [← HE.out]; simp
    have hlt : (pre.length : Int) < (l.length : Int) := by rw [← HE.out, List.length_append, List.length_cons]; omega
    have hw : wrap64 ((pre.length : Int) + 1) = ((pre ++ [k]).length : Int) := by rw [List.length_append, List.length_singleton]; unfold wrap64; have := HL.out; omega
    obtain ⟨g, cap, he, hgb, V5, _⟩ := Kd.xm HN.out (by rw [List.length_append, List.length_cons]; omega)
    injection he with ea en ec
    subst ea
    subst ec
    clear en
    have z_ := ae.mk hgb
    obtain ⟨ce, hcl, hM, hcc, hfr⟩ := Kd.xk HN.out z26 (pre.length : Int) (Int.natCast_nonneg _) hlt
    have hrd : (jg ck pre x y ++ k :: rest).getD (pre.length : Int).toNat z26 = k := UL ck pre k rest x y
    rw [hrd] at hM
    obtain ⟨ua, uc, rfl, ul, ge⟩ := mY hM
    have HV := ae.mk (show Kd.V k26 26 wr w.heap.size _ (.slice ua k.f3.length uc) k.f3 from Kd.uD ul ge)
    have x0 : wr.cell? ⟨g, pre.length * 7, none⟩ = some (.int .u8 k.f0) := hcc 0 _ rfl
    have x1 : wr.cell? ⟨g, pre.length * 7 + 1, none⟩ = some (.int .i64 k.f1.f0) := hcc 1 _ rfl
    have x2 : wr.cell? ⟨g, pre.length * 7 + 2, none⟩ = some (.int .i64 k.f1.f1) := hcc 2 _ rfl
    have x3 : wr.cell? ⟨g, pre.length * 7 + 3, none⟩ = some (.int .i64 k.f1.f2) := hcc 3 _ rfl
    have x4 : wr.cell? ⟨g, pre.length * 7 + 4, none⟩ = some (.int .i64 k.f1.f3) := hcc 4 _ rfl
    have x5 : wr.cell? ⟨g, pre.length * 7 + 5, none⟩ = some (.int .i64 k.f2) := hcc 5 _ rfl
    have x6 : wr.cell? ⟨g, pre.length * 7 + 6, none⟩ = some (.slice ua k.f3.length uc) := hcc 6 _ rfl
    have HW1 := ae.mk hw
    have HK := ae.mk hk
    have iF := ae.mk hgg
    clear hcl hM hcc hfr hrd ul ge hgb V5 hw hk hgg
    go_upto_region 6 with (first | ((with_reducible refine aC (N := 8) rfl ?_); refine aK ?hg (N := 8) ?hd (cs := #[.int .u8 0, .int .i64 0, .int .i64 0, .int .i64 0, .int .i64 0, .int .i64 0, .slice none 0 0]) (t := 26) ?hr ?_; (case hd => rfl); (case hg => rfl); (case hr => (go_simp; done)); intro b8 hg wb8 hbox hb; have Gb8 := ae.mk (show w.heap.size ≤ b8 by rw [hg]; exact HB.out.size); have ES := ae.mk (show b3 ≠ b8 by rw [hg]; exact Nat.ne_of_lt (fD bW.out)); have ET := ae.mk (show b6 ≠ b8 by rw [hg]; exact Nat.ne_of_lt (fD fQ.out)); have kZ := ae.mk (ak HB.out hb); have lg := ae.mk (Kd.pF (Kd.Bg HN.out b8 (by rw [hg]; exact Nat.le_refl _)) hb); have rX := ae.mk (Kd.ja (Kd.nG HV.out b8 (by rw [hg]; exact Nat.le_refl _)) hb); have iy := ae.mk (aI bW.out hb); have iC := ae.mk (aI fQ.out hb); clear HB HN HV bW fQ; have HB := kZ; have HN := lg; have HV := rX; have bW := iy; have fQ := iC; clear kZ lg rX iy iC; have Kb8 := ae.mk hbox; clear hb hbox hg) | ((with_reducible refine lH (.store 26 (.tmp 8) (.tmp 26)) rfl ?_); go_loud (refine f_ (w0 := w) rfl rfl 26 (.tmp 8) (.tmp 26) rfl (g := b8) (j := 0) (base := w.heap.size) #[.int .u8 k.f0, .int .i64 k.f1.f0, .int .i64 k.f1.f1, .int .i64 k.f1.f2, .int .i64 k.f1.f3, .int .i64 k.f2, .slice ua k.f3.length uc] (u := .agg #[.int .u8 k.f0, .int .i64 k.f1.f0, .int .i64 k.f1.f1, .int .i64 k.f1.f2, .int .i64 k.f1.f3, .int .i64 k.f2, .slice ua k.f3.length uc]) (bG := [.int .u8 k.f0, .int .i64 k.f1.f0, .int .i64 k.f1.f1, .int .i64 k.f1.f2, .int .i64 k.f1.f3, .int .i64 k.f2, .slice ua k.f3.length uc]) ?sA ?sX rfl ?sT ?s1 Kb8.out ?sJ rfl HB.out HB.out.size Gb8.out ?_; (case sA => rfl); (case sX => rfl); (case sT => rfl); (case s1 => (simp [Value.oneCell'])); (case sJ => (simp)); intro Xf hbk hbb hgg; have lg := ae.mk (Kd.uK HN.out hgg (fun k_ hk e_ => absurd (Option.some.inj e_) hk.2)); have rX := ae.mk (Kd.wG HV.out hgg (fun k_ hk e_ => absurd (Option.some.inj e_) hk.2)); have iy := ae.mk (cO bW.out hgg (fun e_ => absurd (Option.some.inj e_) ES.out)); have iC := ae.mk (cO fQ.out hgg (fun e_ => absurd (Option.some.inj e_) ET.out)); clear HN HV bW fQ; have HN := lg; have HV := rX; have bW := iy; have fQ := iC; clear lg rX iy iC; clear Kb8 HB; have Kb8 := ae.mk hbk; have HB := ae.mk hbb; clear hbk hbb hgg)))
    clear x0 x1 x2 x3 x4 x5 x6
    have q_ := ae.mk (tV HB.out)
    clear HB
    have HB := q_
    clear q_
    have q_ := ae.mk (Kd.RD HN.out)
    clear HN
    have HN := q_
    clear q_
    have q_ := ae.mk (Kd.KO HV.out)
    clear HV
    have HV := q_
    clear q_
    have q_ := ae.mk (uF bW.out)
    clear bW
    have bW := q_
    clear q_
    have q_ := ae.mk (uF fQ.out)
    clear fQ
    have fQ := q_
    clear q_
    have q_ := ae.mk (uF Kb8.out)
    clear Kb8
    have Kb8 := q_
    clear q_
    refine iT (n := 9) (S := fun w' => w'.heap[b3]? = some (.cells #[.int .u8 ck, .int .i64 x, .int .i64 y, .int .i64 cw, .int .i64 ch, .int .i64 aT, .slice (some ⟨g, 0, none⟩) l.length c1] 26 (0, 0)) ∧ w'.heap[b8]? = some (.cells #[.int .u8 k.f0, .int .i64 k.f1.f0, .int .i64 k.f1.f1, .int .i64 k.f1.f2, .int .i64 k.f1.f3, .int .i64 k.f2, .slice ua k.f3.length uc] 26 (0, 0))) (ds := [8]) #[false, false, false, false, false, false, false, false, false] (by kernel_rfl) rfl rfl ⟨bW.out, Kb8.out⟩ (fun hHeld => ?_); refine eP mQ.tab6 mQ.Gf (fun aj dW => ?_)
    generalize Xf.drew = wd at HB HN HV bW fQ Kb8 hHeld ⊢
    refine qY (i := 0) (N := some 27) (v := ?_) (a' := ?_) #[true, false, false, false, false, false, false, false, false] rfl rfl (oG aj.out (by kernel_rfl)) (fun _ _ _ h => h) (Or.inl ⟨by rfl, ?_⟩) ?_ ?_
    rotate_left
    ·intro w'; go_simp; with_reducible rfl
    rotate_left
    ·simp only [Act.put, List.setIfInBounds_toArray, List.set_cons_zero, List.set_cons_succ, jR, jQ]
     rfl
    refine qY (i := 2) (N := some 29) (v := ?_) (a' := ?_) #[true, false, true, false, false, false, false, false, false] rfl rfl (oG aj.out (by kernel_rfl)) (fun _ _ _ h => h) (Or.inl ⟨by rfl, ?_⟩) ?_ ?_
    rotate_left
    ·intro w'; go_simp; with_reducible rfl
    rotate_left
    ·simp only [Act.put, List.setIfInBounds_toArray, List.set_cons_zero, List.set_cons_succ, jR, jQ]
     rfl
    refine qY (i := 4) (N := some 31) (v := ?_) (a' := ?_) #[true, false, true, false, true, false, false, false, false] rfl rfl (oG aj.out (by kernel_rfl)) (fun _ _ _ h => h) (Or.inl ⟨by rfl, ?_⟩) ?_ ?_
    rotate_left
    ·intro w'; go_simp; with_reducible rfl
    rotate_left
    ·simp only [Act.put, List.setIfInBounds_toArray, List.set_cons_zero, List.set_cons_succ, jR, jQ]
     rfl
    refine qY (i := 5) (N := some 32) (v := ?_) (a' := ?_) #[true, false, true, false, true, true, false, false, false] rfl rfl (oG aj.out (by kernel_rfl)) (fun _ _ _ h => h) (Or.inl ⟨by rfl, ?_⟩) ?_ ?_
    rotate_left
    ·intro w'; go_simp; with_reducible rfl
    rotate_left
    ·simp only [Act.put, List.setIfInBounds_toArray, List.set_cons_zero, List.set_cons_succ, jR, jQ]
     rfl
    refine yJ (i := 1) (N := some 28) (v := ?_) (a' := ?_) #[true, true, true, false, true, true, false, false, false] rfl rfl (uG aj.out dW.out (by kernel_rfl)) (fun _ _ _ h => h) (Or.inl ⟨by rfl, ?_⟩) hHeld ?_ ?_
    rotate_left
    ·intro w' hs_
     have c := (af hs_.1 6).trans rfl
     go_simp; with_reducible rfl
    rotate_left
    ·simp only [Act.put, List.setIfInBounds_toArray, List.set_cons_zero, List.set_cons_succ, jR, jQ]
     rfl
    refine yJ (i := 3) (N := some 30) (v := ?_) (a' := ?_) #[true, true, true, true, true, true, false, false, false] rfl rfl (uG aj.out dW.out (by kernel_rfl)) (fun _ _ _ h => h) (Or.inl ⟨by rfl, ?_⟩) hHeld ?_ ?_
    rotate_left
    ·intro w' hs_
     have c0 := (af hs_.2 0).trans rfl
     have c1 := (af hs_.2 1).trans rfl
     have c2 := (af hs_.2 2).trans rfl
     have c3 := (af hs_.2 3).trans rfl
     have c4 := (af hs_.2 4).trans rfl
     have c5 := (af hs_.2 5).trans rfl
     have c6 := (af hs_.2 6).trans rfl
     go_simp; with_reducible rfl
    rotate_left
    ·simp only [Act.put, List.setIfInBounds_toArray, List.set_cons_zero, List.set_cons_succ, jR, jQ]
     rfl
    refine Np (i := 6) (N := some 33) #[true, true, true, true, true, true, true, false, false] rfl rfl (xx aj.out (by kernel_rfl)) (by decide) (fun K hK => ?_)
    refine jH Try.func66 (by kernel_rfl) rfl #[.agg #[.int .u8 k.f0, .int .i64 k.f1.f0, .int .i64 k.f1.f1, .int .i64 k.f1.f2, .int .i64 k.f1.f3, .int .i64 k.f2, .slice ua k.f3.length uc], .int .i64 (qA ck pre x), .int .i64 (qB ck pre y)] (by rfl) rfl rfl (by (try simp only [List.map_toArray, List.map_cons, List.map_nil]); rfl) ?_
    refine (IH.out k HK.out _ ua uc (qA ck pre x) (qB ck pre y) wd HV.out).mono ?_
    rintro e wk ⟨v, rfl, ho, hb⟩
    refine ⟨_, rfl, ?_⟩
    have HE3 := ae.mk (fD bW.out)
    have HE6 := ae.mk (fD fQ.out)
    have HE8 := ae.mk (fD Kb8.out)
    have HEG := ae.mk (Kd.EU HN.out g rfl)
    have HS := ae.mk HB.out.size
    have kZ := ae.mk (ak HB.out hb); have lg := ae.mk (Kd.pF HN.out hb); have rX := ae.mk (Kd.ja HV.out hb); have iy := ae.mk (aI bW.out hb); have iC := ae.mk (aI fQ.out hb); have GN := ae.mk (aI Kb8.out hb); clear HB HN HV bW fQ Kb8; have HB := kZ; have HN := lg; have HV := rX; have bW := iy; have fQ := iC; have Kb8 := GN; clear kZ lg rX iy iC GN
    clear HV hb
    obtain ⟨Av, cv, ev⟩ := Kd.jy ho
    subst ev
    have qU := ae.mk ho
    clear ho
    refine hK.out _ _ ⟨bW.out, Kb8.out⟩ (fun hHeld => ?_)
    clear hK K
    refine kM (a' := ?_) ?_ ?_
    rotate_left
    ·show Act.put _ (some 33) _ = _
     simp only [Act.put, List.setIfInBounds_toArray, List.set_cons_zero, List.set_cons_succ, jR, jQ]
     rfl
    refine qY (i := 7) (N := some 34) (v := ?_) (a' := ?_) #[true, true, true, true, true, true, true, true, false] rfl rfl (oG aj.out (by kernel_rfl)) (fun _ _ _ h => h) (Or.inl ⟨by rfl, ?_⟩) ?_ ?_
    rotate_left
    ·intro w'; go_simp; with_reducible rfl
    rotate_left
    ·simp only [Act.put, List.setIfInBounds_toArray, List.set_cons_zero, List.set_cons_succ, jR, jQ]
     rfl
    obtain ⟨ce, hcl, hM, hcc, hfr⟩ := Kd.xk HN.out z26 (pre.length : Int) (Int.natCast_nonneg _) hlt
    have hrd : (jg ck pre x y ++ k :: rest).getD (pre.length : Int).toNat z26 = k := UL ck pre k rest x y
    rw [hrd] at hM
    obtain ⟨ub, ud, rfl, _, _⟩ := mY hM
    have x0 : wk.cell? ⟨g, pre.length * 7, none⟩ = some (.int .u8 k.f0) := hcc 0 _ rfl
    have f0 : wk.frozen? ⟨g, pre.length * 7, none⟩ = false := hfr 0
    have x1 : wk.cell? ⟨g, pre.length * 7 + 1, none⟩ = some (.int .i64 k.f1.f0) := hcc 1 _ rfl
    have f1 : wk.frozen? ⟨g, pre.length * 7 + 1, none⟩ = false := hfr 1
    have x2 : wk.cell? ⟨g, pre.length * 7 + 2, none⟩ = some (.int .i64 k.f1.f1) := hcc 2 _ rfl
    have f2 : wk.frozen? ⟨g, pre.length * 7 + 2, none⟩ = false := hfr 2
    have x3 : wk.cell? ⟨g, pre.length * 7 + 3, none⟩ = some (.int .i64 k.f1.f2) := hcc 3 _ rfl
    have f3 : wk.frozen? ⟨g, pre.length * 7 + 3, none⟩ = false := hfr 3
    have x4 : wk.cell? ⟨g, pre.length * 7 + 4, none⟩ = some (.int .i64 k.f1.f3) := hcc 4 _ rfl
    have f4 : wk.frozen? ⟨g, pre.length * 7 + 4, none⟩ = false := hfr 4
    have x5 : wk.cell? ⟨g, pre.length * 7 + 5, none⟩ = some (.int .i64 k.f2) := hcc 5 _ rfl
    have f5 : wk.frozen? ⟨g, pre.length * 7 + 5, none⟩ = false := hfr 5
    have x6 : wk.cell? ⟨g, pre.length * 7 + 6, none⟩ = some (.slice ub k.f3.length ud) := hcc 6 _ rfl
    have f6 : wk.frozen? ⟨g, pre.length * 7 + 6, none⟩ = false := hfr 6
    have jB : ∀ q, (((fun q => ((P q ∨ w.heap.size ≤ q) ∧ q ≠ b3) ∧ q ≠ b6) q ∧ q ≠ g) ∧ q ≠ b8) ∨ wd.heap.size ≤ q → ((fun q => ((P q ∨ w.heap.size ≤ q) ∧ q ≠ b3) ∧ q ≠ b6) q ∧ q ≠ b8) ∧ q ≠ g := fun q hq => hq.elim (fun h => ⟨⟨h.1.1, h.2⟩, h.1.2⟩) (fun hn => ⟨⟨⟨⟨.inr (Nat.le_trans HS.out hn), Nat.ne_of_gt (Nat.lt_of_lt_of_le HE3.out hn)⟩, Nat.ne_of_gt (Nat.lt_of_lt_of_le HE6.out hn)⟩, Nat.ne_of_gt (Nat.lt_of_lt_of_le HE8.out hn)⟩, Nat.ne_of_gt (Nat.lt_of_lt_of_le HEG.out hn)⟩)
    have Jm := nY wk _ (b_ k (qA ck pre x) (qB ck pre y)) (A6 := Av) (c6 := cv) (by rw [jV]; exact (Kd.iO qU.out).2.1) (by rw [jV]; exact Kd.Xr qU.out)
    have hseg := Kd.PZ HN.out (pre.length : Int) (Int.natCast_nonneg _) hlt (bG := [.int .u8 k.f0, .int .i64 (qA ck pre x), .int .i64 (qB ck pre y), .int .i64 k.f1.f2, .int .i64 k.f1.f3, .int .i64 k.f2, .slice Av (jg k.f0 k.f3 (qA ck pre x) (qB ck pre y)).length cv]) (j := 0) hcl hcc (show 0 + 7 ≤ 7 from by decide) (x' := b_ k (qA ck pre x) (qB ck pre y)) (by rw [jV] at Jm ⊢; exact Jm) jB
    rw [show (jg ck pre x y ++ k :: rest).set (pre.length : Int).toNat (b_ k (qA ck pre x) (qB ck pre y)) = jg ck (pre ++ [k]) x y ++ rest from aaw ck pre k rest x y] at hseg
    obtain ⟨w9, Dt⟩ : ∃ w9, w9 = wk.setCells g ((pre.length : Int).toNat * 7 + 0) [.int .u8 k.f0, .int .i64 (qA ck pre x), .int .i64 (qB ck pre y), .int .i64 k.f1.f2, .int .i64 k.f1.f3, .int .i64 k.f2, .slice Av (jg k.f0 k.f3 (qA ck pre x) (qB ck pre y)).length cv] := ⟨_, rfl⟩
    replace hseg : Kd.N k26 26 w9 w.heap.size (fun q => (fun q => ((P q ∨ w.heap.size ≤ q) ∧ q ≠ b3) ∧ q ≠ b6) q ∧ q ≠ b8) (.slice (some ⟨g, 0, none⟩) l.length c1) (jg ck (pre ++ [k]) x y ++ rest) ∧ wk.grownBy w9 (some g) := by rw [Dt]; exact hseg
    have Ru := ae.mk (Kd.RF hseg.1)
    have J_ := ae.mk (grown_below HB.out hseg.2 z_.out HB.out.size)
    have xU := ae.mk (cO bW.out hseg.2 (fun e_ => (HN.out.1 g rfl).1.1.2 (Option.some.inj e_).symm))
    have KD := ae.mk (cO fQ.out hseg.2 (fun e_ => (HN.out.1 g rfl).1.2 (Option.some.inj e_).symm))
    have ER := ae.mk (cO Kb8.out hseg.2 (fun e_ => (HN.out.1 g rfl).2 (Option.some.inj e_).symm))
    clear hseg Jm jB hcl hcc hfr hM hrd HN HB bW fQ Kb8 hHeld qU
    refine QB (i := 8) (N := none) #[true, true, true, true, true, true, true, true, true] rfl rfl (xx aj.out (by kernel_rfl)) (by decide) (fun K hK => ?_)
    refine GZ (w1 := w9) (by rfl) rfl ?_ ?_
    ·rw [Dt]; go_simp; rfl
    refine hK.out _ _ ?_
    clear hK K x0 x1 x2 x3 x4 x5 x6 f0 f1 f2 f3 f4 f5 f6 Dt
    refine jG (gK aj.out (by kernel_rfl)) ?_
    have d0 := (af xU.out 0).trans rfl
    have e0 := (af ER.out 0).trans rfl
    have d1 := (af xU.out 1).trans rfl
    have e1 := (af ER.out 1).trans rfl
    have d2 := (af xU.out 2).trans rfl
    have e2 := (af ER.out 2).trans rfl
    have d3 := (af xU.out 3).trans rfl
    have e3 := (af ER.out 3).trans rfl
    have d4 := (af xU.out 4).trans rfl
    have e4 := (af ER.out 4).trans rfl
    have d5 := (af xU.out 5).trans rfl
    have e5 := (af ER.out 5).trans rfl
    have d6 := (af xU.out 6).trans rfl
    have e6 := (af ER.out 6).trans rfl
    by_cases k2 : ck = 2
    ·have ag2 : (ck == 2) = true := beq_iff_eq.mpr k2
     have K2 := ae.mk k2
     clear k2
     have hw := HW1.out
     go_wp2
     clear d0 d1 d2 d3 d4 d5 d6 e0 e1 e2 e3 e4 e5 e6
     go_roundg rest.length
     case measure => exact Nat.lt_of_lt_of_le (Nat.lt_succ_self _) iF.out
     case rel => exact ⟨pre ++ [k], rest, (by rw [BU]; unfold zo; rw [if_pos K2.out]), (by rw [BV]; unfold zq; rw [if_pos K2.out]), (by rw [hw]), ⟨by rw [List.append_assoc]; exact HE.out⟩, Nat.le_refl _, Ru, xU, KD, J_⟩
    ·have ag2 : (ck == 2) = false := beq_eq_false_iff_ne.mpr k2
     have K2 := ae.mk k2
     clear k2
     by_cases k3 : ck = 3
     ·have ag3 : (ck == 3) = true := beq_iff_eq.mpr k3
      have K3 := ae.mk k3
      clear k3
      have hw := HW1.out
      go_wp2
      clear d0 d1 d2 d3 d4 d5 d6 e0 e1 e2 e3 e4 e5 e6
      go_roundg rest.length
      case measure => exact Nat.lt_of_lt_of_le (Nat.lt_succ_self _) iF.out
      case rel => exact ⟨pre ++ [k], rest, (by rw [BU]; unfold zo; rw [if_neg K2.out]), (by rw [BV]; unfold zq; rw [if_neg K2.out, if_pos K3.out]), (by rw [hw]), ⟨by rw [List.append_assoc]; exact HE.out⟩, Nat.le_refl _, Ru, xU, KD, J_⟩
     ·have ag3 : (ck == 3) = false := beq_eq_false_iff_ne.mpr k3
      have K3 := ae.mk k3
      clear k3
      have hw := HW1.out
      go_wp2
      clear d0 d1 d2 d3 d4 d5 d6 e0 e1 e2 e3 e4 e5 e6
      go_roundg rest.length
      case measure => exact Nat.lt_of_lt_of_le (Nat.lt_succ_self _) iF.out
      case rel => exact ⟨pre ++ [k], rest, (by rw [BU]; unfold zo; rw [if_neg K2.out]), (by rw [BV]; unfold zq; rw [if_neg K2.out, if_neg K3.out]), (by rw [hw]), ⟨by rw [List.append_assoc]; exact HE.out⟩, Nat.le_refl _, Ru, xU, KD, J_⟩
def mQ.f (a0 a1 a2 a3 a4 a5 : Int) (l : List ai) (x y : Int) : Option (Int × Int × Int × Int × Int × Int × List ai) := if sz ⟨a0, ⟨a1, a2, a3, a4⟩, a5, l⟩ ≤ 1000000 then some (a0, x, y, a3, a4, a5, jg a0 l x y) else none
section
variable {W : World} {b : Nat} {P : Nat → Prop} {A : Option Addr} {cc : Nat}
abbrev P6 (w : World) (P : Nat → Prop) (z : ai) (e : Ending) (w' : World) : Prop := ∃ A c, e = .returned (.agg #[.int .u8 z.f0, .int .i64 z.f1.f0, .int .i64 z.f1.f1, .int .i64 z.f1.f2, .int .i64 z.f1.f3, .int .i64 z.f2, .slice A z.f3.length c]) ∧ Kd.N k26 26 w' w.heap.size (fun k => P k ∨ w.heap.size ≤ k) (.slice A z.f3.length c) z.f3 ∧ Below w.heap.size w w'
theorem AQ (c : ai) (ax : Int) (hz : sz c ≤ 1048576) (hV : Kd.V k26 26 W b P (.slice A c.f3.length cc) c.f3) :
  Calls Try.prog 86 #[.agg #[.int .u8 c.f0, .int .i64 c.f1.f0, .int .i64 c.f1.f1, .int .i64 c.f1.f2, .int .i64 c.f1.f3, .int .i64 c.f2, .slice A c.f3.length cc], .int .u8 ax] W fun e w' => e = .returned (.int .i64 (aU ax c)) ∧ Below W.heap.size W w' := by
 obtain ⟨k, hk⟩ := (VS c hz ax).rounds
 exact bV.calls k _ _ _ _ _ _ P A cc c.f3 ax _ W (gQ hV) hk
theorem Yo (c : ai) (ax : Int) (hV : Kd.V k26 26 W b P (.slice A c.f3.length cc) c.f3) :
  Calls Try.prog 99 #[.agg #[.int .u8 c.f0, .int .i64 c.f1.f0, .int .i64 c.f1.f1, .int .i64 c.f1.f2, .int .i64 c.f1.f3, .int .i64 c.f2, .slice A c.f3.length cc], .int .u8 ax] W fun e w' => e = .returned (.bool (fM ax c.f0)) ∧ Below W.heap.size W w' := by
 have h := Kd.kR hV
 exact qN.calls _ _ _ _ _ _ A cc c.f3 ax _ W h.2.2 h.2.1 (Bo c ax)
theorem Yv (l : List ai) (hl : l.length ≤ 1000000) (hV : Kd.V k26 26 W b P (.slice A l.length cc) l) :
  Calls Try.prog 137 #[.slice A l.length cc] W fun e w' => ∃ A' c', e = .returned (.slice A' l.length c') ∧ Kd.N k26 26 w' W.heap.size (fun k => P k ∨ W.heap.size ≤ k) (.slice A' l.length c') l ∧ Below W.heap.size W w' :=
 (pK.calls P A cc l l W (gQ hV) (if_pos hl)).mono (fun e w' ⟨v, he, hN, hB⟩ => by
  obtain ⟨A', c', rfl⟩ := Kd.jy hN
  exact ⟨A', c', he, hN, hB⟩)
theorem JW (c : ai) (x y : Int) (hz : sz c ≤ 1000000) (hV : Kd.V k26 26 W b P (.slice A c.f3.length cc) c.f3) :
  Calls Try.prog 66 #[.agg #[.int .u8 c.f0, .int .i64 c.f1.f0, .int .i64 c.f1.f1, .int .i64 c.f1.f2, .int .i64 c.f1.f3, .int .i64 c.f2, .slice A c.f3.length cc], .int .i64 x, .int .i64 y] W (P6 W P (b_ c x y)) :=
 (afu 1000000 c hz (Nat.le_refl _) P A cc x y W (gQ hV)).mono (fun e w' ⟨v, he, hN, hB⟩ => by
  rw [jV]
  obtain ⟨A', c', rfl⟩ := Kd.jy hN
  exact ⟨A', c', he, hN, hB⟩)
theorem WZ (b : Int) (gs : List Int) (hl : gs.length ≤ 100000) (h0 : -2147483647 ≤ b) (h1 : b ≤ 2147483647) (hC : Kd.C (Kd.int .i64) W A gs.length gs) (hc : gs.length ≤ cc) :
  Calls Try.prog 49 #[.int .i64 b, .slice A gs.length cc] W fun e w' => ∃ A' c', e = .returned (.tuple #[.slice A' (qK b gs).1.length c', .bool (qK b gs).2]) ∧ (Kd.int .i64).R 3 w' W.heap.size (fun _ => True) (.slice A' (qK b gs).1.length c') (qK b gs).1 ∧ Below W.heap.size W w' := by
 obtain ⟨k, hk⟩ := (DN b gs hl h0 h1).2.rounds
 exact (bf.calls k b A cc gs _ _ W hC hc hk).mono (fun e w' ⟨v, he, hR, hB⟩ => by
  obtain ⟨A', c', rfl⟩ := Kd.fU hR
  exact ⟨A', c', he, hR, hB⟩)
end
def afw.T6 : Bool × List (List Nat × List Nat) := (true, [([], []), ([0], [0]), ([], []), ([1, 2], [1, 2]), ([3], [3]), ([], []), ([5], [5]), ([], []), ([6, 7], [6, 7]), ([8], [8]), ([4, 9], [4, 9]), ([10], [10])])
def afw.B6 : List Nat := [0, 1, 0, 7, 15, 0, 32, 0, 224, 480, 1023, 2047]
theorem Hr : ∀ (is : List Int) (c x : ai), jE c is = some x → sz x ≤ sz c := by
 intro is
 induction is with
 | nil => intro c x h; injection h with h; rw [h]; exact Nat.le_refl _
 | cons i is ih =>
  intro c x h
  simp only [jE] at h
  split at h
  ·cases h
  ·rename_i hi
   have h1 := ih _ x h
   have h2 := xC (GU c.f3 i (by omega) (by omega))
   have h3 := bZ c
   omega
theorem AO (id : Int) : ∀ (N : Nat), (∀ c : ai, sz c ≤ N → ∀ p, gm id c = some p → ∃ z, jE c p = some z ∧ z.f0 = 1 ∧ z.f2 = id) ∧
  (∀ l : List ai, dN l ≤ N → ∀ (pre : List ai) (p : List Int), oK id pre.length l = some p → ∃ i is z, p = i :: is ∧ 0 ≤ i ∧ i < ((pre ++ l).length : Int) ∧ jE (az (pre ++ l) i) is = some z ∧ z.f0 = 1 ∧ z.f2 = id) := by
 intro N
 induction N with
 | zero =>
  refine ⟨fun c h => ?_, fun l h => ?_⟩
  ·rw [bZ] at h; omega
  ·cases l with
   | nil => intro pre p hp; rw [rO] at hp; cases hp
   | cons z zs => rw [bU, bZ] at h; omega
 | succ N ih =>
  have hC : ∀ c : ai, sz c ≤ N + 1 → ∀ p, gm id c = some p → ∃ z, jE c p = some z ∧ z.f0 = 1 ∧ z.f2 = id := by
   intro c h p hp
   have hs := bZ c
   rw [BC] at hp
   split at hp
   ·rename_i hq
    injection hp with hp
    subst hp
    exact ⟨c, rfl, hq.1, hq.2⟩
   ·obtain ⟨i, is, z, rfl, h0, h1, h2, h3⟩ := ih.2 c.f3 (by omega) [] p hp
    refine ⟨z, ?_, h3⟩
    rw [List.nil_append] at h1 h2
    simp only [jE]
    rw [if_neg (by omega)]
    exact h2
  refine ⟨hC, fun l => ?_⟩
  induction l with
  | nil => intro _ pre p hp; rw [rO] at hp; cases hp
  | cons x xs ihl =>
   intro h pre p hp
   rw [bU] at h
   rw [oL] at hp
   cases hx : gm id x with
   | some q =>
    rw [hx] at hp
    injection hp with hp
    obtain ⟨z, hz, h3⟩ := hC x (by omega) q hx
    refine ⟨(pre.length : Int), q, z, hp.symm, by omega, by rw [List.length_append, List.length_cons]; omega, ?_, h3⟩
    rw [lU]
    exact hz
   | none =>
    rw [hx] at hp
    have e := ihl (by omega) (pre ++ [x]) p (by rw [List.length_append]; exact hp)
    rwa [List.append_assoc] at e
def mV.T5 : Bool × List (List Nat × List Nat) := (true, [([], []), ([0], [0]), ([], []), ([], []), ([3], [3]), ([1, 2, 0, 1, 2, 3, 4], [1, 2]), ([5, 4, 4, 0, 1, 2, 3, 4], [4, 5])])
def mV.B5 : List Nat := [0, 1, 0, 0, 8, 31, 63]
theorem mV.IK : iD .any (opsOf Try.f151 5) = mV.T5 := by kernel_rfl
theorem mV.D8 : iG mV.T5.2 mV.B5 = true := by kernel_rfl
theorem E8 : ∀ (N : Nat) (c : ai), sz c ≤ N → N ≤ 1000000 → ∀ (P : Nat → Prop) (A : Option Addr) (cc : Nat) (w : World), Kd.V k26 26 w w.heap.size P (.slice A c.f3.length cc) c.f3 →
  Calls Try.prog 151 #[.agg #[.int .u8 c.f0, .int .i64 c.f1.f0, .int .i64 c.f1.f1, .int .i64 c.f1.f2, .int .i64 c.f1.f3, .int .i64 c.f2, .slice A c.f3.length cc]] w
   fun e w' => ∃ v : Value, e = .returned (.agg #[.int .u8 c.f0, .int .i64 c.f1.f0, .int .i64 c.f1.f1, .int .i64 c.f1.f2, .int .i64 c.f1.f3, .int .i64 c.f2, v]) ∧ Kd.N k26 26 w' w.heap.size (fun k => P k ∨ w.heap.size ≤ k) v c.f3 ∧ Below w.heap.size w w' := by
 intro N
 induction N with
 | zero => intro c h; rw [bZ] at h; omega
 | succ N ih =>
  intro c hc hN P A cc w hs
  have hsz := bZ c
  have hlen := jJ c.f3
  have IH := ae.mk fun (k : ai) (hk : k ∈ c.f3) => ih k (by
   have : sz k ≤ dN c.f3 := by
    obtain ⟨p, q, e⟩ := List.append_of_mem hk
    rw [e, ou, bU]; omega
   omega) (by omega)
  have J9 := ae.mk fun (W : World) (P' : Nat → Prop) (hV : Kd.V k26 26 W w.heap.size P' (.slice A c.f3.length cc) c.f3) => pK.calls P' A cc c.f3 c.f3 W hV (if_pos (by omega))
  have HO := ae.mk hs
  have HL := ae.mk (show c.f3.length ≤ 1000000 by omega)
  have HB := ae.mk (Below.refl w.heap.size w)
  clear ih hs hc hN hsz hlen
  obtain ⟨ck, ⟨cx, cy, cw, ch⟩, aT, l⟩ := c
  simp only [] at HO HL IH J9 ⊢
  go_enter Try.func151, Try.ntmps151
  go_upto_region 1 with (first | ((with_reducible refine aC (N := 1) rfl ?_); refine aK ?hg (N := 1) ?hd (cs := #[.int .u8 ck, .int .i64 cx, .int .i64 cy, .int .i64 cw, .int .i64 ch, .int .i64 aT, .slice A l.length cc]) (t := 26) ?hr ?_; (case hd => rfl); (case hg => rfl); (case hr => (go_simp; done)); intro b3 hg U1 hbox hb; have Rl := ae.mk (show w.heap.size ≤ b3 by rw [hg]; exact HB.out.size); have kZ := ae.mk (ak HB.out hb); have rW := ae.mk (Kd.ja (Kd.nG HO.out b3 (by rw [hg]; exact Nat.le_refl _)) hb); clear HB HO; have HB := kZ; have HO := rW; clear kZ rW; have bW := ae.mk hbox; clear hb hbox hg) | ((with_reducible refine aC (N := 2) rfl ?_); refine aK ?hg (N := 2) ?hd (cs := #[.int .u8 0, .int .i64 0, .int .i64 0, .int .i64 0, .int .i64 0, .int .i64 0, .slice none 0 0]) (t := 26) ?hr ?_; (case hd => rfl); (case hg => rfl); (case hr => (go_simp; done)); intro b6 hg wb6 hbox hb; have Gb6 := ae.mk (show w.heap.size ≤ b6 by rw [hg]; exact HB.out.size); have uB := ae.mk (show b3 ≠ b6 by rw [hg]; exact Nat.ne_of_lt (fD bW.out)); have kZ := ae.mk (ak HB.out hb); have rW := ae.mk (Kd.ja (Kd.nG HO.out b6 (by rw [hg]; exact Nat.le_refl _)) hb); have iy := ae.mk (aI bW.out hb); clear HB HO bW; have HB := kZ; have HO := rW; have bW := iy; clear kZ rW iy; have fQ := ae.mk hbox; clear hb hbox hg))
  have Gi : _ = some (Value.slice A l.length cc) := (af bW.out 6).trans rfl
  go_upto_region 2 with (first | ((with_reducible refine kP (f := 137) rfl ?_); refine mM (some 7) rfl rfl Try.func137 (by kernel_rfl) rfl #[.slice A l.length cc] rfl (by (try simp only [List.map_toArray, List.map_cons, List.map_nil]); rfl) ?_; refine (J9.out _ _ HO.out).mono ?_; rintro e wc1 ⟨v1, rfl, ho, hb⟩; refine ⟨_, rfl, ?_⟩; have HN := ae.mk (KH ho (fD bW.out) (fD fQ.out) HB.out.size); clear ho HO; obtain ⟨A1, c1, e1⟩ := Kd.jy HN.out; subst e1; have kZ := ae.mk (ak HB.out hb); have iy := ae.mk (aI bW.out hb); have iC := ae.mk (aI fQ.out hb); clear HB bW fQ; have HB := kZ; have bW := iy; have fQ := iC; clear kZ iy iC; clear hb) | ((with_reducible refine lH (.store 24 (.tmp 8) (.tmp 7)) rfl ?_); go_loud (refine f_ (w0 := w) rfl rfl 24 (.tmp 8) (.tmp 7) rfl (g := b3) (j := 6) (base := w.heap.size) #[.int .u8 ck, .int .i64 cx, .int .i64 cy, .int .i64 cw, .int .i64 ch, .int .i64 aT, .slice A1 l.length c1] (u := .slice A1 l.length c1) (bG := [.slice A1 l.length c1]) ?sA ?sX rfl ?sT ?s1 bW.out ?sJ rfl HB.out HB.out.size Rl.out ?_; (case sA => rfl); (case sX => rfl); (case sT => rfl); (case s1 => (simp [Value.oneCell'])); (case sJ => (simp)); intro ws1 hbk hbb hgg; have iC := ae.mk (cO fQ.out hgg (fun e_ => absurd (Option.some.inj e_) (by exact (fun LZ => uB.out LZ.symm)))); have lg := ae.mk (Kd.uK HN.out hgg (fun k_ hk e_ => absurd (Option.some.inj e_) hk.1.2)); clear fQ HN; have fQ := iC; have HN := lg; clear iC lg; clear bW HB; have bW := ae.mk hbk; have HB := ae.mk hbb; clear hbk hbb hgg)))
  clear Gi
  have Gi : _ = some (Value.slice A1 l.length c1) := (af bW.out 6).trans rfl
  go_wp2
  clear Gi
  go_loopg [12] l.length (fun gg v22 wr => ∃ (pre rest : List ai), v22 = .int .i64 (pre.length : Int) ∧ ae (pre ++ rest = l) ∧ rest.length ≤ gg ∧ ae (Kd.N k26 26 wr w.heap.size (fun q => ((P q ∨ w.heap.size ≤ q) ∧ q ≠ b3) ∧ q ≠ b6) (.slice A1 l.length c1) l) ∧ ae (wr.heap[b3]? = some (.cells #[.int .u8 ck, .int .i64 cx, .int .i64 cy, .int .i64 cw, .int .i64 ch, .int .i64 aT, .slice A1 l.length c1] 26 (0, 0))) ∧ ae (wr.heap[b6]? = some (.cells #[.int .u8 0, .int .i64 0, .int .i64 0, .int .i64 0, .int .i64 0, .int .i64 0, .slice none 0 0] 26 (0, 0))) ∧ ae (Below w.heap.size w wr))
  case atStart => exact ⟨[], l, rfl, ⟨rfl⟩, Nat.le_refl _, HN, bW, fQ, HB⟩
  case round =>
   clear HN bW fQ HB
   obtain ⟨pre, rest, rfl, HE, hgg, HN, bW, fQ, HB⟩ := hrel
   cases rest with
   | nil =>
    have hpl : pre = l := by have := HE.out; rwa [List.append_nil] at this
    have hlt : ¬ ((pre.length : Int) < (l.length : Int)) := by rw [hpl]; omega
    clear hpl hgg
    have c30 := (af bW.out 0).trans rfl
    have c31 := (af bW.out 1).trans rfl
    have c32 := (af bW.out 2).trans rfl
    have c33 := (af bW.out 3).trans rfl
    have c34 := (af bW.out 4).trans rfl
    have c35 := (af bW.out 5).trans rfl
    have Gi := (af bW.out 6).trans rfl
    go_wp2_with (((with_reducible refine lH (.store 26 (.tmp 2) (.tmp 24)) rfl ?_); go_loud (refine f_ (w0 := w) rfl rfl 26 (.tmp 2) (.tmp 24) rfl (g := b6) (j := 0) (base := w.heap.size) #[.int .u8 ck, .int .i64 cx, .int .i64 cy, .int .i64 cw, .int .i64 ch, .int .i64 aT, .slice A1 l.length c1] (u := .agg #[.int .u8 ck, .int .i64 cx, .int .i64 cy, .int .i64 cw, .int .i64 ch, .int .i64 aT, .slice A1 l.length c1]) (bG := [.int .u8 ck, .int .i64 cx, .int .i64 cy, .int .i64 cw, .int .i64 ch, .int .i64 aT, .slice A1 l.length c1]) ?sA ?sX rfl ?sT ?s1 fQ.out ?sJ rfl HB.out HB.out.size Gb6.out ?_; (case sA => rfl); (case sX => rfl); (case sT => rfl); (case s1 => (simp [Value.oneCell'])); (case sJ => (simp)); intro ahf hbk hbb hgg; have lg := ae.mk (Kd.uK HN.out hgg (fun k_ hk e_ => absurd (Option.some.inj e_) hk.2)); have iy := ae.mk (cO bW.out hgg (fun e_ => absurd (Option.some.inj e_) uB.out)); clear HN bW; have HN := lg; have bW := iy; clear lg iy; clear fQ HB; have fQ := ae.mk hbk; have HB := ae.mk hbb; clear hbk hbb hgg)))
    refine bodyPost_ret (results_cell_row rfl _ _ b6 26 _ (0, 0) _ rfl fQ.out Try.underlying26 rfl (by kernel_rfl)) rfl ?_
    exact ⟨_, rfl, Kd.iM HN.out (fun q hq => hq.1.1), HB.out⟩
   | cons k rest =>
    have hk : k ∈ l := by rw [← HE.out]; simp
    have hlt : (pre.length : Int) < (l.length : Int) := by rw [← HE.out, List.length_append, List.length_cons]; omega
    have hw : wrap64 ((pre.length : Int) + 1) = ((pre ++ [k]).length : Int) := by rw [List.length_append, List.length_singleton]; unfold wrap64; have := HL.out; omega
    obtain ⟨g, cap, he, hgb, V5, _⟩ := Kd.xm HN.out (by omega)
    injection he with ea en ec
    subst ea
    subst ec
    clear en
    have z_ := ae.mk hgb
    obtain ⟨ce, hcl, hM, hcc, hfr⟩ := Kd.xk HN.out z26 (pre.length : Int) (Int.natCast_nonneg _) hlt
    have hrd : l.getD (pre.length : Int).toNat z26 = k := by rw [← HE.out, Int.toNat_natCast]; simp [List.getD_eq_getElem?_getD]
    rw [hrd] at hM
    obtain ⟨ua, uc, rfl, ul, ge⟩ := mY hM
    have HV := ae.mk (show Kd.V k26 26 wr w.heap.size _ (.slice ua k.f3.length uc) k.f3 from Kd.uD ul ge)
    have HRD := ae.mk hrd
    have x0 : wr.cell? ⟨g, pre.length * 7, none⟩ = some (.int .u8 k.f0) := hcc 0 _ rfl
    have x1 : wr.cell? ⟨g, pre.length * 7 + 1, none⟩ = some (.int .i64 k.f1.f0) := hcc 1 _ rfl
    have x2 : wr.cell? ⟨g, pre.length * 7 + 2, none⟩ = some (.int .i64 k.f1.f1) := hcc 2 _ rfl
    have x3 : wr.cell? ⟨g, pre.length * 7 + 3, none⟩ = some (.int .i64 k.f1.f2) := hcc 3 _ rfl
    have x4 : wr.cell? ⟨g, pre.length * 7 + 4, none⟩ = some (.int .i64 k.f1.f3) := hcc 4 _ rfl
    have x5 : wr.cell? ⟨g, pre.length * 7 + 5, none⟩ = some (.int .i64 k.f2) := hcc 5 _ rfl
    have x6 : wr.cell? ⟨g, pre.length * 7 + 6, none⟩ = some (.slice ua k.f3.length uc) := hcc 6 _ rfl
    have HW1 := ae.mk hw
    have HK := ae.mk hk
    have iF := ae.mk hgg
    clear hcl hM hcc hfr hrd ul ge hgb V5 hw hk hgg
    go_upto_region 5 with (first | ((with_reducible refine aC (N := 4) rfl ?_); refine aK ?hg (N := 4) ?hd (cs := #[.int .u8 0, .int .i64 0, .int .i64 0, .int .i64 0, .int .i64 0, .int .i64 0, .slice none 0 0]) (t := 26) ?hr ?_; (case hd => rfl); (case hg => rfl); (case hr => (go_simp; done)); intro b8 hg wb8 hbox hb; have Gb8 := ae.mk (show w.heap.size ≤ b8 by rw [hg]; exact HB.out.size); have ES := ae.mk (show b3 ≠ b8 by rw [hg]; exact Nat.ne_of_lt (fD bW.out)); have ET := ae.mk (show b6 ≠ b8 by rw [hg]; exact Nat.ne_of_lt (fD fQ.out)); have kZ := ae.mk (ak HB.out hb); have lg := ae.mk (Kd.pF (Kd.Bg HN.out b8 (by rw [hg]; exact Nat.le_refl _)) hb); have rX := ae.mk (Kd.ja (Kd.nG HV.out b8 (by rw [hg]; exact Nat.le_refl _)) hb); have iy := ae.mk (aI bW.out hb); have iC := ae.mk (aI fQ.out hb); clear HB HN HV bW fQ; have HB := kZ; have HN := lg; have HV := rX; have bW := iy; have fQ := iC; clear kZ lg rX iy iC; have Kb8 := ae.mk hbox; clear hb hbox hg) | ((with_reducible refine lH (.store 26 (.tmp 4) (.tmp 16)) rfl ?_); go_loud (refine f_ (w0 := w) rfl rfl 26 (.tmp 4) (.tmp 16) rfl (g := b8) (j := 0) (base := w.heap.size) #[.int .u8 k.f0, .int .i64 k.f1.f0, .int .i64 k.f1.f1, .int .i64 k.f1.f2, .int .i64 k.f1.f3, .int .i64 k.f2, .slice ua k.f3.length uc] (u := .agg #[.int .u8 k.f0, .int .i64 k.f1.f0, .int .i64 k.f1.f1, .int .i64 k.f1.f2, .int .i64 k.f1.f3, .int .i64 k.f2, .slice ua k.f3.length uc]) (bG := [.int .u8 k.f0, .int .i64 k.f1.f0, .int .i64 k.f1.f1, .int .i64 k.f1.f2, .int .i64 k.f1.f3, .int .i64 k.f2, .slice ua k.f3.length uc]) ?sA ?sX rfl ?sT ?s1 Kb8.out ?sJ rfl HB.out HB.out.size Gb8.out ?_; (case sA => rfl); (case sX => rfl); (case sT => rfl); (case s1 => (simp [Value.oneCell'])); (case sJ => (simp)); intro Xf hbk hbb hgg; have lg := ae.mk (Kd.uK HN.out hgg (fun k_ hk e_ => absurd (Option.some.inj e_) hk.2)); have rX := ae.mk (Kd.wG HV.out hgg (fun k_ hk e_ => absurd (Option.some.inj e_) hk.2)); have iy := ae.mk (cO bW.out hgg (fun e_ => absurd (Option.some.inj e_) ES.out)); have iC := ae.mk (cO fQ.out hgg (fun e_ => absurd (Option.some.inj e_) ET.out)); clear HN HV bW fQ; have HN := lg; have HV := rX; have bW := iy; have fQ := iC; clear lg rX iy iC; clear Kb8 HB; have Kb8 := ae.mk hbk; have HB := ae.mk hbb; clear hbk hbb hgg)))
    clear x0 x1 x2 x3 x4 x5 x6
    have q_ := ae.mk (tV HB.out)
    clear HB
    have HB := q_
    clear q_
    have q_ := ae.mk (Kd.RD HN.out)
    clear HN
    have HN := q_
    clear q_
    have q_ := ae.mk (Kd.KO HV.out)
    clear HV
    have HV := q_
    clear q_
    have q_ := ae.mk (uF bW.out)
    clear bW
    have bW := q_
    clear q_
    have q_ := ae.mk (uF fQ.out)
    clear fQ
    have fQ := q_
    clear q_
    have q_ := ae.mk (uF Kb8.out)
    clear Kb8
    have Kb8 := q_
    clear q_
    refine iT (n := 7) (S := fun w' => w'.heap[b3]? = some (.cells #[.int .u8 ck, .int .i64 cx, .int .i64 cy, .int .i64 cw, .int .i64 ch, .int .i64 aT, .slice (some ⟨g, 0, none⟩) l.length c1] 26 (0, 0)) ∧ w'.heap[b8]? = some (.cells #[.int .u8 k.f0, .int .i64 k.f1.f0, .int .i64 k.f1.f1, .int .i64 k.f1.f2, .int .i64 k.f1.f3, .int .i64 k.f2, .slice ua k.f3.length uc] 26 (0, 0))) (ds := [6]) #[false, false, false, false, false, false, false] (by kernel_rfl) rfl rfl ⟨bW.out, Kb8.out⟩ (fun hHeld => ?_); refine eP mV.IK mV.D8 (fun aj dW => ?_)
    generalize Xf.drew = wd at HB HN HV bW fQ Kb8 hHeld ⊢
    refine qY (i := 0) (N := some 17) (v := ?_) (a' := ?_) #[true, false, false, false, false, false, false] rfl rfl (oG aj.out (by kernel_rfl)) (fun _ _ _ h => h) (Or.inl ⟨by rfl, ?_⟩) ?_ ?_
    rotate_left
    ·intro w'; go_simp; with_reducible rfl
    rotate_left
    ·simp only [Act.put, List.setIfInBounds_toArray, List.set_cons_zero, List.set_cons_succ, jR, jQ]
     rfl
    refine yJ (i := 1) (N := some 18) (v := ?_) (a' := ?_) #[true, true, false, false, false, false, false] rfl rfl (uG aj.out dW.out (by kernel_rfl)) (fun _ _ _ h => h) (Or.inl ⟨by rfl, ?_⟩) hHeld ?_ ?_
    rotate_left
    ·intro w' hs_
     have c := (af hs_.1 6).trans rfl
     go_simp; with_reducible rfl
    rotate_left
    ·simp only [Act.put, List.setIfInBounds_toArray, List.set_cons_zero, List.set_cons_succ, jR, jQ]
     rfl
    refine qY (i := 2) (N := some 19) (v := ?_) (a' := ?_) #[true, true, true, false, false, false, false] rfl rfl (oG aj.out (by kernel_rfl)) (fun _ _ _ h => h) (Or.inl ⟨by rfl, ?_⟩) ?_ ?_
    rotate_left
    ·intro w'; go_simp; with_reducible rfl
    rotate_left
    ·simp only [Act.put, List.setIfInBounds_toArray, List.set_cons_zero, List.set_cons_succ, jR, jQ]
     rfl
    refine yJ (i := 3) (N := some 20) (v := ?_) (a' := ?_) #[true, true, true, true, false, false, false] rfl rfl (uG aj.out dW.out (by kernel_rfl)) (fun _ _ _ h => h) (Or.inl ⟨by rfl, ?_⟩) hHeld ?_ ?_
    rotate_left
    ·intro w' hs_
     have c0 := (af hs_.2 0).trans rfl
     have c1 := (af hs_.2 1).trans rfl
     have c2 := (af hs_.2 2).trans rfl
     have c3 := (af hs_.2 3).trans rfl
     have c4 := (af hs_.2 4).trans rfl
     have c5 := (af hs_.2 5).trans rfl
     have c6 := (af hs_.2 6).trans rfl
     go_simp; with_reducible rfl
    rotate_left
    ·simp only [Act.put, List.setIfInBounds_toArray, List.set_cons_zero, List.set_cons_succ, jR, jQ]
     rfl
    refine Np (i := 4) (N := some 21) #[true, true, true, true, true, false, false] rfl rfl (xx aj.out (by kernel_rfl)) (by decide) (fun K hK => ?_)
    refine jH Try.func151 (by kernel_rfl) rfl #[.agg #[.int .u8 k.f0, .int .i64 k.f1.f0, .int .i64 k.f1.f1, .int .i64 k.f1.f2, .int .i64 k.f1.f3, .int .i64 k.f2, .slice ua k.f3.length uc]] (by rfl) rfl rfl (by (try simp only [List.map_toArray, List.map_cons, List.map_nil]); rfl) ?_
    refine (IH.out k HK.out _ ua uc wd HV.out).mono ?_
    rintro e wk ⟨v, rfl, ho, hb⟩
    refine ⟨_, rfl, ?_⟩
    have HE3 := ae.mk (fD bW.out)
    have HE6 := ae.mk (fD fQ.out)
    have HE8 := ae.mk (fD Kb8.out)
    have HEG := ae.mk (Kd.EU HN.out g rfl)
    have HS := ae.mk HB.out.size
    have kZ := ae.mk (ak HB.out hb); have lg := ae.mk (Kd.pF HN.out hb); have rX := ae.mk (Kd.ja HV.out hb); have iy := ae.mk (aI bW.out hb); have iC := ae.mk (aI fQ.out hb); have GN := ae.mk (aI Kb8.out hb); clear HB HN HV bW fQ Kb8; have HB := kZ; have HN := lg; have HV := rX; have bW := iy; have fQ := iC; have Kb8 := GN; clear kZ lg rX iy iC GN
    clear HV hb
    obtain ⟨Av, cv, ev⟩ := Kd.jy ho
    subst ev
    have qU := ae.mk ho
    clear ho
    refine hK.out _ _ ⟨bW.out, Kb8.out⟩ (fun hHeld => ?_)
    clear hK K
    refine kM (a' := ?_) ?_ ?_
    rotate_left
    ·show Act.put _ (some 21) _ = _
     simp only [Act.put, List.setIfInBounds_toArray, List.set_cons_zero, List.set_cons_succ, jR, jQ]
     rfl
    refine qY (i := 5) (N := some 22) (v := ?_) (a' := ?_) #[true, true, true, true, true, true, false] rfl rfl (oG aj.out (by kernel_rfl)) (fun _ _ _ h => h) (Or.inl ⟨by rfl, ?_⟩) ?_ ?_
    rotate_left
    ·intro w'; go_simp; with_reducible rfl
    rotate_left
    ·simp only [Act.put, List.setIfInBounds_toArray, List.set_cons_zero, List.set_cons_succ, jR, jQ]
     rfl
    refine QB (i := 6) (N := none) #[true, true, true, true, true, true, true] rfl rfl (xx aj.out (by kernel_rfl)) (by decide) (fun K hK => ?_)
    obtain ⟨ce, hcl, hM, hcc, hfr⟩ := Kd.xk HN.out z26 (pre.length : Int) (Int.natCast_nonneg _) hlt
    rw [HRD.out] at hM
    obtain ⟨ub, ud, rfl, _, _⟩ := mY hM
    have x0 : wk.cell? ⟨g, pre.length * 7, none⟩ = some (.int .u8 k.f0) := hcc 0 _ rfl
    have f0 : wk.frozen? ⟨g, pre.length * 7, none⟩ = false := hfr 0
    have x1 : wk.cell? ⟨g, pre.length * 7 + 1, none⟩ = some (.int .i64 k.f1.f0) := hcc 1 _ rfl
    have f1 : wk.frozen? ⟨g, pre.length * 7 + 1, none⟩ = false := hfr 1
    have x2 : wk.cell? ⟨g, pre.length * 7 + 2, none⟩ = some (.int .i64 k.f1.f1) := hcc 2 _ rfl
    have f2 : wk.frozen? ⟨g, pre.length * 7 + 2, none⟩ = false := hfr 2
    have x3 : wk.cell? ⟨g, pre.length * 7 + 3, none⟩ = some (.int .i64 k.f1.f2) := hcc 3 _ rfl
    have f3 : wk.frozen? ⟨g, pre.length * 7 + 3, none⟩ = false := hfr 3
    have x4 : wk.cell? ⟨g, pre.length * 7 + 4, none⟩ = some (.int .i64 k.f1.f3) := hcc 4 _ rfl
    have f4 : wk.frozen? ⟨g, pre.length * 7 + 4, none⟩ = false := hfr 4
    have x5 : wk.cell? ⟨g, pre.length * 7 + 5, none⟩ = some (.int .i64 k.f2) := hcc 5 _ rfl
    have f5 : wk.frozen? ⟨g, pre.length * 7 + 5, none⟩ = false := hfr 5
    have x6 : wk.cell? ⟨g, pre.length * 7 + 6, none⟩ = some (.slice ub k.f3.length ud) := hcc 6 _ rfl
    have f6 : wk.frozen? ⟨g, pre.length * 7 + 6, none⟩ = false := hfr 6
    have jB : ∀ q, (((fun q => ((P q ∨ w.heap.size ≤ q) ∧ q ≠ b3) ∧ q ≠ b6) q ∧ q ≠ g) ∧ q ≠ b8) ∨ wd.heap.size ≤ q → ((fun q => ((P q ∨ w.heap.size ≤ q) ∧ q ≠ b3) ∧ q ≠ b6) q ∧ q ≠ b8) ∧ q ≠ g := fun q hq => hq.elim (fun h => ⟨⟨h.1.1, h.2⟩, h.1.2⟩) (fun hn => ⟨⟨⟨⟨.inr (Nat.le_trans HS.out hn), Nat.ne_of_gt (Nat.lt_of_lt_of_le HE3.out hn)⟩, Nat.ne_of_gt (Nat.lt_of_lt_of_le HE6.out hn)⟩, Nat.ne_of_gt (Nat.lt_of_lt_of_le HE8.out hn)⟩, Nat.ne_of_gt (Nat.lt_of_lt_of_le HEG.out hn)⟩)
    have Jm := nY wk _ k (A6 := Av) (c6 := cv) (Kd.iO qU.out).2.1 (Kd.Xr qU.out)
    have hseg := Kd.PZ HN.out (pre.length : Int) (Int.natCast_nonneg _) hlt (bG := [.int .u8 k.f0, .int .i64 k.f1.f0, .int .i64 k.f1.f1, .int .i64 k.f1.f2, .int .i64 k.f1.f3, .int .i64 k.f2, .slice Av k.f3.length cv]) (j := 0) hcl hcc (show 0 + 7 ≤ 7 from by decide) (x' := k) Jm jB
    rw [show l.set (pre.length : Int).toNat k = l from by rw [← HE.out, Int.toNat_natCast]; simp] at hseg
    obtain ⟨w9, Dt⟩ : ∃ w9, w9 = wk.setCells g ((pre.length : Int).toNat * 7 + 0) [.int .u8 k.f0, .int .i64 k.f1.f0, .int .i64 k.f1.f1, .int .i64 k.f1.f2, .int .i64 k.f1.f3, .int .i64 k.f2, .slice Av k.f3.length cv] := ⟨_, rfl⟩
    replace hseg : Kd.N k26 26 w9 w.heap.size (fun q => (fun q => ((P q ∨ w.heap.size ≤ q) ∧ q ≠ b3) ∧ q ≠ b6) q ∧ q ≠ b8) (.slice (some ⟨g, 0, none⟩) l.length c1) l ∧ wk.grownBy w9 (some g) := by rw [Dt]; exact hseg
    have Ru := ae.mk (Kd.RF hseg.1)
    have J_ := ae.mk (grown_below HB.out hseg.2 z_.out HB.out.size)
    have xU := ae.mk (cO bW.out hseg.2 (fun e_ => (HN.out.1 g rfl).1.1.2 (Option.some.inj e_).symm))
    have KD := ae.mk (cO fQ.out hseg.2 (fun e_ => (HN.out.1 g rfl).1.2 (Option.some.inj e_).symm))
    clear hseg Jm jB hcl hcc hfr hM HN HB bW fQ Kb8 hHeld qU
    refine GZ (w1 := w9) (by rfl) rfl ?_ ?_
    ·rw [Dt]; go_simp; rfl
    refine hK.out _ _ ?_
    clear hK K x0 x1 x2 x3 x4 x5 x6 f0 f1 f2 f3 f4 f5 f6 Dt
    refine jG (gK aj.out (by kernel_rfl)) ?_
    have hw := HW1.out
    go_wp2
    go_roundg rest.length
    case measure => exact Nat.lt_of_lt_of_le (Nat.lt_succ_self _) iF.out
    case rel => exact ⟨pre ++ [k], rest, (by rw [hw]), ⟨by rw [List.append_assoc]; exact HE.out⟩, Nat.le_refl _, Ru, xU, KD, J_⟩
def mV.f (a0 a1 a2 a3 a4 a5 : Int) (l : List ai) : Option (Int × Int × Int × Int × Int × Int × List ai) := if sz ⟨a0, ⟨a1, a2, a3, a4⟩, a5, l⟩ ≤ 1000000 then some (a0, a1, a2, a3, a4, a5, l) else none
def AtN (w : World) (P : Nat → Prop) : Option ai → Ending → World → Prop
 | none, e, w' => ∃ A2 c2, e = .returned (.tuple #[.agg #[.int .u8 0, .int .i64 0, .int .i64 0, .int .i64 0, .int .i64 0, .int .i64 0, .slice A2 0 c2], .bool false]) ∧ Kd.N k26 26 w' w.heap.size (fun k => P k ∨ w.heap.size ≤ k) (.slice A2 0 c2) [] ∧ Below w.heap.size w w'
 | some z, e, w' => ∃ A2 c2, e = .returned (.tuple #[.agg #[.int .u8 z.f0, .int .i64 z.f1.f0, .int .i64 z.f1.f1, .int .i64 z.f1.f2, .int .i64 z.f1.f3, .int .i64 z.f2, .slice A2 z.f3.length c2], .bool true]) ∧ Kd.N k26 26 w' w.heap.size (fun k => P k ∨ w.heap.size ≤ k) (.slice A2 z.f3.length c2) z.f3 ∧ Below w.heap.size w w'
theorem agA (c : ai) (path : List Int) (r : Option ai) (hr : jE c path = r) (hp : path.length ≤ 1048576) (hc : sz c ≤ 1000000) (b : Nat) (P : Nat → Prop) (A : Option Addr) (cc : Nat) (B : Option Addr) (cb : Nat) (w : World) (hv : Kd.V k26 26 w b P (.slice A c.f3.length cc) c.f3) (hi : Kd.C (Kd.int .i64) w B path.length path) :
  Calls Try.prog 91 #[.agg #[.int .u8 c.f0, .int .i64 c.f1.f0, .int .i64 c.f1.f1, .int .i64 c.f1.f2, .int .i64 c.f1.f3, .int .i64 c.f2, .slice A c.f3.length cc], .slice B path.length cb] w (AtN w P r) := by
 have S := ae.mk (St.start (ts := [(.slice A c.f3.length cc, c.f3)]) (b0 := w.heap.size) (w := w) (P := P) (fun t ht => by rw [List.mem_singleton.1 ht]; exact gQ hv))
 have HI := ae.mk hi
 have jw := ae.mk hp
 have HZ := ae.mk hc
 have HR := ae.mk hr
 clear hi hp hc hr hv
 go_enter Try.func91, Try.ntmps91
 go_wp2_with (first
  | (refine boxS 2 _ 26 S ?_; clear S; intro b2 dQ S)
  | (refine boxS 4 _ 26 S ?_; clear S; intro b4 eU S)
  | fail)
 go_loopg [10] path.length (fun gg v10 wr => ∃ (pre rest : List Int) (z : ai) (Az : Option Addr) (cz : Nat), v10 = .int .i64 (pre.length : Int) ∧ ae (pre ++ rest = path) ∧ ae (jE z rest = r) ∧ ae (sz z ≤ 1000000) ∧ rest.length ≤ gg ∧ ae (St w P [(some b4, .cells #[.int .u8 0, .int .i64 0, .int .i64 0, .int .i64 0, .int .i64 0, .int .i64 0, .slice none 0 0] 26 (0, 0)), (some b2, .cells #[.int .u8 z.f0, .int .i64 z.f1.f0, .int .i64 z.f1.f1, .int .i64 z.f1.f2, .int .i64 z.f1.f3, .int .i64 z.f2, .slice Az z.f3.length cz] 26 (0, 0))] [] [(.slice Az z.f3.length cz, z.f3)] [] wr))
 case atStart => exact ⟨[], path, c, A, cc, rfl, ⟨rfl⟩, HR, HZ, Nat.le_refl _, S⟩
 case round =>
  clear S HR HZ
  obtain ⟨pre, rest, z, Az, cz, rfl, HE, HR, HZ, hgg, S⟩ := hrel
  cases rest with
  | nil =>
   have hr := HR.out
   simp only [jE] at hr
   subst hr
   clear HR
   have hE := HE.out
   rw [List.append_nil] at hE
   have hE2 := hE.symm
   subst hE2
   clear hE HE hgg
   have hlt : ¬ ((path.length : Int) < (path.length : Int)) := by omega
   obtain ⟨oI, vN, vO, vP, vS, su, jr⟩ := St.fA S bz
   go_wp2_with (first
    | (refine iw (some 31) Try.func151 (E8 1000000 z HZ.out (Nat.le_refl _) _ Az cz _ (S.out.tree _ (.head _))) ?_; rintro e gV ⟨v, rfl, h1, hb⟩; refine ⟨_, rfl, ?_⟩; obtain ⟨Ac, cc', ev⟩ := Kd.jy h1; subst ev; replace S := ae.mk (S.out.yj h1 hb); clear h1 hb; clear oI vN vO vP vS su jr)
    | (refine ik 26 4 31 #[.int .u8 z.f0, .int .i64 z.f1.f0, .int .i64 z.f1.f1, .int .i64 z.f1.f2, .int .i64 z.f1.f3, .int .i64 z.f2, .slice Ac z.f3.length cc'] 0 7 S ?_; clear S; intro ji S)
    | fail)
   refine bodyPost_ret (fE rfl _ _ b4 26 _ (0, 0) _ rfl (S.out.blk _ (.head _) _ rfl) Try.underlying26 rfl (by kernel_rfl)) rfl ?_
   exact ⟨_, _, rfl, S.out.yg, S.out.below⟩
  | cons i is =>
   have hlt : (pre.length : Int) < (path.length : Int) := by rw [← HE.out, List.length_append, List.length_cons]; omega
   have ado : pre.length < path.length := by omega
   have hw1 : wrap64 ((pre.length : Int) + 1) = ((pre ++ [i]).length : Int) := by have := jw.out; rw [List.length_append, List.length_singleton]; unfold wrap64; omega
   have HW1 := ae.mk hw1
   have iF := ae.mk hgg
   have Oj := ae.mk hlt
   have hrd : rd path (pre.length : Int) = i := by rw [← HE.out]; simp [rd, List.getD_eq_getElem?_getD]
   obtain ⟨Xx, ek, xi⟩ := Kd.iW (Kd.iq HI.out S.out.below) (pre.length : Int) (Int.natCast_nonneg _) hlt
   subst ek
   have Af := ae.mk (fun (W : World) (h : Below w.heap.size w W) => (show W.cell? (Xx.add pre.length) = some (.int .i64 i) by have h2 := Kd.iW (Kd.iq HI.out h) (pre.length : Int) (Int.natCast_nonneg _) Oj.out; obtain ⟨ad, e1, e2⟩ := h2; injection e1 with e1; subst e1; simp only [Int.toNat_natCast] at e2; rw [e2, hrd]))
   clear hrd xi hgg hw1
   have hr := HR.out
   simp only [jE] at hr
   by_cases h0 : i < 0
   case pos =>
    rw [if_pos (.inl h0)] at hr
    subst hr
    clear HR
    obtain ⟨Jl, wo⟩ := mZ (a := i) (b := 0) (by omega)
    have xi := Af.out _ S.out.below
    go_wp2_with (first
     | (refine ik 26 4 23 #[.int .u8 0, .int .i64 0, .int .i64 0, .int .i64 0, .int .i64 0, .int .i64 0, .slice none 0 0] 0 7 S ?_; clear S; intro dQ S; clear xi)
     | fail)
    refine bodyPost_ret (fE rfl _ _ b4 26 _ (0, 0) _ rfl (S.out.blk _ (.head _) _ rfl) Try.underlying26 rfl (by kernel_rfl)) rfl ?_
    exact ⟨none, 0, rfl, Kd.yB _ _ _ _ _, S.out.below⟩
   by_cases h1 : i ≥ (z.f3.length : Int)
   case pos =>
    rw [if_pos (.inr h1)] at hr
    subst hr
    clear HR
    obtain ⟨Jl, wo⟩ := lY (a := i) (b := 0) (by omega)
    have h1b : decide (i ≥ (z.f3.length : Int)) = true := decide_eq_true h1
    have h1c : decide ((z.f3.length : Int) ≤ i) = true := decide_eq_true h1
    have xi := Af.out _ S.out.below
    have jr := (S.out.at bz 6).trans rfl
    go_wp2_with (first
     | (refine ik 26 4 23 #[.int .u8 0, .int .i64 0, .int .i64 0, .int .i64 0, .int .i64 0, .int .i64 0, .slice none 0 0] 0 7 S ?_; clear S; intro dQ S; clear xi jr)
     | fail)
    refine bodyPost_ret (fE rfl _ _ b4 26 _ (0, 0) _ rfl (S.out.blk _ (.head _) _ rfl) Try.underlying26 rfl (by kernel_rfl)) rfl ?_
    exact ⟨none, 0, rfl, Kd.yB _ _ _ _ _, S.out.below⟩
   rw [if_neg (fun h => h.elim h0 h1)] at hr
   obtain ⟨Jl, wo⟩ := lY (a := i) (b := 0) (by omega)
   have h1b : decide (i ≥ (z.f3.length : Int)) = false := decide_eq_false h1
   have h1c : decide ((z.f3.length : Int) ≤ i) = false := decide_eq_false h1
   have hi0 : 0 ≤ i := by omega
   have hi1 : i < (z.f3.length : Int) := by omega
   obtain ⟨kG, ua, uc, ek, S1⟩ := S.out.elem (.head _) i hi0 hi1
   subst ek
   have hkz : sz (az z.f3 i) ≤ 1000000 := by have h2 := xC (GU z.f3 i hi0 hi1); have h3 := bZ z; have := HZ.out; omega
   obtain ⟨k, hk⟩ : ∃ k, k = az z.f3 i := ⟨_, rfl⟩
   rw [← hk] at S1 hr hkz
   replace S := ae.mk S1
   replace HR := ae.mk hr
   have lK := ae.mk hkz
   clear S1 hk hr hkz
   obtain ⟨iJ, jD, kK, jX, jY, mO, mP⟩ := St.Jh S
   have xi := Af.out _ S.out.below
   have jr := (S.out.at bz 6).trans rfl
   go_wp2_with (first
    | (refine zV 26 2 28 #[.int .u8 k.f0, .int .i64 k.f1.f0, .int .i64 k.f1.f1, .int .i64 k.f1.f2, .int .i64 k.f1.f3, .int .i64 k.f2, .slice ua k.f3.length uc] 0 7 S ?_; clear S; intro dQ S; clear iJ jD kK jX jY mO mP xi jr)
    | fail)
   have hw1 := HW1.out
   go_wp2
   go_roundg is.length
   case measure => exact Nat.lt_of_lt_of_le (Nat.lt_succ_self _) iF.out
   case rel => exact ⟨pre ++ [i], is, k, ua, uc, (by rw [hw1]), ⟨by rw [List.append_assoc]; exact HE.out⟩, HR, lK, Nat.le_refl _, ⟨S.out.bJ.bJ.bJ.bJ.bJ.bJ.bJ.afr (.head _)⟩⟩
section
variable {W : World} {b : Nat} {P : Nat → Prop} {A : Option Addr} {cc cb : Nat}
theorem Hq (c : ai) (path : List Int) (z : ai) (hz : jE c path = some z) (hp : path.length ≤ 1048576) (hc : sz c ≤ 1000000) {B : Option Addr} (hV : Kd.V k26 26 W b P (.slice A c.f3.length cc) c.f3) (hi : Kd.C (Kd.int .i64) W B path.length path) (_ : path.length ≤ cb) :
  Calls Try.prog 91 #[.agg #[.int .u8 c.f0, .int .i64 c.f1.f0, .int .i64 c.f1.f1, .int .i64 c.f1.f2, .int .i64 c.f1.f3, .int .i64 c.f2, .slice A c.f3.length cc], .slice B path.length cb] W fun e w' => ∃ A2 c2, e = .returned (.tuple #[.agg #[.int .u8 z.f0, .int .i64 z.f1.f0, .int .i64 z.f1.f1, .int .i64 z.f1.f2, .int .i64 z.f1.f3, .int .i64 z.f2, .slice A2 z.f3.length c2], .bool true]) ∧ Kd.N k26 26 w' W.heap.size (fun k => P k ∨ W.heap.size ≤ k) (.slice A2 z.f3.length c2) z.f3 ∧ Below W.heap.size W w' := agA c path (some z) hz hp hc b P A cc B cb W hV hi
end
section
variable {W : World} {b b' : Nat} {P P' : Nat → Prop} {A A' : Option Addr} {cc cc' : Nat}
theorem AU (c : ai) (g : Bool) (hg : ∃ k, iE.f k c.f0 c.f1.f0 c.f1.f1 c.f1.f2 c.f1.f3 c.f2 c.f3 = some g) (hV : Kd.V k26 26 W b P (.slice A c.f3.length cc) c.f3) :
  Calls Try.prog 34 #[.agg #[.int .u8 c.f0, .int .i64 c.f1.f0, .int .i64 c.f1.f1, .int .i64 c.f1.f2, .int .i64 c.f1.f3, .int .i64 c.f2, .slice A c.f3.length cc]] W fun e w' => e = .returned (.bool g) ∧ Below W.heap.size W w' := by
 obtain ⟨k, hk⟩ := hg
 have h := Kd.kR hV
 exact iE.calls k _ _ _ _ _ _ A cc c.f3 g W h.2.2 h.2.1 hk
end
section
variable {Pr : Program} {ops : Array Oper} {rest : List Oper} {op : Oper} {a : Act} {Q : Exit → Act → World → Prop} {w W : World} {P : Nat → Prop} {bs : List (Option Nat × Obj)} {ts : List (Value × List ai)} {ro : List (Addr × Value)}
end
theorem G6 {l : List ai} {k : ai} (h : k ∈ l) : sz k ≤ dN l := by
 obtain ⟨p, q, e⟩ := List.append_of_mem h
 rw [e, ou, bU]
 omega
theorem DI {a b : dw} : qx a b = true ↔ a.f0 = b.f0 ∧ a.f1 = b.f1 ∧ a.f2 = b.f2 ∧ a.f3 = b.f3 := by
 unfold qx
 simp
theorem NV (ax X Y W H : Int) (hax : ax = 1 ∨ ax = 2) : ∀ (kids : List ai) (ns : List Int) (off : Int), kids.length = ns.length → rM (fun k r => qx k.f1 r) kids (x_ ax X Y W H off ns) = true → ∀ x, x ∈ kids → aV (3 - ax) x.f1 = tX ax H W := by
 intro kids
 induction kids with
 | nil => intro _ _ _ _ x hx; cases hx
 | cons k ks ih =>
  intro ns off hl he x hx
  cases ns with
  | nil => simp at hl
  | cons n ns =>
   simp only [x_, rM, Bool.and_eq_true] at he
   rcases List.mem_cons.1 hx with rfl | hx
   ·obtain ⟨_, _, h2, h3⟩ := DI.1 he.1
    simp only [] at h2 h3
    rcases hax with rfl | rfl
    ·unfold aV tX at *
     simp at h3 ⊢
     exact h3
    ·unfold aV tX at *
     simp at h2 ⊢
     exact h2
   ·exact ih ns (off + n + 1) (by simpa using hl) he.2 x hx
theorem BJ {c : ai} (h1 : mD c = true) (hk : c.f0 = 2 ∨ c.f0 = 3) (hl : c.f3.length ≤ 20000) :
  (c.f3.map (fun k => aV (c.f0 - 1) k.f1)).sum + (c.f3.length : Int) - 1 = aV (c.f0 - 1) c.f1 ∧ ∀ x, x ∈ c.f3 → aV (3 - (c.f0 - 1)) x.f1 = aV (3 - (c.f0 - 1)) c.f1 := by
 unfold mD BM at h1
 rw [show (c.f0 == 1) = false from by simp; omega, Bool.false_or] at h1
 simp only [Bool.and_eq_true] at h1
 obtain ⟨ht, hlen, hE⟩ := h1
 obtain ⟨hax, gp, gs, _⟩ := CU ht
 have e1 : yx c.f0 = c.f0 - 1 := by unfold yx; omega
 rw [e1] at hax gp gs
 have e2 : jh c = c.f3.map (fun k => aV (c.f0 - 1) k.f1) := by
  unfold jh
  apply List.map_congr_left
  intro k _
  unfold szK qi aV
  rcases hk with h | h
  ·rw [if_pos h, if_pos (by omega)]
  ·rw [if_neg (by omega), if_neg (by omega), if_pos (by omega)]
 have e3 : ∀ r : dw, tX (c.f0 - 1) r.f2 r.f3 = aV (c.f0 - 1) r ∧ tX (c.f0 - 1) r.f3 r.f2 = aV (3 - (c.f0 - 1)) r := by
  intro r
  rcases hk with h | h <;> simp [tX, aV, h]
 refine ⟨?_, fun x hx => ?_⟩
 ·rw [← e2, ← (e3 c.f1).1, ← gs]
  simp [jh]
 ·rw [gp] at hE
  rw [← (e3 c.f1).2]
  exact NV (c.f0 - 1) _ _ _ _ hax c.f3 (jh c) 0 (by simp [jh]) hE x hx
theorem sN {c : ai} (h : mf c = true) : jW c.f1 = true := by
 unfold mf at h
 simp only [Bool.and_eq_true] at h
 exact h.1.1.1
theorem ng {r : dw} (h : jW r = true) {ax : Int} (hax : ax = 1 ∨ ax = 2) : 1 ≤ aV ax r ∧ aV ax r ≤ 10000 := by
 have := uS.1 h
 unfold aV
 rcases hax with rfl | rfl
 ·rw [if_pos rfl]; omega
 ·rw [if_neg (by omega), if_pos rfl]; omega
theorem zW {c x : ai} (h : kJ c = true) (hx : x ∈ c.f3) : kJ x = true := by
 rw [rZ, Bool.and_eq_true] at h
 exact List.all_eq_true.1 h.2 x hx
theorem Um (ax m : Int) (a b : List ai) : lJ ax m (a ++ b) = lJ ax (lJ ax m a) b := by
 induction a generalizing m with
 | nil => rw [List.nil_append, qh]
 | cons x xs ih => rw [List.cons_append, kF, kF, ih]
theorem Wu {ax u : Int} : ∀ {l : List ai} {m : Int}, m ≤ u → (∀ x, x ∈ l → dH ax x ≤ u) → lJ ax m l ≤ u := by
 intro l
 induction l with
 | nil => intro m h _; rw [qh]; exact h
 | cons x xs ih =>
  intro m h hx
  rw [kF]
  exact ih (XR h (hx x (by simp))) (fun y hy => hx y (by simp [hy]))
theorem Nl {ax : Int} : ∀ {l : List ai} {m : Int}, m ≤ lJ ax m l := by
 intro l
 induction l with
 | nil => intro m; rw [qh]; exact Int.le_refl _
 | cons x xs ih =>
  intro m
  rw [kF]
  exact Int.le_trans (Ue m (dH ax x)) ih
theorem aaz {ax : Int} : ∀ {l : List ai}, (∀ x, x ∈ l → dH ax x ≤ aV ax x.f1) → l9 ax l ≤ (l.map (fun k => aV ax k.f1)).sum := by
 intro l
 induction l with
 | nil => intro _; rw [rY]; exact Int.le_refl _
 | cons x xs ih =>
  intro hx
  rw [oV, List.map_cons, List.sum_cons]
  have h1 := hx x (by simp)
  have h2 := ih (fun y hy => hx y (by simp [hy]))
  omega
theorem BK {ax : Int} (hax : ax = 1 ∨ ax = 2) : ∀ (N : Nat) (c : ai), sz c ≤ N → N ≤ 20000 → (fP c).all mf = true → 1 ≤ dH ax c ∧ (kJ c = true → dH ax c ≤ aV ax c.f1) := by
 intro N
 induction N with
 | zero => intro c h; rw [bZ] at h; omega
 | succ N ih =>
  intro c hc hN hok
  have hs := bZ c
  have hlen := jJ c.f3
  have hk : ∀ x, x ∈ c.f3 → 1 ≤ dH ax x ∧ (kJ x = true → dH ax x ≤ aV ax x.f1) := fun x hx => by
   refine ih x ?_ (by omega) (Pg hok hx)
   have := G6 hx
   omega
  rw [qf]
  rcases y9 (nZ hok) with ⟨h1, h2⟩ | ⟨h1, h2⟩
  ·rw [if_pos h1]
   exact ⟨Int.le_refl _, fun _ => (ng (sN (nZ hok)) hax).1⟩
  ·rw [if_neg (by omega)]
   have hsum : ∀ l : List ai, (∀ x, x ∈ l → 1 ≤ dH ax x) → (l.length : Int) ≤ l9 ax l := by
    intro l
    induction l with
    | nil => intro _; rw [rY]; simp
    | cons x xs ihl =>
     intro h
     have a1 := h x (by simp)
     have a2 := ihl (fun y hy => h y (by simp [hy]))
     rw [oV, List.length_cons]
     omega
   have adl := fun (ht : kJ c = true) => BJ (c := c) (by rw [rZ, Bool.and_eq_true] at ht; exact ht.1) h1 (by omega)
   cases ha : fM ax c.f0 with
   | true =>
    have e : c.f0 - 1 = ax := by
     unfold fM at ha
     simp at ha
     omega
    simp only [if_true]
    refine ⟨by have := hsum c.f3 (fun x hx => (hk x hx).1); omega, fun ht => ?_⟩
    obtain ⟨g1, _⟩ := adl ht
    rw [e] at g1
    have := aaz (ax := ax) (l := c.f3) (fun x hx => (hk x hx).2 (zW ht hx))
    omega
   | false =>
    have e : 3 - (c.f0 - 1) = ax := by
     unfold fM at ha
     simp at ha
     omega
    simp only [Bool.false_eq_true, if_false]
    refine ⟨?_, fun ht => ?_⟩
    ·cases hl : c.f3 with
     | nil => rw [hl] at h2; simp at h2
     | cons x xs =>
      have := (hk x (by rw [hl]; simp)).1
      rw [kF]
      exact Int.le_trans this (Int.le_trans (Uf 0 _) Nl)
    ·obtain ⟨_, g2⟩ := adl ht
     rw [e] at g2
     have := ng (sN (nZ hok)) hax
     exact Wu (by omega) (fun x hx => by
      have := (hk x hx).2 (zW ht hx)
      rw [g2 x hx] at this
      exact this)
section
variable {W : World} {b : Nat} {P : Nat → Prop} {A : Option Addr} {cc : Nat}
theorem sQ (c : ai) (hz : sz c ≤ 1048576) (h1 : Kd.C k26 W A 1 [c]) (h2 : 1 ≤ cc) : Calls Try.prog 148 #[.slice A 1 cc] W fun e w' => e = .returned (.bool (dB c)) ∧ Below W.heap.size W w' := by
 have h := NK [c] (fun x hx => by rw [List.mem_singleton.1 hx]; exact hz) A cc W h1 h2
 simpa using h
theorem ny {c : ai} {v : Bool} {f : FuncId} {args : Array Value} (h : dB c = v) (hc : Calls Try.prog f args W fun e w' => e = .returned (.bool (dB c)) ∧ Below W.heap.size W w') : Calls Try.prog f args W fun e w' => e = .returned (.bool v) ∧ Below W.heap.size W w' := by
 rw [h] at hc
 exact hc
theorem ad4 (r : dw) (ax : Int) : Calls Try.prog 98 #[.agg #[.int .i64 r.f0, .int .i64 r.f1, .int .i64 r.f2, .int .i64 r.f3], .int .u8 ax] W fun e w' => e = .returned (.int .i64 (aV ax r)) ∧ Below W.heap.size W w' :=
 oN.calls r.f0 r.f1 r.f2 r.f3 ax _ W (JC r ax)
end
section
variable {Pr : Program} {ops : Array Oper} {rest : List Oper} {op : Oper} {a : Act} {Q : Exit → Act → World → Prop} {w W : World} {P P' : Nat → Prop} {bs : List (Option Nat × Obj)} {ow : List (Value × List ai)} {ts : List (Value × List ai)} {ro : List (Addr × Value)}
theorem sK {N : Tmp} (hd : op.dst = some N) (hgd : op.guard = none) (x : ai) {A : Option Addr} {c b : Nat} (S : St w P bs ow ts ro W) (hV : Kd.V k26 26 W b P' (.slice A x.f3.length c) x.f3)
  (hrun : (execOp a.eval op).run Pr W = .ok (.value (.slice (some ⟨W.heap.size, 0, none⟩) 1 1)) (W.alloc (.cells (kT x A c).toArray 26)))
  (h : ∀ A1 c1 w1, St w P bs ow ts ro w1 → 1 ≤ c1 → Kd.C k26 w1 A1 1 [x] → wpList Pr ops Q rest (a.put op.dst (.slice A1 1 c1)) w1) : wpList Pr ops Q (op :: rest) a W := by
 obtain ⟨_, hl, hF⟩ := Kd.Bj hV
 refine Kd.yA k26 (w0 := W) W.heap.size 26 hgd hd (xs := [x]) (inner := kT x A c) (ok := fun _ => True) (fB := P') hrun (bQ.c7 (nY W P' x hl hF) (bQ.none _ _)) (fun _ _ => trivial) trivial (Below.refl _ _) (Nat.le_refl _) (by simp) ?_
 intro v1 w1 hN _ hg _
 obtain ⟨A1, c1, rfl⟩ := Kd.jy hN
 exact h A1 c1 w1 (S.call (pO hg)) (Kd.iO hN).2.1 (Kd.iO hN).2.2
end
abbrev aeJ (w : World) (P : Nat → Prop) (z : ai) (n : Int) (e : Ending) (w' : World) : Prop := ∃ A c, e = .returned (.tuple #[.agg #[.int .u8 z.f0, .int .i64 z.f1.f0, .int .i64 z.f1.f1, .int .i64 z.f1.f2, .int .i64 z.f1.f3, .int .i64 z.f2, .slice A z.f3.length c], .int .i64 n]) ∧ Kd.N k26 26 w' w.heap.size (fun k => P k ∨ w.heap.size ≤ k) (.slice A z.f3.length c) z.f3 ∧ Below w.heap.size w w'
noncomputable def xX (ax : Int) (c : ai) : Bool := !dB c || (ax != 1 && ax != 2)
noncomputable def xY (ax : Int) (c : ai) (b : Int) : Bool := decide (b < wrap64 (-(aU ax c))) || decide (b > wrap64 (10000 - aV ax ⟨0, 0, wrap64 (c.f1.f0 + c.f1.f2), wrap64 (c.f1.f1 + c.f1.f3)⟩))
noncomputable def aN (ax : Int) (c : ai) (b : Int) : Int := if xX ax c = true then 1 else if xY ax c b = true then 7 else 0
noncomputable def aZ (ax : Int) (c : ai) (b : Int) : ai := if xX ax c = true then z26 else if xY ax c b = true then z26 else b_ (fK ax c b) c.f1.f0 c.f1.f1
theorem agz {ax : Int} {c : ai} {b : Int} (h1 : xX ax c = false) (h2 : xY ax c b = false) : dB c = true ∧ (ax = 1 ∨ ax = 2) ∧ sz c ≤ 20000 ∧ -10000 ≤ b ∧ b ≤ 10000 ∧ -(aU ax c) ≤ b ∧ aU ax c = aV ax c.f1 - dH ax c ∧ aV ax c.f1 + b ≤ 10000 := by
 unfold xX at h1
 simp only [Bool.or_eq_false_iff, Bool.not_eq_false', Bool.and_eq_false_iff, bne_eq_false_iff_eq] at h1
 obtain ⟨ht, hax⟩ := h1
 have hm := lG ht
 have hs := m_ hm
 have hB : kJ c = true := by
  unfold dB at ht
  simp only [Bool.and_eq_true] at ht
  exact ht.2
 have f := (BK hax (sz c) c (Nat.le_refl _) hs (pV hm)).2 hB
 have f1 := (BK hax (sz c) c (Nat.le_refl _) hs (pV hm)).1
 have hr := sN (nZ (pV hm))
 have r := ng hr hax
 have hg : aU ax c = aV ax c.f1 - dH ax c := by
  unfold aU
  rw [if_pos ⟨hax, ht⟩]
  unfold wrap64
  omega
 unfold xY at h2
 simp only [Bool.or_eq_false_iff, decide_eq_false_iff_not] at h2
 have hw1 : wrap64 (-(aU ax c)) = -(aU ax c) := by rw [hg]; unfold wrap64; omega
 have hq : 0 ≤ c.f1.f0 ∧ 0 ≤ c.f1.f1 ∧ c.f1.f0 + c.f1.f2 ≤ 10000 ∧ c.f1.f1 + c.f1.f3 ≤ 10000 ∧ 1 ≤ c.f1.f2 ∧ 1 ≤ c.f1.f3 := by
  unfold jW o7 at hr
  simp only [Bool.and_eq_true, decide_eq_true_eq] at hr
  omega
 have he : aV ax ⟨0, 0, wrap64 (c.f1.f0 + c.f1.f2), wrap64 (c.f1.f1 + c.f1.f3)⟩ = (if ax = 1 then c.f1.f0 else c.f1.f1) + aV ax c.f1 := by
  unfold aV
  rcases hax with rfl | rfl
  ·simp only [if_true]; unfold wrap64; omega
  ·simp only [show ¬ ((2 : Int) = 1) by decide, if_false, if_true]; unfold wrap64; omega
 rw [hw1, he] at h2
 have hw2 : wrap64 (10000 - ((if ax = 1 then c.f1.f0 else c.f1.f1) + aV ax c.f1)) = 10000 - ((if ax = 1 then c.f1.f0 else c.f1.f1) + aV ax c.f1) := by unfold wrap64; split <;> omega
 rw [hw2] at h2
 refine ⟨ht, hax, hs, ?_, ?_, ?_, hg, ?_⟩ <;> (split at h2 <;> omega)
def xE.T6 : Bool × List (List Nat × List Nat) := (true, [([], []), ([0], [0]), ([], []), ([1, 2], [1, 2]), ([3], [3]), ([], []), ([], []), ([6], [6]), ([4, 5, 7], [4, 5, 7]), ([8], [8]), ([9], [9]), ([9], [9]), ([], []), ([12, 10, 8, 0, 1, 2, 3, 4, 5, 6, 7, 8, 9, 10, 12], [10, 12]), ([11, 13, 0, 1, 2, 3, 4, 5, 6, 7, 8, 9, 10, 11, 12, 13], [11])])
def xE.B6 : List Nat := [0, 1, 0, 7, 15, 0, 0, 64, 255, 511, 1023, 1023, 0, 6143, 16383]
theorem xE.tab6 : iD .any (opsOf Try.f102 6) = xE.T6 := by kernel_rfl
theorem xE.Gf : iG xE.T6.2 xE.B6 = true := by kernel_rfl
def rV (kid : ai) : List Int → ai → Option ai
 | [], _ => some kid
 | i :: is, c => if i < 0 ∨ i ≥ (c.f3.length : Int) then none else match rV kid is (az c.f3 i) with
  | none => none
  | some k => some ⟨c.f0, c.f1, c.f2, c.f3.set i.toNat k⟩
abbrev Vd (w : World) (P : Nat → Prop) : Option ai → Ending → World → Prop
 | none, e, w' => e = .returned (.tuple #[.agg #[.int .u8 0, .int .i64 0, .int .i64 0, .int .i64 0, .int .i64 0, .int .i64 0, .slice none 0 0], .bool false]) ∧ Below w.heap.size w w'
 | some z, e, w' => ∃ A c, e = .returned (.tuple #[.agg #[.int .u8 z.f0, .int .i64 z.f1.f0, .int .i64 z.f1.f1, .int .i64 z.f1.f2, .int .i64 z.f1.f3, .int .i64 z.f2, .slice A z.f3.length c], .bool true]) ∧ Kd.N k26 26 w' w.heap.size (fun k => P k ∨ w.heap.size ≤ k) (.slice A z.f3.length c) z.f3 ∧ Below w.heap.size w w'
def ad8.T5 : Bool × List (List Nat × List Nat) := (true, [([], []), ([0], [0]), ([], []), ([2], [2]), ([3], [3]), ([1, 4], [1, 4]), ([5], [5]), ([], []), ([], []), ([8], [8]), ([6, 7, 9], [6, 7, 9]), ([10], [10]), ([11], [11]), ([11], [11]), ([], []), ([14, 12, 10, 0, 1, 2, 3, 4, 5, 6, 7, 8, 9, 10, 11, 12, 14], [12, 14]), ([13, 15, 0, 1, 2, 3, 4, 5, 6, 7, 8, 9, 10, 11, 12, 13, 14, 15], [13])])
def ad8.B5 : List Nat := [0, 1, 0, 4, 12, 31, 63, 0, 0, 256, 1023, 2047, 4095, 4095, 0, 24575, 65535]
def ad9.T9 : Bool × List (List Nat × List Nat) := (true, [([], []), ([], []), ([1], [1]), ([2], [2]), ([], []), ([0, 3, 0, 1, 2, 3, 4], [0, 3]), ([5, 4, 0, 1, 2, 3, 4], [4, 5])])
def ad9.B9 : List Nat := [0, 0, 2, 6, 0, 31, 63]
theorem adV {l : List ai} {i : Int} (h0 : 0 ≤ i) (h1 : i < (l.length : Int)) (k : ai) : az (l.set i.toNat k) i = k := by
 unfold az
 rw [List.getD_eq_getElem?_getD, List.getElem?_set_self (by omega)]
 rfl
theorem adR (kid : ai) : ∀ (path : List Int) (c x : ai), rV kid path c = some x → jE x path = some kid := by
 intro path
 induction path with
 | nil => intro c x h; simp only [rV] at h; rw [← Option.some.inj h]; rfl
 | cons i is ih =>
  intro c x h
  simp only [rV] at h
  split at h
  ·cases h
  ·rename_i hi
   cases hp : rV kid is (az c.f3 i) with
   | none => rw [hp] at h; cases h
   | some k =>
    rw [hp] at h
    have h := Option.some.inj h
    subst h
    simp only [jE, List.length_set]
    rw [if_neg hi, adV (by omega) (by omega)]
    exact ih _ _ hp
theorem QX : ∀ (l : List ai) (n : Nat) (k : ai) (m : Nat), n < l.length → sz k ≤ sz (l.getD n z26) + m → dN (l.set n k) ≤ dN l + m := by
 intro l
 induction l with
 | nil => intro n k m h; simp at h
 | cons x xs ih =>
  intro n k m h hk
  cases n with
  | zero => rw [List.set_cons_zero, bU, bU]; simp only [List.getD_cons_zero] at hk; omega
  | succ n => rw [List.set_cons_succ, bU, bU]; have := ih n k m (by simpa using h) (by simpa using hk); omega
theorem WM (kid : ai) : ∀ (path : List Int) (c x : ai), rV kid path c = some x → sz x ≤ sz c + sz kid := by
 intro path
 induction path with
 | nil => intro c x h; simp only [rV] at h; rw [← Option.some.inj h]; omega
 | cons i is ih =>
  intro c x h
  simp only [rV] at h
  split at h
  ·cases h
  ·rename_i hi
   cases hp : rV kid is (az c.f3 i) with
   | none => rw [hp] at h; cases h
   | some k =>
    rw [hp] at h
    have h := Option.some.inj h
    subst h
    have h1 := ih _ _ hp
    have h2 := QX c.f3 i.toNat k (sz kid) (by omega) h1
    rw [bZ, bZ c]
    show 1 + dN (c.f3.set i.toNat k) ≤ _
    omega
section
variable {Pr : Program} {ops : Array Oper} {rest : List Oper} {op : Oper} {a : Act} {Q : Exit → Act → World → Prop} {w W : World} {P : Nat → Prop} {bs : List (Option Nat × Obj)} {ow : List (Value × List ai)} {ts : List (Value × List ai)} {ro : List (Addr × Value)}
theorem Wp (N : Tmp) (y : Int) (S : ae (St w P bs ow ts ro W)) (h : ∀ A c o w1, ae (St w P (((Value.slice A [y].length c).ownBlock, o) :: bs) ow ts ro w1) → ae (KR (Kd.int .i64) 3 w.heap.size (.slice A [y].length c) [y] o) → wpList Pr ops Q rest (a.put op.dst (.slice A [y].length c)) w1)
  (hd : op.dst = some N := by rfl) (hgd : op.guard = none := by rfl) (hrun : (execOp a.eval op).run Pr W = .ok (.value (.slice (some ⟨W.heap.size, 0, none⟩) 1 1)) (W.alloc (.cells #[.int .i64 y] 3)) := by first | (go_simp; done) | (go_simp; rfl)) : wpList Pr ops Q (op :: rest) a W :=
 Kd.vw (Kd.int .i64) (w0 := W) W.heap.size 3 hgd hd (xs := [y]) (inner := [.int .i64 y]) (ok := fun _ => True) (fB := fun _ => True) hrun (bQ.one (show Kd.M (Kd.int .i64) _ _ _ y [.int .i64 y] from rfl) (bQ.none _ _)) (fun _ hk => hk) trivial (Below.refl _ _) (Nat.le_refl _) (by simp) (fun v1 w1 hR hb hg _ => by
  obtain ⟨A, c, rfl⟩ := Kd.fU hR
  obtain ⟨o, S1, HI⟩ := S.out.FM (d := Kd.int .i64) (e := 3) rfl hR (pO hg)
  exact h A c o w1 ⟨S1⟩ ⟨HI⟩)
end
abbrev yC (W : World) (p : List Int) (t : Bool) (e : Ending) (w' : World) : Prop := ∃ A c, e = .returned (.tuple #[.slice A p.length c, .bool t]) ∧ (Kd.int .i64).R 3 w' W.heap.size (fun _ => True) (.slice A p.length c) p ∧ Below W.heap.size W w'
theorem SI {id : Int} {k : ai} {r : Option (List Int)} {args : Array Value} {W : World} (h : gm id k = r) (hc : Calls Try.prog 90 args W (yC W ((gm id k).getD []) (gm id k).isSome)) : Calls Try.prog 90 args W (yC W (r.getD []) r.isSome) := by
 rw [h] at hc
 exact hc
theorem aau (id : Int) : ∀ (N : Nat) (c : ai), sz c ≤ N → N ≤ 1000000 → ∀ (b : Nat) (P : Nat → Prop) (A : Option Addr) (cc : Nat) (w : World), Kd.V k26 26 w b P (.slice A c.f3.length cc) c.f3 →
  Calls Try.prog 90 #[.agg #[.int .u8 c.f0, .int .i64 c.f1.f0, .int .i64 c.f1.f1, .int .i64 c.f1.f2, .int .i64 c.f1.f3, .int .i64 c.f2, .slice A c.f3.length cc], .int .i64 id] w (yC w ((gm id c).getD []) (gm id c).isSome) := by
 intro N
 induction N with
 | zero => intro c h; rw [bZ] at h; omega
 | succ N ih =>
  intro c hc hN b P A cc w hv
  have hsz := bZ c
  have hlen := jJ c.f3
  have S := ae.mk (St.start (ts := [(.slice A c.f3.length cc, c.f3)]) (b0 := w.heap.size) (w := w) (P := P) (fun t ht => by rw [List.mem_singleton.1 ht]; exact gQ hv))
  have jw := ae.mk (show c.f3.length ≤ 1000000 by omega)
  have IH := ae.mk fun (k : ai) (hk : k ∈ c.f3) A cc w {b P} h => ih k (by have := xC hk; omega) (by omega) b P A cc w h
  have HQS := ae.mk fun (k : ai) (hk : k ∈ c.f3) q (h : gm id k = some q) => (show q.length ≤ 1000000 by have := (yU id (sz k)).1 k (Nat.le_refl _) q h; have := xC hk; omega)
  rw [BC]
  obtain ⟨ck, ⟨cx, cy, cw, ch⟩, aT, l⟩ := c
  simp only [] at S jw IH HQS ⊢
  clear ih hc hN hv hsz hlen
  by_cases hq : ck = 1 ∧ aT = id
  case pos =>
   rw [if_pos hq]
   obtain ⟨h1, h2⟩ := hq
   obtain ⟨h1a, h1b, h1d⟩ := yT (a := ck) (b := 1) (by omega)
   obtain ⟨h2a, h2b, h2d⟩ := yT (a := aT) (b := id) (by omega)
   clear h1 h2
   go_enter Try.func90, Try.ntmps90
   go_wp2_with (first
    | (refine boxS 2 _ 26 S ?_; clear S; intro b2 dQ S; have oI := (S.out.at (.head _) 0).trans rfl; have su := (S.out.at (.head _) 5).trans rfl)
    | (refine gX 18 rfl ?_; refine lT (Kd.int .i64) 3 rfl 18 S ?_; clear S; intro An cn on eU S yu; clear oI su)
    | fail)
   go_ret2
   exact ⟨_, _, rfl, S.out.FB yu.out (.head _), S.out.below⟩
  rw [if_neg hq]
  have hw : ((ck == 1) = true ∧ decide (ck = 1) = true ∧ (aT == id) = false ∧ decide (aT = id) = false) ∨ ((ck == 1) = false ∧ decide (ck = 1) = false) := by
   by_cases h1 : ck = 1
   ·exact .inl ⟨beq_iff_eq.mpr h1, decide_eq_true h1, beq_eq_false_iff_ne.mpr (fun h => hq ⟨h1, h⟩), decide_eq_false (fun h => hq ⟨h1, h⟩)⟩
   ·exact .inr ⟨beq_eq_false_iff_ne.mpr h1, decide_eq_false h1⟩
  obtain ⟨R, hR⟩ : ∃ R, R = oK id 0 l := ⟨_, rfl⟩
  rw [← hR]
  have HR := ae.mk hR.symm
  clear hq hR
  rcases hw with ⟨ha, hb, hc, hd⟩ | ⟨ha, hb⟩
  all_goals
   go_enter Try.func90, Try.ntmps90
   go_wp2_with (first
    | (refine boxS 2 _ 26 S ?_; clear S; intro b2 dQ S; have oI := (S.out.at (.head _) 0).trans rfl; have su := (S.out.at (.head _) 5).trans rfl; have jr := (S.out.at (.head _) 6).trans rfl)
    | fail)
   clear oI su jr
   go_loopg [22] l.length (fun gg v22 wr => ∃ (pre rest : List ai), v22 = .int .i64 (pre.length : Int) ∧ ae (pre ++ rest = l) ∧ ae (oK id pre.length rest = R) ∧ rest.length ≤ gg ∧ ae (St w P [(some b2, .cells #[.int .u8 ck, .int .i64 cx, .int .i64 cy, .int .i64 cw, .int .i64 ch, .int .i64 aT, .slice A l.length cc] 26 (0, 0))] [] [(.slice A l.length cc, l)] [] wr))
   case atStart => exact ⟨[], l, rfl, ⟨rfl⟩, HR, Nat.le_refl _, S⟩
   case round =>
    clear S HR
    obtain ⟨pre, rest, rfl, HE, HR, hgg, S⟩ := hrel
    cases rest with
    | nil =>
     have hr := HR.out
     rw [rO] at hr
     replace HR := ae.mk hr.symm
     clear hr
     have hE := HE.out
     rw [List.append_nil] at hE
     have hE2 := hE.symm
     subst hE2
     clear hE HE hgg
     have hlt : ¬ ((l.length : Int) < (l.length : Int)) := by omega
     go_wp2_with (first
      | (refine gX 41 rfl ?_; refine lT (Kd.int .i64) 3 rfl 41 S ?_; clear S; intro An cn on eU S yu)
      | fail)
     go_ret2
     rw [HR.out]
     exact ⟨_, _, rfl, S.out.FB yu.out (.head _), S.out.below⟩
    | cons k rest =>
     have hk : k ∈ l := by rw [← HE.out]; simp
     have hlt : (pre.length : Int) < (l.length : Int) := by rw [← HE.out, List.length_append, List.length_cons]; omega
     have hw1 : wrap64 ((pre.length : Int) + 1) = ((pre ++ [k]).length : Int) := by have := jw.out; rw [List.length_append, List.length_singleton]; unfold wrap64; omega
     have HW1 := ae.mk hw1
     have iF := ae.mk hgg
     have HK := ae.mk hk
     have Et := ae.mk (show pre.length ≤ 1048576 by have := jw.out; omega)
     obtain ⟨kG, ua, uc, ek, S1⟩ := S.out.elem (.head _) (pre.length : Int) (Int.natCast_nonneg _) hlt
     subst ek
     have hrd : az l (pre.length : Int) = k := by rw [← HE.out]; exact lU pre k rest
     rw [hrd] at S1
     simp only [Int.toNat_natCast] at S1
     replace S := ae.mk S1
     clear S1 hrd hk hgg hw1
     cases hf : gm id k with
     | none =>
      have HF := ae.mk hf
      have hr := HR.out
      rw [oL, hf] at hr
      replace HR := ae.mk (show oK id (pre ++ [k]).length rest = R by rw [List.length_append]; exact hr)
      clear hf hr
      obtain ⟨iJ, jD, kK, jX, jY, mO, mP⟩ := St.Jh S
      have jr := (S.out.at (.head _) 6).trans rfl
      go_wp2_with (first
       | (refine iw (some 32) Try.func90 (SI HF.out (IH.out k HK.out ua uc _ (S.out.tree _ (.head _)))) ?_; rintro e dQ ⟨Aq, cq, rfl, h1, hb⟩; refine ⟨_, rfl, ?_⟩; obtain ⟨oq, S1, hI⟩ := S.out.FM (d := Kd.int .i64) (e := 3) rfl h1 hb; replace S := ae.mk S1; have l_ := ae.mk hI; clear S1 hI h1 hb; clear iJ jD kK jX jY mO mP jr)
       | fail)
      have hw1 := HW1.out
      go_wp2
      go_roundg rest.length
      case measure => exact Nat.lt_of_lt_of_le (Nat.lt_succ_self _) iF.out
      case rel => exact ⟨pre ++ [k], rest, (by rw [hw1]), ⟨by rw [List.append_assoc]; exact HE.out⟩, HR, Nat.le_refl _, ⟨S.out.dA.dG.bJ.bJ.bJ.bJ.bJ.bJ.bJ⟩⟩
     | some q =>
      have HF := ae.mk hf
      have HQL := ae.mk (HQS.out k HK.out q hf)
      have hr := HR.out
      rw [oL, hf] at hr
      replace HR := ae.mk (show R = some ((pre.length : Int) :: q) from hr.symm)
      clear hf hr
      obtain ⟨iJ, jD, kK, jX, jY, mO, mP⟩ := St.Jh S
      have jr := (S.out.at (.head _) 6).trans rfl
      go_wp2_with (first
       | (refine iw (some 32) Try.func90 (SI HF.out (IH.out k HK.out ua uc _ (S.out.tree _ (.head _)))) ?_; rintro e dQ ⟨Aq, cq, rfl, h1, hb⟩; refine ⟨_, rfl, ?_⟩; obtain ⟨oq, S1, hI⟩ := S.out.FM (d := Kd.int .i64) (e := 3) rfl h1 hb; replace S := ae.mk S1; have l_ := ae.mk hI; clear S1 hI h1 hb; clear iJ jD kK jX jY mO mP jr)
       | (refine gX 37 rfl ?_; refine Wp 37 (pre.length : Int) S ?_; clear S; intro An cn on eU S yu)
       | (refine gX 39 rfl ?_; at_builtin; refine Le (Kd.int .i64) 3 rfl 37 38 41 (.int .i64 0) 8 Try.underlying41 info3 rfl (by decide) (by decide) (by decide) S yu q (Va l_.out S.out bz).1 (fun _ _ _ _ _ h => h) (by have := HQL.out; simp only [List.length_cons, List.length_nil]; omega) ?_; clear S yu; intro An2 cn2 on2 gV S yu)
       | fail)
      go_ret2
      rw [HR.out]
      exact ⟨_, _, rfl, S.out.FB yu.out (.head _), S.out.below⟩
def afx.T3 : Bool × List (List Nat × List Nat) := (true, [([], []), ([0], [0]), ([1], [1]), ([2], [2]), ([3], [3]), ([4], [4]), ([5, 4], [4, 5]), ([6, 4], [4, 6]), ([4], [4]), ([8, 4], [4, 8]), ([9, 4], [4, 9]), ([7, 10, 4], [4, 7, 10]), ([4, 11], [4, 11])])
def afx.B3 : List Nat := [0, 1, 3, 7, 15, 31, 63, 127, 31, 287, 799, 2047, 4095]
def xe.T5 : Bool × List (List Nat × List Nat) := (true, [([], []), ([0], [0]), ([], []), ([2], [2]), ([3], [3]), ([1, 4], [1, 4]), ([5], [5]), ([], []), ([7], [7]), ([6, 8], [6, 8]), ([9], [9]), ([9], [9]), ([10, 9, 0, 1, 2, 3, 4, 5, 6, 7, 8, 9, 10, 11], [10]), ([11, 12, 0, 1, 2, 3, 4, 5, 6, 7, 8, 9, 10, 11, 12], [11])])
def xe.B5 : List Nat := [0, 1, 0, 4, 12, 31, 63, 0, 128, 511, 1023, 1023, 4095, 8191]
theorem xe.IK : iD .any (opsOf Try.f92 5) = xe.T5 := by kernel_rfl
theorem xe.D8 : iG xe.T5.2 xe.B5 = true := by kernel_rfl
def AtV (w : World) (P : Nat → Prop) : Option ai → Ending → World → Prop
 | none, e, w' => ∃ A2 c2, e = .returned (.tuple #[.agg #[.int .u8 0, .int .i64 0, .int .i64 0, .int .i64 0, .int .i64 0, .int .i64 0, .slice A2 ([] : List ai).length c2], .bool false]) ∧ Kd.V k26 26 w' w.heap.size (fun k => P k ∨ w.heap.size ≤ k) (.slice A2 ([] : List ai).length c2) ([] : List ai) ∧ Below w.heap.size w w'
 | some z, e, w' => ∃ A2 c2, e = .returned (.tuple #[.agg #[.int .u8 z.f0, .int .i64 z.f1.f0, .int .i64 z.f1.f1, .int .i64 z.f1.f2, .int .i64 z.f1.f3, .int .i64 z.f2, .slice A2 z.f3.length c2], .bool true]) ∧ Kd.V k26 26 w' w.heap.size (fun k => P k ∨ w.heap.size ≤ k) (.slice A2 z.f3.length c2) z.f3 ∧ Below w.heap.size w w'
theorem agB : ∀ (is : List Int) (c : ai) (P : Nat → Prop) (A : Option Addr) (cc : Nat) (B : Option Addr) (cb : Nat) (w : World), Kd.V k26 26 w w.heap.size P (.slice A c.f3.length cc) c.f3 → Kd.C (Kd.int .i64) w B is.length is → is.length ≤ cb →
  Calls Try.prog 92 #[.agg #[.int .u8 c.f0, .int .i64 c.f1.f0, .int .i64 c.f1.f1, .int .i64 c.f1.f2, .int .i64 c.f1.f3, .int .i64 c.f2, .slice A c.f3.length cc], .slice B is.length cb] w (AtV w P (jE c is)) := by
 intro is
 induction is with
 | nil =>
  intro c P A cc B cb w hv hi hb
  show Calls Try.prog 92 #[.agg #[.int .u8 c.f0, .int .i64 c.f1.f0, .int .i64 c.f1.f1, .int .i64 c.f1.f2, .int .i64 c.f1.f3, .int .i64 c.f2, .slice A c.f3.length cc], .slice B 0 cb] w (AtV w P (some c))
  have S := ae.mk (St.start (ts := [(.slice A c.f3.length cc, c.f3)]) (b0 := w.heap.size) (w := w) (P := P) (fun t ht => by rw [List.mem_singleton.1 ht]; exact hv))
  clear hv hi hb
  obtain ⟨ck, ⟨cx, cy, cw, ch⟩, aT, l⟩ := c
  simp only [] at S ⊢
  go_enter Try.func92, Try.ntmps92
  go_wp2_with (first | (refine boxS 2 _ 26 S ?_; clear S; intro b2 dQ S) | (refine boxS 4 _ 26 S ?_; clear S; intro b4 eU S; obtain ⟨oI, vN, vO, vP, vS, su, jr⟩ := St.fA S bz) | (refine ik 26 4 9 #[.int .u8 ck, .int .i64 cx, .int .i64 cy, .int .i64 cw, .int .i64 ch, .int .i64 aT, .slice A l.length cc] 0 7 S ?_; clear S; intro gV S; clear oI vN vO vP vS su jr))
  refine bodyPost_ret (fE rfl _ _ b4 26 _ (0, 0) _ rfl (S.out.blk _ (.head _) _ rfl) Try.underlying26 rfl (by kernel_rfl)) rfl ?_
  exact ⟨_, _, rfl, S.out.Wy (.head _), S.out.below⟩
 | cons i is ih =>
  intro c P A cc B cb w hv hi hb
  have IH := ae.mk ih
  have HI := ae.mk hi
  have LI := ae.mk hb
  have S := ae.mk (St.start (ts := [(.slice A c.f3.length cc, c.f3)]) (b0 := w.heap.size) (w := w) (P := P) (fun t ht => by rw [List.mem_singleton.1 ht]; exact hv))
  obtain ⟨Eu, rfl, xi⟩ := Kd.iW hi 0 (by omega) (by simp)
  rw [show ((0 : Int)).toNat = 0 from rfl, Addr.add_zero'] at xi
  have xi : w.cell? Eu = some (.int .i64 i) := xi
  replace S := ae.mk (S.out.yL xi)
  have hlen0 : (0 : Int) < ((is.length : Int) + 1) := by omega
  have hl0 : ((is.length + 1 : Nat) : Int) = (is.length : Int) + 1 := by omega
  clear ih hv hi hb xi
  simp only [jE]
  obtain ⟨ck, ⟨cx, cy, cw, ch⟩, aT, l⟩ := c
  simp only [] at S ⊢
  simp only [List.length_cons] at HI LI ⊢
  by_cases h0 : i < 0
  ·rw [if_pos (.inl h0)]
   have wo : decide (i < 0) = true := decide_eq_true h0
   go_enter Try.func92, Try.ntmps92
   go_wp2_with (first | (refine boxS 2 _ 26 S ?_; clear S; intro b2 dQ S) | (refine boxS 4 _ 26 S ?_; clear S; intro b4 eU S; have iJ := (S.out.cell _ (.head _)).1))
   go_quiet (fail)
   clear iJ
   replace S := ae.mk (S.out.call (eH (Below.refl _ _) nq))
   generalize eU.drewN nq = U2 at S ⊢
   go_wp2_with ((refine ik 26 4 23 #[.int .u8 0, .int .i64 0, .int .i64 0, .int .i64 0, .int .i64 0, .int .i64 0, .slice none 0 0] 0 7 S ?_; clear S; intro ji S))
   refine bodyPost_ret (fE rfl _ _ b4 26 _ (0, 0) _ rfl (S.out.blk _ (.head _) _ rfl) Try.underlying26 rfl (by kernel_rfl)) rfl ?_
   exact ⟨_, _, rfl, Kd.JU _ _ _ _ _, S.out.below⟩
  ·by_cases h1 : i ≥ (l.length : Int)
   ·rw [if_pos (.inr h1)]
    have wo : decide (i < 0) = false := decide_eq_false h0
    have h1b : decide (i ≥ (l.length : Int)) = true := decide_eq_true h1
    have h1c : decide ((l.length : Int) ≤ i) = true := decide_eq_true h1
    go_enter Try.func92, Try.ntmps92
    go_wp2_with (first | (refine boxS 2 _ 26 S ?_; clear S; intro b2 dQ S) | (refine boxS 4 _ 26 S ?_; clear S; intro b4 eU S; have iJ := (S.out.cell _ (.head _)).1; have jr := (S.out.at bz 6).trans rfl))
    go_quiet (fail)
    clear iJ jr
    replace S := ae.mk (S.out.call (eH (Below.refl _ _) nq))
    generalize eU.drewN nq = U2 at S ⊢
    go_wp2_with ((refine ik 26 4 23 #[.int .u8 0, .int .i64 0, .int .i64 0, .int .i64 0, .int .i64 0, .int .i64 0, .slice none 0 0] 0 7 S ?_; clear S; intro ji S))
    refine bodyPost_ret (fE rfl _ _ b4 26 _ (0, 0) _ rfl (S.out.blk _ (.head _) _ rfl) Try.underlying26 rfl (by kernel_rfl)) rfl ?_
    exact ⟨_, _, rfl, Kd.JU _ _ _ _ _, S.out.below⟩
   ·rw [if_neg (fun h => h.elim h0 h1)]
    have wo : decide (i < 0) = false := decide_eq_false h0
    have h1b : decide (i ≥ (l.length : Int)) = false := decide_eq_false h1
    have h1c : decide ((l.length : Int) ≤ i) = false := decide_eq_false h1
    have h0z : 0 ≤ i := by omega
    have h1z : i < (l.length : Int) := by omega
    obtain ⟨kG, ua, uc, ek, S1⟩ := S.out.elem (.head _) i h0z h1z
    subst ek
    replace S := ae.mk S1
    clear S1
    generalize az l i = k at S ⊢
    obtain ⟨i0, hi0, _, hsz, _⟩ := info_parts info3
    have hcut := LX (P := Try.prog) 41 3 .i64 Try.underlying41 hi0 1 hsz (some Eu) (is.length + 1) cb 1 (by omega) (by omega)
    have hdrop := Kd.Rj HI.out (m := 1) (by rw [List.length_cons]; omega) LI.out
    obtain ⟨A2, hA2⟩ : ∃ A2, A2 = (if cb = (1 : Int).toNat then (some Eu) else ((some Eu) : Option Addr).map (·.add ((1 : Int).toNat * 1))) := ⟨_, rfl⟩
    obtain ⟨c2, hc2⟩ : ∃ c2, c2 = cb - (1 : Int).toNat := ⟨_, rfl⟩
    rw [← hA2, ← hc2, show is.length + 1 - (1 : Int).toNat = is.length by simp] at hcut
    have HI2 := ae.mk (show Kd.C (Kd.int .i64) w A2 is.length is by rw [hA2]; exact hdrop)
    have LI2 := ae.mk (show is.length ≤ c2 by have h3 := LI.out; rw [hc2]; simp; omega)
    have PT := ae.mk hcut
    clear hdrop hA2 hc2 hi0 hsz hcut h0 h1
    have Jf := fun Q W h1 h2 => IH.out k Q ua uc A2 c2 W h1 h2 LI2.out
    cases hp : jE k is with
    | none =>
     simp only [hp] at Jf ⊢
     have hcut := PT.out
     go_enter Try.func92, Try.ntmps92
     go_wp2_with (first | (refine boxS 2 _ 26 S ?_; clear S; intro b2 dQ S) | (refine boxS 4 _ 26 S ?_; clear S; intro b4 eU S; have JF := (S.out.cell _ O6).1; have jr := (S.out.at bz 6).trans rfl))
     go_quiet (fail)
     clear JF jr
     replace S := ae.mk (S.out.call (eH (Below.refl _ _) nq))
     generalize eU.drewN nq = U2 at S ⊢
     go_wp2
     refine iT (n := 14) (S := fun w' => St w _ _ _ _ _ w') (ds := [12]) (bA 14 0) (by kernel_rfl) rfl rfl (S.out.call (bg (Below.refl _ _))) (fun hHeld => ?_); refine eP xe.IK xe.D8 (fun aj dW => ?_)
     replace S := ae.mk (S.out.call (bg (Below.refl _ _)))
     generalize U2.drew = wd4 at S hHeld ⊢
     refine au 0 24 (bA 14 1) aj ?_
     refine dO 1 25 (bA 14 3) aj dW hHeld ?_ (hv := by intro w' hs_; have jr := (hs_.at bz 6).trans rfl; go_simp; with_reducible rfl)
     refine au 2 26 (bA 14 7) aj ?_
     refine au 3 27 (bA 14 15) aj ?_
     refine dO 4 28 (bA 14 31) aj dW hHeld ?_ (hv := by intro w' hs_; have JF := (hs_.cell _ O6).1; go_simp; with_reducible rfl)
     refine au 5 29 (bA 14 63) aj ?_
     refine dO 6 30 (bA 14 127) aj dW hHeld ?_ (hv := by intro w' hs_; have iJ := (hs_.cell _ (.head _)).1; have jD := (hs_.cell _ bz).1; have kK := (hs_.cell _ dR).1; have jX := (hs_.cell _ kX).1; have jY := (hs_.cell _ qg).1; have mO := (hs_.cell _ AZ).1; have mP := (hs_.cell _ Cf).1; go_simp; with_reducible rfl)
     refine au 7 31 (bA 14 255) aj ?_
     refine au 8 32 (bA 14 511) aj ?_
     refine jf 9 (some 33) (bA 14 1023) aj (fun K hK => ?_)
     refine jH Try.func92 (by kernel_rfl) rfl #[.agg #[.int .u8 k.f0, .int .i64 k.f1.f0, .int .i64 k.f1.f1, .int .i64 k.f1.f2, .int .i64 k.f1.f3, .int .i64 k.f2, .slice ua k.f3.length uc], .slice A2 is.length c2] (by rfl) rfl rfl (by (try simp only [List.map_toArray, List.map_cons, List.map_nil]); rfl) ?_
     refine (Jf _ _ (gQ (S.out.tree _ (.head _))) (Kd.iq HI2.out S.out.below)).mono ?_
     rintro e mg ⟨EK, E_, rfl, h1, hb⟩
     refine ⟨_, rfl, ?_⟩
     replace S := ae.mk (S.out.res h1 hb)
     clear h1 hb
     refine hK.out _ _ S.out.dG (fun hHeld => ?_)
     clear hK K
     refine dK 33 ?_
     refine au 10 34 (bA 14 2047) aj ?_
     refine au 11 35 (bA 14 4095) aj ?_
     refine nT 12 none (bA 14 8191) aj (fun K hK => ?_)
     refine n_ 0 rfl 26 (.tmp 4) (.tmp 34) rfl #[.int .u8 0, .int .i64 0, .int .i64 0, .int .i64 0, .int .i64 0, .int .i64 0, .slice EK (([] : List ai).length) E_] (j := 0) (u := .agg #[.int .u8 0, .int .i64 0, .int .i64 0, .int .i64 0, .int .i64 0, .int .i64 0, .slice EK (([] : List ai).length) E_]) (bG := [.int .u8 0, .int .i64 0, .int .i64 0, .int .i64 0, .int .i64 0, .int .i64 0, .slice EK (([] : List ai).length) E_]) S.out (by rfl) rfl rfl rfl rfl (by kernel_rfl) (by simp [Value.oneCell']) (by simp) rfl ?_
     intro zQ S1
     simp only [List.set_cons_zero, List.set_cons_succ] at S1
     replace S := ae.mk S1
     clear S1
     refine hK.out _ _ ?_
     clear hK K
     refine au 13 5 (bA 14 16383) aj ?_
     refine jG (gK aj.out (by kernel_rfl)) ?_
     clear hHeld
     go_wp2
     refine bodyPost_ret (fE rfl _ _ b4 26 _ (0, 0) _ rfl (S.out.blk _ (.head _) _ rfl) Try.underlying26 rfl (by kernel_rfl)) rfl ?_
     exact ⟨_, _, rfl, S.out.Wy (.head _), S.out.below⟩
    | some z =>
     simp only [hp] at Jf ⊢
     have hcut := PT.out
     go_enter Try.func92, Try.ntmps92
     go_wp2_with (first | (refine boxS 2 _ 26 S ?_; clear S; intro b2 dQ S) | (refine boxS 4 _ 26 S ?_; clear S; intro b4 eU S; have JF := (S.out.cell _ O6).1; have jr := (S.out.at bz 6).trans rfl))
     go_quiet (fail)
     clear JF jr
     replace S := ae.mk (S.out.call (eH (Below.refl _ _) nq))
     generalize eU.drewN nq = U2 at S ⊢
     go_wp2
     refine iT (n := 14) (S := fun w' => St w _ _ _ _ _ w') (ds := [12]) (bA 14 0) (by kernel_rfl) rfl rfl (S.out.call (bg (Below.refl _ _))) (fun hHeld => ?_); refine eP xe.IK xe.D8 (fun aj dW => ?_)
     replace S := ae.mk (S.out.call (bg (Below.refl _ _)))
     generalize U2.drew = wd4 at S hHeld ⊢
     refine au 0 24 (bA 14 1) aj ?_
     refine dO 1 25 (bA 14 3) aj dW hHeld ?_ (hv := by intro w' hs_; have jr := (hs_.at bz 6).trans rfl; go_simp; with_reducible rfl)
     refine au 2 26 (bA 14 7) aj ?_
     refine au 3 27 (bA 14 15) aj ?_
     refine dO 4 28 (bA 14 31) aj dW hHeld ?_ (hv := by intro w' hs_; have JF := (hs_.cell _ O6).1; go_simp; with_reducible rfl)
     refine au 5 29 (bA 14 63) aj ?_
     refine dO 6 30 (bA 14 127) aj dW hHeld ?_ (hv := by intro w' hs_; have iJ := (hs_.cell _ (.head _)).1; have jD := (hs_.cell _ bz).1; have kK := (hs_.cell _ dR).1; have jX := (hs_.cell _ kX).1; have jY := (hs_.cell _ qg).1; have mO := (hs_.cell _ AZ).1; have mP := (hs_.cell _ Cf).1; go_simp; with_reducible rfl)
     refine au 7 31 (bA 14 255) aj ?_
     refine au 8 32 (bA 14 511) aj ?_
     refine jf 9 (some 33) (bA 14 1023) aj (fun K hK => ?_)
     refine jH Try.func92 (by kernel_rfl) rfl #[.agg #[.int .u8 k.f0, .int .i64 k.f1.f0, .int .i64 k.f1.f1, .int .i64 k.f1.f2, .int .i64 k.f1.f3, .int .i64 k.f2, .slice ua k.f3.length uc], .slice A2 is.length c2] (by rfl) rfl rfl (by (try simp only [List.map_toArray, List.map_cons, List.map_nil]); rfl) ?_
     refine (Jf _ _ (gQ (S.out.tree _ (.head _))) (Kd.iq HI2.out S.out.below)).mono ?_
     rintro e mg ⟨EK, E_, rfl, h1, hb⟩
     refine ⟨_, rfl, ?_⟩
     replace S := ae.mk (S.out.res h1 hb)
     clear h1 hb
     refine hK.out _ _ S.out.dG (fun hHeld => ?_)
     clear hK K
     refine dK 33 ?_
     refine au 10 34 (bA 14 2047) aj ?_
     refine au 11 35 (bA 14 4095) aj ?_
     refine nT 12 none (bA 14 8191) aj (fun K hK => ?_)
     refine n_ 0 rfl 26 (.tmp 4) (.tmp 34) rfl #[.int .u8 z.f0, .int .i64 z.f1.f0, .int .i64 z.f1.f1, .int .i64 z.f1.f2, .int .i64 z.f1.f3, .int .i64 z.f2, .slice EK z.f3.length E_] (j := 0) (u := .agg #[.int .u8 z.f0, .int .i64 z.f1.f0, .int .i64 z.f1.f1, .int .i64 z.f1.f2, .int .i64 z.f1.f3, .int .i64 z.f2, .slice EK z.f3.length E_]) (bG := [.int .u8 z.f0, .int .i64 z.f1.f0, .int .i64 z.f1.f1, .int .i64 z.f1.f2, .int .i64 z.f1.f3, .int .i64 z.f2, .slice EK z.f3.length E_]) S.out (by rfl) rfl rfl rfl rfl (by kernel_rfl) (by simp [Value.oneCell']) (by simp) rfl ?_
     intro zQ S1
     simp only [List.set_cons_zero, List.set_cons_succ] at S1
     replace S := ae.mk S1
     clear S1
     refine hK.out _ _ ?_
     clear hK K
     refine au 13 5 (bA 14 16383) aj ?_
     refine jG (gK aj.out (by kernel_rfl)) ?_
     clear hHeld
     go_wp2
     refine bodyPost_ret (fE rfl _ _ b4 26 _ (0, 0) _ rfl (S.out.blk _ (.head _) _ rfl) Try.underlying26 rfl (by kernel_rfl)) rfl ?_
     exact ⟨_, _, rfl, S.out.Wy (.head _), S.out.below⟩
section
variable {W : World} {b : Nat} {P : Nat → Prop} {A B : Option Addr} {cc cb : Nat}
theorem wY (c : ai) (path : List Int) (z : ai) (hz : jE c path = some z) (hV : Kd.V k26 26 W b P (.slice A c.f3.length cc) c.f3) (hi : Kd.C (Kd.int .i64) W B path.length path) (hb : path.length ≤ cb) :
  Calls Try.prog 92 #[.agg #[.int .u8 c.f0, .int .i64 c.f1.f0, .int .i64 c.f1.f1, .int .i64 c.f1.f2, .int .i64 c.f1.f3, .int .i64 c.f2, .slice A c.f3.length cc], .slice B path.length cb] W fun e w' => ∃ A2 c2, e = .returned (.tuple #[.agg #[.int .u8 z.f0, .int .i64 z.f1.f0, .int .i64 z.f1.f1, .int .i64 z.f1.f2, .int .i64 z.f1.f3, .int .i64 z.f2, .slice A2 z.f3.length c2], .bool true]) ∧ Kd.V k26 26 w' W.heap.size (fun k => P k ∨ W.heap.size ≤ k) (.slice A2 z.f3.length c2) z.f3 ∧ Below W.heap.size W w' := by
 have h := agB path c P A cc B cb W (gQ hV) hi hb
 rw [hz] at h
 exact h
end
theorem aap : ∀ (is : List Int) (c kid : ai) (P : Nat → Prop) (A : Option Addr) (cc : Nat) (Ak : Option Addr) (AA : Nat) (B : Option Addr) (cb : Nat) (w : World), sz c ≤ 1000000 → sz kid ≤ 1000000 →
  Kd.V k26 26 w w.heap.size P (.slice A c.f3.length cc) c.f3 → Kd.V k26 26 w w.heap.size P (.slice Ak kid.f3.length AA) kid.f3 → Kd.C (Kd.int .i64) w B is.length is → is.length ≤ cb → rV kid is c ≠ none →
  Calls Try.prog 102 #[.agg #[.int .u8 c.f0, .int .i64 c.f1.f0, .int .i64 c.f1.f1, .int .i64 c.f1.f2, .int .i64 c.f1.f3, .int .i64 c.f2, .slice A c.f3.length cc], .agg #[.int .u8 kid.f0, .int .i64 kid.f1.f0, .int .i64 kid.f1.f1, .int .i64 kid.f1.f2, .int .i64 kid.f1.f3, .int .i64 kid.f2, .slice Ak kid.f3.length AA], .slice B is.length cb] w (Vd w P (rV kid is c)) := by
 intro is
 induction is with
 | nil =>
  intro c kid P A cc Ak AA B cb w hz TZ hv hvk hi hb _
  show Calls Try.prog 102 #[.agg #[.int .u8 c.f0, .int .i64 c.f1.f0, .int .i64 c.f1.f1, .int .i64 c.f1.f2, .int .i64 c.f1.f3, .int .i64 c.f2, .slice A c.f3.length cc], .agg #[.int .u8 kid.f0, .int .i64 kid.f1.f0, .int .i64 kid.f1.f1, .int .i64 kid.f1.f2, .int .i64 kid.f1.f3, .int .i64 kid.f2, .slice Ak kid.f3.length AA], .slice B 0 cb] w (Vd w P (some kid))
  have S := ae.mk (St.start (ts := [(.slice A c.f3.length cc, c.f3), (.slice Ak kid.f3.length AA, kid.f3)]) (b0 := w.heap.size) (w := w) (P := P) (fun t ht => by
   rcases List.mem_cons.1 ht with rfl | ht
   ·exact hv
   ·rw [List.mem_singleton.1 ht]; exact hvk))
  have HZ := ae.mk hz
  have HZK := ae.mk TZ
  clear hz TZ hv hvk hi hb
  obtain ⟨ck, ⟨cx, cy, cw, ch⟩, aT, l⟩ := c
  obtain ⟨kk, ⟨kx, ky, kw, kh⟩, kid, m⟩ := kid
  simp only [] at S ⊢
  go_enter Try.func102, Try.ntmps102
  go_wp2_with (first
   | (refine boxS 3 _ 26 S ?_; clear S; intro b3 dQ S)
   | (refine boxS 4 _ 26 S ?_; clear S; intro b4 eU S)
   | (refine boxS 6 _ 26 S ?_; clear S; intro b6 gV S; obtain ⟨fF, d_, ed, fG, fH, fJ, eY⟩ := St.fA S bz)
   | (refine iw (some 15) Try.func151 (E8 1000000 ⟨kk, ⟨kx, ky, kw, kh⟩, kid, m⟩ HZK.out (Nat.le_refl _) _ Ak AA _ (S.out.tree _ bz)) ?_; rintro e ji ⟨v, rfl, h1, hb⟩; refine ⟨_, rfl, ?_⟩; obtain ⟨agt, agG, ev⟩ := Kd.jy h1; subst ev; replace S := ae.mk (S.out.yj h1 hb); clear h1 hb; clear fF d_ ed fG fH fJ eY)
   | (refine ik 26 6 15 #[.int .u8 kk, .int .i64 kx, .int .i64 ky, .int .i64 kw, .int .i64 kh, .int .i64 kid, .slice agt m.length agG] 0 7 S ?_; clear S; intro mg S)
   | fail)
  refine bodyPost_ret (fE rfl _ _ b6 26 _ (0, 0) _ rfl (S.out.blk _ (.head _) _ rfl) Try.underlying26 rfl (by kernel_rfl)) rfl ?_
  exact ⟨_, _, rfl, S.out.yg, S.out.below⟩
 | cons i is ih =>
  intro c kid P A cc Ak AA B cb w hz TZ hv hvk hi hb hne
  have IH := ae.mk ih
  have HI := ae.mk hi
  have LI := ae.mk hb
  have S := ae.mk (St.start (ts := [(.slice A c.f3.length cc, c.f3), (.slice Ak kid.f3.length AA, kid.f3)]) (b0 := w.heap.size) (w := w) (P := P) (fun t ht => by
   rcases List.mem_cons.1 ht with rfl | ht
   ·exact hv
   ·rw [List.mem_singleton.1 ht]; exact hvk))
  obtain ⟨Eu, rfl, xi⟩ := Kd.iW hi 0 (by omega) (by simp)
  rw [show ((0 : Int)).toNat = 0 from rfl, Addr.add_zero'] at xi
  have xi : w.cell? Eu = some (.int .i64 i) := xi
  replace S := ae.mk (S.out.yL xi)
  have hlen0 : (0 : Int) < ((is.length : Int) + 1) := by omega
  have hl0 : ((is.length + 1 : Nat) : Int) = (is.length : Int) + 1 := by omega
  have HZ := ae.mk hz
  have HZK := ae.mk TZ
  have CJ := ae.mk hne
  clear ih hv hvk hi hb hne xi hz TZ
  simp only [rV] at CJ ⊢
  obtain ⟨ck, ⟨cx, cy, cw, ch⟩, aT, l⟩ := c
  obtain ⟨kk, ⟨kx, ky, kw, kh⟩, kid, m⟩ := kid
  simp only [] at S CJ ⊢
  simp only [List.length_cons] at HI LI ⊢
  have h0 : ¬ i < 0 := fun h => CJ.out (if_pos (.inl h))
  by_cases h1 : i ≥ (l.length : Int)
  ·exact absurd (if_pos (.inr h1)) CJ.out
  ·rw [if_neg (fun h => h.elim h0 h1)]
   have hne := CJ.out
   rw [if_neg (fun h => h.elim h0 h1)] at hne
   have wo : decide (i < 0) = false := decide_eq_false h0
   have h1b : decide (i ≥ (l.length : Int)) = false := decide_eq_false h1
   have h1c : decide ((l.length : Int) ≤ i) = false := decide_eq_false h1
   have h0z : 0 ≤ i := by omega
   have h1z : i < (l.length : Int) := by omega
   obtain ⟨kG, ua, uc, ek, S1⟩ := S.out.elem (.head _) i h0z h1z
   subst ek
   replace S := ae.mk S1
   have lK := ae.mk (show sz (az l i) ≤ 1000000 by have := xC (GU l i h0z h1z); have := HZ.out; rw [bZ] at this; simp only [] at this; omega)
   clear S1
   generalize az l i = k at S lK hne ⊢
   obtain ⟨i0, hi0, _, hsz, _⟩ := info_parts info3
   have hcut := LX (P := Try.prog) 41 3 .i64 Try.underlying41 hi0 1 hsz (some Eu) (is.length + 1) cb 1 (by omega) (by omega)
   have hdrop := Kd.Rj HI.out (m := 1) (by rw [List.length_cons]; omega) LI.out
   obtain ⟨A2, hA2⟩ : ∃ A2, A2 = (if cb = (1 : Int).toNat then (some Eu) else ((some Eu) : Option Addr).map (·.add ((1 : Int).toNat * 1))) := ⟨_, rfl⟩
   obtain ⟨c2, hc2⟩ : ∃ c2, c2 = cb - (1 : Int).toNat := ⟨_, rfl⟩
   rw [← hA2, ← hc2, show is.length + 1 - (1 : Int).toNat = is.length by simp] at hcut
   have HI2 := ae.mk (show Kd.C (Kd.int .i64) w A2 is.length is by rw [hA2]; exact hdrop)
   have LI2 := ae.mk (show is.length ≤ c2 by have h3 := LI.out; rw [hc2]; simp; omega)
   have PT := ae.mk hcut
   clear hdrop hA2 hc2 hi0 hsz hcut h0 h1
   have H0Z := ae.mk h0z
   have H1Z := ae.mk h1z
   cases hp : rV ⟨kk, ⟨kx, ky, kw, kh⟩, kid, m⟩ is k with
   | none => rw [hp] at hne; exact absurd rfl hne
   | some z =>
    have Jf := fun Q W h1 h2 h3 => IH.out k ⟨kk, ⟨kx, ky, kw, kh⟩, kid, m⟩ Q ua uc Ak AA A2 c2 W lK.out HZK.out h1 h2 h3 LI2.out (by rw [hp]; simp)
    simp only [hp] at Jf ⊢
    clear hne
    have hcut := PT.out
    go_enter Try.func102, Try.ntmps102
    go_wp2_with (first
     | (refine boxS 3 _ 26 S ?_; clear S; intro b3 dQ S)
     | (refine boxS 4 _ 26 S ?_; clear S; intro b4 eU S)
     | (refine boxS 6 _ 26 S ?_; clear S; intro b6 gV S; have JF := (S.out.cell _ O6).1; have bY := (S.out.at dR 6).trans rfl)
     | fail)
    clear JF bY
    refine iT (n := 15) (S := fun w' => St w _ _ _ _ _ w') (ds := [13]) (bA 15 0) (by kernel_rfl) rfl rfl (S.out.call (bg (Below.refl _ _))) (fun hHeld => ?_); refine eP xE.tab6 xE.Gf (fun aj dW => ?_)
    replace S := ae.mk (S.out.call (bg (Below.refl _ _)))
    generalize gV.drew = wd4 at S hHeld ⊢
    refine au 0 30 (bA 15 1) aj ?_
    refine dO 1 31 (bA 15 3) aj dW hHeld ?_ (hv := by intro w' hs_; have bY := (hs_.at dR 6).trans rfl; go_simp; with_reducible rfl)
    refine au 2 32 (bA 15 7) aj ?_
    refine au 3 33 (bA 15 15) aj ?_
    refine dO 4 34 (bA 15 31) aj dW hHeld ?_ (hv := by intro w' hs_; have iJ := (hs_.cell _ (.head _)).1; have jD := (hs_.cell _ bz).1; have kK := (hs_.cell _ dR).1; have jX := (hs_.cell _ kX).1; have jY := (hs_.cell _ qg).1; have mO := (hs_.cell _ AZ).1; have mP := (hs_.cell _ Cf).1; go_simp; with_reducible rfl)
    refine dO 5 35 (bA 15 63) aj dW hHeld ?_ (hv := by intro w' hs_; have fF := (hs_.at bz 0).trans rfl; have d_ := (hs_.at bz 1).trans rfl; have ed := (hs_.at bz 2).trans rfl; have fG := (hs_.at bz 3).trans rfl; have fH := (hs_.at bz 4).trans rfl; have fJ := (hs_.at bz 5).trans rfl; have eY := (hs_.at bz 6).trans rfl; go_simp; with_reducible rfl)
    refine au 6 36 (bA 15 127) aj ?_
    refine au 7 37 (bA 15 255) aj ?_
    refine yG (σ := Option Addr × Nat × Nat) 2 (bA 15 8191) (fun s_ => [(38, .tuple #[.agg #[.int .u8 z.f0, .int .i64 z.f1.f0, .int .i64 z.f1.f1, .int .i64 z.f1.f2, .int .i64 z.f1.f3, .int .i64 z.f2, .slice s_.1 z.f3.length s_.2.1], .bool true]), (29, .tuple #[.agg #[.int .u8 z.f0, .int .i64 z.f1.f0, .int .i64 z.f1.f1, .int .i64 z.f1.f2, .int .i64 z.f1.f3, .int .i64 z.f2, .slice s_.1 z.f3.length s_.2.1], .bool true]), (39, .agg #[.int .u8 z.f0, .int .i64 z.f1.f0, .int .i64 z.f1.f1, .int .i64 z.f1.f2, .int .i64 z.f1.f3, .int .i64 z.f2, .slice s_.1 z.f3.length s_.2.1]), (40, .bool true), (9, .pointer (some ⟨s_.2.2, 0, none⟩))]) (fun s_ w' => St w P [(some s_.2.2, .cells #[.int .u8 0, .int .i64 0, .int .i64 0, .int .i64 0, .int .i64 0, .int .i64 0, .slice none 0 0] 26 (0, 0)), (some b6, .cells #[.int .u8 0, .int .i64 0, .int .i64 0, .int .i64 0, .int .i64 0, .int .i64 0, .slice none 0 0] 26 (0, 0)), (some b4, .cells #[.int .u8 kk, .int .i64 kx, .int .i64 ky, .int .i64 kw, .int .i64 kh, .int .i64 kid, .slice Ak m.length AA] 26 (0, 0)), (some b3, .cells #[.int .u8 ck, .int .i64 cx, .int .i64 cy, .int .i64 cw, .int .i64 ch, .int .i64 aT, .slice (some kG) l.length cc] 26 (0, 0))] [] [(.slice s_.1 z.f3.length s_.2.1, z.f3), (.slice ua k.f3.length uc, k.f3), (.slice (some kG) l.length cc, l), (.slice Ak m.length AA, m)] [((kG.add (i.toNat * 7)), .int .u8 k.f0), (⟨(kG.add (i.toNat * 7)).block, (kG.add (i.toNat * 7)).off + 1, none⟩, .int .i64 k.f1.f0), (⟨(kG.add (i.toNat * 7)).block, (kG.add (i.toNat * 7)).off + 2, none⟩, .int .i64 k.f1.f1), (⟨(kG.add (i.toNat * 7)).block, (kG.add (i.toNat * 7)).off + 3, none⟩, .int .i64 k.f1.f2), (⟨(kG.add (i.toNat * 7)).block, (kG.add (i.toNat * 7)).off + 4, none⟩, .int .i64 k.f1.f3), (⟨(kG.add (i.toNat * 7)).block, (kG.add (i.toNat * 7)).off + 5, none⟩, .int .i64 k.f2), (⟨(kG.add (i.toNat * 7)).block, (kG.add (i.toNat * 7)).off + 6, none⟩, .slice ua k.f3.length uc), (Eu, .int .i64 i)] w') ?_ ?_
    rotate_left
    ·intro jI
     refine zX (i := 8) (j := 12) (Ni := some 38) (Nj := some 9) (bA 15 511) (bA 15 4351) rfl rfl rfl rfl (uy aj.out (by kernel_rfl)) (by decide) (by decide) (fun K hK => ?_) (fun K hK => ?_)
     ·skip
      refine yF Try.func102 #[.agg #[.int .u8 k.f0, .int .i64 k.f1.f0, .int .i64 k.f1.f1, .int .i64 k.f1.f2, .int .i64 k.f1.f3, .int .i64 k.f2, .slice ua k.f3.length uc], .agg #[.int .u8 kk, .int .i64 kx, .int .i64 ky, .int .i64 kw, .int .i64 kh, .int .i64 kid, .slice Ak m.length AA], .slice A2 is.length c2] ?_
      refine (Jf _ _ (gQ (S.out.tree _ (.head _))) (gQ (S.out.tree _ dR)) (Kd.iq HI2.out S.out.below)).mono ?_
      rintro e mg ⟨EL, Fa, rfl, h1, hb⟩
      refine ⟨_, rfl, ?_⟩
      replace S := ae.mk (S.out.res (Kd.qF (base' := 0) h1) hb)
      clear h1 hb
      refine hK.out _ _ S.out.dG (fun hHeld => ?_)
      clear hK K
      refine dK 38 ?_
      refine au 9 29 (bA 15 1023) aj ?_
      refine au 10 39 (bA 15 2047) aj ?_
      refine au 11 40 (bA 15 4095) aj ?_
      refine jf 12 (some 9) (bA 15 8191) aj (fun K hK => ?_)
      refine jL ?hg (N := 9) ?hd (cs := #[.int .u8 0, .int .i64 0, .int .i64 0, .int .i64 0, .int .i64 0, .int .i64 0, .slice none 0 0]) (t := 26) ?hr ?_; (case hd => rfl); (case hg => rfl); (case hr => first | (go_simp; done) | (go_simp; rfl))
      intro b9 hg zQ hbox hb
      replace S := ae.mk (S.out.box hg hbox hb)
      clear hg hbox hb
      refine hK.out _ _ S.out.dA.dG (fun hHeld => ?_)
      clear hK K
      refine dK 9 ?_
      exact kM (by simp only [gW, Act.put, List.setIfInBounds_toArray, List.set_cons_zero, List.set_cons_succ] <;> rfl) (jI (EL, Fa, b9) _ S.out)
     ·skip
      refine jL ?hg (N := 9) ?hd (cs := #[.int .u8 0, .int .i64 0, .int .i64 0, .int .i64 0, .int .i64 0, .int .i64 0, .slice none 0 0]) (t := 26) ?hr ?_; (case hd => rfl); (case hg => rfl); (case hr => first | (go_simp; done) | (go_simp; rfl))
      intro b9 hg xO hbox hb
      replace S := ae.mk (S.out.box hg hbox hb)
      clear hg hbox hb
      refine hK.out _ _ S.out.dA (fun hHeld => ?_)
      clear hK K
      refine dK 9 ?_
      refine jf 8 (some 38) (bA 15 4607) aj (fun K hK => ?_)
      refine yF Try.func102 #[.agg #[.int .u8 k.f0, .int .i64 k.f1.f0, .int .i64 k.f1.f1, .int .i64 k.f1.f2, .int .i64 k.f1.f3, .int .i64 k.f2, .slice ua k.f3.length uc], .agg #[.int .u8 kk, .int .i64 kx, .int .i64 ky, .int .i64 kw, .int .i64 kh, .int .i64 kid, .slice Ak m.length AA], .slice A2 is.length c2] ?_
      refine (Jf _ _ (gQ (S.out.tree _ (.head _))) (gQ (S.out.tree _ dR)) (Kd.iq HI2.out S.out.below)).mono ?_
      rintro e xP ⟨EL, Fa, rfl, h1, hb⟩
      refine ⟨_, rfl, ?_⟩
      replace S := ae.mk (S.out.res (Kd.qF (base' := 0) h1) hb)
      clear h1 hb
      refine hK.out _ _ S.out.dA.dG (fun hHeld => ?_)
      clear hK K
      refine dK 38 ?_
      refine au 9 29 (bA 15 5119) aj ?_
      refine au 10 39 (bA 15 6143) aj ?_
      refine au 11 40 (bA 15 8191) aj ?_
      exact kM (by simp only [gW, Act.put, List.setIfInBounds_toArray, List.set_cons_zero, List.set_cons_succ] <;> rfl) (jI (EL, Fa, b9) _ S.out)
    rintro ⟨EL, Fa, b9⟩ wj9 S1
    simp only [gW, Act.put, List.setIfInBounds_toArray, List.set_cons_zero, List.set_cons_succ]
    replace S := ae.mk S1
    clear S1 hHeld
    have hHeld := S.out.dA.dG
    refine nT 13 none (bA 15 16383) aj (fun K hK => ?_)
    refine n_ 0 rfl 26 (.tmp 9) (.tmp 39) rfl #[.int .u8 z.f0, .int .i64 z.f1.f0, .int .i64 z.f1.f1, .int .i64 z.f1.f2, .int .i64 z.f1.f3, .int .i64 z.f2, .slice EL z.f3.length Fa] (j := 0) (u := .agg #[.int .u8 z.f0, .int .i64 z.f1.f0, .int .i64 z.f1.f1, .int .i64 z.f1.f2, .int .i64 z.f1.f3, .int .i64 z.f2, .slice EL z.f3.length Fa]) (bG := [.int .u8 z.f0, .int .i64 z.f1.f0, .int .i64 z.f1.f1, .int .i64 z.f1.f2, .int .i64 z.f1.f3, .int .i64 z.f2, .slice EL z.f3.length Fa]) S.out (by rfl) rfl rfl rfl rfl (by kernel_rfl) (by simp [Value.oneCell']) (by first | decide | simp) rfl ?_
    intro yl S1
    simp only [List.set_cons_zero, List.set_cons_succ] at S1
    replace S := ae.mk S1
    clear S1
    refine hK.out _ _ ?_
    clear hK K
    refine au 14 10 (bA 15 32767) aj ?_
    refine jG (gK aj.out (by kernel_rfl)) ?_
    clear hHeld
    obtain ⟨bH, bC, bF, bD, dC, dD, bY⟩ := St.fA S kX
    go_wp2_with (first
     | (refine iw (some 45) Try.func151 (E8 1000000 ⟨ck, ⟨cx, cy, cw, ch⟩, aT, l⟩ HZ.out (Nat.le_refl _) _ (some kG) cc _ (gQ (S.out.tree _ dR))) ?_; rintro e NQ ⟨v, rfl, h1, hb⟩; refine ⟨_, rfl, ?_⟩; obtain ⟨g45, XD, ev, _⟩ := Kd.xm h1 (by have := H1Z.out; have := H0Z.out; simp only []; omega); subst ev; replace S := ae.mk (S.out.yj h1 hb); clear h1 hb; clear bH bC bF bD dC dD bY)
     | (refine WL 26 3 45 #[.int .u8 ck, .int .i64 cx, .int .i64 cy, .int .i64 cw, .int .i64 ch, .int .i64 aT, .slice (some ⟨g45, 0, none⟩) l.length XD] 0 7 S ?_; clear S; intro aee S; obtain ⟨sD, Bz, oJ, BA, Qb, Qc, Qd⟩ := St.fA S (.head _); have bY := (S.out.at kX 6).trans rfl)
     | ((with_reducible refine lH (.store 26 (.tmp 50) (.tmp 49)) rfl ?_); go_loud (refine adY i z (.tmp 50) (.tmp 49) rfl S.out H0Z.out H1Z.out ?sA ?sX (by kernel_rfl) (.head _) rfl rfl ?_; (case sA => first | rfl | (go_simp; rfl)); (case sX => rfl); intro Xc S1; replace S := ae.mk S1; clear S1); clear sD Bz oJ BA Qb Qc Qd bY; obtain ⟨bH, bC, bF, bD, dC, dD, bY⟩ := St.fA S kX)
     | (refine zV 26 6 51 #[.int .u8 ck, .int .i64 cx, .int .i64 cy, .int .i64 cw, .int .i64 ch, .int .i64 aT, .slice (some ⟨g45, 0, none⟩) l.length XD] 0 7 S ?_; clear S; intro Xd S; clear bH bC bF bD dC dD bY)
     | fail)
    refine bodyPost_ret (fE rfl _ _ b6 26 _ (0, 0) _ rfl (S.out.blk _ bz _ rfl) Try.underlying26 rfl (by kernel_rfl)) rfl ?_
    simp only [Vd, List.length_set]
    exact ⟨_, _, rfl, S.out.yg, S.out.below⟩
def aaC.T5 : Bool × List (List Nat × List Nat) := (true, [([], []), ([0], [0]), ([], []), ([2], [2]), ([3], [3]), ([1, 4], [1, 4]), ([5], [5]), ([], []), ([], []), ([8], [8]), ([6, 7, 9], [6, 7, 9]), ([10], [10]), ([11], [11]), ([11], [11]), ([], []), ([14, 12, 10, 0, 1, 2, 3, 4, 5, 6, 7, 8, 9, 10, 11, 12, 14], [12, 14]), ([13, 15, 0, 1, 2, 3, 4, 5, 6, 7, 8, 9, 10, 11, 12, 13, 14, 15], [13])])
def aaC.B5 : List Nat := [0, 1, 0, 4, 12, 31, 63, 0, 0, 256, 1023, 2047, 4095, 4095, 0, 24575, 65535]
def aaD.T9 : Bool × List (List Nat × List Nat) := (true, [([], []), ([], []), ([1], [1]), ([2], [2]), ([], []), ([0, 3, 0, 1, 2, 3, 4], [0, 3]), ([5, 4, 0, 1, 2, 3, 4], [4, 5])])
def aaD.B9 : List Nat := [0, 0, 2, 6, 0, 31, 63]
section
variable {W : World} {b b' : Nat} {P : Nat → Prop} {A A' B : Option Addr} {cc cc' cb : Nat}
theorem XV (c kid : ai) (path : List Int) (z : ai) (hz : rV kid path c = some z) (hc : sz c ≤ 1000000) (hk : sz kid ≤ 1000000) (hV : Kd.V k26 26 W b P (.slice A c.f3.length cc) c.f3) (hV' : Kd.V k26 26 W b' P (.slice A' kid.f3.length cc') kid.f3) (hi : Kd.C (Kd.int .i64) W B path.length path) (hb : path.length ≤ cb) :
  Calls Try.prog 102 #[.agg #[.int .u8 c.f0, .int .i64 c.f1.f0, .int .i64 c.f1.f1, .int .i64 c.f1.f2, .int .i64 c.f1.f3, .int .i64 c.f2, .slice A c.f3.length cc], .agg #[.int .u8 kid.f0, .int .i64 kid.f1.f0, .int .i64 kid.f1.f1, .int .i64 kid.f1.f2, .int .i64 kid.f1.f3, .int .i64 kid.f2, .slice A' kid.f3.length cc'], .slice B path.length cb] W fun e w' => ∃ A2 c2, e = .returned (.tuple #[.agg #[.int .u8 z.f0, .int .i64 z.f1.f0, .int .i64 z.f1.f1, .int .i64 z.f1.f2, .int .i64 z.f1.f3, .int .i64 z.f2, .slice A2 z.f3.length c2], .bool true]) ∧ Kd.N k26 26 w' W.heap.size (fun k => P k ∨ W.heap.size ≤ k) (.slice A2 z.f3.length c2) z.f3 ∧ Below W.heap.size W w' := by
 have h := aap path c kid P A cc A' cc' B cb W hc hk (gQ hV) (gQ hV') hi hb (by rw [hz]; simp)
 rw [hz] at h
 exact h
theorem SH (id : Int) (c : ai) (r : Option (List Int)) (h : gm id c = r) (hc : sz c ≤ 1000000) (hV : Kd.V k26 26 W b P (.slice A c.f3.length cc) c.f3) :
  Calls Try.prog 89 #[.agg #[.int .u8 c.f0, .int .i64 c.f1.f0, .int .i64 c.f1.f1, .int .i64 c.f1.f2, .int .i64 c.f1.f3, .int .i64 c.f2, .slice A c.f3.length cc], .int .i64 id] W (yC W (r.getD []) r.isSome) := by
 have h2 := Kd.kR hV
 refine (acx id 1000000 c hc (Nat.le_refl _) A cc W h2.2.2 h2.2.1).mono (fun e w' ⟨v, he, hR, hB⟩ => ?_)
 rw [h] at he hR
 obtain ⟨A2, c2, rfl⟩ := Kd.fU hR
 exact ⟨A2, c2, he, hR, hB⟩
theorem Jj (id : Int) (c : ai) (p : List Int) (h : gm id c = some p) (hc : sz c ≤ 1000000) (hV : Kd.V k26 26 W b P (.slice A c.f3.length cc) c.f3) :
  Calls Try.prog 89 #[.agg #[.int .u8 c.f0, .int .i64 c.f1.f0, .int .i64 c.f1.f1, .int .i64 c.f1.f2, .int .i64 c.f1.f3, .int .i64 c.f2, .slice A c.f3.length cc], .int .i64 id] W (yC W p true) := SH id c (some p) h hc hV
theorem YC (id : Int) (c : ai) (h : gm id c = none) (hc : sz c ≤ 1000000) (hV : Kd.V k26 26 W b P (.slice A c.f3.length cc) c.f3) :
  Calls Try.prog 89 #[.agg #[.int .u8 c.f0, .int .i64 c.f1.f0, .int .i64 c.f1.f1, .int .i64 c.f1.f2, .int .i64 c.f1.f3, .int .i64 c.f2, .slice A c.f3.length cc], .int .i64 id] W (yC W [] false) := SH id c none h hc hV
theorem Pm (id : Int) (c : ai) (r : Option (List Int)) (h : gm id c = r) (hc : sz c ≤ 1000000) (hV : Kd.V k26 26 W b P (.slice A c.f3.length cc) c.f3) :
  Calls Try.prog 90 #[.agg #[.int .u8 c.f0, .int .i64 c.f1.f0, .int .i64 c.f1.f1, .int .i64 c.f1.f2, .int .i64 c.f1.f3, .int .i64 c.f2, .slice A c.f3.length cc], .int .i64 id] W (yC W (r.getD []) r.isSome) := by
 have h2 := aau id 1000000 c hc (Nat.le_refl _) b P A cc W hV
 rwa [h] at h2
theorem GY (id : Int) (c : ai) (p : List Int) (h : gm id c = some p) (hc : sz c ≤ 1000000) (hV : Kd.V k26 26 W b P (.slice A c.f3.length cc) c.f3) :
  Calls Try.prog 90 #[.agg #[.int .u8 c.f0, .int .i64 c.f1.f0, .int .i64 c.f1.f1, .int .i64 c.f1.f2, .int .i64 c.f1.f3, .int .i64 c.f2, .slice A c.f3.length cc], .int .i64 id] W (yC W p true) := Pm id c (some p) h hc hV
theorem WS (id : Int) (c : ai) (h : gm id c = none) (hc : sz c ≤ 1000000) (hV : Kd.V k26 26 W b P (.slice A c.f3.length cc) c.f3) :
  Calls Try.prog 90 #[.agg #[.int .u8 c.f0, .int .i64 c.f1.f0, .int .i64 c.f1.f1, .int .i64 c.f1.f2, .int .i64 c.f1.f3, .int .i64 c.f2, .slice A c.f3.length cc], .int .i64 id] W (yC W [] false) := Pm id c none h hc hV
end
theorem UC {kid x : ai} : ∀ (path : List Int) (c : ai), jE c path = some x → ∃ z, rV kid path c = some z := by
 intro path
 induction path with
 | nil => intro c _; exact ⟨kid, rfl⟩
 | cons i is ih =>
  intro c h
  simp only [jE] at h
  split at h
  ·cases h
  ·rename_i hi
   obtain ⟨z, hz⟩ := ih _ h
   refine ⟨⟨c.f0, c.f1, c.f2, c.f3.set i.toNat z⟩, ?_⟩
   simp only [rV]
   rw [if_neg hi, hz]
section
variable {Pr : Program} {ops : Array Oper} {rest : List Oper} {op : Oper} {a : Act} {Q : Exit → Act → World → Prop} {w W : World} {P : Nat → Prop} {bs : List (Option Nat × Obj)} {ow : List (Value × List ai)} {ts : List (Value × List ai)} {ro : List (Addr × Value)}
theorem Eb (N : Option Tmp) {f : FuncId} {fn : Func} (hf : Pr.funcs[f]? = some fn) {ar : Array Operand} {DW : Array TypeId} {args : Array Value} {l : List Int} {F : Option Addr → Nat → Value} (S : ae (St w P bs ow ts ro W))
  (hc : Calls Pr f args W fun e w' => ∃ A c, e = .returned (F A c) ∧ (Kd.int .i64).R 3 w' W.heap.size (fun _ => True) (.slice A l.length c) l ∧ Below W.heap.size W w')
  (h : ∀ A c o w1, ae (St w P (((Value.slice A l.length c).ownBlock, o) :: bs) ow ts ro w1) → ae (IR w.heap.size (.slice A l.length c) l o) → wpList Pr ops Q rest (a.put N (F A c)) w1) (hd : op.dst = N := by rfl) (hg : op.guard = none := by rfl) (hop : op.op = .call { callee := .value (.func f), args := ar, argTypes := DW } := by rfl)
  (hname : (fn.name == "runtime.NumGoroutine") = false := by kernel_rfl) (hb : fn.body.isSome = true := by rfl) (hargs : ar.map a.eval = args := by ((try simp only [List.map_toArray, List.map_cons, List.map_nil]); first | done | rfl)) : wpList Pr ops Q (op :: rest) a W :=
 mM N hd hg hf hname hb args hop hargs (hc.mono fun e w1 ⟨A, c, he, h1, hb⟩ => by
  obtain ⟨o, S1, HI⟩ := S.out.NH h1 hb
  exact ⟨_, he, h A c o w1 ⟨S1⟩ ⟨HI⟩⟩)
end
section
variable {base : Nat} {W : World} {A : Option Addr} {c : Nat} {l : List Int} {o : Obj} {w : World} {P : Nat → Prop} {bs : List (Option Nat × Obj)} {ow : List (Value × List ai)} {ts : List (Value × List ai)} {ro : List (Addr × Value)}
theorem xR (HI : IR base (.slice A l.length c) l o) (S : St w P bs ow ts ro W) (hm : ((Value.slice A l.length c).ownBlock, o) ∈ bs) : Kd.C (Kd.int .i64) W A l.length l ∧ l.length ≤ c :=
 have h := Kd.dP (HI W (S.blk _ hm))
 ⟨h.2.2, h.2.1⟩
theorem eF {q : List Int} {m : Nat} (HI : IR base (.slice A l.length c) l o) (S : St w P bs ow ts ro W) (hm : ((Value.slice A l.length c).ownBlock, o) ∈ bs) (hq : q = l.take m ∧ m ≤ l.length) : Kd.C (Kd.int .i64) W A q.length q ∧ q.length ≤ c := by
 obtain ⟨h1, h2⟩ := xR HI S hm
 rw [hq.1]
 exact ⟨Kd.aa7 h1 hq.2, by rw [List.length_take]; omega⟩
end
section
end
theorem St.join {w W W1 : World} {P : Nat → Prop} {bs : List (Option Nat × Obj)} {ts : List (Value × List ai)} {ro : List (Addr × Value)} {k : Option Nat} {o : Obj} {v : Value} {l : List ai} (S : St w P bs [] ts ro W) (T : St W (Ok w P (keys bs [])) [(k, o)] [(v, l)] [] [] W1) : St w P ((k, o) :: bs) [(v, l)] ts ro W1 := by
 have ke : ∀ x, x ∈ keys ((k, o) :: bs) [(v, l)] ↔ x ∈ keys [(k, o)] [(v, l)] ∨ x ∈ keys bs [] := fun x => by
  unfold keys
  simp only [List.filterMap_cons, List.filterMap_nil, List.flatMap_cons, List.flatMap_nil, List.append_nil]
  cases k <;> cases v.ownBlock <;> simp [or_comm, or_assoc]
 have hb : Below W.heap.size W W1 := T.below
 have hold : ∀ x, x ∈ keys bs [] → x < W.heap.size := fun x hx => S.lt hx
 have hnew : ∀ x, x ∈ keys [(k, o)] [(v, l)] → W.heap.size ≤ x := fun x hx => (T.new x hx).1
 refine ⟨ak S.below hb, fun p hp g hg => ?_, fun x hx => ?_, ?_, fun t ht => ?_, fun r hr => ?_, fun c hc => ?_⟩
 ·rcases List.mem_cons.1 hp with rfl | hp
  ·exact T.blk _ List.mem_cons_self g hg
  ·exact aI (S.blk p hp g hg) hb
 ·rcases (ke x).1 hx with h | h
  ·exact ⟨Nat.le_trans S.below.size (hnew x h), (T.new x h).2⟩
  ·exact ⟨(S.new x h).1, Nat.lt_of_lt_of_le (S.new x h).2 hb.size⟩
 ·have h1 := T.nd
  have h2 := S.nd
  have e : keys ((k, o) :: bs) [(v, l)] = (k.toList ++ bs.filterMap (·.1)) ++ v.ownBlock.toList := by
   unfold keys
   simp only [List.filterMap_cons, List.flatMap_cons, List.flatMap_nil, List.append_nil]
   cases k <;> cases v.ownBlock <;> rfl
  have e1 : keys [(k, o)] [(v, l)] = k.toList ++ v.ownBlock.toList := by
   unfold keys
   simp only [List.filterMap_cons, List.filterMap_nil, List.flatMap_cons, List.flatMap_nil, List.append_nil]
   cases k <;> cases v.ownBlock <;> rfl
  have e2 : keys bs [] = bs.filterMap (·.1) := by unfold keys; simp
  rw [e1] at h1 hnew
  rw [e2] at h2 hold
  rw [e]
  obtain ⟨a1, a2, a3⟩ := List.nodup_append.1 h1
  refine List.nodup_append.2 ⟨List.nodup_append.2 ⟨a1, h2, fun x hx y hy => ?_⟩, a2, fun x hx y hy => ?_⟩
  ·rintro rfl
   have := hold x hy
   have := hnew x (List.mem_append_left _ hx)
   omega
  ·rcases List.mem_append.1 hx with hx | hx
   ·exact a3 x hx y hy
   ·rintro rfl
    have := hold x hx
    have := hnew x (List.mem_append_right _ hy)
    omega
 ·exact Kd.gJ (Kd.ja (Kd.D7 (S.tree t ht)) hb) (fun x h => ⟨h.1.1, fun hk => by
   rcases (ke x).1 hk with h2 | h2
   ·have := hnew x h2; have := h.2; omega
   ·exact h.1.2 h2⟩)
 ·rw [List.mem_singleton] at hr
  subst hr
  refine Kd.iM (Kd.uM (T.own _ (List.mem_singleton.2 rfl)) S.below.size) (fun x h => Or.imp (fun h => ⟨?_, fun hk => ?_⟩) id h)
  ·rcases h.1 with h1 | h1
   ·exact h1.1
   ·exact .inr (Nat.le_trans S.below.size h1)
  ·rcases (ke x).1 hk with h2 | h2
   ·exact h.2 h2
   ·rcases h.1 with h1 | h1
    ·exact h1.2 h2
    ·have := hold x h2; omega
 ·have hlt := World.block_lt_of_cell? W _ (S.cell c hc).1
  exact ⟨(hb.cell hlt).trans (S.cell c hc).1, fun hk => by
   rcases (ke _).1 hk with h2 | h2
   ·have := hnew _ h2; omega
   ·exact (S.cell c hc).2 h2⟩
end Go.Proofs.Ytfdmfgaiblfbhaa.P
namespace Go.Proofs.Ytfdmfgaiblfbhaa.Pure
open Go.RowKit Go.Proofs.Ytfdmfgaiblfbhaa.P Go.Proofs.ag.aQ Go.Proofs.ag.bu Go.Proofs.ag.bP
theorem JH : ∀ (a b : List ai), eG (a ++ b) = true → eG b = true := by
 intro a
 induction a with
 | nil => intro b h; exact h
 | cons x xs ih =>
  intro b h
  rw [List.cons_append] at h
  simp only [eG, Bool.and_eq_true] at h
  exact ih b h.2
theorem JI (a b : List ai) (h : eG (a ++ b) = true) : eG a = true := by
 cases ha : eG a with
 | true => rfl
 | false => rw [yf a b ha] at h; cases h
theorem aai {c x : ai} (h : kV c = true) (hx : x ∈ c.f3) : kV x = true := by
 have hs := m_ h
 have hok := pV h
 have h1 := G6 hx
 have h2 := bZ c
 have hd : eG (lS c) = true := by
  unfold kV at h
  simp only [Bool.and_eq_true] at h
  exact h.2.2
 unfold kV
 rw [decide_eq_true (by omega), Pg hok hx, Bool.true_and, Bool.true_and]
 obtain ⟨p, q, e⟩ := List.append_of_mem hx
 have e2 : fP c = (c :: allL p) ++ (fP x ++ allL q) := by rw [pJ, e, Bl, lF]; rfl
 unfold lS at hd ⊢
 rw [e2, List.filter_append, List.filter_append] at hd
 exact JI _ _ (JH _ _ hd)
theorem xN {c x : ai} (h : dB c = true) (hx : x ∈ c.f3) : dB x = true := by
 have hm := lG h
 unfold dB at h ⊢
 simp only [Bool.and_eq_true] at h
 rw [aai hm hx, zW h.2 hx]
 rfl
theorem jP {ax : Int} (hax : ax = 1 ∨ ax = 2) {c : ai} (h : dB c = true) : aU ax c = aV ax c.f1 - dH ax c ∧ 0 ≤ aV ax c.f1 - dH ax c ∧ 1 ≤ dH ax c ∧ aV ax c.f1 ≤ 10000 := by
 have hm := lG h
 have hB : kJ c = true := by
  unfold dB at h
  simp only [Bool.and_eq_true] at h
  exact h.2
 have f := BK hax (sz c) c (Nat.le_refl _) (m_ hm) (pV hm)
 have g := f.2 hB
 have r := ng (sN (nZ (pV hm))) hax
 unfold aU
 rw [if_pos ⟨hax, h⟩, wq (by omega) (by omega)]
 omega
end Go.Proofs.Ytfdmfgaiblfbhaa.Pure
namespace Go.Proofs.Ytfdmfgaiblfbhaa.P
open Go.RowKit Go.Proofs.ag.aQ Go.Proofs.ag.bu Go.Proofs.ag.bP
theorem JD {c : ai} (hk : c.f0 = 2 ∨ c.f0 = 3) : jh c = c.f3.map (fun k => aV (c.f0 - 1) k.f1) := by
 unfold jh
 apply List.map_congr_left
 intro k _
 unfold szK qi aV
 rcases hk with h | h
 ·rw [if_pos h, if_pos (by omega)]
 ·rw [if_neg (by omega), if_neg (by omega), if_pos (by omega)]
theorem PD {a : Int} (ha : a = 2 ∨ a = 3) (r : dw) : tX (a - 1) r.f2 r.f3 = aV (a - 1) r ∧ tX (a - 1) r.f3 r.f2 = aV (4 - a) r := by
 rcases ha with h | h <;> simp [tX, aV, h]
theorem Yy (c : ai) (hk : c.f0 = 2 ∨ c.f0 = 3) (hm : jW c.f1 = true) (hl : c.f3.length ≤ 20000) (hne : 0 < c.f3.length) (hs : (c.f3.map (fun k => aV (c.f0 - 1) k.f1)).sum + (c.f3.length : Int) - 1 = aV (c.f0 - 1) c.f1) (hp : ∀ k, k ∈ c.f3 → 1 ≤ aV (c.f0 - 1) k.f1) : (yc c).2.2 = true := by
 have ha : yx c.f0 = c.f0 - 1 := by unfold yx; omega
 have hax : yx c.f0 = 1 ∨ yx c.f0 = 2 := by omega
 have hlen : (jh c).length = c.f3.length := by simp [jh]
 have hm' : o7 c.f1.f0 c.f1.f1 c.f1.f2 c.f1.f3 = true := hm
 have hsz := JD hk
 exact Yw hax hm' (fun e => by rw [e] at hlen; simp at hlen; omega) (by rw [hlen, hsz, ha, (PD hk c.f1).1]; omega) (fun m hm => by
  rw [hsz] at hm
  obtain ⟨k, hk2, rfl⟩ := List.mem_map.1 hm
  exact hp k hk2)
theorem UK (a X Y W H : Int) (ha : a = 2 ∨ a = 3) (hX : 0 ≤ X ∧ X ≤ 10000) (hY : 0 ≤ Y ∧ Y ≤ 10000) : ∀ (l : List ai) (off : Int), 0 ≤ off → off + (l.map (fun k => aV (a - 1) k.f1)).sum + (l.length : Int) ≤ 1000000 →
  (∀ k, k ∈ l → 1 ≤ aV (a - 1) k.f1 ∧ aV (4 - a) k.f1 = tX (a - 1) H W) →
  rM (fun k r => qx k.f1 r) (jg a l (if a = 2 then X + off else X) (if a = 2 then Y else Y + off)) (x_ (a - 1) X Y W H off (l.map (fun k => aV (a - 1) k.f1))) = true := by
 intro l
 induction l with
 | nil => intro off _ _ _; rw [lW]; rfl
 | cons k ks ih =>
  intro off h0 hs hk
  have h1 := hk k (by simp)
  have hp := IE (ks.map (fun k => aV (a - 1) k.f1)) (fun m hm => by
   obtain ⟨q, hq, rfl⟩ := List.mem_map.1 hm
   exact (hk q (by simp [hq])).1)
  rw [List.length_map] at hp
  rw [List.map_cons, List.sum_cons, List.length_cons] at hs
  have e := ih (off + aV (a - 1) k.f1 + 1) (by omega) (by omega) (fun q hq => hk q (by simp [hq]))
  have hb : off + aV (a - 1) k.f1 ≤ 1000000 := by omega
  rw [ni, List.map_cons]
  simp only [x_, rM, Bool.and_eq_true]
  rcases ha with rfl | rfl
  ·have hx : zo 2 k (X + off) = X + (off + aV (2 - 1) k.f1 + 1) := by
    simp only [zo, aV] at h1 hb ⊢
    simp at h1 hb ⊢
    rw [wp (x := k.f1.f2 + 1) (by omega) (by omega), wp (by omega) (by omega)]
    omega
   refine ⟨DI.2 ?_, ?_⟩
   ·rw [jV]
    simp [tX, aV] at h1 ⊢
    exact h1.2
   ·simp only [if_true] at e ⊢
    rw [hx]
    exact e
  ·have hy : zq 3 k (Y + off) = Y + (off + aV (3 - 1) k.f1 + 1) := by
    simp only [zq, aV] at h1 hb ⊢
    simp at h1 hb ⊢
    rw [wp (x := k.f1.f3 + 1) (by omega) (by omega), wp (by omega) (by omega)]
    omega
   refine ⟨DI.2 ?_, ?_⟩
   ·rw [jV]
    simp [tX, aV] at h1 ⊢
    exact h1.2
   ·simp only [show ¬ ((3 : Int) = 2) by decide, if_false] at e ⊢
    rw [hy]
    exact e
theorem adZ (a : Int) (r : dw) (ha : a = 2 ∨ a = 3) (hr : jW r = true) : ∀ (l : List ai) (off : Int), 0 ≤ off → off + (l.map (fun k => aV (a - 1) k.f1)).sum + (l.length : Int) - 1 ≤ aV (a - 1) r →
  (∀ k, k ∈ l → 1 ≤ aV (a - 1) k.f1 ∧ aV (4 - a) k.f1 = aV (4 - a) r) →
  ∀ z, z ∈ jg a l (if a = 2 then r.f0 + off else r.f0) (if a = 2 then r.f1 else r.f1 + off) → ∃ k, k ∈ l ∧ ∃ x y, z = b_ k x y ∧ jW ⟨x, y, k.f1.f2, k.f1.f3⟩ = true := by
 have hm := uS.1 hr
 intro l
 induction l with
 | nil => intro off _ _ _ z hz; rw [lW] at hz; cases hz
 | cons k ks ih =>
  intro off h0 hs hk z hz
  have h1 := hk k (by simp)
  have hp := IE (ks.map (fun k => aV (a - 1) k.f1)) (fun m hm => by
   obtain ⟨q, hq, rfl⟩ := List.mem_map.1 hm
   exact (hk q (by simp [hq])).1)
  rw [List.length_map] at hp
  rw [List.map_cons, List.sum_cons, List.length_cons] at hs
  have hb : off + aV (a - 1) k.f1 ≤ aV (a - 1) r := by omega
  rw [ni] at hz
  rcases List.mem_cons.1 hz with rfl | hz
  ·refine ⟨k, by simp, _, _, rfl, uS.2 ?_⟩
   rcases ha with rfl | rfl
   ·simp [aV] at h1 hb hm ⊢
    omega
   ·simp [aV] at h1 hb hm ⊢
    omega
  ·have e : ∃ q, q ∈ ks ∧ ∃ x y, z = b_ q x y ∧ jW ⟨x, y, q.f1.f2, q.f1.f3⟩ = true := by
    refine ih (off + aV (a - 1) k.f1 + 1) (by omega) (by omega) (fun q hq => hk q (by simp [hq])) z ?_
    rcases ha with rfl | rfl
    ·have hx : zo 2 k (r.f0 + off) = r.f0 + (off + aV (2 - 1) k.f1 + 1) := by
      simp [zo, aV] at h1 hb hm ⊢
      rw [wp (x := k.f1.f2 + 1) (by omega) (by omega), wp (by omega) (by omega)]
      omega
     simp only [if_true] at hz ⊢
     rw [hx] at hz
     exact hz
    ·have hy : zq 3 k (r.f1 + off) = r.f1 + (off + aV (3 - 1) k.f1 + 1) := by
      simp [zq, aV] at h1 hb hm ⊢
      rw [wp (x := k.f1.f3 + 1) (by omega) (by omega), wp (by omega) (by omega)]
      omega
     simp only [show ¬ ((3 : Int) = 2) by decide, if_false] at hz ⊢
     rw [hy] at hz
     exact hz
   obtain ⟨q, hq, e⟩ := e
   exact ⟨q, by simp [hq], e⟩
def wR (c : ai) : Prop := (fP c).all mf = true ∧ kJ c = true
theorem Fe {c : ai} (h1 : mf c = true) (h2 : mD c = true) (hk : ∀ k, k ∈ c.f3 → wR k) : wR c := by
 refine ⟨?_, ?_⟩
 ·rw [pJ, List.all_cons, h1, Bool.true_and]
  have : ∀ l : List ai, (∀ k, k ∈ l → wR k) → (allL l).all mf = true := by
   intro l
   induction l with
   | nil => intro _; rw [o5]; rfl
   | cons x xs ih => intro h; rw [lF, List.all_append, (h x (by simp)).1, ih (fun k hk => h k (by simp [hk]))]; rfl
  exact this c.f3 hk
 ·rw [rZ, h2, Bool.true_and]
  exact List.all_eq_true.2 fun k hk2 => (hk k hk2).2
theorem Jw (a : Int) (r : dw) (l : List ai) (ha : a = 2 ∨ a = 3) (hr : jW r = true) (hl : 2 ≤ l.length) (hl2 : l.length ≤ 20000) (hs : (l.map (fun k => aV (a - 1) k.f1)).sum + (l.length : Int) - 1 = aV (a - 1) r)
  (hk : ∀ k, k ∈ l → 1 ≤ aV (a - 1) k.f1 ∧ aV (4 - a) k.f1 = aV (4 - a) r) (hg : ∀ k, k ∈ l → ∀ x y, jW ⟨x, y, k.f1.f2, k.f1.f3⟩ = true → wR (b_ k x y)) : wR ⟨a, r, 0, jg a l r.f0 r.f1⟩ := by
 have hm := uS.1 hr
 have hsz : ∀ (l : List ai) (x y : Int) (f : ai → Int), (∀ k x y, f (b_ k x y) = f k) → (jg a l x y).map f = l.map f := by
  intro l
  induction l with
  | nil => intro x y f _; rw [lW]
  | cons k ks ih => intro x y f hf; rw [ni, List.map_cons, List.map_cons, ih _ _ f hf, hf]
 have hin := adZ a r ha hr l 0 (by omega) (by omega) hk
 have adu := UK a r.f0 r.f1 r.f2 r.f3 ha (by omega) (by omega) l 0 (by omega) (by have := ng hr (ax := a - 1) (by omega); omega) (fun k h => by rw [(PD ha r).2]; exact hk k h)
 have hxy : (if a = 2 then r.f0 + 0 else r.f0) = r.f0 ∧ (if a = 2 then r.f1 else r.f1 + 0) = r.f1 := by constructor <;> split <;> omega
 rw [hxy.1, hxy.2] at hin adu
 have hmap : ∀ l x y, (jg a l x y).map (fun k => aV (a - 1) k.f1) = l.map (fun k => aV (a - 1) k.f1) := fun l x y => hsz l x y _ (fun k x y => by rw [jV]; rfl)
 refine Fe ?_ ?_ (fun z hz => ?_)
 ·unfold mf
  simp only [hr, qy, Bool.true_and]
  rw [decide_eq_true (show 1 ≤ a ∧ a ≤ 3 by omega), decide_eq_true (show a = 1 → l.length = 0 ∧ (0 : Int) ≤ 0 ∧ (0 : Int) ≤ 2147483647 from fun h => by omega), decide_eq_true (show a > 1 → 2 ≤ l.length ∧ True from fun _ => ⟨hl, trivial⟩)]
  rfl
 ·have ht : (yc ⟨a, r, 0, jg a l r.f0 r.f1⟩).2.2 = true := Yy _ ha hr (by rw [qy]; exact hl2) (by rw [qy]; omega) (by simp only []; rw [hmap, qy]; exact hs) (fun k hk2 => by
   obtain ⟨q, hq, x, y, rfl, _⟩ := hin k hk2
   rw [jV]
   exact (hk q hq).1)
  obtain ⟨_, gp, _, _⟩ := CU ht
  rw [JD (c := ⟨a, r, 0, jg a l r.f0 r.f1⟩) ha] at gp
  simp only [] at gp
  rw [hmap, show yx a = a - 1 by unfold yx; omega] at gp
  unfold mD BM
  rw [ht, gp, adu]
  simp only [Bool.true_and, Bool.and_true, Bool.or_eq_true]
  right
  have : ∀ (ns : List Int) (off : Int), (x_ (a - 1) r.f0 r.f1 r.f2 r.f3 off ns).length = ns.length := fun ns off => LQ _ _ _ _ _ ns off
  rw [this, List.length_map, qy]
  simp
 ·obtain ⟨q, hq, x, y, rfl, hm2⟩ := hin z hz
  exact hg q hq x y hm2
theorem DV (l : List Int) : total l = l.sum := by
 induction l with
 | nil => rfl
 | cons x xs ih => simp only [total, List.sum_cons, ih]
theorem ad3 {b : Int} {gs : List Int} (hl : gs.length ≤ 100000) (h0 : -2147483647 ≤ b) (h1 : b ≤ 2147483647) (hg : ∀ g, g ∈ gs → 0 ≤ g ∧ g ≤ 2147483647) (hne : gs ≠ []) (hb : -gs.sum ≤ b) :
  (qK b gs).2 = true ∧ (qK b gs).1.length = gs.length ∧ (qK b gs).1.sum = b ∧ ∀ p, p ∈ gs.zip (qK b gs).1 → -p.1 ≤ p.2 := by
 rcases (DN b gs hl h0 h1).1 with ⟨e, h⟩ | ⟨e, _, _, hb0⟩ | ⟨qs, e, _, _, hq, hgd, _, ho, _⟩
 ·exfalso
  rw [DV] at h
  rcases h with h | h | h
  ·exact hne h
  ·exact h hg
  ·omega
 ·rw [e]
  refine ⟨rfl, rU _ _, ?_, ?_⟩
  ·rw [← DV]
   exact N9 b gs.length hb0 (List.length_pos_iff.2 hne)
  ·intro p hp
   obtain ⟨a1, a2⟩ := List.of_mem_zip hp
   have h2 := hg _ a1
   simp only [moreL, List.mem_map, List.mem_range] at a2
   obtain ⟨i, _, e2⟩ := a2
   have hn : (0 : Int) < (gs.length : Int) := by have := List.length_pos_iff.2 hne; omega
   have hd : 0 ≤ b / (gs.length : Int) := Int.ediv_nonneg hb0 (by omega)
   unfold qH at e2
   split at e2 <;> omega
 ·rw [e]
  refine ⟨rfl, by rw [← hq]; simp, by rw [← DV, ← QH]; exact ho, fun p hp => ?_⟩
  simp only [] at hp
  rw [← hq, List.zip_map'] at hp
  obtain ⟨q, hq2, rfl⟩ := List.mem_map.1 hp
  exact (hgd q hq2).2.2.1
theorem La (ax : Int) : ∀ (l : List ai) (ss : List Int) (ns : Nat → Int) (i : Nat), ss.length = l.length → (∀ j, j < l.length → ns (i + j) = ss.getD j 0) → kS ax l ns i = (l.zip ss).map fun p => fK ax p.1 p.2 := by
 intro l
 induction l with
 | nil => intro ss ns i _ _; rw [rE]; rfl
 | cons k ks ih =>
  intro ss ns i hl hn
  cases ss with
  | nil => simp at hl
  | cons s ss =>
   have h0 := hn 0 (by simp)
   rw [Nat.add_zero] at h0
   rw [uN, List.zip_cons_cons, List.map_cons, h0, ih ss ns (i + 1) (by simpa using hl) (fun j hj => by
    have := hn (j + 1) (by simpa using hj)
    rw [show i + 1 + j = i + (j + 1) by omega, this]
    rfl)]
   rfl
theorem PM (f : ai → Int) : ∀ (l : List ai) (ss : List Int), ss.length = l.length → ((l.zip ss).map fun p => f p.1 + p.2).sum = (l.map f).sum + ss.sum := by
 intro l
 induction l with
 | nil => intro ss h; cases ss with
  | nil => rfl
  | cons s ss => simp at h
 | cons k ks ih =>
  intro ss h
  cases ss with
  | nil => simp at h
  | cons s ss =>
   rw [List.zip_cons_cons, List.map_cons, List.map_cons, List.sum_cons, List.sum_cons, List.sum_cons, ih ss (by simpa using h)]
   show f k + s + _ = _
   omega
theorem zip_fst (f : ai → Int) : ∀ (l : List ai) (ss : List Int), ss.length = l.length → ((l.zip ss).map fun p => f p.1) = l.map f := by
 intro l
 induction l with
 | nil => intro ss h; rfl
 | cons k ks ih =>
  intro ss h
  cases ss with
  | nil => simp at h
  | cons s ss => rw [List.zip_cons_cons, List.map_cons, List.map_cons, ih ss (by simpa using h)]
theorem CV {ax : Int} (hax : ax = 1 ∨ ax = 2) {r : dw} {b : Int} (h0 : 0 ≤ aV ax r + b) (h1 : aV ax r + b ≤ 100000) : aV ax (grow ax b r) = aV ax r + b ∧ aV (3 - ax) (grow ax b r) = aV (3 - ax) r := by
 rcases hax with rfl | rfl
 ·simp [aV, grow] at h0 h1 ⊢
  exact wp (by omega) (by omega)
 ·simp [aV, grow] at h0 h1 ⊢
  exact wp (by omega) (by omega)
theorem FT {c : ai} (h : dB c = true) : kJ c = true := by
 unfold dB at h
 simp only [Bool.and_eq_true] at h
 exact h.2
theorem XU {c : ai} (h : mf c = true) (hk : c.f0 = 2 ∨ c.f0 = 3) : c.f2 = 0 := by
 unfold mf at h
 simp only [Bool.and_eq_true, decide_eq_true_eq] at h
 exact (h.2 (by omega)).2
theorem Ud {ax : Int} (hax : ax = 1 ∨ ax = 2) : ∀ (N : Nat) (c : ai), sz c ≤ N → dB c = true → ∀ b, dH ax c ≤ aV ax c.f1 + b → aV ax c.f1 + b ≤ 10000 → ∀ x y, jW ⟨x, y, (grow ax b c.f1).f2, (grow ax b c.f1).f3⟩ = true → wR (b_ (fK ax c b) x y) := by
 intro N
 induction N with
 | zero => intro c h; rw [bZ] at h; omega
 | succ N ih =>
  intro c hc ht b hb1 hb2 x y hr
  have hm := lG ht
  have hok := nZ (pV hm)
  have hsm := m_ hm
  have hB := FT ht
  have hsz := bZ c
  have hlen := jJ c.f3
  rw [yM, jV]
  simp only []
  rcases y9 hok with ⟨h1, h2⟩ | ⟨h1, h2⟩
  ·rw [List.eq_nil_of_length_eq_zero h2, rE, lW]
   refine Fe ?_ ?_ (fun k hk => by cases hk)
   ·unfold mf at hok ⊢
    simp only [Bool.and_eq_true, decide_eq_true_eq, h1] at hok ⊢
    exact ⟨⟨⟨hr, by omega⟩, fun _ => ⟨rfl, (hok.1.2 trivial).2⟩⟩, fun h => by omega⟩
   ·unfold mD BM
    simp [h1]
  ·have SV : mD c = true := by rw [rZ, Bool.and_eq_true] at hB; exact hB.1
   obtain ⟨g1, g2⟩ := BJ SV h1 (by omega)
   have Fp : ∀ k, k ∈ c.f3 → sz k ≤ N ∧ dB k = true ∧ aU ax k = aV ax k.f1 - dH ax k ∧ 0 ≤ aV ax k.f1 - dH ax k ∧ 1 ≤ dH ax k ∧ aV ax k.f1 ≤ 10000 ∧ ∀ a, a = 1 ∨ a = 2 → 1 ≤ aV a k.f1 := fun k hk => by
    have q := Pure.xN ht hk
    have q2 := Pure.jP hax q
    have q3 := G6 hk
    exact ⟨by omega, q, q2.1, q2.2.1, q2.2.2.1, q2.2.2.2, fun a ha => (ng (sN (nZ (pV (lG q)))) ha).1⟩
   rw [XU hok h1]
   have hw1 : 0 ≤ aV ax c.f1 + b := by
    have := (Pure.jP hax ht).2.2.1
    omega
   have hgr := CV hax (r := c.f1) (b := b) hw1 (by omega)
   have fin : ∀ ss : List Int, ss.length = c.f3.length → kS ax c.f3 (Jy ax c.f0 c.f3 b) 0 = (c.f3.zip ss).map (fun p => fK ax p.1 p.2) → (∀ p, p ∈ c.f3.zip ss → dH ax p.1 ≤ aV ax p.1.f1 + p.2 ∧ aV ax p.1.f1 + p.2 ≤ 10000) →
     (c.f0 - 1 = ax → ss.sum = b) → (4 - c.f0 = ax → ∀ p, p ∈ c.f3.zip ss → p.2 = b) → wR ⟨c.f0, ⟨x, y, (grow ax b c.f1).f2, (grow ax b c.f1).f3⟩, 0, jg c.f0 (kS ax c.f3 (Jy ax c.f0 c.f3 b) 0) x y⟩ := by
    intro ss hss MG hp hal hcr
    have hf1 : ∀ p : ai × Int, (fK ax p.1 p.2).f1 = grow ax p.2 p.1.f1 := fun p => by rw [yM]
    have hpk : ∀ p, p ∈ c.f3.zip ss → p.1 ∈ c.f3 := fun p hq => (List.of_mem_zip hq).1
    have hps : ∀ p, p ∈ c.f3.zip ss → aV ax (fK ax p.1 p.2).f1 = aV ax p.1.f1 + p.2 ∧ aV (3 - ax) (fK ax p.1 p.2).f1 = aV (3 - ax) p.1.f1 := fun p hq => by
     rw [hf1]
     have := (Fp _ (hpk p hq)).2.2.2.2.1
     have := hp p hq
     exact CV hax (by omega) (by omega)
    rw [MG]
    refine Jw c.f0 ⟨x, y, (grow ax b c.f1).f2, (grow ax b c.f1).f3⟩ _ h1 hr (by simp [hss]; omega) (by simp [hss]; omega) ?_ ?_ ?_
    ·have e0 : ∀ a, aV a ⟨x, y, (grow ax b c.f1).f2, (grow ax b c.f1).f3⟩ = aV a (grow ax b c.f1) := fun a => rfl
     rw [e0, List.map_map, List.length_map, List.length_zip, hss, Nat.min_self]
     by_cases e : c.f0 - 1 = ax
     ·rw [e] at g1 ⊢
      have e2 : List.map ((fun k => aV ax k.f1) ∘ fun p : ai × Int => fK ax p.1 p.2) (c.f3.zip ss) = List.map (fun p => aV ax p.1.f1 + p.2) (c.f3.zip ss) := List.map_congr_left (fun p hq => (hps p hq).1)
      rw [hgr.1, e2, PM (fun k => aV ax k.f1) _ _ hss, hal e]
      omega
     ·have e2 : c.f0 - 1 = 3 - ax := by omega
      rw [e2] at g1 ⊢
      have e3 : List.map ((fun k => aV (3 - ax) k.f1) ∘ fun p : ai × Int => fK ax p.1 p.2) (c.f3.zip ss) = List.map (fun p => aV (3 - ax) p.1.f1) (c.f3.zip ss) := List.map_congr_left (fun p hq => (hps p hq).2)
      rw [hgr.2, e3, zip_fst (fun k => aV (3 - ax) k.f1) _ _ hss]
      exact g1
    ·intro k hk
     obtain ⟨p, hq, rfl⟩ := List.mem_map.1 hk
     have q1 := hps p hq
     have q2 := Fp _ (hpk p hq)
     have q3 := hp p hq
     have q4 := g2 _ (hpk p hq)
     have e0 : ∀ a, aV a ⟨x, y, (grow ax b c.f1).f2, (grow ax b c.f1).f3⟩ = aV a (grow ax b c.f1) := fun a => rfl
     rw [e0]
     by_cases e : c.f0 - 1 = ax
     ·rw [show 4 - c.f0 = 3 - ax by omega, e, hgr.2, q1.1, q1.2]
      rw [show 3 - (c.f0 - 1) = 3 - ax by omega] at q4
      exact ⟨by omega, q4⟩
     ·have e2 : c.f0 - 1 = 3 - ax := by omega
      have e3 : 4 - c.f0 = ax := by omega
      rw [e2, e3, hgr.1, q1.1, q1.2]
      rw [show 3 - (c.f0 - 1) = ax by omega] at q4
      exact ⟨q2.2.2.2.2.2.2 _ (by omega), by rw [q4, hcr e3 p hq]⟩
    ·intro k hk x' y' hm2
     obtain ⟨p, hq, rfl⟩ := List.mem_map.1 hk
     have q2 := Fp _ (hpk p hq)
     have q3 := hp p hq
     rw [hf1] at hm2
     exact ih p.1 q2.1 q2.2.1 p.2 q3.1 q3.2 x' y' hm2
   have hrs := ng hr hax
   rw [show aV ax ⟨x, y, (grow ax b c.f1).f2, (grow ax b c.f1).f3⟩ = aV ax (grow ax b c.f1) from rfl, hgr.1] at hrs
   by_cases e : c.f0 - 1 = ax
   ·have ha : fM ax c.f0 = true := by
     unfold fM
     simp
     omega
    have hgs : c.f3.map (aU ax) = c.f3.map (fun k => aV ax k.f1 - dH ax k) := List.map_congr_left (fun k hk => (Fp k hk).2.2.1)
    have hsub : ∀ l : List ai, (l.map (fun k => aV ax k.f1 - dH ax k)).sum = (l.map (fun k => aV ax k.f1)).sum - l9 ax l := by
     intro l
     induction l with
     | nil => rw [rY]; rfl
     | cons k ks ihk => rw [List.map_cons, List.map_cons, List.sum_cons, List.sum_cons, oV, ihk]; omega
    rw [qf, if_neg (by omega), ha, if_pos rfl] at hb1
    rw [e] at g1
    obtain ⟨s1, s2, s3, s4⟩ := ad3 (b := b) (gs := c.f3.map (aU ax)) (by simp; omega) (by have := ng (sN hok) hax; omega) (by have := ng (sN hok) hax; omega) (fun g hg => by
     obtain ⟨k, hk, rfl⟩ := List.mem_map.1 hg
     have := Fp k hk
     omega) (fun h => by rw [List.map_eq_nil_iff] at h; rw [h] at h2; simp at h2) (by rw [hgs, hsub]; omega)
    rw [List.length_map] at s2
    have hz : ∀ p, p ∈ c.f3.zip (qK b (c.f3.map (aU ax))).1 → -(aU ax p.1) ≤ p.2 := fun p hp => s4 (aU ax p.1, p.2) (by
     rw [List.zip_map_left]
     exact List.mem_map.2 ⟨p, hp, rfl⟩)
    have hle : ∀ p, p ∈ c.f3.zip (qK b (c.f3.map (aU ax))).1 → dH ax p.1 ≤ aV ax p.1.f1 + p.2 := fun p hp => by
     have q1 := hz p hp
     have q2 := Fp p.1 (List.of_mem_zip hp).1
     omega
    refine fin (qK b (c.f3.map (aU ax))).1 s2 (La ax _ _ _ _ s2 (fun j hj => ?_)) (fun p hp => ⟨hle p hp, ?_⟩) (fun _ => s3) (fun h => by omega)
    ·rw [Nat.zero_add]
     unfold Jy
     rw [if_pos ⟨s1, ha⟩]
     rfl
    ·
     have q := PM (fun k => aV ax k.f1) c.f3 (qK b (c.f3.map (aU ax))).1 s2
     rw [s3] at q
     obtain ⟨u, v, huv⟩ := List.append_of_mem hp
     have hpos : ∀ z : List (ai × Int), (∀ p, p ∈ z → p ∈ c.f3.zip (qK b (c.f3.map (aU ax))).1) → 0 ≤ (z.map fun p => aV ax p.1.f1 + p.2).sum := by
      intro z
      induction z with
      | nil => intro _; simp
      | cons w ws ihw =>
       intro hw
       have a1 := ihw (fun p hp => hw p (by simp [hp]))
       have a2 := hle w (hw w (by simp))
       have a3 := (Fp w.1 (List.of_mem_zip (hw w (by simp))).1).2.2.2.2.1
       rw [List.map_cons, List.sum_cons]
       omega
     have p1 := hpos u (fun p hp => by rw [huv]; simp [hp])
     have p2 := hpos v (fun p hp => by rw [huv]; simp [hp])
     rw [huv, List.map_append, List.map_cons, List.sum_append, List.sum_cons] at q
     omega
   ·have ha : fM ax c.f0 = false := by
     unfold fM
     simp
     omega
    have e3 : 4 - c.f0 = ax := by omega
    rw [qf, if_neg (by omega), ha, if_neg (by simp)] at hb1
    have afi : ∀ k, k ∈ c.f3 → dH ax k ≤ lJ ax 0 c.f3 := fun k hk => by
     obtain ⟨u, v, huv⟩ := List.append_of_mem hk
     rw [huv, Um, kF]
     exact Int.le_trans (Uf _ _) Nl
    have hrep : ∀ p, p ∈ c.f3.zip (List.replicate c.f3.length b) → p.2 = b := fun p hp => (List.mem_replicate.1 (List.of_mem_zip hp).2).2
    refine fin (List.replicate c.f3.length b) (by simp) (La ax _ _ _ _ (by simp) (fun j hj => ?_)) (fun p hp => ?_) (fun h => absurd h e) (fun _ => hrep)
    ·unfold Jy
     rw [if_neg (by rw [ha]; simp)]
     simp [List.getD_eq_getElem?_getD, hj]
    ·have q := (List.of_mem_zip hp).1
     rw [hrep p hp]
     have q1 := afi p.1 q
     have q2 := g2 p.1 q
     rw [show 3 - (c.f0 - 1) = ax by omega] at q2
     omega
mutual
inductive nS : ai → ai → Prop
 | node (a : Int) (r r' : dw) (d : Int) (l l' : List ai) : r_ l l' → nS ⟨a, r, d, l⟩ ⟨a, r', d, l'⟩
inductive r_ : List ai → List ai → Prop
 | nil : r_ [] []
 | cons {k k' : ai} {l l' : List ai} : nS k k' → r_ l l' → r_ (k :: l) (k' :: l')
end
def tag (d : ai) : Int × Int := (d.f0, d.f2)
mutual
theorem Dw : ∀ {c d : ai}, nS c d → (fP c).map tag = (fP d).map tag
 | _, _, .node a r r' d l l' h => by
  rw [pJ, pJ, List.map_cons, List.map_cons]
  exact congr (congrArg List.cons rfl) (Ju h)
theorem Ju : ∀ {l l' : List ai}, r_ l l' → (allL l).map tag = (allL l').map tag
 | _, _, .nil => rfl
 | _, _, .cons h hs => by rw [lF, lF, List.map_append, List.map_append, Dw h, Ju hs]
end
theorem Js : ∀ {l l' : List ai}, r_ l l' → l.length = l'.length
 | _, _, .nil => rfl
 | _, _, .cons _ hs => by rw [List.length_cons, List.length_cons, Js hs]
mutual
theorem wV {ax : Int} : ∀ {c d : ai}, nS c d → dH ax c = dH ax d
 | _, _, .node a r r' d l l' h => by
  rw [qf, qf]
  simp only []
  rw [Js h, Jt h, Gz h]
theorem Jt {ax : Int} : ∀ {l l' : List ai}, r_ l l' → l9 ax l = l9 ax l'
 | _, _, .nil => rfl
 | _, _, .cons h hs => by rw [oV, oV, wV h, Jt hs]
theorem Gz {ax : Int} : ∀ {l l' : List ai} {m : Int}, r_ l l' → lJ ax m l = lJ ax m l'
 | _, _, _, .nil => rfl
 | _, _, _, .cons h hs => by rw [kF, kF, wV h, Gz hs]
end
theorem Fz {c d : ai} (h : nS c d) : sz c = sz d := by
 have := congrArg List.length (Dw h)
 rwa [List.length_map, List.length_map] at this
theorem QD : ∀ (N : Nat), (∀ c : ai, sz c ≤ N → ∀ d e, nS c d → nS d e → nS c e) ∧ (∀ l : List ai, dN l ≤ N → ∀ m n, r_ l m → r_ m n → r_ l n) := by
 intro N
 induction N with
 | zero =>
  refine ⟨fun c h => by rw [bZ] at h; omega, fun l h m n h1 h2 => ?_⟩
  cases h1 with
  | nil => exact h2
  | cons a b => rw [bU, bZ] at h; omega
 | succ N ih =>
  have hC : ∀ c : ai, sz c ≤ N + 1 → ∀ d e, nS c d → nS d e → nS c e := by
   intro c h d e h1 h2
   cases h1 with
   | node a r r' i l l' h3 =>
    cases h2 with
    | node _ _ r2 _ _ l2 h4 => exact .node _ _ _ _ _ _ (ih.2 l (by rw [bZ] at h; simp only [] at h; omega) _ _ h3 h4)
  refine ⟨hC, fun l => ?_⟩
  induction l with
  | nil => intro _ m n h1 h2; cases h1; exact h2
  | cons x xs ihl =>
   intro h m n h1 h2
   rw [bU] at h
   cases h1 with
   | cons a b =>
    cases h2 with
    | cons a2 b2 => exact .cons (hC x (by omega) _ _ a a2) (ihl (by omega) _ _ b b2)
theorem Vg (ax : Int) : ∀ (N : Nat), (∀ c : ai, sz c ≤ N → ∀ b, nS c (fK ax c b)) ∧ (∀ l : List ai, dN l ≤ N → ∀ ns i, r_ l (kS ax l ns i)) := by
 intro N
 induction N with
 | zero =>
  refine ⟨fun c h => by rw [bZ] at h; omega, fun l h ns i => ?_⟩
  cases l with
  | nil => rw [rE]; exact .nil
  | cons x xs => rw [bU, bZ] at h; omega
 | succ N ih =>
  have hC : ∀ c : ai, sz c ≤ N + 1 → ∀ b, nS c (fK ax c b) := by
   intro c h b
   rw [yM]
   obtain ⟨a, r, d, l⟩ := c
   exact .node _ _ _ _ _ _ (ih.2 l (by rw [bZ] at h; simp only [] at h; omega) _ _)
  refine ⟨hC, fun l => ?_⟩
  induction l with
  | nil => intro _ ns i; rw [rE]; exact .nil
  | cons x xs ihl =>
   intro h ns i
   rw [bU] at h
   rw [uN]
   exact .cons (hC x (by omega) _) (ihl (by omega) _ _)
theorem FO : ∀ (N : Nat), (∀ c : ai, sz c ≤ N → ∀ x y, nS c (b_ c x y)) ∧ (∀ l : List ai, dN l ≤ N → ∀ a x y, r_ l (jg a l x y)) := by
 intro N
 induction N with
 | zero =>
  refine ⟨fun c h => by rw [bZ] at h; omega, fun l h a x y => ?_⟩
  cases l with
  | nil => rw [lW]; exact .nil
  | cons x xs => rw [bU, bZ] at h; omega
 | succ N ih =>
  have hC : ∀ c : ai, sz c ≤ N + 1 → ∀ x y, nS c (b_ c x y) := by
   intro c h x y
   rw [jV]
   obtain ⟨a, r, d, l⟩ := c
   exact .node _ _ _ _ _ _ (ih.2 l (by rw [bZ] at h; simp only [] at h; omega) _ _ _)
  refine ⟨hC, fun l => ?_⟩
  induction l with
  | nil => intro _ a x y; rw [lW]; exact .nil
  | cons z zs ihl =>
   intro h a x y
   rw [bU] at h
   rw [ni]
   exact .cons (hC z (by omega) _ _) (ihl (by omega) _ _ _)
theorem LY : ∀ {a b : List ai}, a.map (·.f2) = b.map (·.f2) → eG a = eG b := by
 intro a
 induction a with
 | nil => intro b h; cases b with
  | nil => rfl
  | cons y ys => cases h
 | cons x xs ih =>
  intro b h
  cases b with
  | nil => cases h
  | cons y ys =>
   simp only [List.map_cons, List.cons.injEq] at h
   unfold eG
   rw [ih h.2, h.1]
   congr 1
   have e : ∀ l : List ai, (l.all fun z => decide (z.f2 ≠ y.f2)) = (l.map (·.f2)).all fun i => decide (i ≠ y.f2) := fun l => by rw [List.all_map]; rfl
   rw [e, e, h.2]
theorem Wl {c d : ai} (h : nS c d) : (lS c).map (·.f2) = (lS d).map (·.f2) := by
 have e : ∀ l : List ai, (l.filter fun x => decide (x.f0 = 1)).map (·.f2) = ((l.map tag).filter fun p => decide (p.1 = 1)).map (·.2) := by
  intro l
  induction l with
  | nil => rfl
  | cons x xs ih =>
   rw [List.map_cons, List.filter_cons, List.filter_cons]
   have ht : (decide ((tag x).1 = 1)) = decide (x.f0 = 1) := rfl
   rw [ht]
   cases decide (x.f0 = 1) with
   | true => simp only [if_true, List.map_cons, ih]; rfl
   | false => simp only [Bool.false_eq_true, if_false, ih]
 unfold lS
 rw [e, e, Dw h]
theorem GH {c d : ai} (h : nS c d) (hc : dB c = true) (hd : wR d) : dB d = true := by
 have hm := lG hc
 unfold kV at hm
 simp only [Bool.and_eq_true, decide_eq_true_eq] at hm
 unfold dB kV
 rw [hd.1, hd.2, decide_eq_true (by rw [← Fz h]; exact hm.1), ← LY (Wl h), hm.2.2]
 rfl
theorem WX : ∀ (N : Nat) (c : ai), sz c ≤ N → dB c = true → ∀ x y, jW ⟨x, y, c.f1.f2, c.f1.f3⟩ = true → wR (b_ c x y) := by
 intro N
 induction N with
 | zero => intro c h; rw [bZ] at h; omega
 | succ N ih =>
  intro c hc ht x y hr
  have hm := lG ht
  have hok := nZ (pV hm)
  have hsm := m_ hm
  have hB := FT ht
  have hsz := bZ c
  have hlen := jJ c.f3
  rw [jV]
  rcases y9 hok with ⟨h1, h2⟩ | ⟨h1, h2⟩
  ·rw [List.eq_nil_of_length_eq_zero h2, lW]
   refine Fe ?_ ?_ (fun k hk => by cases hk)
   ·unfold mf at hok ⊢
    simp only [Bool.and_eq_true, decide_eq_true_eq, h1] at hok ⊢
    exact ⟨⟨⟨hr, by omega⟩, fun _ => ⟨rfl, (hok.1.2 trivial).2⟩⟩, fun h => by omega⟩
   ·unfold mD BM
    simp [h1]
  ·have SV : mD c = true := by rw [rZ, Bool.and_eq_true] at hB; exact hB.1
   obtain ⟨g1, g2⟩ := BJ SV h1 (by omega)
   rw [XU hok h1]
   refine Jw c.f0 ⟨x, y, c.f1.f2, c.f1.f3⟩ c.f3 h1 hr h2 (by omega) g1 (fun k hk => ?_) (fun k hk x' y' hm2 => ?_)
   ·have q := Pure.xN ht hk
    have r := sN (nZ (pV (lG q)))
    refine ⟨(ng r (by omega)).1, ?_⟩
    have := g2 k hk
    rwa [show 3 - (c.f0 - 1) = 4 - c.f0 by omega] at this
   ·exact ih k (by have := G6 hk; omega) (Pure.xN ht hk) x' y' hm2
theorem UM {c : ai} (h : dB c = true) {x y : Int} (hr : jW ⟨x, y, c.f1.f2, c.f1.f3⟩ = true) : dB (b_ c x y) = true :=
 GH ((FO (sz c)).1 c (Nat.le_refl _) x y) h (WX _ c (Nat.le_refl _) h x y hr)
noncomputable def xZ (ax n : Int) (k : ai) : ai := aZ ax (b_ k 0 0) n
theorem RQ {ax n : Int} {k : ai} (hax : ax = 1 ∨ ax = 2) (ht : dB k = true) (h0 : -(aU ax k) ≤ n) (h1 : aV ax k.f1 + n ≤ 10000) :
  dB (xZ ax n k) = true ∧ aV ax (xZ ax n k).f1 = aV ax k.f1 + n ∧ aU ax (xZ ax n k) = aU ax k + n ∧ sz (xZ ax n k) = sz k := by
 have hm := lG ht
 have hr := uS.1 (show o7 k.f1.f0 k.f1.f1 k.f1.f2 k.f1.f3 = true from sN (nZ (pV hm)))
 have g := Pure.jP hax ht
 have hz : jW ⟨0, 0, k.f1.f2, k.f1.f3⟩ = true := show o7 0 0 k.f1.f2 k.f1.f3 = true from uS.2 (by omega)
 have ht0 := UM ht hz
 have e0 : (b_ k 0 0).f1 = ⟨0, 0, k.f1.f2, k.f1.f3⟩ := by rw [jV]
 have es : ∀ a, aV a (b_ k 0 0).f1 = aV a k.f1 := fun a => by rw [e0]; rfl
 have hl0 := (FO (sz k)).1 k (Nat.le_refl _) 0 0
 have g0 := Pure.jP hax ht0
 have el : dH ax (b_ k 0 0) = dH ax k := (wV hl0).symm
 rw [es, el] at g0
 have hsz : aV ax k.f1 = k.f1.f2 ∨ aV ax k.f1 = k.f1.f3 := by unfold aV; rcases hax with h | h <;> simp [h]
 have hbad : xX ax (b_ k 0 0) = false := by
  unfold xX
  rw [ht0]
  rcases hax with h | h <;> simp [h]
 have hout : xY ax (b_ k 0 0) n = false := by
  unfold xY
  rw [g0.1, e0]
  simp only []
  have hw : wrap64 (-(aV ax k.f1 - dH ax k)) = -(aV ax k.f1 - dH ax k) := by unfold wrap64; omega
  have hs : aV ax ⟨0, 0, wrap64 (0 + k.f1.f2), wrap64 (0 + k.f1.f3)⟩ = aV ax k.f1 := by
   rw [show wrap64 (0 + k.f1.f2) = k.f1.f2 by unfold wrap64; omega, show wrap64 (0 + k.f1.f3) = k.f1.f3 by unfold wrap64; omega]
   rfl
  rw [hs, show wrap64 (10000 - aV ax k.f1) = 10000 - aV ax k.f1 by unfold wrap64; omega, hw]
  rw [decide_eq_false (by omega), decide_eq_false (by omega)]
  rfl
 have MG : xZ ax n k = b_ (fK ax (b_ k 0 0) n) 0 0 := by
  unfold xZ aZ
  rw [hbad, hout, e0]
  simp
 have hgr := CV hax (r := (b_ k 0 0).f1) (b := n) (by rw [es]; omega) (by rw [es]; omega)
 have ef1 : (fK ax (b_ k 0 0) n).f1 = grow ax n (b_ k 0 0).f1 := by rw [yM]
 have eg : (xZ ax n k).f1 = ⟨0, 0, (grow ax n (b_ k 0 0).f1).f2, (grow ax n (b_ k 0 0).f1).f3⟩ := by rw [MG, jV, ef1]
 have hsize : aV ax (xZ ax n k).f1 = aV ax k.f1 + n := by rw [eg]; rw [es] at hgr; exact hgr.1
 have hmay : jW ⟨0, 0, (grow ax n (b_ k 0 0).f1).f2, (grow ax n (b_ k 0 0).f1).f3⟩ = true := by
  show o7 0 0 (grow ax n (b_ k 0 0).f1).f2 (grow ax n (b_ k 0 0).f1).f3 = true
  refine uS.2 ?_
  have h3 := hgr.1
  have h4 := hgr.2
  rw [es] at h3 h4
  generalize grow ax n (b_ k 0 0).f1 = G at h3 h4 ⊢
  have h5 : 1 ≤ aV ax k.f1 + n := by omega
  unfold aV at h3 h4 h1 h5
  rcases hax with rfl | rfl
  ·simp at h3 h4 h1 h5; omega
  ·simp at h3 h4 h1 h5; omega
 have aff : wR (xZ ax n k) := by
  rw [MG]
  exact Ud hax _ (b_ k 0 0) (Nat.le_refl _) ht0 n (by rw [es, el]; omega) (by rw [es]; omega) 0 0 hmay
 have hl1 : nS (b_ k 0 0) (xZ ax n k) := by
  rw [MG]
  exact (QD _).1 _ (Nat.le_refl _) _ _ ((Vg ax _).1 _ (Nat.le_refl _) n) ((FO _).1 _ (Nat.le_refl _) 0 0)
 have htt := GH hl1 ht0 aff
 have g1 := Pure.jP hax htt
 refine ⟨htt, hsize, ?_, by rw [← Fz hl1, ← Fz hl0]⟩
 rw [g1.1, hsize, ← wV hl1, el, g.1]
 omega
def kd (L : List ai) (i : Nat) : ai := L.getD i z26
theorem rP {L : List ai} {i : Nat} (h : i < L.length) : kd L i ∈ L := by
 unfold kd
 rw [List.getD_eq_getElem?_getD, List.getElem?_eq_getElem h, Option.getD_some]
 exact List.getElem_mem _
theorem Eg (L : List ai) (i : Nat) : az L (i : Int) = kd L i := by unfold kd az; rw [Int.toNat_natCast]
theorem Na {L : List ai} {i j : Nat} {k : ai} (h : i < L.length) : kd (L.set i k) j = if j = i then k else kd L j := by
 unfold kd
 rw [List.getD_eq_getElem?_getD, List.getD_eq_getElem?_getD, List.getElem?_set]
 by_cases e : i = j
 ·subst e; rw [if_pos rfl, if_pos rfl, if_pos h]; rfl
 ·rw [if_neg e, if_neg (fun x => e x.symm)]
theorem aaA (f : ai → Int) : ∀ {L : List ai} {i : Nat} {k : ai}, i < L.length → ((L.set i k).map f).sum = (L.map f).sum - f (kd L i) + f k := by
 intro L
 induction L with
 | nil => intro i k h; simp at h
 | cons x xs ih =>
  intro i k h
  cases i with
  | zero => simp only [List.set_cons_zero, List.map_cons, List.sum_cons]; show _ = f x + _ - f x + f k; omega
  | succ i =>
   simp only [List.set_cons_succ, List.map_cons, List.sum_cons]
   rw [ih (by simpa using h)]
   show _ = f x + _ - f (kd xs i) + f k
   omega
theorem Xa : ∀ {L : List ai} {i : Nat} {k : ai}, i < L.length → sz k = sz (kd L i) → dN (L.set i k) = dN L := by
 intro L
 induction L with
 | nil => intro i k h; simp at h
 | cons x xs ih =>
  intro i k h hs
  cases i with
  | zero => rw [List.set_cons_zero, bU, bU, hs]; rfl
  | succ i => rw [List.set_cons_succ, bU, bU, ih (by simpa using h) hs]
theorem adF {f : ai → Int} : ∀ {L : List ai}, (∀ k, k ∈ L → 0 ≤ f k) → ∀ k, k ∈ L → f k ≤ (L.map f).sum := by
 intro L
 induction L with
 | nil => intro _ k h; cases h
 | cons x xs ih =>
  intro h k hk
  have h0 : ∀ l : List ai, (∀ k, k ∈ l → 0 ≤ f k) → 0 ≤ (l.map f).sum := by
   intro l
   induction l with
   | nil => intro _; exact Int.le_refl _
   | cons y ys ihl =>
    intro h
    have := h y (by simp)
    have := ihl (fun k hk => h k (by simp [hk]))
    rw [List.map_cons, List.sum_cons]
    omega
  rw [List.map_cons, List.sum_cons]
  have h1 := h x (by simp)
  have h2 := h0 xs (fun k hk => h k (by simp [hk]))
  rcases List.mem_cons.1 hk with rfl | hk
  ·omega
  ·have := ih (fun k hk => h k (by simp [hk])) k hk; omega
noncomputable def dL (ax : Int) (i : Nat) (n : Int) (L : List ai) : List ai := L.set i (xZ ax n (kd L i))
structure qR (ax s : Int) (L : List ai) : Prop where
 qC : ∀ k, k ∈ L → dB k = true
 sum : (L.map (fun k => aV ax k.f1)).sum = s
 small : s ≤ 10000
theorem qR.size {ax s : Int} {L : List ai} (hax : ax = 1 ∨ ax = 2) (h : qR ax s L) {k : ai} (hk : k ∈ L) : aV ax k.f1 ≤ s := by
 have := adF (f := fun k => aV ax k.f1) (fun k hk => by have := Pure.jP hax (h.qC k hk); omega) k hk
 rw [h.sum] at this
 exact this
theorem qR.move {ax s : Int} {L : List ai} (hax : ax = 1 ∨ ax = 2) (h : qR ax s L) {i : Nat} {n : Int} (hi : i < L.length) (h0 : -(aU ax (kd L i)) ≤ n) (h1 : s + n ≤ 10000) :
  qR ax (s + n) (dL ax i n L) ∧ aU ax (kd (dL ax i n L) i) = aU ax (kd L i) + n ∧ (∀ j, j ≠ i → kd (dL ax i n L) j = kd L j) ∧ (dL ax i n L).length = L.length ∧ dN (dL ax i n L) = dN L ∧ aV ax (kd (dL ax i n L) i).f1 = aV ax (kd L i).f1 + n := by
 have hm := rP hi
 have hs := h.size hax hm
 obtain ⟨k1, k2, k3, k4⟩ := RQ hax (h.qC _ hm) h0 (by omega)
 unfold dL
 refine ⟨⟨fun k hk => ?_, ?_, h1⟩, ?_, fun j hj => by rw [Na hi, if_neg hj], by rw [List.length_set], Xa hi k4, ?_⟩
 ·rcases List.mem_or_eq_of_mem_set hk with hk | rfl
  ·exact h.qC k hk
  ·exact k1
 ·rw [aaA _ hi, h.sum, k2]
  omega
 ·rw [Na hi, if_pos rfl, k3]
 ·rw [Na hi, if_pos rfl, k2]
structure uC (ax s : Int) (p N : Nat) (L0 L : List ai) (d : Int) : Prop where
 good : qR ax s L
 Ns : p < L.length
 d0 : 0 ≤ d
 dg : aU ax (kd L p) = aU ax (kd L0 p) + d
 ds : aV ax (kd L p).f1 = aV ax (kd L0 p).f1 + d
 z : dN L = N
 len : L.length = L0.length
theorem uC.start {ax s : Int} {p : Nat} {L : List ai} (h : qR ax s L) (hp : p < L.length) : uC ax s p (dN L) L L 0 := ⟨h, hp, Int.le_refl _, by omega, by omega, rfl, rfl⟩
theorem uC.small {ax s : Int} {p N : Nat} {L0 L : List ai} {d : Int} (hax : ax = 1 ∨ ax = 2) (h : uC ax s p N L0 L d) (h0 : 0 ≤ aU ax (kd L0 p)) : d ≤ 9999 := by
 have := Pure.jP hax (h.good.qC _ (rP h.Ns))
 have := h.dg
 omega
theorem uC.step {ax s : Int} {p N : Nat} {L0 L : List ai} {d n : Int} {i : Nat} (hax : ax = 1 ∨ ax = 2) (h : uC ax s p N L0 L d) (hi : i < L.length) (hne : i ≠ p) (hn0 : 0 ≤ n) (hn : n ≤ aU ax (kd L i)) :
  uC ax s p N L0 (dL ax p n (dL ax i (-n) L)) (d + n) := by
 obtain ⟨a1, a2, a3, a4, a5, a6⟩ := h.good.move hax hi (n := -n) (by omega) (by have := h.good.small; omega)
 have hp : p < (dL ax i (-n) L).length := by rw [a4]; exact h.Ns
 have e := a3 p (fun e => hne e.symm)
 have hg := Pure.jP hax (h.good.qC _ (rP h.Ns))
 obtain ⟨b1, b2, b3, b4, b5, b6⟩ := a1.move hax hp (n := n) (by rw [e]; omega) (by have := h.good.small; omega)
 have hd := h.dg
 have hs := h.ds
 have h0 := h.d0
 refine ⟨?_, by rw [b4]; exact hp, by omega, by rw [b2, e]; omega, by rw [b6, e]; omega, by rw [b5, a5]; exact h.z, by rw [b4, a4]; exact h.len⟩
 have e2 : s + -n + n = s := by omega
 rw [e2] at b1
 exact b1
def Jk (p : Nat → Bool) : Nat → Nat → Option Nat
 | 0, _ => none
 | f + 1, i => if p i = true then some i else Jk p f (i + 1)
def oM (p : Nat → Bool) : Nat → Option Nat
 | 0 => none
 | n + 1 => if p n = true then some n else oM p n
noncomputable def qw (ax : Int) (L : List ai) (i : Nat) : Bool := decide (0 < aU ax (kd L i))
noncomputable def mJ (ax : Int) (q : Nat) (m : Bool) (L : List ai) : Option Nat :=
 match (if m = true then Jk (qw ax L) (L.length - (q + 1)) (q + 1) else none) with
 | some i => some i
 | none => oM (qw ax L) (if m = true then q else q + 1)
theorem VR {p : Nat → Bool} : ∀ {f i j : Nat}, Jk p f i = some j → i ≤ j ∧ j < i + f ∧ p j = true := by
 intro f
 induction f with
 | zero => intro i j h; cases h
 | succ f ih =>
  intro i j h
  unfold Jk at h
  split at h
  ·rename_i hp; injection h with h; subst h; exact ⟨Nat.le_refl _, by omega, hp⟩
  ·obtain ⟨a, b, c⟩ := ih h; exact ⟨by omega, by omega, c⟩
theorem Ff {p : Nat → Bool} : ∀ {n j : Nat}, oM p n = some j → j < n ∧ p j = true := by
 intro n
 induction n with
 | zero => intro j h; cases h
 | succ n ih =>
  intro j h
  unfold oM at h
  split at h
  ·rename_i hp; injection h with h; subst h; exact ⟨by omega, hp⟩
  ·obtain ⟨a, b⟩ := ih h; exact ⟨by omega, b⟩
def place (q : Nat) (m : Bool) : Nat := if m = true then q else q + 1
theorem BF {ax : Int} {q : Nat} {m : Bool} {L : List ai} {i : Nat} (h : mJ ax q m L = some i) (hq : q + 1 < L.length) : i < L.length ∧ i ≠ place q m ∧ 0 < aU ax (kd L i) := by
 unfold mJ at h
 unfold place
 cases m with
 | true =>
  simp only [if_true] at h ⊢
  cases hu : Jk (qw ax L) (L.length - (q + 1)) (q + 1) with
  | some j =>
   rw [hu] at h
   injection h with h
   subst h
   obtain ⟨a, b, c⟩ := VR hu
   exact ⟨by omega, by omega, by simpa [qw] using c⟩
  | none =>
   rw [hu] at h
   obtain ⟨a, b⟩ := Ff h
   exact ⟨by omega, by omega, by simpa [qw] using b⟩
 | false =>
  simp only [Bool.false_eq_true, if_false] at h ⊢
  obtain ⟨a, b⟩ := Ff h
  exact ⟨by omega, by omega, by simpa [qw] using b⟩
noncomputable def ig (ax : Int) (q : Nat) (m : Bool) (left : Int) : Nat → List ai → Int → List ai × Int
 | 0, L, d => (L, d)
 | f + 1, L, d => if left ≤ d then (L, d) else match mJ ax q m L with
  | none => (L, d)
  | some i => ig ax q m left f (dL ax (place q m) (mn (left - d) (aU ax (kd L i))) (dL ax i (-(mn (left - d) (aU ax (kd L i)))) L)) (d + mn (left - d) (aU ax (kd L i)))
theorem uq {ax : Int} {q : Nat} {m : Bool} {left : Int} {f : Nat} {L : List ai} {d : Int} (h : left ≤ d) : ig ax q m left f L d = (L, d) := by
 cases f with
 | zero => rfl
 | succ f => unfold ig; rw [if_pos h]
theorem zT {ax : Int} {q : Nat} {m : Bool} {left : Int} {f : Nat} {L : List ai} {d : Int} (h : mJ ax q m L = none) : ig ax q m left f L d = (L, d) := by
 cases f with
 | zero => rfl
 | succ f => unfold ig; rw [h]; split <;> rfl
theorem wX {ax : Int} {q : Nat} {m : Bool} {left : Int} {f : Nat} {L : List ai} {d : Int} {i : Nat} (hl : ¬ left ≤ d) (h : mJ ax q m L = some i) :
  ig ax q m left (f + 1) L d = ig ax q m left f (dL ax (place q m) (mn (left - d) (aU ax (kd L i))) (dL ax i (-(mn (left - d) (aU ax (kd L i)))) L)) (d + mn (left - d) (aU ax (kd L i))) := by
 rw [ig, if_neg hl, h]
theorem adJ (a b : Int) : mn a b ≤ a := by unfold mn; split <;> omega
theorem adK (a b : Int) : mn a b ≤ b := by unfold mn; split <;> omega
theorem adL {a b : Int} (h : 0 < a) (k : 0 < b) : 0 < mn a b := by unfold mn; split <;> omega
theorem QM {ax s : Int} (hax : ax = 1 ∨ ax = 2) {q : Nat} {m : Bool} {left : Int} {N : Nat} {L0 : List ai} : ∀ (f : Nat) (L : List ai) (d : Int), uC ax s (place q m) N L0 L d → q + 1 < L.length →
  uC ax s (place q m) N L0 (ig ax q m left f L d).1 (ig ax q m left f L d).2 ∧ d ≤ (ig ax q m left f L d).2 ∧ (d ≤ left → (ig ax q m left f L d).2 ≤ left) := by
 intro f
 induction f with
 | zero => intro L d h _; exact ⟨h, Int.le_refl _, fun h => h⟩
 | succ f ih =>
  intro L d h hq
  by_cases hl : left ≤ d
  ·rw [uq hl]; exact ⟨h, Int.le_refl _, fun h => h⟩
  ·cases hg : mJ ax q m L with
   | none => rw [zT hg]; exact ⟨h, Int.le_refl _, fun h => h⟩
   | some i =>
    rw [wX hl hg]
    obtain ⟨g1, g2, g3⟩ := BF hg hq
    have n0 := adL (a := left - d) (b := aU ax (kd L i)) (by omega) g3
    have n1 := adJ (left - d) (aU ax (kd L i))
    have h2 := h.step hax g1 g2 (Int.le_of_lt n0) (adK _ _)
    obtain ⟨a, b, c⟩ := ih _ _ h2 (by rw [h2.len, ← h.len]; exact hq)
    exact ⟨a, by omega, fun _ => c (by omega)⟩
def qP (ax : Int) (c : ai) (p : List Int) (d : Nat) : Bool := match jE c (p.take d) with
 | some z => fM ax z.f0
 | none => false
def Ew (ax : Int) (c : ai) (p : List Int) : Option Nat := oM (qP ax c p) p.length
theorem CO : ∀ (p : List Int) (c x : ai), jE c p = some x → ∀ d, d < p.length → ∃ z, jE c (p.take d) = some z ∧ 0 ≤ rd p (d : Int) ∧ rd p (d : Int) < (z.f3.length : Int) := by
 intro p
 induction p with
 | nil => intro c x _ d h; simp at h
 | cons i is ih =>
  intro c x h d hd
  simp only [jE] at h
  split at h
  ·cases h
  ·rename_i hi
   cases d with
   | zero =>
    refine ⟨c, rfl, ?_⟩
    have e : rd (i :: is) ((0 : Nat) : Int) = i := rfl
    rw [e]
    omega
   | succ d =>
    obtain ⟨z, h1, h2⟩ := ih _ x h d (by simpa using hd)
    refine ⟨z, ?_, ?_⟩
    ·rw [List.take_succ_cons]
     simp only [jE]
     rw [if_neg hi]
     exact h1
    ·have e : rd (i :: is) ((d + 1 : Nat) : Int) = rd is (d : Int) := by unfold rd; rw [Int.toNat_natCast, Int.toNat_natCast]; rfl
     rw [e]
     exact h2
theorem Vm : ∀ (p : List Int) (c z : ai), dB c = true → jE c p = some z → dB z = true := by
 intro p
 induction p with
 | nil => intro c z h e; simp only [jE] at e; injection e with e; rwa [← e]
 | cons i is ih =>
  intro c z h e
  simp only [jE] at e
  split at e
  ·cases e
  ·rename_i hi
   exact ih _ z (Pure.xN h (GU c.f3 i (by omega) (by omega))) e
structure yK (ax : Int) (c : ai) (p : List Int) (d : Nat) (z : ai) (q : Nat) : Prop where
 hd : d < p.length
 at' : jE c (p.take d) = some z
 al : fM ax z.f0 = true
 i0 : 0 ≤ rd p (d : Int)
 i1 : rd p (d : Int) < (z.f3.length : Int)
 len : 2 ≤ z.f3.length
 hq : (q : Int) = mn (rd p (d : Int)) ((z.f3.length : Int) - 2)
theorem yK.next {ax : Int} {c : ai} {p : List Int} {d : Nat} {z : ai} {q : Nat} (h : yK ax c p d z q) : q + 1 < z.f3.length := by
 have h1 := h.hq
 have h2 := h.len
 unfold mn at h1
 split at h1 <;> omega
theorem Qj {ax : Int} {c : ai} {p : List Int} {x : ai} {d : Nat} (hc : dB c = true) (hx : jE c p = some x) (h : Ew ax c p = some d) : ∃ z q, yK ax c p d z q ∧ dB z = true := by
 obtain ⟨h1, h2⟩ := Ff h
 obtain ⟨z, e, i0, i1⟩ := CO p c x hx d h1
 unfold qP at h2
 rw [e] at h2
 simp only [] at h2
 have ht := Vm _ c z hc e
 have hk := y9 (nZ (pV (lG ht)))
 have hl : 2 ≤ z.f3.length := by
  rcases hk with ⟨a, _⟩ | ⟨_, b⟩
  ·unfold fM at h2; simp [a] at h2
  ·exact b
 refine ⟨z, (mn (rd p (d : Int)) ((z.f3.length : Int) - 2)).toNat, ⟨h1, e, h2, i0, i1, hl, ?_⟩, ht⟩
 have : 0 ≤ mn (rd p (d : Int)) ((z.f3.length : Int) - 2) := by unfold mn; split <;> omega
 omega
theorem Qi {ax : Int} {z : ai} (hax : ax = 1 ∨ ax = 2) (ht : dB z = true) (ha : fM ax z.f0 = true) : qR ax (aV ax z.f1 - ((z.f3.length : Int) - 1)) z.f3 := by
 have hm := lG ht
 have hB := FT ht
 have SV : mD z = true := by rw [rZ, Bool.and_eq_true] at hB; exact hB.1
 have hs := m_ hm
 have hz := bZ z
 have hl := jJ z.f3
 have e : z.f0 - 1 = ax ∧ (z.f0 = 2 ∨ z.f0 = 3) := by
  unfold fM at ha
  simp at ha
  omega
 obtain ⟨g1, _⟩ := BJ SV e.2 (by omega)
 rw [e.1] at g1
 have hg := Pure.jP hax ht
 have hk : 2 ≤ z.f3.length := by
  rcases y9 (nZ (pV hm)) with ⟨a, _⟩ | ⟨_, b⟩
  ·omega
  ·exact b
 exact ⟨fun k hk => Pure.xN ht hk, by omega, by omega⟩
noncomputable def yV (ax id : Int) (c : ai) : Int := if dB c = true ∧ (ax = 1 ∨ ax = 2) then (match gm id c with
 | none => 6
 | some p => match Ew ax c p with
  | none => 10
  | some _ => 0) else 1
end Go.Proofs.Ytfdmfgaiblfbhaa.P
namespace Go.Proofs.Ytfdmfgaiblfbhaa.P
open Go.RowKit Go.Proofs.ag.aQ Go.Proofs.ag.bu Go.Proofs.ag.bP
attribute [local go_sem] jo jU jC kH
def qL.T9 : Bool × List (List Nat × List Nat) := (true, [([], []), ([], []), ([], []), ([1, 2], [1, 2]), ([0, 3], [0, 3]), ([4], [4]), ([5], [5]), ([5], [5]), ([], []), ([8, 6, 4, 0, 1, 2, 3, 4, 5, 6, 8], [6, 8]), ([7, 9, 0, 1, 2, 3, 4, 5, 6, 7, 8, 9], [7])])
def qL.B9 : List Nat := [0, 0, 0, 6, 15, 31, 63, 63, 0, 383, 1023]
theorem qL.zu : iD .any (opsOf Try.f157 9) = qL.T9 := by kernel_rfl
theorem qL.vF : iG qL.T9.2 qL.B9 = true := by kernel_rfl
def uU.T11 : Bool × List (List Nat × List Nat) := (true, [([], []), ([], []), ([], []), ([1, 2], [1, 2]), ([], []), ([], []), ([4, 5], [4, 5]), ([6], [6]), ([], []), ([8], [8]), ([9], [9]), ([10], [10]), ([7, 11], [7, 11]), ([], []), ([0, 3, 12, 13], [0, 3, 12, 13]), ([14, 0, 1, 2, 3, 4, 5, 6, 7, 8, 9, 10, 11, 12, 13, 14], [14]), ([15, 0, 1, 2, 3, 4, 5, 6, 7, 8, 9, 10, 11, 12, 13, 14, 15], [])])
def uU.B11 : List Nat := [0, 0, 0, 6, 0, 0, 48, 112, 0, 256, 768, 1792, 4080, 0, 16383, 32767, 65535]
theorem uU.afz : iD .any (opsOf Try.f157 11) = uU.T11 := by kernel_rfl
theorem uU.abW : iG uU.T11.2 uU.B11 = true := by kernel_rfl
abbrev Yj (w : World) (n : Int) (e : Ending) (w' : World) : Prop := e = .returned (.tuple #[.agg #[.int .u8 0, .int .i64 0, .int .i64 0, .int .i64 0, .int .i64 0, .int .i64 0, .slice none 0 0, .slice none 0 0, .int .i64 0, .int .u8 0], .int .i64 n]) ∧ Below w.heap.size w w'
abbrev aa' (w : World) (P : Nat → Prop) (ax : Int) (p : List Int) (d : Nat) (z : ai) (q : Nat) (e : Ending) (w' : World) : Prop := ∃ Az cz Ap cp op, e = .returned (.tuple #[.agg #[.int .u8 z.f0, .int .i64 z.f1.f0, .int .i64 z.f1.f1, .int .i64 z.f1.f2, .int .i64 z.f1.f3, .int .i64 z.f2, .slice Az z.f3.length cz, .slice Ap (p.take d).length cp, .int .i64 (q : Int), .int .u8 ax], .int .i64 0]) ∧ IR w.heap.size (.slice Ap p.length cp) p op ∧ St w P [((Value.slice Ap p.length cp).ownBlock, op)] [(.slice Az z.f3.length cz, z.f3)] [] [] w'
theorem OD (c : ai) (hz : sz c ≤ 1000000) (id ax : Int) (b : Nat) (P : Nat → Prop) (A : Option Addr) (cc : Nat) (w : World) (hv : Kd.V k26 26 w b P (.slice A c.f3.length cc) c.f3) :
  (∀ n, yV ax id c = n → n ≠ 0 → Calls Try.prog 157 #[.agg #[.int .u8 c.f0, .int .i64 c.f1.f0, .int .i64 c.f1.f1, .int .i64 c.f1.f2, .int .i64 c.f1.f3, .int .i64 c.f2, .slice A c.f3.length cc], .int .i64 id, .int .u8 ax] w (Yj w n)) ∧
  (∀ p d z q, dB c = true → (ax = 1 ∨ ax = 2) → gm id c = some p → Ew ax c p = some d → yK ax c p d z q → Calls Try.prog 157 #[.agg #[.int .u8 c.f0, .int .i64 c.f1.f0, .int .i64 c.f1.f1, .int .i64 c.f1.f2, .int .i64 c.f1.f3, .int .i64 c.f2, .slice A c.f3.length cc], .int .i64 id, .int .u8 ax] w (aa' w P ax p d z q)) := by
 have S := ae.mk (St.start (ts := [(.slice A c.f3.length cc, c.f3)]) (b0 := w.heap.size) (w := w) (P := P) (fun t ht => by rw [List.mem_singleton.1 ht]; exact gQ hv))
 have B_ := ae.mk (show sz c ≤ 1048576 by omega)
 have HZ := ae.mk hz
 have hpl := fun p (h : gm id c = some p) => (yU id (sz c)).1 c (Nat.le_refl _) p h
 clear hz hv
 obtain ⟨ck, ⟨cx, cy, cw, ch⟩, aT, l⟩ := c
 simp only [] at S ⊢
 constructor
 ·intro n hn hn0
  unfold yV at hn
  cases ht : dB ⟨ck, ⟨cx, cy, cw, ch⟩, aT, l⟩ with
  | false =>
   rw [if_neg (fun h => by rw [ht] at h; cases h.1)] at hn
   subst hn
   have HT := ae.mk ht
   clear ht hn0 hpl
   go_enter Try.func157, Try.ntmps157
   go_wp2_with (first | (refine boxS 3 _ 26 S ?_; clear S; intro b3 dQ S) | (refine boxS 6 _ 147 S ?_; clear S; intro b6 eU S; obtain ⟨bH, bC, bF, bD, dC, dD, bY⟩ := St.fA S bz) | ((with_reducible refine aC (N := 14) rfl ?_); refine sK (N := 14) rfl rfl ⟨ck, ⟨cx, cy, cw, ch⟩, aT, l⟩ S.out (S.out.tree _ (.head _)) ?hr ?_; (case hr => (go_simp; rfl)); intro PN Qe gV S1 h1 h2; replace S := ae.mk S1; have ry := ae.mk h1; have uY := ae.mk h2; clear S1 h1 h2; clear bH bC bF bD dC dD bY) | (refine bT (some 15) Try.func148 S (ny HT.out (sQ ⟨ck, ⟨cx, cy, cw, ch⟩, aT, l⟩ B_.out uY.out ry.out)) ?_; clear S; intro ji S) | (refine ik 147 6 25 #[.int .u8 0, .int .i64 0, .int .i64 0, .int .i64 0, .int .i64 0, .int .i64 0, .slice none 0 0, .slice none 0 0, .int .i64 0, .int .u8 0] 0 10 S ?_; clear S; intro mg S))
   refine bodyPost_ret (fE rfl _ _ b6 147 _ (0, 0) _ rfl (S.out.blk _ (.head _) _ rfl) Try.underlying147 rfl (by kernel_rfl)) rfl ?_
   exact ⟨rfl, S.out.below⟩
  | true =>
   have HT := ae.mk ht
   by_cases h1 : ax = 1 ∨ ax = 2
   case neg =>
    rw [if_neg (fun h => h1 h.2)] at hn
    subst hn
    obtain ⟨hxa, hxb, hxd⟩ := eqF (a := ax) (b := 1) (by omega)
    obtain ⟨hya, hyb, hyd⟩ := eqF (a := ax) (b := 2) (by omega)
    clear ht hn0 hpl h1
    go_enter Try.func157, Try.ntmps157
    go_wp2_with (first | (refine boxS 3 _ 26 S ?_; clear S; intro b3 dQ S) | (refine boxS 6 _ 147 S ?_; clear S; intro b6 eU S; obtain ⟨bH, bC, bF, bD, dC, dD, bY⟩ := St.fA S bz) | ((with_reducible refine aC (N := 14) rfl ?_); refine sK (N := 14) rfl rfl ⟨ck, ⟨cx, cy, cw, ch⟩, aT, l⟩ S.out (S.out.tree _ (.head _)) ?hr ?_; (case hr => (go_simp; rfl)); intro PN Qe gV S1 h1 h2; replace S := ae.mk S1; have ry := ae.mk h1; have uY := ae.mk h2; clear S1 h1 h2; clear bH bC bF bD dC dD bY) | (refine bT (some 15) Try.func148 S (ny HT.out (sQ ⟨ck, ⟨cx, cy, cw, ch⟩, aT, l⟩ B_.out uY.out ry.out)) ?_; clear S; intro ji S) | (refine ik 147 6 25 #[.int .u8 0, .int .i64 0, .int .i64 0, .int .i64 0, .int .i64 0, .int .i64 0, .slice none 0 0, .slice none 0 0, .int .i64 0, .int .u8 0] 0 10 S ?_; clear S; intro mg S))
    refine bodyPost_ret (fE rfl _ _ b6 147 _ (0, 0) _ rfl (S.out.blk _ (.head _) _ rfl) Try.underlying147 rfl (by kernel_rfl)) rfl ?_
    exact ⟨rfl, S.out.below⟩
   rw [if_pos ⟨ht, h1⟩] at hn
   cases hf : gm id ⟨ck, ⟨cx, cy, cw, ch⟩, aT, l⟩ with
   | none =>
    rw [hf] at hn
    simp only [] at hn
    subst hn
    have CE := ae.mk hf
    clear ht hn0 hpl hf
    have hw : ((ax != 1) = false ∧ decide (ax = 1) = true ∧ (ax == 1) = true) ∨ ((ax != 1) = true ∧ decide (ax = 1) = false ∧ (ax == 1) = false ∧ (ax != 2) = false ∧ decide (ax = 2) = true ∧ (ax == 2) = true) := by rcases h1 with h | h <;> subst h <;> simp
    rcases hw with ⟨hxa, hxb, TY⟩ | ⟨hxa, hxb, TY, hxd, hxe, hxf⟩
    all_goals
     clear h1
     go_enter Try.func157, Try.ntmps157
     go_wp2_with (first | (refine boxS 3 _ 26 S ?_; clear S; intro b3 dQ S) | (refine boxS 6 _ 147 S ?_; clear S; intro b6 eU S; obtain ⟨bH, bC, bF, bD, dC, dD, bY⟩ := St.fA S bz) | ((with_reducible refine aC (N := 14) rfl ?_); refine sK (N := 14) rfl rfl ⟨ck, ⟨cx, cy, cw, ch⟩, aT, l⟩ S.out (S.out.tree _ (.head _)) ?hr ?_; (case hr => (go_simp; rfl)); intro PN Qe gV S1 h1 h2; replace S := ae.mk S1; have ry := ae.mk h1; have uY := ae.mk h2; clear S1 h1 h2; clear bH bC bF bD dC dD bY) | (refine bT (some 15) Try.func148 S (ny HT.out (sQ ⟨ck, ⟨cx, cy, cw, ch⟩, aT, l⟩ B_.out uY.out ry.out)) ?_; clear S; intro ji S; obtain ⟨bH, bC, bF, bD, dC, dD, bY⟩ := St.fA S bz) | (refine Eb (some 29) Try.func89 S (YC id ⟨ck, ⟨cx, cy, cw, ch⟩, aT, l⟩ CE.out HZ.out (S.out.tree _ (.head _))) ?_; clear S; intro Ap cp op mg S iH; clear bH bC bF bD dC dD bY) | (refine zV 147 6 34 #[.int .u8 0, .int .i64 0, .int .i64 0, .int .i64 0, .int .i64 0, .int .i64 0, .slice none 0 0, .slice none 0 0, .int .i64 0, .int .u8 0] 0 10 S ?_; clear S; intro zQ S))
     refine bodyPost_ret (fE rfl _ _ b6 147 _ (0, 0) _ rfl (S.out.blk _ bz _ rfl) Try.underlying147 rfl (by kernel_rfl)) rfl ?_
     exact ⟨rfl, S.out.below⟩
   | some p =>
    rw [hf] at hn
    simp only [] at hn
    have uJ := ae.mk (show p.length ≤ 1000000 by have := hpl p hf; have := HZ.out; omega)
    have CE := ae.mk hf
    obtain ⟨x, hx, _⟩ := (AO id _).1 _ (Nat.le_refl _) p hf
    have HX := ae.mk hx
    cases hfr : Ew ax ⟨ck, ⟨cx, cy, cw, ch⟩, aT, l⟩ p with
    | some d => rw [hfr] at hn; exact absurd hn.symm hn0
    | none =>
     rw [hfr] at hn
     simp only [] at hn
     subst hn
     have HR := ae.mk (show oM (qP ax ⟨ck, ⟨cx, cy, cw, ch⟩, aT, l⟩ p) p.length = none from hfr)
     clear ht hn0 hpl hf hx hfr
     have hw : ((ax != 1) = false ∧ decide (ax = 1) = true ∧ (ax == 1) = true) ∨ ((ax != 1) = true ∧ decide (ax = 1) = false ∧ (ax == 1) = false ∧ (ax != 2) = false ∧ decide (ax = 2) = true ∧ (ax == 2) = true) := by rcases h1 with h | h <;> subst h <;> simp
     rcases hw with ⟨hxa, hxb, TY⟩ | ⟨hxa, hxb, TY, hxd, hxe, hxf⟩
     all_goals
      clear h1
      go_enter Try.func157, Try.ntmps157
      go_wp2_with (first | (refine boxS 3 _ 26 S ?_; clear S; intro b3 dQ S) | (refine boxS 6 _ 147 S ?_; clear S; intro b6 eU S; obtain ⟨bH, bC, bF, bD, dC, dD, bY⟩ := St.fA S bz) | ((with_reducible refine aC (N := 14) rfl ?_); refine sK (N := 14) rfl rfl ⟨ck, ⟨cx, cy, cw, ch⟩, aT, l⟩ S.out (S.out.tree _ (.head _)) ?hr ?_; (case hr => (go_simp; rfl)); intro PN Qe gV S1 h1 h2; replace S := ae.mk S1; have ry := ae.mk h1; have uY := ae.mk h2; clear S1 h1 h2; clear bH bC bF bD dC dD bY) | (refine bT (some 15) Try.func148 S (ny HT.out (sQ ⟨ck, ⟨cx, cy, cw, ch⟩, aT, l⟩ B_.out uY.out ry.out)) ?_; clear S; intro ji S; obtain ⟨bH, bC, bF, bD, dC, dD, bY⟩ := St.fA S bz) | (refine Eb (some 29) Try.func89 S (Jj id ⟨ck, ⟨cx, cy, cw, ch⟩, aT, l⟩ p CE.out HZ.out (S.out.tree _ (.head _))) ?_; clear S; intro Ap cp op mg S iH; clear bH bC bF bD dC dD bY))
      go_loopg [10] (p.length + 1) (fun gg v10 wr => ∃ n : Nat, v10 = .int .i64 ((n : Int) - 1) ∧ ae (n ≤ p.length) ∧ n ≤ gg ∧ ae (oM (qP ax ⟨ck, ⟨cx, cy, cw, ch⟩, aT, l⟩ p) n = none) ∧ ae (St w P [((Value.slice Ap p.length cp).ownBlock, op), (some b6, .cells #[.int .u8 0, .int .i64 0, .int .i64 0, .int .i64 0, .int .i64 0, .int .i64 0, .slice none 0 0, .slice none 0 0, .int .i64 0, .int .u8 0] 147 (0, 0)), (some b3, .cells #[.int .u8 ck, .int .i64 cx, .int .i64 cy, .int .i64 cw, .int .i64 ch, .int .i64 aT, .slice A l.length cc] 26 (0, 0))] [] [(.slice A l.length cc, l)] [] wr))
      case atStart => exact ⟨p.length, (by have := uJ.out; congr 1; unfold wrap64; omega), ⟨Nat.le_refl _⟩, Nat.le_succ _, HR, S⟩
      case round =>
       clear S HR
       obtain ⟨n, rfl, HN, hgg, HR, S⟩ := hrel
       cases n with
       | zero =>
        go_wp2_with ((refine zV 147 6 68 #[.int .u8 0, .int .i64 0, .int .i64 0, .int .i64 0, .int .i64 0, .int .i64 0, .slice none 0 0, .slice none 0 0, .int .i64 0, .int .u8 0] 0 10 S ?_; clear S; intro dQ S))
        refine bodyPost_ret (fE rfl _ _ b6 147 _ (0, 0) _ rfl (S.out.blk _ bz _ rfl) Try.underlying147 rfl (by kernel_rfl)) rfl ?_
        exact ⟨rfl, S.out.below⟩
       | succ n =>
        have e1 : (((n + 1 : Nat) : Int) - 1) = (n : Int) := by omega
        rw [e1]
        have mG := ae.mk (show n < p.length from HN.out)
        have iF := ae.mk hgg
        have hw : wrap64 ((n : Int) - 1) = (n : Int) - 1 := by have := HN.out; have := uJ.out; unfold wrap64; omega
        have HW := ae.mk hw
        have h0 : decide ((n : Int) ≥ 0) = true := decide_eq_true (Int.natCast_nonneg _)
        have wo : (0 : Int) ≤ (n : Int) := Int.natCast_nonneg _
        obtain ⟨z, qo, hi0, hi1⟩ := CO p ⟨ck, ⟨cx, cy, cw, ch⟩, aT, l⟩ _ HX.out n mG.out
        obtain ⟨pq, hpq⟩ : ∃ pq, pq = p.take n := ⟨_, rfl⟩
        have hal : qP ax ⟨ck, ⟨cx, cy, cw, ch⟩, aT, l⟩ p n = fM ax z.f0 := by unfold qP; rw [qo]
        rw [← hpq] at qo
        have HAT := ae.mk qo
        have jd := ae.mk (And.intro hpq (Nat.le_of_lt mG.out))
        have xQ := ae.mk (show pq.length ≤ 1048576 by rw [hpq, List.length_take]; have := uJ.out; omega)
        have hcut : ∀ W : World, (Instr.slice 41 (.slice Ap p.length cp) none (some (.int .i64 (n : Int))) none).run Try.prog W = .ok (.slice Ap pq.length cp) W := by
         intro W
         obtain ⟨i0, hi0, _, hsz, _⟩ := info_parts info3
         have h := Gq (P := Try.prog) 41 3 .i64 Try.underlying41 hi0 Ap p.length cp (n : Int) (Int.natCast_nonneg _) (by have := mG.out; omega) (xR iH.out S.out (.head _)).2 W
         rw [Int.toNat_natCast, show n = pq.length by rw [hpq, List.length_take]; have := mG.out; omega] at h
         rw [show n = pq.length by rw [hpq, List.length_take]; have := mG.out; omega]
         exact h
        have hr := HR.out
        rw [oM, hal] at hr
        clear hw hgg e1 hal hpq qo hi0 hi1
        cases ha : fM ax z.f0 with
        | false =>
         rw [ha, if_neg (by simp)] at hr
         replace HR := ae.mk hr
         have HA := ae.mk ha
         clear hr ha
         go_wp2
         refine iT (n := 11) (S := fun w' => St w _ _ _ _ _ w') (ds := [9]) (bA 11 0) (by kernel_rfl) rfl rfl (S.out.call (bg (Below.refl _ _))) (fun hHeld => ?_); refine eP qL.zu qL.vF (fun aj dW => ?_)
         replace S := ae.mk (S.out.call (bg (Below.refl _ _)))
         generalize wr.drew = Cj at S hHeld ⊢
         refine dO 0 43 (bA 11 1) aj dW hHeld ?_ (hv := by intro w' hs_; have bH := (hs_.at dR 0).trans rfl; have bC := (hs_.at dR 1).trans rfl; have bF := (hs_.at dR 2).trans rfl; have bD := (hs_.at dR 3).trans rfl; have dC := (hs_.at dR 4).trans rfl; have dD := (hs_.at dR 5).trans rfl; have bY := (hs_.at dR 6).trans rfl; go_simp; with_reducible rfl)
         refine au 1 44 (bA 11 3) aj ?_
         refine au 2 45 (bA 11 7) aj ?_
         refine au 3 46 (bA 11 15) aj ?_
         refine yG (σ := Option Addr × Nat × Nat) 2 (bA 11 511) (fun s_ => [(47, .tuple #[.agg #[.int .u8 z.f0, .int .i64 z.f1.f0, .int .i64 z.f1.f1, .int .i64 z.f1.f2, .int .i64 z.f1.f3, .int .i64 z.f2, .slice s_.1 z.f3.length s_.2.1], .bool true]), (42, .tuple #[.agg #[.int .u8 z.f0, .int .i64 z.f1.f0, .int .i64 z.f1.f1, .int .i64 z.f1.f2, .int .i64 z.f1.f3, .int .i64 z.f2, .slice s_.1 z.f3.length s_.2.1], .bool true]), (48, .agg #[.int .u8 z.f0, .int .i64 z.f1.f0, .int .i64 z.f1.f1, .int .i64 z.f1.f2, .int .i64 z.f1.f3, .int .i64 z.f2, .slice s_.1 z.f3.length s_.2.1]), (49, .bool true), (11, .pointer (some ⟨s_.2.2, 0, none⟩))]) (fun s_ w' => St w P [(some s_.2.2, .cells #[.int .u8 0, .int .i64 0, .int .i64 0, .int .i64 0, .int .i64 0, .int .i64 0, .slice none 0 0] 26 (0, 0)), ((Value.slice Ap p.length cp).ownBlock, op), (some b6, .cells #[.int .u8 0, .int .i64 0, .int .i64 0, .int .i64 0, .int .i64 0, .int .i64 0, .slice none 0 0, .slice none 0 0, .int .i64 0, .int .u8 0] 147 (0, 0)), (some b3, .cells #[.int .u8 ck, .int .i64 cx, .int .i64 cy, .int .i64 cw, .int .i64 ch, .int .i64 aT, .slice A l.length cc] 26 (0, 0))] [(.slice s_.1 z.f3.length s_.2.1, z.f3)] [(.slice A l.length cc, l)] [] w') ?_ ?_
         rotate_left
         ·intro jI
          refine zX (i := 4) (j := 8) (Ni := some 47) (Nj := some 11) (bA 11 31) (bA 11 271) rfl rfl rfl rfl (uy aj.out (by kernel_rfl)) (by decide) (by decide) (fun K hK => ?_) (fun K hK => ?_)
          ·skip
           refine jH Try.func91 (by kernel_rfl) rfl #[.agg #[.int .u8 ck, .int .i64 cx, .int .i64 cy, .int .i64 cw, .int .i64 ch, .int .i64 aT, .slice A l.length cc], .slice Ap pq.length cp] (by rfl) rfl rfl (by (try simp only [List.map_toArray, List.map_cons, List.map_nil]); rfl) ?_
           refine (Hq ⟨ck, ⟨cx, cy, cw, ch⟩, aT, l⟩ pq z HAT.out xQ.out HZ.out (S.out.tree _ (.head _)) (eF iH.out S.out (.head _) jd.out).1 (eF iH.out S.out (.head _) jd.out).2).mono ?_
           rintro e eU ⟨Az, cz, rfl, h1, hb⟩
           refine ⟨_, rfl, ?_⟩
           replace S := ae.mk (S.out.yj h1 hb)
           clear h1 hb
           refine hK.out _ _ S.out.free.dG (fun hHeld => ?_)
           clear hK K
           refine dK 47 ?_
           refine au 5 42 (bA 11 63) aj ?_
           refine au 6 48 (bA 11 127) aj ?_
           refine au 7 49 (bA 11 255) aj ?_
           refine jf 8 (some 11) (bA 11 511) aj (fun K hK => ?_)
           refine jL ?hg (N := 11) ?hd (cs := #[.int .u8 0, .int .i64 0, .int .i64 0, .int .i64 0, .int .i64 0, .int .i64 0, .slice none 0 0]) (t := 26) ?hr ?_; (case hd => rfl); (case hg => rfl); (case hr => (go_simp; done))
           intro b11 hg gV hbox hb
           replace S := ae.mk (S.out.box hg hbox hb)
           clear hg hbox hb
           refine hK.out _ _ S.out.dA.free.dG (fun hHeld => ?_)
           clear hK K
           refine dK 11 ?_
           exact kM (by simp only [gW, Act.put, List.setIfInBounds_toArray, List.set_cons_zero, List.set_cons_succ] <;> rfl) (jI (Az, cz, b11) _ S.out)
          ·skip
           refine jL ?hg (N := 11) ?hd (cs := #[.int .u8 0, .int .i64 0, .int .i64 0, .int .i64 0, .int .i64 0, .int .i64 0, .slice none 0 0]) (t := 26) ?hr ?_; (case hd => rfl); (case hg => rfl); (case hr => (go_simp; done))
           intro b11 hg ji hbox hb
           replace S := ae.mk (S.out.box hg hbox hb)
           clear hg hbox hb
           refine hK.out _ _ S.out.dA (fun hHeld => ?_)
           clear hK K
           refine dK 11 ?_
           refine jf 4 (some 47) (bA 11 287) aj (fun K hK => ?_)
           refine jH Try.func91 (by kernel_rfl) rfl #[.agg #[.int .u8 ck, .int .i64 cx, .int .i64 cy, .int .i64 cw, .int .i64 ch, .int .i64 aT, .slice A l.length cc], .slice Ap pq.length cp] (by rfl) rfl rfl (by (try simp only [List.map_toArray, List.map_cons, List.map_nil]); rfl) ?_
           refine (Hq ⟨ck, ⟨cx, cy, cw, ch⟩, aT, l⟩ pq z HAT.out xQ.out HZ.out (S.out.tree _ (.head _)) (eF iH.out S.out bz jd.out).1 (eF iH.out S.out bz jd.out).2).mono ?_
           rintro e mg ⟨Az, cz, rfl, h1, hb⟩
           refine ⟨_, rfl, ?_⟩
           replace S := ae.mk (S.out.yj h1 hb)
           clear h1 hb
           refine hK.out _ _ S.out.dA.free.dG (fun hHeld => ?_)
           clear hK K
           refine dK 47 ?_
           refine au 5 42 (bA 11 319) aj ?_
           refine au 6 48 (bA 11 383) aj ?_
           refine au 7 49 (bA 11 511) aj ?_
           exact kM (by simp only [gW, Act.put, List.setIfInBounds_toArray, List.set_cons_zero, List.set_cons_succ] <;> rfl) (jI (Az, cz, b11) _ S.out)
         rintro ⟨Az, cz, b11⟩ PG S1
         simp only [gW, Act.put, List.setIfInBounds_toArray, List.set_cons_zero, List.set_cons_succ]
         replace S := ae.mk S1
         clear S1 hHeld
         have hHeld := S.out.dA.free.dG
         refine nT 9 none (bA 11 1023) aj (fun K hK => ?_)
         refine n_ 0 rfl 26 (.tmp 11) (.tmp 48) rfl #[.int .u8 z.f0, .int .i64 z.f1.f0, .int .i64 z.f1.f1, .int .i64 z.f1.f2, .int .i64 z.f1.f3, .int .i64 z.f2, .slice Az z.f3.length cz] (j := 0) (u := .agg #[.int .u8 z.f0, .int .i64 z.f1.f0, .int .i64 z.f1.f1, .int .i64 z.f1.f2, .int .i64 z.f1.f3, .int .i64 z.f2, .slice Az z.f3.length cz]) (bG := [.int .u8 z.f0, .int .i64 z.f1.f0, .int .i64 z.f1.f1, .int .i64 z.f1.f2, .int .i64 z.f1.f3, .int .i64 z.f2, .slice Az z.f3.length cz]) S.out (by rfl) rfl rfl rfl rfl (by kernel_rfl) (by simp [Value.oneCell']) (by simp) rfl ?_
         intro xO S1
         simp only [List.set_cons_zero, List.set_cons_succ] at S1
         replace S := ae.mk S1
         clear S1
         refine hK.out _ _ ?_
         clear hK K
         refine au 10 12 (bA 11 2047) aj ?_
         refine jG (gK aj.out (by kernel_rfl)) ?_
         clear hHeld
         obtain ⟨t_, uf, ug, uh, ui, uj, rG⟩ := St.fA S (.head _)
         go_wp2_with ((refine bT (some 52) Try.func99 S (Aw (c := z) HA.out (Kd.qF (base' := 0) (S.out.own _ (.head _)))) ?_; clear S; intro xP S; clear t_ uf ug uh ui uj rG))
         have hw := HW.out
         go_wp2
         go_roundg n
         case measure => exact Nat.lt_of_lt_of_le (Nat.lt_succ_self _) iF.out
         case rel => exact ⟨n, (by rw [hw]), ⟨by have := HN.out; omega⟩, Nat.le_refl _, HR, ⟨S.out.free.dG.dA.uP.uP.uP⟩⟩
        | true =>
         rw [ha, if_pos rfl] at hr
         cases hr
 ·intro p d z q ht h1 hf hfr hF
  have uJ := ae.mk (show p.length ≤ 1000000 by have := hpl p hf; have := HZ.out; omega)
  have CE := ae.mk hf
  obtain ⟨x, hx, _⟩ := (AO id _).1 _ (Nat.le_refl _) p hf
  have HX := ae.mk hx
  have HT := ae.mk ht
  have v_ := ae.mk hF
  have Je := ae.mk (show z.f3.length ≤ 1000000 by have h2 := Hr _ _ _ hF.at'; have h3 := bZ z; have h4 := jJ z.f3; have := HZ.out; omega)
  have HR := ae.mk (show oM (qP ax ⟨ck, ⟨cx, cy, cw, ch⟩, aT, l⟩ p) p.length = some d from hfr)
  clear ht hpl hf hx hfr hF
  have hw : ((ax != 1) = false ∧ decide (ax = 1) = true ∧ (ax == 1) = true) ∨ ((ax != 1) = true ∧ decide (ax = 1) = false ∧ (ax == 1) = false ∧ (ax != 2) = false ∧ decide (ax = 2) = true ∧ (ax == 2) = true) := by rcases h1 with h | h <;> subst h <;> simp
  rcases hw with ⟨hxa, hxb, TY⟩ | ⟨hxa, hxb, TY, hxd, hxe, hxf⟩
  all_goals
   clear h1
   go_enter Try.func157, Try.ntmps157
   go_wp2_with (first | (refine boxS 3 _ 26 S ?_; clear S; intro b3 dQ S) | (refine boxS 6 _ 147 S ?_; clear S; intro b6 eU S; obtain ⟨bH, bC, bF, bD, dC, dD, bY⟩ := St.fA S bz) | ((with_reducible refine aC (N := 14) rfl ?_); refine sK (N := 14) rfl rfl ⟨ck, ⟨cx, cy, cw, ch⟩, aT, l⟩ S.out (S.out.tree _ (.head _)) ?hr ?_; (case hr => (go_simp; rfl)); intro PN Qe gV S1 h1 h2; replace S := ae.mk S1; have ry := ae.mk h1; have uY := ae.mk h2; clear S1 h1 h2; clear bH bC bF bD dC dD bY) | (refine bT (some 15) Try.func148 S (ny HT.out (sQ ⟨ck, ⟨cx, cy, cw, ch⟩, aT, l⟩ B_.out uY.out ry.out)) ?_; clear S; intro ji S; obtain ⟨bH, bC, bF, bD, dC, dD, bY⟩ := St.fA S bz) | (refine Eb (some 29) Try.func89 S (Jj id ⟨ck, ⟨cx, cy, cw, ch⟩, aT, l⟩ p CE.out HZ.out (S.out.tree _ (.head _))) ?_; clear S; intro Ap cp op mg S iH; clear bH bC bF bD dC dD bY))
   go_loopg [10] (p.length + 1) (fun gg v10 wr => ∃ n : Nat, v10 = .int .i64 ((n : Int) - 1) ∧ ae (n ≤ p.length) ∧ n ≤ gg ∧ ae (oM (qP ax ⟨ck, ⟨cx, cy, cw, ch⟩, aT, l⟩ p) n = some d) ∧ ae (St w P [((Value.slice Ap p.length cp).ownBlock, op), (some b6, .cells #[.int .u8 0, .int .i64 0, .int .i64 0, .int .i64 0, .int .i64 0, .int .i64 0, .slice none 0 0, .slice none 0 0, .int .i64 0, .int .u8 0] 147 (0, 0)), (some b3, .cells #[.int .u8 ck, .int .i64 cx, .int .i64 cy, .int .i64 cw, .int .i64 ch, .int .i64 aT, .slice A l.length cc] 26 (0, 0))] [] [(.slice A l.length cc, l)] [] wr))
   case atStart => exact ⟨p.length, (by have := uJ.out; congr 1; unfold wrap64; omega), ⟨Nat.le_refl _⟩, Nat.le_succ _, HR, S⟩
   case round =>
    clear S HR
    obtain ⟨n, rfl, HN, hgg, HR, S⟩ := hrel
    cases n with
    | zero =>
     have h := HR.out
     cases h
    | succ n =>
     have e1 : (((n + 1 : Nat) : Int) - 1) = (n : Int) := by omega
     rw [e1]
     have mG := ae.mk (show n < p.length from HN.out)
     have iF := ae.mk hgg
     have hw : wrap64 ((n : Int) - 1) = (n : Int) - 1 := by have := HN.out; have := uJ.out; unfold wrap64; omega
     have HW := ae.mk hw
     have h0 : decide ((n : Int) ≥ 0) = true := decide_eq_true (Int.natCast_nonneg _)
     have wo : (0 : Int) ≤ (n : Int) := Int.natCast_nonneg _
     obtain ⟨z, qo, hi0, hi1⟩ := CO p ⟨ck, ⟨cx, cy, cw, ch⟩, aT, l⟩ _ HX.out n mG.out
     obtain ⟨pq, hpq⟩ : ∃ pq, pq = p.take n := ⟨_, rfl⟩
     have hal : qP ax ⟨ck, ⟨cx, cy, cw, ch⟩, aT, l⟩ p n = fM ax z.f0 := by unfold qP; rw [qo]
     rw [← hpq] at qo
     have HAT := ae.mk qo
     have jd := ae.mk (And.intro hpq (Nat.le_of_lt mG.out))
     have xQ := ae.mk (show pq.length ≤ 1048576 by rw [hpq, List.length_take]; have := uJ.out; omega)
     have hcut : ∀ W : World, (Instr.slice 41 (.slice Ap p.length cp) none (some (.int .i64 (n : Int))) none).run Try.prog W = .ok (.slice Ap pq.length cp) W := by
      intro W
      obtain ⟨i0, hi0, _, hsz, _⟩ := info_parts info3
      have h := Gq (P := Try.prog) 41 3 .i64 Try.underlying41 hi0 Ap p.length cp (n : Int) (Int.natCast_nonneg _) (by have := mG.out; omega) (xR iH.out S.out (.head _)).2 W
      rw [Int.toNat_natCast, show n = pq.length by rw [hpq, List.length_take]; have := mG.out; omega] at h
      rw [show n = pq.length by rw [hpq, List.length_take]; have := mG.out; omega]
      exact h
     have hr := HR.out
     rw [oM, hal] at hr
     clear hw hgg e1 hal hpq qo hi0 hi1
     cases ha : fM ax z.f0 with
     | false =>
      rw [ha, if_neg (by simp)] at hr
      replace HR := ae.mk hr
      have HA := ae.mk ha
      clear hr ha
      go_wp2
      refine iT (n := 11) (S := fun w' => St w _ _ _ _ _ w') (ds := [9]) (bA 11 0) (by kernel_rfl) rfl rfl (S.out.call (bg (Below.refl _ _))) (fun hHeld => ?_); refine eP qL.zu qL.vF (fun aj dW => ?_)
      replace S := ae.mk (S.out.call (bg (Below.refl _ _)))
      generalize wr.drew = Cj at S hHeld ⊢
      refine dO 0 43 (bA 11 1) aj dW hHeld ?_ (hv := by intro w' hs_; have bH := (hs_.at dR 0).trans rfl; have bC := (hs_.at dR 1).trans rfl; have bF := (hs_.at dR 2).trans rfl; have bD := (hs_.at dR 3).trans rfl; have dC := (hs_.at dR 4).trans rfl; have dD := (hs_.at dR 5).trans rfl; have bY := (hs_.at dR 6).trans rfl; go_simp; with_reducible rfl)
      refine au 1 44 (bA 11 3) aj ?_
      refine au 2 45 (bA 11 7) aj ?_
      refine au 3 46 (bA 11 15) aj ?_
      refine yG (σ := Option Addr × Nat × Nat) 2 (bA 11 511) (fun s_ => [(47, .tuple #[.agg #[.int .u8 z.f0, .int .i64 z.f1.f0, .int .i64 z.f1.f1, .int .i64 z.f1.f2, .int .i64 z.f1.f3, .int .i64 z.f2, .slice s_.1 z.f3.length s_.2.1], .bool true]), (42, .tuple #[.agg #[.int .u8 z.f0, .int .i64 z.f1.f0, .int .i64 z.f1.f1, .int .i64 z.f1.f2, .int .i64 z.f1.f3, .int .i64 z.f2, .slice s_.1 z.f3.length s_.2.1], .bool true]), (48, .agg #[.int .u8 z.f0, .int .i64 z.f1.f0, .int .i64 z.f1.f1, .int .i64 z.f1.f2, .int .i64 z.f1.f3, .int .i64 z.f2, .slice s_.1 z.f3.length s_.2.1]), (49, .bool true), (11, .pointer (some ⟨s_.2.2, 0, none⟩))]) (fun s_ w' => St w P [(some s_.2.2, .cells #[.int .u8 0, .int .i64 0, .int .i64 0, .int .i64 0, .int .i64 0, .int .i64 0, .slice none 0 0] 26 (0, 0)), ((Value.slice Ap p.length cp).ownBlock, op), (some b6, .cells #[.int .u8 0, .int .i64 0, .int .i64 0, .int .i64 0, .int .i64 0, .int .i64 0, .slice none 0 0, .slice none 0 0, .int .i64 0, .int .u8 0] 147 (0, 0)), (some b3, .cells #[.int .u8 ck, .int .i64 cx, .int .i64 cy, .int .i64 cw, .int .i64 ch, .int .i64 aT, .slice A l.length cc] 26 (0, 0))] [(.slice s_.1 z.f3.length s_.2.1, z.f3)] [(.slice A l.length cc, l)] [] w') ?_ ?_
      rotate_left
      ·intro jI
       refine zX (i := 4) (j := 8) (Ni := some 47) (Nj := some 11) (bA 11 31) (bA 11 271) rfl rfl rfl rfl (uy aj.out (by kernel_rfl)) (by decide) (by decide) (fun K hK => ?_) (fun K hK => ?_)
       ·skip
        refine jH Try.func91 (by kernel_rfl) rfl #[.agg #[.int .u8 ck, .int .i64 cx, .int .i64 cy, .int .i64 cw, .int .i64 ch, .int .i64 aT, .slice A l.length cc], .slice Ap pq.length cp] (by rfl) rfl rfl (by (try simp only [List.map_toArray, List.map_cons, List.map_nil]); rfl) ?_
        refine (Hq ⟨ck, ⟨cx, cy, cw, ch⟩, aT, l⟩ pq z HAT.out xQ.out HZ.out (S.out.tree _ (.head _)) (eF iH.out S.out (.head _) jd.out).1 (eF iH.out S.out (.head _) jd.out).2).mono ?_
        rintro e eU ⟨Az, cz, rfl, h1, hb⟩
        refine ⟨_, rfl, ?_⟩
        replace S := ae.mk (S.out.yj h1 hb)
        clear h1 hb
        refine hK.out _ _ S.out.free.dG (fun hHeld => ?_)
        clear hK K
        refine dK 47 ?_
        refine au 5 42 (bA 11 63) aj ?_
        refine au 6 48 (bA 11 127) aj ?_
        refine au 7 49 (bA 11 255) aj ?_
        refine jf 8 (some 11) (bA 11 511) aj (fun K hK => ?_)
        refine jL ?hg (N := 11) ?hd (cs := #[.int .u8 0, .int .i64 0, .int .i64 0, .int .i64 0, .int .i64 0, .int .i64 0, .slice none 0 0]) (t := 26) ?hr ?_; (case hd => rfl); (case hg => rfl); (case hr => (go_simp; done))
        intro b11 hg gV hbox hb
        replace S := ae.mk (S.out.box hg hbox hb)
        clear hg hbox hb
        refine hK.out _ _ S.out.dA.free.dG (fun hHeld => ?_)
        clear hK K
        refine dK 11 ?_
        exact kM (by simp only [gW, Act.put, List.setIfInBounds_toArray, List.set_cons_zero, List.set_cons_succ] <;> rfl) (jI (Az, cz, b11) _ S.out)
       ·skip
        refine jL ?hg (N := 11) ?hd (cs := #[.int .u8 0, .int .i64 0, .int .i64 0, .int .i64 0, .int .i64 0, .int .i64 0, .slice none 0 0]) (t := 26) ?hr ?_; (case hd => rfl); (case hg => rfl); (case hr => (go_simp; done))
        intro b11 hg ji hbox hb
        replace S := ae.mk (S.out.box hg hbox hb)
        clear hg hbox hb
        refine hK.out _ _ S.out.dA (fun hHeld => ?_)
        clear hK K
        refine dK 11 ?_
        refine jf 4 (some 47) (bA 11 287) aj (fun K hK => ?_)
        refine jH Try.func91 (by kernel_rfl) rfl #[.agg #[.int .u8 ck, .int .i64 cx, .int .i64 cy, .int .i64 cw, .int .i64 ch, .int .i64 aT, .slice A l.length cc], .slice Ap pq.length cp] (by rfl) rfl rfl (by (try simp only [List.map_toArray, List.map_cons, List.map_nil]); rfl) ?_
        refine (Hq ⟨ck, ⟨cx, cy, cw, ch⟩, aT, l⟩ pq z HAT.out xQ.out HZ.out (S.out.tree _ (.head _)) (eF iH.out S.out bz jd.out).1 (eF iH.out S.out bz jd.out).2).mono ?_
        rintro e mg ⟨Az, cz, rfl, h1, hb⟩
        refine ⟨_, rfl, ?_⟩
        replace S := ae.mk (S.out.yj h1 hb)
        clear h1 hb
        refine hK.out _ _ S.out.dA.free.dG (fun hHeld => ?_)
        clear hK K
        refine dK 47 ?_
        refine au 5 42 (bA 11 319) aj ?_
        refine au 6 48 (bA 11 383) aj ?_
        refine au 7 49 (bA 11 511) aj ?_
        exact kM (by simp only [gW, Act.put, List.setIfInBounds_toArray, List.set_cons_zero, List.set_cons_succ] <;> rfl) (jI (Az, cz, b11) _ S.out)
      rintro ⟨Az, cz, b11⟩ PG S1
      simp only [gW, Act.put, List.setIfInBounds_toArray, List.set_cons_zero, List.set_cons_succ]
      replace S := ae.mk S1
      clear S1 hHeld
      have hHeld := S.out.dA.free.dG
      refine nT 9 none (bA 11 1023) aj (fun K hK => ?_)
      refine n_ 0 rfl 26 (.tmp 11) (.tmp 48) rfl #[.int .u8 z.f0, .int .i64 z.f1.f0, .int .i64 z.f1.f1, .int .i64 z.f1.f2, .int .i64 z.f1.f3, .int .i64 z.f2, .slice Az z.f3.length cz] (j := 0) (u := .agg #[.int .u8 z.f0, .int .i64 z.f1.f0, .int .i64 z.f1.f1, .int .i64 z.f1.f2, .int .i64 z.f1.f3, .int .i64 z.f2, .slice Az z.f3.length cz]) (bG := [.int .u8 z.f0, .int .i64 z.f1.f0, .int .i64 z.f1.f1, .int .i64 z.f1.f2, .int .i64 z.f1.f3, .int .i64 z.f2, .slice Az z.f3.length cz]) S.out (by rfl) rfl rfl rfl rfl (by kernel_rfl) (by simp [Value.oneCell']) (by simp) rfl ?_
      intro xO S1
      simp only [List.set_cons_zero, List.set_cons_succ] at S1
      replace S := ae.mk S1
      clear S1
      refine hK.out _ _ ?_
      clear hK K
      refine au 10 12 (bA 11 2047) aj ?_
      refine jG (gK aj.out (by kernel_rfl)) ?_
      clear hHeld
      obtain ⟨t_, uf, ug, uh, ui, uj, rG⟩ := St.fA S (.head _)
      go_wp2_with ((refine bT (some 52) Try.func99 S (Aw (c := z) HA.out (Kd.qF (base' := 0) (S.out.own _ (.head _)))) ?_; clear S; intro xP S; clear t_ uf ug uh ui uj rG))
      have hw := HW.out
      go_wp2
      go_roundg n
      case measure => exact Nat.lt_of_lt_of_le (Nat.lt_succ_self _) iF.out
      case rel => exact ⟨n, (by rw [hw]), ⟨by have := HN.out; omega⟩, Nat.le_refl _, HR, ⟨S.out.free.dG.dA.uP.uP.uP⟩⟩
     | true =>
      rw [ha, if_pos rfl] at hr
      injection hr with hr
      subst hr
      have hzz := HAT.out
      rw [jd.out.1, v_.out.at'] at hzz
      injection hzz with hzz
      subst hzz
      have HA := ae.mk ha
      clear ha
      obtain ⟨yw, ek, _⟩ := Kd.iW (xR iH.out S.out (.head _)).1 (n : Int) (Int.natCast_nonneg _) (by have := mG.out; omega)
      subst ek
      have HW2 := ae.mk (show wrap64 ((z.f3.length : Int) - 2) = (z.f3.length : Int) - 2 by have := v_.out.len; have := Je.out; unfold wrap64; omega)
      have PV := ae.mk (show (n : Int) < (p.length : Int) by have := mG.out; omega)
      have hnn : n < p.length := mG.out
      go_wp2
      refine iT (n := 11) (S := fun w' => St w _ _ _ _ _ w') (ds := [9]) (bA 11 0) (by kernel_rfl) rfl rfl (S.out.call (bg (Below.refl _ _))) (fun hHeld => ?_); refine eP qL.zu qL.vF (fun aj dW => ?_)
      replace S := ae.mk (S.out.call (bg (Below.refl _ _)))
      generalize wr.drew = Cj at S hHeld ⊢
      refine dO 0 43 (bA 11 1) aj dW hHeld ?_ (hv := by intro w' hs_; have bH := (hs_.at dR 0).trans rfl; have bC := (hs_.at dR 1).trans rfl; have bF := (hs_.at dR 2).trans rfl; have bD := (hs_.at dR 3).trans rfl; have dC := (hs_.at dR 4).trans rfl; have dD := (hs_.at dR 5).trans rfl; have bY := (hs_.at dR 6).trans rfl; go_simp; with_reducible rfl)
      refine au 1 44 (bA 11 3) aj ?_
      refine au 2 45 (bA 11 7) aj ?_
      refine au 3 46 (bA 11 15) aj ?_
      refine yG (σ := Option Addr × Nat × Nat) 2 (bA 11 511) (fun s_ => [(47, .tuple #[.agg #[.int .u8 z.f0, .int .i64 z.f1.f0, .int .i64 z.f1.f1, .int .i64 z.f1.f2, .int .i64 z.f1.f3, .int .i64 z.f2, .slice s_.1 z.f3.length s_.2.1], .bool true]), (42, .tuple #[.agg #[.int .u8 z.f0, .int .i64 z.f1.f0, .int .i64 z.f1.f1, .int .i64 z.f1.f2, .int .i64 z.f1.f3, .int .i64 z.f2, .slice s_.1 z.f3.length s_.2.1], .bool true]), (48, .agg #[.int .u8 z.f0, .int .i64 z.f1.f0, .int .i64 z.f1.f1, .int .i64 z.f1.f2, .int .i64 z.f1.f3, .int .i64 z.f2, .slice s_.1 z.f3.length s_.2.1]), (49, .bool true), (11, .pointer (some ⟨s_.2.2, 0, none⟩))]) (fun s_ w' => St w P [(some s_.2.2, .cells #[.int .u8 0, .int .i64 0, .int .i64 0, .int .i64 0, .int .i64 0, .int .i64 0, .slice none 0 0] 26 (0, 0)), ((Value.slice (some yw) p.length cp).ownBlock, op), (some b6, .cells #[.int .u8 0, .int .i64 0, .int .i64 0, .int .i64 0, .int .i64 0, .int .i64 0, .slice none 0 0, .slice none 0 0, .int .i64 0, .int .u8 0] 147 (0, 0)), (some b3, .cells #[.int .u8 ck, .int .i64 cx, .int .i64 cy, .int .i64 cw, .int .i64 ch, .int .i64 aT, .slice A l.length cc] 26 (0, 0))] [(.slice s_.1 z.f3.length s_.2.1, z.f3)] [(.slice A l.length cc, l)] [] w') ?_ ?_
      rotate_left
      ·intro jI
       refine zX (i := 4) (j := 8) (Ni := some 47) (Nj := some 11) (bA 11 31) (bA 11 271) rfl rfl rfl rfl (uy aj.out (by kernel_rfl)) (by decide) (by decide) (fun K hK => ?_) (fun K hK => ?_)
       ·skip
        refine jH Try.func91 (by kernel_rfl) rfl #[.agg #[.int .u8 ck, .int .i64 cx, .int .i64 cy, .int .i64 cw, .int .i64 ch, .int .i64 aT, .slice A l.length cc], .slice (some yw) pq.length cp] (by rfl) rfl rfl (by (try simp only [List.map_toArray, List.map_cons, List.map_nil]); rfl) ?_
        refine (Hq ⟨ck, ⟨cx, cy, cw, ch⟩, aT, l⟩ pq z HAT.out xQ.out HZ.out (S.out.tree _ (.head _)) (eF iH.out S.out (.head _) jd.out).1 (eF iH.out S.out (.head _) jd.out).2).mono ?_
        rintro e eU ⟨Az, cz, rfl, h1, hb⟩
        refine ⟨_, rfl, ?_⟩
        replace S := ae.mk (S.out.yj h1 hb)
        clear h1 hb
        refine hK.out _ _ S.out.free.dG (fun hHeld => ?_)
        clear hK K
        refine dK 47 ?_
        refine au 5 42 (bA 11 63) aj ?_
        refine au 6 48 (bA 11 127) aj ?_
        refine au 7 49 (bA 11 255) aj ?_
        refine jf 8 (some 11) (bA 11 511) aj (fun K hK => ?_)
        refine jL ?hg (N := 11) ?hd (cs := #[.int .u8 0, .int .i64 0, .int .i64 0, .int .i64 0, .int .i64 0, .int .i64 0, .slice none 0 0]) (t := 26) ?hr ?_; (case hd => rfl); (case hg => rfl); (case hr => (go_simp; done))
        intro b11 hg gV hbox hb
        replace S := ae.mk (S.out.box hg hbox hb)
        clear hg hbox hb
        refine hK.out _ _ S.out.dA.free.dG (fun hHeld => ?_)
        clear hK K
        refine dK 11 ?_
        exact kM (by simp only [gW, Act.put, List.setIfInBounds_toArray, List.set_cons_zero, List.set_cons_succ] <;> rfl) (jI (Az, cz, b11) _ S.out)
       ·skip
        refine jL ?hg (N := 11) ?hd (cs := #[.int .u8 0, .int .i64 0, .int .i64 0, .int .i64 0, .int .i64 0, .int .i64 0, .slice none 0 0]) (t := 26) ?hr ?_; (case hd => rfl); (case hg => rfl); (case hr => (go_simp; done))
        intro b11 hg ji hbox hb
        replace S := ae.mk (S.out.box hg hbox hb)
        clear hg hbox hb
        refine hK.out _ _ S.out.dA (fun hHeld => ?_)
        clear hK K
        refine dK 11 ?_
        refine jf 4 (some 47) (bA 11 287) aj (fun K hK => ?_)
        refine jH Try.func91 (by kernel_rfl) rfl #[.agg #[.int .u8 ck, .int .i64 cx, .int .i64 cy, .int .i64 cw, .int .i64 ch, .int .i64 aT, .slice A l.length cc], .slice (some yw) pq.length cp] (by rfl) rfl rfl (by (try simp only [List.map_toArray, List.map_cons, List.map_nil]); rfl) ?_
        refine (Hq ⟨ck, ⟨cx, cy, cw, ch⟩, aT, l⟩ pq z HAT.out xQ.out HZ.out (S.out.tree _ (.head _)) (eF iH.out S.out bz jd.out).1 (eF iH.out S.out bz jd.out).2).mono ?_
        rintro e mg ⟨Az, cz, rfl, h1, hb⟩
        refine ⟨_, rfl, ?_⟩
        replace S := ae.mk (S.out.yj h1 hb)
        clear h1 hb
        refine hK.out _ _ S.out.dA.free.dG (fun hHeld => ?_)
        clear hK K
        refine dK 47 ?_
        refine au 5 42 (bA 11 319) aj ?_
        refine au 6 48 (bA 11 383) aj ?_
        refine au 7 49 (bA 11 511) aj ?_
        exact kM (by simp only [gW, Act.put, List.setIfInBounds_toArray, List.set_cons_zero, List.set_cons_succ] <;> rfl) (jI (Az, cz, b11) _ S.out)
      rintro ⟨Az, cz, b11⟩ PG S1
      simp only [gW, Act.put, List.setIfInBounds_toArray, List.set_cons_zero, List.set_cons_succ]
      replace S := ae.mk S1
      clear S1 hHeld
      have hHeld := S.out.dA.free.dG
      refine nT 9 none (bA 11 1023) aj (fun K hK => ?_)
      refine n_ 0 rfl 26 (.tmp 11) (.tmp 48) rfl #[.int .u8 z.f0, .int .i64 z.f1.f0, .int .i64 z.f1.f1, .int .i64 z.f1.f2, .int .i64 z.f1.f3, .int .i64 z.f2, .slice Az z.f3.length cz] (j := 0) (u := .agg #[.int .u8 z.f0, .int .i64 z.f1.f0, .int .i64 z.f1.f1, .int .i64 z.f1.f2, .int .i64 z.f1.f3, .int .i64 z.f2, .slice Az z.f3.length cz]) (bG := [.int .u8 z.f0, .int .i64 z.f1.f0, .int .i64 z.f1.f1, .int .i64 z.f1.f2, .int .i64 z.f1.f3, .int .i64 z.f2, .slice Az z.f3.length cz]) S.out (by rfl) rfl rfl rfl rfl (by kernel_rfl) (by simp [Value.oneCell']) (by simp) rfl ?_
      intro xO S1
      simp only [List.set_cons_zero, List.set_cons_succ] at S1
      replace S := ae.mk S1
      clear S1
      refine hK.out _ _ ?_
      clear hK K
      refine au 10 12 (bA 11 2047) aj ?_
      refine jG (gK aj.out (by kernel_rfl)) ?_
      clear hHeld
      obtain ⟨t_, uf, ug, uh, ui, uj, rG⟩ := St.fA S (.head _)
      go_wp2_with ((refine bT (some 52) Try.func99 S (Aw (c := z) HA.out (Kd.qF (base' := 0) (S.out.own _ (.head _)))) ?_; clear S; intro xP S; clear t_ uf ug uh ui uj rG))
      refine iT (n := 17) (S := fun w' => St w _ _ _ _ _ w') (ds := [15]) (bA 17 0) (by kernel_rfl) rfl rfl (S.out.call (bg (Below.refl _ _))) (fun hHeld => ?_); refine eP uU.afz uU.abW (fun aj dW => ?_)
      replace S := ae.mk (S.out.call (bg (Below.refl _ _)))
      generalize xP.drew = wd9 at S hHeld ⊢
      refine dO 0 53 (bA 17 1) aj dW hHeld ?_ (hv := by intro w' hs_; have t_ := (hs_.at (.head _) 0).trans rfl; have uf := (hs_.at (.head _) 1).trans rfl; have ug := (hs_.at (.head _) 2).trans rfl; have uh := (hs_.at (.head _) 3).trans rfl; have ui := (hs_.at (.head _) 4).trans rfl; have uj := (hs_.at (.head _) 5).trans rfl; have rG := (hs_.at (.head _) 6).trans rfl; go_simp; with_reducible rfl)
      refine au 1 54 (bA 17 3) aj ?_
      refine au 2 55 (bA 17 7) aj ?_
      refine au 3 56 (bA 17 15) aj ?_
      refine au 4 57 (bA 17 31) aj ?_
      refine au 5 58 (bA 17 63) aj ?_
      refine au 6 59 (bA 17 127) aj ?_
      refine dO 7 60 (bA 17 255) aj dW hHeld ?_ (hv := by intro w' hs_; have xp := Be iH.out (hs_.blk _ bz) n PV.out; go_simp; with_reducible rfl)
      refine au 8 61 (bA 17 511) aj ?_
      refine dO 9 62 (bA 17 1023) aj dW hHeld ?_ (hv := by intro w' hs_; have rG := (hs_.at (.head _) 6).trans rfl; go_simp; with_reducible rfl)
      refine au 10 63 (bA 17 2047) aj ?_
      refine au 11 64 (bA 17 4095) aj ?_
      refine au 12 65 (bA 17 8191) aj ?_
      refine au 13 66 (bA 17 16383) aj ?_
      refine au 14 67 (bA 17 32767) aj ?_
      refine nT 15 none (bA 17 65535) aj (fun K hK => ?_)
      refine n_ 2 rfl 147 (.tmp 6) (.tmp 67) rfl #[.int .u8 z.f0, .int .i64 z.f1.f0, .int .i64 z.f1.f1, .int .i64 z.f1.f2, .int .i64 z.f1.f3, .int .i64 z.f2, .slice Az z.f3.length cz, .slice (some yw) pq.length cp, .int .i64 (mn (rd p (n : Int)) (wrap64 ((z.f3.length : Int) - 2))), .int .u8 ax] (j := 0) (u := .agg #[.int .u8 z.f0, .int .i64 z.f1.f0, .int .i64 z.f1.f1, .int .i64 z.f1.f2, .int .i64 z.f1.f3, .int .i64 z.f2, .slice Az z.f3.length cz, .slice (some yw) pq.length cp, .int .i64 (mn (rd p (n : Int)) (wrap64 ((z.f3.length : Int) - 2))), .int .u8 ax]) (bG := [.int .u8 z.f0, .int .i64 z.f1.f0, .int .i64 z.f1.f1, .int .i64 z.f1.f2, .int .i64 z.f1.f3, .int .i64 z.f2, .slice Az z.f3.length cz, .slice (some yw) pq.length cp, .int .i64 (mn (rd p (n : Int)) (wrap64 ((z.f3.length : Int) - 2))), .int .u8 ax]) S.out (by rfl) rfl rfl rfl rfl (by kernel_rfl) (by simp [Value.oneCell']) (by simp) rfl ?_
      intro yl S1
      simp only [List.set_cons_zero, List.set_cons_succ] at S1
      replace S := ae.mk S1
      clear S1
      refine hK.out _ _ ?_
      clear hK K
      refine au 16 7 (bA 17 131071) aj ?_
      refine jG (gK aj.out (by kernel_rfl)) ?_
      clear hHeld
      go_wp2
      all_goals
       refine bodyPost_ret (fE rfl _ _ b6 147 _ (0, 0) _ rfl (S.out.blk _ dR _ rfl) Try.underlying147 rfl (by kernel_rfl)) rfl ?_
       rw [jd.out.1]
       exact ⟨_, _, _, _, _, (by rw [v_.out.hq, HW2.out]; rfl), iH.out, S.out.dA.sW.dA.sW.dA.dG⟩
end Go.Proofs.Ytfdmfgaiblfbhaa.P
namespace Go.Proofs.Ytfdmfgaiblfbhaa.P
open Go.RowKit Go.Proofs.ag.aQ Go.Proofs.ag.bu Go.Proofs.ag.bP
def xG.T1 : Bool × List (List Nat × List Nat) := (true, [([], []), ([0], [0]), ([1], [1]), ([2], [2]), ([3], [3]), ([], []), ([4, 5], [4, 5]), ([6], [6]), ([], []), ([8], [8]), ([9], [9]), ([10], [10]), ([7, 11], [7, 11]), ([12, 12, 0, 1, 2, 3, 4, 5, 6, 7, 8, 9, 10, 11, 12], [12])])
def xG.B1 : List Nat := [0, 1, 3, 7, 15, 0, 63, 127, 0, 256, 768, 1792, 4095, 8191]
theorem xG.aha : iD .any (opsOf Try.f164 1) = xG.T1 := by kernel_rfl
theorem xG.aeR : iG xG.T1.2 xG.B1 = true := by kernel_rfl
theorem mr {g : Nat} {fk fx fy fw fh zI ax : Int} {VP : Value} {q : Nat} {A : Option Addr} {cap : Nat} {L : List ai} {b : Nat} {P : Nat → Prop} {w : World} (i : Nat) (hi : i < L.length) (hz : dN L ≤ 1000000) (hF : w.heap[g]? = some (.cells #[.int .u8 fk, .int .i64 fx, .int .i64 fy, .int .i64 fw, .int .i64 fh, .int .i64 zI, .slice A L.length cap, VP, .int .i64 (q : Int), .int .u8 ax] 147 (0, 0))) (hv : Kd.V k26 26 w b P (.slice A L.length cap) L) :
  Calls Try.prog 164 #[.pointer (some ⟨g, 0, none⟩), .int .i64 (i : Int)] w fun e w' => e = .returned (.int .i64 (aU ax (kd L i))) ∧ Below w.heap.size w w' := by
 have S := ae.mk (St.start (ts := [(.slice A L.length cap, L)]) (b0 := w.heap.size) (w := w) (P := P) (fun t ht => by rw [List.mem_singleton.1 ht]; exact gQ hv))
 replace S := ae.mk (S.out.yL (show w.cell? ⟨g, 6, none⟩ = some (.slice A L.length cap) from (af hF 6).trans rfl))
 replace S := ae.mk (S.out.yL (show w.cell? ⟨g, 9, none⟩ = some (.int .u8 ax) from (af hF 9).trans rfl))
 have hi0 : (0 : Int) ≤ (i : Int) := Int.natCast_nonneg _
 have hi1 : (i : Int) < (L.length : Int) := by omega
 obtain ⟨kG, ua, uc, ek, S1⟩ := S.out.elem (.head _) (i : Int) hi0 hi1
 subst ek
 rw [Eg] at S1
 simp only [Int.toNat_natCast] at S1
 have lK := ae.mk (show sz (kd L i) ≤ 1048576 by have := xC (rP hi); omega)
 generalize kd L i = k at S1 lK ⊢
 replace S := ae.mk S1
 clear S1 hF hv hz
 go_enter Try.func164, Try.ntmps164
 go_wp2
 refine iT (n := 14) (S := fun w' => St w _ _ _ _ _ w') (ds := []) (bA 14 0) (by kernel_rfl) rfl rfl (S.out.call (bg (Below.refl _ _))) (fun hHeld => ?_); refine eP xG.aha xG.aeR (fun aj dW => ?_)
 replace S := ae.mk (S.out.call (bg (Below.refl _ _)))
 generalize w.drew = Cj at S hHeld ⊢
 refine au 0 5 (bA 14 1) aj ?_
 refine au 1 6 (bA 14 3) aj ?_
 refine au 2 7 (bA 14 7) aj ?_
 refine au 3 8 (bA 14 15) aj ?_
 refine dO 4 9 (bA 14 31) aj dW hHeld ?_ (hv := by intro w' hs_; have y8_ := (hs_.cell _ mm8).1; go_simp; with_reducible rfl)
 refine au 5 10 (bA 14 63) aj ?_
 refine au 6 11 (bA 14 127) aj ?_
 refine dO 7 12 (bA 14 255) aj dW hHeld ?_ (hv := by intro w' hs_; have iJ := (hs_.cell _ (.head _)).1; have jD := (hs_.cell _ bz).1; have kK := (hs_.cell _ dR).1; have jX := (hs_.cell _ kX).1; have jY := (hs_.cell _ qg).1; have mO := (hs_.cell _ AZ).1; have mP := (hs_.cell _ Cf).1; go_simp; with_reducible rfl)
 refine au 8 13 (bA 14 511) aj ?_
 refine au 9 14 (bA 14 1023) aj ?_
 refine au 10 15 (bA 14 2047) aj ?_
 refine dO 11 16 (bA 14 4095) aj dW hHeld ?_ (hv := by intro w' hs_; have JF := (hs_.cell _ O6).1; go_simp; with_reducible rfl)
 refine jf 12 (some 17) (bA 14 8191) aj (fun K hK => ?_)
 refine yF Try.func86 #[.agg #[.int .u8 k.f0, .int .i64 k.f1.f0, .int .i64 k.f1.f1, .int .i64 k.f1.f2, .int .i64 k.f1.f3, .int .i64 k.f2, .slice ua k.f3.length uc], .int .u8 ax] ?_
 refine (AQ k ax lK.out (S.out.tree _ (.head _))).mono ?_
 rintro e eU ⟨rfl, hb⟩
 refine ⟨_, rfl, ?_⟩
 replace S := ae.mk (S.out.call hb)
 clear hb
 refine hK.out _ _ S.out (fun hHeld => ?_)
 clear hK K
 refine dK 17 ?_
 refine au 13 4 (bA 14 16383) aj ?_
 refine jG (gK aj.out (by kernel_rfl)) ?_
 clear hHeld
 go_wp2
 go_ret
 exact ⟨rfl, S.out.below⟩
def V7 : Option Nat → Int
 | some i => i
 | none => -1
theorem wI {g : Nat} {fk fx fy fw fh zI ax : Int} {VP : Value} {q : Nat} {A : Option Addr} {cap : Nat} {L : List ai} {b : Nat} {P : Nat → Prop} {w : World} (m : Bool) (hq : q + 1 < L.length) (hl : L.length ≤ 1000000) (hz : dN L ≤ 1000000) (hF : w.heap[g]? = some (.cells #[.int .u8 fk, .int .i64 fx, .int .i64 fy, .int .i64 fw, .int .i64 fh, .int .i64 zI, .slice A L.length cap, VP, .int .i64 (q : Int), .int .u8 ax] 147 (0, 0))) (hv : Kd.V k26 26 w b P (.slice A L.length cap) L) :
  Calls Try.prog 185 #[.pointer (some ⟨g, 0, none⟩), .bool m] w fun e w' => e = .returned (.int .i64 (V7 (mJ ax q m L))) ∧ Below w.heap.size w w' := by
 have S := ae.mk (St.start (ts := [(.slice A L.length cap, L)]) (b0 := w.heap.size) (w := w) (P := P) (fun t ht => by rw [List.mem_singleton.1 ht]; exact gQ hv))
 replace S := ae.mk (S.out.yL (show w.cell? ⟨g, 6, none⟩ = some (.slice A L.length cap) from (af hF 6).trans rfl))
 replace S := ae.mk (S.out.yL (show w.cell? ⟨g, 8, none⟩ = some (.int .i64 (q : Int)) from (af hF 8).trans rfl))
 have HF := ae.mk hF
 have HZ := ae.mk hz
 have jw := ae.mk hl
 have HQ := ae.mk hq
 have Xo := ae.mk (show wrap64 ((q : Int) + 1) = ((q + 1 : Nat) : Int) by unfold wrap64; omega)
 generalize hR : mJ ax q m L = R
 unfold mJ at hR
 clear hF hz hl hq hv
 cases m with
 | true =>
  simp only [if_true] at hR
  have HR := ae.mk hR
  clear hR
  go_enter Try.func185, Try.ntmps185
  have iJ := (S.out.cell _ (.head _)).1
  go_wp2
  clear iJ
  go_loopg [5] L.length (fun gg v5 wr => ∃ i : Nat, v5 = .int .i64 (i : Int) ∧ ae (i ≤ L.length) ∧ L.length - i ≤ gg ∧ ae ((match Jk (qw ax L) (L.length - i) i with | some i => some i | none => oM (qw ax L) q) = R) ∧ ae (St w P [] [] [(.slice A L.length cap, L)] [(⟨g, 8, none⟩, .int .i64 (q : Int)), (⟨g, 6, none⟩, .slice A L.length cap)] wr))
  case atStart => exact ⟨q + 1, (by rw [Xo.out]), ⟨by have := HQ.out; omega⟩, by omega, HR, S⟩
  case round =>
   clear S HR
   obtain ⟨i, rfl, HI, hgg, HR, S⟩ := hrel
   by_cases hlt : i < L.length
   case pos =>
    have nU := ae.mk hlt
    have hlz : (i : Int) < (L.length : Int) := by omega
    have iF := ae.mk hgg
    have hw : wrap64 ((i : Int) + 1) = ((i + 1 : Nat) : Int) := by have := jw.out; unfold wrap64; omega
    have HW := ae.mk hw
    have hr := HR.out
    rw [show L.length - i = (L.length - (i + 1)) + 1 by omega, Jk] at hr
    clear hw hgg
    by_cases hp : 0 < aU ax (kd L i)
    case pos =>
     rw [if_pos (by unfold qw; simp; omega)] at hr
     replace HR := ae.mk hr
     obtain ⟨hga, hgb⟩ := mZ (a := 0) (b := aU ax (kd L i)) (by omega)
     clear hr hp
     have jD := (S.out.cell _ bz).1
     go_wp2_with ((refine bT (some 27) Try.func164 S (mr i nU.out HZ.out (aI HF.out S.out.below) (S.out.tree _ (.head _))) ?_; clear S; intro dQ S; clear jD))
     go_ret
     rw [← HR.out]
     exact ⟨rfl, S.out.below⟩
    case neg =>
     rw [if_neg (by unfold qw; simp; omega)] at hr
     replace HR := ae.mk hr
     obtain ⟨hga, hgb⟩ := lY (a := 0) (b := aU ax (kd L i)) (by omega)
     clear hr hp
     have jD := (S.out.cell _ bz).1
     go_wp2_with ((refine bT (some 27) Try.func164 S (mr i nU.out HZ.out (aI HF.out S.out.below) (S.out.tree _ (.head _))) ?_; clear S; intro dQ S; clear jD))
     have hw := HW.out
     go_wp2
     go_roundg (L.length - (i + 1))
     case measure => have := iF.out; have := nU.out; omega
     case rel => exact ⟨i + 1, (by rw [hw]), ⟨by have := nU.out; omega⟩, Nat.le_refl _, HR, S⟩
   case neg =>
    have hlz : ¬ ((i : Int) < (L.length : Int)) := by omega
    have hr := HR.out
    rw [show L.length - i = 0 by omega, Jk] at hr
    simp only [] at hr
    replace HR := ae.mk hr
    clear hr hgg
    have jD := (S.out.cell _ bz).1
    have iJ := (S.out.cell _ (.head _)).1
    go_wp2
    clear jD iJ
    clear hlt hlz
    go_loopg [6] (q + 1) (fun gg v6 wr => ∃ n : Nat, v6 = .int .i64 ((n : Int) - 1) ∧ ae (n ≤ q + 1) ∧ n ≤ gg ∧ ae (oM (qw ax L) (Nat.min n q) = R) ∧ ae (St w P [] [] [(.slice A L.length cap, L)] [(⟨g, 8, none⟩, .int .i64 (q : Int)), (⟨g, 6, none⟩, .slice A L.length cap)] wr))
    case atStart => exact ⟨q + 1, (by congr 1; omega), ⟨Nat.le_refl _⟩, Nat.le_refl _, ⟨by rw [show Nat.min (q + 1) q = q from Nat.min_eq_right (by omega)]; exact HR.out⟩, S⟩
    case round =>
     clear S HR
     obtain ⟨n, rfl, HN, hgg, HR, S⟩ := hrel
     cases n with
     | zero =>
      have hr := HR.out
      rw [show Nat.min 0 q = 0 from Nat.min_eq_left (Nat.zero_le _), oM] at hr
      replace HR := ae.mk hr
      clear hr
      go_wp2
      go_ret
      rw [← HR.out]
      exact ⟨rfl, S.out.below⟩
     | succ n =>
      have e1 : (((n + 1 : Nat) : Int) - 1) = (n : Int) := by omega
      rw [e1]
      have nU := ae.mk (show n < L.length by have := HN.out; have := HQ.out; omega)
      have iF := ae.mk hgg
      have hw : wrap64 ((n : Int) - 1) = (n : Int) - 1 := by have := HN.out; have := HQ.out; have := jw.out; unfold wrap64; omega
      have HW := ae.mk hw
      have h0 : decide ((n : Int) ≥ 0) = true := decide_eq_true (Int.natCast_nonneg _)
      have wo : (0 : Int) ≤ (n : Int) := Int.natCast_nonneg _
      have hr := HR.out
      clear hw hgg e1
      by_cases hp : 0 < aU ax (kd L n)
      case pos =>
       by_cases hnq : n < q
       case pos =>
        rw [show Nat.min (n + 1) q = n + 1 from Nat.min_eq_left (by omega), oM, if_pos (by unfold qw; simp; omega)] at hr
        replace HR := ae.mk hr
        obtain ⟨hga, hgb⟩ := mZ (a := 0) (b := aU ax (kd L n)) (by omega)
        obtain ⟨hsa, hsb⟩ := mZ (a := (n : Int)) (b := (q : Int)) (by omega)
        have hsc : decide (n < q) = true := decide_eq_true (by omega)
        have hse : n < q := by omega
        clear hr hp
        go_wp2_with ((refine bT (some 40) Try.func164 S (mr n nU.out HZ.out (aI HF.out S.out.below) (S.out.tree _ (.head _))) ?_; clear S; intro dQ S; have iJ := (S.out.cell _ (.head _)).1))
        clear iJ
        go_ret
        rw [← HR.out]
        exact ⟨rfl, S.out.below⟩
       case neg =>
        rw [show Nat.min (n + 1) q = Nat.min n q by rw [show Nat.min (n + 1) q = q from Nat.min_eq_right (by omega), show Nat.min n q = q from Nat.min_eq_right (by omega)]] at hr
        replace HR := ae.mk hr
        obtain ⟨hga, hgb⟩ := mZ (a := 0) (b := aU ax (kd L n)) (by omega)
        obtain ⟨hsa, hsb⟩ := lY (a := (n : Int)) (b := (q : Int)) (by omega)
        have hsc : decide (n < q) = false := decide_eq_false (by omega)
        have hse : ¬ (n < q) := by omega
        clear hr hp
        go_wp2_with ((refine bT (some 40) Try.func164 S (mr n nU.out HZ.out (aI HF.out S.out.below) (S.out.tree _ (.head _))) ?_; clear S; intro dQ S; have iJ := (S.out.cell _ (.head _)).1))
        clear iJ
        have hw := HW.out
        go_wp2
        go_roundg n
        case measure => exact Nat.lt_of_lt_of_le (Nat.lt_succ_self _) iF.out
        case rel => exact ⟨n, (by rw [hw]), ⟨by have := HN.out; omega⟩, Nat.le_refl _, HR, S⟩
      case neg =>
       have hmn : oM (qw ax L) (Nat.min (n + 1) q) = oM (qw ax L) (Nat.min n q) := by
        by_cases hnq : n < q
        ·rw [show Nat.min (n + 1) q = n + 1 from Nat.min_eq_left (by omega), show Nat.min n q = n from Nat.min_eq_left (by omega), oM, if_neg (by unfold qw; simp; omega)]
        ·rw [show Nat.min (n + 1) q = q from Nat.min_eq_right (by omega), show Nat.min n q = q from Nat.min_eq_right (by omega)]
       rw [hmn] at hr; clear hmn
       replace HR := ae.mk hr
       obtain ⟨hga, hgb⟩ := lY (a := 0) (b := aU ax (kd L n)) (by omega)
       clear hr hp
       go_wp2_with ((refine bT (some 40) Try.func164 S (mr n nU.out HZ.out (aI HF.out S.out.below) (S.out.tree _ (.head _))) ?_; clear S; intro dQ S))
       have hw := HW.out
       go_wp2
       go_roundg n
       case measure => exact Nat.lt_of_lt_of_le (Nat.lt_succ_self _) iF.out
       case rel => exact ⟨n, (by rw [hw]), ⟨by have := HN.out; omega⟩, Nat.le_refl _, HR, S⟩
 | false =>
  simp only [Bool.false_eq_true, if_false] at hR
  have HR := ae.mk hR
  clear hR
  go_enter Try.func185, Try.ntmps185
  have iJ := (S.out.cell _ (.head _)).1
  go_wp2
  clear iJ
  go_loopg [5] 0 (fun gg v5 wr => ∃ i : Nat, v5 = .int .i64 (i : Int) ∧ ae (St w P [] [] [(.slice A L.length cap, L)] [(⟨g, 8, none⟩, .int .i64 (q : Int)), (⟨g, 6, none⟩, .slice A L.length cap)] wr))
  case atStart => exact ⟨q + 1, (by rw [Xo.out]), S⟩
  case round =>
   clear S
   obtain ⟨i, rfl, S⟩ := hrel
   have iJ := (S.out.cell _ (.head _)).1
   go_wp2
   clear iJ
   go_loopg [6] (q + 1) (fun gg v6 wr => ∃ n : Nat, v6 = .int .i64 ((n : Int) - 1) ∧ ae (n ≤ q + 1) ∧ n ≤ gg ∧ ae (oM (qw ax L) n = R) ∧ ae (St w P [] [] [(.slice A L.length cap, L)] [(⟨g, 8, none⟩, .int .i64 (q : Int)), (⟨g, 6, none⟩, .slice A L.length cap)] wr))
   case atStart => exact ⟨q + 1, (by congr 1; omega), ⟨Nat.le_refl _⟩, Nat.le_refl _, HR, S⟩
   case round =>
    clear S HR
    obtain ⟨n, rfl, HN, hgg, HR, S⟩ := hrel
    cases n with
    | zero =>
     have hr := HR.out
     rw [oM] at hr
     replace HR := ae.mk hr
     clear hr
     go_wp2
     go_ret
     rw [← HR.out]
     exact ⟨rfl, S.out.below⟩
    | succ n =>
     have e1 : (((n + 1 : Nat) : Int) - 1) = (n : Int) := by omega
     rw [e1]
     have nU := ae.mk (show n < L.length by have := HN.out; have := HQ.out; omega)
     have iF := ae.mk hgg
     have hw : wrap64 ((n : Int) - 1) = (n : Int) - 1 := by have := HN.out; have := HQ.out; have := jw.out; unfold wrap64; omega
     have HW := ae.mk hw
     have h0 : decide ((n : Int) ≥ 0) = true := decide_eq_true (Int.natCast_nonneg _)
     have wo : (0 : Int) ≤ (n : Int) := Int.natCast_nonneg _
     have hr := HR.out
     clear hw hgg e1
     by_cases hp : 0 < aU ax (kd L n)
     case pos =>
      by_cases hnq : n < q
      case pos =>
       rw [oM, if_pos (by unfold qw; simp; omega)] at hr
       replace HR := ae.mk hr
       obtain ⟨hga, hgb⟩ := mZ (a := 0) (b := aU ax (kd L n)) (by omega)
       obtain ⟨hsa, hsb⟩ := mZ (a := (n : Int)) (b := (q : Int)) (by omega)
       have hsc : decide (n < q) = true := decide_eq_true (by omega)
       have hse : n < q := by omega
       clear hr hp
       go_wp2_with ((refine bT (some 40) Try.func164 S (mr n nU.out HZ.out (aI HF.out S.out.below) (S.out.tree _ (.head _))) ?_; clear S; intro dQ S; have iJ := (S.out.cell _ (.head _)).1))
       clear iJ
       go_ret
       rw [← HR.out]
       exact ⟨rfl, S.out.below⟩
      case neg =>
       rw [oM, if_pos (by unfold qw; simp; omega)] at hr
       replace HR := ae.mk hr
       obtain ⟨hga, hgb⟩ := mZ (a := 0) (b := aU ax (kd L n)) (by omega)
       obtain ⟨hsa, hsb⟩ := lY (a := (n : Int)) (b := (q : Int)) (by omega)
       have hsc : decide (n < q) = false := decide_eq_false (by omega)
       have hse : ¬ (n < q) := by omega
       clear hr hp
       go_wp2_with ((refine bT (some 40) Try.func164 S (mr n nU.out HZ.out (aI HF.out S.out.below) (S.out.tree _ (.head _))) ?_; clear S; intro dQ S; have iJ := (S.out.cell _ (.head _)).1))
       clear iJ
       go_ret
       rw [← HR.out]
       exact ⟨rfl, S.out.below⟩
     case neg =>
      rw [oM, if_neg (by unfold qw; simp; omega)] at hr
      replace HR := ae.mk hr
      obtain ⟨hga, hgb⟩ := lY (a := 0) (b := aU ax (kd L n)) (by omega)
      clear hr hp
      go_wp2_with ((refine bT (some 40) Try.func164 S (mr n nU.out HZ.out (aI HF.out S.out.below) (S.out.tree _ (.head _))) ?_; clear S; intro dQ S))
      have hw := HW.out
      go_wp2
      go_roundg n
      case measure => exact Nat.lt_of_lt_of_le (Nat.lt_succ_self _) iF.out
      case rel => exact ⟨n, (by rw [hw]), ⟨by have := HN.out; omega⟩, Nat.le_refl _, HR, S⟩
def uV.T18 : Bool × List (List Nat × List Nat) := (true, [([], []), ([0], [0]), ([], []), ([], []), ([], []), ([], []), ([3, 4, 5], [3, 4, 5]), ([1, 2, 0, 1, 2, 3, 4, 5, 6], [1, 2]), ([7, 6, 6, 0, 1, 2, 3, 4, 5, 6], [6, 7])])
def uV.B18 : List Nat := [0, 1, 0, 0, 0, 0, 56, 127, 255]
theorem uV.afA : iD .any (opsOf Try.f199 18) = uV.T18 := by kernel_rfl
theorem uV.abX : iG uV.T18.2 uV.B18 = true := by kernel_rfl
theorem Yp {W : World} {b : Nat} {P : Nat → Prop} {A : Option Addr} {n cc : Nat} (c : ai) (ax : Int) (hV : Kd.V k26 26 W b P (.slice A n cc) c.f3) :
  Calls Try.prog 99 #[.agg #[.int .u8 c.f0, .int .i64 c.f1.f0, .int .i64 c.f1.f1, .int .i64 c.f1.f2, .int .i64 c.f1.f3, .int .i64 c.f2, .slice A n cc], .int .u8 ax] W fun e w' => e = .returned (.bool (fM ax c.f0)) ∧ Below W.heap.size W w' := by
 obtain rfl := (Kd.kR hV).1
 exact Yo c ax hV
theorem abO (ax : Int) : ∀ (N : Nat) (c : ai), sz c ≤ N → N ≤ 100000 → ∀ (aW : Int), (-2147483647 ≤ aW ∧ aW ≤ 2147483647) → ∀ (P : Nat → Prop) (A : Option Addr) (cc : Nat) (w : World), Kd.V k26 26 w w.heap.size P (.slice A c.f3.length cc) c.f3 →
  Calls Try.prog 199 #[.agg #[.int .u8 c.f0, .int .i64 c.f1.f0, .int .i64 c.f1.f1, .int .i64 c.f1.f2, .int .i64 c.f1.f3, .int .i64 c.f2, .slice A c.f3.length cc], .int .u8 ax, .int .i64 aW] w (P6 w P (fK ax c aW)) := by
 intro N
 induction N with
 | zero => intro c h; rw [bZ] at h; omega
 | succ N ih =>
  intro c hc hN aW hby P A cc w hv
  have hsz := bZ c
  have hlen := jJ c.f3
  have hl1 : c.f3.length ≤ 100000 := by omega
  have IH := ae.mk fun (k : ai) (hk : k ∈ c.f3) (n : Int) (hn : -2147483647 ≤ n ∧ n ≤ 2147483647) P A cc w h => ih k (by have := Pz hk; omega) (by omega) n hn P A cc w h
  have Oh := ae.mk fun (k : ai) (hk : k ∈ c.f3) => (show sz k ≤ 1048576 by have := Pz hk; omega)
  have jw := ae.mk (show c.f3.length ≤ 1000000 by omega)
  have SY := DN aW (c.f3.map (aU ax)) (by simpa using hl1) hby.1 hby.2
  have hsl := aax (b := aW) (gs := c.f3.map (aU ax)) (by simpa using hl1) hby.1 hby.2
  have hsb := UO (b := aW) (gs := c.f3.map (aU ax)) (by simpa using hl1) hby.1 hby.2
  have Qm := fun (Ag : Option Addr) (cg : Nat) (W : World) (hC : Kd.C (Kd.int .i64) W Ag (c.f3.map (aU ax)).length (c.f3.map (aU ax))) (h2 : (c.f3.map (aU ax)).length ≤ cg) => WZ aW (c.f3.map (aU ax)) (by simpa using hl1) hby.1 hby.2 hC h2
  have OG : ∀ i, Jy ax c.f0 c.f3 aW i = if (qK aW (c.f3.map (aU ax))).2 = true ∧ fM ax c.f0 = true then rd (qK aW (c.f3.map (aU ax))).1 (i : Int) else aW := fun i => rfl
  rw [yM]
  have S := ae.mk (St.start (ts := [(.slice A c.f3.length cc, c.f3)]) (b0 := w.heap.size) (w := w) (P := P) (fun t ht => by rw [List.mem_singleton.1 ht]; exact hv))
  obtain ⟨ck, ⟨cx, cy, cw, ch⟩, aT, l⟩ := c
  simp only [] at S IH Oh jw SY hsl hsb Qm OG hl1 ⊢
  obtain ⟨gw, hgw⟩ : ∃ gw, gw = if ax = 1 then wrap64 (cw + aW) else cw := ⟨_, rfl⟩
  obtain ⟨gh, hgh⟩ : ∃ gh, gh = if ax = 1 then ch else wrap64 (ch + aW) := ⟨_, rfl⟩
  simp only [grow]
  rw [← hgw, ← hgh]
  generalize Jy ax ck l aW = NS at OG ⊢
  obtain ⟨⟨sl, ok⟩, hsp⟩ : ∃ sp, sp = qK aW (l.map (aU ax)) := ⟨_, rfl⟩
  simp only [← hsp, List.length_map] at hsl hsb Qm OG
  have HNB := ae.mk (show ∀ i, i < l.length → -2147483647 ≤ NS i ∧ NS i ≤ 2147483647 from fun i hi => by
   rw [OG i]
   split
   ·rename_i h
    exact hsb _ (by unfold rd; rw [List.getD_eq_getElem?_getD, List.getElem?_eq_getElem (by rw [hsl h.1]; simpa using hi)]; exact List.getElem_mem _)
   ·exact hby)
  have Xp := ae.mk hsl
  have HNS := ae.mk OG
  have HSC := ae.mk Qm
  have Og := ae.mk hgw
  have HGH := ae.mk hgh
  have HL1 := ae.mk hl1
  clear ih hc hN hby hv hsz hlen SY hsl hsb Qm OG hgw hgh hsp hl1
  go_enter Try.func199, Try.ntmps199
  go_upto_if 16 with (first
   | (refine boxS 3 _ 26 S ?_; clear S; intro b3 dQ S)
   | (refine boxS 6 _ 26 S ?_; clear S; intro b6 eU S)
   | fail)
  go_cut [] (fun wc => ae (St w P [(some b6, .cells #[.int .u8 0, .int .i64 0, .int .i64 0, .int .i64 0, .int .i64 0, .int .i64 0, .slice none 0 0] 26 (0, 0)), (some b3, .cells #[.int .u8 ck, .int .i64 cx, .int .i64 cy, .int .i64 gw, .int .i64 gh, .int .i64 aT, .slice A l.length cc] 26 (0, 0))] [] [(.slice A l.length cc, l)] [] wc))
  case first =>
   by_cases hx : ax = 1
   ·have hxb : (ax == 1) = true := beq_iff_eq.mpr hx
    have HX := ae.mk hx
    clear hx
    have bD := (S.out.at bz 3).trans rfl
    go_wp2_with (first
     | (refine zV 3 23 21 #[.int .u8 ck, .int .i64 cx, .int .i64 cy, .int .i64 (wrap64 (cw + aW)), .int .i64 ch, .int .i64 aT, .slice A l.length cc] 3 1 S ?_; clear S; intro gV S; clear bD)
     | fail)
    go_meet
    case rel => rw [Og.out, HGH.out, if_pos HX.out, if_pos HX.out]; exact S
   ·have hxb : (ax == 1) = false := beq_eq_false_iff_ne.mpr hx
    have HX := ae.mk hx
    clear hx
    have dC := (S.out.at bz 4).trans rfl
    go_wp2_with (first
     | (refine zV 3 30 28 #[.int .u8 ck, .int .i64 cx, .int .i64 cy, .int .i64 cw, .int .i64 (wrap64 (ch + aW)), .int .i64 aT, .slice A l.length cc] 4 1 S ?_; clear S; intro ji S; clear dC)
     | fail)
    go_meet
    case rel => rw [Og.out, HGH.out, if_neg HX.out, if_neg HX.out]; exact S
  case rest =>
   clear S Og HGH
   rename World => wx
   have S := hcut
   clear hcut
   have bY := (S.out.at bz 6).trans rfl
   go_wp2_with (first
    | (refine Ql (some 33) Try.func137 S (Yv l jw.out (S.out.tree _ (.head _))) ?_; clear S; intro A1 c1 mg S; clear bY)
    | (refine zV 24 34 33 #[.int .u8 ck, .int .i64 cx, .int .i64 cy, .int .i64 gw, .int .i64 gh, .int .i64 aT, .slice A1 l.length c1] 6 1 S ?_; clear S; intro zQ S; have bY := (S.out.at bz 6).trans rfl)
    | fail)
   clear bY
   obtain ⟨oi, S1, HI0⟩ := S.out.noI
   clear S
   go_loopg [7, 38] l.length (fun gg v7 v38 wr => ∃ (pre rest : List ai) (Ag : Option Addr) (cg : Nat) (og : Obj), v7 = .slice Ag pre.length cg ∧ v38 = .int .i64 (pre.length : Int) ∧ ae (pre ++ rest = l) ∧ rest.length ≤ gg ∧ ae (IR w.heap.size (.slice Ag pre.length cg) (pre.map (aU ax)) og) ∧ ae (St w P [((Value.slice Ag pre.length cg).ownBlock, og), (some b6, .cells #[.int .u8 0, .int .i64 0, .int .i64 0, .int .i64 0, .int .i64 0, .int .i64 0, .slice none 0 0] 26 (0, 0)), (some b3, .cells #[.int .u8 ck, .int .i64 cx, .int .i64 cy, .int .i64 gw, .int .i64 gh, .int .i64 aT, .slice A1 l.length c1] 26 (0, 0))] [(.slice A1 l.length c1, l)] [(.slice A l.length cc, l)] [] wr))
   case atStart => exact ⟨[], l, none, 0, oi, rfl, rfl, ⟨rfl⟩, Nat.le_refl _, ⟨HI0⟩, ⟨S1⟩⟩
   case round =>
    clear S1 HI0 oi
    obtain ⟨pre, rest, Ag, cg, og, rfl, rfl, HE, hgg, HI, S⟩ := hrel
    cases rest with
    | nil =>
     have hE := HE.out
     rw [List.append_nil] at hE
     have hE2 := hE.symm
     subst hE2
     clear hE HE hgg
     have hlt : ¬ ((l.length : Int) < (l.length : Int)) := by omega
     have SY := fun W hW => HSC.out Ag cg W (by have h := (Kd.dP (HI.out W hW)).2.2; rw [List.length_map] at h; exact h) (by have h := (Kd.dP (HI.out W hW)).2.1; exact h)
     have HSH := ae.mk SY
     clear SY HSC
     go_wp2_with (first
      | (refine iw (some 52) Try.func49 (HSH.out _ (S.out.blk _ (.head _))) ?_; rintro e xO ⟨As, cs, rfl, h1, hb⟩; refine ⟨_, rfl, ?_⟩; obtain ⟨os, S1, HI1⟩ := S.out.NH h1 hb; replace S := ae.mk S1; have HIS := ae.mk HI1; clear S1 HI1 h1 hb; have bY := (S.out.at kX 6).trans rfl)
      | fail)
     clear bY
     go_loopg [58] l.length (fun gg v58 wr => ∃ (pre rest : List ai), v58 = .int .i64 (pre.length : Int) ∧ ae (pre ++ rest = l) ∧ rest.length ≤ gg ∧ ae (St w P [((Value.slice As sl.length cs).ownBlock, os), ((Value.slice Ag l.length cg).ownBlock, og), (some b6, .cells #[.int .u8 0, .int .i64 0, .int .i64 0, .int .i64 0, .int .i64 0, .int .i64 0, .slice none 0 0] 26 (0, 0)), (some b3, .cells #[.int .u8 ck, .int .i64 cx, .int .i64 cy, .int .i64 gw, .int .i64 gh, .int .i64 aT, .slice A1 l.length c1] 26 (0, 0))] [(.slice A1 l.length c1, (kS ax pre NS 0 ++ rest))] [(.slice A l.length cc, l)] [] wr))
     case atStart => exact ⟨[], l, rfl, ⟨rfl⟩, Nat.le_refl _, ⟨by rw [rE]; exact S.out⟩⟩
     case round =>
      clear S
      obtain ⟨pre, rest, rfl, HE, hgg, S⟩ := hrel
      cases rest with
      | nil =>
       have hE := HE.out
       rw [List.append_nil] at hE
       have hE2 := hE.symm
       subst hE2
       clear hE HE hgg
       have hlt : ¬ ((l.length : Int) < (l.length : Int)) := by omega
       obtain ⟨bH, bC, bF, bD, dC, dD, bY⟩ := St.fA S kX
       go_wp2_with (first
        | (refine QN 26 6 83 #[.int .u8 ck, .int .i64 cx, .int .i64 cy, .int .i64 gw, .int .i64 gh, .int .i64 aT, .slice A1 l.length c1] 0 7 S ?_; clear S; intro xP S; clear bH bC bF bD dC dD bY)
        | fail)
       refine bodyPost_ret (results_cell_row rfl _ _ b6 26 _ (0, 0) _ rfl (S.out.blk _ dR _ rfl) Try.underlying26 rfl (by kernel_rfl)) rfl ?_
       have hN := S.out.yg
       rw [List.append_nil] at hN
       simp only [P6, yQ]
       exact ⟨_, _, rfl, hN, S.out.below⟩
      | cons k rest =>
       have hk : k ∈ l := by rw [← HE.out]; simp
       have hlt : (pre.length : Int) < (l.length : Int) := by rw [← HE.out, List.length_append, List.length_cons]; omega
       have hw1 : wrap64 ((pre.length : Int) + 1) = ((pre ++ [k]).length : Int) := by have := jw.out; rw [List.length_append, List.length_singleton]; unfold wrap64; omega
       have HW1 := ae.mk hw1
       have iF := ae.mk hgg
       have HK := ae.mk hk
       have lK := ae.mk (Oh.out k hk)
       have Et := ae.mk (show pre.length ≤ 1000000 by have := jw.out; omega)
       have HJ := ae.mk (show pre.length < l.length by omega)
       have uJ := ae.mk (show (pre.length : Int) < ((kS ax pre NS 0 ++ k :: rest).length : Int) by rw [List.length_append, yQ, List.length_cons]; omega)
       obtain ⟨g, cap, ev, _⟩ := Kd.xm S.out.yg (by have := uJ.out; omega)
       injection ev with e1 e2 e3
       subst e1
       clear e2 e3 hk hgg hw1
       obtain ⟨ua, uc, S1, hcell⟩ := S.out.HY (pre.length : Int) (Int.natCast_nonneg _) uJ.out
       have hrd : az (kS ax pre NS 0 ++ k :: rest) (pre.length : Int) = k := abP ax NS pre k rest
       rw [hrd] at S1 hcell
       replace S := ae.mk S1
       have x0 : wr.cell? ⟨g, pre.length * 7, none⟩ = some (.int .u8 k.f0) := hcell 0 _ rfl
       have x1 : wr.cell? ⟨g, pre.length * 7 + 1, none⟩ = some (.int .i64 k.f1.f0) := hcell 1 _ rfl
       have x2 : wr.cell? ⟨g, pre.length * 7 + 2, none⟩ = some (.int .i64 k.f1.f1) := hcell 2 _ rfl
       have x3 : wr.cell? ⟨g, pre.length * 7 + 3, none⟩ = some (.int .i64 k.f1.f2) := hcell 3 _ rfl
       have x4 : wr.cell? ⟨g, pre.length * 7 + 4, none⟩ = some (.int .i64 k.f1.f3) := hcell 4 _ rfl
       have x5 : wr.cell? ⟨g, pre.length * 7 + 5, none⟩ = some (.int .i64 k.f2) := hcell 5 _ rfl
       have x6 : wr.cell? ⟨g, pre.length * 7 + 6, none⟩ = some (.slice ua k.f3.length uc) := hcell 6 _ rfl
       clear S1 hcell hrd
       go_upto_region 16 with (first
        | (refine boxS 13 _ 26 S ?_; clear S; intro b13 EI S; clear x0 x1 x2 x3 x4 x5 x6)
        | (refine ik 26 13 62 #[.int .u8 k.f0, .int .i64 k.f1.f0, .int .i64 k.f1.f1, .int .i64 k.f1.f2, .int .i64 k.f1.f3, .int .i64 k.f2, .slice ua k.f3.length uc] 0 7 S ?_; clear S; intro yl S)
        | fail)
       go_cut [69] (fun v69 wc => v69 = .bool (ok && fM ax ck) ∧ ae (St w P [(some b13, .cells #[.int .u8 k.f0, .int .i64 k.f1.f0, .int .i64 k.f1.f1, .int .i64 k.f1.f2, .int .i64 k.f1.f3, .int .i64 k.f2, .slice ua k.f3.length uc] 26 (0, 0)), ((Value.slice As sl.length cs).ownBlock, os), ((Value.slice Ag l.length cg).ownBlock, og), (some b6, .cells #[.int .u8 0, .int .i64 0, .int .i64 0, .int .i64 0, .int .i64 0, .int .i64 0, .slice none 0 0] 26 (0, 0)), (some b3, .cells #[.int .u8 ck, .int .i64 cx, .int .i64 cy, .int .i64 gw, .int .i64 gh, .int .i64 aT, .slice (some ⟨g, 0, none⟩) l.length c1] 26 (0, 0))] [(.slice (some ⟨g, 0, none⟩) l.length c1, (kS ax pre NS 0 ++ k :: rest))] [(.slice ua k.f3.length uc, k.f3), (.slice A l.length cc, l)] [] wc))
       case first =>
        cases ok with
        | false =>
         go_wp2
         go_meet
         case rel => exact ⟨by first | rfl | simp, S⟩
        | true =>
         obtain ⟨bH, bC, bF, bD, dC, dD, bY⟩ := St.fA S qg
         go_wp2_with (first
          | (refine gX 68 rfl ?_; (refine gy (by rfl) ?_; dsimp only); refine bT (some 68) Try.func99 S (Yp ⟨ck, ⟨cx, cy, gw, gh⟩, aT, _⟩ ax (Kd.qF (base' := 0) (S.out.own _ (.head _)))) ?_; clear S; intro NQ S; clear bH bC bF bD dC dD bY)
          | fail)
         go_meet
         case rel => exact ⟨by first | rfl | simp, S⟩
       case rest =>
        clear S
        obtain ⟨rfl, S⟩ := hcut
        rename World => wz
        go_upto_if 69 with fail
        go_cut [14] (fun v14 wc => v14 = .int .i64 (NS pre.length) ∧ ae (St w P [(some b13, .cells #[.int .u8 k.f0, .int .i64 k.f1.f0, .int .i64 k.f1.f1, .int .i64 k.f1.f2, .int .i64 k.f1.f3, .int .i64 k.f2, .slice ua k.f3.length uc] 26 (0, 0)), ((Value.slice As sl.length cs).ownBlock, os), ((Value.slice Ag l.length cg).ownBlock, og), (some b6, .cells #[.int .u8 0, .int .i64 0, .int .i64 0, .int .i64 0, .int .i64 0, .int .i64 0, .slice none 0 0] 26 (0, 0)), (some b3, .cells #[.int .u8 ck, .int .i64 cx, .int .i64 cy, .int .i64 gw, .int .i64 gh, .int .i64 aT, .slice (some ⟨g, 0, none⟩) l.length c1] 26 (0, 0))] [(.slice (some ⟨g, 0, none⟩) l.length c1, (kS ax pre NS 0 ++ k :: rest))] [(.slice ua k.f3.length uc, k.f3), (.slice A l.length cc, l)] [] wc))
        case first =>
         cases hoa : (ok && fM ax ck) with
         | false =>
          go_wp2
          go_meet
          case rel => exact ⟨by rw [HNS.out, if_neg (by intro h; rw [h.1, h.2] at hoa; cases hoa)], S⟩
         | true =>
          have hok : ok = true ∧ fM ax ck = true := by simpa using hoa
          have hsl2 : sl.length = l.length := Xp.out hok.1
          have hlt2 : (pre.length : Int) < (sl.length : Int) := by rw [hsl2]; exact hlt
          obtain ⟨ads, ea, _⟩ := Kd.iW (Kd.dP (HIS.out _ (S.out.blk _ bz))).2.2 (pre.length : Int) (Int.natCast_nonneg _) hlt2
          subst ea
          have Rw := ae.mk hok
          clear hok
          have xs := Be HIS.out (S.out.blk _ bz) pre.length hlt2
          go_wp2
          clear xs
          go_meet
          case rel => exact ⟨by rw [HNS.out, if_pos Rw.out], S⟩
        case rest =>
         clear S
         obtain ⟨rfl, S⟩ := hcut
         rename World => wy
         go_wp2
         refine iT (n := 9) (S := fun w' => St w _ _ _ _ _ w') (ds := [8]) (bA 9 0) (by kernel_rfl) rfl rfl (S.out.call (bg (Below.refl _ _))) (fun hHeld => ?_); refine eP uV.afA uV.abX (fun aj dW => ?_)
         replace S := ae.mk (S.out.call (bg (Below.refl _ _)))
         generalize wy.drew = akJ at S hHeld ⊢
         refine au 0 74 (bA 9 1) aj ?_
         refine dO 1 75 (bA 9 3) aj dW hHeld ?_ (hv := by intro w' hs_; have bY := (hs_.at qg 6).trans rfl; go_simp; with_reducible rfl)
         refine au 2 76 (bA 9 7) aj ?_
         refine dO 3 77 (bA 9 15) aj dW hHeld ?_ (hv := by intro w' hs_; have aiZ := (hs_.at (.head _) 0).trans rfl; have ai0 := (hs_.at (.head _) 1).trans rfl; have ai1 := (hs_.at (.head _) 2).trans rfl; have ai2 := (hs_.at (.head _) 3).trans rfl; have ai3 := (hs_.at (.head _) 4).trans rfl; have ai4 := (hs_.at (.head _) 5).trans rfl; have ai5 := (hs_.at (.head _) 6).trans rfl; go_simp; with_reducible rfl)
         refine au 4 78 (bA 9 31) aj ?_
         refine au 5 79 (bA 9 63) aj ?_
         refine jf 6 (some 80) (bA 9 127) aj (fun K hK => ?_)
         refine yF Try.func199 #[.agg #[.int .u8 k.f0, .int .i64 k.f1.f0, .int .i64 k.f1.f1, .int .i64 k.f1.f2, .int .i64 k.f1.f3, .int .i64 k.f2, .slice ua k.f3.length uc], .int .u8 ax, .int .i64 (NS pre.length)] ?_
         refine (IH.out k HK.out (NS pre.length) (HNB.out _ HJ.out) _ ua uc _ (gQ (S.out.tree _ (.head _)))).mono ?_
         rintro e Xc ⟨Av, cv, rfl, h1, hb⟩
         refine ⟨_, rfl, ?_⟩
         replace S := ae.mk (S.out.res (Kd.qF (base' := 0) h1) hb)
         clear h1 hb
         refine hK.out _ _ S.out.dG (fun hHeld => ?_)
         clear hK K
         refine dK 80 ?_
         refine au 7 81 (bA 9 255) aj ?_
         refine nT 8 none (bA 9 511) aj (fun K hK => ?_)
         refine Pv (pre.length : Int) (fK ax k (NS pre.length)) (.tmp 81) (.tmp 80) rfl S.out (by rfl) rfl (Int.natCast_nonneg _) uJ.out (by first | rfl | (go_simp; rfl)) rfl (by kernel_rfl) (.head _) ?_
         intro Xd S1
         rw [show (kS ax pre NS 0 ++ k :: rest).set (pre.length : Int).toNat (fK ax k (NS pre.length)) = kS ax (pre ++ [k]) NS 0 ++ rest from Yn ax NS pre k rest] at S1
         replace S := ae.mk S1
         clear S1
         refine hK.out _ _ ?_
         clear hK K
         refine jG (gK aj.out (by kernel_rfl)) ?_
         clear hHeld
         go_wp2
         have hw1 := HW1.out
         go_wp2
         go_roundg rest.length
         case measure => exact Nat.lt_of_lt_of_le (Nat.lt_succ_self _) iF.out
         case rel => exact ⟨pre ++ [k], rest, (by rw [hw1]), ⟨by rw [List.append_assoc]; exact HE.out⟩, Nat.le_refl _, ⟨S.out.dA.dG.dG⟩⟩
    | cons k rest =>
     have hk : k ∈ l := by rw [← HE.out]; simp
     have hlt : (pre.length : Int) < (l.length : Int) := by rw [← HE.out, List.length_append, List.length_cons]; omega
     have hw1 : wrap64 ((pre.length : Int) + 1) = ((pre ++ [k]).length : Int) := by have := jw.out; rw [List.length_append, List.length_singleton]; unfold wrap64; omega
     have HW1 := ae.mk hw1
     have iF := ae.mk hgg
     have HK := ae.mk hk
     have lK := ae.mk (Oh.out k hk)
     have Et := ae.mk (show pre.length ≤ 1000000 by have := jw.out; omega)
     have HJ := ae.mk (show pre.length < l.length by omega)
     have uJ := ae.mk (show (pre.length : Int) < ((l).length : Int) by omega)
     obtain ⟨g, cap, ev, _⟩ := Kd.xm S.out.yg (by have := uJ.out; omega)
     injection ev with e1 e2 e3
     subst e1
     clear e2 e3 hk hgg hw1
     obtain ⟨ua, uc, S1, hcell⟩ := S.out.HY (pre.length : Int) (Int.natCast_nonneg _) uJ.out
     have hrd : az (l) (pre.length : Int) = k := (by rw [← HE.out]; exact lU pre k rest)
     rw [hrd] at S1 hcell
     replace S := ae.mk S1
     have x0 : wr.cell? ⟨g, pre.length * 7, none⟩ = some (.int .u8 k.f0) := hcell 0 _ rfl
     have x1 : wr.cell? ⟨g, pre.length * 7 + 1, none⟩ = some (.int .i64 k.f1.f0) := hcell 1 _ rfl
     have x2 : wr.cell? ⟨g, pre.length * 7 + 2, none⟩ = some (.int .i64 k.f1.f1) := hcell 2 _ rfl
     have x3 : wr.cell? ⟨g, pre.length * 7 + 3, none⟩ = some (.int .i64 k.f1.f2) := hcell 3 _ rfl
     have x4 : wr.cell? ⟨g, pre.length * 7 + 4, none⟩ = some (.int .i64 k.f1.f3) := hcell 4 _ rfl
     have x5 : wr.cell? ⟨g, pre.length * 7 + 5, none⟩ = some (.int .i64 k.f2) := hcell 5 _ rfl
     have x6 : wr.cell? ⟨g, pre.length * 7 + 6, none⟩ = some (.slice ua k.f3.length uc) := hcell 6 _ rfl
     clear S1 hcell hrd
     go_wp2_with (first
      | (refine boxS 9 _ 26 S ?_; clear S; intro b9 Xe S; clear x0 x1 x2 x3 x4 x5 x6)
      | (refine ik 26 9 41 #[.int .u8 k.f0, .int .i64 k.f1.f0, .int .i64 k.f1.f1, .int .i64 k.f1.f2, .int .i64 k.f1.f3, .int .i64 k.f2, .slice ua k.f3.length uc] 0 7 S ?_; clear S; intro akH S; obtain ⟨sD, Bz, oJ, BA, Qb, Qc, Qd⟩ := St.fA S (.head _))
      | (refine bT (some 45) Try.func86 S (AQ k ax lK.out (S.out.tree _ (.head _))) ?_; clear S; intro ahd S; clear sD Bz oJ BA Qb Qc Qd)
      | ((with_reducible refine aC (N := 47) rfl ?_); at_builtin; go_loud (refine Yq (.tmp 42) (.tmp 46) rfl rfl Try.underlying41 info3 S.out.JX HI.out (aU ax k) rfl (by first | (go_simp; done) | (go_simp; rfl)) (by have := Et.out; simp only [List.length_map]; omega) ?_); intro Ag2 cg2 og2 ahe S1 I1; rw [show (pre.map (aU ax) ++ [aU ax k]).length = (pre ++ [k]).length by simp] at S1 I1 ⊢; replace S := ae.mk S1.JX; have HI2 := ae.mk I1; clear S1 I1 HI)
      | fail)
     have hw1 := HW1.out
     go_wp2
     go_roundg rest.length
     case measure => exact Nat.lt_of_lt_of_le (Nat.lt_succ_self _) iF.out
     case rel => exact ⟨pre ++ [k], rest, Ag2, cg2, og2, (by simp), (by rw [hw1]), ⟨by rw [List.append_assoc]; exact HE.out⟩, Nat.le_refl _, ⟨by rw [List.map_append]; exact HI2.out⟩, ⟨S.out.dA.dG⟩⟩
end Go.Proofs.Ytfdmfgaiblfbhaa.P
