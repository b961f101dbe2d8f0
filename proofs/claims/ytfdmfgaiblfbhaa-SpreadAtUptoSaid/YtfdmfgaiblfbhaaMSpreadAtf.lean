/- SpreadAt: part 6 of 7 of this claim's texts, one behind the other, made small by a program: the words of the kit's printer cut down to those that are used, the claim's own names made short. -/
import Derived.Test.YtfdmfgaiblfbhaaMSpreadAtc
import Derived.Test.YtfdmfgaiblfbhaaMSpreadAte
import Derived.Test.YtfdmfgaiblfbhaaMSpreadAtd
import Derived.ProofKit
import Derived.Deep.Slices
import Derived.Lib.SmallJoins
import Derived.OpenShut
set_option maxHeartbeats 8000000
set_option maxRecDepth 100000
set_option linter.unusedVariables false
set_option linter.unusedSimpArgs false
namespace Go.Proofs.Ytfdmfgaiblfbhaa.P
open Go.RowKit Go.Proofs.ag.aW Go.Proofs.ag.dA Go.Proofs.ag.dU
attribute [local go_sem] kM kZ lN l7 kz kC kY lg
def jU.f (k : Nat)  : Option (Bool) := (eX.f k 80 3).bind fun G5 => ((eX.f k 8 3).bind fun zT => (if G5.2 = true then (if zT.2 = true then ((bf.f k G5.1 (([26, 26, 26] : List Int))).bind fun tV => (if tV = true then ((bf.f k zT.1 (([2, 2, 2] : List Int))).bind fun ou => (some ou)) else (some false))) else (some false)) else (some false)))
theorem jU.mono : ∀ k, je (jU.f k ) (jU.f (k + 1) ) := by
 intro  k
 unfold jU.f
 repeat' first | (with_reducible exact bf.mono _ _ _) | (with_reducible exact eX.mono _ _ _) | (with_reducible exact je.refl _) | (with_reducible refine je.ite ?_ ?_) | (with_reducible refine je.bind ?_ (fun _ => ?_))
theorem jU.calls (k : Nat)  (r : Bool) (w : World) (h : jU.f k  = some r) :
  Calls Try.prog 52 #[] w fun e w' => e = .returned (.bool r) ∧ Below w.heap.size w w' := by
 have HB := ae.mk (Below.refl w.heap.size w)
 have H : ((eX.f k 80 3).bind fun G5 => ((eX.f k 8 3).bind fun zT => (if G5.2 = true then (if zT.2 = true then ((bf.f k G5.1 (([26, 26, 26] : List Int))).bind fun tV => (if tV = true then ((bf.f k zT.1 (([2, 2, 2] : List Int))).bind fun ou => (some ou)) else (some false))) else (some false)) else (some false)))) = some r := h
 clear h
 replace H := Option.bind_eq_some_iff.mp H
 obtain ⟨⟨zG, XU⟩, X6, H⟩ := H
 replace H : ((eX.f k 8 3).bind fun zT => (if XU = true then (if zT.2 = true then ((bf.f k zG (([26, 26, 26] : List Int))).bind fun tV => (if tV = true then ((bf.f k zT.1 (([2, 2, 2] : List Int))).bind fun ou => (some ou)) else (some false))) else (some false)) else (some false))) = some r := H
 have A1 := ae.mk X6
 clear X6
 replace H := Option.bind_eq_some_iff.mp H
 obtain ⟨⟨yz, Rq⟩, JG, H⟩ := H
 replace H : (if XU = true then (if Rq = true then ((bf.f k zG (([26, 26, 26] : List Int))).bind fun tV => (if tV = true then ((bf.f k yz (([2, 2, 2] : List Int))).bind fun ou => (some ou)) else (some false))) else (some false)) else (some false)) = some r := H
 have A2 := ae.mk JG
 clear JG
 by_cases c3 : XU = true
 ·subst c3
  have H1 : (if Rq = true then ((bf.f k zG (([26, 26, 26] : List Int))).bind fun tV => (if tV = true then ((bf.f k yz (([2, 2, 2] : List Int))).bind fun ou => (some ou)) else (some false))) else (some false)) = some r := by rw [if_pos rfl] at H; exact H
  clear H
  have H := H1
  clear H1
  by_cases c4 : Rq = true
  ·subst c4
   have H1 : ((bf.f k zG (([26, 26, 26] : List Int))).bind fun tV => (if tV = true then ((bf.f k yz (([2, 2, 2] : List Int))).bind fun ou => (some ou)) else (some false))) = some r := by rw [if_pos rfl] at H; exact H
   clear H
   have H := H1
   clear H1
   obtain ⟨X5, QS⟩ : ∃ y_ : List Int, y_ = (([26, 26, 26] : List Int)) := ⟨_, rfl⟩
   replace H : ((bf.f k zG X5).bind fun tV => (if tV = true then ((bf.f k yz (([2, 2, 2] : List Int))).bind fun ou => (some ou)) else (some false))) = some r := by (rw [QS]; with_reducible exact H)
   have Yi := ae.mk QS
   clear QS
   replace H := Option.bind_eq_some_iff.mp H
   obtain ⟨tV, KN, H⟩ := H
   replace H : (if tV = true then ((bf.f k yz (([2, 2, 2] : List Int))).bind fun ou => (some ou)) else (some false)) = some r := H
   have A5 := ae.mk KN
   clear KN
   by_cases c6 : tV = true
   ·subst c6
    have H1 : ((bf.f k yz (([2, 2, 2] : List Int))).bind fun ou => (some ou)) = some r := by rw [if_pos rfl] at H; exact H
    clear H
    have H := H1
    clear H1
    obtain ⟨afd, QT⟩ : ∃ y_ : List Int, y_ = (([2, 2, 2] : List Int)) := ⟨_, rfl⟩
    replace H : ((bf.f k yz afd).bind fun ou => (some ou)) = some r := by (rw [QT]; with_reducible exact H)
    have afD := ae.mk QT
    clear QT
    replace H := Option.bind_eq_some_iff.mp H
    obtain ⟨ou, RI, H⟩ := H
    replace H : (some ou) = some r := H
    have A7 := ae.mk RI
    clear RI
    obtain rfl := Option.some.inj H
    go_enter Try.func52, Try.ntmps52
    go_wp2_with (first | ((with_reducible refine gW (f := 53) rfl ?_); refine jL (some 6) rfl rfl Try.func53 (by kernel_rfl) rfl #[.int .i64 80, .int .i64 3] rfl (by (try simp only [List.map_toArray, List.map_cons, List.map_nil]); rfl) ?_; (with_reducible refine (eX.calls k 80 3 zG true _ A1.out).mono ?_); rintro e w8 ⟨XW, rfl, ho0, hb⟩; refine ⟨_, rfl, ?_⟩; have jP := ae.mk (Kd.iZ ho0 (cO (by repeat ((with_reducible exact HB.out))))); replace HB := ae.mk (az (by repeat ((with_reducible exact HB.out))) hb); (try clear hb); (try clear ho0)) | ((with_reducible refine gW (f := 53) rfl ?_); refine jL (some 10) rfl rfl Try.func53 (by kernel_rfl) rfl #[.int .i64 8, .int .i64 3] rfl (by (try simp only [List.map_toArray, List.map_cons, List.map_nil]); rfl) ?_; (with_reducible refine (eX.calls k 8 3 yz true _ A2.out).mono ?_); rintro e w9 ⟨XX, rfl, ho0, hb⟩; refine ⟨_, rfl, ?_⟩; have qB := ae.mk (Kd.iZ (Kd.qP ho0 (Kd.uI jP.out)) (cO (by repeat ((with_reducible exact HB.out))))); replace jP := ae.mk (Kd.mV jP.out (Kd.nN ho0) hb); replace HB := ae.mk (az (by repeat ((with_reducible exact HB.out))) hb); (try clear hb); (try clear ho0)) | ((with_reducible refine aC (N := 19) rfl ?_); (try (refine fZ (by rfl) ?_; dsimp only)); refine Kd.pI (Kd.int .i64) _ 3 ?hg (N := 19) ?hd (xs := ([26, 26, 26] : List Int)) (inner := [.int .i64 26, .int .i64 26, .int .i64 26]) (ok := fun _ => True) (gm := fun _ => True) ?hr ?hp (fun _ hk => hk) trivial (Below.refl _ _) (Nat.le_refl _) (by simp) ?_; (case hd => rfl); (case hg => rfl); (case hr => (go_simp; done)); (case hp => exact (bT.one (show Kd.M (Kd.int .i64) _ _ _ 26 [.int .i64 26] from rfl) (bT.one (show Kd.M (Kd.int .i64) _ _ _ 26 [.int .i64 26] from rfl) (bT.one (show Kd.M (Kd.int .i64) _ _ _ 26 [.int .i64 26] from rfl) (bT.none _ _))))); intro ahQ w10 v_ hb lh iG; clear lh iG; (rw [← Yi.out] at v_); have xh := ae.mk (Kd.iZ (Kd.qP (Kd.qP v_ (Kd.uI jP.out)) (Kd.uI qB.out)) (cO (by repeat ((with_reducible exact HB.out))))); replace jP := ae.mk (Kd.mV jP.out (Kd.nN v_) hb); replace qB := ae.mk (Kd.mV qB.out (Kd.nN v_) hb); replace HB := ae.mk (az (by repeat ((with_reducible exact HB.out))) hb); clear hb v_; obtain ⟨VF, Wi, Np⟩ := Kd.fQ jP.out; subst Np; obtain ⟨ak2, alj, aho⟩ := Kd.fQ xh.out; subst aho) | (go_at_call 51; (with_reducible refine (bf.calls k _ _ zG _ _ X5 true _ ?mD ?o8 ?Ia ?Ib A5.out).mono ?_); (case mD => repeat (exact (Kd.dn jP.out).2.2)); (case o8 => exact (Kd.dn jP.out).2.1); (case Ia => repeat (exact (Kd.dn xh.out).2.2)); (case Ib => exact (Kd.dn xh.out).2.1); rintro e w' ⟨rfl, ⟨nd, rfl⟩⟩) | ((with_reducible refine aC (N := 24) rfl ?_); (try (refine fZ (by rfl) ?_; dsimp only)); refine Kd.pI (Kd.int .i64) _ 3 ?hg (N := 24) ?hd (xs := ([2, 2, 2] : List Int)) (inner := [.int .i64 2, .int .i64 2, .int .i64 2]) (ok := fun _ => True) (gm := fun _ => True) ?hr ?hp (fun _ hk => hk) trivial (Below.refl _ _) (Nat.le_refl _) (by simp) ?_; (case hd => rfl); (case hg => rfl); (case hr => (go_simp; done)); (case hp => exact (bT.one (show Kd.M (Kd.int .i64) _ _ _ 2 [.int .i64 2] from rfl) (bT.one (show Kd.M (Kd.int .i64) _ _ _ 2 [.int .i64 2] from rfl) (bT.one (show Kd.M (Kd.int .i64) _ _ _ 2 [.int .i64 2] from rfl) (bT.none _ _))))); intro alQ YY I7 hb lh iG; clear lh iG; (rw [← afD.out] at I7); have Qj := ae.mk (Kd.iZ (Kd.qP (Kd.qP (Kd.qP I7 (Kd.uI (by (with_reducible repeat (apply Kd.yP)); exact jP.out))) (Kd.uI (by (with_reducible repeat (apply Kd.yP)); exact qB.out))) (Kd.uI (by (with_reducible repeat (apply Kd.yP)); exact xh.out))) (cO (by repeat ((with_reducible first | exact HB.out | apply dC))))); replace jP := ae.mk (Kd.mV (by (with_reducible repeat (apply Kd.yP)); exact jP.out) (Kd.nN I7) hb); replace qB := ae.mk (Kd.mV (by (with_reducible repeat (apply Kd.yP)); exact qB.out) (Kd.nN I7) hb); replace xh := ae.mk (Kd.mV (by (with_reducible repeat (apply Kd.yP)); exact xh.out) (Kd.nN I7) hb); replace HB := ae.mk (az (by repeat ((with_reducible first | exact HB.out | apply dC))) hb); clear hb I7; obtain ⟨ak4, alm, ahq⟩ := Kd.fQ qB.out; subst ahq; obtain ⟨ak5, aln, ahr⟩ := Kd.fQ Qj.out; subst ahr) | (go_at_call 51; (with_reducible refine (bf.calls k _ _ yz _ _ afd ou _ ?mD ?o8 ?Ia ?Ib A7.out).mono ?_); (case mD => repeat (exact (Kd.dn qB.out).2.2)); (case o8 => exact (Kd.dn qB.out).2.1); (case Ia => repeat (exact (Kd.dn Qj.out).2.2)); (case Ib => exact (Kd.dn Qj.out).2.1); rintro e w' ⟨rfl, ⟨nd, rfl⟩⟩))
    go_ret
    exact ⟨by rfl, by repeat ((with_reducible first | exact HB.out | apply dC))⟩
   ·replace c6 := Bool.eq_false_iff.mpr c6
    subst c6
    have H1 : (some false) = some r := by rw [if_neg (show ¬ (false = true) by decide)] at H; exact H
    clear H
    have H := H1
    clear H1
    obtain rfl := Option.some.inj H
    go_enter Try.func52, Try.ntmps52
    go_wp2_with (first | ((with_reducible refine gW (f := 53) rfl ?_); refine jL (some 6) rfl rfl Try.func53 (by kernel_rfl) rfl #[.int .i64 80, .int .i64 3] rfl (by (try simp only [List.map_toArray, List.map_cons, List.map_nil]); rfl) ?_; (with_reducible refine (eX.calls k 80 3 zG true _ A1.out).mono ?_); rintro e w18 ⟨XW, rfl, ho0, hb⟩; refine ⟨_, rfl, ?_⟩; have jP := ae.mk (Kd.iZ ho0 (cO (by repeat ((with_reducible exact HB.out))))); replace HB := ae.mk (az (by repeat ((with_reducible exact HB.out))) hb); (try clear hb); (try clear ho0)) | ((with_reducible refine gW (f := 53) rfl ?_); refine jL (some 10) rfl rfl Try.func53 (by kernel_rfl) rfl #[.int .i64 8, .int .i64 3] rfl (by (try simp only [List.map_toArray, List.map_cons, List.map_nil]); rfl) ?_; (with_reducible refine (eX.calls k 8 3 yz true _ A2.out).mono ?_); rintro e Ew ⟨XX, rfl, ho0, hb⟩; refine ⟨_, rfl, ?_⟩; have qB := ae.mk (Kd.iZ (Kd.qP ho0 (Kd.uI jP.out)) (cO (by repeat ((with_reducible exact HB.out))))); replace jP := ae.mk (Kd.mV jP.out (Kd.nN ho0) hb); replace HB := ae.mk (az (by repeat ((with_reducible exact HB.out))) hb); (try clear hb); (try clear ho0)) | ((with_reducible refine aC (N := 19) rfl ?_); (try (refine fZ (by rfl) ?_; dsimp only)); refine Kd.pI (Kd.int .i64) _ 3 ?hg (N := 19) ?hd (xs := ([26, 26, 26] : List Int)) (inner := [.int .i64 26, .int .i64 26, .int .i64 26]) (ok := fun _ => True) (gm := fun _ => True) ?hr ?hp (fun _ hk => hk) trivial (Below.refl _ _) (Nat.le_refl _) (by simp) ?_; (case hd => rfl); (case hg => rfl); (case hr => (go_simp; done)); (case hp => exact (bT.one (show Kd.M (Kd.int .i64) _ _ _ 26 [.int .i64 26] from rfl) (bT.one (show Kd.M (Kd.int .i64) _ _ _ 26 [.int .i64 26] from rfl) (bT.one (show Kd.M (Kd.int .i64) _ _ _ 26 [.int .i64 26] from rfl) (bT.none _ _))))); intro ahQ w20 NL hb lh iG; clear lh iG; (rw [← Yi.out] at NL); have xh := ae.mk (Kd.iZ (Kd.qP (Kd.qP NL (Kd.uI jP.out)) (Kd.uI qB.out)) (cO (by repeat ((with_reducible exact HB.out))))); replace jP := ae.mk (Kd.mV jP.out (Kd.nN NL) hb); replace qB := ae.mk (Kd.mV qB.out (Kd.nN NL) hb); replace HB := ae.mk (az (by repeat ((with_reducible exact HB.out))) hb); clear hb NL; obtain ⟨ak6, alo, ahs⟩ := Kd.fQ jP.out; subst ahs; obtain ⟨ak7, alp, aht⟩ := Kd.fQ xh.out; subst aht) | (go_at_call 51; (with_reducible refine (bf.calls k _ _ zG _ _ X5 false _ ?mD ?o8 ?Ia ?Ib A5.out).mono ?_); (case mD => repeat (exact (Kd.dn jP.out).2.2)); (case o8 => exact (Kd.dn jP.out).2.1); (case Ia => repeat (exact (Kd.dn xh.out).2.2)); (case Ib => exact (Kd.dn xh.out).2.1); rintro e w' ⟨rfl, ⟨nd, rfl⟩⟩))
    go_ret
    exact ⟨by rfl, by repeat ((with_reducible first | exact HB.out | apply dC))⟩
  ·replace c4 := Bool.eq_false_iff.mpr c4
   subst c4
   have H1 : (some false) = some r := by rw [if_neg (show ¬ (false = true) by decide)] at H; exact H
   clear H
   have H := H1
   clear H1
   obtain rfl := Option.some.inj H
   go_enter Try.func52, Try.ntmps52
   go_wp2_with (first | ((with_reducible refine gW (f := 53) rfl ?_); refine jL (some 6) rfl rfl Try.func53 (by kernel_rfl) rfl #[.int .i64 80, .int .i64 3] rfl (by (try simp only [List.map_toArray, List.map_cons, List.map_nil]); rfl) ?_; (with_reducible refine (eX.calls k 80 3 zG true _ A1.out).mono ?_); rintro e w24 ⟨XW, rfl, ho0, hb⟩; refine ⟨_, rfl, ?_⟩; have jP := ae.mk (Kd.iZ ho0 (cO (by repeat ((with_reducible exact HB.out))))); replace HB := ae.mk (az (by repeat ((with_reducible exact HB.out))) hb); (try clear hb); (try clear ho0)) | ((with_reducible refine gW (f := 53) rfl ?_); refine jL (some 10) rfl rfl Try.func53 (by kernel_rfl) rfl #[.int .i64 8, .int .i64 3] rfl (by (try simp only [List.map_toArray, List.map_cons, List.map_nil]); rfl) ?_; (with_reducible refine (eX.calls k 8 3 yz false _ A2.out).mono ?_); rintro e Vw ⟨XX, rfl, ho0, hb⟩; refine ⟨_, rfl, ?_⟩; have qB := ae.mk (Kd.iZ (Kd.qP ho0 (Kd.uI jP.out)) (cO (by repeat ((with_reducible exact HB.out))))); replace jP := ae.mk (Kd.mV jP.out (Kd.nN ho0) hb); replace HB := ae.mk (az (by repeat ((with_reducible exact HB.out))) hb); (try clear hb); (try clear ho0)))
   go_ret
   exact ⟨by rfl, by repeat ((with_reducible exact HB.out))⟩
 ·replace c3 := Bool.eq_false_iff.mpr c3
  subst c3
  have H1 : (some false) = some r := by rw [if_neg (show ¬ (false = true) by decide)] at H; exact H
  clear H
  have H := H1
  clear H1
  obtain rfl := Option.some.inj H
  go_enter Try.func52, Try.ntmps52
  go_wp2_with (first | ((with_reducible refine gW (f := 53) rfl ?_); refine jL (some 6) rfl rfl Try.func53 (by kernel_rfl) rfl #[.int .i64 80, .int .i64 3] rfl (by (try simp only [List.map_toArray, List.map_cons, List.map_nil]); rfl) ?_; (with_reducible refine (eX.calls k 80 3 zG false _ A1.out).mono ?_); rintro e w26 ⟨XW, rfl, ho0, hb⟩; refine ⟨_, rfl, ?_⟩; have jP := ae.mk (Kd.iZ ho0 (cO (by repeat ((with_reducible exact HB.out))))); replace HB := ae.mk (az (by repeat ((with_reducible exact HB.out))) hb); (try clear hb); (try clear ho0)) | ((with_reducible refine gW (f := 53) rfl ?_); refine jL (some 10) rfl rfl Try.func53 (by kernel_rfl) rfl #[.int .i64 8, .int .i64 3] rfl (by (try simp only [List.map_toArray, List.map_cons, List.map_nil]); rfl) ?_; (with_reducible refine (eX.calls k 8 3 yz Rq _ A2.out).mono ?_); rintro e Vx ⟨XX, rfl, ho0, hb⟩; refine ⟨_, rfl, ?_⟩; have qB := ae.mk (Kd.iZ (Kd.qP ho0 (Kd.uI jP.out)) (cO (by repeat ((with_reducible exact HB.out))))); replace jP := ae.mk (Kd.mV jP.out (Kd.nN ho0) hb); replace HB := ae.mk (az (by repeat ((with_reducible exact HB.out))) hb); (try clear hb); (try clear ho0)))
  go_ret
  exact ⟨by rfl, by repeat ((with_reducible exact HB.out))⟩
mutual
def a_.j0 : Nat → Int → Int → List Int → Bool → Option (List Int × Bool)
 | 0, _, _, _, _ => none
 | k + 1, x0, x1, x6, x27 => if x27 = true then (some (x6, false)) else (if x1 = 0 then (none) else (a_.l0 k x1 x6 (wrap64 (Int.tdiv (wrap64 (x0 - (wrap64 (x1 - 1)))) x1)) (Int.tmod (wrap64 (x0 - (wrap64 (x1 - 1)))) x1) 0))
def a_.l0 : Nat → Int → List Int → Int → Int → Int → Option (List Int × Bool)
 | 0, _, _, _, _, _ => none
 | k + 1, x1, x6, x7, x8, x9 => if x9 < x1 then (if x9 < x8 then (if x6.length < 17592186044416 then (a_.l0 k x1 (x6 ++ [wrap64 (x7 + 1)]) x7 x8 (wrap64 (x9 + 1))) else (none)) else (if x6.length < 17592186044416 then (a_.l0 k x1 (x6 ++ [x7]) x7 x8 (wrap64 (x9 + 1))) else (none))) else (some (x6, true))
end
def a_.f (k : Nat) (a0 : Int) (a1 : Int) : Option (List Int × Bool) := (some (([] : List Int) : List Int)).bind fun qM => (if a1 < 1 then (a_.j0 k a0 a1 qM true) else (if a1 > 20000 then (a_.j0 k a0 a1 qM true) else (if a0 < (wrap64 ((wrap64 (2 * a1)) - 1)) then (a_.j0 k a0 a1 qM true) else (a_.j0 k a0 a1 qM (decide (a0 > 2147483647))))))
theorem a_.calls (k : Nat) (a0 : Int) (a1 : Int) (r1 : List Int) (r2 : Bool) (w : World) (h : a_.f k a0 a1 = some (r1, r2)) :
  Calls Try.prog 54 #[.int .i64 a0, .int .i64 a1] w fun e w' => ∃ o_ : Value, e = .returned (.tuple #[o_, .bool r2]) ∧ Kd.R (Kd.int .i64) 3 w' w.heap.size (fun _ => True) o_ r1 ∧ Below w.heap.size w w' := by
 have HB := ae.mk (Below.refl w.heap.size w)
 have H : ((some (([] : List Int) : List Int)).bind fun qM => (if a1 < 1 then (a_.j0 k a0 a1 qM true) else (if a1 > 20000 then (a_.j0 k a0 a1 qM true) else (if a0 < (wrap64 ((wrap64 (2 * a1)) - 1)) then (a_.j0 k a0 a1 qM true) else (a_.j0 k a0 a1 qM (decide (a0 > 2147483647))))))) = some (r1, r2) := h
 clear h
 obtain ⟨qM, QU⟩ : ∃ y_ : List Int, y_ = (([] : List Int)) := ⟨_, rfl⟩
 replace H : (if a1 < 1 then (a_.j0 k a0 a1 qM true) else (if a1 > 20000 then (a_.j0 k a0 a1 qM true) else (if a0 < (wrap64 ((wrap64 (2 * a1)) - 1)) then (a_.j0 k a0 a1 qM true) else (a_.j0 k a0 a1 qM (decide (a0 > 2147483647)))))) = some (r1, r2) := by (have H2_ := (Option.bind_some _ _).symm.trans H; rw [QU]; with_reducible exact H2_)
 have afE := ae.mk QU
 clear QU
 have KZ := ae.mk H
 clear H
 go_enter Try.func54, Try.ntmps54
 go_upto_region 2 with (((with_reducible refine aC (N := 10) rfl ?_); refine Kd.pI (Kd.int .i64) _ 3 ?hg (N := 10) ?hd (xs := ([] : List Int)) (inner := []) (ok := fun _ => True) (gm := fun _ => True) ?hr ?hp (fun _ hk => hk) trivial (Below.refl _ _) (Nat.le_refl _) (by simp) ?_; (case hd => rfl); (case hg => rfl); (case hr => (go_simp; done)); (case hp => exact (bT.none _ _)); intro ahR w4 Bl hb lh iG; clear lh iG; (rw [← afE.out] at Bl); have KA := ae.mk (Kd.iZ Bl (cO (by repeat ((with_reducible exact HB.out))))); replace HB := ae.mk (az (by repeat ((with_reducible exact HB.out))) hb); clear hb Bl))
 (skip)
 go_cut [27] (fun v27 wc => ∃ (kq : Nat) (KJ : Bool), v27 = .bool KJ ∧ ae (a_.j0 kq a0 a1 qM KJ = some (r1, r2)) ∧ ae (kq ≤ k) ∧ ae (Kd.R (Kd.int .i64) 3 wc w.heap.size (fun _ => True) ahR qM) ∧ ae (Below w.heap.size w wc))
 case first =>
  have H := KZ.out
  clear KZ
  by_cases c6 : a1 < 1
  ·rw [if_pos c6] at H
   have vP : decide (a1 < 1) = true := decide_eq_true c6
   clear c6
   (skip)
   have H' := ae.mk H
   clear H
   go_wp2
   go_meet
   case rel => exact ⟨_, (true), (by rfl), H', ⟨by omega⟩, ⟨by exact KA.out⟩, ⟨by repeat ((with_reducible exact HB.out))⟩⟩
  ·rw [if_neg c6] at H
   have vP : decide (a1 < 1) = false := decide_eq_false c6
   clear c6
   (skip)
   by_cases c7 : a1 > 20000
   ·rw [if_pos c7] at H
    have rU : decide (20000 < a1) = true := decide_eq_true c7
    clear c7
    have H' := ae.mk H
    clear H
    go_wp2
    go_meet
    case rel => exact ⟨_, (true), (by rfl), H', ⟨by omega⟩, ⟨by exact KA.out⟩, ⟨by repeat ((with_reducible exact HB.out))⟩⟩
   ·rw [if_neg c7] at H
    have rU : decide (20000 < a1) = false := decide_eq_false c7
    clear c7
    by_cases c8 : a0 < (wrap64 ((wrap64 (2 * a1)) - 1))
    ·rw [if_pos c8] at H
     have wS : decide (a0 < (wrap64 ((wrap64 (2 * a1)) - 1))) = true := decide_eq_true c8
     clear c8
     have H' := ae.mk H
     clear H
     go_wp2
     go_meet
     case rel => exact ⟨_, (true), (by rfl), H', ⟨by omega⟩, ⟨by exact KA.out⟩, ⟨by repeat ((with_reducible exact HB.out))⟩⟩
    ·rw [if_neg c8] at H
     have wS : decide (a0 < (wrap64 ((wrap64 (2 * a1)) - 1))) = false := decide_eq_false c8
     clear c8
     have H' := ae.mk H
     clear H
     go_wp2
     go_meet
     case rel => exact ⟨_, (decide (a0 > 2147483647)), (by rfl), H', ⟨by omega⟩, ⟨by exact KA.out⟩, ⟨by repeat ((with_reducible exact HB.out))⟩⟩
 case rest =>
  clear KZ
  obtain ⟨kq, KJ, rfl, HA, HJ2, Dz, HB⟩ := hcut
  cases kq with
  | zero => exact absurd HA.out (by simp [a_.j0])
  | succ NU =>
   have H := HA.out
   clear HA
   simp only [a_.j0] at H
   by_cases c9 : KJ = true
   ·subst c9
    have H1 : (some (qM, false)) = some (r1, r2) := by rw [if_pos rfl] at H; exact H
    clear H
    have H := H1
    clear H1
    simp only [Option.some.injEq, Prod.mk.injEq] at H
    obtain ⟨rfl, rfl⟩ := H
    go_wp2
    go_ret2
    exact ⟨_, by rfl, by exact Dz.out, by repeat ((with_reducible exact HB.out))⟩
   ·replace c9 := Bool.eq_false_iff.mpr c9
    subst c9
    have H1 : (if a1 = 0 then (none) else (a_.l0 NU a1 qM (wrap64 (Int.tdiv (wrap64 (a0 - (wrap64 (a1 - 1)))) a1)) (Int.tmod (wrap64 (a0 - (wrap64 (a1 - 1)))) a1) 0)) = some (r1, r2) := by rw [if_neg (show ¬ (false = true) by decide)] at H; exact H
    clear H
    have H := H1
    clear H1
    by_cases c10 : a1 = 0
    ·rw [if_pos c10] at H
     exact absurd H (by simp)
    ·rw [if_neg c10] at H
     have G6 : (a1 == 0) = false := beq_eq_false_iff_ne.mpr c10
     have Qv : (a1 != 0) = true := bne_iff_ne.mpr c10
     have H' := ae.mk H
     clear H
     go_wp2
     go_loopg [6, 9] NU (fun kq v6 v9 w' => ∃ (oz : List Int) (xg : Int), v9 = .int .i64 xg ∧ ae (a_.l0 kq a1 oz (wrap64 (Int.tdiv (wrap64 (a0 - (wrap64 (a1 - 1)))) a1)) (Int.tmod (wrap64 (a0 - (wrap64 (a1 - 1)))) a1) xg = some (r1, r2)) ∧ ae (kq ≤ NU) ∧ ae (Kd.R (Kd.int .i64) 3 w' w.heap.size (fun _ => True) v6 oz) ∧ ae (Below w.heap.size w w'))
     case atStart => exact ⟨(qM), (0), (by rfl), H', ⟨Nat.le_refl _⟩, ⟨by exact Dz.out⟩, ⟨by repeat ((with_reducible exact HB.out))⟩⟩
     case round =>
      clear H'
      clear c10 G6 Qv
      obtain ⟨oz, xg, rfl, HA, vI, Dz, HB⟩ := hrel
      cases gk with
      | zero => exact absurd HA.out (by simp [a_.l0])
      | succ k2 =>
       have H := HA.out
       clear HA
       simp only [a_.l0] at H
       by_cases c11 : xg < a1
       ·rw [if_pos c11] at H
        have BQ : decide (xg < a1) = true := decide_eq_true c11
        clear c11
        by_cases c12 : xg < (Int.tmod (wrap64 (a0 - (wrap64 (a1 - 1)))) a1)
        ·rw [if_pos c12] at H
         have yI : decide (xg < (Int.tmod (wrap64 (a0 - (wrap64 (a1 - 1)))) a1)) = true := decide_eq_true c12
         clear c12
         by_cases c13 : oz.length < 17592186044416
         ·rw [if_pos c13] at H
          have Qm := ae.mk c13
          clear c13
          obtain ⟨afe, QV⟩ : ∃ y_ : List Int, y_ = (oz ++ [wrap64 ((wrap64 (Int.tdiv (wrap64 (a0 - (wrap64 (a1 - 1)))) a1)) + 1)]) := ⟨_, rfl⟩
          replace H : (a_.l0 k2 a1 afe (wrap64 (Int.tdiv (wrap64 (a0 - (wrap64 (a1 - 1)))) a1)) (Int.tmod (wrap64 (a0 - (wrap64 (a1 - 1)))) a1) (wrap64 (xg + 1))) = some (r1, r2) := by (rw [QV]; with_reducible exact H)
          have afF := ae.mk QV
          clear QV
          have H' := ae.mk H
          clear H
          go_wp2_with (((with_reducible refine qc (b := .append) (xs := #[.tmp 49, .tmp 52]) rfl ?_); at_builtin; refine Kd.yV (Kd.int .i64) (w0 := w) w.heap.size rfl (.tmp 49) (.tmp 52) 41 3 (.int .i64 0) 8 rfl Try.underlying41 info3 rfl (by decide) (by omega) u6 oz (wrap64 ((wrap64 (Int.tdiv (wrap64 (a0 - (wrap64 (a1 - 1)))) a1)) + 1)) [.int .i64 (wrap64 ((wrap64 (Int.tdiv (wrap64 (a0 - (wrap64 (a1 - 1)))) a1)) + 1))] (fun _ => True) (fun _ => False) rfl rfl ?aP (fun _ hk => hk.elim) ?aF ?aO ?aB ?aS ?aL ?_; (case aP => exact rfl); (case aB => exact (by repeat ((with_reducible exact HB.out)))); (case aF => exact (fun _ _ => trivial)); (case aO => exact Dz.out); (case aS => exact (cO (by repeat ((with_reducible exact HB.out))))); (case aL => have := Qm.out; omega); intro alR YY ho hb hg hat; rw [← afF.out] at ho; have afs := ae.mk (ho); replace HB := ae.mk (hb); clear Dz; clear ho hb hg hat))
          go_roundg k2
          case measure => have := HJ2.out; have := vI.out; omega
          case rel => exact ⟨(afe), (wrap64 (xg + 1)), (by rfl), H', ⟨by have := HJ2.out; have := vI.out; omega⟩, ⟨by exact afs.out⟩, ⟨by repeat ((with_reducible exact HB.out))⟩⟩
         ·rw [if_neg c13] at H
          exact absurd H (by simp)
        ·rw [if_neg c12] at H
         have yI : decide (xg < (Int.tmod (wrap64 (a0 - (wrap64 (a1 - 1)))) a1)) = false := decide_eq_false c12
         clear c12
         by_cases c15 : oz.length < 17592186044416
         ·rw [if_pos c15] at H
          have afv := ae.mk c15
          clear c15
          obtain ⟨aff, QW⟩ : ∃ y_ : List Int, y_ = (oz ++ [(wrap64 (Int.tdiv (wrap64 (a0 - (wrap64 (a1 - 1)))) a1))]) := ⟨_, rfl⟩
          replace H : (a_.l0 k2 a1 aff (wrap64 (Int.tdiv (wrap64 (a0 - (wrap64 (a1 - 1)))) a1)) (Int.tmod (wrap64 (a0 - (wrap64 (a1 - 1)))) a1) (wrap64 (xg + 1))) = some (r1, r2) := by (rw [QW]; with_reducible exact H)
          have afG := ae.mk QW
          clear QW
          have H' := ae.mk H
          clear H
          go_wp2_with (((with_reducible refine qc (b := .append) (xs := #[.tmp 54, .tmp 56]) rfl ?_); at_builtin; refine Kd.yV (Kd.int .i64) (w0 := w) w.heap.size rfl (.tmp 54) (.tmp 56) 41 3 (.int .i64 0) 8 rfl Try.underlying41 info3 rfl (by decide) (by omega) u6 oz (wrap64 (Int.tdiv (wrap64 (a0 - (wrap64 (a1 - 1)))) a1)) [.int .i64 (wrap64 (Int.tdiv (wrap64 (a0 - (wrap64 (a1 - 1)))) a1))] (fun _ => True) (fun _ => False) rfl rfl ?aP (fun _ hk => hk.elim) ?aF ?aO ?aB ?aS ?aL ?_; (case aP => exact rfl); (case aB => exact (by repeat ((with_reducible exact HB.out)))); (case aF => exact (fun _ _ => trivial)); (case aO => exact Dz.out); (case aS => exact (cO (by repeat ((with_reducible exact HB.out))))); (case aL => have := afv.out; omega); intro alS w16 ho hb hg hat; rw [← afG.out] at ho; have aft := ae.mk (ho); replace HB := ae.mk (hb); clear Dz; clear ho hb hg hat))
          go_roundg k2
          case measure => have := HJ2.out; have := vI.out; omega
          case rel => exact ⟨(aff), (wrap64 (xg + 1)), (by rfl), H', ⟨by have := HJ2.out; have := vI.out; omega⟩, ⟨by exact aft.out⟩, ⟨by repeat ((with_reducible exact HB.out))⟩⟩
         ·rw [if_neg c15] at H
          exact absurd H (by simp)
       ·rw [if_neg c11] at H
        have BQ : decide (xg < a1) = false := decide_eq_false c11
        clear c11
        simp only [Option.some.injEq, Prod.mk.injEq] at H
        obtain ⟨rfl, rfl⟩ := H
        go_wp2
        go_ret2
        exact ⟨_, by rfl, by exact Dz.out, by repeat ((with_reducible exact HB.out))⟩
end Go.Proofs.Ytfdmfgaiblfbhaa.P
namespace Go.Proofs.Ytfdmfgaiblfbhaa.Pure
open Go.RowKit Go.Proofs.Ytfdmfgaiblfbhaa.P Go.Proofs.ag.aW Go.Proofs.ag.dA Go.Proofs.ag.dU
theorem Zk : Ev (fun k => jU.f k) true := Ev.of (k := 200) (fun k => jU.mono k) (by decide +kernel)
def Can (s n : Int) : Prop := 1 ≤ n ∧ n ≤ 20000 ∧ 2 * n - 1 ≤ s ∧ s ≤ 2147483647
theorem XR (s n : Int) (h : Can s n) : Ev (fun k => eX.f k s n) (moreL (s - n + 1) n.toNat, true) := by
 obtain ⟨h1, h2, h3, h4⟩ := h
 have hw1 : wrap64 (2 * n) = 2 * n := wp (by omega) (by omega)
 have hw2 : wrap64 (2 * n - 1) = 2 * n - 1 := wp (by omega) (by omega)
 have hw3 : wrap64 (s - n) = s - n := wp (by omega) (by omega)
 have hw4 : wrap64 (s - n + 1) = s - n + 1 := wp (by omega) (by omega)
 unfold eX.f
 rw [hw1, hw2, hw3, hw4]
 refine Ev.jq (by omega) (Ev.jq (by omega) (Ev.jq (by omega) (Ev.jq (by omega) (Ev.jW (by omega) (Ev.jW (by omega) ?_)))))
 obtain ⟨r, hr, hE⟩ := J7 (s - n + 1) (List.replicate n.toNat 0) (by simp; omega) (by omega) (by omega)
 have hz : total (List.replicate n.toNat 0) = 0 := by
  generalize n.toNat = m
  induction m with
  | zero => rfl
  | succ m ih => simp only [List.replicate_succ, total, ih]; rfl
 have hr2 : r = (moreL (s - n + 1) n.toNat, true) := by
  rcases hr with ⟨_, h | h | ⟨_, h⟩⟩ | ⟨h, _⟩ | ⟨qs, _, _, hb, _⟩
  ·have := congrArg List.length h; simp at this; omega
  ·exact absurd (fun g hg => by rw [List.eq_of_mem_replicate hg]; omega) h
  ·rw [hz] at h; omega
  ·rw [h, List.length_replicate]
  ·omega
 rw [hr2] at hE
 exact Ev.bind hE (Ev.now _)
theorem XQ (s n : Int) (h : ¬ Can s n) : Ev (fun k => eX.f k s n) ([], false) := by
 unfold Can at h
 unfold eX.f
 by_cases h1 : n < 1
 ·exact Ev.jW h1 (Ev.now _)
 ·refine Ev.jq h1 ?_
  by_cases h2 : n > 20000
  ·exact Ev.jW h2 (Ev.now _)
  ·refine Ev.jq h2 ?_
   have hw1 : wrap64 (2 * n) = 2 * n := wp (by omega) (by omega)
   have hw2 : wrap64 (2 * n - 1) = 2 * n - 1 := wp (by omega) (by omega)
   rw [hw1, hw2]
   by_cases h3 : s < 2 * n - 1
   ·exact Ev.jW h3 (Ev.now _)
   ·exact Ev.jq h3 (Ev.jW (by omega) (Ev.now _))
theorem aeT (s n : Int) (h : ¬ Can s n) : Ev (fun k => a_.f k s n) ([], false) := by
 have j : Ev (fun k => a_.j0 k s n [] true) ([], false) := by
  refine Ev.step (fun k => ?_) (Ev.now _)
  simp only [a_.j0]
  rw [if_pos trivial]
 unfold Can at h
 unfold a_.f
 refine Ev.congr (f := fun k => _) (fun k => Option.bind_some _ _) ?_
 by_cases h1 : n < 1
 ·exact Ev.jW h1 j
 ·refine Ev.jq h1 ?_
  by_cases h2 : n > 20000
  ·exact Ev.jW h2 j
  ·refine Ev.jq h2 ?_
   have hw1 : wrap64 (2 * n) = 2 * n := wp (by omega) (by omega)
   have hw2 : wrap64 (2 * n - 1) = 2 * n - 1 := wp (by omega) (by omega)
   rw [hw1, hw2]
   by_cases h3 : s < 2 * n - 1
   ·exact Ev.jW h3 j
   ·refine Ev.jq h3 ?_
    rw [decide_eq_true (by omega)]
    exact j
theorem aeU (s n : Int) (h : Can s n) : Ev (fun k => a_.f k s n) (moreL (s - n + 1) n.toNat, true) := by
 obtain ⟨h1, h2, h3, h4⟩ := h
 have q0 : 0 ≤ (s - n + 1) / n := Int.ediv_nonneg (by omega) (by omega)
 have q1 : (s - n + 1) / n ≤ s - n + 1 := Int.ediv_le_self _ (by omega)
 have HW6 := ae.mk (wp (x := (s - n + 1) / n + 1) (by omega) (by omega))
 have key : ∀ d i, i + d = n.toNat → Ev (fun k => a_.l0 k n ((moreL (s - n + 1) n.toNat).take i) ((s - n + 1) / n) ((s - n + 1) % n) (i : Nat)) (moreL (s - n + 1) n.toNat, true) := by
  intro d
  induction d with
  | zero =>
   intro i hi
   refine Ev.step (fun k => ?_) (Ev.now _)
   simp only [a_.l0]
   rw [if_neg (by omega), List.take_of_length_le (by rw [mJ]; omega)]
  | succ d ih =>
   intro i hi
   refine Ev.step (fun k => ?_) (ih (i + 1) (by omega))
   have hi' : i < (moreL (s - n + 1) n.toNat).length := by rw [mJ]; omega
   have e : (moreL (s - n + 1) n.toNat).take (i + 1) = (moreL (s - n + 1) n.toNat).take i ++ [kU (s - n + 1) n (i : Nat)] := by
    rw [List.take_succ_eq_append_getElem hi']
    congr 2
    simp only [moreL, List.getElem_map, List.getElem_range]
    rw [show ((n.toNat : Nat) : Int) = n by omega]
   have hl0 : ((moreL (s - n + 1) n.toNat).take i).length ≤ 20000 := by rw [List.length_take, mJ]; omega
   have hwi : wrap64 ((i : Int) + 1) = ((i + 1 : Nat) : Int) := by rw [wp (by omega) (by omega)]; omega
   have hin : (i : Int) < n := by omega
   have hl : ((moreL (s - n + 1) n.toNat).take i).length < 17592186044416 := Nat.lt_of_le_of_lt hl0 (by decide)
   simp only [a_.l0]
   rw [if_pos hin, HW6.out, hwi, e, if_pos hl]
   unfold kU
   by_cases hc : (i : Int) < (s - n + 1) % n
   ·rw [if_pos hc, if_pos hc]
   ·rw [if_neg hc, if_neg hc, if_pos hl, Int.add_zero]
 have hw1 : wrap64 (2 * n) = 2 * n := wp (by omega) (by omega)
 have hw2 : wrap64 (2 * n - 1) = 2 * n - 1 := wp (by omega) (by omega)
 have hw3 : wrap64 (n - 1) = n - 1 := wp (by omega) (by omega)
 have hw4 : wrap64 (s - (n - 1)) = s - n + 1 := by rw [wp (by omega) (by omega)]; omega
 have hw5 : wrap64 ((s - n + 1) / n) = (s - n + 1) / n := wp (by omega) (by omega)
 unfold a_.f
 refine Ev.congr (f := fun k => _) (fun k => Option.bind_some _ _) ?_
 rw [hw1, hw2, decide_eq_false (by omega)]
 refine Ev.jq (by omega) (Ev.jq (by omega) (Ev.jq (by omega) ?_))
 refine Ev.step (f := fun k => a_.l0 k n [] ((s - n + 1) / n) ((s - n + 1) % n) 0) (fun k => ?_) ?_
 ·simp only [a_.j0]
  rw [if_neg (by simp), if_neg (by omega), hw3, hw4, Int.tdiv_eq_ediv_of_nonneg (by omega), Int.tmod_eq_emod_of_nonneg (by omega), hw5]
 ·have := key n.toNat 0 (by omega)
  simpa using this
end Go.Proofs.Ytfdmfgaiblfbhaa.Pure
namespace Go.Proofs.Ytfdmfgaiblfbhaa.P
open Go.RowKit Go.Proofs.ag.aW Go.Proofs.ag.dA Go.Proofs.ag.dU
theorem Em : ∀ (N : Nat), (∀ c : ai, sz c ≤ N → ∀ x y, sz (aX c x y) = sz c) ∧ (∀ l : List ai, gy l ≤ N → ∀ a x y, gy (l_ a l x y) = gy l) := by
 intro N
 induction N with
 | zero => exact ⟨fun c h => by rw [dL] at h; omega, fun l h a x y => by cases l with
  | nil => rw [uM]
  | cons k ks => rw [eG] at h; have := dL k; omega⟩
 | succ N ih =>
  have hC : ∀ c : ai, sz c ≤ N + 1 → ∀ x y, sz (aX c x y) = sz c := fun c h x y => by
   rw [yR, dL, dL c]
   show 1 + gy (l_ c.f0 c.f3 x y) = _
   rw [ih.2 c.f3 (by rw [dL] at h; omega)]
  refine ⟨hC, fun l => ?_⟩
  induction l with
  | nil => intro _ a x y; rw [uM]
  | cons k ks ihl =>
   intro h a x y
   rw [xP, eG, eG]
   rw [eG] at h
   rw [hC k (by omega), ihl (by omega)]
def Be (k : Int) : Int := ((k - 2) % 256 + 1) % 256
noncomputable def qx (s n : Int) : List Int × Bool := by
 classical
 exact if Pure.Can s n then (moreL (s - n + 1) n.toNat, true) else ([], false)
theorem ae4 (s n : Int) : Ev (fun k => eX.f k s n) (qx s n) := by
 unfold qx
 by_cases h : Pure.Can s n
 ·rw [if_pos h]; exact Pure.XR s n h
 ·rw [if_neg h]; exact Pure.XQ s n h
theorem abp (s n : Int) : Ev (fun k => a_.f k s n) (qx s n) := by
 unfold qx
 by_cases h : Pure.Can s n
 ·rw [if_pos h]; exact Pure.aeU s n h
 ·rw [if_neg h]; exact Pure.aeT s n h
theorem P6 {s : Int} {n : Nat} (h : (qx s n).2 = true) : (qx s n).1.length = n := by
 unfold qx at h ⊢
 split at h
 ·rename_i hc
  rw [if_pos hc]
  rw [mJ]
  simp
 ·cases h
noncomputable def qI (ax : Int) (k : ai) (n : Int) : Int := aN ax (aX k 0 0) (wrap64 (n - bM ax k.f1))
noncomputable def dK (ax : Int) (k : ai) (n : Int) : ai := aZ ax (aX k 0 0) (wrap64 (n - bM ax k.f1))
noncomputable def jT (ax : Int) (ns : Nat → Int) : Nat → List ai → List ai
 | _, [] => []
 | i, k :: ks => dK ax k (ns i) :: jT ax ns (i + 1) ks
noncomputable def qJ (ax : Int) (ns : Nat → Int) : Nat → List ai → Bool
 | _, [] => false
 | i, k :: ks => (qI ax k (ns i) != 0) || qJ ax ns (i + 1) ks
theorem uZ (ax : Int) (ns : Nat → Int) : ∀ (l : List ai) (i : Nat), (jT ax ns i l).length = l.length := by
 intro l
 induction l with
 | nil => intro i; rfl
 | cons k ks ih => intro i; simp only [jT, List.length_cons, ih]
theorem Hr (ax : Int) (ns : Nat → Int) (k : ai) : ∀ (l : List ai) (i : Nat), jT ax ns i (l ++ [k]) = jT ax ns i l ++ [dK ax k (ns (i + l.length))] := by
 intro l
 induction l with
 | nil => intro i; simp [jT]
 | cons x xs ih => intro i; simp only [List.cons_append, jT, ih, List.length_cons]; rw [show i + 1 + xs.length = i + (xs.length + 1) by omega]
theorem zZ (ax : Int) (ns : Nat → Int) (b : List ai) : ∀ (a : List ai) (i : Nat), qJ ax ns i (a ++ b) = (qJ ax ns i a || qJ ax ns (i + a.length) b) := by
 intro a
 induction a with
 | nil => intro i; simp [qJ]
 | cons x xs ih => intro i; simp only [List.cons_append, qJ, ih, List.length_cons, Bool.or_assoc]; rw [show i + 1 + xs.length = i + (xs.length + 1) by omega]
theorem Xa (ax : Int) (ns : Nat → Int) (pre : List ai) (k : ai) (rest : List ai) : (jT ax ns 0 pre ++ k :: rest).set pre.length (dK ax k (ns pre.length)) = jT ax ns 0 (pre ++ [k]) ++ rest := by
 rw [Hr, List.append_assoc, List.set_append_right _ _ (by rw [uZ]; exact Nat.le_refl _), uZ, Nat.sub_self, List.set_cons_zero, Nat.zero_add]
 rfl
theorem aa1 (ax : Int) (ns : Nat → Int) (pre : List ai) (k : ai) (rest : List ai) : aG (jT ax ns 0 pre ++ k :: rest) (pre.length : Int) = k := by
 have := jF (jT ax ns 0 pre) k rest
 rw [uZ] at this
 exact this
noncomputable def jX (c : ai) : List ai × Int :=
 if c.f0 = 1 then ([], 10) else if (qx (bM (Be c.f0) c.f1) (c.f3.length : Int)).2 = false then ([], 7)
 else if qJ (Be c.f0) (fun i => rd (qx (bM (Be c.f0) c.f1) (c.f3.length : Int)).1 (i : Int)) 0 c.f3 = true then ([], 7)
 else (jT (Be c.f0) (fun i => rd (qx (bM (Be c.f0) c.f1) (c.f3.length : Int)).1 (i : Int)) 0 c.f3, 0)
noncomputable def ae2 : Nat → ai → ai
 | 0, c => c
 | n + 1, c => ⟨c.f0, c.f1, c.f2, (if (jX c).2 = 0 then (jX c).1 else c.f3).map (ae2 n)⟩
theorem afN (ax : Int) (c : ai) (b : Int) : sz (aZ ax c b) ≤ sz c := by
 have h1 := dL c
 unfold aZ
 split
 ·rw [show sz z26 = 1 by decide]; omega
 ·split
  ·rw [show sz z26 = 1 by decide]; omega
  ·rw [(Em _).1 _ (Nat.le_refl _), (LZ ax _).1 _ (Nat.le_refl _)]; exact Nat.le_refl _
theorem W9 (ax : Int) (ns : Nat → Int) : ∀ (l : List ai) (i : Nat), gy (jT ax ns i l) ≤ gy l := by
 intro l
 induction l with
 | nil => intro i; exact Nat.le_refl _
 | cons k ks ih =>
  intro i
  simp only [jT]
  rw [eG, eG]
  have h1 := afN ax (aX k 0 0) (wrap64 (ns i - bM ax k.f1))
  rw [(Em _).1 _ (Nat.le_refl _)] at h1
  have h2 := ih (i + 1)
  unfold dK
  omega
noncomputable def alb (c : ai) : Int := if eP c = true then 0 else 1
noncomputable def alc (c : ai) : ai := if eP c = true then aX (ae2 100000 c) c.f1.f0 c.f1.f1 else z26
section
variable {W : World} {b : Nat} {P : Nat → Prop} {A : Option Addr} {cc : Nat}
theorem abl (s n : Int) : Calls Try.prog 53 #[.int .i64 s, .int .i64 n] W fun e w' => ∃ A' c', e = .returned (.tuple #[.slice A' (qx s n).1.length c', .bool (qx s n).2]) ∧ (Kd.int .i64).R 3 w' W.heap.size (fun _ => True) (.slice A' (qx s n).1.length c') (qx s n).1 ∧ Below W.heap.size W w' := by
 obtain ⟨k, hk⟩ := (ae4 s n).rounds
 exact (eX.calls k s n _ _ W hk).mono (fun e w' ⟨v, he, hR, hB⟩ => by
  obtain ⟨A', c', rfl⟩ := Kd.fQ hR
  exact ⟨A', c', he, hR, hB⟩)
theorem XH (s n : Int) : Calls Try.prog 54 #[.int .i64 s, .int .i64 n] W fun e w' => ∃ A' c', e = .returned (.tuple #[.slice A' (qx s n).1.length c', .bool (qx s n).2]) ∧ (Kd.int .i64).R 3 w' W.heap.size (fun _ => True) (.slice A' (qx s n).1.length c') (qx s n).1 ∧ Below W.heap.size W w' := by
 obtain ⟨k, hk⟩ := (abp s n).rounds
 exact (a_.calls k s n _ _ W hk).mono (fun e w' ⟨v, he, hR, hB⟩ => by
  obtain ⟨A', c', rfl⟩ := Kd.fQ hR
  exact ⟨A', c', he, hR, hB⟩)
end
abbrev LG (w : World) (P : Nat → Prop) (l : List ai) (n : Int) (e : Ending) (w' : World) : Prop := ∃ A c, e = .returned (.tuple #[.slice A l.length c, .int .i64 n]) ∧ Kd.V k26 26 w' w.heap.size (fun k => P k ∨ w.heap.size ≤ k) (.slice A l.length c) l ∧ Below w.heap.size w w'
noncomputable def mW (c : ai) (path : List Int) : ai × Int :=
 if eP c = false then (z26, 1) else match rP c path with
  | none => (z26, 6)
  | some x => if (jX x).2 = 0 then (aX ((ry ⟨x.f0, x.f1, x.f2, (jX x).1⟩ path c).getD z26) c.f1.f0 c.f1.f1, 0) else (z26, (jX x).2)
noncomputable def rq (c : ai) (id : Int) : ai × Int :=
 if eP c = false then (z26, 1) else match iP id c with
  | none => (z26, 6)
  | some p => if p.length = 0 then (z26, 10) else mW c (p.take (p.length - 1))
section
variable {c x z : ai} {path p L : _} {en id : Int}
theorem at_bad (h : eP c = false) : mW c path = (z26, 1) := by unfold mW; rw [if_pos h]
theorem Qu (h : eP c = true) (h2 : rP c path = none) : mW c path = (z26, 6) := by
 unfold mW
 rw [if_neg (by rw [h]; simp), h2]
theorem SQ (h : eP c = true) (h2 : rP c path = some x) (h3 : jX x = (L, en)) (h4 : en ≠ 0) : mW c path = (z26, en) := by
 unfold mW
 rw [if_neg (by rw [h]; simp), h2]
 simp only [h3]
 rw [if_neg h4]
theorem Yr (h : eP c = true) (h2 : rP c path = some x) (h3 : jX x = (L, 0)) (h4 : ry ⟨x.f0, x.f1, x.f2, L⟩ path c = some z) : mW c path = (aX z c.f1.f0 c.f1.f1, 0) := by
 unfold mW
 rw [if_neg (by rw [h]; simp), h2]
 simp only [h3]
 rw [if_pos trivial, h4]
 rfl
theorem SI (h : eP c = false) : rq c id = (z26, 1) := by unfold rq; rw [if_pos h]
theorem Yo (h : eP c = true) (h2 : iP id c = none) : rq c id = (z26, 6) := by
 unfold rq
 rw [if_neg (by rw [h]; simp), h2]
theorem SK (h : eP c = true) (h2 : iP id c = some p) (h3 : p.length = 0) : rq c id = (z26, 10) := by
 unfold rq
 rw [if_neg (by rw [h]; simp), h2]
 exact if_pos h3
theorem Yp (h : eP c = true) (h2 : iP id c = some p) (h3 : p.length ≠ 0) : rq c id = mW c (p.take (p.length - 1)) := by
 unfold rq
 rw [if_neg (by rw [h]; simp), h2]
 exact if_neg h3
end
theorem Ec (x : ai) : gy (jX x).1 ≤ gy x.f3 := by
 unfold jX
 split
 ·rw [qY]; omega
 ·split
  ·rw [qY]; omega
  ·split
   ·rw [qY]; omega
   ·exact W9 _ _ _ _
theorem Yt (c : ai) (path : List Int) : sz (mW c path).1 ≤ 1048576 := by
 have hz : sz z26 ≤ 1048576 := by decide
 cases ht : eP c with
 | false => rw [at_bad ht]; exact hz
 | true =>
  cases hx : rP c path with
  | none => rw [Qu ht hx]; exact hz
  | some x =>
   obtain ⟨L, en⟩ : List ai × Int := jX x
   unfold mW
   rw [if_neg (by rw [ht]; simp), hx]
   simp only []
   split
   ·rw [(Em _).1 _ (Nat.le_refl _)]
    have h1 := oZ (qA ht)
    have h2 := Iy path c x hx
    have h3 := Ec x
    have h4 := dL x
    cases hp : ry ⟨x.f0, x.f1, x.f2, (jX x).1⟩ path c with
    | none => exact hz
    | some z =>
     have h5 := Gh _ path c z hp
     have h6 := dL ⟨x.f0, x.f1, x.f2, (jX x).1⟩
     show sz z ≤ _
     simp only [] at h6
     omega
   ·exact hz
theorem afV (c : ai) (id : Int) : sz (rq c id).1 ≤ 1048576 := by
 have hz : sz z26 ≤ 1048576 := by decide
 unfold rq
 split
 ·exact hz
 ·split
  ·exact hz
  ·split
   ·exact hz
   ·exact Yt _ _
def vF.T18 : Bool × List (List Nat × List Nat) := (true, [([], []), ([0], [0]), ([], []), ([], []), ([], []), ([], []), ([3, 4, 5], [3, 4, 5]), ([1, 2, 0, 1, 2, 3, 4, 5, 6], [1, 2]), ([7, 6, 6, 0, 1, 2, 3, 4, 5, 6], [6, 7])])
def vF.B18 : List Nat := [0, 1, 0, 0, 0, 0, 56, 127, 255]
theorem vF.agv : iY .any (opsOf Try.f199 18) = vF.T18 := by kernel_rfl
theorem vF.acN : iI vF.T18.2 vF.B18 = true := by kernel_rfl
theorem Zg {W : World} {b : Nat} {P : Nat → Prop} {A : Option Addr} {n cc : Nat} (c : ai) (ax : Int) (hV : Kd.V k26 26 W b P (.slice A n cc) c.f3) :
  Calls Try.prog 99 #[.agg #[.int .u8 c.f0, .int .i64 c.f1.f0, .int .i64 c.f1.f1, .int .i64 c.f1.f2, .int .i64 c.f1.f3, .int .i64 c.f2, .slice A n cc], .int .u8 ax] W fun e w' => e = .returned (.bool (jC ax c.f0)) ∧ Below W.heap.size W w' := by
 obtain rfl := (Kd.jY hV).1
 exact Zf c ax hV
theorem acC (ax : Int) : ∀ (N : Nat) (c : ai), sz c ≤ N → N ≤ 100000 → ∀ (bz : Int), (-2147483647 ≤ bz ∧ bz ≤ 2147483647) → ∀ (P : Nat → Prop) (A : Option Addr) (cc : Nat) (w : World), Kd.V k26 26 w w.heap.size P (.slice A c.f3.length cc) c.f3 →
  Calls Try.prog 199 #[.agg #[.int .u8 c.f0, .int .i64 c.f1.f0, .int .i64 c.f1.f1, .int .i64 c.f1.f2, .int .i64 c.f1.f3, .int .i64 c.f2, .slice A c.f3.length cc], .int .u8 ax, .int .i64 bz] w (BL w P (dV ax c bz)) := by
 intro N
 induction N with
 | zero => intro c h; rw [dL] at h; omega
 | succ N ih =>
  intro c hc hN bz hby P A cc w hv
  have hsz := dL c
  have hlen := jR c.f3
  have hl1 : c.f3.length ≤ 100000 := by omega
  have IH := ae.mk fun (k : ai) (hk : k ∈ c.f3) (n : Int) (hn : -2147483647 ≤ n ∧ n ≤ 2147483647) P A cc w h => ih k (by have := vw hk; omega) (by omega) n hn P A cc w h
  have xx := ae.mk fun (k : ai) (hk : k ∈ c.f3) => (show sz k ≤ 1048576 by have := vw hk; omega)
  have gX := ae.mk (show c.f3.length ≤ 1000000 by omega)
  have JR := zF bz (c.f3.map (fD ax)) (by simpa using hl1) hby.1 hby.2
  have hsl := P5 (b := bz) (gs := c.f3.map (fD ax)) (by simpa using hl1) hby.1 hby.2
  have hsb := Vj (b := bz) (gs := c.f3.map (fD ax)) (by simpa using hl1) hby.1 hby.2
  have CQ := fun (Ag : Option Addr) (cg : Nat) (W : World) (hC : Kd.C (Kd.int .i64) W Ag (c.f3.map (fD ax)).length (c.f3.map (fD ax))) (h2 : (c.f3.map (fD ax)).length ≤ cg) => XO bz (c.f3.map (fD ax)) (by simpa using hl1) hby.1 hby.2 hC h2
  have um : ∀ i, PN ax c.f0 c.f3 bz i = if (qw bz (c.f3.map (fD ax))).2 = true ∧ jC ax c.f0 = true then rd (qw bz (c.f3.map (fD ax))).1 (i : Int) else bz := fun i => rfl
  rw [Iu]
  have S := ae.mk (St.start (ts := [(.slice A c.f3.length cc, c.f3)]) (b0 := w.heap.size) (w := w) (P := P) (fun t ht => by rw [List.mem_singleton.1 ht]; exact hv))
  obtain ⟨ck, ⟨cx, cy, cw, ch⟩, ay, l⟩ := c
  simp only [] at S IH xx gX JR hsl hsb CQ um hl1 ⊢
  obtain ⟨gw, hgw⟩ : ∃ gw, gw = if ax = 1 then wrap64 (cw + bz) else cw := ⟨_, rfl⟩
  obtain ⟨gh, hgh⟩ : ∃ gh, gh = if ax = 1 then ch else wrap64 (ch + bz) := ⟨_, rfl⟩
  simp only [grow]
  rw [← hgw, ← hgh]
  generalize PN ax ck l bz = NS at um ⊢
  obtain ⟨⟨sl, ok⟩, hsp⟩ : ∃ sp, sp = qw bz (l.map (fD ax)) := ⟨_, rfl⟩
  simp only [← hsp, List.length_map] at hsl hsb CQ um
  have HNB := ae.mk (show ∀ i, i < l.length → -2147483647 ≤ NS i ∧ NS i ≤ 2147483647 from fun i hi => by
   rw [um i]
   split
   ·rename_i h
    exact hsb _ (by unfold rd; rw [List.getD_eq_getElem?_getD, List.getElem?_eq_getElem (by rw [hsl h.1]; simpa using hi)]; exact List.getElem_mem _)
   ·exact hby)
  have yT := ae.mk hsl
  have Fa := ae.mk um
  have Sj := ae.mk CQ
  have E_ := ae.mk hgw
  have K_ := ae.mk hgh
  have HL1 := ae.mk hl1
  clear ih hc hN hby hv hsz hlen JR hsl hsb CQ um hgw hgh hsp hl1
  go_enter Try.func199, Try.ntmps199
  go_upto_if 16 with (first
   | ((with_reducible refine aj 3 rfl ?_); refine boxS 3 #[.int .u8 ck, .int .i64 cx, .int .i64 cy, .int .i64 cw, .int .i64 ch, .int .i64 ay, .slice A l.length cc] 26 S ?_; clear S; intro b3 eH S)
   | ((with_reducible refine aj 6 rfl ?_); refine boxS 6 #[.int .u8 0, .int .i64 0, .int .i64 0, .int .i64 0, .int .i64 0, .int .i64 0, .slice none 0 0] 26 S ?_; clear S; intro b6 fG S)
   | fail)
  go_cut [] (fun wc => ae (St w P [(some b6, .cells #[.int .u8 0, .int .i64 0, .int .i64 0, .int .i64 0, .int .i64 0, .int .i64 0, .slice none 0 0] 26 (0, 0)), (some b3, .cells #[.int .u8 ck, .int .i64 cx, .int .i64 cy, .int .i64 gw, .int .i64 gh, .int .i64 ay, .slice A l.length cc] 26 (0, 0))] [] [(.slice A l.length cc, l)] [] wc))
  case first =>
   by_cases hx : ax = 1
   ·have hxb : (ax == 1) = true := beq_iff_eq.mpr hx
    have HX := ae.mk hx
    clear hx
    have bH := (S.out.at (.tail _ (.head _)) 3).trans rfl
    go_wp2_with (first
     | ((with_reducible refine dB 3 (.tmp 23) (.tmp 21) rfl ?_); refine oh 3 23 21 #[.int .u8 ck, .int .i64 cx, .int .i64 cy, .int .i64 (wrap64 (cw + bz)), .int .i64 ch, .int .i64 ay, .slice A l.length cc] 3 1 S ?_; clear S; intro gV S; clear bH)
     | fail)
    go_meet
    case rel => rw [E_.out, K_.out, if_pos HX.out, if_pos HX.out]; exact S
   ·have hxb : (ax == 1) = false := beq_eq_false_iff_ne.mpr hx
    have HX := ae.mk hx
    clear hx
    have dG := (S.out.at (.tail _ (.head _)) 4).trans rfl
    go_wp2_with (first
     | ((with_reducible refine dB 3 (.tmp 30) (.tmp 28) rfl ?_); refine oh 3 30 28 #[.int .u8 ck, .int .i64 cx, .int .i64 cy, .int .i64 cw, .int .i64 (wrap64 (ch + bz)), .int .i64 ay, .slice A l.length cc] 4 1 S ?_; clear S; intro jB S; clear dG)
     | fail)
    go_meet
    case rel => rw [E_.out, K_.out, if_neg HX.out, if_neg HX.out]; exact S
  case rest =>
   clear S E_ K_
   rename World => wx
   have S := hcut
   clear hcut
   have bg := (S.out.at (.tail _ (.head _)) 6).trans rfl
   go_wp2_with (first
    | ((with_reducible refine aj 33 rfl ?_); refine KF (some 33) Try.func137 S (OY l gX.out (S.out.tree _ (.head _))) ?_; clear S; intro A1 c1 lQ S; clear bg)
    | ((with_reducible refine dB 24 (.tmp 34) (.tmp 33) rfl ?_); refine oh 24 34 33 #[.int .u8 ck, .int .i64 cx, .int .i64 cy, .int .i64 gw, .int .i64 gh, .int .i64 ay, .slice A1 l.length c1] 6 1 S ?_; clear S; intro rG S; have bg := (S.out.at (.tail _ (.head _)) 6).trans rfl)
    | fail)
   clear bg
   obtain ⟨oi, S1, HI0⟩ := S.out.noI
   clear S
   go_loopg [7, 38] l.length (fun gg v7 v38 wr => ∃ (pre rest : List ai) (Ag : Option Addr) (cg : Nat) (og : Obj), v7 = .slice Ag pre.length cg ∧ v38 = .int .i64 (pre.length : Int) ∧ ae (pre ++ rest = l) ∧ rest.length ≤ gg ∧ ae (IR w.heap.size (.slice Ag pre.length cg) (pre.map (fD ax)) og) ∧ ae (St w P [((Value.slice Ag pre.length cg).ownBlock, og), (some b6, .cells #[.int .u8 0, .int .i64 0, .int .i64 0, .int .i64 0, .int .i64 0, .int .i64 0, .slice none 0 0] 26 (0, 0)), (some b3, .cells #[.int .u8 ck, .int .i64 cx, .int .i64 cy, .int .i64 gw, .int .i64 gh, .int .i64 ay, .slice A1 l.length c1] 26 (0, 0))] [(.slice A1 l.length c1, l)] [(.slice A l.length cc, l)] [] wr))
   case atStart => exact ⟨[], l, none, 0, oi, rfl, rfl, ⟨rfl⟩, Nat.le_refl _, ⟨HI0⟩, ⟨S1⟩⟩
   case round =>
    clear S1 HI0 oi
    obtain ⟨pre, rest, Ag, cg, og, rfl, rfl, HE, hgg, HI, S⟩ := hrel
    cases rest with
    | nil =>
     have hE := HE.out
     rw [List.append_nil] at hE
     have hE2 := hE.symm
     subst hE2
     clear hE HE hgg
     have hlt : ¬ ((l.length : Int) < (l.length : Int)) := by omega
     have JR := fun W hW => Sj.out Ag cg W (by have h := (Kd.dn (HI.out W hW)).2.2; rw [List.length_map] at h; exact h) (by have h := (Kd.dn (HI.out W hW)).2.1; exact h)
     have Yf := ae.mk JR
     clear JR Sj
     go_wp2_with (first
      | ((with_reducible refine aj 52 rfl ?_); refine kR (some 52) Try.func49 (Yf.out _ (S.out.blk _ (.head _))) ?_; rintro e vG ⟨As, cs, rfl, h1, hb⟩; refine ⟨_, rfl, ?_⟩; obtain ⟨os, S1, HI1⟩ := S.out.Dc h1 hb; replace S := ae.mk S1; have HIS := ae.mk HI1; clear S1 HI1 h1 hb; have bg := (S.out.at (.tail _ (.tail _ (.tail _ (.head _)))) 6).trans rfl)
      | fail)
     clear bg
     go_loopg [58] l.length (fun gg v58 wr => ∃ (pre rest : List ai), v58 = .int .i64 (pre.length : Int) ∧ ae (pre ++ rest = l) ∧ rest.length ≤ gg ∧ ae (St w P [((Value.slice As sl.length cs).ownBlock, os), ((Value.slice Ag l.length cg).ownBlock, og), (some b6, .cells #[.int .u8 0, .int .i64 0, .int .i64 0, .int .i64 0, .int .i64 0, .int .i64 0, .slice none 0 0] 26 (0, 0)), (some b3, .cells #[.int .u8 ck, .int .i64 cx, .int .i64 cy, .int .i64 gw, .int .i64 gh, .int .i64 ay, .slice A1 l.length c1] 26 (0, 0))] [(.slice A1 l.length c1, (jZ ax pre NS 0 ++ rest))] [(.slice A l.length cc, l)] [] wr))
     case atStart => exact ⟨[], l, rfl, ⟨rfl⟩, Nat.le_refl _, ⟨by rw [wR]; exact S.out⟩⟩
     case round =>
      clear S
      obtain ⟨pre, rest, rfl, HE, hgg, S⟩ := hrel
      cases rest with
      | nil =>
       have hE := HE.out
       rw [List.append_nil] at hE
       have hE2 := hE.symm
       subst hE2
       clear hE HE hgg
       have hlt : ¬ ((l.length : Int) < (l.length : Int)) := by omega
       obtain ⟨bD, bF, bG, bH, dG, ed, bg⟩ := St.eY S (.tail _ (.tail _ (.tail _ (.head _))))
       go_wp2_with (first
        | ((with_reducible refine dB 26 (.tmp 6) (.tmp 83) rfl ?_); refine Oa 26 6 83 #[.int .u8 ck, .int .i64 cx, .int .i64 cy, .int .i64 gw, .int .i64 gh, .int .i64 ay, .slice A1 l.length c1] 0 7 S ?_; clear S; intro yf S; clear bD bF bG bH dG ed bg)
        | fail)
       refine bodyPost_ret (results_cell_row rfl _ _ b6 26 #[.int .u8 ck, .int .i64 cx, .int .i64 cy, .int .i64 gw, .int .i64 gh, .int .i64 ay, .slice A1 l.length c1] (0, 0) _ rfl (S.out.blk _ (.tail _ (.tail _ (.head _))) _ rfl) Try.underlying26 rfl (by kernel_rfl)) rfl ?_
       have hN := S.out.tK
       rw [List.append_nil] at hN
       simp only [BL, wQ]
       exact ⟨_, _, rfl, hN, S.out.below⟩
      | cons k rest =>
       have hk : k ∈ l := by rw [← HE.out]; simp
       have hlt : (pre.length : Int) < (l.length : Int) := by rw [← HE.out, List.length_append, List.length_cons]; omega
       have hw1 : wrap64 ((pre.length : Int) + 1) = ((pre ++ [k]).length : Int) := by have := gX.out; rw [List.length_append, List.length_singleton]; unfold wrap64; omega
       have HW1 := ae.mk hw1
       have jh := ae.mk hgg
       have HK := ae.mk hk
       have tq := ae.mk (xx.out k hk)
       have tH := ae.mk (show pre.length ≤ 1000000 by have := gX.out; omega)
       have HJ := ae.mk (show pre.length < l.length by omega)
       have tC := ae.mk (show (pre.length : Int) < ((jZ ax pre NS 0 ++ k :: rest).length : Int) by rw [List.length_append, wQ, List.length_cons]; omega)
       obtain ⟨g, cap, ev, _⟩ := Kd.yU S.out.tK (by have := tC.out; omega)
       injection ev with e1 e2 e3
       subst e1
       clear e2 e3 hk hgg hw1
       obtain ⟨ua, uc, S1, hcell⟩ := S.out.IG (pre.length : Int) (Int.natCast_nonneg _) tC.out
       have hrd : aG (jZ ax pre NS 0 ++ k :: rest) (pre.length : Int) = k := acD ax NS pre k rest
       rw [hrd] at S1 hcell
       replace S := ae.mk S1
       have x0 : wr.cell? ⟨g, pre.length * 7, none⟩ = some (.int .u8 k.f0) := hcell 0 _ rfl
       have x1 : wr.cell? ⟨g, pre.length * 7 + 1, none⟩ = some (.int .i64 k.f1.f0) := hcell 1 _ rfl
       have x2 : wr.cell? ⟨g, pre.length * 7 + 2, none⟩ = some (.int .i64 k.f1.f1) := hcell 2 _ rfl
       have x3 : wr.cell? ⟨g, pre.length * 7 + 3, none⟩ = some (.int .i64 k.f1.f2) := hcell 3 _ rfl
       have x4 : wr.cell? ⟨g, pre.length * 7 + 4, none⟩ = some (.int .i64 k.f1.f3) := hcell 4 _ rfl
       have x5 : wr.cell? ⟨g, pre.length * 7 + 5, none⟩ = some (.int .i64 k.f2) := hcell 5 _ rfl
       have x6 : wr.cell? ⟨g, pre.length * 7 + 6, none⟩ = some (.slice ua k.f3.length uc) := hcell 6 _ rfl
       clear S1 hcell hrd
       go_upto_region 16 with (first
        | ((with_reducible refine aj 13 rfl ?_); refine boxS 13 #[.int .u8 0, .int .i64 0, .int .i64 0, .int .i64 0, .int .i64 0, .int .i64 0, .slice none 0 0] 26 S ?_; clear S; intro b13 BF S; clear x0 x1 x2 x3 x4 x5 x6)
        | ((with_reducible refine dB 26 (.tmp 13) (.tmp 62) rfl ?_); refine gI 26 13 62 #[.int .u8 k.f0, .int .i64 k.f1.f0, .int .i64 k.f1.f1, .int .i64 k.f1.f2, .int .i64 k.f1.f3, .int .i64 k.f2, .slice ua k.f3.length uc] 0 7 S ?_; clear S; intro zI S)
        | fail)
       go_cut [69] (fun v69 wc => v69 = .bool (ok && jC ax ck) ∧ ae (St w P [(some b13, .cells #[.int .u8 k.f0, .int .i64 k.f1.f0, .int .i64 k.f1.f1, .int .i64 k.f1.f2, .int .i64 k.f1.f3, .int .i64 k.f2, .slice ua k.f3.length uc] 26 (0, 0)), ((Value.slice As sl.length cs).ownBlock, os), ((Value.slice Ag l.length cg).ownBlock, og), (some b6, .cells #[.int .u8 0, .int .i64 0, .int .i64 0, .int .i64 0, .int .i64 0, .int .i64 0, .slice none 0 0] 26 (0, 0)), (some b3, .cells #[.int .u8 ck, .int .i64 cx, .int .i64 cy, .int .i64 gw, .int .i64 gh, .int .i64 ay, .slice (some ⟨g, 0, none⟩) l.length c1] 26 (0, 0))] [(.slice (some ⟨g, 0, none⟩) l.length c1, (jZ ax pre NS 0 ++ k :: rest))] [(.slice ua k.f3.length uc, k.f3), (.slice A l.length cc, l)] [] wc))
       case first =>
        cases ok with
        | false =>
         go_wp2
         go_meet
         case rel => exact ⟨by first | rfl | simp, S⟩
        | true =>
         obtain ⟨bD, bF, bG, bH, dG, ed, bg⟩ := St.eY S (.tail _ (.tail _ (.tail _ (.tail _ (.head _)))))
         go_wp2_with (first
          | ((with_reducible refine aj 68 rfl ?_); (refine fZ (by rfl) ?_; dsimp only); refine dF (some 68) Try.func99 S (Zg ⟨ck, ⟨cx, cy, gw, gh⟩, ay, _⟩ ax (Kd.rM (base' := 0) (S.out.own _ (.head _)))) ?_; clear S; intro yB S; clear bD bF bG bH dG ed bg)
          | fail)
         go_meet
         case rel => exact ⟨by first | rfl | simp, S⟩
       case rest =>
        clear S
        obtain ⟨rfl, S⟩ := hcut
        rename World => wz
        go_upto_if 69 with fail
        go_cut [14] (fun v14 wc => v14 = .int .i64 (NS pre.length) ∧ ae (St w P [(some b13, .cells #[.int .u8 k.f0, .int .i64 k.f1.f0, .int .i64 k.f1.f1, .int .i64 k.f1.f2, .int .i64 k.f1.f3, .int .i64 k.f2, .slice ua k.f3.length uc] 26 (0, 0)), ((Value.slice As sl.length cs).ownBlock, os), ((Value.slice Ag l.length cg).ownBlock, og), (some b6, .cells #[.int .u8 0, .int .i64 0, .int .i64 0, .int .i64 0, .int .i64 0, .int .i64 0, .slice none 0 0] 26 (0, 0)), (some b3, .cells #[.int .u8 ck, .int .i64 cx, .int .i64 cy, .int .i64 gw, .int .i64 gh, .int .i64 ay, .slice (some ⟨g, 0, none⟩) l.length c1] 26 (0, 0))] [(.slice (some ⟨g, 0, none⟩) l.length c1, (jZ ax pre NS 0 ++ k :: rest))] [(.slice ua k.f3.length uc, k.f3), (.slice A l.length cc, l)] [] wc))
        case first =>
         cases hoa : (ok && jC ax ck) with
         | false =>
          go_wp2
          go_meet
          case rel => exact ⟨by rw [Fa.out, if_neg (by intro h; rw [h.1, h.2] at hoa; cases hoa)], S⟩
         | true =>
          have hok : ok = true ∧ jC ax ck = true := by simpa using hoa
          have hsl2 : sl.length = l.length := yT.out hok.1
          have hlt2 : (pre.length : Int) < (sl.length : Int) := by rw [hsl2]; exact hlt
          obtain ⟨SH, ea, _⟩ := Kd.iq (Kd.dn (HIS.out _ (S.out.blk _ (.tail _ (.head _))))).2.2 (pre.length : Int) (Int.natCast_nonneg _) hlt2
          subst ea
          have R_ := ae.mk hok
          clear hok
          have xs := BH HIS.out (S.out.blk _ (.tail _ (.head _))) pre.length hlt2
          go_wp2
          clear xs
          go_meet
          case rel => exact ⟨by rw [Fa.out, if_pos R_.out], S⟩
        case rest =>
         clear S
         obtain ⟨rfl, S⟩ := hcut
         rename World => wy
         go_wp2
         refine iR (n := 9) (S := fun w' => St w _ _ _ _ _ w') (ds := [8]) (bA 9 0) (by kernel_rfl) rfl rfl (S.out.call (bC (Below.refl _ _))) (fun hHeld => ?_); refine fJ vF.agv vF.acN (fun ak dZ => ?_)
         replace S := ae.mk (S.out.call (bC (Below.refl _ _)))
         generalize wy.drew = alX at S hHeld ⊢
         refine au 0 74 (bA 9 1) ak ?_
         refine dE 1 75 (bA 9 3) ak dZ hHeld ?_ (hv := by intro w' hs_; have bg := (hs_.at (.tail _ (.tail _ (.tail _ (.tail _ (.head _))))) 6).trans rfl; go_simp; with_reducible rfl)
         refine au 2 76 (bA 9 7) ak ?_
         refine dE 3 77 (bA 9 15) ak dZ hHeld ?_ (hv := by intro w' hs_; have SX := (hs_.at (.head _) 0).trans rfl; have SY := (hs_.at (.head _) 1).trans rfl; have S9 := (hs_.at (.head _) 2).trans rfl; have S_ := (hs_.at (.head _) 3).trans rfl; have Tc := (hs_.at (.head _) 4).trans rfl; have Td := (hs_.at (.head _) 5).trans rfl; have Tf := (hs_.at (.head _) 6).trans rfl; go_simp; with_reducible rfl)
         refine au 4 78 (bA 9 31) ak ?_
         refine au 5 79 (bA 9 63) ak ?_
         refine gU (i := 6) (N := some 80) (bA 9 127) rfl rfl (bY ak.out (by kernel_rfl)) (by decide) (fun K hK => ?_)
         refine fK Try.func199 (by kernel_rfl) rfl #[.agg #[.int .u8 k.f0, .int .i64 k.f1.f0, .int .i64 k.f1.f1, .int .i64 k.f1.f2, .int .i64 k.f1.f3, .int .i64 k.f2, .slice ua k.f3.length uc], .int .u8 ax, .int .i64 (NS pre.length)] (by rfl) rfl rfl (by (try simp only [List.map_toArray, List.map_cons, List.map_nil]); first | done | rfl) ?_
         refine (IH.out k HK.out (NS pre.length) (HNB.out _ HJ.out) _ ua uc _ (dO (S.out.tree _ (.head _)))).mono ?_
         rintro e zJ ⟨Av, cv, rfl, h1, hb⟩
         refine ⟨_, rfl, ?_⟩
         replace S := ae.mk (S.out.res (Kd.rM (base' := 0) h1) hb)
         clear h1 hb
         refine hK.out _ _ S.out.bW (fun hHeld => ?_)
         clear hK K
         refine dR 80 ?_
         refine au 7 81 (bA 9 255) ak ?_
         refine mO (i := 8) (N := none) (bA 9 511) rfl rfl (bY ak.out (by kernel_rfl)) (by decide) (fun K hK => ?_)
         refine PX (pre.length : Int) (dV ax k (NS pre.length)) (.tmp 81) (.tmp 80) rfl S.out (by rfl) rfl (Int.natCast_nonneg _) tC.out (by first | rfl | (go_simp; rfl)) rfl (by kernel_rfl) (.head _) ?_
         intro Gu S1
         rw [show (jZ ax pre NS 0 ++ k :: rest).set (pre.length : Int).toNat (dV ax k (NS pre.length)) = jZ ax (pre ++ [k]) NS 0 ++ rest from Ze ax NS pre k rest] at S1
         replace S := ae.mk S1
         clear S1
         refine hK.out _ _ ?_
         clear hK K
         refine jI (gQ ak.out (by kernel_rfl)) ?_
         clear hHeld
         go_wp2
         have hw1 := HW1.out
         go_wp2
         go_roundg rest.length
         case measure => exact Nat.lt_of_lt_of_le (Nat.lt_succ_self _) jh.out
         case rel => exact ⟨pre ++ [k], rest, (by rw [hw1]), ⟨by rw [List.append_assoc]; exact HE.out⟩, Nat.le_refl _, ⟨S.out.eF.bW.bW⟩⟩
    | cons k rest =>
     have hk : k ∈ l := by rw [← HE.out]; simp
     have hlt : (pre.length : Int) < (l.length : Int) := by rw [← HE.out, List.length_append, List.length_cons]; omega
     have hw1 : wrap64 ((pre.length : Int) + 1) = ((pre ++ [k]).length : Int) := by have := gX.out; rw [List.length_append, List.length_singleton]; unfold wrap64; omega
     have HW1 := ae.mk hw1
     have jh := ae.mk hgg
     have HK := ae.mk hk
     have tq := ae.mk (xx.out k hk)
     have tH := ae.mk (show pre.length ≤ 1000000 by have := gX.out; omega)
     have HJ := ae.mk (show pre.length < l.length by omega)
     have tC := ae.mk (show (pre.length : Int) < ((l).length : Int) by omega)
     obtain ⟨g, cap, ev, _⟩ := Kd.yU S.out.tK (by have := tC.out; omega)
     injection ev with e1 e2 e3
     subst e1
     clear e2 e3 hk hgg hw1
     obtain ⟨ua, uc, S1, hcell⟩ := S.out.IG (pre.length : Int) (Int.natCast_nonneg _) tC.out
     have hrd : aG (l) (pre.length : Int) = k := (by rw [← HE.out]; exact jF pre k rest)
     rw [hrd] at S1 hcell
     replace S := ae.mk S1
     have x0 : wr.cell? ⟨g, pre.length * 7, none⟩ = some (.int .u8 k.f0) := hcell 0 _ rfl
     have x1 : wr.cell? ⟨g, pre.length * 7 + 1, none⟩ = some (.int .i64 k.f1.f0) := hcell 1 _ rfl
     have x2 : wr.cell? ⟨g, pre.length * 7 + 2, none⟩ = some (.int .i64 k.f1.f1) := hcell 2 _ rfl
     have x3 : wr.cell? ⟨g, pre.length * 7 + 3, none⟩ = some (.int .i64 k.f1.f2) := hcell 3 _ rfl
     have x4 : wr.cell? ⟨g, pre.length * 7 + 4, none⟩ = some (.int .i64 k.f1.f3) := hcell 4 _ rfl
     have x5 : wr.cell? ⟨g, pre.length * 7 + 5, none⟩ = some (.int .i64 k.f2) := hcell 5 _ rfl
     have x6 : wr.cell? ⟨g, pre.length * 7 + 6, none⟩ = some (.slice ua k.f3.length uc) := hcell 6 _ rfl
     clear S1 hcell hrd
     go_wp2_with (first
      | ((with_reducible refine aj 9 rfl ?_); refine boxS 9 #[.int .u8 0, .int .i64 0, .int .i64 0, .int .i64 0, .int .i64 0, .int .i64 0, .slice none 0 0] 26 S ?_; clear S; intro b9 Gv S; clear x0 x1 x2 x3 x4 x5 x6)
      | ((with_reducible refine dB 26 (.tmp 9) (.tmp 41) rfl ?_); refine gI 26 9 41 #[.int .u8 k.f0, .int .i64 k.f1.f0, .int .i64 k.f1.f1, .int .i64 k.f1.f2, .int .i64 k.f1.f3, .int .i64 k.f2, .slice ua k.f3.length uc] 0 7 S ?_; clear S; intro Ov S; obtain ⟨nY, sH, oU, sK, yL, zU, zV⟩ := St.eY S (.head _))
      | ((with_reducible refine aj 45 rfl ?_); refine dF (some 45) Try.func86 S (EN k ax tq.out (S.out.tree _ (.head _))) ?_; clear S; intro Rz S; clear nY sH oU sK yL zU zV)
      | ((with_reducible refine aC (N := 47) rfl ?_); at_builtin; go_loud (refine Zh (.tmp 42) (.tmp 46) rfl rfl Try.underlying41 info3 S.out.Ig HI.out (fD ax k) rfl (by first | (go_simp; done) | (go_simp; rfl)) (by have := tH.out; simp only [List.length_map]; omega) ?_); intro Ag2 cg2 og2 RD S1 I1; rw [show (pre.map (fD ax) ++ [fD ax k]).length = (pre ++ [k]).length by simp] at S1 I1 ⊢; replace S := ae.mk S1.Ig; have HI2 := ae.mk I1; clear S1 I1 HI)
      | fail)
     have hw1 := HW1.out
     go_wp2
     go_roundg rest.length
     case measure => exact Nat.lt_of_lt_of_le (Nat.lt_succ_self _) jh.out
     case rel => exact ⟨pre ++ [k], rest, Ag2, cg2, og2, (by simp), (by rw [hw1]), ⟨by rw [List.append_assoc]; exact HE.out⟩, Nat.le_refl _, ⟨by rw [List.map_append]; exact HI2.out⟩, ⟨S.out.eF.bW⟩⟩
def xX.T6 : Bool × List (List Nat × List Nat) := (true, [([], []), ([], []), ([], []), ([0, 1, 2], [0, 1, 2]), ([], []), ([4], [4]), ([5], [5]), ([], []), ([7], [7]), ([8], [8]), ([3, 6, 9, 3], [3, 6, 9]), ([10, 10, 0, 1, 2, 3, 4, 5, 6, 7, 8, 9, 10], [10]), ([11, 0, 1, 2, 3, 4, 5, 6, 7, 8, 9, 10, 11], [])])
def xX.B6 : List Nat := [0, 0, 0, 7, 0, 16, 48, 0, 128, 384, 1023, 2047, 4095]
theorem xX.tab6 : iY .any (opsOf Try.f183 6) = xX.T6 := by kernel_rfl
theorem xX.yH : iI xX.T6.2 xX.B6 = true := by kernel_rfl
theorem zQ (ax : Int) (c : ai) (hz : sz c ≤ 1048576) (bz : Int) (P : Nat → Prop) (A : Option Addr) (cc : Nat) (w : World) (hv : Kd.V k26 26 w w.heap.size P (.slice A c.f3.length cc) c.f3) :
  Calls Try.prog 183 #[.agg #[.int .u8 c.f0, .int .i64 c.f1.f0, .int .i64 c.f1.f1, .int .i64 c.f1.f2, .int .i64 c.f1.f3, .int .i64 c.f2, .slice A c.f3.length cc], .int .u8 ax, .int .i64 bz] w (pK w P (aZ ax c bz) (aN ax c bz)) := by
 have S := ae.mk (St.start (ts := [(.slice A c.f3.length cc, c.f3)]) (b0 := w.heap.size) (w := w) (P := P) (fun t ht => by rw [List.mem_singleton.1 ht]; exact hv))
 have HZ := ae.mk hz
 obtain ⟨ck, ⟨cx, cy, cw, ch⟩, ay, l⟩ := c
 simp only [] at S
 clear hv hz
 cases ht : eP ⟨ck, ⟨cx, cy, cw, ch⟩, ay, l⟩ with
 | false =>
  have HB := ae.mk (show qZ ax ⟨ck, ⟨cx, cy, cw, ch⟩, ay, l⟩ = true by unfold qZ; rw [ht]; rfl)
  go_enter Try.func183, Try.ntmps183
  go_wp2_with (first
   | ((with_reducible refine aj 3 rfl ?_); refine boxS 3 #[.int .u8 ck, .int .i64 cx, .int .i64 cy, .int .i64 cw, .int .i64 ch, .int .i64 ay, .slice A l.length cc] 26 S ?_; clear S; intro b3 eH S)
   | ((with_reducible refine aj 6 rfl ?_); refine boxS 6 #[.int .u8 0, .int .i64 0, .int .i64 0, .int .i64 0, .int .i64 0, .int .i64 0, .slice none 0 0] 26 S ?_; clear S; intro b6 fG S; obtain ⟨bD, bF, bG, bH, dG, ed, bg⟩ := St.eY S (.tail _ (.head _)))
   | ((with_reducible refine aC (N := 10) rfl ?_); refine oI (N := 10) rfl rfl ⟨ck, ⟨cx, cy, cw, ch⟩, ay, l⟩ S.out (S.out.tree _ (.head _)) ?hr ?_; (case hr => first | (go_simp; done) | (go_simp; rfl)); intro VC V9 gV S1 h1 h2; replace S := ae.mk S1; have nK := ae.mk h1; have qO := ae.mk h2; clear S1 h1 h2; clear bD bF bG bH dG ed bg)
   | ((with_reducible refine aj 11 rfl ?_); refine dF (some 11) Try.func148 S (oL ⟨ck, ⟨cx, cy, cw, ch⟩, ay, l⟩ HZ.out qO.out nK.out) ?_; clear S; intro jB S)
   | ((with_reducible refine dB 26 (.tmp 6) (.tmp 21) rfl ?_); refine gI 26 6 21 #[.int .u8 0, .int .i64 0, .int .i64 0, .int .i64 0, .int .i64 0, .int .i64 0, .slice none 0 0] 0 7 S ?_; clear S; intro lQ S)
   | fail)
  refine bodyPost_ret (bK rfl _ _ b6 26 #[.int .u8 0, .int .i64 0, .int .i64 0, .int .i64 0, .int .i64 0, .int .i64 0, .slice none 0 0] (0, 0) _ rfl (S.out.blk _ (.head _) _ rfl) Try.underlying26 rfl (by kernel_rfl)) rfl ?_
  rw [show aN ax ⟨ck, ⟨cx, cy, cw, ch⟩, ay, l⟩ bz = 1 by unfold aN; rw [if_pos HB.out], show aZ ax ⟨ck, ⟨cx, cy, cw, ch⟩, ay, l⟩ bz = z26 by unfold aZ; rw [if_pos HB.out]]
  exact ⟨_, _, rfl, Kd.kN _ _ _ _ _, S.out.below⟩
 | true =>
  have HT := ae.mk ht
  by_cases hax : ax = 1 ∨ ax = 2
  ·have HB := ae.mk (show qZ ax ⟨ck, ⟨cx, cy, cw, ch⟩, ay, l⟩ = false by unfold qZ; rw [ht]; rcases hax with rfl | rfl <;> rfl)
   have vH := ae.mk hax
   clear ht hax
   go_enter Try.func183, Try.ntmps183
   go_upto_region 1 with (first
    | ((with_reducible refine aj 3 rfl ?_); refine boxS 3 #[.int .u8 ck, .int .i64 cx, .int .i64 cy, .int .i64 cw, .int .i64 ch, .int .i64 ay, .slice A l.length cc] 26 S ?_; clear S; intro b3 eH S)
    | ((with_reducible refine aj 6 rfl ?_); refine boxS 6 #[.int .u8 0, .int .i64 0, .int .i64 0, .int .i64 0, .int .i64 0, .int .i64 0, .slice none 0 0] 26 S ?_; clear S; intro b6 fG S)
    | fail)
   (try simp only [Act.put, List.setIfInBounds_toArray, List.set_cons_zero, List.set_cons_succ])
   go_cut [20] (fun v20 wc => v20 = .bool false ∧ ae (St w P [(some b6, .cells #[.int .u8 0, .int .i64 0, .int .i64 0, .int .i64 0, .int .i64 0, .int .i64 0, .slice none 0 0] 26 (0, 0)), (some b3, .cells #[.int .u8 ck, .int .i64 cx, .int .i64 cy, .int .i64 cw, .int .i64 ch, .int .i64 ay, .slice A l.length cc] 26 (0, 0))] [] [(.slice A l.length cc, l)] [] wc))
   case first =>
    by_cases h1 : ax = 1
    ·have HX := ae.mk h1
     have h1b : (ax != 1) = false := by rw [h1]; rfl
     clear h1
     obtain ⟨bD, bF, bG, bH, dG, ed, bg⟩ := St.eY S (.tail _ (.head _))
     go_wp2_with (first
      | ((with_reducible refine aC (N := 10) rfl ?_); refine oI (N := 10) rfl rfl ⟨ck, ⟨cx, cy, cw, ch⟩, ay, l⟩ S.out (S.out.tree _ (.head _)) ?hr ?_; (case hr => first | (go_simp; done) | (go_simp; rfl)); intro VC V9 eH S1 h1 h2; replace S := ae.mk S1; have nK := ae.mk h1; have qO := ae.mk h2; clear S1 h1 h2; clear bD bF bG bH dG ed bg)
      | ((with_reducible refine aj 11 rfl ?_); refine dF (some 11) Try.func148 S (jG HT.out (oL ⟨ck, ⟨cx, cy, cw, ch⟩, ay, l⟩ HZ.out qO.out nK.out)) ?_; clear S; intro fG S)
      | fail)
     go_meet
     case rel => exact ⟨by first | rfl | simp, S⟩
    ·have HX := ae.mk h1
     have h1b : (ax != 1) = true := bne_iff_ne.mpr h1
     have h2b : (ax != 2) = false := by rw [vH.out.resolve_left h1]; rfl
     clear h1
     obtain ⟨bD, bF, bG, bH, dG, ed, bg⟩ := St.eY S (.tail _ (.head _))
     go_wp2_with (first
      | ((with_reducible refine aC (N := 10) rfl ?_); refine oI (N := 10) rfl rfl ⟨ck, ⟨cx, cy, cw, ch⟩, ay, l⟩ S.out (S.out.tree _ (.head _)) ?hr ?_; (case hr => first | (go_simp; done) | (go_simp; rfl)); intro VC V9 eH S1 h1 h2; replace S := ae.mk S1; have nK := ae.mk h1; have qO := ae.mk h2; clear S1 h1 h2; clear bD bF bG bH dG ed bg)
      | ((with_reducible refine aj 11 rfl ?_); refine dF (some 11) Try.func148 S (jG HT.out (oL ⟨ck, ⟨cx, cy, cw, ch⟩, ay, l⟩ HZ.out qO.out nK.out)) ?_; clear S; intro fG S)
      | fail)
     go_meet
     case rel => exact ⟨by first | rfl | simp, S⟩
   case rest =>
    clear S
    obtain ⟨rfl, S⟩ := hcut
    rename World => wx
    have bF := (S.out.at (.tail _ (.head _)) 1).trans rfl
    have bH := (S.out.at (.tail _ (.head _)) 3).trans rfl
    have bG := (S.out.at (.tail _ (.head _)) 2).trans rfl
    have dG := (S.out.at (.tail _ (.head _)) 4).trans rfl
    go_upto_region 4 with (first
     | ((with_reducible refine aj 38 rfl ?_); refine dF (some 38) Try.func98 S (BC ⟨0, 0, wrap64 (cx + cw), wrap64 (cy + ch)⟩ ax) ?_; clear S; intro eH S; clear bF bH bG dG)
     | fail)
    (try simp only [Act.put, List.setIfInBounds_toArray, List.set_cons_zero, List.set_cons_succ])
    by_cases h4 : bz < wrap64 (-(fD ax ⟨ck, ⟨cx, cy, cw, ch⟩, ay, l⟩))
    ·have Bj : decide (bz < wrap64 (-(fD ax ⟨ck, ⟨cx, cy, cw, ch⟩, ay, l⟩))) = true := decide_eq_true h4
     have HO := ae.mk (show yt ax ⟨ck, ⟨cx, cy, cw, ch⟩, ay, l⟩ bz = true by unfold yt; rw [Bj]; rfl)
     clear h4
     obtain ⟨bD, bF, bG, bH, dG, ed, bg⟩ := St.eY S (.tail _ (.head _))
     go_wp2_with (first
      | ((with_reducible refine aj 42 rfl ?_); refine dF (some 42) Try.func86 S (EN ⟨ck, ⟨cx, cy, cw, ch⟩, ay, l⟩ ax HZ.out (S.out.tree _ (.head _))) ?_; clear S; intro eH S; clear bD bF bG bH dG ed bg)
      | ((with_reducible refine dB 26 (.tmp 6) (.tmp 51) rfl ?_); refine gI 26 6 51 #[.int .u8 0, .int .i64 0, .int .i64 0, .int .i64 0, .int .i64 0, .int .i64 0, .slice none 0 0] 0 7 S ?_; clear S; intro fG S)
      | fail)
     refine bodyPost_ret (bK rfl _ _ b6 26 #[.int .u8 0, .int .i64 0, .int .i64 0, .int .i64 0, .int .i64 0, .int .i64 0, .slice none 0 0] (0, 0) _ rfl (S.out.blk _ (.head _) _ rfl) Try.underlying26 rfl (by kernel_rfl)) rfl ?_
     rw [show aN ax ⟨ck, ⟨cx, cy, cw, ch⟩, ay, l⟩ bz = 7 by unfold aN; rw [if_neg (by rw [HB.out]; simp), if_pos HO.out], show aZ ax ⟨ck, ⟨cx, cy, cw, ch⟩, ay, l⟩ bz = z26 by unfold aZ; rw [if_neg (by rw [HB.out]; simp), if_pos HO.out]]
     exact ⟨_, _, rfl, Kd.kN _ _ _ _ _, S.out.below⟩
    ·have Bj : decide (bz < wrap64 (-(fD ax ⟨ck, ⟨cx, cy, cw, ch⟩, ay, l⟩))) = false := decide_eq_false h4
     by_cases h5 : bz > wrap64 (10000 - (bM ax ⟨0, 0, wrap64 (cx + cw), wrap64 (cy + ch)⟩))
     ·have Hq : decide (bz > wrap64 (10000 - (bM ax ⟨0, 0, wrap64 (cx + cw), wrap64 (cy + ch)⟩))) = true := decide_eq_true h5
      have TF : decide (wrap64 (10000 - (bM ax ⟨0, 0, wrap64 (cx + cw), wrap64 (cy + ch)⟩)) < bz) = true := decide_eq_true h5
      have HO := ae.mk (show yt ax ⟨ck, ⟨cx, cy, cw, ch⟩, ay, l⟩ bz = true by unfold yt; rw [Bj]; exact Hq)
      clear h4 h5
      obtain ⟨bD, bF, bG, bH, dG, ed, bg⟩ := St.eY S (.tail _ (.head _))
      go_wp2_with (first
       | ((with_reducible refine aj 42 rfl ?_); refine dF (some 42) Try.func86 S (EN ⟨ck, ⟨cx, cy, cw, ch⟩, ay, l⟩ ax HZ.out (S.out.tree _ (.head _))) ?_; clear S; intro eH S; clear bD bF bG bH dG ed bg)
       | ((with_reducible refine dB 26 (.tmp 6) (.tmp 51) rfl ?_); refine gI 26 6 51 #[.int .u8 0, .int .i64 0, .int .i64 0, .int .i64 0, .int .i64 0, .int .i64 0, .slice none 0 0] 0 7 S ?_; clear S; intro fG S)
       | fail)
      refine bodyPost_ret (bK rfl _ _ b6 26 #[.int .u8 0, .int .i64 0, .int .i64 0, .int .i64 0, .int .i64 0, .int .i64 0, .slice none 0 0] (0, 0) _ rfl (S.out.blk _ (.head _) _ rfl) Try.underlying26 rfl (by kernel_rfl)) rfl ?_
      rw [show aN ax ⟨ck, ⟨cx, cy, cw, ch⟩, ay, l⟩ bz = 7 by unfold aN; rw [if_neg (by rw [HB.out]; simp), if_pos HO.out], show aZ ax ⟨ck, ⟨cx, cy, cw, ch⟩, ay, l⟩ bz = z26 by unfold aZ; rw [if_neg (by rw [HB.out]; simp), if_pos HO.out]]
      exact ⟨_, _, rfl, Kd.kN _ _ _ _ _, S.out.below⟩
     ·have Hq : decide (bz > wrap64 (10000 - (bM ax ⟨0, 0, wrap64 (cx + cw), wrap64 (cy + ch)⟩))) = false := decide_eq_false h5
      have TF : decide (wrap64 (10000 - (bM ax ⟨0, 0, wrap64 (cx + cw), wrap64 (cy + ch)⟩)) < bz) = false := decide_eq_false h5
      have HO := ae.mk (show yt ax ⟨ck, ⟨cx, cy, cw, ch⟩, ay, l⟩ bz = false by unfold yt; rw [Bj]; exact Hq)
      have hf := acB HB.out HO.out
      have HZ2 := ae.mk (show sz ⟨ck, ⟨cx, cy, cw, ch⟩, ay, l⟩ ≤ 100000 by omega)
      have HZ3 := ae.mk (show sz (dV ax ⟨ck, ⟨cx, cy, cw, ch⟩, ay, l⟩ bz) ≤ 1000000 by rw [(LZ ax _).1 _ (Nat.le_refl _)]; omega)
      have HBY := ae.mk (show -2147483647 ≤ bz ∧ bz ≤ 2147483647 by omega)
      clear hf h4 h5
      obtain ⟨bD, bF, bG, bH, dG, ed, bg⟩ := St.eY S (.tail _ (.head _))
      go_wp2_with (first
       | ((with_reducible refine aj 42 rfl ?_); refine dF (some 42) Try.func86 S (EN ⟨ck, ⟨cx, cy, cw, ch⟩, ay, l⟩ ax HZ.out (S.out.tree _ (.head _))) ?_; clear S; intro eH S; clear bD bF bG bH dG ed bg)
       | fail)
      refine iR (n := 13) (S := fun w' => St w _ _ _ _ _ w') (ds := [11]) (bA 13 0) (by kernel_rfl) rfl rfl (S.out.call (bC (Below.refl _ _))) (fun hHeld => ?_); refine fJ xX.tab6 xX.yH (fun ak dZ => ?_)
      replace S := ae.mk (S.out.call (bC (Below.refl _ _)))
      generalize eH.drew = wd2 at S hHeld ⊢
      refine dE 0 52 (bA 13 1) ak dZ hHeld ?_ (hv := by intro w' hs_; have bD := (hs_.at (.tail _ (.head _)) 0).trans rfl; have bF := (hs_.at (.tail _ (.head _)) 1).trans rfl; have bG := (hs_.at (.tail _ (.head _)) 2).trans rfl; have bH := (hs_.at (.tail _ (.head _)) 3).trans rfl; have dG := (hs_.at (.tail _ (.head _)) 4).trans rfl; have ed := (hs_.at (.tail _ (.head _)) 5).trans rfl; have bg := (hs_.at (.tail _ (.head _)) 6).trans rfl; go_simp; with_reducible rfl)
      refine au 1 53 (bA 13 3) ak ?_
      refine au 2 54 (bA 13 7) ak ?_
      refine au 4 56 (bA 13 23) ak ?_
      refine au 5 57 (bA 13 55) ak ?_
      refine dE 6 58 (bA 13 119) ak dZ hHeld ?_ (hv := by intro w' hs_; have bF := (hs_.at (.tail _ (.head _)) 1).trans rfl; go_simp; with_reducible rfl)
      refine au 7 59 (bA 13 247) ak ?_
      refine au 8 60 (bA 13 503) ak ?_
      refine dE 9 61 (bA 13 1015) ak dZ hHeld ?_ (hv := by intro w' hs_; have bG := (hs_.at (.tail _ (.head _)) 2).trans rfl; go_simp; with_reducible rfl)
      refine gU (i := 3) (N := some 55) (bA 13 1023) rfl rfl (bY ak.out (by kernel_rfl)) (by decide) (fun K hK => ?_)
      refine fK Try.func199 (by kernel_rfl) rfl #[.agg #[.int .u8 ck, .int .i64 cx, .int .i64 cy, .int .i64 cw, .int .i64 ch, .int .i64 ay, .slice A l.length cc], .int .u8 ax, .int .i64 bz] (by rfl) rfl rfl (by (try simp only [List.map_toArray, List.map_cons, List.map_nil]); first | done | rfl) ?_
      refine (acC ax 100000 ⟨ck, ⟨cx, cy, cw, ch⟩, ay, l⟩ HZ2.out (Nat.le_refl _) bz HBY.out _ A cc _ (dO (S.out.tree _ (.head _)))).mono ?_
      rintro e gV ⟨AX, wU, rfl, h1, hb⟩
      refine ⟨_, rfl, ?_⟩
      replace S := ae.mk (S.out.res (Kd.rM (base' := 0) h1) hb)
      clear h1 hb
      refine hK.out _ _ S.out.bW (fun hHeld => ?_)
      clear hK K
      refine dR 55 ?_
      refine gU (i := 10) (N := some 62) (bA 13 2047) rfl rfl (bY ak.out (by kernel_rfl)) (by decide) (fun K hK => ?_)
      refine fK Try.func66 (by kernel_rfl) rfl #[.agg #[.int .u8 ((dV ax ⟨ck, ⟨cx, cy, cw, ch⟩, ay, l⟩ bz).f0), .int .i64 ((dV ax ⟨ck, ⟨cx, cy, cw, ch⟩, ay, l⟩ bz).f1.f0), .int .i64 ((dV ax ⟨ck, ⟨cx, cy, cw, ch⟩, ay, l⟩ bz).f1.f1), .int .i64 ((dV ax ⟨ck, ⟨cx, cy, cw, ch⟩, ay, l⟩ bz).f1.f2), .int .i64 ((dV ax ⟨ck, ⟨cx, cy, cw, ch⟩, ay, l⟩ bz).f1.f3), .int .i64 ((dV ax ⟨ck, ⟨cx, cy, cw, ch⟩, ay, l⟩ bz).f2), .slice AX ((dV ax ⟨ck, ⟨cx, cy, cw, ch⟩, ay, l⟩ bz).f3.length) wU], .int .i64 cx, .int .i64 cy] (by rfl) rfl rfl (by (try simp only [List.map_toArray, List.map_cons, List.map_nil]); first | done | rfl) ?_
      refine (KG (dV ax ⟨ck, ⟨cx, cy, cw, ch⟩, ay, l⟩ bz) cx cy HZ3.out (S.out.tree _ (.head _))).mono ?_
      rintro e jB ⟨X7, Qy, rfl, h1, hb⟩
      refine ⟨_, rfl, ?_⟩
      replace S := ae.mk (S.out.Df h1 hb)
      clear h1 hb
      refine hK.out _ _ S.out.free.bW.bW (fun hHeld => ?_)
      clear hK K
      refine dR 62 ?_
      refine mO (i := 11) (N := none) (bA 13 4095) rfl rfl (bY ak.out (by kernel_rfl)) (by decide) (fun K hK => ?_)
      refine oJ 0 rfl 26 (.tmp 6) (.tmp 62) rfl #[.int .u8 ((aX (dV ax ⟨ck, ⟨cx, cy, cw, ch⟩, ay, l⟩ bz) cx cy).f0), .int .i64 ((aX (dV ax ⟨ck, ⟨cx, cy, cw, ch⟩, ay, l⟩ bz) cx cy).f1.f0), .int .i64 ((aX (dV ax ⟨ck, ⟨cx, cy, cw, ch⟩, ay, l⟩ bz) cx cy).f1.f1), .int .i64 ((aX (dV ax ⟨ck, ⟨cx, cy, cw, ch⟩, ay, l⟩ bz) cx cy).f1.f2), .int .i64 ((aX (dV ax ⟨ck, ⟨cx, cy, cw, ch⟩, ay, l⟩ bz) cx cy).f1.f3), .int .i64 ((aX (dV ax ⟨ck, ⟨cx, cy, cw, ch⟩, ay, l⟩ bz) cx cy).f2), .slice X7 ((aX (dV ax ⟨ck, ⟨cx, cy, cw, ch⟩, ay, l⟩ bz) cx cy).f3.length) Qy] (j := 0) (u := .agg #[.int .u8 ((aX (dV ax ⟨ck, ⟨cx, cy, cw, ch⟩, ay, l⟩ bz) cx cy).f0), .int .i64 ((aX (dV ax ⟨ck, ⟨cx, cy, cw, ch⟩, ay, l⟩ bz) cx cy).f1.f0), .int .i64 ((aX (dV ax ⟨ck, ⟨cx, cy, cw, ch⟩, ay, l⟩ bz) cx cy).f1.f1), .int .i64 ((aX (dV ax ⟨ck, ⟨cx, cy, cw, ch⟩, ay, l⟩ bz) cx cy).f1.f2), .int .i64 ((aX (dV ax ⟨ck, ⟨cx, cy, cw, ch⟩, ay, l⟩ bz) cx cy).f1.f3), .int .i64 ((aX (dV ax ⟨ck, ⟨cx, cy, cw, ch⟩, ay, l⟩ bz) cx cy).f2), .slice X7 ((aX (dV ax ⟨ck, ⟨cx, cy, cw, ch⟩, ay, l⟩ bz) cx cy).f3.length) Qy]) (bP := [.int .u8 ((aX (dV ax ⟨ck, ⟨cx, cy, cw, ch⟩, ay, l⟩ bz) cx cy).f0), .int .i64 ((aX (dV ax ⟨ck, ⟨cx, cy, cw, ch⟩, ay, l⟩ bz) cx cy).f1.f0), .int .i64 ((aX (dV ax ⟨ck, ⟨cx, cy, cw, ch⟩, ay, l⟩ bz) cx cy).f1.f1), .int .i64 ((aX (dV ax ⟨ck, ⟨cx, cy, cw, ch⟩, ay, l⟩ bz) cx cy).f1.f2), .int .i64 ((aX (dV ax ⟨ck, ⟨cx, cy, cw, ch⟩, ay, l⟩ bz) cx cy).f1.f3), .int .i64 ((aX (dV ax ⟨ck, ⟨cx, cy, cw, ch⟩, ay, l⟩ bz) cx cy).f2), .slice X7 ((aX (dV ax ⟨ck, ⟨cx, cy, cw, ch⟩, ay, l⟩ bz) cx cy).f3.length) Qy]) S.out (by rfl) rfl rfl rfl rfl (by kernel_rfl) (by simp [Value.oneCell']) (by first | decide | simp) rfl ?_
      intro lQ S1
      simp only [List.set_cons_zero, List.set_cons_succ] at S1
      replace S := ae.mk S1
      clear S1
      refine hK.out _ _ ?_
      clear hK K
      refine au 12 7 (bA 13 8191) ak ?_
      refine jI (gQ ak.out (by kernel_rfl)) ?_
      clear hHeld
      go_wp2
      refine bodyPost_ret (bK rfl _ _ b6 26 #[.int .u8 ((aX (dV ax ⟨ck, ⟨cx, cy, cw, ch⟩, ay, l⟩ bz) cx cy).f0), .int .i64 ((aX (dV ax ⟨ck, ⟨cx, cy, cw, ch⟩, ay, l⟩ bz) cx cy).f1.f0), .int .i64 ((aX (dV ax ⟨ck, ⟨cx, cy, cw, ch⟩, ay, l⟩ bz) cx cy).f1.f1), .int .i64 ((aX (dV ax ⟨ck, ⟨cx, cy, cw, ch⟩, ay, l⟩ bz) cx cy).f1.f2), .int .i64 ((aX (dV ax ⟨ck, ⟨cx, cy, cw, ch⟩, ay, l⟩ bz) cx cy).f1.f3), .int .i64 ((aX (dV ax ⟨ck, ⟨cx, cy, cw, ch⟩, ay, l⟩ bz) cx cy).f2), .slice X7 ((aX (dV ax ⟨ck, ⟨cx, cy, cw, ch⟩, ay, l⟩ bz) cx cy).f3.length) Qy] (0, 0) _ rfl (S.out.blk _ (.head _) _ rfl) Try.underlying26 rfl (by kernel_rfl)) rfl ?_
      rw [show aN ax ⟨ck, ⟨cx, cy, cw, ch⟩, ay, l⟩ bz = 0 by unfold aN; rw [if_neg (by rw [HB.out]; simp), if_neg (by rw [HO.out]; simp)], show aZ ax ⟨ck, ⟨cx, cy, cw, ch⟩, ay, l⟩ bz = aX (dV ax ⟨ck, ⟨cx, cy, cw, ch⟩, ay, l⟩ bz) cx cy by unfold aZ; rw [if_neg (by rw [HB.out]; simp), if_neg (by rw [HO.out]; simp)]]
      exact ⟨_, _, rfl, S.out.tK, S.out.below⟩
  ·have h1b : (ax != 1) = true := bne_iff_ne.mpr (fun h => hax (.inl h))
   have h2b : (ax != 2) = true := bne_iff_ne.mpr (fun h => hax (.inr h))
   have HB := ae.mk (show qZ ax ⟨ck, ⟨cx, cy, cw, ch⟩, ay, l⟩ = true by unfold qZ; rw [ht, h1b, h2b]; rfl)
   clear hax
   go_enter Try.func183, Try.ntmps183
   go_wp2_with (first
    | ((with_reducible refine aj 3 rfl ?_); refine boxS 3 #[.int .u8 ck, .int .i64 cx, .int .i64 cy, .int .i64 cw, .int .i64 ch, .int .i64 ay, .slice A l.length cc] 26 S ?_; clear S; intro b3 eH S)
    | ((with_reducible refine aj 6 rfl ?_); refine boxS 6 #[.int .u8 0, .int .i64 0, .int .i64 0, .int .i64 0, .int .i64 0, .int .i64 0, .slice none 0 0] 26 S ?_; clear S; intro b6 fG S; obtain ⟨bD, bF, bG, bH, dG, ed, bg⟩ := St.eY S (.tail _ (.head _)))
    | ((with_reducible refine aC (N := 10) rfl ?_); refine oI (N := 10) rfl rfl ⟨ck, ⟨cx, cy, cw, ch⟩, ay, l⟩ S.out (S.out.tree _ (.head _)) ?hr ?_; (case hr => first | (go_simp; done) | (go_simp; rfl)); intro VC V9 gV S1 h1 h2; replace S := ae.mk S1; have nK := ae.mk h1; have qO := ae.mk h2; clear S1 h1 h2; clear bD bF bG bH dG ed bg)
    | ((with_reducible refine aj 11 rfl ?_); refine dF (some 11) Try.func148 S (oL ⟨ck, ⟨cx, cy, cw, ch⟩, ay, l⟩ HZ.out qO.out nK.out) ?_; clear S; intro jB S)
    | ((with_reducible refine dB 26 (.tmp 6) (.tmp 21) rfl ?_); refine gI 26 6 21 #[.int .u8 0, .int .i64 0, .int .i64 0, .int .i64 0, .int .i64 0, .int .i64 0, .slice none 0 0] 0 7 S ?_; clear S; intro lQ S)
    | fail)
   refine bodyPost_ret (bK rfl _ _ b6 26 #[.int .u8 0, .int .i64 0, .int .i64 0, .int .i64 0, .int .i64 0, .int .i64 0, .slice none 0 0] (0, 0) _ rfl (S.out.blk _ (.head _) _ rfl) Try.underlying26 rfl (by kernel_rfl)) rfl ?_
   rw [show aN ax ⟨ck, ⟨cx, cy, cw, ch⟩, ay, l⟩ bz = 1 by unfold aN; rw [if_pos HB.out], show aZ ax ⟨ck, ⟨cx, cy, cw, ch⟩, ay, l⟩ bz = z26 by unfold aZ; rw [if_pos HB.out]]
   exact ⟨_, _, rfl, Kd.kN _ _ _ _ _, S.out.below⟩
def uy.T4 : Bool × List (List Nat × List Nat) := (true, [([], []), ([0], [0]), ([], []), ([1, 2], [1, 2]), ([], []), ([4], [4]), ([5], [5]), ([3, 6, 3], [3, 6]), ([7], [7]), ([8], [8]), ([8], [8]), ([9, 7, 0, 1, 2, 3, 4, 5, 6, 7, 8, 9], [9]), ([10, 11, 0, 1, 2, 3, 4, 5, 6, 7, 8, 9, 10, 11], [10])])
def uy.B4 : List Nat := [0, 1, 0, 7, 0, 16, 48, 127, 255, 511, 511, 1023, 4095]
theorem uy.ae6 : iY .any (opsOf Try.f155 4) = uy.T4 := by kernel_rfl
theorem uy.Yu : iI uy.T4.2 uy.B4 = true := by kernel_rfl
def vz.T11 : Bool × List (List Nat × List Nat) := (true, [([], []), ([0], [0]), ([], []), ([], []), ([], []), ([3, 4], [3, 4]), ([5], [5]), ([], []), ([7], [7]), ([], []), ([8, 9, 1], [8, 9]), ([6, 10], [6, 10]), ([1, 2, 11, 10], [1, 2, 11]), ([12], [12]), ([13], [13]), ([13], [13]), ([], []), ([16, 14, 12, 0, 1, 2, 3, 4, 5, 6, 7, 8, 9, 10, 11, 12, 13, 14, 16], [14, 16]), ([15, 17, 0, 1, 2, 3, 4, 5, 6, 7, 8, 9, 10, 11, 12, 13, 14, 15, 16, 17], [15])])
def vz.B11 : List Nat := [0, 1, 0, 0, 0, 24, 56, 0, 128, 0, 899, 2043, 4095, 8191, 16383, 16383, 0, 98303, 262143]
theorem vz.Rt : iY .any (opsOf Try.f155 11) = vz.T11 := by kernel_rfl
theorem vz.Md : iI vz.T11.2 vz.B11 = true := by kernel_rfl
theorem EW {ax n m : Int} {k : ai} {args : Array Value} {W : World} {P : Nat → Prop} (h : n = m) (hc : Calls Try.prog 183 args W (pK W P (aZ ax (aX k 0 0) (wrap64 (n - bM ax k.f1))) (aN ax (aX k 0 0) (wrap64 (n - bM ax k.f1))))) : Calls Try.prog 183 args W (pK W P (dK ax k m) (qI ax k m)) := by
 subst h
 exact hc
theorem aa0 (c : ai) (hz : sz c ≤ 100000) (P : Nat → Prop) (A : Option Addr) (cc : Nat) (w : World) (hv : Kd.V k26 26 w w.heap.size P (.slice A c.f3.length cc) c.f3) :
  Calls Try.prog 155 #[.agg #[.int .u8 c.f0, .int .i64 c.f1.f0, .int .i64 c.f1.f1, .int .i64 c.f1.f2, .int .i64 c.f1.f3, .int .i64 c.f2, .slice A c.f3.length cc]] w (LG w P (jX c).1 (jX c).2) := by
 have S := ae.mk (St.start (ts := [(.slice A c.f3.length cc, c.f3)]) (b0 := w.heap.size) (w := w) (P := P) (fun t ht => by rw [List.mem_singleton.1 ht]; exact hv))
 have hsz := dL c
 have hlen := jR c.f3
 have gX := ae.mk (show c.f3.length ≤ 1000000 by omega)
 have FH := ae.mk fun (k : ai) (hk : k ∈ c.f3) => (show sz k ≤ 1000000 by have := vw hk; omega)
 obtain ⟨ck, ⟨cx, cy, cw, ch⟩, ay, l⟩ := c
 simp only [] at S gX FH
 clear hv hz hsz hlen
 by_cases hk : ck = 1
 ·have hkb : (ck == 1) = true := beq_iff_eq.mpr hk
  have HR := ae.mk (show jX ⟨ck, ⟨cx, cy, cw, ch⟩, ay, l⟩ = ([], 10) by unfold jX; rw [if_pos hk])
  clear hk
  go_enter Try.func155, Try.ntmps155
  go_wp2_with (first
   | ((with_reducible refine aj 1 rfl ?_); refine boxS 1 #[.int .u8 ck, .int .i64 cx, .int .i64 cy, .int .i64 cw, .int .i64 ch, .int .i64 ay, .slice A l.length cc] 26 S ?_; clear S; intro b1 eH S; have fF := (S.out.at (.head _) 0).trans rfl)
   | fail)
  clear fF
  refine bodyPost_ret (results_tmp2 rfl _ _ _) rfl ?_
  rw [HR.out]
  exact ⟨none, 0, rfl, Kd.GX _ _ _ _ _, S.out.below⟩
 ·have hkb : (ck == 1) = false := beq_eq_false_iff_ne.mpr hk
  have mf := ae.mk hk
  obtain ⟨ax, hax⟩ : ∃ ax, ax = Be ck := ⟨_, rfl⟩
  have hSZ := fun W => abl (W := W) (bM ax ⟨cx, cy, cw, ch⟩) (l.length : Int)
  have hR : jX ⟨ck, ⟨cx, cy, cw, ch⟩, ay, l⟩ = if (qx (bM ax ⟨cx, cy, cw, ch⟩) (l.length : Int)).2 = false then ([], 7) else if qJ ax (fun (i : Nat) => rd (qx (bM ax ⟨cx, cy, cw, ch⟩) (l.length : Int)).1 (i : Int)) 0 l = true then ([], 7) else (jT ax (fun (i : Nat) => rd (qx (bM ax ⟨cx, cy, cw, ch⟩) (l.length : Int)).1 (i : Int)) 0 l, 0) := by rw [hax]; unfold jX; rw [if_neg hk]
  have hsl := @P6 (bM ax ⟨cx, cy, cw, ch⟩) l.length
  generalize qx (bM ax ⟨cx, cy, cw, ch⟩) (l.length : Int) = sp at hSZ hR hsl
  obtain ⟨sl, ok⟩ := sp
  simp only [] at hSZ hR hsl
  have A8 := ae.mk hSZ
  have yT := ae.mk hsl
  have vH := ae.mk hax
  clear hk hSZ hsl hax
  cases ok with
  | false =>
   have HR := ae.mk (hR.trans (if_pos rfl))
   clear hR
   go_enter Try.func155, Try.ntmps155
   go_upto_region 3 with (first
    | ((with_reducible refine aj 1 rfl ?_); refine boxS 1 #[.int .u8 ck, .int .i64 cx, .int .i64 cy, .int .i64 cw, .int .i64 ch, .int .i64 ay, .slice A l.length cc] 26 S ?_; clear S; intro b1 eH S; have fF := (S.out.at (.head _) 0).trans rfl)
    | fail)
   clear fF
   go_cut [4] (fun v4 wc => v4 = .int .u8 ax ∧ ae (St w P [(some b1, .cells #[.int .u8 ck, .int .i64 cx, .int .i64 cy, .int .i64 cw, .int .i64 ch, .int .i64 ay, .slice A l.length cc] 26 (0, 0))] [] [(.slice A l.length cc, l)] [] wc))
   case first =>
    have fF := (S.out.at (.head _) 0).trans rfl
    go_wp2
    clear fF
    go_meet
    case rel => exact ⟨by rw [vH.out]; first | rfl | (simp [Be]; done), S⟩
   case rest =>
    clear S
    obtain ⟨rfl, S⟩ := hcut
    rename World => wx
    go_wp2
    refine iR (n := 13) (S := fun w' => St w _ _ _ _ _ w') (ds := []) (bA 13 0) (by kernel_rfl) rfl rfl (S.out.call (bC (Below.refl _ _))) (fun hHeld => ?_); refine fJ uy.ae6 uy.Yu (fun ak dZ => ?_)
    replace S := ae.mk (S.out.call (bC (Below.refl _ _)))
    generalize wx.drew = wd2 at S hHeld ⊢
    refine au 0 20 (bA 13 1) ak ?_
    refine dE 1 21 (bA 13 3) ak dZ hHeld ?_ (hv := by intro w' hs_; have kE := (hs_.at (.head _) 1).trans rfl; have kF := (hs_.at (.head _) 2).trans rfl; have kG := (hs_.at (.head _) 3).trans rfl; have kH := (hs_.at (.head _) 4).trans rfl; go_simp; with_reducible rfl)
    refine au 2 22 (bA 13 7) ak ?_
    refine au 4 24 (bA 13 23) ak ?_
    refine dE 5 25 (bA 13 55) ak dZ hHeld ?_ (hv := by intro w' hs_; have iw := (hs_.at (.head _) 6).trans rfl; go_simp; with_reducible rfl)
    refine au 6 26 (bA 13 119) ak ?_
    refine gU (i := 3) (N := some 23) (bA 13 127) rfl rfl (bY ak.out (by kernel_rfl)) (by decide) (fun K hK => ?_)
    refine fK Try.func98 (by kernel_rfl) rfl #[.agg #[.int .i64 cx, .int .i64 cy, .int .i64 cw, .int .i64 ch], .int .u8 ax] (by rfl) rfl rfl (by (try simp only [List.map_toArray, List.map_cons, List.map_nil]); first | done | rfl) ?_
    refine (BC ⟨cx, cy, cw, ch⟩ ax).mono ?_
    rintro e gV ⟨rfl, hb⟩
    refine ⟨_, rfl, ?_⟩
    replace S := ae.mk (S.out.call hb)
    clear hb
    refine hK.out _ _ S.out (fun hHeld => ?_)
    clear hK K
    refine dR 23 ?_
    refine gU (i := 7) (N := some 27) (bA 13 255) rfl rfl (bY ak.out (by kernel_rfl)) (by decide) (fun K hK => ?_)
    refine fK Try.func53 (by kernel_rfl) rfl #[.int .i64 (bM ax ⟨cx, cy, cw, ch⟩), .int .i64 (l.length : Int)] (by rfl) rfl rfl (by (try simp only [List.map_toArray, List.map_cons, List.map_nil]); first | done | rfl) ?_
    refine (A8.out _).mono ?_
    rintro e jB ⟨As, cs, rfl, h1, hb⟩
    refine ⟨_, rfl, ?_⟩
    obtain ⟨os, S1, HI1⟩ := S.out.Dc h1 hb
    replace S := ae.mk S1
    have HIS := ae.mk HI1
    clear S1 HI1 h1 hb
    refine hK.out _ _ S.out.eF (fun hHeld => ?_)
    clear hK K
    refine dR 27 ?_
    refine au 8 19 (bA 13 511) ak ?_
    refine au 9 28 (bA 13 1023) ak ?_
    refine au 10 29 (bA 13 2047) ak ?_
    refine au 11 5 (bA 13 4095) ak ?_
    refine au 12 6 (bA 13 8191) ak ?_
    refine jI (gQ ak.out (by kernel_rfl)) ?_
    clear hHeld
    go_wp2
    refine bodyPost_ret (results_tmp2 rfl _ _ _) rfl ?_
    rw [HR.out]
    exact ⟨none, 0, rfl, Kd.GX _ _ _ _ _, S.out.below⟩
  | true =>
   have hR2 := hR.trans (if_neg (by simp))
   obtain ⟨NS, um⟩ : ∃ NS : Nat → Int, NS = fun (i : Nat) => rd sl (i : Int) := ⟨_, rfl⟩
   rw [← um] at hR2
   have HR := ae.mk hR2
   have Fa := ae.mk um
   clear hR hR2 um
   go_enter Try.func155, Try.ntmps155
   go_upto_region 3 with (first
    | ((with_reducible refine aj 1 rfl ?_); refine boxS 1 #[.int .u8 ck, .int .i64 cx, .int .i64 cy, .int .i64 cw, .int .i64 ch, .int .i64 ay, .slice A l.length cc] 26 S ?_; clear S; intro b1 eH S; have fF := (S.out.at (.head _) 0).trans rfl)
    | fail)
   clear fF
   go_cut [4] (fun v4 wc => v4 = .int .u8 ax ∧ ae (St w P [(some b1, .cells #[.int .u8 ck, .int .i64 cx, .int .i64 cy, .int .i64 cw, .int .i64 ch, .int .i64 ay, .slice A l.length cc] 26 (0, 0))] [] [(.slice A l.length cc, l)] [] wc))
   case first =>
    have fF := (S.out.at (.head _) 0).trans rfl
    go_wp2
    clear fF
    go_meet
    case rel => exact ⟨by rw [vH.out]; first | rfl | (simp [Be]; done), S⟩
   case rest =>
    clear S
    obtain ⟨rfl, S⟩ := hcut
    rename World => wx
    go_wp2
    refine iR (n := 13) (S := fun w' => St w _ _ _ _ _ w') (ds := []) (bA 13 0) (by kernel_rfl) rfl rfl (S.out.call (bC (Below.refl _ _))) (fun hHeld => ?_); refine fJ uy.ae6 uy.Yu (fun ak dZ => ?_)
    replace S := ae.mk (S.out.call (bC (Below.refl _ _)))
    generalize wx.drew = wd2 at S hHeld ⊢
    refine au 0 20 (bA 13 1) ak ?_
    refine dE 1 21 (bA 13 3) ak dZ hHeld ?_ (hv := by intro w' hs_; have kE := (hs_.at (.head _) 1).trans rfl; have kF := (hs_.at (.head _) 2).trans rfl; have kG := (hs_.at (.head _) 3).trans rfl; have kH := (hs_.at (.head _) 4).trans rfl; go_simp; with_reducible rfl)
    refine au 2 22 (bA 13 7) ak ?_
    refine au 4 24 (bA 13 23) ak ?_
    refine dE 5 25 (bA 13 55) ak dZ hHeld ?_ (hv := by intro w' hs_; have iw := (hs_.at (.head _) 6).trans rfl; go_simp; with_reducible rfl)
    refine au 6 26 (bA 13 119) ak ?_
    refine gU (i := 3) (N := some 23) (bA 13 127) rfl rfl (bY ak.out (by kernel_rfl)) (by decide) (fun K hK => ?_)
    refine fK Try.func98 (by kernel_rfl) rfl #[.agg #[.int .i64 cx, .int .i64 cy, .int .i64 cw, .int .i64 ch], .int .u8 ax] (by rfl) rfl rfl (by (try simp only [List.map_toArray, List.map_cons, List.map_nil]); first | done | rfl) ?_
    refine (BC ⟨cx, cy, cw, ch⟩ ax).mono ?_
    rintro e gV ⟨rfl, hb⟩
    refine ⟨_, rfl, ?_⟩
    replace S := ae.mk (S.out.call hb)
    clear hb
    refine hK.out _ _ S.out (fun hHeld => ?_)
    clear hK K
    refine dR 23 ?_
    refine gU (i := 7) (N := some 27) (bA 13 255) rfl rfl (bY ak.out (by kernel_rfl)) (by decide) (fun K hK => ?_)
    refine fK Try.func53 (by kernel_rfl) rfl #[.int .i64 (bM ax ⟨cx, cy, cw, ch⟩), .int .i64 (l.length : Int)] (by rfl) rfl rfl (by (try simp only [List.map_toArray, List.map_cons, List.map_nil]); first | done | rfl) ?_
    refine (A8.out _).mono ?_
    rintro e jB ⟨As, cs, rfl, h1, hb⟩
    refine ⟨_, rfl, ?_⟩
    obtain ⟨os, S1, HI1⟩ := S.out.Dc h1 hb
    replace S := ae.mk S1
    have HIS := ae.mk HI1
    clear S1 HI1 h1 hb
    refine hK.out _ _ S.out.eF (fun hHeld => ?_)
    clear hK K
    refine dR 27 ?_
    refine au 8 19 (bA 13 511) ak ?_
    refine au 9 28 (bA 13 1023) ak ?_
    refine au 10 29 (bA 13 2047) ak ?_
    refine au 11 5 (bA 13 4095) ak ?_
    refine au 12 6 (bA 13 8191) ak ?_
    refine jI (gQ ak.out (by kernel_rfl)) ?_
    clear hHeld
    have iw := (S.out.at (.tail _ (.head _)) 6).trans rfl
    go_wp2_with (first
     | ((with_reducible refine aj 34 rfl ?_); refine KF (some 34) Try.func137 S (OY l gX.out (S.out.tree _ (.head _))) ?_; clear S; intro A1 c1 lQ S; clear iw)
     | fail)
    go_loopg [37] l.length (fun gg v37 wr => ∃ (pre rest : List ai), v37 = .int .i64 (pre.length : Int) ∧ ae (pre ++ rest = l) ∧ rest.length ≤ gg ∧ ae (qJ ax NS 0 pre = false) ∧ ae (St w P [((Value.slice As sl.length cs).ownBlock, os), (some b1, .cells #[.int .u8 ck, .int .i64 cx, .int .i64 cy, .int .i64 cw, .int .i64 ch, .int .i64 ay, .slice A l.length cc] 26 (0, 0))] [(.slice A1 l.length c1, (jT ax NS 0 pre ++ rest))] [(.slice A l.length cc, l)] [] wr))
    case atStart => exact ⟨[], l, rfl, ⟨rfl⟩, Nat.le_refl _, ⟨rfl⟩, ⟨S.out⟩⟩
    case round =>
     clear S
     obtain ⟨pre, rest, rfl, HE, hgg, RY, S⟩ := hrel
     cases rest with
     | nil =>
      have hE := HE.out
      rw [List.append_nil] at hE
      have hE2 := hE.symm
      subst hE2
      clear hE HE hgg
      have hlt : ¬ ((l.length : Int) < (l.length : Int)) := by omega
      go_wp2
      refine bodyPost_ret (results_tmp2 rfl _ _ _) rfl ?_
      rw [HR.out, if_neg (by rw [RY.out]; simp)]
      have hV := S.out.free.AO (b0 := w.heap.size) (.head _)
      rw [List.append_nil] at hV
      simp only [LG, uZ]
      exact ⟨_, _, rfl, hV, S.out.below⟩
     | cons k rest =>
      have hk : k ∈ l := by rw [← HE.out]; simp
      have hlt : (pre.length : Int) < (l.length : Int) := by rw [← HE.out, List.length_append, List.length_cons]; omega
      have hw1 : wrap64 ((pre.length : Int) + 1) = ((pre ++ [k]).length : Int) := by have := gX.out; rw [List.length_append, List.length_singleton]; unfold wrap64; omega
      have HW1 := ae.mk hw1
      have jh := ae.mk hgg
      have tq := ae.mk (FH.out k hk)
      have xx := ae.mk (show sz (aX k 0 0) ≤ 1048576 by rw [(Em _).1 _ (Nat.le_refl _)]; have := FH.out k hk; omega)
      have tC := ae.mk (show (pre.length : Int) < ((jT ax NS 0 pre ++ k :: rest).length : Int) by rw [List.length_append, uZ, List.length_cons]; omega)
      obtain ⟨g, cap, ev, _⟩ := Kd.yU S.out.tK (by have := tC.out; omega)
      injection ev with e1 e2 e3
      subst e1
      clear e2 e3 hk hgg hw1
      obtain ⟨ua, uc, S1, hcell⟩ := S.out.IG (pre.length : Int) (Int.natCast_nonneg _) tC.out
      have hrd : aG (jT ax NS 0 pre ++ k :: rest) (pre.length : Int) = k := aa1 ax NS pre k rest
      rw [hrd] at S1 hcell
      replace S := ae.mk S1
      have x0 : wr.cell? ⟨g, pre.length * 7, none⟩ = some (.int .u8 k.f0) := hcell 0 _ rfl
      have x1 : wr.cell? ⟨g, pre.length * 7 + 1, none⟩ = some (.int .i64 k.f1.f0) := hcell 1 _ rfl
      have x2 : wr.cell? ⟨g, pre.length * 7 + 2, none⟩ = some (.int .i64 k.f1.f1) := hcell 2 _ rfl
      have x3 : wr.cell? ⟨g, pre.length * 7 + 3, none⟩ = some (.int .i64 k.f1.f2) := hcell 3 _ rfl
      have x4 : wr.cell? ⟨g, pre.length * 7 + 4, none⟩ = some (.int .i64 k.f1.f3) := hcell 4 _ rfl
      have x5 : wr.cell? ⟨g, pre.length * 7 + 5, none⟩ = some (.int .i64 k.f2) := hcell 5 _ rfl
      have x6 : wr.cell? ⟨g, pre.length * 7 + 6, none⟩ = some (.slice ua k.f3.length uc) := hcell 6 _ rfl
      clear S1 hcell hrd
      have hlt2 : (pre.length : Int) < (sl.length : Int) := by rw [yT.out trivial]; exact hlt
      obtain ⟨SH, ea, _⟩ := Kd.iq (Kd.dn (HIS.out _ (S.out.blk _ (.head _)))).2.2 (pre.length : Int) (Int.natCast_nonneg _) hlt2
      subst ea
      have VK := ae.mk hlt2
      obtain ⟨ni, hni⟩ : ∃ ni, ni = rd sl (pre.length : Int) := ⟨_, rfl⟩
      have aeq : ni = NS pre.length := by rw [hni, Fa.out]
      have HNI := ae.mk aeq
      have GK := ae.mk (show rd sl (pre.length : Int) = NS pre.length by rw [Fa.out])
      clear hni aeq ni HNI
      go_wp2_with (first
       | ((with_reducible refine aj 9 rfl ?_); refine boxS 9 #[.int .u8 0, .int .i64 0, .int .i64 0, .int .i64 0, .int .i64 0, .int .i64 0, .slice none 0 0] 26 S ?_; clear S; intro b9 rG S; clear x0 x1 x2 x3 x4 x5 x6)
       | ((with_reducible refine dB 26 (.tmp 9) (.tmp 41) rfl ?_); refine gI 26 9 41 #[.int .u8 k.f0, .int .i64 k.f1.f0, .int .i64 k.f1.f1, .int .i64 k.f1.f2, .int .i64 k.f1.f3, .int .i64 k.f2, .slice ua k.f3.length uc] 0 7 S ?_; clear S; intro vG S)
       | fail)
      refine iR (n := 19) (S := fun w' => St w _ _ _ _ _ w') (ds := [17]) (bA 19 0) (by kernel_rfl) rfl rfl (S.out.call (bC (Below.refl _ _))) (fun hHeld => ?_); refine fJ vz.Rt vz.Md (fun ak dZ => ?_)
      replace S := ae.mk (S.out.call (bC (Below.refl _ _)))
      generalize vG.drew = wd8 at S hHeld ⊢
      refine dE 0 43 (bA 19 1) ak dZ hHeld ?_ (hv := by intro w' hs_; have nY := (hs_.at (.head _) 0).trans rfl; have sH := (hs_.at (.head _) 1).trans rfl; have oU := (hs_.at (.head _) 2).trans rfl; have sK := (hs_.at (.head _) 3).trans rfl; have yL := (hs_.at (.head _) 4).trans rfl; have zU := (hs_.at (.head _) 5).trans rfl; have zV := (hs_.at (.head _) 6).trans rfl; go_simp; with_reducible rfl)
      refine au 2 45 (bA 19 5) ak ?_
      refine au 3 46 (bA 19 13) ak ?_
      refine au 4 47 (bA 19 29) ak ?_
      refine au 5 48 (bA 19 61) ak ?_
      refine dE 6 49 (bA 19 125) ak dZ hHeld ?_ (hv := by intro w' hs_; have xs := BH HIS.out (hs_.blk _ (.tail _ (.head _))) pre.length VK.out; go_simp; with_reducible rfl)
      refine au 7 50 (bA 19 253) ak ?_
      refine dE 8 51 (bA 19 509) ak dZ hHeld ?_ (hv := by intro w' hs_; have sH := (hs_.at (.head _) 1).trans rfl; have oU := (hs_.at (.head _) 2).trans rfl; have sK := (hs_.at (.head _) 3).trans rfl; have yL := (hs_.at (.head _) 4).trans rfl; go_simp; with_reducible rfl)
      refine au 9 52 (bA 19 1021) ak ?_
      refine EU (σ := Option Addr × Nat × Option Addr × Nat × Nat) 2 (bA 19 131071) (fun s_ => [(44, .agg #[.int .u8 ((aX k 0 0).f0), .int .i64 ((aX k 0 0).f1.f0), .int .i64 ((aX k 0 0).f1.f1), .int .i64 ((aX k 0 0).f1.f2), .int .i64 ((aX k 0 0).f1.f3), .int .i64 ((aX k 0 0).f2), .slice s_.1 ((aX k 0 0).f3.length) s_.2.1]), (53, .int .i64 (bM ax ⟨k.f1.f0, k.f1.f1, k.f1.f2, k.f1.f3⟩)), (54, .int .i64 (wrap64 ((rd sl (pre.length : Int)) - (bM ax ⟨k.f1.f0, k.f1.f1, k.f1.f2, k.f1.f3⟩)))), (55, .tuple #[.agg #[.int .u8 ((dK ax k (NS pre.length)).f0), .int .i64 ((dK ax k (NS pre.length)).f1.f0), .int .i64 ((dK ax k (NS pre.length)).f1.f1), .int .i64 ((dK ax k (NS pre.length)).f1.f2), .int .i64 ((dK ax k (NS pre.length)).f1.f3), .int .i64 ((dK ax k (NS pre.length)).f2), .slice s_.2.2.1 ((dK ax k (NS pre.length)).f3.length) s_.2.2.2.1], .int .i64 (qI ax k (NS pre.length))]), (42, .tuple #[.agg #[.int .u8 ((dK ax k (NS pre.length)).f0), .int .i64 ((dK ax k (NS pre.length)).f1.f0), .int .i64 ((dK ax k (NS pre.length)).f1.f1), .int .i64 ((dK ax k (NS pre.length)).f1.f2), .int .i64 ((dK ax k (NS pre.length)).f1.f3), .int .i64 ((dK ax k (NS pre.length)).f2), .slice s_.2.2.1 ((dK ax k (NS pre.length)).f3.length) s_.2.2.2.1], .int .i64 (qI ax k (NS pre.length))]), (56, .agg #[.int .u8 ((dK ax k (NS pre.length)).f0), .int .i64 ((dK ax k (NS pre.length)).f1.f0), .int .i64 ((dK ax k (NS pre.length)).f1.f1), .int .i64 ((dK ax k (NS pre.length)).f1.f2), .int .i64 ((dK ax k (NS pre.length)).f1.f3), .int .i64 ((dK ax k (NS pre.length)).f2), .slice s_.2.2.1 ((dK ax k (NS pre.length)).f3.length) s_.2.2.2.1]), (57, .int .i64 (qI ax k (NS pre.length))), (10, .pointer (some ⟨s_.2.2.2.2, 0, none⟩))]) (fun s_ w' => St w P [(some s_.2.2.2.2, .cells #[.int .u8 0, .int .i64 0, .int .i64 0, .int .i64 0, .int .i64 0, .int .i64 0, .slice none 0 0] 26 (0, 0)), (some b9, .cells #[.int .u8 k.f0, .int .i64 k.f1.f0, .int .i64 k.f1.f1, .int .i64 k.f1.f2, .int .i64 k.f1.f3, .int .i64 k.f2, .slice ua k.f3.length uc] 26 (0, 0)), ((Value.slice (some SH) sl.length cs).ownBlock, os), (some b1, .cells #[.int .u8 ck, .int .i64 cx, .int .i64 cy, .int .i64 cw, .int .i64 ch, .int .i64 ay, .slice A l.length cc] 26 (0, 0))] [(.slice (some ⟨g, 0, none⟩) l.length c1, (jT ax NS 0 pre ++ k :: rest))] [(.slice s_.2.2.1 ((dK ax k (NS pre.length)).f3.length) s_.2.2.2.1, (dK ax k (NS pre.length)).f3), (.slice s_.1 ((aX k 0 0).f3.length) s_.2.1, (aX k 0 0).f3), (.slice ua k.f3.length uc, k.f3), (.slice A l.length cc, l)] [] w') ?_ ?_
      rotate_left
      ·intro mi
       refine AQ (i := 1) (j := 16) (Ni := some 44) (Nj := some 10) (bA 19 1023) (bA 19 66557) rfl rfl rfl rfl (uC ak.out (by kernel_rfl)) (by decide) (by decide) (fun K hK => ?_) (fun K hK => ?_)
       ·skip
        refine fK Try.func66 (by kernel_rfl) rfl #[.agg #[.int .u8 k.f0, .int .i64 k.f1.f0, .int .i64 k.f1.f1, .int .i64 k.f1.f2, .int .i64 k.f1.f3, .int .i64 k.f2, .slice ua k.f3.length uc], .int .i64 0, .int .i64 0] (by rfl) rfl rfl (by (try simp only [List.map_toArray, List.map_cons, List.map_nil]); first | done | rfl) ?_
        refine (KG k 0 0 tq.out (S.out.tree _ (.head _))).mono ?_
        rintro e BF ⟨Dl, AA, rfl, h1, hb⟩
        refine ⟨_, rfl, ?_⟩
        replace S := ae.mk (S.out.res (Kd.rM (base' := 0) h1) hb)
        clear h1 hb
        refine hK.out _ _ S.out.bW (fun hHeld => ?_)
        clear hK K
        refine dR 44 ?_
        refine AQ (i := 10) (j := 16) (Ni := some 53) (Nj := some 10) (bA 19 2047) (bA 19 66559) rfl rfl rfl rfl (uC ak.out (by kernel_rfl)) (by decide) (by decide) (fun K hK => ?_) (fun K hK => ?_)
        ·skip
         refine fK Try.func98 (by kernel_rfl) rfl #[.agg #[.int .i64 k.f1.f0, .int .i64 k.f1.f1, .int .i64 k.f1.f2, .int .i64 k.f1.f3], .int .u8 ax] (by rfl) rfl rfl (by (try simp only [List.map_toArray, List.map_cons, List.map_nil]); first | done | rfl) ?_
         refine (BC ⟨k.f1.f0, k.f1.f1, k.f1.f2, k.f1.f3⟩ ax).mono ?_
         rintro e zI ⟨rfl, hb⟩
         refine ⟨_, rfl, ?_⟩
         replace S := ae.mk (S.out.call hb)
         clear hb
         refine hK.out _ _ S.out.bW (fun hHeld => ?_)
         clear hK K
         refine dR 53 ?_
         refine au 11 54 (bA 19 4095) ak ?_
         refine AQ (i := 12) (j := 16) (Ni := some 55) (Nj := some 10) (bA 19 8191) (bA 19 69631) rfl rfl rfl rfl (uC ak.out (by kernel_rfl)) (by decide) (by decide) (fun K hK => ?_) (fun K hK => ?_)
         ·skip
          refine fK Try.func183 (by kernel_rfl) rfl #[.agg #[.int .u8 ((aX k 0 0).f0), .int .i64 ((aX k 0 0).f1.f0), .int .i64 ((aX k 0 0).f1.f1), .int .i64 ((aX k 0 0).f1.f2), .int .i64 ((aX k 0 0).f1.f3), .int .i64 ((aX k 0 0).f2), .slice Dl ((aX k 0 0).f3.length) AA], .int .u8 ax, .int .i64 (wrap64 ((rd sl (pre.length : Int)) - (bM ax ⟨k.f1.f0, k.f1.f1, k.f1.f2, k.f1.f3⟩)))] (by rfl) rfl rfl (by (try simp only [List.map_toArray, List.map_cons, List.map_nil]); first | done | rfl) ?_
          refine (EW GK.out (zQ ax (aX k 0 0) xx.out _ _ _ _ _ (dO (S.out.tree _ (.head _))))).mono ?_
          rintro e yB ⟨AX, wU, rfl, h1, hb⟩
          refine ⟨_, rfl, ?_⟩
          replace S := ae.mk (S.out.res (Kd.rM (base' := 0) h1) hb)
          clear h1 hb
          refine hK.out _ _ S.out.bW.bW (fun hHeld => ?_)
          clear hK K
          refine dR 55 ?_
          refine au 13 42 (bA 19 16383) ak ?_
          refine au 14 56 (bA 19 32767) ak ?_
          refine au 15 57 (bA 19 65535) ak ?_
          refine gU (i := 16) (N := some 10) (bA 19 131071) rfl rfl (bY ak.out (by kernel_rfl)) (by decide) (fun K hK => ?_)
          refine kL ?hg (N := 10) ?hd (cs := #[.int .u8 0, .int .i64 0, .int .i64 0, .int .i64 0, .int .i64 0, .int .i64 0, .slice none 0 0]) (t := 26) ?hr ?_; (case hd => rfl); (case hg => rfl); (case hr => first | (go_simp; done) | (go_simp; rfl))
          intro b10 hg AU hbox hb
          replace S := ae.mk (S.out.box hg hbox hb)
          clear hg hbox hb
          refine hK.out _ _ S.out.eF.bW.bW (fun hHeld => ?_)
          clear hK K
          refine dR 10 ?_
          exact mr (by simp only [jM, Act.put, List.setIfInBounds_toArray, List.set_cons_zero, List.set_cons_succ] <;> rfl) (mi (Dl, AA, AX, wU, b10) _ S.out)
         ·skip
          refine kL ?hg (N := 10) ?hd (cs := #[.int .u8 0, .int .i64 0, .int .i64 0, .int .i64 0, .int .i64 0, .int .i64 0, .slice none 0 0]) (t := 26) ?hr ?_; (case hd => rfl); (case hg => rfl); (case hr => first | (go_simp; done) | (go_simp; rfl))
          intro b10 hg zJ hbox hb
          replace S := ae.mk (S.out.box hg hbox hb)
          clear hg hbox hb
          refine hK.out _ _ S.out.eF.bW (fun hHeld => ?_)
          clear hK K
          refine dR 10 ?_
          refine gU (i := 12) (N := some 55) (bA 19 73727) rfl rfl (bY ak.out (by kernel_rfl)) (by decide) (fun K hK => ?_)
          refine fK Try.func183 (by kernel_rfl) rfl #[.agg #[.int .u8 ((aX k 0 0).f0), .int .i64 ((aX k 0 0).f1.f0), .int .i64 ((aX k 0 0).f1.f1), .int .i64 ((aX k 0 0).f1.f2), .int .i64 ((aX k 0 0).f1.f3), .int .i64 ((aX k 0 0).f2), .slice Dl ((aX k 0 0).f3.length) AA], .int .u8 ax, .int .i64 (wrap64 ((rd sl (pre.length : Int)) - (bM ax ⟨k.f1.f0, k.f1.f1, k.f1.f2, k.f1.f3⟩)))] (by rfl) rfl rfl (by (try simp only [List.map_toArray, List.map_cons, List.map_nil]); first | done | rfl) ?_
          refine (EW GK.out (zQ ax (aX k 0 0) xx.out _ _ _ _ _ (dO (S.out.tree _ (.head _))))).mono ?_
          rintro e Gu ⟨AX, wU, rfl, h1, hb⟩
          refine ⟨_, rfl, ?_⟩
          replace S := ae.mk (S.out.res (Kd.rM (base' := 0) h1) hb)
          clear h1 hb
          refine hK.out _ _ S.out.eF.bW.bW (fun hHeld => ?_)
          clear hK K
          refine dR 55 ?_
          refine au 13 42 (bA 19 81919) ak ?_
          refine au 14 56 (bA 19 98303) ak ?_
          refine au 15 57 (bA 19 131071) ak ?_
          exact mr (by simp only [jM, Act.put, List.setIfInBounds_toArray, List.set_cons_zero, List.set_cons_succ] <;> rfl) (mi (Dl, AA, AX, wU, b10) _ S.out)
        ·skip
         refine kL ?hg (N := 10) ?hd (cs := #[.int .u8 0, .int .i64 0, .int .i64 0, .int .i64 0, .int .i64 0, .int .i64 0, .slice none 0 0]) (t := 26) ?hr ?_; (case hd => rfl); (case hg => rfl); (case hr => first | (go_simp; done) | (go_simp; rfl))
         intro b10 hg Gv hbox hb
         replace S := ae.mk (S.out.box hg hbox hb)
         clear hg hbox hb
         refine hK.out _ _ S.out.eF.bW (fun hHeld => ?_)
         clear hK K
         refine dR 10 ?_
         refine gU (i := 10) (N := some 53) (bA 19 67583) rfl rfl (bY ak.out (by kernel_rfl)) (by decide) (fun K hK => ?_)
         refine fK Try.func98 (by kernel_rfl) rfl #[.agg #[.int .i64 k.f1.f0, .int .i64 k.f1.f1, .int .i64 k.f1.f2, .int .i64 k.f1.f3], .int .u8 ax] (by rfl) rfl rfl (by (try simp only [List.map_toArray, List.map_cons, List.map_nil]); first | done | rfl) ?_
         refine (BC ⟨k.f1.f0, k.f1.f1, k.f1.f2, k.f1.f3⟩ ax).mono ?_
         rintro e Ov ⟨rfl, hb⟩
         refine ⟨_, rfl, ?_⟩
         replace S := ae.mk (S.out.call hb)
         clear hb
         refine hK.out _ _ S.out.eF.bW (fun hHeld => ?_)
         clear hK K
         refine dR 53 ?_
         refine au 11 54 (bA 19 69631) ak ?_
         refine gU (i := 12) (N := some 55) (bA 19 73727) rfl rfl (bY ak.out (by kernel_rfl)) (by decide) (fun K hK => ?_)
         refine fK Try.func183 (by kernel_rfl) rfl #[.agg #[.int .u8 ((aX k 0 0).f0), .int .i64 ((aX k 0 0).f1.f0), .int .i64 ((aX k 0 0).f1.f1), .int .i64 ((aX k 0 0).f1.f2), .int .i64 ((aX k 0 0).f1.f3), .int .i64 ((aX k 0 0).f2), .slice Dl ((aX k 0 0).f3.length) AA], .int .u8 ax, .int .i64 (wrap64 ((rd sl (pre.length : Int)) - (bM ax ⟨k.f1.f0, k.f1.f1, k.f1.f2, k.f1.f3⟩)))] (by rfl) rfl rfl (by (try simp only [List.map_toArray, List.map_cons, List.map_nil]); first | done | rfl) ?_
         refine (EW GK.out (zQ ax (aX k 0 0) xx.out _ _ _ _ _ (dO (S.out.tree _ (.head _))))).mono ?_
         rintro e Rz ⟨AX, wU, rfl, h1, hb⟩
         refine ⟨_, rfl, ?_⟩
         replace S := ae.mk (S.out.res (Kd.rM (base' := 0) h1) hb)
         clear h1 hb
         refine hK.out _ _ S.out.eF.bW.bW (fun hHeld => ?_)
         clear hK K
         refine dR 55 ?_
         refine au 13 42 (bA 19 81919) ak ?_
         refine au 14 56 (bA 19 98303) ak ?_
         refine au 15 57 (bA 19 131071) ak ?_
         exact mr (by simp only [jM, Act.put, List.setIfInBounds_toArray, List.set_cons_zero, List.set_cons_succ] <;> rfl) (mi (Dl, AA, AX, wU, b10) _ S.out)
       ·skip
        refine kL ?hg (N := 10) ?hd (cs := #[.int .u8 0, .int .i64 0, .int .i64 0, .int .i64 0, .int .i64 0, .int .i64 0, .slice none 0 0]) (t := 26) ?hr ?_; (case hd => rfl); (case hg => rfl); (case hr => first | (go_simp; done) | (go_simp; rfl))
        intro b10 hg RD hbox hb
        replace S := ae.mk (S.out.box hg hbox hb)
        clear hg hbox hb
        refine hK.out _ _ S.out.eF (fun hHeld => ?_)
        clear hK K
        refine dR 10 ?_
        refine gU (i := 1) (N := some 44) (bA 19 66559) rfl rfl (bY ak.out (by kernel_rfl)) (by decide) (fun K hK => ?_)
        refine fK Try.func66 (by kernel_rfl) rfl #[.agg #[.int .u8 k.f0, .int .i64 k.f1.f0, .int .i64 k.f1.f1, .int .i64 k.f1.f2, .int .i64 k.f1.f3, .int .i64 k.f2, .slice ua k.f3.length uc], .int .i64 0, .int .i64 0] (by rfl) rfl rfl (by (try simp only [List.map_toArray, List.map_cons, List.map_nil]); first | done | rfl) ?_
        refine (KG k 0 0 tq.out (S.out.tree _ (.head _))).mono ?_
        rintro e ahS ⟨Dl, AA, rfl, h1, hb⟩
        refine ⟨_, rfl, ?_⟩
        replace S := ae.mk (S.out.res (Kd.rM (base' := 0) h1) hb)
        clear h1 hb
        refine hK.out _ _ S.out.eF.bW (fun hHeld => ?_)
        clear hK K
        refine dR 44 ?_
        refine gU (i := 10) (N := some 53) (bA 19 67583) rfl rfl (bY ak.out (by kernel_rfl)) (by decide) (fun K hK => ?_)
        refine fK Try.func98 (by kernel_rfl) rfl #[.agg #[.int .i64 k.f1.f0, .int .i64 k.f1.f1, .int .i64 k.f1.f2, .int .i64 k.f1.f3], .int .u8 ax] (by rfl) rfl rfl (by (try simp only [List.map_toArray, List.map_cons, List.map_nil]); first | done | rfl) ?_
        refine (BC ⟨k.f1.f0, k.f1.f1, k.f1.f2, k.f1.f3⟩ ax).mono ?_
        rintro e alU ⟨rfl, hb⟩
        refine ⟨_, rfl, ?_⟩
        replace S := ae.mk (S.out.call hb)
        clear hb
        refine hK.out _ _ S.out.eF.bW (fun hHeld => ?_)
        clear hK K
        refine dR 53 ?_
        refine au 11 54 (bA 19 69631) ak ?_
        refine gU (i := 12) (N := some 55) (bA 19 73727) rfl rfl (bY ak.out (by kernel_rfl)) (by decide) (fun K hK => ?_)
        refine fK Try.func183 (by kernel_rfl) rfl #[.agg #[.int .u8 ((aX k 0 0).f0), .int .i64 ((aX k 0 0).f1.f0), .int .i64 ((aX k 0 0).f1.f1), .int .i64 ((aX k 0 0).f1.f2), .int .i64 ((aX k 0 0).f1.f3), .int .i64 ((aX k 0 0).f2), .slice Dl ((aX k 0 0).f3.length) AA], .int .u8 ax, .int .i64 (wrap64 ((rd sl (pre.length : Int)) - (bM ax ⟨k.f1.f0, k.f1.f1, k.f1.f2, k.f1.f3⟩)))] (by rfl) rfl rfl (by (try simp only [List.map_toArray, List.map_cons, List.map_nil]); first | done | rfl) ?_
        refine (EW GK.out (zQ ax (aX k 0 0) xx.out _ _ _ _ _ (dO (S.out.tree _ (.head _))))).mono ?_
        rintro e ahT ⟨AX, wU, rfl, h1, hb⟩
        refine ⟨_, rfl, ?_⟩
        replace S := ae.mk (S.out.res (Kd.rM (base' := 0) h1) hb)
        clear h1 hb
        refine hK.out _ _ S.out.eF.bW.bW (fun hHeld => ?_)
        clear hK K
        refine dR 55 ?_
        refine au 13 42 (bA 19 81919) ak ?_
        refine au 14 56 (bA 19 98303) ak ?_
        refine au 15 57 (bA 19 131071) ak ?_
        exact mr (by simp only [jM, Act.put, List.setIfInBounds_toArray, List.set_cons_zero, List.set_cons_succ] <;> rfl) (mi (Dl, AA, AX, wU, b10) _ S.out)
      rintro ⟨Dl, AA, AX, wU, b10⟩ al0 S1
      simp only [jM, Act.put, List.setIfInBounds_toArray, List.set_cons_zero, List.set_cons_succ]
      replace S := ae.mk S1
      clear S1 hHeld
      have hHeld := S.out.eF.bW.bW
      refine mO (i := 17) (N := none) (bA 19 262143) rfl rfl (bY ak.out (by kernel_rfl)) (by decide) (fun K hK => ?_)
      refine oJ 0 rfl 26 (.tmp 10) (.tmp 56) rfl #[.int .u8 ((dK ax k (NS pre.length)).f0), .int .i64 ((dK ax k (NS pre.length)).f1.f0), .int .i64 ((dK ax k (NS pre.length)).f1.f1), .int .i64 ((dK ax k (NS pre.length)).f1.f2), .int .i64 ((dK ax k (NS pre.length)).f1.f3), .int .i64 ((dK ax k (NS pre.length)).f2), .slice AX ((dK ax k (NS pre.length)).f3.length) wU] (j := 0) (u := .agg #[.int .u8 ((dK ax k (NS pre.length)).f0), .int .i64 ((dK ax k (NS pre.length)).f1.f0), .int .i64 ((dK ax k (NS pre.length)).f1.f1), .int .i64 ((dK ax k (NS pre.length)).f1.f2), .int .i64 ((dK ax k (NS pre.length)).f1.f3), .int .i64 ((dK ax k (NS pre.length)).f2), .slice AX ((dK ax k (NS pre.length)).f3.length) wU]) (bP := [.int .u8 ((dK ax k (NS pre.length)).f0), .int .i64 ((dK ax k (NS pre.length)).f1.f0), .int .i64 ((dK ax k (NS pre.length)).f1.f1), .int .i64 ((dK ax k (NS pre.length)).f1.f2), .int .i64 ((dK ax k (NS pre.length)).f1.f3), .int .i64 ((dK ax k (NS pre.length)).f2), .slice AX ((dK ax k (NS pre.length)).f3.length) wU]) S.out (by rfl) rfl rfl rfl rfl (by kernel_rfl) (by simp [Value.oneCell']) (by first | decide | simp) rfl ?_
      intro ahU S1
      simp only [List.set_cons_zero, List.set_cons_succ] at S1
      replace S := ae.mk S1
      clear S1
      refine hK.out _ _ ?_
      clear hK K
      refine au 18 11 (bA 19 524287) ak ?_
      refine jI (gQ ak.out (by kernel_rfl)) ?_
      clear hHeld
      by_cases hkn : (qI ax k (NS pre.length)) = 0
      ·have hkb2 : ((qI ax k (NS pre.length)) != 0) = false := by rw [hkn]; rfl
       have La := ae.mk hkn
       have hkd : decide ((qI ax k (NS pre.length)) = 0) = true := decide_eq_true hkn
       obtain ⟨MG, MH, MI, MJ, MK, ML, MM⟩ := St.eY S (.head _)
       go_wp2_with (first
        | ((with_reducible refine lG (.store 26 (.tmp 63) (.tmp 62)) rfl ?_); go_loud (refine Vg (pre.length : Int) (dK ax k (NS pre.length)) (.tmp 63) (.tmp 62) rfl S.out (Int.natCast_nonneg _) tC.out ?sA ?sX (by kernel_rfl) (.head _) rfl rfl ?_; (case sA => first | rfl | (go_simp; rfl)); (case sX => rfl); intro alW S1; rw [show (jT ax NS 0 pre ++ k :: rest).set (pre.length : Int).toNat (dK ax k (NS pre.length)) = jT ax NS 0 (pre ++ [k]) ++ rest from Xa ax NS pre k rest] at S1; replace S := ae.mk S1; clear S1); clear MG MH MI MJ MK ML MM)
        | fail)
       have hw1 := HW1.out
       go_wp2
       go_roundg rest.length
       case measure => exact Nat.lt_of_lt_of_le (Nat.lt_succ_self _) jh.out
       case rel => exact ⟨pre ++ [k], rest, (by rw [hw1]), ⟨by rw [List.append_assoc]; exact HE.out⟩, Nat.le_refl _, ⟨by rw [zZ, RY.out]; simp only [qJ, Nat.zero_add, Bool.false_or, Bool.or_false]; rw [La.out]; rfl⟩, ⟨S.out.eF.eF.bW.bW.bW⟩⟩
      ·have hkb2 : ((qI ax k (NS pre.length)) != 0) = true := bne_iff_ne.mpr hkn
       have La := ae.mk hkb2
       have hkd : decide ((qI ax k (NS pre.length)) = 0) = false := decide_eq_false hkn
       go_wp2
       refine bodyPost_ret (results_tmp2 rfl _ _ _) rfl ?_
       rw [HR.out, if_pos (by rw [← HE.out, zZ]; simp only [qJ, Nat.zero_add]; rw [La.out]; simp)]
       exact ⟨none, 0, rfl, Kd.GX _ _ _ _ _, S.out.below⟩
theorem UC {W : World} {P : Nat → Prop} {A : Option Addr} {cc : Nat} (x : ai) (L : List ai) (en : Int) (h : jX x = (L, en)) (hz : sz x ≤ 100000) (hV : Kd.V k26 26 W W.heap.size P (.slice A x.f3.length cc) x.f3) :
  Calls Try.prog 155 #[.agg #[.int .u8 x.f0, .int .i64 x.f1.f0, .int .i64 x.f1.f1, .int .i64 x.f1.f2, .int .i64 x.f1.f3, .int .i64 x.f2, .slice A x.f3.length cc]] W (LG W P L en) := by
 have h2 := aa0 x hz P A cc W hV
 rw [h] at h2
 exact h2
theorem Yq (c : ai) (hz : sz c ≤ 1048576) (path : List Int) (hp : path.length ≤ 1048576) (P : Nat → Prop) (A : Option Addr) (cc : Nat) (B : Option Addr) (cb : Nat) (w : World) (hv : Kd.V k26 26 w w.heap.size P (.slice A c.f3.length cc) c.f3) (hi : Kd.C (Kd.int .i64) w B path.length path) (hb : path.length ≤ cb) :
  Calls Try.prog 109 #[.agg #[.int .u8 c.f0, .int .i64 c.f1.f0, .int .i64 c.f1.f1, .int .i64 c.f1.f2, .int .i64 c.f1.f3, .int .i64 c.f2, .slice A c.f3.length cc], .slice B path.length cb] w (pK w P (mW c path).1 (mW c path).2) := by
 have S := ae.mk (St.start (ts := [(.slice A c.f3.length cc, c.f3)]) (b0 := w.heap.size) (w := w) (P := P) (fun t ht => by rw [List.mem_singleton.1 ht]; exact hv))
 have HZ := ae.mk hz
 have tC := ae.mk hp
 have HI := ae.mk hi
 have LI := ae.mk hb
 have hs := fun h => oZ (qA (c := c) h)
 obtain ⟨ck, ⟨cx, cy, cw, ch⟩, ay, l⟩ := c
 simp only [] at S ⊢
 clear hv hz hp hi hb
 cases ht : eP ⟨ck, ⟨cx, cy, cw, ch⟩, ay, l⟩ with
 | false =>
  have HQ := ae.mk (at_bad (path := path) ht)
  have HT := ae.mk ht
  clear ht hs
  go_enter Try.func109, Try.ntmps109
  go_wp2_with (first
   | ((with_reducible refine aj 2 rfl ?_); refine boxS 2 #[.int .u8 ck, .int .i64 cx, .int .i64 cy, .int .i64 cw, .int .i64 ch, .int .i64 ay, .slice A l.length cc] 26 S ?_; clear S; intro b2 eH S)
   | ((with_reducible refine aj 4 rfl ?_); refine boxS 4 #[.int .u8 0, .int .i64 0, .int .i64 0, .int .i64 0, .int .i64 0, .int .i64 0, .slice none 0 0] 26 S ?_; clear S; intro b4 fG S; obtain ⟨bQ, bU, bV, cZ, df, di, bu⟩ := St.eY S (.tail _ (.head _)))
   | ((with_reducible refine aC (N := 13) rfl ?_); refine oI (N := 13) rfl rfl ⟨ck, ⟨cx, cy, cw, ch⟩, ay, l⟩ S.out (S.out.tree _ (.head _)) ?hr ?_; (case hr => first | (go_simp; done) | (go_simp; rfl)); intro VD V_ gV S1 h1 h2; replace S := ae.mk S1; have nK := ae.mk h1; have qO := ae.mk h2; clear S1 h1 h2; clear bQ bU bV cZ df di bu)
   | ((with_reducible refine aj 14 rfl ?_); refine dF (some 14) Try.func148 S (jG HT.out (oL ⟨ck, ⟨cx, cy, cw, ch⟩, ay, l⟩ HZ.out qO.out nK.out)) ?_; clear S; intro jB S)
   | ((with_reducible refine dB 26 (.tmp 4) (.tmp 16) rfl ?_); refine gI 26 4 16 #[.int .u8 0, .int .i64 0, .int .i64 0, .int .i64 0, .int .i64 0, .int .i64 0, .slice none 0 0] 0 7 S ?_; clear S; intro lQ S)
   | fail)
  rw [HQ.out]
  refine bodyPost_ret (bK rfl _ _ b4 26 #[.int .u8 0, .int .i64 0, .int .i64 0, .int .i64 0, .int .i64 0, .int .i64 0, .slice none 0 0] (0, 0) _ rfl (S.out.blk _ (.head _) _ rfl) Try.underlying26 rfl (by kernel_rfl)) rfl ?_
  exact ⟨_, _, rfl, Kd.kN _ _ _ _ _, S.out.below⟩
 | true =>
  have hs2 := hs ht
  have HT := ae.mk ht
  have GM := ae.mk (show sz ⟨ck, ⟨cx, cy, cw, ch⟩, ay, l⟩ ≤ 1000000 by omega)
  clear ht hs
  cases hx : rP ⟨ck, ⟨cx, cy, cw, ch⟩, ay, l⟩ path with
  | none =>
   have HQ := ae.mk (Qu HT.out hx)
   have HAT := ae.mk hx
   clear hx hs2
   go_enter Try.func109, Try.ntmps109
   go_wp2_with (first
    | ((with_reducible refine aj 2 rfl ?_); refine boxS 2 #[.int .u8 ck, .int .i64 cx, .int .i64 cy, .int .i64 cw, .int .i64 ch, .int .i64 ay, .slice A l.length cc] 26 S ?_; clear S; intro b2 eH S)
    | ((with_reducible refine aj 4 rfl ?_); refine boxS 4 #[.int .u8 0, .int .i64 0, .int .i64 0, .int .i64 0, .int .i64 0, .int .i64 0, .slice none 0 0] 26 S ?_; clear S; intro b4 fG S; obtain ⟨bQ, bU, bV, cZ, df, di, bu⟩ := St.eY S (.tail _ (.head _)))
    | ((with_reducible refine aC (N := 13) rfl ?_); refine oI (N := 13) rfl rfl ⟨ck, ⟨cx, cy, cw, ch⟩, ay, l⟩ S.out (S.out.tree _ (.head _)) ?hr ?_; (case hr => first | (go_simp; done) | (go_simp; rfl)); intro VD V_ gV S1 h1 h2; replace S := ae.mk S1; have nK := ae.mk h1; have qO := ae.mk h2; clear S1 h1 h2; clear bQ bU bV cZ df di bu)
    | ((with_reducible refine aj 14 rfl ?_); refine dF (some 14) Try.func148 S (jG HT.out (oL ⟨ck, ⟨cx, cy, cw, ch⟩, ay, l⟩ HZ.out qO.out nK.out)) ?_; clear S; intro jB S; obtain ⟨bQ, bU, bV, cZ, df, di, bu⟩ := St.eY S (.tail _ (.head _)))
    | ((with_reducible refine aj 20 rfl ?_); refine kR (some 20) Try.func91 (Zi ⟨ck, ⟨cx, cy, cw, ch⟩, ay, l⟩ path HAT.out tC.out GM.out (S.out.tree _ (.head _)) (Kd.fC HI.out S.out.below) LI.out) ?_; rintro e lQ ⟨Ax, zX, rfl, h1, hb⟩; refine ⟨_, rfl, ?_⟩; replace S := ae.mk (S.out.res (Kd.rM (base' := 0) h1) hb); clear h1 hb; clear bQ bU bV cZ df di bu)
    | ((with_reducible refine aj 6 rfl ?_); refine boxS 6 #[.int .u8 0, .int .i64 0, .int .i64 0, .int .i64 0, .int .i64 0, .int .i64 0, .slice none 0 0] 26 S ?_; clear S; intro b6 rG S)
    | ((with_reducible refine dB 26 (.tmp 6) (.tmp 21) rfl ?_); refine gI 26 6 21 #[.int .u8 0, .int .i64 0, .int .i64 0, .int .i64 0, .int .i64 0, .int .i64 0, .slice Ax 0 zX] 0 7 S ?_; clear S; intro vG S)
    | ((with_reducible refine dB 26 (.tmp 4) (.tmp 25) rfl ?_); refine oh 26 4 25 #[.int .u8 0, .int .i64 0, .int .i64 0, .int .i64 0, .int .i64 0, .int .i64 0, .slice none 0 0] 0 7 S ?_; clear S; intro yf S)
    | fail)
   rw [HQ.out]
   refine bodyPost_ret (bK rfl _ _ b4 26 #[.int .u8 0, .int .i64 0, .int .i64 0, .int .i64 0, .int .i64 0, .int .i64 0, .slice none 0 0] (0, 0) _ rfl (S.out.blk _ (.tail _ (.head _)) _ rfl) Try.underlying26 rfl (by kernel_rfl)) rfl ?_
   exact ⟨_, _, rfl, Kd.kN _ _ _ _ _, S.out.below⟩
  | some x =>
   have hxz := Iy path _ x hx
   have hkl := Ec x
   have hxe := dL x
   obtain ⟨⟨L, en⟩, hk⟩ : ∃ p, jX x = p := ⟨_, rfl⟩
   rw [hk] at hkl
   have HAT := ae.mk hx
   have Sl := ae.mk (show sz x ≤ 100000 by omega)
   by_cases hen : en = 0
   case neg =>
    have HQ := ae.mk (SQ HT.out hx hk hen)
    have HK := ae.mk hk
    have ahC : (en != 0) = true := bne_iff_ne.mpr hen
    have hend : decide (en = 0) = false := decide_eq_false hen
    clear hx hs2 hxz hkl hxe hk hen
    go_enter Try.func109, Try.ntmps109
    go_wp2_with (first
     | ((with_reducible refine aj 2 rfl ?_); refine boxS 2 #[.int .u8 ck, .int .i64 cx, .int .i64 cy, .int .i64 cw, .int .i64 ch, .int .i64 ay, .slice A l.length cc] 26 S ?_; clear S; intro b2 eH S)
     | ((with_reducible refine aj 4 rfl ?_); refine boxS 4 #[.int .u8 0, .int .i64 0, .int .i64 0, .int .i64 0, .int .i64 0, .int .i64 0, .slice none 0 0] 26 S ?_; clear S; intro b4 fG S; obtain ⟨bQ, bU, bV, cZ, df, di, bu⟩ := St.eY S (.tail _ (.head _)))
     | ((with_reducible refine aC (N := 13) rfl ?_); refine oI (N := 13) rfl rfl ⟨ck, ⟨cx, cy, cw, ch⟩, ay, l⟩ S.out (S.out.tree _ (.head _)) ?hr ?_; (case hr => first | (go_simp; done) | (go_simp; rfl)); intro VD V_ gV S1 h1 h2; replace S := ae.mk S1; have nK := ae.mk h1; have qO := ae.mk h2; clear S1 h1 h2; clear bQ bU bV cZ df di bu)
     | ((with_reducible refine aj 14 rfl ?_); refine dF (some 14) Try.func148 S (jG HT.out (oL ⟨ck, ⟨cx, cy, cw, ch⟩, ay, l⟩ HZ.out qO.out nK.out)) ?_; clear S; intro jB S; obtain ⟨bQ, bU, bV, cZ, df, di, bu⟩ := St.eY S (.tail _ (.head _)))
     | ((with_reducible refine aj 20 rfl ?_); refine kR (some 20) Try.func91 (acL ⟨ck, ⟨cx, cy, cw, ch⟩, ay, l⟩ path x HAT.out tC.out GM.out (S.out.tree _ (.head _)) (Kd.fC HI.out S.out.below) LI.out) ?_; rintro e lQ ⟨Ax, zX, rfl, h1, hb⟩; refine ⟨_, rfl, ?_⟩; replace S := ae.mk (S.out.res (Kd.rM (base' := 0) h1) hb); clear h1 hb; clear bQ bU bV cZ df di bu)
     | ((with_reducible refine aj 6 rfl ?_); refine boxS 6 #[.int .u8 0, .int .i64 0, .int .i64 0, .int .i64 0, .int .i64 0, .int .i64 0, .slice none 0 0] 26 S ?_; clear S; intro b6 rG S)
     | ((with_reducible refine dB 26 (.tmp 6) (.tmp 21) rfl ?_); refine gI 26 6 21 #[.int .u8 x.f0, .int .i64 x.f1.f0, .int .i64 x.f1.f1, .int .i64 x.f1.f2, .int .i64 x.f1.f3, .int .i64 x.f2, .slice Ax x.f3.length zX] 0 7 S ?_; clear S; intro vG S; obtain ⟨vS, vT, vU, vV, vW, vX, vY⟩ := St.eY S (.head _))
     | ((with_reducible refine aj 28 rfl ?_); refine kR (some 28) Try.func155 (UC x L en HK.out Sl.out (dO (S.out.tree _ (.head _)))) ?_; rintro e yf ⟨Ak, jJ, rfl, h1, hb⟩; refine ⟨_, rfl, ?_⟩; replace S := ae.mk (S.out.res h1 hb); clear h1 hb; clear vS vT vU vV vW vX vY)
     | ((with_reducible refine dB 26 (.tmp 4) (.tmp 33) rfl ?_); refine oh 26 4 33 #[.int .u8 0, .int .i64 0, .int .i64 0, .int .i64 0, .int .i64 0, .int .i64 0, .slice none 0 0] 0 7 S ?_; clear S; intro BF S)
     | fail)
    rw [HQ.out]
    refine bodyPost_ret (bK rfl _ _ b4 26 #[.int .u8 0, .int .i64 0, .int .i64 0, .int .i64 0, .int .i64 0, .int .i64 0, .slice none 0 0] (0, 0) _ rfl (S.out.blk _ (.tail _ (.head _)) _ rfl) Try.underlying26 rfl (by kernel_rfl)) rfl ?_
    exact ⟨_, _, rfl, Kd.kN _ _ _ _ _, S.out.below⟩
   subst hen
   obtain ⟨z, hz⟩ := UY (kid := ⟨x.f0, x.f1, x.f2, L⟩) path _ hx
   have HQ := ae.mk (Yr HT.out hx hk hz)
   have HK := ae.mk hk
   have HP := ae.mk hz
   have hpz := Gh _ path _ z hz
   have hks := dL ⟨x.f0, x.f1, x.f2, L⟩
   simp only [] at hks hkl
   have tq := ae.mk (show sz ⟨x.f0, x.f1, x.f2, L⟩ ≤ 1000000 by omega)
   have HZZ := ae.mk (show sz z ≤ 1000000 by omega)
   clear hx hs2 hxz hkl hxe hk hz hpz hks
   go_enter Try.func109, Try.ntmps109
   go_wp2_with (first
    | ((with_reducible refine aj 2 rfl ?_); refine boxS 2 #[.int .u8 ck, .int .i64 cx, .int .i64 cy, .int .i64 cw, .int .i64 ch, .int .i64 ay, .slice A l.length cc] 26 S ?_; clear S; intro b2 eH S)
    | ((with_reducible refine aj 4 rfl ?_); refine boxS 4 #[.int .u8 0, .int .i64 0, .int .i64 0, .int .i64 0, .int .i64 0, .int .i64 0, .slice none 0 0] 26 S ?_; clear S; intro b4 fG S; obtain ⟨bQ, bU, bV, cZ, df, di, bu⟩ := St.eY S (.tail _ (.head _)))
    | ((with_reducible refine aC (N := 13) rfl ?_); refine oI (N := 13) rfl rfl ⟨ck, ⟨cx, cy, cw, ch⟩, ay, l⟩ S.out (S.out.tree _ (.head _)) ?hr ?_; (case hr => first | (go_simp; done) | (go_simp; rfl)); intro VD V_ gV S1 h1 h2; replace S := ae.mk S1; have nK := ae.mk h1; have qO := ae.mk h2; clear S1 h1 h2; clear bQ bU bV cZ df di bu)
    | ((with_reducible refine aj 14 rfl ?_); refine dF (some 14) Try.func148 S (jG HT.out (oL ⟨ck, ⟨cx, cy, cw, ch⟩, ay, l⟩ HZ.out qO.out nK.out)) ?_; clear S; intro jB S; obtain ⟨bQ, bU, bV, cZ, df, di, bu⟩ := St.eY S (.tail _ (.head _)))
    | ((with_reducible refine aj 20 rfl ?_); refine kR (some 20) Try.func91 (acL ⟨ck, ⟨cx, cy, cw, ch⟩, ay, l⟩ path x HAT.out tC.out GM.out (S.out.tree _ (.head _)) (Kd.fC HI.out S.out.below) LI.out) ?_; rintro e lQ ⟨Ax, zX, rfl, h1, hb⟩; refine ⟨_, rfl, ?_⟩; replace S := ae.mk (S.out.res (Kd.rM (base' := 0) h1) hb); clear h1 hb; clear bQ bU bV cZ df di bu)
    | ((with_reducible refine aj 6 rfl ?_); refine boxS 6 #[.int .u8 0, .int .i64 0, .int .i64 0, .int .i64 0, .int .i64 0, .int .i64 0, .slice none 0 0] 26 S ?_; clear S; intro b6 rG S)
    | ((with_reducible refine dB 26 (.tmp 6) (.tmp 21) rfl ?_); refine gI 26 6 21 #[.int .u8 x.f0, .int .i64 x.f1.f0, .int .i64 x.f1.f1, .int .i64 x.f1.f2, .int .i64 x.f1.f3, .int .i64 x.f2, .slice Ax x.f3.length zX] 0 7 S ?_; clear S; intro vG S; obtain ⟨vS, vT, vU, vV, vW, vX, vY⟩ := St.eY S (.head _))
    | ((with_reducible refine aj 28 rfl ?_); refine kR (some 28) Try.func155 (UC x L 0 HK.out Sl.out (dO (S.out.tree _ (.head _)))) ?_; rintro e yf ⟨Ak, jJ, rfl, h1, hb⟩; refine ⟨_, rfl, ?_⟩; replace S := ae.mk (S.out.res h1 hb); clear h1 hb; clear vS vT vU vV vW vX vY)
    | ((with_reducible refine dB 24 (.tmp 36) (.tmp 35) rfl ?_); refine gI 24 36 35 #[.int .u8 x.f0, .int .i64 x.f1.f0, .int .i64 x.f1.f1, .int .i64 x.f1.f2, .int .i64 x.f1.f3, .int .i64 x.f2, .slice Ak L.length jJ] 6 1 S ?_; clear S; intro BF S; obtain ⟨vS, vT, vU, vV, vW, vX, vY⟩ := St.eY S (.head _); obtain ⟨bQ, bU, bV, cZ, df, di, bu⟩ := St.eY S (.tail _ (.tail _ (.head _))))
    | ((with_reducible refine aj 41 rfl ?_); refine sO (some 41) Try.func102 S (agm ⟨ck, ⟨cx, cy, cw, ch⟩, ay, l⟩ ⟨x.f0, x.f1, x.f2, L⟩ path z HP.out GM.out tq.out (S.out.tree _ (.tail _ (.tail _ (.head _)))) (S.out.tree _ (.head _)) (Kd.fC HI.out S.out.below) LI.out) ?_; clear S; intro Az cz zI S; clear vS vT vU vV vW vX vY bQ bU bV cZ df di bu)
    | ((with_reducible refine aj 10 rfl ?_); refine boxS 10 #[.int .u8 0, .int .i64 0, .int .i64 0, .int .i64 0, .int .i64 0, .int .i64 0, .slice none 0 0] 26 S ?_; clear S; intro b10 yB S)
    | ((with_reducible refine dB 26 (.tmp 10) (.tmp 42) rfl ?_); refine gI 26 10 42 #[.int .u8 z.f0, .int .i64 z.f1.f0, .int .i64 z.f1.f1, .int .i64 z.f1.f2, .int .i64 z.f1.f3, .int .i64 z.f2, .slice Az z.f3.length cz] 0 7 S ?_; clear S; intro AU S; obtain ⟨MG, MH, MI, MJ, MK, ML, MM⟩ := St.eY S (.head _); have bU := (S.out.at (.tail _ (.tail _ (.tail _ (.head _)))) 1).trans rfl; have bV := (S.out.at (.tail _ (.tail _ (.tail _ (.head _)))) 2).trans rfl)
    | ((with_reducible refine aj 51 rfl ?_); refine KF (some 51) Try.func66 S (KG z cx cy HZZ.out (S.out.tree _ (.head _))) ?_; clear S; intro A51 acW zJ S; clear MG MH MI MJ MK ML MM bU bV)
    | ((with_reducible refine dB 26 (.tmp 4) (.tmp 51) rfl ?_); refine Oa 26 4 51 #[.int .u8 ((aX z cx cy).f0), .int .i64 ((aX z cx cy).f1.f0), .int .i64 ((aX z cx cy).f1.f1), .int .i64 ((aX z cx cy).f1.f2), .int .i64 ((aX z cx cy).f1.f3), .int .i64 ((aX z cx cy).f2), .slice A51 ((aX z cx cy).f3.length) acW] 0 7 S ?_; clear S; intro Gu S)
    | fail)
   rw [HQ.out]
   refine bodyPost_ret (bK rfl _ _ b4 26 #[.int .u8 ((aX z cx cy).f0), .int .i64 ((aX z cx cy).f1.f0), .int .i64 ((aX z cx cy).f1.f1), .int .i64 ((aX z cx cy).f1.f2), .int .i64 ((aX z cx cy).f1.f3), .int .i64 ((aX z cx cy).f2), .slice A51 ((aX z cx cy).f3.length) acW] (0, 0) _ rfl (S.out.blk _ (.tail _ (.tail _ (.head _))) _ rfl) Try.underlying26 rfl (by kernel_rfl)) rfl ?_
   exact ⟨_, _, rfl, S.out.tK, S.out.below⟩
def xU.T8 : Bool × List (List Nat × List Nat) := (true, [([], []), ([], []), ([], []), ([2], [2]), ([3], [3]), ([1, 4], [1, 4]), ([0, 5], [0, 5]), ([6], [6]), ([6], [6]), ([7, 6, 0, 1, 2, 3, 4, 5, 6, 7, 8], [7]), ([8, 9, 0, 1, 2, 3, 4, 5, 6, 7, 8, 9], [8])])
def xU.B8 : List Nat := [0, 0, 0, 4, 12, 30, 63, 127, 127, 511, 1023]
theorem xU.Oo : iY .any (opsOf Try.f111 8) = xU.T8 := by kernel_rfl
theorem xU.GY : iI xU.T8.2 xU.B8 = true := by kernel_rfl
theorem WH {W : World} {b : Nat} {P : Nat → Prop} {A : Option Addr} {cc : Nat} (id : Int) (c : ai) (p : List Int) (t : Bool) (h : p = (iP id c).getD [] ∧ t = (iP id c).isSome) (hc : sz c ≤ 1000000) (hV : Kd.V k26 26 W b P (.slice A c.f3.length cc) c.f3) :
  Calls Try.prog 89 #[.agg #[.int .u8 c.f0, .int .i64 c.f1.f0, .int .i64 c.f1.f1, .int .i64 c.f1.f2, .int .i64 c.f1.f3, .int .i64 c.f2, .slice A c.f3.length cc], .int .i64 id] W (xk W p t) := by
 rw [h.1, h.2]
 exact Nq id c _ rfl hc hV
theorem acM {c z : ai} {path : List Int} {n : Int} {P : Nat → Prop} {W : World} {args : Array Value} (h : mW c path = (z, n)) (hc : Calls Try.prog 109 args W (pK W P (mW c path).1 (mW c path).2)) : Calls Try.prog 109 args W (pK W P z n) := by
 rw [h] at hc
 exact hc
theorem SN (c : ai) (hz : sz c ≤ 1000000) (id : Int) (P : Nat → Prop) (A : Option Addr) (cc : Nat) (w : World) (hv : Kd.V k26 26 w w.heap.size P (.slice A c.f3.length cc) c.f3) :
  Calls Try.prog 111 #[.agg #[.int .u8 c.f0, .int .i64 c.f1.f0, .int .i64 c.f1.f1, .int .i64 c.f1.f2, .int .i64 c.f1.f3, .int .i64 c.f2, .slice A c.f3.length cc], .int .i64 id] w (pK w P (rq c id).1 (rq c id).2) := by
 have S := ae.mk (St.start (ts := [(.slice A c.f3.length cc, c.f3)]) (b0 := w.heap.size) (w := w) (P := P) (fun t ht => by rw [List.mem_singleton.1 ht]; exact hv))
 have DC := ae.mk (show sz c ≤ 1048576 by omega)
 have HZ := ae.mk hz
 have hpl := fun p (h : iP id c = some p) => (CJ id (sz c)).1 c (Nat.le_refl _) p h
 obtain ⟨ck, ⟨cx, cy, cw, ch⟩, ay, l⟩ := c
 simp only [] at S ⊢
 clear hv hz
 cases ht : eP ⟨ck, ⟨cx, cy, cw, ch⟩, ay, l⟩ with
 | false =>
  have xB := ae.mk (SI (id := id) ht)
  have HT := ae.mk ht
  obtain ⟨p, hp⟩ : ∃ p, p = (iP id ⟨ck, ⟨cx, cy, cw, ch⟩, ay, l⟩).getD [] := ⟨_, rfl⟩
  obtain ⟨t, ht2⟩ : ∃ t, t = (iP id ⟨ck, ⟨cx, cy, cw, ch⟩, ay, l⟩).isSome := ⟨_, rfl⟩
  have HF := ae.mk (And.intro hp ht2)
  clear hp ht2
  clear ht hpl
  go_enter Try.func111, Try.ntmps111
  go_wp2_with (first
   | ((with_reducible refine aj 2 rfl ?_); refine boxS 2 #[.int .u8 ck, .int .i64 cx, .int .i64 cy, .int .i64 cw, .int .i64 ch, .int .i64 ay, .slice A l.length cc] 26 S ?_; clear S; intro b2 eH S)
   | ((with_reducible refine aj 4 rfl ?_); refine boxS 4 #[.int .u8 0, .int .i64 0, .int .i64 0, .int .i64 0, .int .i64 0, .int .i64 0, .slice none 0 0] 26 S ?_; clear S; intro b4 fG S; obtain ⟨bQ, bU, bV, cZ, df, di, bu⟩ := St.eY S (.tail _ (.head _)))
   | ((with_reducible refine aj 11 rfl ?_); refine CP (some 11) Try.func89 S (WH id ⟨ck, ⟨cx, cy, cw, ch⟩, ay, l⟩ p t HF.out HZ.out (S.out.tree _ (.head _))) ?_; clear S; intro Ap cp op gV S Dn; clear bQ bU bV cZ df di bu; obtain ⟨bQ, bU, bV, cZ, df, di, bu⟩ := St.eY S (.tail _ (.tail _ (.head _))))
   | ((with_reducible refine aC (N := 16) rfl ?_); refine oI (N := 16) rfl rfl ⟨ck, ⟨cx, cy, cw, ch⟩, ay, l⟩ S.out (S.out.tree _ (.head _)) ?hr ?_; (case hr => first | (go_simp; done) | (go_simp; rfl)); intro VE We jB S1 h1 h2; replace S := ae.mk S1; have nK := ae.mk h1; have qO := ae.mk h2; clear S1 h1 h2; clear bQ bU bV cZ df di bu)
   | ((with_reducible refine aj 17 rfl ?_); refine dF (some 17) Try.func148 S (jG HT.out (oL ⟨ck, ⟨cx, cy, cw, ch⟩, ay, l⟩ DC.out qO.out nK.out)) ?_; clear S; intro lQ S)
   | ((with_reducible refine dB 26 (.tmp 4) (.tmp 19) rfl ?_); refine oh 26 4 19 #[.int .u8 0, .int .i64 0, .int .i64 0, .int .i64 0, .int .i64 0, .int .i64 0, .slice none 0 0] 0 7 S ?_; clear S; intro rG S)
   | fail)
  rw [xB.out]
  refine bodyPost_ret (bK rfl _ _ b4 26 #[.int .u8 0, .int .i64 0, .int .i64 0, .int .i64 0, .int .i64 0, .int .i64 0, .slice none 0 0] (0, 0) _ rfl (S.out.blk _ (.tail _ (.head _)) _ rfl) Try.underlying26 rfl (by kernel_rfl)) rfl ?_
  exact ⟨_, _, rfl, Kd.kN _ _ _ _ _, S.out.below⟩
 | true =>
  have HT := ae.mk ht
  clear ht
  cases hf : iP id ⟨ck, ⟨cx, cy, cw, ch⟩, ay, l⟩ with
  | none =>
   have xB := ae.mk (Yo HT.out hf)
   have HF := ae.mk hf
   clear hf hpl
   go_enter Try.func111, Try.ntmps111
   go_wp2_with (first
    | ((with_reducible refine aj 2 rfl ?_); refine boxS 2 #[.int .u8 ck, .int .i64 cx, .int .i64 cy, .int .i64 cw, .int .i64 ch, .int .i64 ay, .slice A l.length cc] 26 S ?_; clear S; intro b2 eH S)
    | ((with_reducible refine aj 4 rfl ?_); refine boxS 4 #[.int .u8 0, .int .i64 0, .int .i64 0, .int .i64 0, .int .i64 0, .int .i64 0, .slice none 0 0] 26 S ?_; clear S; intro b4 fG S; obtain ⟨bQ, bU, bV, cZ, df, di, bu⟩ := St.eY S (.tail _ (.head _)))
    | ((with_reducible refine aj 11 rfl ?_); refine CP (some 11) Try.func89 S (Zo id ⟨ck, ⟨cx, cy, cw, ch⟩, ay, l⟩ HF.out HZ.out (S.out.tree _ (.head _))) ?_; clear S; intro Ap cp op gV S Dn; clear bQ bU bV cZ df di bu; obtain ⟨bQ, bU, bV, cZ, df, di, bu⟩ := St.eY S (.tail _ (.tail _ (.head _))))
    | ((with_reducible refine aC (N := 16) rfl ?_); refine oI (N := 16) rfl rfl ⟨ck, ⟨cx, cy, cw, ch⟩, ay, l⟩ S.out (S.out.tree _ (.head _)) ?hr ?_; (case hr => first | (go_simp; done) | (go_simp; rfl)); intro VE We jB S1 h1 h2; replace S := ae.mk S1; have nK := ae.mk h1; have qO := ae.mk h2; clear S1 h1 h2; clear bQ bU bV cZ df di bu)
    | ((with_reducible refine aj 17 rfl ?_); refine dF (some 17) Try.func148 S (jG HT.out (oL ⟨ck, ⟨cx, cy, cw, ch⟩, ay, l⟩ DC.out qO.out nK.out)) ?_; clear S; intro lQ S)
    | ((with_reducible refine dB 26 (.tmp 4) (.tmp 23) rfl ?_); refine oh 26 4 23 #[.int .u8 0, .int .i64 0, .int .i64 0, .int .i64 0, .int .i64 0, .int .i64 0, .slice none 0 0] 0 7 S ?_; clear S; intro rG S)
    | fail)
   rw [xB.out]
   refine bodyPost_ret (bK rfl _ _ b4 26 #[.int .u8 0, .int .i64 0, .int .i64 0, .int .i64 0, .int .i64 0, .int .i64 0, .slice none 0 0] (0, 0) _ rfl (S.out.blk _ (.tail _ (.head _)) _ rfl) Try.underlying26 rfl (by kernel_rfl)) rfl ?_
   exact ⟨_, _, rfl, Kd.kN _ _ _ _ _, S.out.below⟩
  | some p =>
   have hl := hpl p hf
   have HF := ae.mk hf
   by_cases h0 : p.length = 0
   case pos =>
    have xB := ae.mk (SK HT.out hf h0)
    have Dt : ((p.length : Int) == 0) = true := beq_iff_eq.mpr (by omega)
    have uk : decide ((p.length : Int) = 0) = true := decide_eq_true (by omega)
    have h0c : (p.length == 0) = true := beq_iff_eq.mpr (by omega)
    have Ho : decide (p.length = 0) = true := decide_eq_true (by omega)
    clear hf hpl hl h0
    go_enter Try.func111, Try.ntmps111
    go_wp2_with (first
     | ((with_reducible refine aj 2 rfl ?_); refine boxS 2 #[.int .u8 ck, .int .i64 cx, .int .i64 cy, .int .i64 cw, .int .i64 ch, .int .i64 ay, .slice A l.length cc] 26 S ?_; clear S; intro b2 eH S)
     | ((with_reducible refine aj 4 rfl ?_); refine boxS 4 #[.int .u8 0, .int .i64 0, .int .i64 0, .int .i64 0, .int .i64 0, .int .i64 0, .slice none 0 0] 26 S ?_; clear S; intro b4 fG S; obtain ⟨bQ, bU, bV, cZ, df, di, bu⟩ := St.eY S (.tail _ (.head _)))
     | ((with_reducible refine aj 11 rfl ?_); refine CP (some 11) Try.func89 S (JM id ⟨ck, ⟨cx, cy, cw, ch⟩, ay, l⟩ p HF.out HZ.out (S.out.tree _ (.head _))) ?_; clear S; intro Ap cp op gV S Dn; clear bQ bU bV cZ df di bu; obtain ⟨bQ, bU, bV, cZ, df, di, bu⟩ := St.eY S (.tail _ (.tail _ (.head _))))
     | ((with_reducible refine aC (N := 16) rfl ?_); refine oI (N := 16) rfl rfl ⟨ck, ⟨cx, cy, cw, ch⟩, ay, l⟩ S.out (S.out.tree _ (.head _)) ?hr ?_; (case hr => first | (go_simp; done) | (go_simp; rfl)); intro VE We jB S1 h1 h2; replace S := ae.mk S1; have nK := ae.mk h1; have qO := ae.mk h2; clear S1 h1 h2; clear bQ bU bV cZ df di bu)
     | ((with_reducible refine aj 17 rfl ?_); refine dF (some 17) Try.func148 S (jG HT.out (oL ⟨ck, ⟨cx, cy, cw, ch⟩, ay, l⟩ DC.out qO.out nK.out)) ?_; clear S; intro lQ S)
     | ((with_reducible refine dB 26 (.tmp 4) (.tmp 28) rfl ?_); refine oh 26 4 28 #[.int .u8 0, .int .i64 0, .int .i64 0, .int .i64 0, .int .i64 0, .int .i64 0, .slice none 0 0] 0 7 S ?_; clear S; intro rG S)
     | fail)
    rw [xB.out]
    refine bodyPost_ret (bK rfl _ _ b4 26 #[.int .u8 0, .int .i64 0, .int .i64 0, .int .i64 0, .int .i64 0, .int .i64 0, .slice none 0 0] (0, 0) _ rfl (S.out.blk _ (.tail _ (.head _)) _ rfl) Try.underlying26 rfl (by kernel_rfl)) rfl ?_
    exact ⟨_, _, rfl, Kd.kN _ _ _ _ _, S.out.below⟩
   have xB := ae.mk (Yp HT.out hf h0)
   have Dt : ((p.length : Int) == 0) = false := beq_eq_false_iff_ne.mpr (by omega)
   have uk : decide ((p.length : Int) = 0) = false := decide_eq_false (by omega)
   have h0c : (p.length == 0) = false := beq_eq_false_iff_ne.mpr (by omega)
   have Ho : decide (p.length = 0) = false := decide_eq_false (by omega)
   obtain ⟨q, hq⟩ : ∃ q, q = p.take (p.length - 1) := ⟨_, rfl⟩
   obtain ⟨⟨zq, nq⟩, hz⟩ : ∃ r, mW ⟨ck, ⟨cx, cy, cw, ch⟩, ay, l⟩ q = r := ⟨_, rfl⟩
   rw [← hq, hz] at xB
   have HAQ := ae.mk hz
   have HQ := ae.mk (And.intro hq (show p.length - 1 ≤ p.length by omega))
   have Si := ae.mk (show q.length ≤ 1048576 by rw [hq, List.length_take]; have := HZ.out; omega)
   have HP0 := ae.mk h0
   have tC := ae.mk (show p.length ≤ 1048576 by have := HZ.out; omega)
   clear hf hpl hl h0 hz hq
   go_enter Try.func111, Try.ntmps111
   go_wp2_with (first
    | ((with_reducible refine aj 2 rfl ?_); refine boxS 2 #[.int .u8 ck, .int .i64 cx, .int .i64 cy, .int .i64 cw, .int .i64 ch, .int .i64 ay, .slice A l.length cc] 26 S ?_; clear S; intro b2 eH S)
    | ((with_reducible refine aj 4 rfl ?_); refine boxS 4 #[.int .u8 0, .int .i64 0, .int .i64 0, .int .i64 0, .int .i64 0, .int .i64 0, .slice none 0 0] 26 S ?_; clear S; intro b4 fG S; obtain ⟨bQ, bU, bV, cZ, df, di, bu⟩ := St.eY S (.tail _ (.head _)))
    | ((with_reducible refine aj 11 rfl ?_); refine CP (some 11) Try.func89 S (JM id ⟨ck, ⟨cx, cy, cw, ch⟩, ay, l⟩ p HF.out HZ.out (S.out.tree _ (.head _))) ?_; clear S; intro Ap cp op gV S Dn; clear bQ bU bV cZ df di bu; obtain ⟨bQ, bU, bV, cZ, df, di, bu⟩ := St.eY S (.tail _ (.tail _ (.head _))))
    | ((with_reducible refine aC (N := 16) rfl ?_); refine oI (N := 16) rfl rfl ⟨ck, ⟨cx, cy, cw, ch⟩, ay, l⟩ S.out (S.out.tree _ (.head _)) ?hr ?_; (case hr => first | (go_simp; done) | (go_simp; rfl)); intro VE We jB S1 h1 h2; replace S := ae.mk S1; have nK := ae.mk h1; have qO := ae.mk h2; clear S1 h1 h2; clear bQ bU bV cZ df di bu)
    | ((with_reducible refine aj 17 rfl ?_); refine dF (some 17) Try.func148 S (jG HT.out (oL ⟨ck, ⟨cx, cy, cw, ch⟩, ay, l⟩ DC.out qO.out nK.out)) ?_; clear S; intro lQ S)
    | fail)
   have hcut := Nb (A := Ap) (c := cp) HQ.out.1 HP0.out tC.out (VM Dn.out S.out (.head _)).2
   go_wp2
   refine iR (n := 11) (S := fun w' => St w _ _ _ _ _ w') (ds := [9]) (bA 11 0) (by kernel_rfl) rfl rfl (S.out.call (bC (Below.refl _ _))) (fun hHeld => ?_); refine fJ xU.Oo xU.GY (fun ak dZ => ?_)
   replace S := ae.mk (S.out.call (bC (Below.refl _ _)))
   generalize lQ.drew = wd6 at S hHeld ⊢
   refine dE 0 29 (bA 11 1) ak dZ hHeld ?_ (hv := by intro w' hs_; have bQ := (hs_.at (.tail _ (.tail _ (.head _))) 0).trans rfl; have bU := (hs_.at (.tail _ (.tail _ (.head _))) 1).trans rfl; have bV := (hs_.at (.tail _ (.tail _ (.head _))) 2).trans rfl; have cZ := (hs_.at (.tail _ (.tail _ (.head _))) 3).trans rfl; have df := (hs_.at (.tail _ (.tail _ (.head _))) 4).trans rfl; have di := (hs_.at (.tail _ (.tail _ (.head _))) 5).trans rfl; have bu := (hs_.at (.tail _ (.tail _ (.head _))) 6).trans rfl; go_simp; with_reducible rfl)
   refine au 1 30 (bA 11 3) ak ?_
   refine au 2 31 (bA 11 7) ak ?_
   refine au 3 32 (bA 11 15) ak ?_
   refine au 4 33 (bA 11 31) ak ?_
   refine au 5 34 (bA 11 63) ak ?_
   refine gU (i := 6) (N := some 35) (bA 11 127) rfl rfl (bY ak.out (by kernel_rfl)) (by decide) (fun K hK => ?_)
   refine fK Try.func109 (by kernel_rfl) rfl #[.agg #[.int .u8 ck, .int .i64 cx, .int .i64 cy, .int .i64 cw, .int .i64 ch, .int .i64 ay, .slice A l.length cc], .slice Ap q.length cp] (by rfl) rfl rfl (by (try simp only [List.map_toArray, List.map_cons, List.map_nil]); first | done | rfl) ?_
   refine (acM HAQ.out (Yq ⟨ck, ⟨cx, cy, cw, ch⟩, ay, l⟩ DC.out q Si.out _ A cc Ap cp _ (dO (S.out.tree _ (.head _))) (EE Dn.out S.out (.head _) HQ.out).1 (EE Dn.out S.out (.head _) HQ.out).2)).mono ?_
   rintro e vG ⟨Ay, Hf, rfl, h1, hb⟩
   refine ⟨_, rfl, ?_⟩
   replace S := ae.mk (S.out.Df h1 hb)
   clear h1 hb
   refine hK.out _ _ S.out.free.bW (fun hHeld => ?_)
   clear hK K
   refine dR 35 ?_
   refine au 7 36 (bA 11 255) ak ?_
   refine au 8 37 (bA 11 511) ak ?_
   refine mO (i := 9) (N := none) (bA 11 1023) rfl rfl (bY ak.out (by kernel_rfl)) (by decide) (fun K hK => ?_)
   refine oJ 1 rfl 26 (.tmp 4) (.tmp 36) rfl #[.int .u8 zq.f0, .int .i64 zq.f1.f0, .int .i64 zq.f1.f1, .int .i64 zq.f1.f2, .int .i64 zq.f1.f3, .int .i64 zq.f2, .slice Ay zq.f3.length Hf] (j := 0) (u := .agg #[.int .u8 zq.f0, .int .i64 zq.f1.f0, .int .i64 zq.f1.f1, .int .i64 zq.f1.f2, .int .i64 zq.f1.f3, .int .i64 zq.f2, .slice Ay zq.f3.length Hf]) (bP := [.int .u8 zq.f0, .int .i64 zq.f1.f0, .int .i64 zq.f1.f1, .int .i64 zq.f1.f2, .int .i64 zq.f1.f3, .int .i64 zq.f2, .slice Ay zq.f3.length Hf]) S.out (by rfl) rfl rfl rfl rfl (by kernel_rfl) (by simp [Value.oneCell']) (by first | decide | simp) rfl ?_
   intro yf S1
   simp only [List.set_cons_zero, List.set_cons_succ] at S1
   replace S := ae.mk S1
   clear S1
   refine hK.out _ _ ?_
   clear hK K
   refine au 10 5 (bA 11 2047) ak ?_
   refine jI (gQ ak.out (by kernel_rfl)) ?_
   clear hHeld
   go_wp2
   rw [xB.out]
   refine bodyPost_ret (bK rfl _ _ b4 26 #[.int .u8 zq.f0, .int .i64 zq.f1.f0, .int .i64 zq.f1.f1, .int .i64 zq.f1.f2, .int .i64 zq.f1.f3, .int .i64 zq.f2, .slice Ay zq.f3.length Hf] (0, 0) _ rfl (S.out.blk _ (.tail _ (.head _)) _ rfl) Try.underlying26 rfl (by kernel_rfl)) rfl ?_
   exact ⟨_, _, rfl, S.out.tK, S.out.below⟩
theorem agr (k : ai) (x : Int) : zC 2 k x = wrap64 (wrap64 (x + k.f1.f2) + 1) := by
 unfold zC
 rw [if_pos rfl]
 unfold wrap64
 omega
theorem ags (k : ai) (y : Int) : zD 3 k y = wrap64 (wrap64 (y + k.f1.f3) + 1) := by
 unfold zD
 rw [if_neg (by decide), if_pos rfl]
 unfold wrap64
 omega
theorem aeX : ∀ (N : Nat) (c : ai), sz c ≤ N → N ≤ 1000000 → ∀ (P : Nat → Prop) (A : Option Addr) (cc : Nat) (x y : Int) (w : World), Kd.V k26 26 w w.heap.size P (.slice A c.f3.length cc) c.f3 →
  Calls Try.prog 67 #[.agg #[.int .u8 c.f0, .int .i64 c.f1.f0, .int .i64 c.f1.f1, .int .i64 c.f1.f2, .int .i64 c.f1.f3, .int .i64 c.f2, .slice A c.f3.length cc], .int .i64 x, .int .i64 y] w (BL w P (aX c x y)) := by
 intro N
 induction N with
 | zero => intro c h; rw [dL] at h; omega
 | succ N ih =>
  intro c hc hN P A cc x y w hv
  have hsz := dL c
  have S := ae.mk (St.start (ts := [(.slice A c.f3.length cc, c.f3)]) (b0 := w.heap.size) (w := w) (P := P) (fun t ht => by rw [List.mem_singleton.1 ht]; exact hv))
  rw [yR]
  have hlen := jR c.f3
  have gX := ae.mk (show c.f3.length ≤ 1000000 by omega)
  have IH := ae.mk fun (k : ai) (hk : k ∈ c.f3) P A cc x y w h => ih k (by have := vw hk; omega) (by omega) P A cc x y w h
  obtain ⟨ck, ⟨cx, cy, cw, ch⟩, ay, l⟩ := c
  simp only [] at S IH gX ⊢
  clear ih hc hN hv hsz hlen
  go_enter Try.func67, Try.ntmps67
  go_wp2_with (first
   | ((with_reducible refine aj 3 rfl ?_); refine boxS 3 #[.int .u8 ck, .int .i64 cx, .int .i64 cy, .int .i64 cw, .int .i64 ch, .int .i64 ay, .slice A l.length cc] 26 S ?_; clear S; intro b3 eH S)
   | ((with_reducible refine aj 6 rfl ?_); refine boxS 6 #[.int .u8 0, .int .i64 0, .int .i64 0, .int .i64 0, .int .i64 0, .int .i64 0, .slice none 0 0] 26 S ?_; clear S; intro b6 fG S)
   | ((with_reducible refine dB 3 (.tmp 11) (.tmp 9) rfl ?_); refine oh 3 11 9 #[.int .u8 ck, .int .i64 x, .int .i64 cy, .int .i64 cw, .int .i64 ch, .int .i64 ay, .slice A l.length cc] 1 1 S ?_; clear S; intro gV S)
   | ((with_reducible refine dB 3 (.tmp 14) (.tmp 12) rfl ?_); refine oh 3 14 12 #[.int .u8 ck, .int .i64 x, .int .i64 y, .int .i64 cw, .int .i64 ch, .int .i64 ay, .slice A l.length cc] 2 1 S ?_; clear S; intro jB S)
   | ((with_reducible refine aj 15 rfl ?_); refine zk (N := 15) rfl rfl S.out ?hr ?_; (case hr => first | (go_simp; done) | (go_simp; rfl)); intro Qc QC lQ S1; replace S := ae.mk S1; clear S1; have bg := (S.out.at (.tail _ (.head _)) 6).trans rfl)
   | fail)
  clear bg
  go_loopg [7, 19, 1, 2] l.length (fun gg v7 v19 v1 v2 wr => ∃ (pre rest : List ai) (Ap : Option Addr) (cp : Nat), v7 = .slice Ap pre.length cp ∧ v19 = .int .i64 (pre.length : Int) ∧ v1 = .int .i64 (nD ck pre x) ∧ v2 = .int .i64 (nG ck pre y) ∧ ae (pre ++ rest = l) ∧ rest.length ≤ gg ∧ ae (St w P [(some b6, .cells #[.int .u8 0, .int .i64 0, .int .i64 0, .int .i64 0, .int .i64 0, .int .i64 0, .slice none 0 0] 26 (0, 0)), (some b3, .cells #[.int .u8 ck, .int .i64 x, .int .i64 y, .int .i64 cw, .int .i64 ch, .int .i64 ay, .slice A l.length cc] 26 (0, 0))] [(.slice Ap pre.length cp, (l_ ck pre x y))] [(.slice A l.length cc, l)] [] wr))
  case atStart => exact ⟨[], l, _, _, rfl, rfl, rfl, rfl, ⟨rfl⟩, Nat.le_refl _, ⟨by rw [uM]; exact S.out⟩⟩
  case round =>
   clear S
   obtain ⟨pre, rest, Ap, cp, rfl, rfl, rfl, rfl, HE, hgg, S⟩ := hrel
   cases rest with
   | nil =>
    have hE := HE.out
    rw [List.append_nil] at hE
    have hE2 := hE.symm
    subst hE2
    clear hE HE hgg
    have hlt : ¬ ((l.length : Int) < (l.length : Int)) := by omega
    go_wp2_with (first
     | ((with_reducible refine dB 24 (.tmp 61) (.tmp 60) rfl ?_); refine oh 24 61 60 #[.int .u8 ck, .int .i64 x, .int .i64 y, .int .i64 cw, .int .i64 ch, .int .i64 ay, .slice Ap l.length cp] 6 1 S ?_; clear S; intro rG S; obtain ⟨bD, bF, bG, bH, dG, ed, bg⟩ := St.eY S (.tail _ (.head _)))
     | ((with_reducible refine dB 26 (.tmp 6) (.tmp 62) rfl ?_); refine gI 26 6 62 #[.int .u8 ck, .int .i64 x, .int .i64 y, .int .i64 cw, .int .i64 ch, .int .i64 ay, .slice Ap l.length cp] 0 7 S ?_; clear S; intro vG S; clear bD bF bG bH dG ed bg)
     | fail)
    refine bodyPost_ret (results_cell_row rfl _ _ b6 26 #[.int .u8 ck, .int .i64 x, .int .i64 y, .int .i64 cw, .int .i64 ch, .int .i64 ay, .slice Ap l.length cp] (0, 0) _ rfl (S.out.blk _ (.head _) _ rfl) Try.underlying26 rfl (by kernel_rfl)) rfl ?_
    have hN := S.out.tK
    simp only [BL, qL]
    exact ⟨_, _, rfl, hN, S.out.below⟩
   | cons k rest =>
    have hk : k ∈ l := by rw [← HE.out]; simp
    have hlt : (pre.length : Int) < (l.length : Int) := by rw [← HE.out, List.length_append, List.length_cons]; omega
    have hw1 : wrap64 ((pre.length : Int) + 1) = ((pre ++ [k]).length : Int) := by have := gX.out; rw [List.length_append, List.length_singleton]; unfold wrap64; omega
    have HW1 := ae.mk hw1
    have jh := ae.mk hgg
    have HK := ae.mk hk
    have tH := ae.mk (show pre.length ≤ 1000000 by have := gX.out; omega)
    obtain ⟨dM, ua, uc, ek, S1⟩ := S.out.elem (.head _) (pre.length : Int) (Int.natCast_nonneg _) hlt
    subst ek
    have hrd : aG l (pre.length : Int) = k := by rw [← HE.out]; exact jF pre k rest
    rw [hrd] at S1
    simp only [Int.toNat_natCast] at S1
    replace S := ae.mk S1
    clear S1 hrd hk hgg hw1
    by_cases h2 : ck = 2
    ·subst h2
     obtain ⟨gY, iM, iO, iC, iD, jv, jw⟩ := St.yD S
     have bg := (S.out.at (.tail _ (.head _)) 6).trans rfl
     go_wp2_with (first
      | ((with_reducible refine aj 30 rfl ?_); refine sO (some 30) Try.func67 S (IH.out k HK.out _ ua uc _ _ _ (dO (S.out.tree _ (.head _)))) ?_; clear S; intro A30 acV yf S; clear gY iM iO iC iD jv jw bg)
      | ((with_reducible refine aj 32 rfl ?_); at_builtin; go_loud (refine Bd (.tmp 22) (.tmp 31) rfl rfl Try.underlying24 info26 S.out (aX k (nD 2 pre x) (nG 2 pre y)) (.head _) rfl (by first | (go_simp; done) | (go_simp; rfl)) (by have := tH.out; rw [qL]; omega) ?_); intro Aq cq BF S1; rw [← Aj 2 k pre x y] at S1 ⊢; rw [qL] at S1 ⊢; replace S := ae.mk S1; clear S1; have bD := (S.out.at (.tail _ (.head _)) 0).trans rfl; have bg := (S.out.at (.tail _ (.head _)) 6).trans rfl; have iC := (S.out.cell _ (.tail _ (.tail _ (.tail _ (.head _))))).1)
      | fail)
     clear bD bg iC
     have hw1 := HW1.out
     go_wp2
     go_roundg rest.length
     case measure => exact Nat.lt_of_lt_of_le (Nat.lt_succ_self _) jh.out
     case rel => exact ⟨pre ++ [k], rest, Aq, cq, (by simp), (by rw [hw1]), (by rw [sU]; rw [agr]), (by rw [sV]; simp [zD]), ⟨by rw [List.append_assoc]; exact HE.out⟩, Nat.le_refl _, ⟨S.out.bW.bW.aT.aT.aT.aT.aT.aT.aT⟩⟩
    ·have h2b : (ck == 2) = false := beq_eq_false_iff_ne.mpr h2
     have h2d : decide (ck = 2) = false := decide_eq_false h2
     by_cases h3 : ck = 3
     ·subst h3
      obtain ⟨gY, iM, iO, iC, iD, jv, jw⟩ := St.yD S
      have bg := (S.out.at (.tail _ (.head _)) 6).trans rfl
      go_wp2_with (first
       | ((with_reducible refine aj 30 rfl ?_); refine sO (some 30) Try.func67 S (IH.out k HK.out _ ua uc _ _ _ (dO (S.out.tree _ (.head _)))) ?_; clear S; intro A30 acV zI S; clear gY iM iO iC iD jv jw bg)
       | ((with_reducible refine aj 32 rfl ?_); at_builtin; go_loud (refine Bd (.tmp 22) (.tmp 31) rfl rfl Try.underlying24 info26 S.out (aX k (nD 3 pre x) (nG 3 pre y)) (.head _) rfl (by first | (go_simp; done) | (go_simp; rfl)) (by have := tH.out; rw [qL]; omega) ?_); intro Aq cq yB S1; rw [← Aj 3 k pre x y] at S1 ⊢; rw [qL] at S1 ⊢; replace S := ae.mk S1; clear S1; have bD := (S.out.at (.tail _ (.head _)) 0).trans rfl; have bg := (S.out.at (.tail _ (.head _)) 6).trans rfl; have iD := (S.out.cell _ (.tail _ (.tail _ (.tail _ (.tail _ (.head _)))))).1)
       | fail)
      clear bD bg iD
      have hw1 := HW1.out
      go_wp2
      go_roundg rest.length
      case measure => exact Nat.lt_of_lt_of_le (Nat.lt_succ_self _) jh.out
      case rel => exact ⟨pre ++ [k], rest, Aq, cq, (by simp), (by rw [hw1]), (by rw [sU]; simp [zC]), (by rw [sV]; rw [ags]), ⟨by rw [List.append_assoc]; exact HE.out⟩, Nat.le_refl _, ⟨S.out.bW.bW.aT.aT.aT.aT.aT.aT.aT⟩⟩
     ·have h3b : (ck == 3) = false := beq_eq_false_iff_ne.mpr h3
      have h3d : decide (ck = 3) = false := decide_eq_false h3
      have H2 := ae.mk h2
      have H3 := ae.mk h3
      clear h2 h3
      obtain ⟨gY, iM, iO, iC, iD, jv, jw⟩ := St.yD S
      have bg := (S.out.at (.tail _ (.head _)) 6).trans rfl
      go_wp2_with (first
       | ((with_reducible refine aj 30 rfl ?_); refine sO (some 30) Try.func67 S (IH.out k HK.out _ ua uc _ _ _ (dO (S.out.tree _ (.head _)))) ?_; clear S; intro A30 acV AU S; clear gY iM iO iC iD jv jw bg)
       | ((with_reducible refine aj 32 rfl ?_); at_builtin; go_loud (refine Bd (.tmp 22) (.tmp 31) rfl rfl Try.underlying24 info26 S.out (aX k (nD ck pre x) (nG ck pre y)) (.head _) rfl (by first | (go_simp; done) | (go_simp; rfl)) (by have := tH.out; rw [qL]; omega) ?_); intro Aq cq zJ S1; rw [← Aj ck k pre x y] at S1 ⊢; rw [qL] at S1 ⊢; replace S := ae.mk S1; clear S1; have bD := (S.out.at (.tail _ (.head _)) 0).trans rfl)
       | fail)
      clear bD
      have hw1 := HW1.out
      go_wp2
      go_roundg rest.length
      case measure => exact Nat.lt_of_lt_of_le (Nat.lt_succ_self _) jh.out
      case rel => exact ⟨pre ++ [k], rest, Aq, cq, (by simp), (by rw [hw1]), (by rw [sU]; unfold zC; rw [if_neg H2.out]), (by rw [sV]; unfold zD; rw [if_neg H2.out, if_neg H3.out]), ⟨by rw [List.append_assoc]; exact HE.out⟩, Nat.le_refl _, ⟨S.out.bW.bW.aT.aT.aT.aT.aT.aT.aT⟩⟩
end Go.Proofs.Ytfdmfgaiblfbhaa.P
namespace Go.Proofs.Ytfdmfgaiblfbhaa.Pure
open Go.RowKit Go.Proofs.Ytfdmfgaiblfbhaa.P Go.Proofs.ag.aW Go.Proofs.ag.dA Go.Proofs.ag.dU
theorem WW {b : Int} {gs : List Int} {r : List Int × Bool} (h : BK b gs r) : r.2 = false → r.1 = [] := by
 rcases h with ⟨rfl, _⟩ | ⟨rfl, _⟩ | ⟨qs, rfl, _⟩ <;> simp
theorem aeS (b : Int) (gs : List Int) (hl : gs.length ≤ 100000) (h0 : -100000 ≤ b) (h1 : b ≤ 100000) (r : List Int × Bool) (h : BK b gs r) : Ev (fun k => l9.f k b gs) r := by
 unfold l9.f
 refine Ev.jW ⟨h0, h1, hl⟩ ?_
 rcases h with ⟨rfl, h⟩ | ⟨rfl, hne, hg, hb⟩ | ⟨qs, rfl, hg, hb, hf, hq, he, ho, hr⟩
 ·rcases h with h | h | ⟨h, h2⟩
  ·exact Ev.jW h (Ev.now _)
  ·refine Ev.jq ?_ (Ev.jq h (Ev.now _))
   rintro rfl
   exact h fun g hg => by cases hg
  ·by_cases hne : gs = []
   ·exact Ev.jW hne (Ev.now _)
   ·refine Ev.jq hne (Ev.jW h ?_)
    have ht := zH gs fun g hg => (h g hg).1
    have := U4 (-b).toNat (-b) (gs.map fun g => (g, 0)) rfl (Il h) (by rw [Fv]; omega) (by omega)
    rw [Int.neg_neg] at this
    exact this
 ·exact Ev.jq hne (Ev.jW hg (XC b gs hb hne))
 ·refine Ev.jq ?_ (Ev.jW hg hr)
  rintro rfl
  have : qs = [] := List.map_eq_nil_iff.1 hf
  subst this
  simp [outs] at ho
  omega
theorem J_ : ∀ (a b : List ai), gJ (a ++ b) = true → gJ b = true := by
 intro a
 induction a with
 | nil => intro b h; exact h
 | cons x xs ih =>
  intro b h
  rw [List.cons_append] at h
  simp only [gJ, Bool.and_eq_true] at h
  exact ih b h.2
theorem Ko (a b : List ai) (h : gJ (a ++ b) = true) : gJ a = true := by
 cases ha : gJ a with
 | true => rfl
 | false => rw [yw a b ha] at h; cases h
theorem aa8 {c x : ai} (h : lZ c = true) (hx : x ∈ c.f3) : lZ x = true := by
 have hs := oZ h
 have hok := xI h
 have h1 := Vm hx
 have h2 := dL c
 have hd : gJ (oH c) = true := by
  unfold lZ at h
  simp only [Bool.and_eq_true] at h
  exact h.2.2
 unfold lZ
 rw [decide_eq_true (by omega), Jg hok hx, Bool.true_and, Bool.true_and]
 obtain ⟨p, q, e⟩ := List.append_of_mem hx
 have e2 : iH c = (c :: allL p) ++ (iH x ++ allL q) := by rw [uU, e, BN, oP]; rfl
 unfold oH at hd ⊢
 rw [e2, List.filter_append, List.filter_append] at hd
 exact Ko _ _ (J_ _ _ hd)
theorem Vp {c x : ai} (h : eP c = true) (hx : x ∈ c.f3) : eP x = true := by
 have hm := qA h
 unfold eP at h ⊢
 simp only [Bool.and_eq_true] at h
 rw [aa8 hm hx, AP h.2 hx]
 rfl
theorem JP {ax : Int} (hax : ax = 1 ∨ ax = 2) {c : ai} (h : eP c = true) : fD ax c = bM ax c.f1 - dX ax c ∧ 0 ≤ bM ax c.f1 - dX ax c ∧ 1 ≤ dX ax c ∧ bM ax c.f1 ≤ 10000 := by
 have hm := qA h
 have hB : lT c = true := by
  unfold eP at h
  simp only [Bool.and_eq_true] at h
  exact h.2
 have f := CV hax (sz c) c (Nat.le_refl _) (oZ hm) (xI hm)
 have g := f.2 hB
 have r := xN (Bq (wY (xI hm))) hax
 unfold fD
 rw [if_pos ⟨hax, h⟩, wq (by omega) (by omega)]
 omega
end Go.Proofs.Ytfdmfgaiblfbhaa.Pure
namespace Go.Proofs.Ytfdmfgaiblfbhaa.P
open Go.RowKit Go.Proofs.ag.aW Go.Proofs.ag.dA Go.Proofs.ag.dU
section
variable {W : World} {b : Nat} {P : Nat → Prop} {A : Option Addr} {cc : Nat}
theorem w_ (r : dW) (ax : Int) : Calls Try.prog 87 #[.agg #[.int .i64 r.f0, .int .i64 r.f1, .int .i64 r.f2, .int .i64 r.f3], .int .u8 ax] W fun e w' => e = .returned (.int .i64 (bM ax r)) ∧ Below W.heap.size W w' :=
 qm.calls r.f0 r.f1 r.f2 r.f3 ax _ W (Rj r ax)
theorem Ri (c : ai) (ax : Int) (hz : sz c ≤ 1048576) (ht : eP c = true) (hV : Kd.V k26 26 W b P (.slice A c.f3.length cc) c.f3) :
  Calls Try.prog 152 #[.agg #[.int .u8 c.f0, .int .i64 c.f1.f0, .int .i64 c.f1.f1, .int .i64 c.f1.f2, .int .i64 c.f1.f3, .int .i64 c.f2, .slice A c.f3.length cc], .int .u8 ax] W fun e w' => e = .returned (.int .i64 (dX ax c)) ∧ Below W.heap.size W w' := by
 exact agk ax _ c (Nat.le_refl _) hz (xI (qA ht)) b P A cc W hV
theorem Xz (c : ai) (ax : Int) (hV : Kd.V k26 26 W b P (.slice A c.f3.length cc) c.f3) :
  Calls Try.prog 88 #[.agg #[.int .u8 c.f0, .int .i64 c.f1.f0, .int .i64 c.f1.f1, .int .i64 c.f1.f2, .int .i64 c.f1.f3, .int .i64 c.f2, .slice A c.f3.length cc], .int .u8 ax] W fun e w' => e = .returned (.bool (jC ax c.f0)) ∧ Below W.heap.size W w' := by
 have h := Kd.jY hV
 exact o7.calls _ _ _ _ _ _ A cc c.f3 ax _ W h.2.2 h.2.1 (Fg c ax)
theorem H_ (c : ai) (x y : Int) (hz : sz c ≤ 1000000) (hV : Kd.V k26 26 W b P (.slice A c.f3.length cc) c.f3) :
  Calls Try.prog 67 #[.agg #[.int .u8 c.f0, .int .i64 c.f1.f0, .int .i64 c.f1.f1, .int .i64 c.f1.f2, .int .i64 c.f1.f3, .int .i64 c.f2, .slice A c.f3.length cc], .int .i64 x, .int .i64 y] W (BL W P (aX c x y)) := by
 exact aeX 1000000 c hz (Nat.le_refl _) P A cc x y W (dO hV)
theorem U_ (b : Int) (gs : List Int) (hl : gs.length ≤ 100000) (h0 : -100000 ≤ b) (h1 : b ≤ 100000) (hC : Kd.C (Kd.int .i64) W A gs.length gs) (hc : gs.length ≤ cc) :
  Calls Try.prog 50 #[.int .i64 b, .slice A gs.length cc] W fun e w' => ∃ A' c', e = .returned (.tuple #[.slice A' (qw b gs).1.length c', .bool (qw b gs).2]) ∧ (Kd.int .i64).R 3 w' W.heap.size (fun _ => True) (.slice A' (qw b gs).1.length c') (qw b gs).1 ∧ Below W.heap.size W w' := by
 obtain ⟨k, hk⟩ := (Pure.aeS b gs hl h0 h1 _ (zF b gs hl (by omega) (by omega)).1).rounds
 exact (l9.calls k b A cc gs _ _ W hC hc hk).mono (fun e w' ⟨v, he, hR, hB⟩ => by
  obtain ⟨A', c', rfl⟩ := Kd.fQ hR
  exact ⟨A', c', he, hR, hB⟩)
end
theorem ae1 {b : Int} {gs : List Int} (hl : gs.length ≤ 100000) (h0 : -2147483647 ≤ b) (h1 : b ≤ 2147483647) (h : (qw b gs).2 = false) : (qw b gs).1 = [] := Pure.WW (zF b gs hl h0 h1).1 h
theorem Vk {b : Int} {gs : List Int} (hl : gs.length ≤ 100000) (h0 : -100000 ≤ b) (h1 : b ≤ 100000) (hg : ∀ g, g ∈ gs → g ≤ 100000) : ∀ x, x ∈ (qw b gs).1 → -100000 ≤ x ∧ x ≤ 100000 := by
 intro x hx
 rcases (zF b gs hl (by omega) (by omega)).1 with ⟨e, _⟩ | ⟨e, hne, _, hb⟩ | ⟨qs, e, _, _, hq, hgd, _⟩
 ·rw [e] at hx; cases hx
 ·rw [e] at hx
  simp only [moreL, List.mem_map, List.mem_range] at hx
  obtain ⟨i, hi, rfl⟩ := hx
  have hn : (0 : Int) < (gs.length : Int) := by have := List.length_pos_iff.2 hne; omega
  unfold kU
  have hd : 0 ≤ b / (gs.length : Int) := Int.ediv_nonneg hb (by omega)
  have hm : 0 ≤ b % (gs.length : Int) := Int.emod_nonneg _ (by omega)
  have hdm := Int.mul_ediv_add_emod b (gs.length : Int)
  have hle : b / (gs.length : Int) ≤ (gs.length : Int) * (b / (gs.length : Int)) := by
   have := Int.mul_le_mul_of_nonneg_right (show (1 : Int) ≤ (gs.length : Int) by omega) hd
   omega
  split <;> omega
 ·rw [e] at hx
  simp only [List.mem_map] at hx
  obtain ⟨p, hp, rfl⟩ := hx
  have h2 := hgd p hp
  have h3 := hg p.1 (by rw [← hq]; exact List.mem_map_of_mem hp)
  omega
section
variable {Pr : Program} {ops : Array Oper} {rest : List Oper} {op : Oper} {a : Act} {Q : Exit → Act → World → Prop} {w W : World} {P : Nat → Prop} {bs : List (Option Nat × Obj)} {ow : List (Value × List ai)} {ts : List (Value × List ai)} {ro : List (Addr × Value)}
theorem PK {N : Tmp} (hd : op.dst = some N) (hgd : op.guard = none) (S : St w P bs ow ts ro W) (hrun : (execOp a.eval op).run Pr W = .ok (.value (.slice (some ⟨W.heap.size, 0, none⟩) 0 0)) (W.alloc (.cells #[] 3)))
  (h : ∀ A c o w1, St w P (((Value.slice A 0 c).ownBlock, o) :: bs) ow ts ro w1 → IR w.heap.size (.slice A 0 c) [] o → wpList Pr ops Q rest (a.put op.dst (.slice A 0 c)) w1) : wpList Pr ops Q (op :: rest) a W :=
 Kd.pI (Kd.int .i64) (w0 := W) W.heap.size 3 hgd hd (xs := ([] : List Int)) (inner := []) (ok := fun _ => True) (gm := fun _ => True) hrun (bT.none _ _) (fun _ hk => hk) trivial (Below.refl _ _) (Nat.le_refl _) (by simp) (fun v1 w1 hR hb hg _ => by
  obtain ⟨A, c, rfl⟩ := Kd.fQ hR
  obtain ⟨o, S1, HI⟩ := S.Dc hR (rY hg)
  exact h A c o w1 S1 HI)
end
def xZ.T8 : Bool × List (List Nat × List Nat) := (true, [([], []), ([], []), ([1], [1]), ([], []), ([2, 3], [2, 3]), ([4], [4]), ([5], [5]), ([], []), ([6, 7], [6, 7]), ([], []), ([9], [9]), ([], []), ([10, 11], [10, 11]), ([12], [12]), ([], []), ([13, 14, 8], [13, 14]), ([8, 15], [8, 15]), ([16], [16]), ([0, 17, 15], [0, 17]), ([18, 18, 0, 1, 2, 3, 4, 5, 6, 7, 8, 9, 10, 11, 12, 13, 14, 15, 16, 17, 18], [0, 18])])
def xZ.B8 : List Nat := [0, 0, 2, 0, 14, 30, 62, 0, 254, 0, 512, 0, 3584, 7680, 0, 32766, 65534, 131070, 262143, 524287]
theorem xZ.Oo : iY .any (opsOf Try.f200 8) = xZ.T8 := by kernel_rfl
theorem xZ.GY : iI xZ.T8.2 xZ.B8 = true := by kernel_rfl
theorem VR (ax : Int) (k : ai) (l : List ai) (ns : Nat → Int) : jZ ax (l ++ [k]) ns 0 = jZ ax l ns 0 ++ [dV ax k (ns l.length)] := by rw [JI, Nat.zero_add]
theorem abe (ax : Int) (hax : ax = 1 ∨ ax = 2) : ∀ (N : Nat) (c : ai), sz c ≤ N → N ≤ 100000 → eP c = true → ∀ (bz : Int), (-100000 ≤ bz ∧ bz ≤ 100000) → ∀ (P : Nat → Prop) (A : Option Addr) (cc : Nat) (w : World), Kd.V k26 26 w w.heap.size P (.slice A c.f3.length cc) c.f3 →
  Calls Try.prog 200 #[.agg #[.int .u8 c.f0, .int .i64 c.f1.f0, .int .i64 c.f1.f1, .int .i64 c.f1.f2, .int .i64 c.f1.f3, .int .i64 c.f2, .slice A c.f3.length cc], .int .u8 ax, .int .i64 bz] w (BL w P (dV ax c bz)) := by
 intro N
 induction N with
 | zero => intro c h; rw [dL] at h; omega
 | succ N ih =>
  intro c hc hN ht bz hby P A cc w hv
  have hsz := dL c
  have hlen := jR c.f3
  have hl1 : c.f3.length ≤ 100000 := by omega
  have hkt := fun (k : ai) (hk : k ∈ c.f3) => Pure.Vp ht hk
  have IH := ae.mk fun (k : ai) (hk : k ∈ c.f3) (n : Int) (hn : -100000 ≤ n ∧ n ≤ 100000) P A cc w h => ih k (by have := vw hk; omega) (by omega) (hkt k hk) n hn P A cc w h
  have xx := ae.mk fun (k : ai) (hk : k ∈ c.f3) => (show sz k ≤ 1048576 by have := vw hk; omega)
  have HTK := ae.mk hkt
  have jh := ae.mk fun (k : ai) (hk : k ∈ c.f3) => (show wrap64 (bM ax k.f1 - dX ax k) = fD ax k by unfold fD; rw [if_pos ⟨hax, hkt k hk⟩])
  have hgb : ∀ g, g ∈ c.f3.map (fD ax) → g ≤ 100000 := fun g hg => by
   obtain ⟨k, hk, rfl⟩ := List.mem_map.1 hg
   have := Pure.JP hax (hkt k hk)
   omega
  have gX := ae.mk (show c.f3.length ≤ 1000000 by omega)
  have hsl := P5 (b := bz) (gs := c.f3.map (fD ax)) (by simpa using hl1) (by omega) (by omega)
  have hno := ae1 (b := bz) (gs := c.f3.map (fD ax)) (by simpa using hl1) (by omega) (by omega)
  have hsb := Vk (b := bz) (gs := c.f3.map (fD ax)) (by simpa using hl1) hby.1 hby.2 hgb
  have CQ := fun (Ag : Option Addr) (cg : Nat) (W : World) (hC : Kd.C (Kd.int .i64) W Ag (c.f3.map (fD ax)).length (c.f3.map (fD ax))) (h2 : (c.f3.map (fD ax)).length ≤ cg) => U_ bz (c.f3.map (fD ax)) (by simpa using hl1) hby.1 hby.2 hC h2
  have um : ∀ i, PN ax c.f0 c.f3 bz i = if (qw bz (c.f3.map (fD ax))).2 = true ∧ jC ax c.f0 = true then rd (qw bz (c.f3.map (fD ax))).1 (i : Int) else bz := fun i => rfl
  rw [Iu]
  have S := ae.mk (St.start (ts := [(.slice A c.f3.length cc, c.f3)]) (b0 := w.heap.size) (w := w) (P := P) (fun t ht => by rw [List.mem_singleton.1 ht]; exact hv))
  obtain ⟨ck, ⟨cx, cy, cw, ch⟩, ay, l⟩ := c
  simp only [] at S IH xx HTK jh gX hsl hno hsb CQ um hl1 ⊢
  obtain ⟨gw, hgw⟩ : ∃ gw, gw = if ax = 1 then wrap64 (cw + bz) else cw := ⟨_, rfl⟩
  obtain ⟨gh, hgh⟩ : ∃ gh, gh = if ax = 1 then ch else wrap64 (ch + bz) := ⟨_, rfl⟩
  simp only [grow]
  rw [← hgw, ← hgh]
  generalize PN ax ck l bz = NS at um ⊢
  obtain ⟨⟨sl, ok⟩, hsp⟩ : ∃ sp, sp = qw bz (l.map (fD ax)) := ⟨_, rfl⟩
  simp only [← hsp, List.length_map] at hsl hno hsb CQ um
  have HNB := ae.mk (show ∀ i, i < l.length → -100000 ≤ NS i ∧ NS i ≤ 100000 from fun i hi => by
   rw [um i]
   split
   ·rename_i h
    exact hsb _ (by unfold rd; rw [List.getD_eq_getElem?_getD, List.getElem?_eq_getElem (by rw [hsl h.1]; simpa using hi)]; exact List.getElem_mem _)
   ·exact hby)
  obtain ⟨SL, YH⟩ : ∃ SL, SL = if jC ax ck = true then sl else [] := ⟨_, rfl⟩
  have Fa := ae.mk (show ∀ i, i < l.length → NS i = if 0 < SL.length then rd SL (i : Int) else bz from fun i hi => by
   rw [um i, YH]
   cases ha : jC ax ck with
   | false => simp
   | true =>
    cases ok with
    | false => rw [hno rfl]; simp
    | true => rw [if_pos ⟨rfl, rfl⟩, if_pos rfl, if_pos (by rw [hsl rfl]; omega)])
  have aha := ae.mk (show 0 < SL.length → SL.length = l.length by
   intro h
   rw [YH] at h ⊢
   cases ha : jC ax ck with
   | false => rw [ha] at h; simp at h
   | true =>
    rw [ha] at h
    cases ok with
    | false => rw [hno rfl] at h; simp at h
    | true => rw [if_pos rfl, hsl rfl])
  have yT := ae.mk YH
  have Sj := ae.mk CQ
  have E_ := ae.mk hgw
  have K_ := ae.mk hgh
  clear ih hc hN hby hv hsz hlen hsl hno hsb hgb hkt ht CQ um hgw hgh hsp hl1 YH
  go_enter Try.func200, Try.ntmps200
  go_upto_if 14 with (first
   | ((with_reducible refine aj 3 rfl ?_); refine boxS 3 #[.int .u8 ck, .int .i64 cx, .int .i64 cy, .int .i64 cw, .int .i64 ch, .int .i64 ay, .slice A l.length cc] 26 S ?_; clear S; intro b3 eH S)
   | ((with_reducible refine aj 6 rfl ?_); refine boxS 6 #[.int .u8 0, .int .i64 0, .int .i64 0, .int .i64 0, .int .i64 0, .int .i64 0, .slice none 0 0] 26 S ?_; clear S; intro b6 fG S)
   | fail)
  go_cut [] (fun wc => ae (St w P [(some b6, .cells #[.int .u8 0, .int .i64 0, .int .i64 0, .int .i64 0, .int .i64 0, .int .i64 0, .slice none 0 0] 26 (0, 0)), (some b3, .cells #[.int .u8 ck, .int .i64 cx, .int .i64 cy, .int .i64 gw, .int .i64 gh, .int .i64 ay, .slice A l.length cc] 26 (0, 0))] [] [(.slice A l.length cc, l)] [] wc))
  case first =>
   by_cases hx : ax = 1
   ·have hxb : (ax == 1) = true := beq_iff_eq.mpr hx
    have HX := ae.mk hx
    clear hx
    have bH := (S.out.at (.tail _ (.head _)) 3).trans rfl
    go_wp2_with (first
     | ((with_reducible refine dB 3 (.tmp 21) (.tmp 19) rfl ?_); refine oh 3 21 19 #[.int .u8 ck, .int .i64 cx, .int .i64 cy, .int .i64 (wrap64 (cw + bz)), .int .i64 ch, .int .i64 ay, .slice A l.length cc] 3 1 S ?_; clear S; intro gV S; clear bH)
     | fail)
    go_meet
    case rel => rw [E_.out, K_.out, if_pos HX.out, if_pos HX.out]; exact S
   ·have hxb : (ax == 1) = false := beq_eq_false_iff_ne.mpr hx
    have HX := ae.mk hx
    clear hx
    have dG := (S.out.at (.tail _ (.head _)) 4).trans rfl
    go_wp2_with (first
     | ((with_reducible refine dB 3 (.tmp 28) (.tmp 26) rfl ?_); refine oh 3 28 26 #[.int .u8 ck, .int .i64 cx, .int .i64 cy, .int .i64 cw, .int .i64 (wrap64 (ch + bz)), .int .i64 ay, .slice A l.length cc] 4 1 S ?_; clear S; intro jB S; clear dG)
     | fail)
    go_meet
    case rel => rw [E_.out, K_.out, if_neg HX.out, if_neg HX.out]; exact S
  case rest =>
   clear S E_ K_
   rename World => wx
   have S := hcut
   clear hcut
   go_wp2_with (first
    | ((with_reducible refine aC (N := 29) rfl ?_); refine PK (N := 29) rfl rfl S.out ?hr ?_; (case hr => first | (go_simp; done) | (go_simp; rfl)); intro akY ale alD lQ S1 h1; replace S := ae.mk S1; have Ya := ae.mk h1; clear S1 h1; have bg := (S.out.at (.tail _ (.tail _ (.head _))) 6).trans rfl)
    | fail)
   clear bg
   go_loopg [7, 33] l.length (fun gg v7 v33 wr => ∃ (pre rest : List ai) (Ag : Option Addr) (cg : Nat) (og : Obj), v7 = .slice Ag pre.length cg ∧ v33 = .int .i64 (pre.length : Int) ∧ ae (pre ++ rest = l) ∧ rest.length ≤ gg ∧ ae (IR w.heap.size (.slice Ag pre.length cg) (pre.map (fD ax)) og) ∧ ae (St w P [((Value.slice Ag pre.length cg).ownBlock, og), (some b6, .cells #[.int .u8 0, .int .i64 0, .int .i64 0, .int .i64 0, .int .i64 0, .int .i64 0, .slice none 0 0] 26 (0, 0)), (some b3, .cells #[.int .u8 ck, .int .i64 cx, .int .i64 cy, .int .i64 gw, .int .i64 gh, .int .i64 ay, .slice A l.length cc] 26 (0, 0))] [] [(.slice A l.length cc, l)] [] wr))
   case atStart => exact ⟨[], l, _, _, _, rfl, rfl, ⟨rfl⟩, Nat.le_refl _, ⟨Ya.out⟩, ⟨S.out⟩⟩
   case round =>
    clear S Ya
    obtain ⟨pre, rest, Ag, cg, og, rfl, rfl, HE, hgg, HI, S⟩ := hrel
    cases rest with
    | nil =>
     have hE := HE.out
     rw [List.append_nil] at hE
     have hE2 := hE.symm
     subst hE2
     clear hE HE hgg
     have hlt : ¬ ((l.length : Int) < (l.length : Int)) := by omega
     have JR := fun W hW => Sj.out Ag cg W (by have h := (Kd.dn (HI.out W hW)).2.2; rw [List.length_map] at h; exact h) (by have h := (Kd.dn (HI.out W hW)).2.1; exact h)
     have Yf := ae.mk JR
     clear JR Sj
     go_upto_if 59 with (first
      | ((with_reducible refine aC (N := 56) rfl ?_); refine PK (N := 56) rfl rfl S.out ?hr ?_; (case hr => first | (go_simp; done) | (go_simp; rfl)); intro akZ alf alE rG S1 h1; replace S := ae.mk S1; have Yb := ae.mk h1; clear S1 h1; obtain ⟨bD, bF, bG, bH, dG, ed, bg⟩ := St.eY S (.tail _ (.tail _ (.tail _ (.head _)))))
      | ((with_reducible refine aj 59 rfl ?_); refine dF (some 59) Try.func88 S (Xz ⟨ck, ⟨cx, cy, gw, gh⟩, ay, l⟩ ax (S.out.tree _ (.head _))) ?_; clear S; intro vG S; clear bD bF bG bH dG ed bg)
      | fail)
     (try simp only [Act.put, List.setIfInBounds_toArray, List.set_cons_zero, List.set_cons_succ])
     go_cut [9] (fun v9 wc => ∃ (A9 : Option Addr) (c9 : Nat) (o9 : Obj), v9 = .slice A9 SL.length c9 ∧ ae (IR w.heap.size (.slice A9 SL.length c9) SL o9) ∧ ae (St w P [((Value.slice A9 SL.length c9).ownBlock, o9), (some b6, .cells #[.int .u8 0, .int .i64 0, .int .i64 0, .int .i64 0, .int .i64 0, .int .i64 0, .slice none 0 0] 26 (0, 0)), (some b3, .cells #[.int .u8 ck, .int .i64 cx, .int .i64 cy, .int .i64 gw, .int .i64 gh, .int .i64 ay, .slice A l.length cc] 26 (0, 0))] [] [(.slice A l.length cc, l)] [] wc))
     case first =>
      cases ha : jC ax ck with
      | false =>
       have hs : SL = [] := by rw [yT.out, ha]; simp
       go_wp2
       go_meet
       case rel => rw [hs]; exact ⟨_, _, _, rfl, ⟨Yb.out⟩, ⟨S.out.Ig.eF⟩⟩
      | true =>
       have hs : SL = sl := by rw [yT.out, ha]; simp
       go_wp2_with (first
        | ((with_reducible refine aj 63 rfl ?_); refine kR (some 63) Try.func50 (Yf.out _ (S.out.blk _ (.tail _ (.head _)))) ?_; rintro e yf ⟨As, cs, rfl, h1, hb⟩; refine ⟨_, rfl, ?_⟩; obtain ⟨os, S1, HI1⟩ := S.out.Dc h1 hb; replace S := ae.mk S1; have HIS := ae.mk HI1; clear S1 HI1 h1 hb)
        | fail)
       go_meet
       case rel => rw [hs]; exact ⟨_, _, _, rfl, ⟨HIS.out⟩, ⟨S.out.Ig.eF.Ig.eF⟩⟩
     case rest =>
      clear S Yf yT Yb HI
      obtain ⟨A9, c9, o9, rfl, HI9, S⟩ := hcut
      rename World => wz
      go_wp2_with (first
       | ((with_reducible refine aC (N := 66) rfl ?_); refine zk (N := 66) rfl rfl S.out ?hr ?_; (case hr => first | (go_simp; done) | (go_simp; rfl)); intro Ao co BF S1; replace S := ae.mk S1; clear S1; have bg := (S.out.at (.tail _ (.tail _ (.head _))) 6).trans rfl)
       | fail)
      clear bg
      go_loopg [10, 70] l.length (fun gg v10 v70 wr => ∃ (pre rest : List ai) (Ap : Option Addr) (cp : Nat), v10 = .slice Ap (jZ ax pre NS 0).length cp ∧ v70 = .int .i64 (pre.length : Int) ∧ ae (pre ++ rest = l) ∧ rest.length ≤ gg ∧ ae (St w P [((Value.slice A9 SL.length c9).ownBlock, o9), (some b6, .cells #[.int .u8 0, .int .i64 0, .int .i64 0, .int .i64 0, .int .i64 0, .int .i64 0, .slice none 0 0] 26 (0, 0)), (some b3, .cells #[.int .u8 ck, .int .i64 cx, .int .i64 cy, .int .i64 gw, .int .i64 gh, .int .i64 ay, .slice A l.length cc] 26 (0, 0))] [(.slice Ap ((jZ ax pre NS 0).length) cp, (jZ ax pre NS 0))] [(.slice A l.length cc, l)] [] wr))
      case atStart => exact ⟨[], l, Ao, co, (by rw [wR]; rfl), rfl, ⟨rfl⟩, Nat.le_refl _, ⟨by rw [wR]; exact S.out⟩⟩
      case round =>
       clear S
       obtain ⟨pre, rest, Ap, cp, rfl, rfl, HE, hgg, S⟩ := hrel
       cases rest with
       | nil =>
        have hE := HE.out
        rw [List.append_nil] at hE
        have hE2 := hE.symm
        subst hE2
        clear hE HE hgg
        have hlt : ¬ ((l.length : Int) < (l.length : Int)) := by omega
        go_wp2_with (first
         | ((with_reducible refine dB 24 (.tmp 94) (.tmp 93) rfl ?_); refine Oa 24 94 93 #[.int .u8 ck, .int .i64 cx, .int .i64 cy, .int .i64 gw, .int .i64 gh, .int .i64 ay, .slice Ap ((jZ ax l NS 0).length) cp] 6 1 S ?_; clear S; intro zI S; obtain ⟨bD, bF, bG, bH, dG, ed, bg⟩ := St.eY S (.tail _ (.tail _ (.head _))))
         | ((with_reducible refine dB 26 (.tmp 6) (.tmp 95) rfl ?_); refine oh 26 6 95 #[.int .u8 ck, .int .i64 cx, .int .i64 cy, .int .i64 gw, .int .i64 gh, .int .i64 ay, .slice Ap ((jZ ax l NS 0).length) cp] 0 7 S ?_; clear S; intro yB S; clear bD bF bG bH dG ed bg)
         | fail)
        refine bodyPost_ret (results_cell_row rfl _ _ b6 26 #[.int .u8 ck, .int .i64 cx, .int .i64 cy, .int .i64 gw, .int .i64 gh, .int .i64 ay, .slice Ap ((jZ ax l NS 0).length) cp] (0, 0) _ rfl (S.out.blk _ (.tail _ (.head _)) _ rfl) Try.underlying26 rfl (by kernel_rfl)) rfl ?_
        exact ⟨_, _, rfl, S.out.tK, S.out.below⟩
       | cons k rest =>
        have hk : k ∈ l := by rw [← HE.out]; simp
        have hlt : (pre.length : Int) < (l.length : Int) := by rw [← HE.out, List.length_append, List.length_cons]; omega
        have hw1 : wrap64 ((pre.length : Int) + 1) = ((pre ++ [k]).length : Int) := by have := gX.out; rw [List.length_append, List.length_singleton]; unfold wrap64; omega
        have HW1 := ae.mk hw1
        have VI := ae.mk hgg
        have HK := ae.mk hk
        have tq := ae.mk (xx.out k hk)
        have HKT := ae.mk (HTK.out k hk)
        have HGV := ae.mk (jh.out k hk)
        have tH := ae.mk (show pre.length ≤ 1000000 by have := gX.out; omega)
        have HJ := ae.mk (show pre.length < l.length by omega)
        obtain ⟨dM, ua, uc, ek, S1⟩ := S.out.elem (.head _) (pre.length : Int) (Int.natCast_nonneg _) hlt
        subst ek
        have hrd : aG l (pre.length : Int) = k := by rw [← HE.out]; exact jF pre k rest
        rw [hrd] at S1
        simp only [Int.toNat_natCast] at S1
        replace S := ae.mk S1
        clear S1 hrd hk hgg hw1
        go_upto_if 76 with fail
        (try simp only [Act.put, List.setIfInBounds_toArray, List.set_cons_zero, List.set_cons_succ])
        go_cut [12] (fun v12 wc => v12 = .int .i64 (NS pre.length) ∧ ae (St w P [((Value.slice A9 SL.length c9).ownBlock, o9), (some b6, .cells #[.int .u8 0, .int .i64 0, .int .i64 0, .int .i64 0, .int .i64 0, .int .i64 0, .slice none 0 0] 26 (0, 0)), (some b3, .cells #[.int .u8 ck, .int .i64 cx, .int .i64 cy, .int .i64 gw, .int .i64 gh, .int .i64 ay, .slice (some dM) l.length cc] 26 (0, 0))] [(.slice Ap ((jZ ax pre NS 0).length) cp, (jZ ax pre NS 0))] [(.slice ua k.f3.length uc, k.f3), (.slice (some dM) l.length cc, l)] [((dM.add (pre.length * 7)), .int .u8 k.f0), (⟨(dM.add (pre.length * 7)).block, (dM.add (pre.length * 7)).off + 1, none⟩, .int .i64 k.f1.f0), (⟨(dM.add (pre.length * 7)).block, (dM.add (pre.length * 7)).off + 2, none⟩, .int .i64 k.f1.f1), (⟨(dM.add (pre.length * 7)).block, (dM.add (pre.length * 7)).off + 3, none⟩, .int .i64 k.f1.f2), (⟨(dM.add (pre.length * 7)).block, (dM.add (pre.length * 7)).off + 4, none⟩, .int .i64 k.f1.f3), (⟨(dM.add (pre.length * 7)).block, (dM.add (pre.length * 7)).off + 5, none⟩, .int .i64 k.f2), (⟨(dM.add (pre.length * 7)).block, (dM.add (pre.length * 7)).off + 6, none⟩, .slice ua k.f3.length uc)] wc))
        case first =>
         by_cases hp : (SL.length : Int) > 0
         ·have hpd : decide ((SL.length : Int) > 0) = true := decide_eq_true hp
          have hpe : decide (0 < (SL.length : Int)) = true := decide_eq_true hp
          have Uu : decide (0 < SL.length) = true := decide_eq_true (by omega)
          have hlt2 : (pre.length : Int) < (SL.length : Int) := by rw [aha.out (by omega)]; exact hlt
          obtain ⟨SH, ea, _⟩ := Kd.iq (Kd.dn (HI9.out _ (S.out.blk _ (.head _)))).2.2 (pre.length : Int) (Int.natCast_nonneg _) hlt2
          subst ea
          have HP := ae.mk hp
          rw [Uu]
          clear hp hpd hpe Uu
          have xs := BH HI9.out (S.out.blk _ (.head _)) pre.length hlt2
          go_wp2
          clear xs
          go_meet
          case rel => exact ⟨by rw [Fa.out _ HJ.out, if_pos (by have := HP.out; omega)], S⟩
         ·have hpd : decide ((SL.length : Int) > 0) = false := decide_eq_false hp
          have hpe : decide (0 < (SL.length : Int)) = false := decide_eq_false hp
          have Uu : decide (0 < SL.length) = false := decide_eq_false (by omega)
          have HP := ae.mk hp
          rw [Uu]
          clear hp hpd hpe Uu
          go_wp2
          go_meet
          case rel => exact ⟨by rw [Fa.out _ HJ.out, if_neg (by have := HP.out; omega)], S⟩
        case rest =>
         clear S
         obtain ⟨rfl, S⟩ := hcut
         rename World => wy
         obtain ⟨gY, iM, iO, iC, iD, jv, jw⟩ := St.yD S
         have bg := (S.out.at (.tail _ (.tail _ (.head _))) 6).trans rfl
         go_wp2_with (first
          | ((with_reducible refine aj 89 rfl ?_); refine sO (some 89) Try.func200 S (IH.out k HK.out (NS pre.length) (HNB.out _ HJ.out) _ ua uc _ (dO (S.out.tree _ (.head _)))) ?_; clear S; intro Av cv AU S; clear gY iM iO iC iD jv jw bg)
          | ((with_reducible refine aC (N := 91) rfl ?_); at_builtin; go_loud (refine Bd (.tmp 81) (.tmp 90) rfl rfl Try.underlying24 info26 S.out (dV ax k (NS pre.length)) (.head _) rfl (by first | (go_simp; done) | (go_simp; rfl)) (by have := tH.out; rw [wQ]; omega) ?_); intro Aq cq zJ S1; rw [← VR] at S1 ⊢; replace S := ae.mk S1; clear S1)
          | fail)
         have hw1 := HW1.out
         go_wp2
         go_roundg rest.length
         case measure => exact Nat.lt_of_lt_of_le (Nat.lt_succ_self _) VI.out
         case rel => exact ⟨pre ++ [k], rest, Aq, cq, (by simp), (by rw [hw1]), ⟨by rw [List.append_assoc]; exact HE.out⟩, Nat.le_refl _, ⟨S.out.bW.bW.aT.aT.aT.aT.aT.aT.aT⟩⟩
    | cons k rest =>
     have hk : k ∈ l := by rw [← HE.out]; simp
     have hlt : (pre.length : Int) < (l.length : Int) := by rw [← HE.out, List.length_append, List.length_cons]; omega
     have hw1 : wrap64 ((pre.length : Int) + 1) = ((pre ++ [k]).length : Int) := by have := gX.out; rw [List.length_append, List.length_singleton]; unfold wrap64; omega
     have HW1 := ae.mk hw1
     have VI := ae.mk hgg
     have HK := ae.mk hk
     have tq := ae.mk (xx.out k hk)
     have HKT := ae.mk (HTK.out k hk)
     have HGV := ae.mk (jh.out k hk)
     have tH := ae.mk (show pre.length ≤ 1000000 by have := gX.out; omega)
     have HJ := ae.mk (show pre.length < l.length by omega)
     obtain ⟨dM, ua, uc, ek, S1⟩ := S.out.elem (.head _) (pre.length : Int) (Int.natCast_nonneg _) hlt
     subst ek
     have hrd : aG l (pre.length : Int) = k := by rw [← HE.out]; exact jF pre k rest
     rw [hrd] at S1
     simp only [Int.toNat_natCast] at S1
     replace S := ae.mk S1
     clear S1 hrd hk hgg hw1
     go_wp2
     refine iR (n := 20) (S := fun w' => St w _ _ _ _ _ w') (ds := [18]) (bA 20 0) (by kernel_rfl) rfl rfl (S.out.eF.call (bC (Below.refl _ _))) (fun hHeld => ?_); refine fJ xZ.Oo xZ.GY (fun ak dZ => ?_)
     replace S := ae.mk (S.out.call (bC (Below.refl _ _)))
     generalize wr.drew = ahV at S hHeld ⊢
     refine au 0 36 (bA 20 1) ak ?_
     refine au 1 37 (bA 20 3) ak ?_
     refine dE 2 38 (bA 20 7) ak dZ hHeld ?_ (hv := by intro w' hs_; have bg := (hs_.at (.tail _ (.head _)) 6).trans rfl; go_simp; with_reducible rfl)
     refine au 3 39 (bA 20 15) ak ?_
     refine au 4 40 (bA 20 31) ak ?_
     refine au 5 41 (bA 20 63) ak ?_
     refine dE 6 42 (bA 20 127) ak dZ hHeld ?_ (hv := by intro w' hs_; have iM := (hs_.cell _ (.tail _ (.head _))).1; have iO := (hs_.cell _ (.tail _ (.tail _ (.head _)))).1; have iC := (hs_.cell _ (.tail _ (.tail _ (.tail _ (.head _))))).1; have iD := (hs_.cell _ (.tail _ (.tail _ (.tail _ (.tail _ (.head _)))))).1; go_simp; with_reducible rfl)
     refine au 7 43 (bA 20 255) ak ?_
     refine au 9 45 (bA 20 767) ak ?_
     refine dE 10 46 (bA 20 1791) ak dZ hHeld ?_ (hv := by intro w' hs_; have bg := (hs_.at (.tail _ (.head _)) 6).trans rfl; go_simp; with_reducible rfl)
     refine au 11 47 (bA 20 3839) ak ?_
     refine au 12 48 (bA 20 7935) ak ?_
     refine dE 13 49 (bA 20 16127) ak dZ hHeld ?_ (hv := by intro w' hs_; have gY := (hs_.cell _ (.head _)).1; have iM := (hs_.cell _ (.tail _ (.head _))).1; have iO := (hs_.cell _ (.tail _ (.tail _ (.head _)))).1; have iC := (hs_.cell _ (.tail _ (.tail _ (.tail _ (.head _))))).1; have iD := (hs_.cell _ (.tail _ (.tail _ (.tail _ (.tail _ (.head _)))))).1; have jv := (hs_.cell _ (.tail _ (.tail _ (.tail _ (.tail _ (.tail _ (.head _))))))).1; have jw := (hs_.cell _ (.tail _ (.tail _ (.tail _ (.tail _ (.tail _ (.tail _ (.head _)))))))).1; go_simp; with_reducible rfl)
     refine au 14 50 (bA 20 32511) ak ?_
     refine gU (i := 8) (N := some 44) (bA 20 32767) rfl rfl (bY ak.out (by kernel_rfl)) (by decide) (fun K hK => ?_)
     refine fK Try.func87 (by kernel_rfl) rfl #[.agg #[.int .i64 k.f1.f0, .int .i64 k.f1.f1, .int .i64 k.f1.f2, .int .i64 k.f1.f3], .int .u8 ax] (by rfl) rfl rfl (by (try simp only [List.map_toArray, List.map_cons, List.map_nil]); first | done | rfl) ?_
     refine (w_ k.f1 ax).mono ?_
     rintro e Gv ⟨rfl, hb⟩
     refine ⟨_, rfl, ?_⟩
     replace S := ae.mk (S.out.call hb)
     clear hb
     refine hK.out _ _ S.out.eF (fun hHeld => ?_)
     clear hK K
     refine dR 44 ?_
     refine gU (i := 15) (N := some 51) (bA 20 65535) rfl rfl (bY ak.out (by kernel_rfl)) (by decide) (fun K hK => ?_)
     refine fK Try.func152 (by kernel_rfl) rfl #[.agg #[.int .u8 k.f0, .int .i64 k.f1.f0, .int .i64 k.f1.f1, .int .i64 k.f1.f2, .int .i64 k.f1.f3, .int .i64 k.f2, .slice ua k.f3.length uc], .int .u8 ax] (by rfl) rfl rfl (by (try simp only [List.map_toArray, List.map_cons, List.map_nil]); first | done | rfl) ?_
     refine (Ri k ax tq.out HKT.out (S.out.tree _ (.head _))).mono ?_
     rintro e Ov ⟨rfl, hb⟩
     refine ⟨_, rfl, ?_⟩
     replace S := ae.mk (S.out.call hb)
     clear hb
     refine hK.out _ _ S.out.eF (fun hHeld => ?_)
     clear hK K
     refine dR 51 ?_
     refine au 16 52 (bA 20 131071) ak ?_
     refine gU (i := 17) (N := some 53) (bA 20 262143) rfl rfl (bY ak.out (by kernel_rfl)) (by decide) (fun K hK => ?_)
     refine Ou (w1 := ?_) (v := ?_) (by rfl) rfl ?_ ?_
     rotate_left 2
     ·go_simp
      constructor
      ·rfl
      ·rfl
     refine hK.out _ _ (S.out.eF.call (gz (Below.refl _ _) _)) (fun hHeld => ?_)
     clear hK K
     refine dR 53 ?_
     refine mO (i := 18) (N := some 54) (bA 20 524287) rfl rfl (bY ak.out (by kernel_rfl)) (by decide) (fun K hK => ?_)
     go_loud (refine VW (.tmp 36) (.tmp 53) (by rfl) rfl Try.underlying41 info3 S.out HI.out (wrap64 (bM ax k.f1 - dX ax k)) rfl rfl (by have := tH.out; simp only [List.length_map]; omega) ?_)
     intro Ag2 cg2 og2 RD S1 I1
     rw [show pre.map (fD ax) ++ [wrap64 (bM ax k.f1 - dX ax k)] = (pre ++ [k]).map (fD ax) by rw [HGV.out]; simp] at S1 I1 ⊢
     rw [show ((pre ++ [k]).map (fD ax)).length = (pre ++ [k]).length by simp] at S1 I1 ⊢
     replace S := ae.mk S1
     have HI2 := ae.mk I1
     clear S1 I1 HI
     refine hK.out _ _ ?_
     clear hK K
     refine dR 54 ?_
     refine au 19 7 (bA 20 1048575) ak ?_
     refine jI (gQ ak.out (by kernel_rfl)) ?_
     clear hHeld
     go_wp2
     have hw1 := HW1.out
     go_wp2
     go_roundg rest.length
     case measure => exact Nat.lt_of_lt_of_le (Nat.lt_succ_self _) VI.out
     case rel => exact ⟨pre ++ [k], rest, Ag2, cg2, og2, (by simp), (by rw [hw1]), ⟨by rw [List.append_assoc]; exact HE.out⟩, Nat.le_refl _, ⟨HI2.out⟩, ⟨S.out.bW.aT.aT.aT.aT.aT.aT.aT⟩⟩
def xY.T9 : Bool × List (List Nat × List Nat) := (true, [([], []), ([], []), ([], []), ([0, 1, 2], [0, 1, 2]), ([], []), ([4], [4]), ([5], [5]), ([], []), ([7], [7]), ([8], [8]), ([3, 6, 9, 3], [3, 6, 9]), ([10, 10, 0, 1, 2, 3, 4, 5, 6, 7, 8, 9, 10], [10]), ([11, 0, 1, 2, 3, 4, 5, 6, 7, 8, 9, 10, 11], [])])
def xY.B9 : List Nat := [0, 0, 0, 7, 0, 16, 48, 0, 128, 384, 1023, 2047, 4095]
theorem xY.Jn : iY .any (opsOf Try.f184 9) = xY.T9 := by kernel_rfl
theorem xY.EJ : iI xY.T9.2 xY.B9 = true := by kernel_rfl
def atR (ax : Int) (r : dW) : Int := if ax = 1 then r.f0 else r.f1
theorem agp {ax : Int} {c : ai} {b : Int} (ht : eP c = true) (hax : ax = 1 ∨ ax = 2) :
  yt ax c b = (decide (b > 10000) || (decide (b < -10000) || (decide (wrap64 (wrap64 (atR ax c.f1 + bM ax c.f1) + b) > 10000) || decide (wrap64 (bM ax c.f1 + b) < dX ax c)))) := by
 have hm := qA ht
 have hr := Bq (wY (xI hm))
 have r := xN hr hax
 have hg := Pure.JP hax ht
 have hw1 : wrap64 (-(fD ax c)) = -(fD ax c) := by rw [hg.1]; unfold wrap64; omega
 have hq : 0 ≤ c.f1.f0 ∧ 0 ≤ c.f1.f1 ∧ c.f1.f0 + c.f1.f2 ≤ 10000 ∧ c.f1.f1 + c.f1.f3 ≤ 10000 ∧ 1 ≤ c.f1.f2 ∧ 1 ≤ c.f1.f3 := by
  unfold n_ rZ at hr
  simp only [Bool.and_eq_true, decide_eq_true_eq] at hr
  omega
 have he : bM ax ⟨0, 0, wrap64 (c.f1.f0 + c.f1.f2), wrap64 (c.f1.f1 + c.f1.f3)⟩ = atR ax c.f1 + bM ax c.f1 := by
  unfold bM atR
  rcases hax with rfl | rfl
  ·simp only [if_true]; unfold wrap64; omega
  ·simp only [show ¬ ((2 : Int) = 1) by decide, if_false, if_true]; unfold wrap64; omega
 have ha : 0 ≤ atR ax c.f1 ∧ atR ax c.f1 + bM ax c.f1 ≤ 10000 := by
  unfold bM atR
  rcases hax with rfl | rfl
  ·simp only [if_true]; omega
  ·simp only [show ¬ ((2 : Int) = 1) by decide, if_false, if_true]; omega
 generalize atR ax c.f1 = at_ at *
 generalize bM ax c.f1 = s at *
 generalize dX ax c = l at *
 unfold yt
 rw [hw1, he, hg.1, show wrap64 (10000 - (at_ + s)) = 10000 - (at_ + s) by unfold wrap64; omega]
 by_cases h1 : b > 10000
 ·rw [decide_eq_true h1, decide_eq_true (show b > 10000 - (at_ + s) by omega)]; simp
 ·by_cases h2 : b < -10000
  ·rw [decide_eq_true h2, decide_eq_true (show b < -(s - l) by omega)]; simp
  ·rw [decide_eq_false h1, decide_eq_false h2, show wrap64 (wrap64 (at_ + s) + b) = at_ + s + b by unfold wrap64; omega, show wrap64 (s + b) = s + b by unfold wrap64; omega]
   simp only [Bool.false_or]
   rw [Bool.or_comm]
   congr 1
   ·exact decide_eq_decide.2 (by omega)
   ·exact decide_eq_decide.2 (by omega)
theorem yM (ax : Int) (c : ai) (hz : sz c ≤ 1048576) (bz : Int) (P : Nat → Prop) (A : Option Addr) (cc : Nat) (w : World) (hv : Kd.V k26 26 w w.heap.size P (.slice A c.f3.length cc) c.f3) :
  Calls Try.prog 184 #[.agg #[.int .u8 c.f0, .int .i64 c.f1.f0, .int .i64 c.f1.f1, .int .i64 c.f1.f2, .int .i64 c.f1.f3, .int .i64 c.f2, .slice A c.f3.length cc], .int .u8 ax, .int .i64 bz] w (pK w P (aZ ax c bz) (aN ax c bz)) := by
 have S := ae.mk (St.start (ts := [(.slice A c.f3.length cc, c.f3)]) (b0 := w.heap.size) (w := w) (P := P) (fun t ht => by rw [List.mem_singleton.1 ht]; exact hv))
 have HZ := ae.mk hz
 have hO := fun h1 h2 => @agp ax c bz h1 h2
 obtain ⟨ck, ⟨cx, cy, cw, ch⟩, ay, l⟩ := c
 simp only [] at S hO
 clear hv hz
 cases ht : eP ⟨ck, ⟨cx, cy, cw, ch⟩, ay, l⟩ with
 | false =>
  have HT := ae.mk ht
  have HB := ae.mk (show qZ ax ⟨ck, ⟨cx, cy, cw, ch⟩, ay, l⟩ = true by unfold qZ; rw [ht]; rfl)
  clear ht hO
  go_enter Try.func184, Try.ntmps184
  go_wp2_with (first
   | ((with_reducible refine aj 3 rfl ?_); refine boxS 3 #[.int .u8 ck, .int .i64 cx, .int .i64 cy, .int .i64 cw, .int .i64 ch, .int .i64 ay, .slice A l.length cc] 26 S ?_; clear S; intro b3 eH S)
   | ((with_reducible refine aj 6 rfl ?_); refine boxS 6 #[.int .u8 0, .int .i64 0, .int .i64 0, .int .i64 0, .int .i64 0, .int .i64 0, .slice none 0 0] 26 S ?_; clear S; intro b6 fG S; obtain ⟨bD, bF, bG, bH, dG, ed, bg⟩ := St.eY S (.tail _ (.head _)))
   | ((with_reducible refine aj 11 rfl ?_); refine dF (some 11) Try.func84 S (jG HT.out (mY ⟨ck, ⟨cx, cy, cw, ch⟩, ay, l⟩ HZ.out (S.out.tree _ (.head _)))) ?_; clear S; intro gV S; clear bD bF bG bH dG ed bg)
   | ((with_reducible refine dB 26 (.tmp 6) (.tmp 21) rfl ?_); refine gI 26 6 21 #[.int .u8 0, .int .i64 0, .int .i64 0, .int .i64 0, .int .i64 0, .int .i64 0, .slice none 0 0] 0 7 S ?_; clear S; intro jB S)
   | fail)
  refine bodyPost_ret (bK rfl _ _ b6 26 #[.int .u8 0, .int .i64 0, .int .i64 0, .int .i64 0, .int .i64 0, .int .i64 0, .slice none 0 0] (0, 0) _ rfl (S.out.blk _ (.head _) _ rfl) Try.underlying26 rfl (by kernel_rfl)) rfl ?_
  rw [show aN ax ⟨ck, ⟨cx, cy, cw, ch⟩, ay, l⟩ bz = 1 by unfold aN; rw [if_pos HB.out], show aZ ax ⟨ck, ⟨cx, cy, cw, ch⟩, ay, l⟩ bz = z26 by unfold aZ; rw [if_pos HB.out]]
  exact ⟨_, _, rfl, Kd.kN _ _ _ _ _, S.out.below⟩
 | true =>
  have HT := ae.mk ht
  by_cases h1 : ax < 1
  ·have h1b : decide (ax < 1) = true := decide_eq_true h1
   have HB := ae.mk (show qZ ax ⟨ck, ⟨cx, cy, cw, ch⟩, ay, l⟩ = true by unfold qZ; rw [ht, show (ax != 1) = true from bne_iff_ne.mpr (by omega), show (ax != 2) = true from bne_iff_ne.mpr (by omega)]; rfl)
   clear ht hO h1
   go_enter Try.func184, Try.ntmps184
   go_wp2_with (first
    | ((with_reducible refine aj 3 rfl ?_); refine boxS 3 #[.int .u8 ck, .int .i64 cx, .int .i64 cy, .int .i64 cw, .int .i64 ch, .int .i64 ay, .slice A l.length cc] 26 S ?_; clear S; intro b3 eH S)
    | ((with_reducible refine aj 6 rfl ?_); refine boxS 6 #[.int .u8 0, .int .i64 0, .int .i64 0, .int .i64 0, .int .i64 0, .int .i64 0, .slice none 0 0] 26 S ?_; clear S; intro b6 fG S; obtain ⟨bD, bF, bG, bH, dG, ed, bg⟩ := St.eY S (.tail _ (.head _)))
    | ((with_reducible refine aj 11 rfl ?_); refine dF (some 11) Try.func84 S (jG HT.out (mY ⟨ck, ⟨cx, cy, cw, ch⟩, ay, l⟩ HZ.out (S.out.tree _ (.head _)))) ?_; clear S; intro gV S; clear bD bF bG bH dG ed bg)
    | ((with_reducible refine dB 26 (.tmp 6) (.tmp 21) rfl ?_); refine gI 26 6 21 #[.int .u8 0, .int .i64 0, .int .i64 0, .int .i64 0, .int .i64 0, .int .i64 0, .slice none 0 0] 0 7 S ?_; clear S; intro jB S)
    | fail)
   refine bodyPost_ret (bK rfl _ _ b6 26 #[.int .u8 0, .int .i64 0, .int .i64 0, .int .i64 0, .int .i64 0, .int .i64 0, .slice none 0 0] (0, 0) _ rfl (S.out.blk _ (.head _) _ rfl) Try.underlying26 rfl (by kernel_rfl)) rfl ?_
   rw [show aN ax ⟨ck, ⟨cx, cy, cw, ch⟩, ay, l⟩ bz = 1 by unfold aN; rw [if_pos HB.out], show aZ ax ⟨ck, ⟨cx, cy, cw, ch⟩, ay, l⟩ bz = z26 by unfold aZ; rw [if_pos HB.out]]
   exact ⟨_, _, rfl, Kd.kN _ _ _ _ _, S.out.below⟩
  ·by_cases h2 : ax > 2
   ·have h1b : decide (ax < 1) = false := decide_eq_false h1
    have h2b : decide (ax > 2) = true := decide_eq_true h2
    have h2c : decide (2 < ax) = true := decide_eq_true h2
    have HB := ae.mk (show qZ ax ⟨ck, ⟨cx, cy, cw, ch⟩, ay, l⟩ = true by unfold qZ; rw [ht, show (ax != 1) = true from bne_iff_ne.mpr (by omega), show (ax != 2) = true from bne_iff_ne.mpr (by omega)]; rfl)
    clear ht hO h1 h2
    go_enter Try.func184, Try.ntmps184
    go_wp2_with (first
     | ((with_reducible refine aj 3 rfl ?_); refine boxS 3 #[.int .u8 ck, .int .i64 cx, .int .i64 cy, .int .i64 cw, .int .i64 ch, .int .i64 ay, .slice A l.length cc] 26 S ?_; clear S; intro b3 eH S)
     | ((with_reducible refine aj 6 rfl ?_); refine boxS 6 #[.int .u8 0, .int .i64 0, .int .i64 0, .int .i64 0, .int .i64 0, .int .i64 0, .slice none 0 0] 26 S ?_; clear S; intro b6 fG S; obtain ⟨bD, bF, bG, bH, dG, ed, bg⟩ := St.eY S (.tail _ (.head _)))
     | ((with_reducible refine aj 11 rfl ?_); refine dF (some 11) Try.func84 S (jG HT.out (mY ⟨ck, ⟨cx, cy, cw, ch⟩, ay, l⟩ HZ.out (S.out.tree _ (.head _)))) ?_; clear S; intro gV S; clear bD bF bG bH dG ed bg)
     | ((with_reducible refine dB 26 (.tmp 6) (.tmp 21) rfl ?_); refine gI 26 6 21 #[.int .u8 0, .int .i64 0, .int .i64 0, .int .i64 0, .int .i64 0, .int .i64 0, .slice none 0 0] 0 7 S ?_; clear S; intro jB S)
     | fail)
    refine bodyPost_ret (bK rfl _ _ b6 26 #[.int .u8 0, .int .i64 0, .int .i64 0, .int .i64 0, .int .i64 0, .int .i64 0, .slice none 0 0] (0, 0) _ rfl (S.out.blk _ (.head _) _ rfl) Try.underlying26 rfl (by kernel_rfl)) rfl ?_
    rw [show aN ax ⟨ck, ⟨cx, cy, cw, ch⟩, ay, l⟩ bz = 1 by unfold aN; rw [if_pos HB.out], show aZ ax ⟨ck, ⟨cx, cy, cw, ch⟩, ay, l⟩ bz = z26 by unfold aZ; rw [if_pos HB.out]]
    exact ⟨_, _, rfl, Kd.kN _ _ _ _ _, S.out.below⟩
   ·have hax : ax = 1 ∨ ax = 2 := by omega
    have vH := ae.mk hax
    have hO2 := hO ht hax
    have HB := ae.mk (show qZ ax ⟨ck, ⟨cx, cy, cw, ch⟩, ay, l⟩ = false by unfold qZ; rw [ht]; rcases hax with rfl | rfl <;> rfl)
    have h1b : decide (ax < 1) = false := decide_eq_false h1
    have h2b : decide (ax > 2) = false := decide_eq_false h2
    have h2c : decide (2 < ax) = false := decide_eq_false h2
    have hfit := fun h => @acB ax ⟨ck, ⟨cx, cy, cw, ch⟩, ay, l⟩ bz HB.out h
    have pV := ae.mk hO2
    have acb := ae.mk hfit
    clear ht hax h1 h2 hO hO2 hfit
    go_enter Try.func184, Try.ntmps184
    go_upto_if 30 with (first
     | ((with_reducible refine aj 3 rfl ?_); refine boxS 3 #[.int .u8 ck, .int .i64 cx, .int .i64 cy, .int .i64 cw, .int .i64 ch, .int .i64 ay, .slice A l.length cc] 26 S ?_; clear S; intro b3 eH S)
     | ((with_reducible refine aj 6 rfl ?_); refine boxS 6 #[.int .u8 0, .int .i64 0, .int .i64 0, .int .i64 0, .int .i64 0, .int .i64 0, .slice none 0 0] 26 S ?_; clear S; intro b6 fG S; obtain ⟨bD, bF, bG, bH, dG, ed, bg⟩ := St.eY S (.tail _ (.head _)))
     | ((with_reducible refine aj 11 rfl ?_); refine dF (some 11) Try.func84 S (jG HT.out (mY ⟨ck, ⟨cx, cy, cw, ch⟩, ay, l⟩ HZ.out (S.out.tree _ (.head _)))) ?_; clear S; intro gV S; clear bD bF bG bH dG ed bg; have bF := (S.out.at (.tail _ (.head _)) 1).trans rfl; have bG := (S.out.at (.tail _ (.head _)) 2).trans rfl; have bH := (S.out.at (.tail _ (.head _)) 3).trans rfl; have dG := (S.out.at (.tail _ (.head _)) 4).trans rfl)
     | ((with_reducible refine aj 25 rfl ?_); refine dF (some 25) Try.func87 S (w_ ⟨cx, cy, cw, ch⟩ ax) ?_; clear S; intro jB S; clear bF bG bH dG; have bF := (S.out.at (.tail _ (.head _)) 1).trans rfl)
     | fail)
    clear bF
    (try simp only [Act.put, List.setIfInBounds_toArray, List.set_cons_zero, List.set_cons_succ])
    go_cut [9] (fun v9 wc => v9 = .int .i64 (atR ax ⟨cx, cy, cw, ch⟩) ∧ ae (St w P [(some b6, .cells #[.int .u8 0, .int .i64 0, .int .i64 0, .int .i64 0, .int .i64 0, .int .i64 0, .slice none 0 0] 26 (0, 0)), (some b3, .cells #[.int .u8 ck, .int .i64 cx, .int .i64 cy, .int .i64 cw, .int .i64 ch, .int .i64 ay, .slice A l.length cc] 26 (0, 0))] [] [(.slice A l.length cc, l)] [] wc))
    case first =>
     by_cases hx : ax = 1
     ·have hxb : (ax == 2) = false := by rw [hx]; rfl
      have HX := ae.mk hx
      clear hx
      go_wp2
      go_meet
      case rel => exact ⟨by unfold atR; rw [if_pos HX.out], S⟩
     ·have hxb : (ax == 2) = true := by rw [show ax = 2 from vH.out.resolve_left hx]; rfl
      have HX := ae.mk hx
      clear hx
      have bG := (S.out.at (.tail _ (.head _)) 2).trans rfl
      go_wp2
      clear bG
      go_meet
      case rel => exact ⟨by unfold atR; rw [if_neg HX.out], S⟩
    case rest =>
     clear S
     obtain ⟨rfl, S⟩ := hcut
     rename World => wx
     have hO2 := pV.out
     have hfit := acb.out
     clear pV acb
     by_cases h4 : bz > 10000
     ·have hO3 := hO2
      rw [decide_eq_true h4, Bool.true_or] at hO3
      have Bj : decide (bz > 10000) = true := decide_eq_true h4
      have h4c : decide (10000 < bz) = true := decide_eq_true h4
      clear h4 hO2
      have HO := ae.mk hO3
      clear hO3 hfit
      go_wp2_with (first
       | ((with_reducible refine dB 26 (.tmp 6) (.tmp 57) rfl ?_); refine gI 26 6 57 #[.int .u8 0, .int .i64 0, .int .i64 0, .int .i64 0, .int .i64 0, .int .i64 0, .slice none 0 0] 0 7 S ?_; clear S; intro eH S)
       | fail)
      refine bodyPost_ret (bK rfl _ _ b6 26 #[.int .u8 0, .int .i64 0, .int .i64 0, .int .i64 0, .int .i64 0, .int .i64 0, .slice none 0 0] (0, 0) _ rfl (S.out.blk _ (.head _) _ rfl) Try.underlying26 rfl (by kernel_rfl)) rfl ?_
      rw [show aN ax ⟨ck, ⟨cx, cy, cw, ch⟩, ay, l⟩ bz = 7 by unfold aN; rw [if_neg (by rw [HB.out]; simp), if_pos HO.out], show aZ ax ⟨ck, ⟨cx, cy, cw, ch⟩, ay, l⟩ bz = z26 by unfold aZ; rw [if_neg (by rw [HB.out]; simp), if_pos HO.out]]
      exact ⟨_, _, rfl, Kd.kN _ _ _ _ _, S.out.below⟩
     ·rw [decide_eq_false h4, Bool.false_or] at hO2
      have Bj : decide (bz > 10000) = false := decide_eq_false h4
      have h4c : decide (10000 < bz) = false := decide_eq_false h4
      by_cases h5 : bz < -10000
      ·have hO3 := hO2
       rw [decide_eq_true h5, Bool.true_or] at hO3
       have Hq : decide (bz < -10000) = true := decide_eq_true h5
       clear h4 h5 hO2
       have HO := ae.mk hO3
       clear hO3 hfit
       go_wp2_with (first
        | ((with_reducible refine dB 26 (.tmp 6) (.tmp 57) rfl ?_); refine gI 26 6 57 #[.int .u8 0, .int .i64 0, .int .i64 0, .int .i64 0, .int .i64 0, .int .i64 0, .slice none 0 0] 0 7 S ?_; clear S; intro eH S)
        | fail)
       refine bodyPost_ret (bK rfl _ _ b6 26 #[.int .u8 0, .int .i64 0, .int .i64 0, .int .i64 0, .int .i64 0, .int .i64 0, .slice none 0 0] (0, 0) _ rfl (S.out.blk _ (.head _) _ rfl) Try.underlying26 rfl (by kernel_rfl)) rfl ?_
       rw [show aN ax ⟨ck, ⟨cx, cy, cw, ch⟩, ay, l⟩ bz = 7 by unfold aN; rw [if_neg (by rw [HB.out]; simp), if_pos HO.out], show aZ ax ⟨ck, ⟨cx, cy, cw, ch⟩, ay, l⟩ bz = z26 by unfold aZ; rw [if_neg (by rw [HB.out]; simp), if_pos HO.out]]
       exact ⟨_, _, rfl, Kd.kN _ _ _ _ _, S.out.below⟩
      ·rw [decide_eq_false h5, Bool.false_or] at hO2
       have Hq : decide (bz < -10000) = false := decide_eq_false h5
       by_cases h6 : wrap64 (wrap64 ((atR ax ⟨cx, cy, cw, ch⟩) + bM ax ⟨cx, cy, cw, ch⟩) + bz) > 10000
       ·have hO3 := hO2
        rw [decide_eq_true h6, Bool.true_or] at hO3
        have TG : decide (wrap64 (wrap64 ((atR ax ⟨cx, cy, cw, ch⟩) + bM ax ⟨cx, cy, cw, ch⟩) + bz) > 10000) = true := decide_eq_true h6
        have h6c : decide (10000 < wrap64 (wrap64 ((atR ax ⟨cx, cy, cw, ch⟩) + bM ax ⟨cx, cy, cw, ch⟩) + bz)) = true := decide_eq_true h6
        clear h4 h5 h6 hO2
        have HO := ae.mk hO3
        clear hO3 hfit
        go_wp2_with (first
         | ((with_reducible refine dB 26 (.tmp 6) (.tmp 57) rfl ?_); refine gI 26 6 57 #[.int .u8 0, .int .i64 0, .int .i64 0, .int .i64 0, .int .i64 0, .int .i64 0, .slice none 0 0] 0 7 S ?_; clear S; intro eH S)
         | fail)
        refine bodyPost_ret (bK rfl _ _ b6 26 #[.int .u8 0, .int .i64 0, .int .i64 0, .int .i64 0, .int .i64 0, .int .i64 0, .slice none 0 0] (0, 0) _ rfl (S.out.blk _ (.head _) _ rfl) Try.underlying26 rfl (by kernel_rfl)) rfl ?_
        rw [show aN ax ⟨ck, ⟨cx, cy, cw, ch⟩, ay, l⟩ bz = 7 by unfold aN; rw [if_neg (by rw [HB.out]; simp), if_pos HO.out], show aZ ax ⟨ck, ⟨cx, cy, cw, ch⟩, ay, l⟩ bz = z26 by unfold aZ; rw [if_neg (by rw [HB.out]; simp), if_pos HO.out]]
        exact ⟨_, _, rfl, Kd.kN _ _ _ _ _, S.out.below⟩
       ·rw [decide_eq_false h6, Bool.false_or] at hO2
        have TG : decide (wrap64 (wrap64 ((atR ax ⟨cx, cy, cw, ch⟩) + bM ax ⟨cx, cy, cw, ch⟩) + bz) > 10000) = false := decide_eq_false h6
        have h6c : decide (10000 < wrap64 (wrap64 ((atR ax ⟨cx, cy, cw, ch⟩) + bM ax ⟨cx, cy, cw, ch⟩) + bz)) = false := decide_eq_false h6
        by_cases h7 : wrap64 (bM ax ⟨cx, cy, cw, ch⟩ + bz) < dX ax ⟨ck, ⟨cx, cy, cw, ch⟩, ay, l⟩
        ·have hO3 := hO2
         rw [decide_eq_true h7] at hO3
         have h7b : decide (wrap64 (bM ax ⟨cx, cy, cw, ch⟩ + bz) < dX ax ⟨ck, ⟨cx, cy, cw, ch⟩, ay, l⟩) = true := decide_eq_true h7
         clear h4 h5 h6 h7 hO2
         have HO := ae.mk hO3
         clear hO3 hfit
         obtain ⟨bD, bF, bG, bH, dG, ed, bg⟩ := St.eY S (.tail _ (.head _))
         go_wp2_with (first
          | ((with_reducible refine aj 54 rfl ?_); (refine fZ (by rfl) ?_; dsimp only); refine dF (some 54) Try.func152 S (Ri ⟨ck, ⟨cx, cy, cw, ch⟩, ay, l⟩ ax HZ.out HT.out (S.out.tree _ (.head _))) ?_; clear S; intro eH S; clear bD bF bG bH dG ed bg)
          | ((with_reducible refine dB 26 (.tmp 6) (.tmp 57) rfl ?_); refine gI 26 6 57 #[.int .u8 0, .int .i64 0, .int .i64 0, .int .i64 0, .int .i64 0, .int .i64 0, .slice none 0 0] 0 7 S ?_; clear S; intro fG S)
          | fail)
         refine bodyPost_ret (bK rfl _ _ b6 26 #[.int .u8 0, .int .i64 0, .int .i64 0, .int .i64 0, .int .i64 0, .int .i64 0, .slice none 0 0] (0, 0) _ rfl (S.out.blk _ (.head _) _ rfl) Try.underlying26 rfl (by kernel_rfl)) rfl ?_
         rw [show aN ax ⟨ck, ⟨cx, cy, cw, ch⟩, ay, l⟩ bz = 7 by unfold aN; rw [if_neg (by rw [HB.out]; simp), if_pos HO.out], show aZ ax ⟨ck, ⟨cx, cy, cw, ch⟩, ay, l⟩ bz = z26 by unfold aZ; rw [if_neg (by rw [HB.out]; simp), if_pos HO.out]]
         exact ⟨_, _, rfl, Kd.kN _ _ _ _ _, S.out.below⟩
        ·rw [decide_eq_false h7] at hO2
         have h7b : decide (wrap64 (bM ax ⟨cx, cy, cw, ch⟩ + bz) < dX ax ⟨ck, ⟨cx, cy, cw, ch⟩, ay, l⟩) = false := decide_eq_false h7
         have HO := ae.mk hO2
         have hf := hfit hO2
         have HZ2 := ae.mk (show sz ⟨ck, ⟨cx, cy, cw, ch⟩, ay, l⟩ ≤ 100000 by omega)
         have HZ3 := ae.mk (show sz (dV ax ⟨ck, ⟨cx, cy, cw, ch⟩, ay, l⟩ bz) ≤ 1000000 by rw [(LZ ax _).1 _ (Nat.le_refl _)]; omega)
         have HBY := ae.mk (show -100000 ≤ bz ∧ bz ≤ 100000 by omega)
         clear hf hfit h4 h5 h6 h7 hO2
         obtain ⟨bD, bF, bG, bH, dG, ed, bg⟩ := St.eY S (.tail _ (.head _))
         go_wp2_with (first
          | ((with_reducible refine aj 54 rfl ?_); (refine fZ (by rfl) ?_; dsimp only); refine dF (some 54) Try.func152 S (Ri ⟨ck, ⟨cx, cy, cw, ch⟩, ay, l⟩ ax HZ.out HT.out (S.out.tree _ (.head _))) ?_; clear S; intro eH S; clear bD bF bG bH dG ed bg)
          | fail)
         refine iR (n := 13) (S := fun w' => St w _ _ _ _ _ w') (ds := [11]) (bA 13 0) (by kernel_rfl) rfl rfl (S.out.call (bC (Below.refl _ _))) (fun hHeld => ?_); refine fJ xY.Jn xY.EJ (fun ak dZ => ?_)
         replace S := ae.mk (S.out.call (bC (Below.refl _ _)))
         generalize eH.drew = wd2 at S hHeld ⊢
         refine dE 0 58 (bA 13 1) ak dZ hHeld ?_ (hv := by intro w' hs_; have bD := (hs_.at (.tail _ (.head _)) 0).trans rfl; have bF := (hs_.at (.tail _ (.head _)) 1).trans rfl; have bG := (hs_.at (.tail _ (.head _)) 2).trans rfl; have bH := (hs_.at (.tail _ (.head _)) 3).trans rfl; have dG := (hs_.at (.tail _ (.head _)) 4).trans rfl; have ed := (hs_.at (.tail _ (.head _)) 5).trans rfl; have bg := (hs_.at (.tail _ (.head _)) 6).trans rfl; go_simp; with_reducible rfl)
         refine au 1 59 (bA 13 3) ak ?_
         refine au 2 60 (bA 13 7) ak ?_
         refine au 4 62 (bA 13 23) ak ?_
         refine au 5 63 (bA 13 55) ak ?_
         refine dE 6 64 (bA 13 119) ak dZ hHeld ?_ (hv := by intro w' hs_; have bF := (hs_.at (.tail _ (.head _)) 1).trans rfl; go_simp; with_reducible rfl)
         refine au 7 65 (bA 13 247) ak ?_
         refine au 8 66 (bA 13 503) ak ?_
         refine dE 9 67 (bA 13 1015) ak dZ hHeld ?_ (hv := by intro w' hs_; have bG := (hs_.at (.tail _ (.head _)) 2).trans rfl; go_simp; with_reducible rfl)
         refine gU (i := 3) (N := some 61) (bA 13 1023) rfl rfl (bY ak.out (by kernel_rfl)) (by decide) (fun K hK => ?_)
         refine fK Try.func200 (by kernel_rfl) rfl #[.agg #[.int .u8 ck, .int .i64 cx, .int .i64 cy, .int .i64 cw, .int .i64 ch, .int .i64 ay, .slice A l.length cc], .int .u8 ax, .int .i64 bz] (by rfl) rfl rfl (by (try simp only [List.map_toArray, List.map_cons, List.map_nil]); first | done | rfl) ?_
         refine (abe ax vH.out 100000 ⟨ck, ⟨cx, cy, cw, ch⟩, ay, l⟩ HZ2.out (Nat.le_refl _) HT.out bz HBY.out _ A cc _ (dO (S.out.tree _ (.head _)))).mono ?_
         rintro e gV ⟨A61, ahh, rfl, h1, hb⟩
         refine ⟨_, rfl, ?_⟩
         replace S := ae.mk (S.out.res (Kd.rM (base' := 0) h1) hb)
         clear h1 hb
         refine hK.out _ _ S.out.bW (fun hHeld => ?_)
         clear hK K
         refine dR 61 ?_
         refine gU (i := 10) (N := some 68) (bA 13 2047) rfl rfl (bY ak.out (by kernel_rfl)) (by decide) (fun K hK => ?_)
         refine fK Try.func67 (by kernel_rfl) rfl #[.agg #[.int .u8 ((dV ax ⟨ck, ⟨cx, cy, cw, ch⟩, ay, l⟩ bz).f0), .int .i64 ((dV ax ⟨ck, ⟨cx, cy, cw, ch⟩, ay, l⟩ bz).f1.f0), .int .i64 ((dV ax ⟨ck, ⟨cx, cy, cw, ch⟩, ay, l⟩ bz).f1.f1), .int .i64 ((dV ax ⟨ck, ⟨cx, cy, cw, ch⟩, ay, l⟩ bz).f1.f2), .int .i64 ((dV ax ⟨ck, ⟨cx, cy, cw, ch⟩, ay, l⟩ bz).f1.f3), .int .i64 ((dV ax ⟨ck, ⟨cx, cy, cw, ch⟩, ay, l⟩ bz).f2), .slice A61 ((dV ax ⟨ck, ⟨cx, cy, cw, ch⟩, ay, l⟩ bz).f3.length) ahh], .int .i64 cx, .int .i64 cy] (by rfl) rfl rfl (by (try simp only [List.map_toArray, List.map_cons, List.map_nil]); first | done | rfl) ?_
         refine (H_ (dV ax ⟨ck, ⟨cx, cy, cw, ch⟩, ay, l⟩ bz) cx cy HZ3.out (S.out.tree _ (.head _))).mono ?_
         rintro e jB ⟨X8, Qz, rfl, h1, hb⟩
         refine ⟨_, rfl, ?_⟩
         replace S := ae.mk (S.out.Df h1 hb)
         clear h1 hb
         refine hK.out _ _ S.out.free.bW.bW (fun hHeld => ?_)
         clear hK K
         refine dR 68 ?_
         refine mO (i := 11) (N := none) (bA 13 4095) rfl rfl (bY ak.out (by kernel_rfl)) (by decide) (fun K hK => ?_)
         refine oJ 0 rfl 26 (.tmp 6) (.tmp 68) rfl #[.int .u8 ((aX (dV ax ⟨ck, ⟨cx, cy, cw, ch⟩, ay, l⟩ bz) cx cy).f0), .int .i64 ((aX (dV ax ⟨ck, ⟨cx, cy, cw, ch⟩, ay, l⟩ bz) cx cy).f1.f0), .int .i64 ((aX (dV ax ⟨ck, ⟨cx, cy, cw, ch⟩, ay, l⟩ bz) cx cy).f1.f1), .int .i64 ((aX (dV ax ⟨ck, ⟨cx, cy, cw, ch⟩, ay, l⟩ bz) cx cy).f1.f2), .int .i64 ((aX (dV ax ⟨ck, ⟨cx, cy, cw, ch⟩, ay, l⟩ bz) cx cy).f1.f3), .int .i64 ((aX (dV ax ⟨ck, ⟨cx, cy, cw, ch⟩, ay, l⟩ bz) cx cy).f2), .slice X8 ((aX (dV ax ⟨ck, ⟨cx, cy, cw, ch⟩, ay, l⟩ bz) cx cy).f3.length) Qz] (j := 0) (u := .agg #[.int .u8 ((aX (dV ax ⟨ck, ⟨cx, cy, cw, ch⟩, ay, l⟩ bz) cx cy).f0), .int .i64 ((aX (dV ax ⟨ck, ⟨cx, cy, cw, ch⟩, ay, l⟩ bz) cx cy).f1.f0), .int .i64 ((aX (dV ax ⟨ck, ⟨cx, cy, cw, ch⟩, ay, l⟩ bz) cx cy).f1.f1), .int .i64 ((aX (dV ax ⟨ck, ⟨cx, cy, cw, ch⟩, ay, l⟩ bz) cx cy).f1.f2), .int .i64 ((aX (dV ax ⟨ck, ⟨cx, cy, cw, ch⟩, ay, l⟩ bz) cx cy).f1.f3), .int .i64 ((aX (dV ax ⟨ck, ⟨cx, cy, cw, ch⟩, ay, l⟩ bz) cx cy).f2), .slice X8 ((aX (dV ax ⟨ck, ⟨cx, cy, cw, ch⟩, ay, l⟩ bz) cx cy).f3.length) Qz]) (bP := [.int .u8 ((aX (dV ax ⟨ck, ⟨cx, cy, cw, ch⟩, ay, l⟩ bz) cx cy).f0), .int .i64 ((aX (dV ax ⟨ck, ⟨cx, cy, cw, ch⟩, ay, l⟩ bz) cx cy).f1.f0), .int .i64 ((aX (dV ax ⟨ck, ⟨cx, cy, cw, ch⟩, ay, l⟩ bz) cx cy).f1.f1), .int .i64 ((aX (dV ax ⟨ck, ⟨cx, cy, cw, ch⟩, ay, l⟩ bz) cx cy).f1.f2), .int .i64 ((aX (dV ax ⟨ck, ⟨cx, cy, cw, ch⟩, ay, l⟩ bz) cx cy).f1.f3), .int .i64 ((aX (dV ax ⟨ck, ⟨cx, cy, cw, ch⟩, ay, l⟩ bz) cx cy).f2), .slice X8 ((aX (dV ax ⟨ck, ⟨cx, cy, cw, ch⟩, ay, l⟩ bz) cx cy).f3.length) Qz]) S.out (by rfl) rfl rfl rfl rfl (by kernel_rfl) (by simp [Value.oneCell']) (by first | decide | simp) rfl ?_
         intro lQ S1
         simp only [List.set_cons_zero, List.set_cons_succ] at S1
         replace S := ae.mk S1
         clear S1
         refine hK.out _ _ ?_
         clear hK K
         refine au 12 7 (bA 13 8191) ak ?_
         refine jI (gQ ak.out (by kernel_rfl)) ?_
         clear hHeld
         go_wp2
         refine bodyPost_ret (bK rfl _ _ b6 26 #[.int .u8 ((aX (dV ax ⟨ck, ⟨cx, cy, cw, ch⟩, ay, l⟩ bz) cx cy).f0), .int .i64 ((aX (dV ax ⟨ck, ⟨cx, cy, cw, ch⟩, ay, l⟩ bz) cx cy).f1.f0), .int .i64 ((aX (dV ax ⟨ck, ⟨cx, cy, cw, ch⟩, ay, l⟩ bz) cx cy).f1.f1), .int .i64 ((aX (dV ax ⟨ck, ⟨cx, cy, cw, ch⟩, ay, l⟩ bz) cx cy).f1.f2), .int .i64 ((aX (dV ax ⟨ck, ⟨cx, cy, cw, ch⟩, ay, l⟩ bz) cx cy).f1.f3), .int .i64 ((aX (dV ax ⟨ck, ⟨cx, cy, cw, ch⟩, ay, l⟩ bz) cx cy).f2), .slice X8 ((aX (dV ax ⟨ck, ⟨cx, cy, cw, ch⟩, ay, l⟩ bz) cx cy).f3.length) Qz] (0, 0) _ rfl (S.out.blk _ (.head _) _ rfl) Try.underlying26 rfl (by kernel_rfl)) rfl ?_
         rw [show aN ax ⟨ck, ⟨cx, cy, cw, ch⟩, ay, l⟩ bz = 0 by unfold aN; rw [if_neg (by rw [HB.out]; simp), if_neg (by rw [HO.out]; simp)], show aZ ax ⟨ck, ⟨cx, cy, cw, ch⟩, ay, l⟩ bz = aX (dV ax ⟨ck, ⟨cx, cy, cw, ch⟩, ay, l⟩ bz) cx cy by unfold aZ; rw [if_neg (by rw [HB.out]; simp), if_neg (by rw [HO.out]; simp)]]
         exact ⟨_, _, rfl, S.out.tK, S.out.below⟩
def uz.T5 : Bool × List (List Nat × List Nat) := (true, [([], []), ([0], [0]), ([], []), ([1, 2], [1, 2]), ([], []), ([4], [4]), ([5], [5]), ([3, 6, 3], [3, 6]), ([7], [7]), ([8], [8]), ([8], [8]), ([9, 7, 0, 1, 2, 3, 4, 5, 6, 7, 8, 9], [9]), ([10, 11, 0, 1, 2, 3, 4, 5, 6, 7, 8, 9, 10, 11], [10])])
def uz.B5 : List Nat := [0, 1, 0, 7, 0, 16, 48, 127, 255, 511, 511, 1023, 4095]
theorem uz.yA : iY .any (opsOf Try.f156 5) = uz.T5 := by kernel_rfl
theorem uz.uD : iI uz.T5.2 uz.B5 = true := by kernel_rfl
def vC.T11 : Bool × List (List Nat × List Nat) := (true, [([], []), ([0], [0]), ([], []), ([1, 2], [1, 2]), ([3], [3]), ([4], [4]), ([], []), ([], []), ([], []), ([7, 8], [7, 8]), ([9], [9]), ([], []), ([11], [11]), ([], []), ([12, 13], [12, 13]), ([14], [14]), ([15], [15]), ([], []), ([16, 17, 5], [16, 17]), ([10, 18], [10, 18]), ([5, 6, 19, 18], [5, 6, 19]), ([20], [20]), ([21], [21]), ([21], [21]), ([], []), ([24, 22, 20, 0, 1, 2, 3, 4, 5, 6, 7, 8, 9, 10, 11, 12, 13, 14, 15, 16, 17, 18, 19, 20, 21, 22, 24], [22, 24]), ([23, 25, 0, 1, 2, 3, 4, 5, 6, 7, 8, 9, 10, 11, 12, 13, 14, 15, 16, 17, 18, 19, 20, 21, 22, 23, 24, 25], [23])])
def vC.B11 : List Nat := [0, 1, 0, 7, 15, 31, 0, 0, 0, 384, 896, 0, 2048, 0, 14336, 30720, 63488, 0, 260159, 524223, 1048575, 2097151, 4194303, 4194303, 0, 25165823, 67108863]
theorem vC.Rt : iY .any (opsOf Try.f156 11) = vC.T11 := by kernel_rfl
theorem vC.Md : iI vC.T11.2 vC.B11 = true := by kernel_rfl
theorem Dh {ax n m : Int} {k : ai} {args : Array Value} {W : World} {P : Nat → Prop} (h : n = m) (hc : Calls Try.prog 184 args W (pK W P (aZ ax (aX k 0 0) (wrap64 (n - bM ax k.f1))) (aN ax (aX k 0 0) (wrap64 (n - bM ax k.f1))))) : Calls Try.prog 184 args W (pK W P (dK ax k m) (qI ax k m)) := by
 subst h
 exact hc
theorem UB (ax : Int) (ns : Nat → Int) (k : ai) (l : List ai) : jT ax ns 0 (l ++ [k]) = jT ax ns 0 l ++ [dK ax k (ns l.length)] := by rw [Hr, Nat.zero_add]
theorem EI (k : Int) : (k - 1) % 256 = Be k := by unfold Be; omega
theorem XF (c : ai) (hz : sz c ≤ 100000) (P : Nat → Prop) (A : Option Addr) (cc : Nat) (w : World) (hv : Kd.V k26 26 w w.heap.size P (.slice A c.f3.length cc) c.f3) :
  Calls Try.prog 156 #[.agg #[.int .u8 c.f0, .int .i64 c.f1.f0, .int .i64 c.f1.f1, .int .i64 c.f1.f2, .int .i64 c.f1.f3, .int .i64 c.f2, .slice A c.f3.length cc]] w (LG w P (jX c).1 (jX c).2) := by
 have S := ae.mk (St.start (ts := [(.slice A c.f3.length cc, c.f3)]) (b0 := w.heap.size) (w := w) (P := P) (fun t ht => by rw [List.mem_singleton.1 ht]; exact hv))
 have hsz := dL c
 have hlen := jR c.f3
 have gX := ae.mk (show c.f3.length ≤ 1000000 by omega)
 have FH := ae.mk fun (k : ai) (hk : k ∈ c.f3) => (show sz k ≤ 1000000 by have := vw hk; omega)
 obtain ⟨ck, ⟨cx, cy, cw, ch⟩, ay, l⟩ := c
 simp only [] at S gX FH
 clear hv hz hsz hlen
 by_cases hk : ck = 1
 ·have hkb : (ck == 1) = true := beq_iff_eq.mpr hk
  have HR := ae.mk (show jX ⟨ck, ⟨cx, cy, cw, ch⟩, ay, l⟩ = ([], 10) by unfold jX; rw [if_pos hk])
  clear hk
  go_enter Try.func156, Try.ntmps156
  go_wp2_with (first
   | ((with_reducible refine aj 1 rfl ?_); refine boxS 1 #[.int .u8 ck, .int .i64 cx, .int .i64 cy, .int .i64 cw, .int .i64 ch, .int .i64 ay, .slice A l.length cc] 26 S ?_; clear S; intro b1 eH S)
   | ((with_reducible refine aC (N := 11) rfl ?_); refine zk (N := 11) rfl rfl S.out ?hr ?_; (case hr => first | (go_simp; done) | (go_simp; rfl)); intro Qb QB fG S1; replace S := ae.mk S1; clear S1; have fF := (S.out.at (.head _) 0).trans rfl)
   | fail)
  clear fF
  refine bodyPost_ret (results_tmp2 rfl _ _ _) rfl ?_
  rw [HR.out]
  exact ⟨_, _, rfl, S.out.free.AO (b0 := w.heap.size) (.head _), S.out.below⟩
 ·have hkb : (ck == 1) = false := beq_eq_false_iff_ne.mpr hk
  have mf := ae.mk hk
  obtain ⟨ax, hax⟩ : ∃ ax, ax = Be ck := ⟨_, rfl⟩
  have hSZ := fun W => XH (W := W) (bM ax ⟨cx, cy, cw, ch⟩) (l.length : Int)
  have hR : jX ⟨ck, ⟨cx, cy, cw, ch⟩, ay, l⟩ = if (qx (bM ax ⟨cx, cy, cw, ch⟩) (l.length : Int)).2 = false then ([], 7) else if qJ ax (fun (i : Nat) => rd (qx (bM ax ⟨cx, cy, cw, ch⟩) (l.length : Int)).1 (i : Int)) 0 l = true then ([], 7) else (jT ax (fun (i : Nat) => rd (qx (bM ax ⟨cx, cy, cw, ch⟩) (l.length : Int)).1 (i : Int)) 0 l, 0) := by rw [hax]; unfold jX; rw [if_neg hk]
  have hsl := @P6 (bM ax ⟨cx, cy, cw, ch⟩) l.length
  generalize qx (bM ax ⟨cx, cy, cw, ch⟩) (l.length : Int) = sp at hSZ hR hsl
  obtain ⟨sl, ok⟩ := sp
  simp only [] at hSZ hR hsl
  have A8 := ae.mk hSZ
  have yT := ae.mk hsl
  have vH := ae.mk hax
  clear hk hSZ hsl hax
  cases ok with
  | false =>
   have HR := ae.mk (hR.trans (if_pos rfl))
   clear hR
   go_enter Try.func156, Try.ntmps156
   go_upto_region 4 with (first
    | ((with_reducible refine aj 1 rfl ?_); refine boxS 1 #[.int .u8 ck, .int .i64 cx, .int .i64 cy, .int .i64 cw, .int .i64 ch, .int .i64 ay, .slice A l.length cc] 26 S ?_; clear S; intro b1 eH S)
    | ((with_reducible refine aC (N := 11) rfl ?_); refine zk (N := 11) rfl rfl S.out ?hr ?_; (case hr => first | (go_simp; done) | (go_simp; rfl)); intro Qb QB fG S1; replace S := ae.mk S1; clear S1; have fF := (S.out.at (.head _) 0).trans rfl)
    | fail)
   clear fF
   go_cut [5] (fun v5 wc => v5 = .int .u8 ax ∧ ae (St w P [(some b1, .cells #[.int .u8 ck, .int .i64 cx, .int .i64 cy, .int .i64 cw, .int .i64 ch, .int .i64 ay, .slice A l.length cc] 26 (0, 0))] [(.slice Qb 0 QB, [])] [(.slice A l.length cc, l)] [] wc))
   case first =>
    have fF := (S.out.at (.head _) 0).trans rfl
    go_wp2
    clear fF
    go_meet
    case rel => exact ⟨by rw [vH.out]; first | rfl | (simp [Be]; done) | (rw [← EI]; done) | (rw [← EI]; rfl), S⟩
   case rest =>
    clear S
    obtain ⟨rfl, S⟩ := hcut
    rename World => wx
    go_wp2
    refine iR (n := 13) (S := fun w' => St w _ _ _ _ _ w') (ds := []) (bA 13 0) (by kernel_rfl) rfl rfl (S.out.call (bC (Below.refl _ _))) (fun hHeld => ?_); refine fJ uz.yA uz.uD (fun ak dZ => ?_)
    replace S := ae.mk (S.out.call (bC (Below.refl _ _)))
    generalize wx.drew = wd3 at S hHeld ⊢
    refine au 0 20 (bA 13 1) ak ?_
    refine dE 1 21 (bA 13 3) ak dZ hHeld ?_ (hv := by intro w' hs_; have kE := (hs_.at (.head _) 1).trans rfl; have kF := (hs_.at (.head _) 2).trans rfl; have kG := (hs_.at (.head _) 3).trans rfl; have kH := (hs_.at (.head _) 4).trans rfl; go_simp; with_reducible rfl)
    refine au 2 22 (bA 13 7) ak ?_
    refine au 4 24 (bA 13 23) ak ?_
    refine dE 5 25 (bA 13 55) ak dZ hHeld ?_ (hv := by intro w' hs_; have iw := (hs_.at (.head _) 6).trans rfl; go_simp; with_reducible rfl)
    refine au 6 26 (bA 13 119) ak ?_
    refine gU (i := 3) (N := some 23) (bA 13 127) rfl rfl (bY ak.out (by kernel_rfl)) (by decide) (fun K hK => ?_)
    refine fK Try.func87 (by kernel_rfl) rfl #[.agg #[.int .i64 cx, .int .i64 cy, .int .i64 cw, .int .i64 ch], .int .u8 ax] (by rfl) rfl rfl (by (try simp only [List.map_toArray, List.map_cons, List.map_nil]); first | done | rfl) ?_
    refine (w_ ⟨cx, cy, cw, ch⟩ ax).mono ?_
    rintro e jB ⟨rfl, hb⟩
    refine ⟨_, rfl, ?_⟩
    replace S := ae.mk (S.out.call hb)
    clear hb
    refine hK.out _ _ S.out (fun hHeld => ?_)
    clear hK K
    refine dR 23 ?_
    refine gU (i := 7) (N := some 27) (bA 13 255) rfl rfl (bY ak.out (by kernel_rfl)) (by decide) (fun K hK => ?_)
    refine fK Try.func54 (by kernel_rfl) rfl #[.int .i64 (bM ax ⟨cx, cy, cw, ch⟩), .int .i64 (l.length : Int)] (by rfl) rfl rfl (by (try simp only [List.map_toArray, List.map_cons, List.map_nil]); first | done | rfl) ?_
    refine (A8.out _).mono ?_
    rintro e lQ ⟨As, cs, rfl, h1, hb⟩
    refine ⟨_, rfl, ?_⟩
    obtain ⟨os, S1, HI1⟩ := S.out.Dc h1 hb
    replace S := ae.mk S1
    have HIS := ae.mk HI1
    clear S1 HI1 h1 hb
    refine hK.out _ _ S.out.eF (fun hHeld => ?_)
    clear hK K
    refine dR 27 ?_
    refine au 8 19 (bA 13 511) ak ?_
    refine au 9 28 (bA 13 1023) ak ?_
    refine au 10 29 (bA 13 2047) ak ?_
    refine au 11 6 (bA 13 4095) ak ?_
    refine au 12 7 (bA 13 8191) ak ?_
    refine jI (gQ ak.out (by kernel_rfl)) ?_
    clear hHeld
    go_wp2
    refine bodyPost_ret (results_tmp2 rfl _ _ _) rfl ?_
    rw [HR.out]
    exact ⟨_, _, rfl, S.out.free.AO (b0 := w.heap.size) (.head _), S.out.below⟩
  | true =>
   have hR2 := hR.trans (if_neg (by simp))
   obtain ⟨NS, um⟩ : ∃ NS : Nat → Int, NS = fun (i : Nat) => rd sl (i : Int) := ⟨_, rfl⟩
   rw [← um] at hR2
   have HR := ae.mk hR2
   have Fa := ae.mk um
   clear hR hR2 um
   go_enter Try.func156, Try.ntmps156
   go_upto_region 4 with (first
    | ((with_reducible refine aj 1 rfl ?_); refine boxS 1 #[.int .u8 ck, .int .i64 cx, .int .i64 cy, .int .i64 cw, .int .i64 ch, .int .i64 ay, .slice A l.length cc] 26 S ?_; clear S; intro b1 eH S)
    | ((with_reducible refine aC (N := 11) rfl ?_); refine zk (N := 11) rfl rfl S.out ?hr ?_; (case hr => first | (go_simp; done) | (go_simp; rfl)); intro Qb QB fG S1; replace S := ae.mk S1; clear S1; have fF := (S.out.at (.head _) 0).trans rfl)
    | fail)
   clear fF
   go_cut [5] (fun v5 wc => v5 = .int .u8 ax ∧ ae (St w P [(some b1, .cells #[.int .u8 ck, .int .i64 cx, .int .i64 cy, .int .i64 cw, .int .i64 ch, .int .i64 ay, .slice A l.length cc] 26 (0, 0))] [(.slice Qb 0 QB, [])] [(.slice A l.length cc, l)] [] wc))
   case first =>
    have fF := (S.out.at (.head _) 0).trans rfl
    go_wp2
    clear fF
    go_meet
    case rel => exact ⟨by rw [vH.out]; first | rfl | (simp [Be]; done) | (rw [← EI]; done) | (rw [← EI]; rfl), S⟩
   case rest =>
    clear S
    obtain ⟨rfl, S⟩ := hcut
    rename World => wx
    go_wp2
    refine iR (n := 13) (S := fun w' => St w _ _ _ _ _ w') (ds := []) (bA 13 0) (by kernel_rfl) rfl rfl (S.out.call (bC (Below.refl _ _))) (fun hHeld => ?_); refine fJ uz.yA uz.uD (fun ak dZ => ?_)
    replace S := ae.mk (S.out.call (bC (Below.refl _ _)))
    generalize wx.drew = wd3 at S hHeld ⊢
    refine au 0 20 (bA 13 1) ak ?_
    refine dE 1 21 (bA 13 3) ak dZ hHeld ?_ (hv := by intro w' hs_; have kE := (hs_.at (.head _) 1).trans rfl; have kF := (hs_.at (.head _) 2).trans rfl; have kG := (hs_.at (.head _) 3).trans rfl; have kH := (hs_.at (.head _) 4).trans rfl; go_simp; with_reducible rfl)
    refine au 2 22 (bA 13 7) ak ?_
    refine au 4 24 (bA 13 23) ak ?_
    refine dE 5 25 (bA 13 55) ak dZ hHeld ?_ (hv := by intro w' hs_; have iw := (hs_.at (.head _) 6).trans rfl; go_simp; with_reducible rfl)
    refine au 6 26 (bA 13 119) ak ?_
    refine gU (i := 3) (N := some 23) (bA 13 127) rfl rfl (bY ak.out (by kernel_rfl)) (by decide) (fun K hK => ?_)
    refine fK Try.func87 (by kernel_rfl) rfl #[.agg #[.int .i64 cx, .int .i64 cy, .int .i64 cw, .int .i64 ch], .int .u8 ax] (by rfl) rfl rfl (by (try simp only [List.map_toArray, List.map_cons, List.map_nil]); first | done | rfl) ?_
    refine (w_ ⟨cx, cy, cw, ch⟩ ax).mono ?_
    rintro e jB ⟨rfl, hb⟩
    refine ⟨_, rfl, ?_⟩
    replace S := ae.mk (S.out.call hb)
    clear hb
    refine hK.out _ _ S.out (fun hHeld => ?_)
    clear hK K
    refine dR 23 ?_
    refine gU (i := 7) (N := some 27) (bA 13 255) rfl rfl (bY ak.out (by kernel_rfl)) (by decide) (fun K hK => ?_)
    refine fK Try.func54 (by kernel_rfl) rfl #[.int .i64 (bM ax ⟨cx, cy, cw, ch⟩), .int .i64 (l.length : Int)] (by rfl) rfl rfl (by (try simp only [List.map_toArray, List.map_cons, List.map_nil]); first | done | rfl) ?_
    refine (A8.out _).mono ?_
    rintro e lQ ⟨As, cs, rfl, h1, hb⟩
    refine ⟨_, rfl, ?_⟩
    obtain ⟨os, S1, HI1⟩ := S.out.Dc h1 hb
    replace S := ae.mk S1
    have HIS := ae.mk HI1
    clear S1 HI1 h1 hb
    refine hK.out _ _ S.out.eF (fun hHeld => ?_)
    clear hK K
    refine dR 27 ?_
    refine au 8 19 (bA 13 511) ak ?_
    refine au 9 28 (bA 13 1023) ak ?_
    refine au 10 29 (bA 13 2047) ak ?_
    refine au 11 6 (bA 13 4095) ak ?_
    refine au 12 7 (bA 13 8191) ak ?_
    refine jI (gQ ak.out (by kernel_rfl)) ?_
    clear hHeld
    have iw := (S.out.at (.tail _ (.head _)) 6).trans rfl
    go_wp2
    clear iw
    go_loopg [4, 36] l.length (fun gg v4 v36 wr => ∃ (pre rest : List ai) (Ap : Option Addr) (cp : Nat), v4 = .slice Ap (jT ax NS 0 pre).length cp ∧ v36 = .int .i64 (pre.length : Int) ∧ ae (pre ++ rest = l) ∧ rest.length ≤ gg ∧ ae (qJ ax NS 0 pre = false) ∧ ae (St w P [((Value.slice As sl.length cs).ownBlock, os), (some b1, .cells #[.int .u8 ck, .int .i64 cx, .int .i64 cy, .int .i64 cw, .int .i64 ch, .int .i64 ay, .slice A l.length cc] 26 (0, 0))] [(.slice Ap ((jT ax NS 0 pre).length) cp, (jT ax NS 0 pre))] [(.slice A l.length cc, l)] [] wr))
    case atStart => exact ⟨[], l, _, _, rfl, rfl, ⟨rfl⟩, Nat.le_refl _, ⟨rfl⟩, ⟨S.out⟩⟩
    case round =>
     clear S
     obtain ⟨pre, rest, Ap, cp, rfl, rfl, HE, hgg, RY, S⟩ := hrel
     cases rest with
     | nil =>
      have hE := HE.out
      rw [List.append_nil] at hE
      have hE2 := hE.symm
      subst hE2
      clear hE HE hgg
      have hlt : ¬ ((l.length : Int) < (l.length : Int)) := by omega
      go_wp2
      refine bodyPost_ret (results_tmp2 rfl _ _ _) rfl ?_
      rw [HR.out, if_neg (by rw [RY.out]; simp)]
      exact ⟨_, _, rfl, S.out.free.AO (b0 := w.heap.size) (.head _), S.out.below⟩
     | cons k rest =>
      have hk : k ∈ l := by rw [← HE.out]; simp
      have hlt : (pre.length : Int) < (l.length : Int) := by rw [← HE.out, List.length_append, List.length_cons]; omega
      have hw1 : wrap64 ((pre.length : Int) + 1) = ((pre ++ [k]).length : Int) := by have := gX.out; rw [List.length_append, List.length_singleton]; unfold wrap64; omega
      have HW1 := ae.mk hw1
      have jh := ae.mk hgg
      have tq := ae.mk (FH.out k hk)
      have xx := ae.mk (show sz (aX k 0 0) ≤ 1048576 by rw [(Em _).1 _ (Nat.le_refl _)]; have := FH.out k hk; omega)
      have tH := ae.mk (show pre.length ≤ 1000000 by have := gX.out; omega)
      obtain ⟨dM, ua, uc, ek, S1⟩ := S.out.elem (.head _) (pre.length : Int) (Int.natCast_nonneg _) hlt
      subst ek
      have hrd : aG l (pre.length : Int) = k := by rw [← HE.out]; exact jF pre k rest
      rw [hrd] at S1
      simp only [Int.toNat_natCast] at S1
      replace S := ae.mk S1
      clear S1 hrd hk hgg hw1
      have hlt2 : (pre.length : Int) < (sl.length : Int) := by rw [yT.out trivial]; exact hlt
      obtain ⟨SH, ea, _⟩ := Kd.iq (Kd.dn (HIS.out _ (S.out.blk _ (.head _)))).2.2 (pre.length : Int) (Int.natCast_nonneg _) hlt2
      subst ea
      have VK := ae.mk hlt2
      have GK := ae.mk (show rd sl (pre.length : Int) = NS pre.length by rw [Fa.out])
      go_wp2
      refine iR (n := 27) (S := fun w' => St w _ _ _ _ _ w') (ds := [25]) (bA 27 0) (by kernel_rfl) rfl rfl (S.out.call (bC (Below.refl _ _))) (fun hHeld => ?_); refine fJ vC.Rt vC.Md (fun ak dZ => ?_)
      replace S := ae.mk (S.out.call (bC (Below.refl _ _)))
      generalize wr.drew = wd6 at S hHeld ⊢
      refine au 0 40 (bA 27 1) ak ?_
      refine dE 1 41 (bA 27 3) ak dZ hHeld ?_ (hv := by intro w' hs_; have iw := (hs_.at (.tail _ (.head _)) 6).trans rfl; go_simp; with_reducible rfl)
      refine au 2 42 (bA 27 7) ak ?_
      refine au 3 43 (bA 27 15) ak ?_
      refine dE 4 44 (bA 27 31) ak dZ hHeld ?_ (hv := by intro w' hs_; have gY := (hs_.cell _ (.head _)).1; have iM := (hs_.cell _ (.tail _ (.head _))).1; have iO := (hs_.cell _ (.tail _ (.tail _ (.head _)))).1; have iC := (hs_.cell _ (.tail _ (.tail _ (.tail _ (.head _))))).1; have iD := (hs_.cell _ (.tail _ (.tail _ (.tail _ (.tail _ (.head _)))))).1; have jv := (hs_.cell _ (.tail _ (.tail _ (.tail _ (.tail _ (.tail _ (.head _))))))).1; have jw := (hs_.cell _ (.tail _ (.tail _ (.tail _ (.tail _ (.tail _ (.tail _ (.head _)))))))).1; go_simp; with_reducible rfl)
      refine au 6 46 (bA 27 95) ak ?_
      refine au 7 47 (bA 27 223) ak ?_
      refine au 8 48 (bA 27 479) ak ?_
      refine au 9 49 (bA 27 991) ak ?_
      refine dE 10 50 (bA 27 2015) ak dZ hHeld ?_ (hv := by intro w' hs_; have xs := BH HIS.out (hs_.blk _ (.head _)) pre.length VK.out; go_simp; with_reducible rfl)
      refine au 11 51 (bA 27 4063) ak ?_
      refine dE 12 52 (bA 27 8159) ak dZ hHeld ?_ (hv := by intro w' hs_; have iw := (hs_.at (.tail _ (.head _)) 6).trans rfl; go_simp; with_reducible rfl)
      refine au 13 53 (bA 27 16351) ak ?_
      refine au 14 54 (bA 27 32735) ak ?_
      refine au 15 55 (bA 27 65503) ak ?_
      refine dE 16 56 (bA 27 131039) ak dZ hHeld ?_ (hv := by intro w' hs_; have iM := (hs_.cell _ (.tail _ (.head _))).1; have iO := (hs_.cell _ (.tail _ (.tail _ (.head _)))).1; have iC := (hs_.cell _ (.tail _ (.tail _ (.tail _ (.head _))))).1; have iD := (hs_.cell _ (.tail _ (.tail _ (.tail _ (.tail _ (.head _)))))).1; go_simp; with_reducible rfl)
      refine au 17 57 (bA 27 262111) ak ?_
      refine EU (σ := Option Addr × Nat × Option Addr × Nat × Nat) 2 (bA 27 33554431) (fun s_ => [(45, .agg #[.int .u8 ((aX k 0 0).f0), .int .i64 ((aX k 0 0).f1.f0), .int .i64 ((aX k 0 0).f1.f1), .int .i64 ((aX k 0 0).f1.f2), .int .i64 ((aX k 0 0).f1.f3), .int .i64 ((aX k 0 0).f2), .slice s_.1 ((aX k 0 0).f3.length) s_.2.1]), (58, .int .i64 (bM ax k.f1)), (59, .int .i64 (wrap64 ((rd sl (pre.length : Int)) - (bM ax k.f1)))), (60, .tuple #[.agg #[.int .u8 ((dK ax k (NS pre.length)).f0), .int .i64 ((dK ax k (NS pre.length)).f1.f0), .int .i64 ((dK ax k (NS pre.length)).f1.f1), .int .i64 ((dK ax k (NS pre.length)).f1.f2), .int .i64 ((dK ax k (NS pre.length)).f1.f3), .int .i64 ((dK ax k (NS pre.length)).f2), .slice s_.2.2.1 ((dK ax k (NS pre.length)).f3.length) s_.2.2.2.1], .int .i64 (qI ax k (NS pre.length))]), (39, .tuple #[.agg #[.int .u8 ((dK ax k (NS pre.length)).f0), .int .i64 ((dK ax k (NS pre.length)).f1.f0), .int .i64 ((dK ax k (NS pre.length)).f1.f1), .int .i64 ((dK ax k (NS pre.length)).f1.f2), .int .i64 ((dK ax k (NS pre.length)).f1.f3), .int .i64 ((dK ax k (NS pre.length)).f2), .slice s_.2.2.1 ((dK ax k (NS pre.length)).f3.length) s_.2.2.2.1], .int .i64 (qI ax k (NS pre.length))]), (61, .agg #[.int .u8 ((dK ax k (NS pre.length)).f0), .int .i64 ((dK ax k (NS pre.length)).f1.f0), .int .i64 ((dK ax k (NS pre.length)).f1.f1), .int .i64 ((dK ax k (NS pre.length)).f1.f2), .int .i64 ((dK ax k (NS pre.length)).f1.f3), .int .i64 ((dK ax k (NS pre.length)).f2), .slice s_.2.2.1 ((dK ax k (NS pre.length)).f3.length) s_.2.2.2.1]), (62, .int .i64 (qI ax k (NS pre.length))), (9, .pointer (some ⟨s_.2.2.2.2, 0, none⟩))]) (fun s_ w' => St w P [(some s_.2.2.2.2, .cells #[.int .u8 0, .int .i64 0, .int .i64 0, .int .i64 0, .int .i64 0, .int .i64 0, .slice none 0 0] 26 (0, 0)), ((Value.slice (some SH) sl.length cs).ownBlock, os), (some b1, .cells #[.int .u8 ck, .int .i64 cx, .int .i64 cy, .int .i64 cw, .int .i64 ch, .int .i64 ay, .slice (some dM) l.length cc] 26 (0, 0))] [(.slice Ap ((jT ax NS 0 pre).length) cp, (jT ax NS 0 pre))] [(.slice s_.2.2.1 ((dK ax k (NS pre.length)).f3.length) s_.2.2.2.1, (dK ax k (NS pre.length)).f3), (.slice s_.1 ((aX k 0 0).f3.length) s_.2.1, (aX k 0 0).f3), (.slice ua k.f3.length uc, k.f3), (.slice (some dM) l.length cc, l)] [((dM.add (pre.length * 7)), .int .u8 k.f0), (⟨(dM.add (pre.length * 7)).block, (dM.add (pre.length * 7)).off + 1, none⟩, .int .i64 k.f1.f0), (⟨(dM.add (pre.length * 7)).block, (dM.add (pre.length * 7)).off + 2, none⟩, .int .i64 k.f1.f1), (⟨(dM.add (pre.length * 7)).block, (dM.add (pre.length * 7)).off + 3, none⟩, .int .i64 k.f1.f2), (⟨(dM.add (pre.length * 7)).block, (dM.add (pre.length * 7)).off + 4, none⟩, .int .i64 k.f1.f3), (⟨(dM.add (pre.length * 7)).block, (dM.add (pre.length * 7)).off + 5, none⟩, .int .i64 k.f2), (⟨(dM.add (pre.length * 7)).block, (dM.add (pre.length * 7)).off + 6, none⟩, .slice ua k.f3.length uc)] w') ?_ ?_
      rotate_left
      ·intro mi
       refine AQ (i := 5) (j := 24) (Ni := some 45) (Nj := some 9) (bA 27 262143) (bA 27 17039327) rfl rfl rfl rfl (uC ak.out (by kernel_rfl)) (by decide) (by decide) (fun K hK => ?_) (fun K hK => ?_)
       ·skip
        refine fK Try.func67 (by kernel_rfl) rfl #[.agg #[.int .u8 k.f0, .int .i64 k.f1.f0, .int .i64 k.f1.f1, .int .i64 k.f1.f2, .int .i64 k.f1.f3, .int .i64 k.f2, .slice ua k.f3.length uc], .int .i64 0, .int .i64 0] (by rfl) rfl rfl (by (try simp only [List.map_toArray, List.map_cons, List.map_nil]); first | done | rfl) ?_
        refine (H_ k 0 0 tq.out (S.out.tree _ (.head _))).mono ?_
        rintro e vG ⟨E8, AB, rfl, h1, hb⟩
        refine ⟨_, rfl, ?_⟩
        replace S := ae.mk (S.out.res (Kd.rM (base' := 0) h1) hb)
        clear h1 hb
        refine hK.out _ _ S.out.bW (fun hHeld => ?_)
        clear hK K
        refine dR 45 ?_
        refine AQ (i := 18) (j := 24) (Ni := some 58) (Nj := some 9) (bA 27 524287) (bA 27 17039359) rfl rfl rfl rfl (uC ak.out (by kernel_rfl)) (by decide) (by decide) (fun K hK => ?_) (fun K hK => ?_)
        ·skip
         refine fK Try.func87 (by kernel_rfl) rfl #[.agg #[.int .i64 k.f1.f0, .int .i64 k.f1.f1, .int .i64 k.f1.f2, .int .i64 k.f1.f3], .int .u8 ax] (by rfl) rfl rfl (by (try simp only [List.map_toArray, List.map_cons, List.map_nil]); first | done | rfl) ?_
         refine (w_ ⟨k.f1.f0, k.f1.f1, k.f1.f2, k.f1.f3⟩ ax).mono ?_
         rintro e yf ⟨rfl, hb⟩
         refine ⟨_, rfl, ?_⟩
         replace S := ae.mk (S.out.call hb)
         clear hb
         refine hK.out _ _ S.out.bW (fun hHeld => ?_)
         clear hK K
         refine dR 58 ?_
         refine au 19 59 (bA 27 1048575) ak ?_
         refine AQ (i := 20) (j := 24) (Ni := some 60) (Nj := some 9) (bA 27 2097151) (bA 27 17825791) rfl rfl rfl rfl (uC ak.out (by kernel_rfl)) (by decide) (by decide) (fun K hK => ?_) (fun K hK => ?_)
         ·skip
          refine fK Try.func184 (by kernel_rfl) rfl #[.agg #[.int .u8 ((aX k 0 0).f0), .int .i64 ((aX k 0 0).f1.f0), .int .i64 ((aX k 0 0).f1.f1), .int .i64 ((aX k 0 0).f1.f2), .int .i64 ((aX k 0 0).f1.f3), .int .i64 ((aX k 0 0).f2), .slice E8 ((aX k 0 0).f3.length) AB], .int .u8 ax, .int .i64 (wrap64 ((rd sl (pre.length : Int)) - (bM ax k.f1)))] (by rfl) rfl rfl (by (try simp only [List.map_toArray, List.map_cons, List.map_nil]); first | done | rfl) ?_
          refine (Dh GK.out (yM ax (aX k 0 0) xx.out _ _ _ _ _ (dO (S.out.tree _ (.head _))))).mono ?_
          rintro e BF ⟨Dw, yY, rfl, h1, hb⟩
          refine ⟨_, rfl, ?_⟩
          replace S := ae.mk (S.out.res (Kd.rM (base' := 0) h1) hb)
          clear h1 hb
          refine hK.out _ _ S.out.bW.bW (fun hHeld => ?_)
          clear hK K
          refine dR 60 ?_
          refine au 21 39 (bA 27 4194303) ak ?_
          refine au 22 61 (bA 27 8388607) ak ?_
          refine au 23 62 (bA 27 16777215) ak ?_
          refine gU (i := 24) (N := some 9) (bA 27 33554431) rfl rfl (bY ak.out (by kernel_rfl)) (by decide) (fun K hK => ?_)
          refine kL ?hg (N := 9) ?hd (cs := #[.int .u8 0, .int .i64 0, .int .i64 0, .int .i64 0, .int .i64 0, .int .i64 0, .slice none 0 0]) (t := 26) ?hr ?_; (case hd => rfl); (case hg => rfl); (case hr => first | (go_simp; done) | (go_simp; rfl))
          intro b9 hg zI hbox hb
          replace S := ae.mk (S.out.box hg hbox hb)
          clear hg hbox hb
          refine hK.out _ _ S.out.eF.bW.bW (fun hHeld => ?_)
          clear hK K
          refine dR 9 ?_
          exact mr (by simp only [jM, Act.put, List.setIfInBounds_toArray, List.set_cons_zero, List.set_cons_succ] <;> rfl) (mi (E8, AB, Dw, yY, b9) _ S.out)
         ·skip
          refine kL ?hg (N := 9) ?hd (cs := #[.int .u8 0, .int .i64 0, .int .i64 0, .int .i64 0, .int .i64 0, .int .i64 0, .slice none 0 0]) (t := 26) ?hr ?_; (case hd => rfl); (case hg => rfl); (case hr => first | (go_simp; done) | (go_simp; rfl))
          intro b9 hg yB hbox hb
          replace S := ae.mk (S.out.box hg hbox hb)
          clear hg hbox hb
          refine hK.out _ _ S.out.eF.bW (fun hHeld => ?_)
          clear hK K
          refine dR 9 ?_
          refine gU (i := 20) (N := some 60) (bA 27 18874367) rfl rfl (bY ak.out (by kernel_rfl)) (by decide) (fun K hK => ?_)
          refine fK Try.func184 (by kernel_rfl) rfl #[.agg #[.int .u8 ((aX k 0 0).f0), .int .i64 ((aX k 0 0).f1.f0), .int .i64 ((aX k 0 0).f1.f1), .int .i64 ((aX k 0 0).f1.f2), .int .i64 ((aX k 0 0).f1.f3), .int .i64 ((aX k 0 0).f2), .slice E8 ((aX k 0 0).f3.length) AB], .int .u8 ax, .int .i64 (wrap64 ((rd sl (pre.length : Int)) - (bM ax k.f1)))] (by rfl) rfl rfl (by (try simp only [List.map_toArray, List.map_cons, List.map_nil]); first | done | rfl) ?_
          refine (Dh GK.out (yM ax (aX k 0 0) xx.out _ _ _ _ _ (dO (S.out.tree _ (.head _))))).mono ?_
          rintro e AU ⟨Dw, yY, rfl, h1, hb⟩
          refine ⟨_, rfl, ?_⟩
          replace S := ae.mk (S.out.res (Kd.rM (base' := 0) h1) hb)
          clear h1 hb
          refine hK.out _ _ S.out.eF.bW.bW (fun hHeld => ?_)
          clear hK K
          refine dR 60 ?_
          refine au 21 39 (bA 27 20971519) ak ?_
          refine au 22 61 (bA 27 25165823) ak ?_
          refine au 23 62 (bA 27 33554431) ak ?_
          exact mr (by simp only [jM, Act.put, List.setIfInBounds_toArray, List.set_cons_zero, List.set_cons_succ] <;> rfl) (mi (E8, AB, Dw, yY, b9) _ S.out)
        ·skip
         refine kL ?hg (N := 9) ?hd (cs := #[.int .u8 0, .int .i64 0, .int .i64 0, .int .i64 0, .int .i64 0, .int .i64 0, .slice none 0 0]) (t := 26) ?hr ?_; (case hd => rfl); (case hg => rfl); (case hr => first | (go_simp; done) | (go_simp; rfl))
         intro b9 hg zJ hbox hb
         replace S := ae.mk (S.out.box hg hbox hb)
         clear hg hbox hb
         refine hK.out _ _ S.out.eF.bW (fun hHeld => ?_)
         clear hK K
         refine dR 9 ?_
         refine gU (i := 18) (N := some 58) (bA 27 17301503) rfl rfl (bY ak.out (by kernel_rfl)) (by decide) (fun K hK => ?_)
         refine fK Try.func87 (by kernel_rfl) rfl #[.agg #[.int .i64 k.f1.f0, .int .i64 k.f1.f1, .int .i64 k.f1.f2, .int .i64 k.f1.f3], .int .u8 ax] (by rfl) rfl rfl (by (try simp only [List.map_toArray, List.map_cons, List.map_nil]); first | done | rfl) ?_
         refine (w_ ⟨k.f1.f0, k.f1.f1, k.f1.f2, k.f1.f3⟩ ax).mono ?_
         rintro e Gu ⟨rfl, hb⟩
         refine ⟨_, rfl, ?_⟩
         replace S := ae.mk (S.out.call hb)
         clear hb
         refine hK.out _ _ S.out.eF.bW (fun hHeld => ?_)
         clear hK K
         refine dR 58 ?_
         refine au 19 59 (bA 27 17825791) ak ?_
         refine gU (i := 20) (N := some 60) (bA 27 18874367) rfl rfl (bY ak.out (by kernel_rfl)) (by decide) (fun K hK => ?_)
         refine fK Try.func184 (by kernel_rfl) rfl #[.agg #[.int .u8 ((aX k 0 0).f0), .int .i64 ((aX k 0 0).f1.f0), .int .i64 ((aX k 0 0).f1.f1), .int .i64 ((aX k 0 0).f1.f2), .int .i64 ((aX k 0 0).f1.f3), .int .i64 ((aX k 0 0).f2), .slice E8 ((aX k 0 0).f3.length) AB], .int .u8 ax, .int .i64 (wrap64 ((rd sl (pre.length : Int)) - (bM ax k.f1)))] (by rfl) rfl rfl (by (try simp only [List.map_toArray, List.map_cons, List.map_nil]); first | done | rfl) ?_
         refine (Dh GK.out (yM ax (aX k 0 0) xx.out _ _ _ _ _ (dO (S.out.tree _ (.head _))))).mono ?_
         rintro e Gv ⟨Dw, yY, rfl, h1, hb⟩
         refine ⟨_, rfl, ?_⟩
         replace S := ae.mk (S.out.res (Kd.rM (base' := 0) h1) hb)
         clear h1 hb
         refine hK.out _ _ S.out.eF.bW.bW (fun hHeld => ?_)
         clear hK K
         refine dR 60 ?_
         refine au 21 39 (bA 27 20971519) ak ?_
         refine au 22 61 (bA 27 25165823) ak ?_
         refine au 23 62 (bA 27 33554431) ak ?_
         exact mr (by simp only [jM, Act.put, List.setIfInBounds_toArray, List.set_cons_zero, List.set_cons_succ] <;> rfl) (mi (E8, AB, Dw, yY, b9) _ S.out)
       ·skip
        refine kL ?hg (N := 9) ?hd (cs := #[.int .u8 0, .int .i64 0, .int .i64 0, .int .i64 0, .int .i64 0, .int .i64 0, .slice none 0 0]) (t := 26) ?hr ?_; (case hd => rfl); (case hg => rfl); (case hr => first | (go_simp; done) | (go_simp; rfl))
        intro b9 hg Ov hbox hb
        replace S := ae.mk (S.out.box hg hbox hb)
        clear hg hbox hb
        refine hK.out _ _ S.out.eF (fun hHeld => ?_)
        clear hK K
        refine dR 9 ?_
        refine gU (i := 5) (N := some 45) (bA 27 17039359) rfl rfl (bY ak.out (by kernel_rfl)) (by decide) (fun K hK => ?_)
        refine fK Try.func67 (by kernel_rfl) rfl #[.agg #[.int .u8 k.f0, .int .i64 k.f1.f0, .int .i64 k.f1.f1, .int .i64 k.f1.f2, .int .i64 k.f1.f3, .int .i64 k.f2, .slice ua k.f3.length uc], .int .i64 0, .int .i64 0] (by rfl) rfl rfl (by (try simp only [List.map_toArray, List.map_cons, List.map_nil]); first | done | rfl) ?_
        refine (H_ k 0 0 tq.out (S.out.tree _ (.head _))).mono ?_
        rintro e Rz ⟨E8, AB, rfl, h1, hb⟩
        refine ⟨_, rfl, ?_⟩
        replace S := ae.mk (S.out.res (Kd.rM (base' := 0) h1) hb)
        clear h1 hb
        refine hK.out _ _ S.out.eF.bW (fun hHeld => ?_)
        clear hK K
        refine dR 45 ?_
        refine gU (i := 18) (N := some 58) (bA 27 17301503) rfl rfl (bY ak.out (by kernel_rfl)) (by decide) (fun K hK => ?_)
        refine fK Try.func87 (by kernel_rfl) rfl #[.agg #[.int .i64 k.f1.f0, .int .i64 k.f1.f1, .int .i64 k.f1.f2, .int .i64 k.f1.f3], .int .u8 ax] (by rfl) rfl rfl (by (try simp only [List.map_toArray, List.map_cons, List.map_nil]); first | done | rfl) ?_
        refine (w_ ⟨k.f1.f0, k.f1.f1, k.f1.f2, k.f1.f3⟩ ax).mono ?_
        rintro e RD ⟨rfl, hb⟩
        refine ⟨_, rfl, ?_⟩
        replace S := ae.mk (S.out.call hb)
        clear hb
        refine hK.out _ _ S.out.eF.bW (fun hHeld => ?_)
        clear hK K
        refine dR 58 ?_
        refine au 19 59 (bA 27 17825791) ak ?_
        refine gU (i := 20) (N := some 60) (bA 27 18874367) rfl rfl (bY ak.out (by kernel_rfl)) (by decide) (fun K hK => ?_)
        refine fK Try.func184 (by kernel_rfl) rfl #[.agg #[.int .u8 ((aX k 0 0).f0), .int .i64 ((aX k 0 0).f1.f0), .int .i64 ((aX k 0 0).f1.f1), .int .i64 ((aX k 0 0).f1.f2), .int .i64 ((aX k 0 0).f1.f3), .int .i64 ((aX k 0 0).f2), .slice E8 ((aX k 0 0).f3.length) AB], .int .u8 ax, .int .i64 (wrap64 ((rd sl (pre.length : Int)) - (bM ax k.f1)))] (by rfl) rfl rfl (by (try simp only [List.map_toArray, List.map_cons, List.map_nil]); first | done | rfl) ?_
        refine (Dh GK.out (yM ax (aX k 0 0) xx.out _ _ _ _ _ (dO (S.out.tree _ (.head _))))).mono ?_
        rintro e ahS ⟨Dw, yY, rfl, h1, hb⟩
        refine ⟨_, rfl, ?_⟩
        replace S := ae.mk (S.out.res (Kd.rM (base' := 0) h1) hb)
        clear h1 hb
        refine hK.out _ _ S.out.eF.bW.bW (fun hHeld => ?_)
        clear hK K
        refine dR 60 ?_
        refine au 21 39 (bA 27 20971519) ak ?_
        refine au 22 61 (bA 27 25165823) ak ?_
        refine au 23 62 (bA 27 33554431) ak ?_
        exact mr (by simp only [jM, Act.put, List.setIfInBounds_toArray, List.set_cons_zero, List.set_cons_succ] <;> rfl) (mi (E8, AB, Dw, yY, b9) _ S.out)
      rintro ⟨E8, AB, Dw, yY, b9⟩ alZ S1
      simp only [jM, Act.put, List.setIfInBounds_toArray, List.set_cons_zero, List.set_cons_succ]
      replace S := ae.mk S1
      clear S1 hHeld
      have hHeld := S.out.eF.bW.bW
      refine mO (i := 25) (N := none) (bA 27 67108863) rfl rfl (bY ak.out (by kernel_rfl)) (by decide) (fun K hK => ?_)
      refine oJ 0 rfl 26 (.tmp 9) (.tmp 61) rfl #[.int .u8 ((dK ax k (NS pre.length)).f0), .int .i64 ((dK ax k (NS pre.length)).f1.f0), .int .i64 ((dK ax k (NS pre.length)).f1.f1), .int .i64 ((dK ax k (NS pre.length)).f1.f2), .int .i64 ((dK ax k (NS pre.length)).f1.f3), .int .i64 ((dK ax k (NS pre.length)).f2), .slice Dw ((dK ax k (NS pre.length)).f3.length) yY] (j := 0) (u := .agg #[.int .u8 ((dK ax k (NS pre.length)).f0), .int .i64 ((dK ax k (NS pre.length)).f1.f0), .int .i64 ((dK ax k (NS pre.length)).f1.f1), .int .i64 ((dK ax k (NS pre.length)).f1.f2), .int .i64 ((dK ax k (NS pre.length)).f1.f3), .int .i64 ((dK ax k (NS pre.length)).f2), .slice Dw ((dK ax k (NS pre.length)).f3.length) yY]) (bP := [.int .u8 ((dK ax k (NS pre.length)).f0), .int .i64 ((dK ax k (NS pre.length)).f1.f0), .int .i64 ((dK ax k (NS pre.length)).f1.f1), .int .i64 ((dK ax k (NS pre.length)).f1.f2), .int .i64 ((dK ax k (NS pre.length)).f1.f3), .int .i64 ((dK ax k (NS pre.length)).f2), .slice Dw ((dK ax k (NS pre.length)).f3.length) yY]) S.out (by rfl) rfl rfl rfl rfl (by kernel_rfl) (by simp [Value.oneCell']) (by first | decide | simp) rfl ?_
      intro ahT S1
      simp only [List.set_cons_zero, List.set_cons_succ] at S1
      replace S := ae.mk S1
      clear S1
      refine hK.out _ _ ?_
      clear hK K
      refine au 26 10 (bA 27 134217727) ak ?_
      refine jI (gQ ak.out (by kernel_rfl)) ?_
      clear hHeld
      by_cases hkn : (qI ax k (NS pre.length)) = 0
      ·have hkb2 : ((qI ax k (NS pre.length)) != 0) = false := by rw [hkn]; rfl
       have La := ae.mk hkn
       have hkd : decide ((qI ax k (NS pre.length)) = 0) = true := decide_eq_true hkn
       obtain ⟨nY, sH, oU, sK, yL, zU, zV⟩ := St.eY S (.head _)
       go_wp2_with (first
        | ((with_reducible refine aC (N := 69) rfl ?_); at_builtin; go_loud (refine Bd (.tmp 66) (.tmp 68) rfl rfl Try.underlying24 info26 S.out (dK ax k (NS pre.length)) (.head _) rfl (by first | (go_simp; done) | (go_simp; rfl)) (by have := tH.out; rw [uZ]; omega) ?_); intro Aq cq alV S1; rw [← UB] at S1 ⊢; replace S := ae.mk S1; clear S1; clear nY sH oU sK yL zU zV)
        | fail)
       have hw1 := HW1.out
       go_wp2
       go_roundg rest.length
       case measure => exact Nat.lt_of_lt_of_le (Nat.lt_succ_self _) jh.out
       case rel => exact ⟨pre ++ [k], rest, Aq, cq, (by simp), (by rw [hw1]), ⟨by rw [List.append_assoc]; exact HE.out⟩, Nat.le_refl _, ⟨by rw [zZ, RY.out]; simp only [qJ, Nat.zero_add, Bool.false_or, Bool.or_false]; rw [La.out]; rfl⟩, ⟨S.out.eF.bW.bW.bW.aT.aT.aT.aT.aT.aT.aT⟩⟩
      ·have hkb2 : ((qI ax k (NS pre.length)) != 0) = true := bne_iff_ne.mpr hkn
       have La := ae.mk hkb2
       have hkd : decide ((qI ax k (NS pre.length)) = 0) = false := decide_eq_false hkn
       go_wp2_with (first
        | ((with_reducible refine aC (N := 65) rfl ?_); replace S := ae.mk S.out.free; refine zk (N := 65) rfl rfl S.out ?hr ?_; (case hr => first | (go_simp; done) | (go_simp; rfl)); intro ak' alu ahU S1; replace S := ae.mk S1; clear S1)
        | fail)
       refine bodyPost_ret (results_tmp2 rfl _ _ _) rfl ?_
       rw [HR.out, if_pos (by rw [← HE.out, zZ]; simp only [qJ, Nat.zero_add]; rw [La.out]; simp)]
       exact ⟨_, _, rfl, S.out.free.AO (b0 := w.heap.size) (.head _), S.out.below⟩
theorem PV {W : World} {P : Nat → Prop} {A : Option Addr} {cc : Nat} (x : ai) (L : List ai) (en : Int) (h : jX x = (L, en)) (hz : sz x ≤ 100000) (hV : Kd.V k26 26 W W.heap.size P (.slice A x.f3.length cc) x.f3) :
  Calls Try.prog 156 #[.agg #[.int .u8 x.f0, .int .i64 x.f1.f0, .int .i64 x.f1.f1, .int .i64 x.f1.f2, .int .i64 x.f1.f3, .int .i64 x.f2, .slice A x.f3.length cc]] W (LG W P L en) := by
 have h2 := XF x hz P A cc W hV
 rw [h] at h2
 exact h2
theorem U0 (c : ai) (hz : sz c ≤ 1048576) (path : List Int) (hp : path.length ≤ 1048576) (P : Nat → Prop) (A : Option Addr) (cc : Nat) (B : Option Addr) (cb : Nat) (w : World) (hv : Kd.V k26 26 w w.heap.size P (.slice A c.f3.length cc) c.f3) (hi : Kd.C (Kd.int .i64) w B path.length path) (hb : path.length ≤ cb) :
  Calls Try.prog 110 #[.agg #[.int .u8 c.f0, .int .i64 c.f1.f0, .int .i64 c.f1.f1, .int .i64 c.f1.f2, .int .i64 c.f1.f3, .int .i64 c.f2, .slice A c.f3.length cc], .slice B path.length cb] w (pK w P (mW c path).1 (mW c path).2) := by
 have S := ae.mk (St.start (ts := [(.slice A c.f3.length cc, c.f3)]) (b0 := w.heap.size) (w := w) (P := P) (fun t ht => by rw [List.mem_singleton.1 ht]; exact hv))
 have HZ := ae.mk hz
 have tC := ae.mk hp
 have HI := ae.mk hi
 have LI := ae.mk hb
 have hs := fun h => oZ (qA (c := c) h)
 obtain ⟨ck, ⟨cx, cy, cw, ch⟩, ay, l⟩ := c
 simp only [] at S ⊢
 clear hv hz hp hi hb
 cases ht : eP ⟨ck, ⟨cx, cy, cw, ch⟩, ay, l⟩ with
 | false =>
  have HQ := ae.mk (at_bad (path := path) ht)
  have HT := ae.mk ht
  clear ht hs
  go_enter Try.func110, Try.ntmps110
  go_wp2_with (first
   | ((with_reducible refine aj 2 rfl ?_); refine boxS 2 #[.int .u8 ck, .int .i64 cx, .int .i64 cy, .int .i64 cw, .int .i64 ch, .int .i64 ay, .slice A l.length cc] 26 S ?_; clear S; intro b2 eH S)
   | ((with_reducible refine aj 4 rfl ?_); refine boxS 4 #[.int .u8 0, .int .i64 0, .int .i64 0, .int .i64 0, .int .i64 0, .int .i64 0, .slice none 0 0] 26 S ?_; clear S; intro b4 fG S)
   | ((with_reducible refine aj 6 rfl ?_); refine boxS 6 #[.int .u8 0, .int .i64 0, .int .i64 0, .int .i64 0, .int .i64 0, .int .i64 0, .slice none 0 0] 26 S ?_; clear S; intro b6 gV S)
   | ((with_reducible refine dB 26 (.tmp 6) (.tmp 13) rfl ?_); refine gI 26 6 13 #[.int .u8 0, .int .i64 0, .int .i64 0, .int .i64 0, .int .i64 0, .int .i64 0, .slice none 0 0] 0 7 S ?_; clear S; intro jB S; obtain ⟨bQ, bU, bV, cZ, df, di, bu⟩ := St.eY S (.tail _ (.tail _ (.head _))))
   | ((with_reducible refine aj 15 rfl ?_); refine dF (some 15) Try.func84 S (jG HT.out (mY ⟨ck, ⟨cx, cy, cw, ch⟩, ay, l⟩ HZ.out (S.out.tree _ (.head _)))) ?_; clear S; intro lQ S; clear bQ bU bV cZ df di bu; obtain ⟨vS, vT, vU, vV, vW, vX, vY⟩ := St.eY S (.head _))
   | ((with_reducible refine dB 26 (.tmp 4) (.tmp 17) rfl ?_); refine oh 26 4 17 #[.int .u8 0, .int .i64 0, .int .i64 0, .int .i64 0, .int .i64 0, .int .i64 0, .slice none 0 0] 0 7 S ?_; clear S; intro rG S; clear vS vT vU vV vW vX vY)
   | fail)
  rw [HQ.out]
  refine bodyPost_ret (bK rfl _ _ b4 26 #[.int .u8 0, .int .i64 0, .int .i64 0, .int .i64 0, .int .i64 0, .int .i64 0, .slice none 0 0] (0, 0) _ rfl (S.out.blk _ (.tail _ (.head _)) _ rfl) Try.underlying26 rfl (by kernel_rfl)) rfl ?_
  exact ⟨_, _, rfl, Kd.kN _ _ _ _ _, S.out.below⟩
 | true =>
  have hs2 := hs ht
  have HT := ae.mk ht
  have GM := ae.mk (show sz ⟨ck, ⟨cx, cy, cw, ch⟩, ay, l⟩ ≤ 1000000 by omega)
  clear ht hs
  cases hx : rP ⟨ck, ⟨cx, cy, cw, ch⟩, ay, l⟩ path with
  | none =>
   have HQ := ae.mk (Qu HT.out hx)
   have HAT := ae.mk hx
   clear hx hs2
   go_enter Try.func110, Try.ntmps110
   go_wp2_with (first
    | ((with_reducible refine aj 2 rfl ?_); refine boxS 2 #[.int .u8 ck, .int .i64 cx, .int .i64 cy, .int .i64 cw, .int .i64 ch, .int .i64 ay, .slice A l.length cc] 26 S ?_; clear S; intro b2 eH S)
    | ((with_reducible refine aj 4 rfl ?_); refine boxS 4 #[.int .u8 0, .int .i64 0, .int .i64 0, .int .i64 0, .int .i64 0, .int .i64 0, .slice none 0 0] 26 S ?_; clear S; intro b4 fG S)
    | ((with_reducible refine aj 6 rfl ?_); refine boxS 6 #[.int .u8 0, .int .i64 0, .int .i64 0, .int .i64 0, .int .i64 0, .int .i64 0, .slice none 0 0] 26 S ?_; clear S; intro b6 gV S)
    | ((with_reducible refine dB 26 (.tmp 6) (.tmp 13) rfl ?_); refine gI 26 6 13 #[.int .u8 0, .int .i64 0, .int .i64 0, .int .i64 0, .int .i64 0, .int .i64 0, .slice none 0 0] 0 7 S ?_; clear S; intro jB S; obtain ⟨bQ, bU, bV, cZ, df, di, bu⟩ := St.eY S (.tail _ (.tail _ (.head _))))
    | ((with_reducible refine aj 15 rfl ?_); refine dF (some 15) Try.func84 S (jG HT.out (mY ⟨ck, ⟨cx, cy, cw, ch⟩, ay, l⟩ HZ.out (S.out.tree _ (.head _)))) ?_; clear S; intro lQ S; clear bQ bU bV cZ df di bu; obtain ⟨bQ, bU, bV, cZ, df, di, bu⟩ := St.eY S (.tail _ (.tail _ (.head _))))
    | ((with_reducible refine aj 21 rfl ?_); refine kR (some 21) Try.func92 (XA ⟨ck, ⟨cx, cy, cw, ch⟩, ay, l⟩ path HAT.out (S.out.tree _ (.head _)) (Kd.fC HI.out S.out.below) LI.out) ?_; rintro e rG ⟨Ax, zX, rfl, h1, hb⟩; refine ⟨_, rfl, ?_⟩; replace S := ae.mk (S.out.res h1 hb); clear h1 hb; clear bQ bU bV cZ df di bu)
    | ((with_reducible refine aj 7 rfl ?_); refine boxS 7 #[.int .u8 0, .int .i64 0, .int .i64 0, .int .i64 0, .int .i64 0, .int .i64 0, .slice none 0 0] 26 S ?_; clear S; intro b7 vG S)
    | ((with_reducible refine dB 26 (.tmp 7) (.tmp 22) rfl ?_); refine gI 26 7 22 #[.int .u8 0, .int .i64 0, .int .i64 0, .int .i64 0, .int .i64 0, .int .i64 0, .slice Ax 0 zX] 0 7 S ?_; clear S; intro yf S; obtain ⟨vS, vT, vU, vV, vW, vX, vY⟩ := St.eY S (.tail _ (.head _)))
    | ((with_reducible refine dB 26 (.tmp 4) (.tmp 26) rfl ?_); refine Oa 26 4 26 #[.int .u8 0, .int .i64 0, .int .i64 0, .int .i64 0, .int .i64 0, .int .i64 0, .slice none 0 0] 0 7 S ?_; clear S; intro BF S; clear vS vT vU vV vW vX vY)
    | fail)
   rw [HQ.out]
   refine bodyPost_ret (bK rfl _ _ b4 26 #[.int .u8 0, .int .i64 0, .int .i64 0, .int .i64 0, .int .i64 0, .int .i64 0, .slice none 0 0] (0, 0) _ rfl (S.out.blk _ (.tail _ (.tail _ (.head _))) _ rfl) Try.underlying26 rfl (by kernel_rfl)) rfl ?_
   exact ⟨_, _, rfl, Kd.kN _ _ _ _ _, S.out.below⟩
  | some x =>
   have hxz := Iy path _ x hx
   have hkl := Ec x
   have hxe := dL x
   obtain ⟨⟨L, en⟩, hk⟩ : ∃ p, jX x = p := ⟨_, rfl⟩
   rw [hk] at hkl
   have HAT := ae.mk hx
   have Sl := ae.mk (show sz x ≤ 100000 by omega)
   by_cases hen : en = 0
   case neg =>
    have HQ := ae.mk (SQ HT.out hx hk hen)
    have HK := ae.mk hk
    have ahC : (en != 0) = true := bne_iff_ne.mpr hen
    have hend : decide (en = 0) = false := decide_eq_false hen
    clear hx hs2 hxz hkl hxe hk hen
    go_enter Try.func110, Try.ntmps110
    go_wp2_with (first
     | ((with_reducible refine aj 2 rfl ?_); refine boxS 2 #[.int .u8 ck, .int .i64 cx, .int .i64 cy, .int .i64 cw, .int .i64 ch, .int .i64 ay, .slice A l.length cc] 26 S ?_; clear S; intro b2 eH S)
     | ((with_reducible refine aj 4 rfl ?_); refine boxS 4 #[.int .u8 0, .int .i64 0, .int .i64 0, .int .i64 0, .int .i64 0, .int .i64 0, .slice none 0 0] 26 S ?_; clear S; intro b4 fG S)
     | ((with_reducible refine aj 6 rfl ?_); refine boxS 6 #[.int .u8 0, .int .i64 0, .int .i64 0, .int .i64 0, .int .i64 0, .int .i64 0, .slice none 0 0] 26 S ?_; clear S; intro b6 gV S)
     | ((with_reducible refine dB 26 (.tmp 6) (.tmp 13) rfl ?_); refine gI 26 6 13 #[.int .u8 0, .int .i64 0, .int .i64 0, .int .i64 0, .int .i64 0, .int .i64 0, .slice none 0 0] 0 7 S ?_; clear S; intro jB S; obtain ⟨bQ, bU, bV, cZ, df, di, bu⟩ := St.eY S (.tail _ (.tail _ (.head _))))
     | ((with_reducible refine aj 15 rfl ?_); refine dF (some 15) Try.func84 S (jG HT.out (mY ⟨ck, ⟨cx, cy, cw, ch⟩, ay, l⟩ HZ.out (S.out.tree _ (.head _)))) ?_; clear S; intro lQ S; clear bQ bU bV cZ df di bu; obtain ⟨bQ, bU, bV, cZ, df, di, bu⟩ := St.eY S (.tail _ (.tail _ (.head _))))
     | ((with_reducible refine aj 21 rfl ?_); refine kR (some 21) Try.func92 (YS ⟨ck, ⟨cx, cy, cw, ch⟩, ay, l⟩ path x HAT.out (S.out.tree _ (.head _)) (Kd.fC HI.out S.out.below) LI.out) ?_; rintro e rG ⟨Ax, zX, rfl, h1, hb⟩; refine ⟨_, rfl, ?_⟩; replace S := ae.mk (S.out.res h1 hb); clear h1 hb; clear bQ bU bV cZ df di bu)
     | ((with_reducible refine aj 7 rfl ?_); refine boxS 7 #[.int .u8 0, .int .i64 0, .int .i64 0, .int .i64 0, .int .i64 0, .int .i64 0, .slice none 0 0] 26 S ?_; clear S; intro b7 vG S)
     | ((with_reducible refine dB 26 (.tmp 7) (.tmp 22) rfl ?_); refine gI 26 7 22 #[.int .u8 x.f0, .int .i64 x.f1.f0, .int .i64 x.f1.f1, .int .i64 x.f1.f2, .int .i64 x.f1.f3, .int .i64 x.f2, .slice Ax x.f3.length zX] 0 7 S ?_; clear S; intro yf S; obtain ⟨Ce, Cf, Ci, yJ, yK, Cj, Cm⟩ := St.eY S (.head _))
     | ((with_reducible refine aj 29 rfl ?_); refine kR (some 29) Try.func156 (PV x L en HK.out Sl.out (dO (S.out.tree _ (.head _)))) ?_; rintro e BF ⟨Ak, jJ, rfl, h1, hb⟩; refine ⟨_, rfl, ?_⟩; replace S := ae.mk (S.out.res h1 hb); clear h1 hb; clear Ce Cf Ci yJ yK Cj Cm; obtain ⟨vS, vT, vU, vV, vW, vX, vY⟩ := St.eY S (.tail _ (.head _)))
     | ((with_reducible refine dB 26 (.tmp 4) (.tmp 34) rfl ?_); refine Oa 26 4 34 #[.int .u8 0, .int .i64 0, .int .i64 0, .int .i64 0, .int .i64 0, .int .i64 0, .slice none 0 0] 0 7 S ?_; clear S; intro zI S; clear vS vT vU vV vW vX vY)
     | fail)
    rw [HQ.out]
    refine bodyPost_ret (bK rfl _ _ b4 26 #[.int .u8 0, .int .i64 0, .int .i64 0, .int .i64 0, .int .i64 0, .int .i64 0, .slice none 0 0] (0, 0) _ rfl (S.out.blk _ (.tail _ (.tail _ (.head _))) _ rfl) Try.underlying26 rfl (by kernel_rfl)) rfl ?_
    exact ⟨_, _, rfl, Kd.kN _ _ _ _ _, S.out.below⟩
   subst hen
   obtain ⟨z, hz⟩ := UY (kid := ⟨x.f0, x.f1, x.f2, L⟩) path _ hx
   have HQ := ae.mk (Yr HT.out hx hk hz)
   have HK := ae.mk hk
   have HP := ae.mk hz
   have hpz := Gh _ path _ z hz
   have hks := dL ⟨x.f0, x.f1, x.f2, L⟩
   simp only [] at hks hkl
   have tq := ae.mk (show sz ⟨x.f0, x.f1, x.f2, L⟩ ≤ 1000000 by omega)
   have HZZ := ae.mk (show sz z ≤ 1000000 by omega)
   clear hx hs2 hxz hkl hxe hk hz hpz hks
   go_enter Try.func110, Try.ntmps110
   go_wp2_with (first
    | ((with_reducible refine aj 2 rfl ?_); refine boxS 2 #[.int .u8 ck, .int .i64 cx, .int .i64 cy, .int .i64 cw, .int .i64 ch, .int .i64 ay, .slice A l.length cc] 26 S ?_; clear S; intro b2 eH S)
    | ((with_reducible refine aj 4 rfl ?_); refine boxS 4 #[.int .u8 0, .int .i64 0, .int .i64 0, .int .i64 0, .int .i64 0, .int .i64 0, .slice none 0 0] 26 S ?_; clear S; intro b4 fG S)
    | ((with_reducible refine aj 6 rfl ?_); refine boxS 6 #[.int .u8 0, .int .i64 0, .int .i64 0, .int .i64 0, .int .i64 0, .int .i64 0, .slice none 0 0] 26 S ?_; clear S; intro b6 gV S)
    | ((with_reducible refine dB 26 (.tmp 6) (.tmp 13) rfl ?_); refine gI 26 6 13 #[.int .u8 0, .int .i64 0, .int .i64 0, .int .i64 0, .int .i64 0, .int .i64 0, .slice none 0 0] 0 7 S ?_; clear S; intro jB S; obtain ⟨bQ, bU, bV, cZ, df, di, bu⟩ := St.eY S (.tail _ (.tail _ (.head _))))
    | ((with_reducible refine aj 15 rfl ?_); refine dF (some 15) Try.func84 S (jG HT.out (mY ⟨ck, ⟨cx, cy, cw, ch⟩, ay, l⟩ HZ.out (S.out.tree _ (.head _)))) ?_; clear S; intro lQ S; clear bQ bU bV cZ df di bu; obtain ⟨bQ, bU, bV, cZ, df, di, bu⟩ := St.eY S (.tail _ (.tail _ (.head _))))
    | ((with_reducible refine aj 21 rfl ?_); refine kR (some 21) Try.func92 (YS ⟨ck, ⟨cx, cy, cw, ch⟩, ay, l⟩ path x HAT.out (S.out.tree _ (.head _)) (Kd.fC HI.out S.out.below) LI.out) ?_; rintro e rG ⟨Ax, zX, rfl, h1, hb⟩; refine ⟨_, rfl, ?_⟩; replace S := ae.mk (S.out.res h1 hb); clear h1 hb; clear bQ bU bV cZ df di bu)
    | ((with_reducible refine aj 7 rfl ?_); refine boxS 7 #[.int .u8 0, .int .i64 0, .int .i64 0, .int .i64 0, .int .i64 0, .int .i64 0, .slice none 0 0] 26 S ?_; clear S; intro b7 vG S)
    | ((with_reducible refine dB 26 (.tmp 7) (.tmp 22) rfl ?_); refine gI 26 7 22 #[.int .u8 x.f0, .int .i64 x.f1.f0, .int .i64 x.f1.f1, .int .i64 x.f1.f2, .int .i64 x.f1.f3, .int .i64 x.f2, .slice Ax x.f3.length zX] 0 7 S ?_; clear S; intro yf S; obtain ⟨Ce, Cf, Ci, yJ, yK, Cj, Cm⟩ := St.eY S (.head _))
    | ((with_reducible refine aj 29 rfl ?_); refine kR (some 29) Try.func156 (PV x L 0 HK.out Sl.out (dO (S.out.tree _ (.head _)))) ?_; rintro e BF ⟨Ak, jJ, rfl, h1, hb⟩; refine ⟨_, rfl, ?_⟩; replace S := ae.mk (S.out.res h1 hb); clear h1 hb; clear Ce Cf Ci yJ yK Cj Cm)
    | ((with_reducible refine dB 24 (.tmp 37) (.tmp 36) rfl ?_); refine gI 24 37 36 #[.int .u8 x.f0, .int .i64 x.f1.f0, .int .i64 x.f1.f1, .int .i64 x.f1.f2, .int .i64 x.f1.f3, .int .i64 x.f2, .slice Ak L.length jJ] 6 1 S ?_; clear S; intro zI S; obtain ⟨Ce, Cf, Ci, yJ, yK, Cj, Cm⟩ := St.eY S (.head _); obtain ⟨bQ, bU, bV, cZ, df, di, bu⟩ := St.eY S (.tail _ (.tail _ (.tail _ (.head _)))))
    | ((with_reducible refine aj 42 rfl ?_); refine af_ (some 42) Try.func103 S (aeW ⟨ck, ⟨cx, cy, cw, ch⟩, ay, l⟩ ⟨x.f0, x.f1, x.f2, L⟩ path z HP.out GM.out (S.out.tree _ (.tail _ (.tail _ (.head _)))) (S.out.tree _ (.head _)) (Kd.fC HI.out S.out.below) LI.out) ?_; clear S; intro Az cz yB S; clear Ce Cf Ci yJ yK Cj Cm bQ bU bV cZ df di bu)
    | ((with_reducible refine aj 11 rfl ?_); refine boxS 11 #[.int .u8 0, .int .i64 0, .int .i64 0, .int .i64 0, .int .i64 0, .int .i64 0, .slice none 0 0] 26 S ?_; clear S; intro b11 AU S)
    | ((with_reducible refine dB 26 (.tmp 11) (.tmp 43) rfl ?_); refine gI 26 11 43 #[.int .u8 z.f0, .int .i64 z.f1.f0, .int .i64 z.f1.f1, .int .i64 z.f1.f2, .int .i64 z.f1.f3, .int .i64 z.f2, .slice Az z.f3.length cz] 0 7 S ?_; clear S; intro zJ S; obtain ⟨MN, MO, MP, MQ, MR, MS, MV⟩ := St.eY S (.head _); have bU := (S.out.at (.tail _ (.tail _ (.tail _ (.tail _ (.head _))))) 1).trans rfl; have bV := (S.out.at (.tail _ (.tail _ (.tail _ (.tail _ (.head _))))) 2).trans rfl)
    | ((with_reducible refine aj 52 rfl ?_); refine KF (some 52) Try.func67 S (H_ z cx cy HZZ.out (S.out.tree _ (.head _))) ?_; clear S; intro A52 acX Gu S; clear MN MO MP MQ MR MS MV bU bV)
    | ((with_reducible refine dB 26 (.tmp 4) (.tmp 52) rfl ?_); refine Xv 26 4 52 #[.int .u8 ((aX z cx cy).f0), .int .i64 ((aX z cx cy).f1.f0), .int .i64 ((aX z cx cy).f1.f1), .int .i64 ((aX z cx cy).f1.f2), .int .i64 ((aX z cx cy).f1.f3), .int .i64 ((aX z cx cy).f2), .slice A52 ((aX z cx cy).f3.length) acX] 0 7 S ?_; clear S; intro Gv S)
    | fail)
   rw [HQ.out]
   refine bodyPost_ret (bK rfl _ _ b4 26 #[.int .u8 ((aX z cx cy).f0), .int .i64 ((aX z cx cy).f1.f0), .int .i64 ((aX z cx cy).f1.f1), .int .i64 ((aX z cx cy).f1.f2), .int .i64 ((aX z cx cy).f1.f3), .int .i64 ((aX z cx cy).f2), .slice A52 ((aX z cx cy).f3.length) acX] (0, 0) _ rfl (S.out.blk _ (.tail _ (.tail _ (.tail _ (.head _)))) _ rfl) Try.underlying26 rfl (by kernel_rfl)) rfl ?_
   exact ⟨_, _, rfl, S.out.tK, S.out.below⟩
def xW.T8 : Bool × List (List Nat × List Nat) := (true, [([], []), ([], []), ([], []), ([2], [2]), ([3], [3]), ([1, 4], [1, 4]), ([0, 5], [0, 5]), ([6], [6]), ([6], [6]), ([7, 6, 0, 1, 2, 3, 4, 5, 6, 7, 8], [7]), ([8, 9, 0, 1, 2, 3, 4, 5, 6, 7, 8, 9], [8])])
def xW.B8 : List Nat := [0, 0, 0, 4, 12, 30, 63, 127, 127, 511, 1023]
theorem xW.Oo : iY .any (opsOf Try.f112 8) = xW.T8 := by kernel_rfl
theorem xW.GY : iI xW.T8.2 xW.B8 = true := by kernel_rfl
theorem YT {c z : ai} {path : List Int} {n : Int} {P : Nat → Prop} {W : World} {args : Array Value} (h : mW c path = (z, n)) (hc : Calls Try.prog 110 args W (pK W P (mW c path).1 (mW c path).2)) : Calls Try.prog 110 args W (pK W P z n) := by
 rw [h] at hc
 exact hc
theorem Q9 (c : ai) (hz : sz c ≤ 1000000) (id : Int) (P : Nat → Prop) (A : Option Addr) (cc : Nat) (w : World) (hv : Kd.V k26 26 w w.heap.size P (.slice A c.f3.length cc) c.f3) :
  Calls Try.prog 112 #[.agg #[.int .u8 c.f0, .int .i64 c.f1.f0, .int .i64 c.f1.f1, .int .i64 c.f1.f2, .int .i64 c.f1.f3, .int .i64 c.f2, .slice A c.f3.length cc], .int .i64 id] w (pK w P (rq c id).1 (rq c id).2) := by
 have S := ae.mk (St.start (ts := [(.slice A c.f3.length cc, c.f3)]) (b0 := w.heap.size) (w := w) (P := P) (fun t ht => by rw [List.mem_singleton.1 ht]; exact hv))
 have DC := ae.mk (show sz c ≤ 1048576 by omega)
 have HZ := ae.mk hz
 have hpl := fun p (h : iP id c = some p) => (CJ id (sz c)).1 c (Nat.le_refl _) p h
 obtain ⟨ck, ⟨cx, cy, cw, ch⟩, ay, l⟩ := c
 simp only [] at S ⊢
 clear hv hz
 cases ht : eP ⟨ck, ⟨cx, cy, cw, ch⟩, ay, l⟩ with
 | false =>
  have xB := ae.mk (SI (id := id) ht)
  have HT := ae.mk ht
  clear ht hpl
  go_enter Try.func112, Try.ntmps112
  go_wp2_with (first
   | ((with_reducible refine aj 2 rfl ?_); refine boxS 2 #[.int .u8 ck, .int .i64 cx, .int .i64 cy, .int .i64 cw, .int .i64 ch, .int .i64 ay, .slice A l.length cc] 26 S ?_; clear S; intro b2 eH S)
   | ((with_reducible refine aj 4 rfl ?_); refine boxS 4 #[.int .u8 0, .int .i64 0, .int .i64 0, .int .i64 0, .int .i64 0, .int .i64 0, .slice none 0 0] 26 S ?_; clear S; intro b4 fG S; obtain ⟨bQ, bU, bV, cZ, df, di, bu⟩ := St.eY S (.tail _ (.head _)))
   | ((with_reducible refine aj 9 rfl ?_); refine dF (some 9) Try.func84 S (jG HT.out (mY ⟨ck, ⟨cx, cy, cw, ch⟩, ay, l⟩ DC.out (S.out.tree _ (.head _)))) ?_; clear S; intro gV S; clear bQ bU bV cZ df di bu)
   | ((with_reducible refine dB 26 (.tmp 4) (.tmp 11) rfl ?_); refine gI 26 4 11 #[.int .u8 0, .int .i64 0, .int .i64 0, .int .i64 0, .int .i64 0, .int .i64 0, .slice none 0 0] 0 7 S ?_; clear S; intro jB S)
   | fail)
  rw [xB.out]
  refine bodyPost_ret (bK rfl _ _ b4 26 #[.int .u8 0, .int .i64 0, .int .i64 0, .int .i64 0, .int .i64 0, .int .i64 0, .slice none 0 0] (0, 0) _ rfl (S.out.blk _ (.head _) _ rfl) Try.underlying26 rfl (by kernel_rfl)) rfl ?_
  exact ⟨_, _, rfl, Kd.kN _ _ _ _ _, S.out.below⟩
 | true =>
  have HT := ae.mk ht
  clear ht
  cases hf : iP id ⟨ck, ⟨cx, cy, cw, ch⟩, ay, l⟩ with
  | none =>
   have xB := ae.mk (Yo HT.out hf)
   have HF := ae.mk hf
   clear hf hpl
   go_enter Try.func112, Try.ntmps112
   go_wp2_with (first
    | ((with_reducible refine aj 2 rfl ?_); refine boxS 2 #[.int .u8 ck, .int .i64 cx, .int .i64 cy, .int .i64 cw, .int .i64 ch, .int .i64 ay, .slice A l.length cc] 26 S ?_; clear S; intro b2 eH S)
    | ((with_reducible refine aj 4 rfl ?_); refine boxS 4 #[.int .u8 0, .int .i64 0, .int .i64 0, .int .i64 0, .int .i64 0, .int .i64 0, .slice none 0 0] 26 S ?_; clear S; intro b4 fG S; obtain ⟨bQ, bU, bV, cZ, df, di, bu⟩ := St.eY S (.tail _ (.head _)))
    | ((with_reducible refine aj 9 rfl ?_); refine dF (some 9) Try.func84 S (jG HT.out (mY ⟨ck, ⟨cx, cy, cw, ch⟩, ay, l⟩ DC.out (S.out.tree _ (.head _)))) ?_; clear S; intro gV S; clear bQ bU bV cZ df di bu; obtain ⟨bQ, bU, bV, cZ, df, di, bu⟩ := St.eY S (.tail _ (.head _)))
    | ((with_reducible refine aj 15 rfl ?_); refine CP (some 15) Try.func90 S (XE id ⟨ck, ⟨cx, cy, cw, ch⟩, ay, l⟩ HF.out HZ.out (S.out.tree _ (.head _))) ?_; clear S; intro Ap cp op jB S Dn; clear bQ bU bV cZ df di bu)
    | ((with_reducible refine dB 26 (.tmp 4) (.tmp 20) rfl ?_); refine oh 26 4 20 #[.int .u8 0, .int .i64 0, .int .i64 0, .int .i64 0, .int .i64 0, .int .i64 0, .slice none 0 0] 0 7 S ?_; clear S; intro lQ S)
    | fail)
   rw [xB.out]
   refine bodyPost_ret (bK rfl _ _ b4 26 #[.int .u8 0, .int .i64 0, .int .i64 0, .int .i64 0, .int .i64 0, .int .i64 0, .slice none 0 0] (0, 0) _ rfl (S.out.blk _ (.tail _ (.head _)) _ rfl) Try.underlying26 rfl (by kernel_rfl)) rfl ?_
   exact ⟨_, _, rfl, Kd.kN _ _ _ _ _, S.out.below⟩
  | some p =>
   have hl := hpl p hf
   have HF := ae.mk hf
   by_cases h0 : p.length = 0
   case pos =>
    have xB := ae.mk (SK HT.out hf h0)
    have Dt : ((p.length : Int) == 0) = true := beq_iff_eq.mpr (by omega)
    have uk : decide ((p.length : Int) = 0) = true := decide_eq_true (by omega)
    have h0c : (p.length == 0) = true := beq_iff_eq.mpr (by omega)
    have Ho : decide (p.length = 0) = true := decide_eq_true (by omega)
    clear hf hpl hl h0
    go_enter Try.func112, Try.ntmps112
    go_wp2_with (first
     | ((with_reducible refine aj 2 rfl ?_); refine boxS 2 #[.int .u8 ck, .int .i64 cx, .int .i64 cy, .int .i64 cw, .int .i64 ch, .int .i64 ay, .slice A l.length cc] 26 S ?_; clear S; intro b2 eH S)
     | ((with_reducible refine aj 4 rfl ?_); refine boxS 4 #[.int .u8 0, .int .i64 0, .int .i64 0, .int .i64 0, .int .i64 0, .int .i64 0, .slice none 0 0] 26 S ?_; clear S; intro b4 fG S; obtain ⟨bQ, bU, bV, cZ, df, di, bu⟩ := St.eY S (.tail _ (.head _)))
     | ((with_reducible refine aj 9 rfl ?_); refine dF (some 9) Try.func84 S (jG HT.out (mY ⟨ck, ⟨cx, cy, cw, ch⟩, ay, l⟩ DC.out (S.out.tree _ (.head _)))) ?_; clear S; intro gV S; clear bQ bU bV cZ df di bu; obtain ⟨bQ, bU, bV, cZ, df, di, bu⟩ := St.eY S (.tail _ (.head _)))
     | ((with_reducible refine aj 15 rfl ?_); refine CP (some 15) Try.func90 S (H9 id ⟨ck, ⟨cx, cy, cw, ch⟩, ay, l⟩ p HF.out HZ.out (S.out.tree _ (.head _))) ?_; clear S; intro Ap cp op jB S Dn; clear bQ bU bV cZ df di bu)
     | ((with_reducible refine dB 26 (.tmp 4) (.tmp 24) rfl ?_); refine oh 26 4 24 #[.int .u8 0, .int .i64 0, .int .i64 0, .int .i64 0, .int .i64 0, .int .i64 0, .slice none 0 0] 0 7 S ?_; clear S; intro lQ S)
     | fail)
    rw [xB.out]
    refine bodyPost_ret (bK rfl _ _ b4 26 #[.int .u8 0, .int .i64 0, .int .i64 0, .int .i64 0, .int .i64 0, .int .i64 0, .slice none 0 0] (0, 0) _ rfl (S.out.blk _ (.tail _ (.head _)) _ rfl) Try.underlying26 rfl (by kernel_rfl)) rfl ?_
    exact ⟨_, _, rfl, Kd.kN _ _ _ _ _, S.out.below⟩
   have xB := ae.mk (Yp HT.out hf h0)
   have Dt : ((p.length : Int) == 0) = false := beq_eq_false_iff_ne.mpr (by omega)
   have uk : decide ((p.length : Int) = 0) = false := decide_eq_false (by omega)
   have h0c : (p.length == 0) = false := beq_eq_false_iff_ne.mpr (by omega)
   have Ho : decide (p.length = 0) = false := decide_eq_false (by omega)
   obtain ⟨q, hq⟩ : ∃ q, q = p.take (p.length - 1) := ⟨_, rfl⟩
   obtain ⟨⟨zq, nq⟩, hz⟩ : ∃ r, mW ⟨ck, ⟨cx, cy, cw, ch⟩, ay, l⟩ q = r := ⟨_, rfl⟩
   rw [← hq, hz] at xB
   have HAQ := ae.mk hz
   have HQ := ae.mk (And.intro hq (show p.length - 1 ≤ p.length by omega))
   have Si := ae.mk (show q.length ≤ 1048576 by rw [hq, List.length_take]; have := HZ.out; omega)
   have HP0 := ae.mk h0
   have tC := ae.mk (show p.length ≤ 1048576 by have := HZ.out; omega)
   clear hf hpl hl h0 hz hq
   go_enter Try.func112, Try.ntmps112
   go_wp2_with (first
    | ((with_reducible refine aj 2 rfl ?_); refine boxS 2 #[.int .u8 ck, .int .i64 cx, .int .i64 cy, .int .i64 cw, .int .i64 ch, .int .i64 ay, .slice A l.length cc] 26 S ?_; clear S; intro b2 eH S)
    | ((with_reducible refine aj 4 rfl ?_); refine boxS 4 #[.int .u8 0, .int .i64 0, .int .i64 0, .int .i64 0, .int .i64 0, .int .i64 0, .slice none 0 0] 26 S ?_; clear S; intro b4 fG S; obtain ⟨bQ, bU, bV, cZ, df, di, bu⟩ := St.eY S (.tail _ (.head _)))
    | ((with_reducible refine aj 9 rfl ?_); refine dF (some 9) Try.func84 S (jG HT.out (mY ⟨ck, ⟨cx, cy, cw, ch⟩, ay, l⟩ DC.out (S.out.tree _ (.head _)))) ?_; clear S; intro gV S; clear bQ bU bV cZ df di bu; obtain ⟨bQ, bU, bV, cZ, df, di, bu⟩ := St.eY S (.tail _ (.head _)))
    | ((with_reducible refine aj 15 rfl ?_); refine CP (some 15) Try.func90 S (H9 id ⟨ck, ⟨cx, cy, cw, ch⟩, ay, l⟩ p HF.out HZ.out (S.out.tree _ (.head _))) ?_; clear S; intro Ap cp op jB S Dn; clear bQ bU bV cZ df di bu)
    | fail)
   have hcut := Nb (A := Ap) (c := cp) HQ.out.1 HP0.out tC.out (VM Dn.out S.out (.head _)).2
   go_wp2
   refine iR (n := 11) (S := fun w' => St w _ _ _ _ _ w') (ds := [9]) (bA 11 0) (by kernel_rfl) rfl rfl (S.out.call (bC (Below.refl _ _))) (fun hHeld => ?_); refine fJ xW.Oo xW.GY (fun ak dZ => ?_)
   replace S := ae.mk (S.out.call (bC (Below.refl _ _)))
   generalize jB.drew = wd5 at S hHeld ⊢
   refine dE 0 25 (bA 11 1) ak dZ hHeld ?_ (hv := by intro w' hs_; have bQ := (hs_.at (.tail _ (.tail _ (.head _))) 0).trans rfl; have bU := (hs_.at (.tail _ (.tail _ (.head _))) 1).trans rfl; have bV := (hs_.at (.tail _ (.tail _ (.head _))) 2).trans rfl; have cZ := (hs_.at (.tail _ (.tail _ (.head _))) 3).trans rfl; have df := (hs_.at (.tail _ (.tail _ (.head _))) 4).trans rfl; have di := (hs_.at (.tail _ (.tail _ (.head _))) 5).trans rfl; have bu := (hs_.at (.tail _ (.tail _ (.head _))) 6).trans rfl; go_simp; with_reducible rfl)
   refine au 1 26 (bA 11 3) ak ?_
   refine au 2 27 (bA 11 7) ak ?_
   refine au 3 28 (bA 11 15) ak ?_
   refine au 4 29 (bA 11 31) ak ?_
   refine au 5 30 (bA 11 63) ak ?_
   refine gU (i := 6) (N := some 31) (bA 11 127) rfl rfl (bY ak.out (by kernel_rfl)) (by decide) (fun K hK => ?_)
   refine fK Try.func110 (by kernel_rfl) rfl #[.agg #[.int .u8 ck, .int .i64 cx, .int .i64 cy, .int .i64 cw, .int .i64 ch, .int .i64 ay, .slice A l.length cc], .slice Ap q.length cp] (by rfl) rfl rfl (by (try simp only [List.map_toArray, List.map_cons, List.map_nil]); first | done | rfl) ?_
   refine (YT HAQ.out (U0 ⟨ck, ⟨cx, cy, cw, ch⟩, ay, l⟩ DC.out q Si.out _ A cc Ap cp _ (dO (S.out.tree _ (.head _))) (EE Dn.out S.out (.head _) HQ.out).1 (EE Dn.out S.out (.head _) HQ.out).2)).mono ?_
   rintro e rG ⟨Ay, Hf, rfl, h1, hb⟩
   refine ⟨_, rfl, ?_⟩
   replace S := ae.mk (S.out.Df h1 hb)
   clear h1 hb
   refine hK.out _ _ S.out.free.bW (fun hHeld => ?_)
   clear hK K
   refine dR 31 ?_
   refine au 7 32 (bA 11 255) ak ?_
   refine au 8 33 (bA 11 511) ak ?_
   refine mO (i := 9) (N := none) (bA 11 1023) rfl rfl (bY ak.out (by kernel_rfl)) (by decide) (fun K hK => ?_)
   refine oJ 1 rfl 26 (.tmp 4) (.tmp 32) rfl #[.int .u8 zq.f0, .int .i64 zq.f1.f0, .int .i64 zq.f1.f1, .int .i64 zq.f1.f2, .int .i64 zq.f1.f3, .int .i64 zq.f2, .slice Ay zq.f3.length Hf] (j := 0) (u := .agg #[.int .u8 zq.f0, .int .i64 zq.f1.f0, .int .i64 zq.f1.f1, .int .i64 zq.f1.f2, .int .i64 zq.f1.f3, .int .i64 zq.f2, .slice Ay zq.f3.length Hf]) (bP := [.int .u8 zq.f0, .int .i64 zq.f1.f0, .int .i64 zq.f1.f1, .int .i64 zq.f1.f2, .int .i64 zq.f1.f3, .int .i64 zq.f2, .slice Ay zq.f3.length Hf]) S.out (by rfl) rfl rfl rfl rfl (by kernel_rfl) (by simp [Value.oneCell']) (by first | decide | simp) rfl ?_
   intro vG S1
   simp only [List.set_cons_zero, List.set_cons_succ] at S1
   replace S := ae.mk S1
   clear S1
   refine hK.out _ _ ?_
   clear hK K
   refine au 10 5 (bA 11 2047) ak ?_
   refine jI (gQ ak.out (by kernel_rfl)) ?_
   clear hHeld
   go_wp2
   rw [xB.out]
   refine bodyPost_ret (bK rfl _ _ b4 26 #[.int .u8 zq.f0, .int .i64 zq.f1.f0, .int .i64 zq.f1.f1, .int .i64 zq.f1.f2, .int .i64 zq.f1.f3, .int .i64 zq.f2, .slice Ay zq.f3.length Hf] (0, 0) _ rfl (S.out.blk _ (.tail _ (.head _)) _ rfl) Try.underlying26 rfl (by kernel_rfl)) rfl ?_
   exact ⟨_, _, rfl, S.out.tK, S.out.below⟩
theorem zS {W : World} : Calls Try.prog 52 #[] W fun e w' => e = .returned (.bool true) ∧ Below W.heap.size W w' := by
 obtain ⟨k, hk⟩ := Pure.Zk.rounds
 exact jU.calls k _ W hk
theorem acH {c z : ai} {id n : Int} {P : Nat → Prop} {W : World} {f : FuncId} {args : Array Value} (h : rq c id = (z, n)) (hc : Calls Try.prog f args W (pK W P (rq c id).1 (rq c id).2)) : Calls Try.prog f args W (pK W P z n) := by
 rw [h] at hc
 exact hc
theorem IB {W : World} {b : Nat} {P : Nat → Prop} {A : Option Addr} {cc : Nat} (c : ai) (hz : sz c ≤ 1048576) (hV : Kd.V k26 26 W b P (.slice A c.f3.length cc) c.f3) :
  Calls Try.prog 79 #[.agg #[.int .u8 c.f0, .int .i64 c.f1.f0, .int .i64 c.f1.f1, .int .i64 c.f1.f2, .int .i64 c.f1.f3, .int .i64 c.f2, .slice A c.f3.length cc]] W fun e w' => ∃ A' c', e = .returned (.slice A' (sz c) c') ∧ Below W.heap.size W w' := (L6 c hz hV).mono (fun _ _ ⟨A', c', he, _, hB⟩ => ⟨A', c', he, hB⟩)
theorem Ve (c : ai) (id : Int) (path : List Int) (A : Option Addr) (cc : Nat) (B : Option Addr) (cb : Nat) (w : World) (hr : Kd.C k26 w A c.f3.length c.f3) (hc : c.f3.length ≤ cc) (hi : Kd.C (Kd.int .i64) w B path.length path) (hb : path.length ≤ cb) (hz : sz c ≤ 1048576) (h1 : ∃ k, jA.f k c.f0 c.f1.f0 c.f1.f1 c.f1.f2 c.f1.f3 c.f2 c.f3 = some true)  :
  Calls Try.prog 27 #[.agg #[.int .u8 c.f0, .int .i64 c.f1.f0, .int .i64 c.f1.f1, .int .i64 c.f1.f2, .int .i64 c.f1.f3, .int .i64 c.f2, .slice A c.f3.length cc], .int .i64 id, .slice B path.length cb] w fun e w' => e = .returned (.bool true) ∧ Below w.heap.size w w' := by
 have S := ae.mk (St.start (ts := [(.slice A c.f3.length cc, c.f3)]) (b0 := w.heap.size) (w := w) (P := fun k => k < w.heap.size) (fun t ht => by
  rw [List.mem_singleton.1 ht]; exact Kd.uJ hc (Kd.Dx nP hr)))
 have G1 := ae.mk h1
 have Dp := ae.mk hz
 have HI := ae.mk hi
 have LI := ae.mk hb
 clear hr hc h1 hz hi hb
 obtain ⟨ck, ⟨cx, cy, cw, ch⟩, ay, l⟩ := c
 simp only [] at S G1 Dp ⊢
 go_enter Try.func27, Try.ntmps27
 go_wp2_with (first
  | ((with_reducible refine aj 3 rfl ?_); refine boxS 3 #[.int .u8 ck, .int .i64 cx, .int .i64 cy, .int .i64 cw, .int .i64 ch, .int .i64 ay, .slice A l.length cc] 26 S ?_; clear S; intro b3 eH S; obtain ⟨bD, bF, bG, bH, dG, ed, bg⟩ := St.eY S (.head _))
  | ((with_reducible refine aj 16 rfl ?_); refine dF (some 16) Try.func34 S (EO ⟨ck, ⟨cx, cy, cw, ch⟩, ay, l⟩ true G1.out (S.out.tree _ (.head _))) ?_; clear S; intro fG S; clear bD bF bG bH dG ed bg)
  | ((with_reducible refine aj 28 rfl ?_); refine dF (some 28) Try.func52 S (zS) ?_; clear S; intro gV S)
  | fail)
 go_ret
 exact ⟨rfl, S.out.below⟩
theorem XJ (c : ai) (id : Int) (path : List Int) (A : Option Addr) (cc : Nat) (B : Option Addr) (cb : Nat) (w : World) (hr : Kd.C k26 w A c.f3.length c.f3) (hc : c.f3.length ≤ cc) (hi : Kd.C (Kd.int .i64) w B path.length path) (hb : path.length ≤ cb) (hz : sz c ≤ 1048576) (h1 : ∃ k, jA.f k c.f0 c.f1.f0 c.f1.f1 c.f1.f2 c.f1.f3 c.f2 c.f3 = some false) (h3 : 100 < sz c) :
  Calls Try.prog 27 #[.agg #[.int .u8 c.f0, .int .i64 c.f1.f0, .int .i64 c.f1.f1, .int .i64 c.f1.f2, .int .i64 c.f1.f3, .int .i64 c.f2, .slice A c.f3.length cc], .int .i64 id, .slice B path.length cb] w fun e w' => e = .returned (.bool true) ∧ Below w.heap.size w w' := by
 have S := ae.mk (St.start (ts := [(.slice A c.f3.length cc, c.f3)]) (b0 := w.heap.size) (w := w) (P := fun k => k < w.heap.size) (fun t ht => by
  rw [List.mem_singleton.1 ht]; exact Kd.uJ hc (Kd.Dx nP hr)))
 have G1 := ae.mk h1
 have Dp := ae.mk hz
 have HI := ae.mk hi
 have LI := ae.mk hb
 have h3b : decide ((sz c : Int) > 100) = true := decide_eq_true (by omega)
 have h3c : decide (100 < (sz c : Int)) = true := decide_eq_true (by omega)
 clear h3
 clear hr hc h1 hz hi hb
 obtain ⟨ck, ⟨cx, cy, cw, ch⟩, ay, l⟩ := c
 simp only [] at S G1 Dp ⊢
 go_enter Try.func27, Try.ntmps27
 go_wp2_with (first
  | ((with_reducible refine aj 3 rfl ?_); refine boxS 3 #[.int .u8 ck, .int .i64 cx, .int .i64 cy, .int .i64 cw, .int .i64 ch, .int .i64 ay, .slice A l.length cc] 26 S ?_; clear S; intro b3 eH S; obtain ⟨bD, bF, bG, bH, dG, ed, bg⟩ := St.eY S (.head _))
  | ((with_reducible refine aj 16 rfl ?_); refine dF (some 16) Try.func34 S (EO ⟨ck, ⟨cx, cy, cw, ch⟩, ay, l⟩ false G1.out (S.out.tree _ (.head _))) ?_; clear S; intro fG S; clear bD bF bG bH dG ed bg; obtain ⟨bD, bF, bG, bH, dG, ed, bg⟩ := St.eY S (.head _))
  | ((with_reducible refine aj 19 rfl ?_); (refine fZ (by rfl) ?_; dsimp only); refine kR (some 19) Try.func79 (IB ⟨ck, ⟨cx, cy, cw, ch⟩, ay, l⟩ Dp.out (S.out.tree _ (.head _))) ?_; rintro e gV ⟨Aa, ca, rfl, hb⟩; refine ⟨_, rfl, ?_⟩; replace S := ae.mk (S.out.call hb); clear hb; clear bD bF bG bH dG ed bg)
  | ((with_reducible refine aj 28 rfl ?_); refine dF (some 28) Try.func52 S (zS) ?_; clear S; intro jB S)
  | fail)
 go_ret
 exact ⟨rfl, S.out.below⟩
theorem abh (c : ai) (id : Int) (path : List Int) (A : Option Addr) (cc : Nat) (B : Option Addr) (cb : Nat) (w : World) (hr : Kd.C k26 w A c.f3.length c.f3) (hc : c.f3.length ≤ cc) (hi : Kd.C (Kd.int .i64) w B path.length path) (hb : path.length ≤ cb) (hz : sz c ≤ 1048576) (h1 : ∃ k, jA.f k c.f0 c.f1.f0 c.f1.f1 c.f1.f2 c.f1.f3 c.f2 c.f3 = some false) (h3 : ¬ 100 < sz c) (h4 : 50 < path.length) :
  Calls Try.prog 27 #[.agg #[.int .u8 c.f0, .int .i64 c.f1.f0, .int .i64 c.f1.f1, .int .i64 c.f1.f2, .int .i64 c.f1.f3, .int .i64 c.f2, .slice A c.f3.length cc], .int .i64 id, .slice B path.length cb] w fun e w' => e = .returned (.bool true) ∧ Below w.heap.size w w' := by
 have S := ae.mk (St.start (ts := [(.slice A c.f3.length cc, c.f3)]) (b0 := w.heap.size) (w := w) (P := fun k => k < w.heap.size) (fun t ht => by
  rw [List.mem_singleton.1 ht]; exact Kd.uJ hc (Kd.Dx nP hr)))
 have G1 := ae.mk h1
 have Dp := ae.mk hz
 have HI := ae.mk hi
 have LI := ae.mk hb
 have h3b : decide ((sz c : Int) > 100) = false := decide_eq_false (by omega)
 have h3c : decide (100 < (sz c : Int)) = false := decide_eq_false (by omega)
 have Bj : decide ((path.length : Int) > 50) = true := decide_eq_true (by omega)
 have h4c : decide (50 < (path.length : Int)) = true := decide_eq_true (by omega)
 clear h3 h4
 clear hr hc h1 hz hi hb
 obtain ⟨ck, ⟨cx, cy, cw, ch⟩, ay, l⟩ := c
 simp only [] at S G1 Dp ⊢
 go_enter Try.func27, Try.ntmps27
 go_wp2_with (first
  | ((with_reducible refine aj 3 rfl ?_); refine boxS 3 #[.int .u8 ck, .int .i64 cx, .int .i64 cy, .int .i64 cw, .int .i64 ch, .int .i64 ay, .slice A l.length cc] 26 S ?_; clear S; intro b3 eH S; obtain ⟨bD, bF, bG, bH, dG, ed, bg⟩ := St.eY S (.head _))
  | ((with_reducible refine aj 16 rfl ?_); refine dF (some 16) Try.func34 S (EO ⟨ck, ⟨cx, cy, cw, ch⟩, ay, l⟩ false G1.out (S.out.tree _ (.head _))) ?_; clear S; intro fG S; clear bD bF bG bH dG ed bg; obtain ⟨bD, bF, bG, bH, dG, ed, bg⟩ := St.eY S (.head _))
  | ((with_reducible refine aj 19 rfl ?_); (refine fZ (by rfl) ?_; dsimp only); refine kR (some 19) Try.func79 (IB ⟨ck, ⟨cx, cy, cw, ch⟩, ay, l⟩ Dp.out (S.out.tree _ (.head _))) ?_; rintro e gV ⟨Aa, ca, rfl, hb⟩; refine ⟨_, rfl, ?_⟩; replace S := ae.mk (S.out.call hb); clear hb; clear bD bF bG bH dG ed bg)
  | ((with_reducible refine aj 28 rfl ?_); refine dF (some 28) Try.func52 S (zS) ?_; clear S; intro jB S)
  | fail)
 go_ret
 exact ⟨rfl, S.out.below⟩
theorem XK (c : ai) (id : Int) (path : List Int) (A : Option Addr) (cc : Nat) (B : Option Addr) (cb : Nat) (w : World) (hr : Kd.C k26 w A c.f3.length c.f3) (hc : c.f3.length ≤ cc) (hi : Kd.C (Kd.int .i64) w B path.length path) (hb : path.length ≤ cb) (hz : sz c ≤ 1048576) (h1 : ∃ k, jA.f k c.f0 c.f1.f0 c.f1.f1 c.f1.f2 c.f1.f3 c.f2 c.f3 = some false) (h3 : ¬ 100 < sz c) (h4 : ¬ 50 < path.length) :
  Calls Try.prog 27 #[.agg #[.int .u8 c.f0, .int .i64 c.f1.f0, .int .i64 c.f1.f1, .int .i64 c.f1.f2, .int .i64 c.f1.f3, .int .i64 c.f2, .slice A c.f3.length cc], .int .i64 id, .slice B path.length cb] w fun e w' => e = .returned (.bool true) ∧ Below w.heap.size w w' := by
 have S := ae.mk (St.start (ts := [(.slice A c.f3.length cc, c.f3)]) (b0 := w.heap.size) (w := w) (P := fun k => k < w.heap.size) (fun t ht => by
  rw [List.mem_singleton.1 ht]; exact Kd.uJ hc (Kd.Dx nP hr)))
 have G1 := ae.mk h1
 have Dp := ae.mk hz
 have HI := ae.mk hi
 have LI := ae.mk hb
 have h3b : decide ((sz c : Int) > 100) = false := decide_eq_false (by omega)
 have h3c : decide (100 < (sz c : Int)) = false := decide_eq_false (by omega)
 have Bj : decide ((path.length : Int) > 50) = false := decide_eq_false (by omega)
 have h4c : decide (50 < (path.length : Int)) = false := decide_eq_false (by omega)
 have tC := ae.mk (show path.length ≤ 1048576 by omega)
 have GM := ae.mk (show sz c ≤ 1000000 by omega)
 have hz1 := Yt c path
 have hz2 := afV c id
 obtain ⟨⟨z1, n1⟩, ha⟩ : ∃ r, mW c path = r := ⟨_, rfl⟩
 obtain ⟨⟨z2, n2⟩, hq⟩ : ∃ r, rq c id = r := ⟨_, rfl⟩
 rw [ha] at hz1
 rw [hq] at hz2
 have HA := ae.mk ha
 have HR := ae.mk hq
 have HZ1 := ae.mk (show sz z1 ≤ 1048576 from hz1)
 have HZ2 := ae.mk (show sz z2 ≤ 1048576 from hz2)
 clear ha hq hz1 hz2 h3 h4
 clear hr hc h1 hz hi hb
 obtain ⟨ck, ⟨cx, cy, cw, ch⟩, ay, l⟩ := c
 simp only [] at S G1 Dp ⊢
 go_enter Try.func27, Try.ntmps27
 go_wp2_with (first
  | ((with_reducible refine aj 3 rfl ?_); refine boxS 3 #[.int .u8 ck, .int .i64 cx, .int .i64 cy, .int .i64 cw, .int .i64 ch, .int .i64 ay, .slice A l.length cc] 26 S ?_; clear S; intro b3 eH S; obtain ⟨bD, bF, bG, bH, dG, ed, bg⟩ := St.eY S (.head _))
  | ((with_reducible refine aj 16 rfl ?_); refine dF (some 16) Try.func34 S (EO ⟨ck, ⟨cx, cy, cw, ch⟩, ay, l⟩ false G1.out (S.out.tree _ (.head _))) ?_; clear S; intro fG S; clear bD bF bG bH dG ed bg; obtain ⟨bD, bF, bG, bH, dG, ed, bg⟩ := St.eY S (.head _))
  | ((with_reducible refine aj 19 rfl ?_); (refine fZ (by rfl) ?_; dsimp only); refine kR (some 19) Try.func79 (IB ⟨ck, ⟨cx, cy, cw, ch⟩, ay, l⟩ Dp.out (S.out.tree _ (.head _))) ?_; rintro e gV ⟨Aa, ca, rfl, hb⟩; refine ⟨_, rfl, ?_⟩; replace S := ae.mk (S.out.call hb); clear hb; clear bD bF bG bH dG ed bg; obtain ⟨bD, bF, bG, bH, dG, ed, bg⟩ := St.eY S (.head _))
  | ((with_reducible refine aj 32 rfl ?_); refine sO (some 32) Try.func109 S (acM HA.out (Yq ⟨ck, ⟨cx, cy, cw, ch⟩, ay, l⟩ Dp.out path tC.out _ A cc B cb _ (dO (S.out.tree _ (.head _))) (Kd.fC HI.out S.out.below) LI.out)) ?_; clear S; intro A32 c32 jB S; clear bD bF bG bH dG ed bg)
  | ((with_reducible refine aj 7 rfl ?_); refine boxS 7 #[.int .u8 0, .int .i64 0, .int .i64 0, .int .i64 0, .int .i64 0, .int .i64 0, .slice none 0 0] 26 S ?_; clear S; intro b7 lQ S)
  | ((with_reducible refine dB 26 (.tmp 7) (.tmp 33) rfl ?_); refine gI 26 7 33 #[.int .u8 z1.f0, .int .i64 z1.f1.f0, .int .i64 z1.f1.f1, .int .i64 z1.f1.f2, .int .i64 z1.f1.f3, .int .i64 z1.f2, .slice A32 z1.f3.length c32] 0 7 S ?_; clear S; intro rG S; obtain ⟨bD, bF, bG, bH, dG, ed, bg⟩ := St.eY S (.tail _ (.head _)))
  | ((with_reducible refine aj 38 rfl ?_); refine sO (some 38) Try.func110 S (YT HA.out (U0 ⟨ck, ⟨cx, cy, cw, ch⟩, ay, l⟩ Dp.out path tC.out _ A cc B cb _ (dO (S.out.tree _ (.tail _ (.head _)))) (Kd.fC HI.out S.out.below) LI.out)) ?_; clear S; intro A38 c38 vG S; clear bD bF bG bH dG ed bg)
  | ((with_reducible refine aj 9 rfl ?_); refine boxS 9 #[.int .u8 0, .int .i64 0, .int .i64 0, .int .i64 0, .int .i64 0, .int .i64 0, .slice none 0 0] 26 S ?_; clear S; intro b9 yf S)
  | ((with_reducible refine dB 26 (.tmp 9) (.tmp 39) rfl ?_); refine gI 26 9 39 #[.int .u8 z1.f0, .int .i64 z1.f1.f0, .int .i64 z1.f1.f1, .int .i64 z1.f1.f2, .int .i64 z1.f1.f3, .int .i64 z1.f2, .slice A38 z1.f3.length c38] 0 7 S ?_; clear S; intro BF S; obtain ⟨bD, bF, bG, bH, dG, ed, bg⟩ := St.eY S (.tail _ (.tail _ (.head _))))
  | ((with_reducible refine aj 44 rfl ?_); refine sO (some 44) Try.func111 S (acH HR.out (SN ⟨ck, ⟨cx, cy, cw, ch⟩, ay, l⟩ GM.out id _ A cc _ (dO (S.out.tree _ (.tail _ (.tail _ (.head _))))))) ?_; clear S; intro Dl c44 zI S; clear bD bF bG bH dG ed bg)
  | ((with_reducible refine aj 11 rfl ?_); refine boxS 11 #[.int .u8 0, .int .i64 0, .int .i64 0, .int .i64 0, .int .i64 0, .int .i64 0, .slice none 0 0] 26 S ?_; clear S; intro b11 yB S)
  | ((with_reducible refine dB 26 (.tmp 11) (.tmp 45) rfl ?_); refine gI 26 11 45 #[.int .u8 z2.f0, .int .i64 z2.f1.f0, .int .i64 z2.f1.f1, .int .i64 z2.f1.f2, .int .i64 z2.f1.f3, .int .i64 z2.f2, .slice Dl z2.f3.length c44] 0 7 S ?_; clear S; intro AU S; obtain ⟨bD, bF, bG, bH, dG, ed, bg⟩ := St.eY S (.tail _ (.tail _ (.tail _ (.head _)))))
  | ((with_reducible refine aj 50 rfl ?_); refine sO (some 50) Try.func112 S (acH HR.out (Q9 ⟨ck, ⟨cx, cy, cw, ch⟩, ay, l⟩ GM.out id _ A cc _ (dO (S.out.tree _ (.tail _ (.tail _ (.tail _ (.head _)))))))) ?_; clear S; intro KN c50 zJ S; clear bD bF bG bH dG ed bg)
  | ((with_reducible refine aj 13 rfl ?_); refine boxS 13 #[.int .u8 0, .int .i64 0, .int .i64 0, .int .i64 0, .int .i64 0, .int .i64 0, .slice none 0 0] 26 S ?_; clear S; intro b13 Gu S)
  | ((with_reducible refine dB 26 (.tmp 13) (.tmp 51) rfl ?_); refine gI 26 13 51 #[.int .u8 z2.f0, .int .i64 z2.f1.f0, .int .i64 z2.f1.f1, .int .i64 z2.f1.f2, .int .i64 z2.f1.f3, .int .i64 z2.f2, .slice KN z2.f3.length c50] 0 7 S ?_; clear S; intro Gv S; obtain ⟨nY, sH, oU, sK, yL, zU, zV⟩ := St.eY S (.tail _ (.tail _ (.head _))); obtain ⟨Ce, Cf, Ci, yJ, yK, Cj, Cm⟩ := St.eY S (.tail _ (.tail _ (.tail _ (.head _)))))
  | ((with_reducible refine aj 59 rfl ?_); (refine fZ (by rfl) ?_; dsimp only); refine dF (some 59) Try.func64 S (Vb z1 HZ1.out (S.out.tree _ (.tail _ (.tail _ (.tail _ (.head _))))) (S.out.tree _ (.tail _ (.tail _ (.head _))))) ?_; clear S; intro Ov S; clear nY sH oU sK yL zU zV Ce Cf Ci yJ yK Cj Cm; obtain ⟨SX, SY, S9, S_, Tc, Td, Tf⟩ := St.eY S (.head _); obtain ⟨MN, MO, MP, MQ, MR, MS, MV⟩ := St.eY S (.tail _ (.head _)))
  | ((with_reducible refine aj 69 rfl ?_); (refine fZ (by rfl) ?_; dsimp only); refine dF (some 69) Try.func64 S (Vb z2 HZ2.out (S.out.tree _ (.tail _ (.head _))) (S.out.tree _ (.head _))) ?_; clear S; intro Rz S; clear SX SY S9 S_ Tc Td Tf MN MO MP MQ MR MS MV)
  | ((with_reducible refine aj 72 rfl ?_); (refine fZ (by rfl) ?_; dsimp only); refine dF (some 72) Try.func52 S (zS) ?_; clear S; intro RD S)
  | fail)
 go_ret
 exact ⟨rfl, S.out.below⟩
def lq.f (a0 a1 a2 a3 a4 a5 : Int) (l : List ai) (_ : Int) (_ : List Int) : Option Bool := if sz ⟨a0, ⟨a1, a2, a3, a4⟩, a5, l⟩ ≤ 1048576 then some true else none
theorem Kr (c : ai) (id : Int) (path : List Int) (A : Option Addr) (cc : Nat) (B : Option Addr) (cb : Nat) (w : World) (hr : Kd.C k26 w A c.f3.length c.f3) (hc : c.f3.length ≤ cc) (hi : Kd.C (Kd.int .i64) w B path.length path) (hb : path.length ≤ cb) (hz : sz c ≤ 1048576) :
  Calls Try.prog 27 #[.agg #[.int .u8 c.f0, .int .i64 c.f1.f0, .int .i64 c.f1.f1, .int .i64 c.f1.f2, .int .i64 c.f1.f3, .int .i64 c.f2, .slice A c.f3.length cc], .int .i64 id, .slice B path.length cb] w fun e w' => e = .returned (.bool true) ∧ Below w.heap.size w w' := by
 obtain ⟨g, eg, hg⟩ := WL c hz
 cases g with
 | true => exact Ve c id path A cc B cb w hr hc hi hb hz eg.rounds
 | false =>
  by_cases h3 : 100 < sz c
  ·exact XJ c id path A cc B cb w hr hc hi hb hz eg.rounds h3
  ·by_cases h4 : 50 < path.length
   ·exact abh c id path A cc B cb w hr hc hi hb hz eg.rounds h3 h4
   ·exact XK c id path A cc B cb w hr hc hi hb hz eg.rounds h3 h4
theorem lq.calls (aA aJ aH aI bI bJ : Int) (eQ : Option Addr) (eU : Nat) (aK : List ai) (a1 : Int) (A2 : Option Addr) (c2 : Nat) (l2 : List Int) (r : Bool) (w : World) (pR : Kd.C k26 w eQ aK.length aK) (qH : aK.length ≤ eU) (hr2 : Kd.C (Kd.int .i64) w A2 l2.length l2) (hc2 : l2.length ≤ c2) (h : lq.f aA aJ aH aI bI bJ aK a1 l2 = some r) :
  Calls Try.prog 27 #[.agg #[.int .u8 aA, .int .i64 aJ, .int .i64 aH, .int .i64 aI, .int .i64 bI, .int .i64 bJ, .slice eQ aK.length eU], .int .i64 a1, .slice A2 l2.length c2] w fun e w' => e = .returned (.bool r) ∧ Below w.heap.size w w' := by
 unfold lq.f at h
 split at h
 ·rename_i hz
  injection h with h
  subst h
  exact Kr ⟨aA, ⟨aJ, aH, aI, bI⟩, bJ, aK⟩ a1 l2 eQ eU A2 c2 w pR qH hr2 hc2 hz
 ·exact absurd h (by simp)
end Go.Proofs.Ytfdmfgaiblfbhaa.P
namespace Go.Proofs.Ytfdmfgaiblfbhaa.P
open Go.RowKit Go.Proofs.ag.aW Go.Proofs.ag.dA Go.Proofs.ag.dU
open Go.ChangeShapes Go.WideShapes Go.ChangeAt Go.Joins Go.Deep
def I64 (n : Int) : Prop := -9223372036854775808 ≤ n ∧ n ≤ 9223372036854775807
def U8 (n : Int) : Prop := 0 ≤ n ∧ n ≤ 255
def U16 (n : Int) : Prop := 0 ≤ n ∧ n ≤ 65535
def XY (r : dW) : Prop := I64 r.f0 ∧ I64 r.f1 ∧ I64 r.f2 ∧ I64 r.f3
def alY (p : GV) : Prop := I64 p.f0 ∧ XY p.f1
def EY : Nat → ai → Prop
 | 0, _ => False
 | n + 1, c => U8 c.f0 ∧ XY c.f1 ∧ I64 c.f2 ∧ c.f3.length ≤ 9223372036854775807 ∧ ∀ k, k ∈ c.f3 → EY n k
def ae_ (c : ai) : Prop := ∃ n, EY n c
theorem Ox : ∀ {n m : Nat} (_ : n ≤ m) {c : ai}, EY n c → EY m c
 | 0, _, _, _, h => h.elim
 | n + 1, 0, hm, _, _ => absurd hm (by omega)
 | n + 1, m + 1, hm, _, h => ⟨h.1, h.2.1, h.2.2.1, h.2.2.2.1, fun k hk => Ox (by omega) (h.2.2.2.2 k hk)⟩
section
variable {H : Type} {enc : TypeId × Value → H} {P : Program} {w : World} {base : Nat} {spare : Nat → Bool} {held : Bool}
theorem row_of {α : Type} {Q : Nat → α → Prop} : ∀ (n : Nat), (∀ i, i < n → ∃ p, Q i p) → ∃ l : List α, l.length = n ∧ ∀ i p, l[i]? = some p → Q i p
 | 0, _ => ⟨[], rfl, fun i p h => by simp at h⟩
 | n + 1, h => by
  obtain ⟨l, hl, hq⟩ := row_of n fun i hi => h i (by omega)
  obtain ⟨p, hp⟩ := h n (by omega)
  refine ⟨l ++ [p], by simp [hl], fun i q hi => ?_⟩
  rcases Nat.lt_trichotomy i n with h1 | h1 | h1
  ·rw [List.getElem?_append_left (by omega)] at hi
   exact hq i q hi
  ·subst h1
   rw [List.getElem?_append_right (by omega), hl, Nat.sub_self] at hi
   obtain rfl : p = q := by simpa using hi
   exact hp
  ·rw [List.getElem?_eq_none (by simp; omega)] at hi
   cases hi
theorem cells_at {a : Addr} {n : Nat} {cs : List Value} (h : w.cells? base a n = some cs) : cs.length = n ∧ ∀ i u, cs[i]? = some u → w.cell? (a.add i) = some u := by
 obtain ⟨_, h1, h2⟩ := World.cells?_some h
 exact ⟨h1, fun i u hi => by
  have hlt : i < n := by rw [← h1]; exact (List.getElem?_eq_some_iff.1 hi).1
  rw [h2 i hlt, hi]⟩
end
section
variable {H : Type} {enc : TypeId × Value → H} {w : World} {base : Nat} {spare : Nat → Bool} {held : Bool}
theorem zi {n : Int} (h : (Lit.int .i64 n).wf = true) : I64 n := by
 have := bounds_i64 h
 unfold I64
 omega
theorem agy {n : Int} (h : (Lit.int .u8 n).wf = true) : U8 n := bounds_u8 h
theorem acE {a : Array Value} {l : List Value} (h : (Value.agg a).cells.toList = l) : a = l.toArray := by
 subst h
 simp [Value.cells]
theorem cells23 : Try.prog.cellsOf 23 = 4 := by kernel_rfl
theorem cells26 : Try.prog.cellsOf 26 = 7 := by kernel_rfl
theorem cells3 : Try.prog.cellsOf 3 = 1 := by kernel_rfl
theorem cells5 : Try.prog.cellsOf 5 = 1 := by kernel_rfl
theorem cells24 : Try.prog.cellsOf 24 = 1 := by kernel_rfl
theorem aeR {fuel : Nat} {cs : List Value} {x : DataW H × List MemPlace} (h : DataW.trod enc Try.prog w base spare held fuel 23 cs = some x) : ∃ r : dW, k23.K w r cs ∧ XY r := by
 obtain ⟨y0, y1, y2, y3, n, _, hl, h0, h1, h2, h3⟩ := trod_struct4 Try.underlying23 h
 rw [cells23] at hl
 match cs, hl with
 | [c0, c1, c2, c3], _ =>
  simp only [cells3, List.drop_zero, List.take_succ_cons, List.take_zero, List.drop_succ_cons] at h0 h1 h2 h3
  obtain ⟨n0, e0, _, w0⟩ := DataW.trod_int Try.underlying3 h0
  obtain ⟨n1, e1, _, w1⟩ := DataW.trod_int Try.underlying3 h1
  obtain ⟨n2, e2, _, w2⟩ := DataW.trod_int Try.underlying3 h2
  obtain ⟨n3, e3, _, w3⟩ := DataW.trod_int Try.underlying3 h3
  simp only [List.cons.injEq, and_true] at e0 e1 e2 e3
  subst e0 e1 e2 e3
  exact ⟨⟨n0, n1, n2, n3⟩, NT w ⟨n0, n1, n2, n3⟩, zi w0, zi w1, zi w2, zi w3⟩
end
end Go.Proofs.Ytfdmfgaiblfbhaa.P
namespace Go.Proofs.Ytfdmfgaiblfbhaa.Pure
open Go.RowKit Go.Proofs.Ytfdmfgaiblfbhaa.P Go.Proofs.ag.aW Go.Proofs.ag.dA Go.Proofs.ag.dU
theorem SpreadAt : ∀ (a0 : ai) (a1 : Int) (a2 : List Int), ae_ a0 → sz a0 ≤ 1048576 → I64 a1 → a2.length ≤ 1048576 → (∀ x, x ∈ a2 → I64 x) → lq.f a0.f0 a0.f1.f0 a0.f1.f1 a0.f1.f2 a0.f1.f3 a0.f2 a0.f3 a1 a2 = some true := by
 intro c id path _ hz _ _ _
 unfold lq.f
 rw [EM, if_pos hz]
end Go.Proofs.Ytfdmfgaiblfbhaa.Pure
