/- SpreadAt: part 4 of 7 of this claim's texts, one behind the other, made small by a program: the words of the kit's printer cut down to those that are used, the claim's own names made short. -/
import Derived.Test.YtfdmfgaiblfbhaaMSpreadAtc
set_option maxHeartbeats 8000000
set_option maxRecDepth 100000
set_option linter.unusedVariables false
set_option linter.unusedSimpArgs false
namespace Go.Proofs.Ytfdmfgaiblfbhaa.P
open Go.RowKit Go.Proofs.ag.aW Go.Proofs.ag.dA Go.Proofs.ag.dU
attribute [local go_sem] kM kZ lN l7 kz kC kY lg
mutual
def aY.l0 : Nat → Int → List Int → Int → List Int → Int → Int → Option (List Int × Bool)
 | 0, _, _, _, _, _, _ => none
 | k + 1, x0, x1, x6, x9, x10, x11 => if x11 < x10 then (if 0 ≤ x11 then (if x11 < (x9.length : Int) then (if (rd x9 x11) < 0 then (some (([] : List Int), false)) else (if (rd x9 x11) > 2147483647 then (some (([] : List Int), false)) else (aY.l0 k x0 x1 (mn 2147483647 (wrap64 (x6 + (rd x9 x11)))) x9 x10 (wrap64 (x11 + 1))))) else (none)) else (none)) else (if (x1.length : Int) = 0 then (aY.j1 k x0 x1 true) else (if x0 < (wrap64 (-x6)) then (aY.j1 k x0 x1 true) else (aY.j1 k x0 x1 (decide (x0 > 2147483647)))))
def aY.j1 : Nat → Int → List Int → Bool → Option (List Int × Bool)
 | 0, _, _, _ => none
 | k + 1, x0, x1, x26 => if x26 = true then (some (([] : List Int), false)) else (if x0 ≥ 0 then ((pg.f x0 (x1.length : Int)).bind fun Jk => (some (Jk, true))) else ((aU.f k (wrap64 (-x0)) x1).bind fun Jl => (some (Jl, true))))
end
def aY.f (k : Nat) (a0 : Int) (l1 : List Int) : Option (List Int × Bool) := aY.l0 k a0 l1 0 l1 (l1.length : Int) 0
theorem aY.xJ : ∀ k, (∀ y0 y1 y2 y3 y4 y5, je (aY.l0 k y0 y1 y2 y3 y4 y5) (aY.l0 (k + 1) y0 y1 y2 y3 y4 y5)) ∧ (∀ y0 y1 y2, je (aY.j1 k y0 y1 y2) (aY.j1 (k + 1) y0 y1 y2))
 | 0 => ⟨fun _ _ _ _ _ _ r h => by simp [aY.l0] at h, fun _ _ _ r h => by simp [aY.j1] at h⟩
 | k + 1 => by
  obtain ⟨D_, ih1⟩ := aY.xJ k
  refine ⟨?_, ?_⟩
  ·intro y0 y1 y2 y3 y4 y5
   unfold aY.l0
   repeat' first | (with_reducible exact D_ _ _ _ _ _ _) | (with_reducible exact ih1 _ _ _) | (with_reducible exact je.refl _) | (with_reducible refine je.ite ?_ ?_)
  ·intro y0 y1 y2
   unfold aY.j1
   repeat' first | (with_reducible exact aU.mono _ _ _) | (with_reducible exact je.refl _) | (with_reducible refine je.ite ?_ ?_) | (with_reducible refine je.bind ?_ (fun _ => ?_))
theorem aY.mono : ∀ a0 a1 k, je (aY.f k a0 a1) (aY.f (k + 1) a0 a1) := by
 intro a0 a1 k
 obtain ⟨D_, ih1⟩ := aY.xJ k
 unfold aY.f
 repeat' (with_reducible exact D_ _ _ _ _ _ _)
theorem aY.calls (k : Nat) (a0 : Int) (A1 : Option Addr) (c1 : Nat) (l1 : List Int) (r1 : List Int) (r2 : Bool) (w : World) (hr1 : Kd.C (Kd.int .i64) w A1 l1.length l1) (hc1 : l1.length ≤ c1) (h : aY.f k a0 l1 = some (r1, r2)) :
  Calls Try.prog 49 #[.int .i64 a0, .slice A1 l1.length c1] w fun e w' => ∃ o_ : Value, e = .returned (.tuple #[o_, .bool r2]) ∧ Kd.R (Kd.int .i64) 3 w' w.heap.size (fun _ => True) o_ r1 ∧ Below w.heap.size w w' := by
 have HR1 := ae.mk hr1
 have qO := ae.mk hc1
 clear hr1 hc1
 have HB := ae.mk (Below.refl w.heap.size w)
 have H : (aY.l0 k a0 l1 0 l1 (l1.length : Int) 0) = some (r1, r2) := h
 clear h
 have H' := ae.mk H
 clear H
 go_enter Try.func49, Try.ntmps49
 go_wp2
 go_loopg [6, 11] k (fun kq v6 v11 w' => ∃ (Dk : Int) (bZ : Int), v6 = .int .i64 Dk ∧ v11 = .int .i64 bZ ∧ ae (aY.l0 kq a0 l1 Dk l1 (l1.length : Int) bZ = some (r1, r2)) ∧ ae (kq ≤ k) ∧ ae (Below w.heap.size w w'))
 case atStart => exact ⟨(0), (0), (by rfl), (by rfl), H', ⟨Nat.le_refl _⟩, ⟨by repeat ((with_reducible exact HB.out))⟩⟩
 case round =>
  clear H'
  obtain ⟨Dk, bZ, rfl, rfl, HA, mf, HB⟩ := hrel
  cases gk with
  | zero => exact absurd HA.out (by simp [aY.l0])
  | succ k1 =>
   have H := HA.out
   clear HA
   simp only [aY.l0] at H
   by_cases c3 : bZ < (l1.length : Int)
   ·rw [if_pos c3] at H
    have pq : decide (bZ < (l1.length : Int)) = true := decide_eq_true c3
    clear c3
    by_cases c4 : 0 ≤ bZ
    ·rw [if_pos c4] at H
     have yu : decide (0 ≤ bZ) = true := decide_eq_true c4
     clear c4
     by_cases c5 : bZ < (l1.length : Int)
     ·rw [if_pos c5] at H
      have BR : decide (bZ < (l1.length : Int)) = true := decide_eq_true c5
      clear c5
      by_cases c6 : (rd l1 bZ) < 0
      ·rw [if_pos c6] at H
       have vP : decide ((rd l1 bZ) < 0) = true := decide_eq_true c6
       clear c6
       simp only [Option.some.injEq, Prod.mk.injEq] at H
       obtain ⟨rfl, rfl⟩ := H
       have zt : 0 ≤ (bZ : Int) := of_decide_eq_true (by (with_reducible assumption))
       have zy : bZ < (l1.length : Int) := of_decide_eq_true (by (with_reducible assumption))
       obtain ⟨Ym, Nl, qg⟩ := Kd.iq HR1.out bZ zt zy
       cases Nl
       replace qg := (HB.out.cell (World.block_lt_of_cell? w _ qg)).trans qg
       replace zt := eq_true zt
       replace zy := eq_true zy
       go_wp2
       go_ret2
       exact ⟨_, by rfl, by exact Kd.pJ _ _ _ _ _, by repeat ((with_reducible exact HB.out))⟩
      ·rw [if_neg c6] at H
       have vP : decide ((rd l1 bZ) < 0) = false := decide_eq_false c6
       clear c6
       by_cases c7 : (rd l1 bZ) > 2147483647
       ·rw [if_pos c7] at H
        have rU : decide (2147483647 < (rd l1 bZ)) = true := decide_eq_true c7
        clear c7
        simp only [Option.some.injEq, Prod.mk.injEq] at H
        obtain ⟨rfl, rfl⟩ := H
        have zt : 0 ≤ (bZ : Int) := of_decide_eq_true (by (with_reducible assumption))
        have zy : bZ < (l1.length : Int) := of_decide_eq_true (by (with_reducible assumption))
        obtain ⟨Ym, Nl, qg⟩ := Kd.iq HR1.out bZ zt zy
        cases Nl
        replace qg := (HB.out.cell (World.block_lt_of_cell? w _ qg)).trans qg
        replace zt := eq_true zt
        replace zy := eq_true zy
        go_wp2
        go_ret2
        exact ⟨_, by rfl, by exact Kd.pJ _ _ _ _ _, by repeat ((with_reducible exact HB.out))⟩
       ·rw [if_neg c7] at H
        have rU : decide (2147483647 < (rd l1 bZ)) = false := decide_eq_false c7
        clear c7
        obtain ⟨ji8, ael⟩ : ∃ j_ : Int, (mn 2147483647 (wrap64 (Dk + (rd l1 bZ)))) = j_ := ⟨_, rfl⟩
        replace H : (aY.l0 k1 a0 l1 ji8 l1 (l1.length : Int) (wrap64 (bZ + 1))) = some (r1, r2) := by (rw [ael] at H; exact H)
        have akP : (if (wrap64 (Dk + (rd l1 bZ))) < 2147483647 then (wrap64 (Dk + (rd l1 bZ))) else 2147483647) = ji8 := ael
        have H' := ae.mk H
        clear H
        have zt : 0 ≤ (bZ : Int) := of_decide_eq_true (by (with_reducible assumption))
        have zy : bZ < (l1.length : Int) := of_decide_eq_true (by (with_reducible assumption))
        obtain ⟨Ym, Nl, qg⟩ := Kd.iq HR1.out bZ zt zy
        cases Nl
        replace qg := (HB.out.cell (World.block_lt_of_cell? w _ qg)).trans qg
        replace zt := eq_true zt
        replace zy := eq_true zy
        go_wp2
        go_roundg k1
        case measure => have := mf.out; omega
        case rel => exact ⟨(ji8), (wrap64 (bZ + 1)), (by rfl), (by rfl), H', ⟨by have := mf.out; omega⟩, ⟨by repeat ((with_reducible exact HB.out))⟩⟩
     ·rw [if_neg c5] at H
      exact absurd H (by simp)
    ·rw [if_neg c4] at H
     exact absurd H (by simp)
   ·rw [if_neg c3] at H
    have pq : decide (bZ < (l1.length : Int)) = false := decide_eq_false c3
    clear c3
    have HC9 := ae.mk H
    clear H
    go_upto_region 9 with (fail)
    go_cut [26] (fun v26 wc => ∃ (kq : Nat) (KI : Bool), v26 = .bool KI ∧ ae (aY.j1 kq a0 l1 KI = some (r1, r2)) ∧ ae (kq ≤ k1) ∧ ae (Below w.heap.size w wc))
    case first =>
     have H := HC9.out
     clear HC9
     by_cases c10 : (l1.length : Int) = 0
     ·rw [if_pos c10] at H
      have G6 : ((l1.length : Int) == 0) = true := beq_iff_eq.mpr c10
      have Qv : ((l1.length : Int) != 0) = false := bne_eq_false_iff_eq.mpr c10
      clear c10
      (skip)
      have H' := ae.mk H
      clear H
      go_wp2
      go_meet
      case rel => exact ⟨_, (true), (by rfl), H', ⟨by have := mf.out; omega⟩, ⟨by repeat ((with_reducible exact HB.out))⟩⟩
     ·rw [if_neg c10] at H
      have G6 : ((l1.length : Int) == 0) = false := beq_eq_false_iff_ne.mpr c10
      have Qv : ((l1.length : Int) != 0) = true := bne_iff_ne.mpr c10
      have akI : ¬ (l1 = []) := fun h_ => c10 (by rw [h_]; rfl)
      (skip)
      by_cases c11 : a0 < (wrap64 (-Dk))
      ·rw [if_pos c11] at H
       have BQ : decide (a0 < (wrap64 (-Dk))) = true := decide_eq_true c11
       clear c11
       have H' := ae.mk H
       clear H
       go_wp2
       go_meet
       case rel => exact ⟨_, (true), (by rfl), H', ⟨by have := mf.out; omega⟩, ⟨by repeat ((with_reducible exact HB.out))⟩⟩
      ·rw [if_neg c11] at H
       have BQ : decide (a0 < (wrap64 (-Dk))) = false := decide_eq_false c11
       clear c11
       have H' := ae.mk H
       clear H
       go_wp2
       go_meet
       case rel => exact ⟨_, (decide (a0 > 2147483647)), (by rfl), H', ⟨by have := mf.out; omega⟩, ⟨by repeat ((with_reducible exact HB.out))⟩⟩
    case rest =>
     clear HC9
     clear pq
     obtain ⟨kq, KI, rfl, HA, HJ8, HB⟩ := hcut
     cases kq with
     | zero => exact absurd HA.out (by simp [aY.j1])
     | succ kj8 =>
      have H := HA.out
      clear HA
      simp only [aY.j1] at H
      by_cases c12 : KI = true
      ·subst c12
       have H1 : (some (([] : List Int), false)) = some (r1, r2) := by rw [if_pos rfl] at H; exact H
       clear H
       have H := H1
       clear H1
       simp only [Option.some.injEq, Prod.mk.injEq] at H
       obtain ⟨rfl, rfl⟩ := H
       go_wp2
       go_ret2
       exact ⟨_, by rfl, by exact Kd.pJ _ _ _ _ _, by repeat ((with_reducible exact HB.out))⟩
      ·replace c12 := Bool.eq_false_iff.mpr c12
       subst c12
       have H1 : (if a0 ≥ 0 then ((pg.f a0 (l1.length : Int)).bind fun Jk => (some (Jk, true))) else ((aU.f kj8 (wrap64 (-a0)) l1).bind fun Jl => (some (Jl, true)))) = some (r1, r2) := by rw [if_neg (show ¬ (false = true) by decide)] at H; exact H
       clear H
       have H := H1
       clear H1
       by_cases c13 : a0 ≥ 0
       ·rw [if_pos c13] at H
        have afW : decide (0 ≤ a0) = true := decide_eq_true c13
        clear c13
        replace H := Option.bind_eq_some_iff.mp H
        obtain ⟨Jk, abQ, H⟩ := H
        replace H : (some (Jk, true)) = some (r1, r2) := H
        have A14 := ae.mk abQ
        clear abQ
        simp only [Option.some.injEq, Prod.mk.injEq] at H
        obtain ⟨rfl, rfl⟩ := H
        go_wp2_with (((with_reducible refine gW (f := 129) rfl ?_); refine jL (some 46) rfl rfl Try.func129 (by kernel_rfl) rfl #[.int .i64 a0, .int .i64 (l1.length : Int)] rfl (by (try simp only [List.map_toArray, List.map_cons, List.map_nil]); rfl) ?_; (with_reducible refine (pg.calls a0 (l1.length : Int) Jk _ A14.out).mono ?_); rintro e tJ ⟨alM, rfl, ho0, hb⟩; refine ⟨_, rfl, ?_⟩; have afp := ae.mk (Kd.iZ ho0 (cO (by repeat ((with_reducible exact HB.out))))); replace HB := ae.mk (az (by repeat ((with_reducible exact HB.out))) hb); (try clear hb); (try clear ho0)))
        go_ret2
        exact ⟨_, by rfl, by exact afp.out, by repeat ((with_reducible exact HB.out))⟩
       ·rw [if_neg c13] at H
        have afW : decide (0 ≤ a0) = false := decide_eq_false c13
        clear c13
        replace H := Option.bind_eq_some_iff.mp H
        obtain ⟨Jl, KL, H⟩ := H
        replace H : (some (Jl, true)) = some (r1, r2) := H
        have A16 := ae.mk KL
        clear KL
        simp only [Option.some.injEq, Prod.mk.injEq] at H
        obtain ⟨rfl, rfl⟩ := H
        go_wp2_with (((with_reducible refine gW (f := 130) rfl ?_); refine jL (some 50) rfl rfl Try.func130 (by kernel_rfl) rfl #[.int .i64 (wrap64 (-a0)), .slice A1 l1.length c1] rfl (by (try simp only [List.map_toArray, List.map_cons, List.map_nil]); rfl) ?_; (with_reducible refine (aU.calls kj8 (wrap64 (-a0)) _ _ l1 Jl _ ?mD ?o8 A16.out).mono ?_); (case mD => repeat (exact (Kd.fC HR1.out HB.out))); (case o8 => exact qO.out); rintro e Vu ⟨alN, rfl, ho0, hb⟩; refine ⟨_, rfl, ?_⟩; have afq := ae.mk (Kd.iZ ho0 (cO (by repeat ((with_reducible exact HB.out))))); replace HB := ae.mk (az (by repeat ((with_reducible exact HB.out))) hb); (try clear hb); (try clear ho0)))
        go_ret2
        exact ⟨_, by rfl, by exact afq.out, by repeat ((with_reducible exact HB.out))⟩
def YV.f (k : Nat)  : Option (Bool) := (aY.f k 5 (([0, 0, 0] : List Int))).bind fun Yv => ((aY.f k (-5) (([1, 9, 2] : List Int))).bind fun Yw => (if Yv.2 = true then ((bf.f k Yv.1 (([2, 2, 1] : List Int))).bind fun ahK => (if ahK = true then (if Yw.2 = true then ((bf.f k Yw.1 (([(-1), (-2), (-2)] : List Int))).bind fun ahL => (some ahL)) else (some false)) else (some false))) else (some false)))
end Go.Proofs.Ytfdmfgaiblfbhaa.P
namespace Go.Proofs.Ytfdmfgaiblfbhaa.P
open Go.RowKit Go.Proofs.ag.aW Go.Proofs.ag.dA Go.Proofs.ag.dU
def nZ (left : Int) (p : Int × Int) : Int × (Int × Int) := if left > 0 then (left - 1, (p.1, p.2 + 1)) else if left < 0 ∧ p.1 + p.2 > 0 then (left + 1, (p.1, p.2 - 1)) else (left, p)
def jD : Int → List (Int × Int) → Int × List (Int × Int)
 | l, [] => (l, [])
 | l, p :: ps => ((jD (nZ l p).1 ps).1, (nZ l p).2 :: (jD (nZ l p).1 ps).2)
def lC : Nat → Int → List (Int × Int) → Option (List Int × Bool)
 | 0, _, _ => none
 | k + 1, l, ps => if l = 0 then some (ps.map Prod.snd, true) else if (jD l ps).1 = l then some ([], false) else lC k (jD l ps).1 (jD l ps).2
def l9.f (k : Nat) (a0 : Int) (l1 : List Int) : Option (List Int × Bool) :=
 if -100000 ≤ a0 ∧ a0 ≤ 100000 ∧ l1.length ≤ 100000 then
  if l1 = [] then some ([], false)
  else if ∀ g, g ∈ l1 → 0 ≤ g ∧ g ≤ 2147483647 then lC k a0 (l1.map fun g => (g, 0)) else some ([], false)
 else none
def RB (l : Int) (ps : List (Int × Int)) : Prop := ∀ p, p ∈ ps → 0 ≤ p.1 ∧ p.1 ≤ 2147483647 ∧ p.2 + l ≤ 100000 ∧ p.2 - l ≤ 100000 ∧ -100000 ≤ p.2 + l ∧ -100000 ≤ p.2 - l
theorem zB (l : Int) (p : Int × Int) : (¬ 0 < l ∧ ¬ (l < 0 ∧ 0 < p.1 + p.2) ∧ nZ l p = (l, p)) ∨ (0 < l ∧ (nZ l p) = (l - 1, (p.1, p.2 + 1))) ∨ (l < 0 ∧ 0 < p.1 + p.2 ∧ (nZ l p) = (l + 1, (p.1, p.2 - 1))) := by
 unfold nZ
 split
 ·rename_i h; exact .inr (.inl ⟨h, rfl⟩)
 ·rename_i h0
  split
  ·rename_i h; exact .inr (.inr ⟨h.1, h.2, rfl⟩)
  ·rename_i h; exact .inl ⟨h0, h, rfl⟩
theorem U1 {α : Type} (f : α → Int) (pre : List α) (p : α) (rest : List α) : rd ((pre ++ p :: rest).map f) (pre.length : Int) = f p := by
 simp [rd, List.getD_eq_getElem?_getD]
theorem set_mid {α β : Type} (f : α → β) (pre : List α) (p : α) (rest : List α) (q : α) : ((pre ++ p :: rest).map f).set pre.length (f q) = ((pre ++ [q]) ++ rest).map f := by
 simp
theorem yN {M M' L : Int} {p p' : Int × Int} {pre rest ps : List (Int × Int)} {l1 : List Int} (e : nZ M p = (M', p')) (HF : (pre ++ p :: rest).map Prod.fst = l1) (HB : RB M (pre ++ p :: rest)) (HD : -100000 ≤ M ∧ M ≤ 100000)
  (HE : (jD L ps).1 = (jD M (p :: rest)).1 ∧ (jD L ps).2 = pre ++ (jD M (p :: rest)).2) :
  ((pre ++ [p']) ++ rest).map Prod.fst = l1 ∧ RB M' ((pre ++ [p']) ++ rest) ∧ (-100000 ≤ M' ∧ M' ≤ 100000) ∧ ((jD L ps).1 = (jD M' rest).1 ∧ (jD L ps).2 = (pre ++ [p']) ++ (jD M' rest).2) := by
 have hp : p'.1 = p.1 := by
  rcases zB M p with ⟨_, _, h⟩ | ⟨_, h⟩ | ⟨_, _, h⟩ <;> rw [e] at h <;> injection h with h1 h2 <;> rw [h2]
 have hb := HB p (by simp)
 refine ⟨?_, ?_, ?_, ?_, ?_⟩
 ·rw [← HF]; simp [hp]
 ·have key : ∀ q, q ∈ pre ++ p :: rest → 0 ≤ q.1 ∧ q.1 ≤ 2147483647 ∧ q.2 + M' ≤ 100000 ∧ q.2 - M' ≤ 100000 ∧ -100000 ≤ q.2 + M' ∧ -100000 ≤ q.2 - M' := fun q hq => by
   have h := HB q hq
   rcases zB M p with ⟨_, _, h'⟩ | ⟨_, h'⟩ | ⟨_, _, h'⟩ <;> rw [e] at h' <;> injection h' with h1 h2 <;> omega
  intro q hq
  simp only [List.append_assoc, List.mem_append, List.mem_cons, List.not_mem_nil, or_false] at hq
  rcases hq with hq | rfl | hq
  ·exact key q (by simp [hq])
  ·rcases zB M p with ⟨_, _, h'⟩ | ⟨_, h'⟩ | ⟨_, _, h'⟩ <;> rw [e] at h' <;> injection h' with h1 h2 <;> subst h1 h2 <;> (try simp only) <;> omega
  ·exact key q (by simp [hq])
 ·rcases zB M p with ⟨_, _, h'⟩ | ⟨_, h'⟩ | ⟨_, _, h'⟩ <;> rw [e] at h' <;> injection h' with h1 h2 <;> omega
 ·rw [HE.1]; simp only [jD, e]
 ·rw [HE.2]; simp only [jD, e, List.append_assoc, List.cons_append, List.nil_append]
theorem l9.calls (k : Nat) (a0 : Int) (A1 : Option Addr) (c1 : Nat) (l1 : List Int) (r1 : List Int) (r2 : Bool) (w : World) (hr1 : Kd.C (Kd.int .i64) w A1 l1.length l1) (hc1 : l1.length ≤ c1) (h : l9.f k a0 l1 = some (r1, r2)) :
  Calls Try.prog 50 #[.int .i64 a0, .slice A1 l1.length c1] w fun e w' => ∃ o_ : Value, e = .returned (.tuple #[o_, .bool r2]) ∧ Kd.R (Kd.int .i64) 3 w' w.heap.size (fun _ => True) o_ r1 ∧ Below w.heap.size w w' := by
 unfold l9.f at h
 split at h
 ·rename_i hd
  obtain ⟨hd1, hd2, hd3⟩ := hd
  have hmk := Hz (P := Try.prog) 41 3 .i64 8 Try.underlying41 info3 (by decide) l1.length (by omega)
  have hs := N8 w w.heap.size 3 .i64 l1.length (Nat.le_refl _) (by omega)
  have HS := ae.mk hs
  have HR := ae.mk hr1
  clear hs hr1 hc1
  split at h
  ·rename_i he
   injection h with h
   injection h with h1 h2
   subst h1 h2
   have hn0 : ((l1.length : Int) == 0) = true := by simp [he]
   have HE := ae.mk he
   clear he
   go_enter Try.func50, Try.ntmps50
   go_wp2
   go_ret2
   refine ⟨_, rfl, Kd.rO (enc := Value.int .i64) (h1 := fun _ => rfl) ?_ (fun _ _ => trivial), gz (Below.refl _ _) _⟩
   have h := HS.out
   rw [HE.out] at h ⊢
   exact h
  ·rename_i hne
   have hpos : 0 < l1.length := List.length_pos_iff.2 hne
   have hn0 : ((l1.length : Int) == 0) = false := by simp; omega
   have H := ae.mk h
   clear h
   go_enter Try.func50, Try.ntmps50
   go_wp2
   clear hmk hne hn0
   have HR2 := ae.mk (Kd.fC HR.out (gz (Below.refl w.heap.size w) (Obj.cells (madeCells #[Value.int IntKind.i64 0] l1.length) 3)))
   go_loop [21] (fun v21 => ∃ i : Nat, i ≤ l1.length ∧ v21 = .int .i64 i ∧ ae (∀ j, j < i → 0 ≤ rd l1 (j : Int) ∧ rd l1 (j : Int) ≤ 2147483647)) (fun v21 => l1.length - (intOf v21).toNat)
   case atStart => exact ⟨0, by omega, rfl, ⟨fun j hj => absurd hj (by omega)⟩⟩
   case round =>
    obtain ⟨i, hi, rfl, HI⟩ := hrel
    by_cases hlt : i < l1.length
    ·have hlt' : (i : Int) < (l1.length : Int) := by omega
     obtain ⟨ad, rfl, hc⟩ := Kd.iq HR2.out (i : Int) (by omega) (by omega)
     simp only [Int.toNat_natCast] at hc
     have hmem : rd l1 (i : Int) ∈ l1 := by
      simp only [rd, Int.toNat_natCast, List.getD_eq_getElem?_getD, List.getElem?_eq_getElem hlt, Option.getD_some]
      exact List.getElem_mem hlt
     generalize hx : rd l1 (i : Int) = x at hc hmem
     by_cases hx0 : x < 0 ∨ 2147483647 < x
     ·have hbad : ¬ ∀ g, g ∈ l1 → 0 ≤ g ∧ g ≤ 2147483647 := fun hall => by have := hall x hmem; omega
      have h := H.out
      rw [if_neg hbad] at h
      injection h with h
      injection h with h1 h2
      subst h1 h2
      clear hbad hmem
      by_cases hx1 : x < 0
      all_goals
       go_wp2
       go_ret2
       have ho := PR (w.alloc (Obj.cells (madeCells #[Value.int IntKind.i64 0] l1.length) 3)) w.heap.size 3 .i64 [] (by simp) (by simp)
       simp only [World.size_alloc, nums, List.map_nil] at ho
       exact ⟨_, rfl, Kd.rO (enc := Value.int .i64) (h1 := fun _ => rfl) ho (fun _ _ => trivial), gz (gz (Below.refl _ _) _) _⟩
     ·have hx1 : 0 ≤ x := by omega
      have hx2 : x ≤ 2147483647 := by omega
      clear hx0 hmem
      have HX := ae.mk hx
      clear hx
      go_wp2
      go_round
      case rel =>
       refine ⟨i + 1, by omega, by go_num, ⟨fun j hj => ?_⟩⟩
       by_cases e : j = i
       ·subst e; rw [HX.out]; exact ⟨hx1, hx2⟩
       ·exact HI.out j (by omega)
      case measure => simp [intOf]; omega
    ·obtain rfl : i = l1.length := by omega
     have hall : ∀ g, g ∈ l1 → 0 ≤ g ∧ g ≤ 2147483647 := fun g hg => by
      obtain ⟨j, hj, rfl⟩ := List.getElem_of_mem hg
      have := HI.out j hj
      simp only [rd, Int.toNat_natCast, List.getD_eq_getElem?_getD, List.getElem?_eq_getElem hj, Option.getD_some] at this
      exact this
     have h := H.out
     rw [if_pos hall] at h
     have HA := ae.mk hall
     have HL := ae.mk h
     clear HI hall h H
     go_wp2
     clear HR2
     go_loopg [7] k (fun gk v7 wr => ∃ (L : Int) (ps : List (Int × Int)), v7 = .int .i64 L ∧ ae (lC gk L ps = some (r1, r2)) ∧ ae (ps.map Prod.fst = l1) ∧ ae (RB L ps) ∧ ae (-100000 ≤ L ∧ L ≤ 100000) ∧ ae (wr.ownsRow w.heap.size 3 1 (.slice (some ⟨w.heap.size, 0, none⟩) l1.length l1.length) l1.length (nums .i64 (ps.map Prod.snd))) ∧ ae (Below w.heap.size w wr))
     case atStart =>
      refine ⟨a0, l1.map fun g => (g, 0), rfl, HL, ⟨by simp [List.map_map, Function.comp_def]⟩, ⟨?_⟩, ⟨hd1, hd2⟩, ⟨?_⟩, ⟨gz (Below.refl _ _) _⟩⟩
      ·intro p hp
       obtain ⟨g, hg, rfl⟩ := List.mem_map.1 hp
       have := HA.out g hg
       simp only
       omega
      ·have h := HS.out
       rw [show (l1.map fun g => (g, (0 : Int))).map Prod.snd = List.replicate l1.length 0 by simp [List.map_map, Function.comp_def, List.map_const']]
       exact h
     case round =>
      clear HL HA HS
      obtain ⟨L, ps, rfl, HL, HF, HB, HD, HO, yg⟩ := hrel
      cases gk with
      | zero => exact absurd HL.out (by simp [lC])
      | succ kk =>
       have h := HL.out
       clear HL
       simp only [lC] at h
       by_cases hL : L = 0
       ·rw [if_pos hL] at h
        injection h with h
        injection h with h1 h2
        subst h1 h2 hL
        go_wp2
        go_ret2
        refine ⟨_, rfl, Kd.rO (enc := Value.int .i64) (h1 := fun _ => rfl) ?_ (fun _ _ => trivial), yg.out⟩
        have e : ps.length = l1.length := by rw [← HF.out]; simp
        rw [List.length_map, e]
        exact HO.out
       ·rw [if_neg hL] at h
        have H2 := ae.mk h
        clear h
        have hne0 : (L != 0) = true := by simpa using hL
        have hne1 : (L == 0) = false := by simpa using hL
        clear hL
        go_wp2
        clear hne0
        obtain ⟨wo, rfl⟩ : ∃ wo : World, wo = wr := ⟨_, rfl⟩
        go_loopg [7, 50] l1.length (fun g v7 v50 w2 => ∃ (M : Int) (pre rest : List (Int × Int)), v7 = .int .i64 M ∧ v50 = .int .i64 (pre.length : Nat) ∧ ae (rest.length ≤ g) ∧ ae ((pre ++ rest).map Prod.fst = l1) ∧ ae (RB M (pre ++ rest)) ∧ ae (-100000 ≤ M ∧ M ≤ 100000) ∧ ae ((jD L ps).1 = (jD M rest).1 ∧ (jD L ps).2 = pre ++ (jD M rest).2) ∧ ae (w2.ownsRow w.heap.size 3 1 (.slice (some ⟨w.heap.size, 0, none⟩) l1.length l1.length) l1.length (nums .i64 ((pre ++ rest).map Prod.snd))) ∧ ae (Below w.heap.size w w2))
        case atStart =>
         refine ⟨L, [], ps, rfl, rfl, ⟨?_⟩, HF, HB, HD, ⟨rfl, rfl⟩, HO, yg⟩
         have : ps.length = l1.length := by rw [← HF.out]; simp
         omega
        case round =>
         clear HO yg HB HD HF
         obtain ⟨M, pre, rest, rfl, rfl, HG, HF, HB, HD, HE, HO, yg⟩ := hrel
         cases rest with
         | nil =>
          have hlen : pre.length = l1.length := by rw [← HF.out]; simp
          have hnl : ¬ (pre.length : Int) < (l1.length : Int) := by omega
          clear hlen
          simp only [List.append_nil, jD] at HF HB HE HO
          by_cases O6 : M = L
          ·have ahA : (M == L) = true := by simpa using O6
           have h := H2.out
           rw [if_pos (by rw [HE.out.1]; exact O6)] at h
           injection h with h
           injection h with h1 h2
           subst h1 h2
           clear O6
           go_wp2
           go_ret2
           have ho := PR wr w.heap.size 3 .i64 [] yg.out.size (by simp)
           simp only [nums, List.map_nil] at ho
           exact ⟨_, rfl, Kd.rO (enc := Value.int .i64) (h1 := fun _ => rfl) ho (fun _ _ => trivial), gz yg.out _⟩
          ·have ahA : (M == L) = false := by simpa using O6
           have h := H2.out
           rw [if_neg (by rw [HE.out.1]; exact O6), HE.out.1, HE.out.2] at h
           have H3 := ae.mk h
           clear h O6 H2
           go_wp2
           go_roundg kk
           case measure => omega
           case rel => exact ⟨M, pre, rfl, H3, HF, HB, HD, HO, yg⟩
         | cons p rest =>
          have hlen : pre.length + (rest.length + 1) = l1.length := by rw [← HF.out]; simp
          have hlt : (pre.length : Int) < (l1.length : Int) := by omega
          have HR2 := Kd.fC HR.out yg.out
          obtain ⟨ad, rfl, hc⟩ := Kd.iq HR2 (pre.length : Int) (by omega) (by omega)
          simp only [Int.toNat_natCast] at hc
          rw [show rd l1 (pre.length : Int) = p.1 by rw [← HF.out]; exact U1 Prod.fst pre p rest] at hc
          obtain ⟨hc2, hf2⟩ := UR HO.out (pre.length : Int) (by omega) (by omega)
          simp only [Int.toNat_natCast] at hc2 hf2
          rw [show rd ((pre ++ p :: rest).map Prod.snd) (pre.length : Int) = p.2 from U1 Prod.snd pre p rest] at hc2
          have hpb := HB.out p (by simp)
          obtain ⟨b1, b2, b3, b4, b5, b6⟩ := hpb
          clear HR2 hlen
          obtain ⟨d1, d2⟩ := HD.out
          have s1 := fun x => (z_ HO.out (pre.length : Int) x).1
          simp only [Int.toNat_natCast] at s1
          have S1 := ae.mk s1
          clear s1
          rcases zB M p with ⟨h1, h2, e⟩ | ⟨hM, e⟩ | ⟨hM, hg, e⟩
          ·have HE2 := ae.mk e
           clear e
           by_cases h3 : M < 0
           ·have hs : ¬ 0 < p.1 + p.2 := fun hh => h2 ⟨h3, hh⟩
            clear h2
            go_wp2
            go_quiet (fail)
            go_wp2
            go_roundg rest.length
            case measure => have := HG.out; simp at this; omega
            case rel =>
             obtain ⟨n1, n2, n3, n4⟩ := yN HE2.out HF.out HB.out HD.out HE.out
             exact ⟨M, pre ++ [p], rest, rfl, by simp, ⟨by omega⟩, ⟨n1⟩, ⟨n2⟩, ⟨n3⟩, ⟨n4⟩, ⟨by rw [List.append_assoc]; exact HO.out⟩, ⟨dC yg.out _⟩⟩
           ·clear h2
            have h4 : decide (M < 0) = false := by simp; omega
            go_wp2
            go_quiet (fail)
            go_wp2
            go_roundg rest.length
            case measure => have := HG.out; simp at this; omega
            case rel =>
             obtain ⟨n1, n2, n3, n4⟩ := yN HE2.out HF.out HB.out HD.out HE.out
             exact ⟨M, pre ++ [p], rest, rfl, by simp, ⟨by omega⟩, ⟨n1⟩, ⟨n2⟩, ⟨n3⟩, ⟨n4⟩, ⟨by rw [List.append_assoc]; exact HO.out⟩, ⟨dC yg.out _⟩⟩
          ·have HE2 := ae.mk e
           clear e
           have hz2 : decide (M - 1 < 0) = false := by simp; omega
           go_wp2
           go_quiet (fail)
           go_wp2
           go_roundg rest.length
           case measure => have := HG.out; simp at this; omega
           case rel =>
            obtain ⟨n1, n2, n3, n4⟩ := yN HE2.out HF.out HB.out HD.out HE.out
            exact ⟨M - 1, pre ++ [(p.1, p.2 + 1)], rest, rfl, by simp, ⟨by omega⟩, ⟨n1⟩, ⟨n2⟩, ⟨n3⟩, ⟨n4⟩, ⟨by rw [← set_mid Prod.snd pre p rest (p.1, p.2 + 1)]; exact S1.out (p.2 + 1)⟩, ⟨dC (mF yg.out (Nat.le_refl _)) _⟩⟩
          ·have HE2 := ae.mk e
           clear e
           go_wp2
           go_quiet (fail)
           go_wp2
           go_roundg rest.length
           case measure => have := HG.out; simp at this; omega
           case rel =>
            obtain ⟨n1, n2, n3, n4⟩ := yN HE2.out HF.out HB.out HD.out HE.out
            exact ⟨M + 1, pre ++ [(p.1, p.2 - 1)], rest, rfl, by simp, ⟨by omega⟩, ⟨n1⟩, ⟨n2⟩, ⟨n3⟩, ⟨n4⟩, ⟨by rw [← set_mid Prod.snd pre p rest (p.1, p.2 - 1)]; exact S1.out (p.2 - 1)⟩, ⟨mF (dC yg.out _) (Nat.le_refl _)⟩⟩
 ·exact absurd h (by simp)
theorem wp {x : Int} (h0 : -9223372036854775808 ≤ x) (h1 : x ≤ 9223372036854775807) : wrap64 x = x := by unfold wrap64; omega
def kK (m : Int) : Int → List (Int × Int) → Int × List (Int × Int)
 | b, [] => (b, [])
 | b, p :: ps => if p.1 + p.2 > 0 then (if b > 0 then ((kK m (b - mn m b) ps).1, (p.1, p.2 - mn m b) :: (kK m (b - mn m b) ps).2) else ((kK m b ps).1, p :: (kK m b ps).2)) else ((kK m b ps).1, p :: (kK m b ps).2)
def able : List (Int × Int) → Int
 | [] => 0
 | p :: ps => (if p.1 + p.2 > 0 then 1 else 0) + able ps
def lst : Int → List (Int × Int) → Int
 | m, [] => m
 | m, p :: ps => lst (if p.1 + p.2 > 0 then mn m (p.1 + p.2) else m) ps
def qE : List (Int × Int) → Int
 | [] => 0
 | p :: ps => (p.1 + p.2) + qE ps
def outs : List (Int × Int) → Int
 | [] => 0
 | p :: ps => p.2 + outs ps
def Good (ps : List (Int × Int)) : Prop := ∀ p, p ∈ ps → 0 ≤ p.1 ∧ p.1 ≤ 2147483647 ∧ -p.1 ≤ p.2 ∧ p.2 ≤ 0
def mX (m : Int) (ps : List (Int × Int)) : List (Int × Int) := ps.map fun p => (p.1, p.2 - if p.1 + p.2 > 0 then m else 0)
def Ez (ps : List (Int × Int)) : Prop := ∀ p, p ∈ ps → ∀ q, q ∈ ps → p.2 > q.2 → p.1 + p.2 = 0
def Kw (ps : List (Int × Int)) : Prop := ∀ p, p ∈ ps → ∀ q, q ∈ ps → p.2 > q.2 + 1 → p.2 = -p.1
theorem Good.tail {p : Int × Int} {ps : List (Int × Int)} (h : Good (p :: ps)) : Good ps := fun q hq => h q (List.mem_cons_of_mem _ hq)
theorem Good.head {p : Int × Int} {ps : List (Int × Int)} (h : Good (p :: ps)) : 0 ≤ p.1 ∧ p.1 ≤ 2147483647 ∧ -p.1 ≤ p.2 ∧ p.2 ≤ 0 := h p List.mem_cons_self
theorem vM (ps : List (Int × Int)) : 0 ≤ able ps ∧ able ps ≤ ps.length := by
 induction ps with
 | nil => simp [able]
 | cons p ps ih => simp only [able, List.length_cons]; split <;> omega
theorem VQ {ps : List (Int × Int)} (hg : Good ps) (h : 0 < qE ps) : 0 < able ps := by
 induction ps with
 | nil => simp [qE] at h
 | cons p ps ih =>
  have hr := vM ps
  simp only [qE] at h
  simp only [able]
  split
  ·omega
  ·rename_i hp
   have := ih hg.tail (by omega)
   omega
theorem UG (ps : List (Int × Int)) : ∀ m, lst m ps ≤ m := by
 induction ps with
 | nil => intro m; simp [lst]
 | cons p ps ih =>
  intro m
  simp only [lst]
  have h1 := ih (if p.1 + p.2 > 0 then mn m (p.1 + p.2) else m)
  have h2 : (if p.1 + p.2 > 0 then mn m (p.1 + p.2) else m) ≤ m := by
   split
   ·unfold mn; split <;> omega
   ·exact Int.le_refl _
  omega
theorem aa5 (ps : List (Int × Int)) : ∀ m, ∀ p, p ∈ ps → p.1 + p.2 > 0 → lst m ps ≤ p.1 + p.2 := by
 induction ps with
 | nil => intro m p hp; cases hp
 | cons q ps ih =>
  intro m p hp h
  simp only [lst]
  rcases List.mem_cons.1 hp with rfl | hp
  ·rw [if_pos h]
   have h1 := UG ps (mn m (p.1 + p.2))
   have h2 : mn m (p.1 + p.2) ≤ p.1 + p.2 := by unfold mn; split <;> omega
   omega
  ·exact ih _ p hp h
theorem aa6 (ps : List (Int × Int)) : ∀ m, 0 < m → 0 < lst m ps := by
 induction ps with
 | nil => intro m h; simpa [lst] using h
 | cons q ps ih =>
  intro m h
  simp only [lst]
  apply ih
  unfold mn
  split
  ·split <;> omega
  ·exact h
theorem BP {m : Int} (hm : 0 < m) : ∀ (ps : List (Int × Int)) (b : Int), m * able ps ≤ b → kK m b ps = (b - m * able ps, mX m ps) := by
 intro ps
 induction ps with
 | nil => intro b _; simp [kK, able, mX]
 | cons p ps ih =>
  intro b hb
  have hr := vM ps
  have hmn : 0 ≤ m * able ps := Int.mul_nonneg (by omega) hr.1
  simp only [able] at hb ⊢
  by_cases hp : p.1 + p.2 > 0
  ·simp only [if_pos hp] at hb ⊢
   rw [Int.mul_add, Int.mul_one] at hb ⊢
   have h1 : mn m b = m := by unfold mn; split <;> omega
   have h2 := ih (b - m) (by omega)
   simp only [kK]
   rw [if_pos hp, if_pos (by omega), h1, h2]
   simp only [mX, List.map_cons, if_pos hp, Prod.mk.injEq, and_true]
   omega
  ·simp only [if_neg hp] at hb ⊢
   rw [Int.zero_add] at hb ⊢
   simp only [kK]
   rw [if_neg hp, ih b hb]
   simp only [mX, List.map_cons, if_neg hp, Int.sub_zero]
theorem VZ : ∀ (ps : List (Int × Int)) (b : Int), 0 ≤ b → b ≤ able ps → (kK 1 b ps).1 = 0 := by
 intro ps
 induction ps with
 | nil => intro b h0 h; simp only [able] at h; simp only [kK]; omega
 | cons p ps ih =>
  intro b h0 h
  simp only [able] at h
  simp only [kK]
  by_cases hp : p.1 + p.2 > 0
  ·rw [if_pos hp] at h ⊢
   by_cases hb : b > 0
   ·rw [if_pos hb]
    have h1 : mn 1 b = 1 := by unfold mn; split <;> omega
    rw [h1]
    exact ih (b - 1) (by omega) (by omega)
   ·rw [if_neg hb]
    exact ih b h0 (by have := vM ps; omega)
  ·rw [if_neg hp] at h ⊢
   exact ih b h0 (by omega)
theorem Zm (m : Int) : ∀ (ps : List (Int × Int)) (b : Int), (kK m b ps).2.map Prod.fst = ps.map Prod.fst := by
 intro ps
 induction ps with
 | nil => intro b; simp [kK]
 | cons p ps ih =>
  intro b
  simp only [kK]
  split
  ·split <;> simp [ih]
  ·simp [ih]
theorem Iz : ∀ (ps : List (Int × Int)) (b : Int) (q : Int × Int), q ∈ (kK 1 b ps).2 → ∃ p, p ∈ ps ∧ q.1 = p.1 ∧ (q.2 = p.2 ∨ (p.1 + p.2 > 0 ∧ q.2 = p.2 - 1)) := by
 intro ps
 induction ps with
 | nil => intro b q hq; simp [kK] at hq
 | cons p ps ih =>
  intro b q hq
  simp only [kK] at hq
  have key : ∀ b' , q ∈ (kK 1 b' ps).2 → ∃ PS, PS ∈ p :: ps ∧ q.1 = PS.1 ∧ (q.2 = PS.2 ∨ (PS.1 + PS.2 > 0 ∧ q.2 = PS.2 - 1)) := fun b' h => by
   obtain ⟨p', h1, h2⟩ := ih b' q h
   exact ⟨p', List.mem_cons_of_mem _ h1, h2⟩
  split at hq
  ·rename_i hp
   split at hq
   ·rename_i hb
    simp only [List.mem_cons] at hq
    rcases hq with rfl | hq
    ·refine ⟨p, List.mem_cons_self, rfl, .inr ⟨hp, ?_⟩⟩
     have h1 : mn 1 b = 1 := by unfold mn; split <;> omega
     simp only [h1]
    ·exact key _ hq
   ·simp only [List.mem_cons] at hq
    rcases hq with rfl | hq
    ·exact ⟨_, List.mem_cons_self, rfl, .inl rfl⟩
    ·exact key _ hq
  ·simp only [List.mem_cons] at hq
   rcases hq with rfl | hq
   ·exact ⟨_, List.mem_cons_self, rfl, .inl rfl⟩
   ·exact key _ hq
theorem Mc (m : Int) : ∀ (ps : List (Int × Int)) (b : Int), outs (kK m b ps).2 - (kK m b ps).1 = outs ps - b := by
 intro ps
 induction ps with
 | nil => intro b; simp [kK]
 | cons p ps ih =>
  intro b
  simp only [kK]
  split
  ·split
   ·have := ih (b - mn m b); simp only [outs]; omega
   ·have := ih b; simp only [outs]; omega
  ·have := ih b; simp only [outs]; omega
theorem Wq (m : Int) (ps : List (Int × Int)) : (mX m ps).map Prod.fst = ps.map Prod.fst := by simp [mX, List.map_map, Function.comp_def]
theorem JL {m : Int} {ps : List (Int × Int)} (hm : 0 ≤ m) (hg : Good ps) (hl : ∀ p, p ∈ ps → p.1 + p.2 > 0 → m ≤ p.1 + p.2) : Good (mX m ps) := by
 intro q hq
 obtain ⟨p, hp, rfl⟩ := List.mem_map.1 hq
 have h1 := hg p hp
 have h2 := hl p hp
 simp only
 split <;> omega
theorem Hg (m : Int) (ps : List (Int × Int)) : qE (mX m ps) = qE ps - m * able ps := by
 induction ps with
 | nil => simp [mX, qE, able]
 | cons p ps ih =>
  have e : mX m (p :: ps) = (p.1, p.2 - if p.1 + p.2 > 0 then m else 0) :: mX m ps := rfl
  rw [e]
  simp only [qE, able, ih]
  rw [Int.mul_add]
  split
  ·rw [Int.mul_one]; omega
  ·rw [Int.mul_zero]; omega
theorem Tz {m : Int} {ps : List (Int × Int)} (hg : Good ps) (he : Ez ps) (hm : 0 ≤ m) : Ez (mX m ps) := by
 intro p' hp' q' hq' h
 obtain ⟨p, hp, rfl⟩ := List.mem_map.1 hp'
 obtain ⟨q, hq, rfl⟩ := List.mem_map.1 hq'
 have h1 := he p hp q hq
 have h2 := hg p hp
 have h3 := hg q hq
 simp only at h ⊢
 by_cases c1 : p.1 + p.2 > 0
 ·rw [if_pos c1] at h ⊢
  by_cases c2 : q.1 + q.2 > 0
  ·rw [if_pos c2] at h; omega
  ·rw [if_neg c2] at h; omega
 ·rw [if_neg c1] at h ⊢
  by_cases c2 : q.1 + q.2 > 0
  ·rw [if_pos c2] at h; omega
  ·rw [if_neg c2] at h; omega
theorem TA {m : Int} {ps : List (Int × Int)} (hm : 0 < m) (hl : ∀ p, p ∈ ps → p.1 + p.2 > 0 → m + 1 ≤ p.1 + p.2) : mX (m + 1) ps = mX m (mX 1 ps) ∧ able (mX 1 ps) = able ps := by
 constructor
 ·simp only [mX, List.map_map]
  apply List.map_congr_left
  intro p hp
  have := hl p hp
  simp only [Function.comp_def, Prod.mk.injEq, true_and]
  by_cases h : p.1 + p.2 > 0
  ·rw [if_pos h, if_pos h, if_pos (by omega)]; omega
  ·rw [if_neg h, if_neg h, if_neg (by omega)]; omega
 ·induction ps with
  | nil => rfl
  | cons p ps ih =>
   have e : mX 1 (p :: ps) = (p.1, p.2 - if p.1 + p.2 > 0 then 1 else 0) :: mX 1 ps := rfl
   rw [e]
   simp only [able]
   rw [ih fun q hq => hl q (List.mem_cons_of_mem _ hq)]
   have := hl p List.mem_cons_self
   by_cases h : p.1 + p.2 > 0
   ·rw [if_pos h, if_pos (by omega)]
   ·rw [if_neg h, if_neg (by omega)]
theorem VX {ps : List (Int × Int)} {b : Int} (he : Ez ps) : Kw (kK 1 b ps).2 := by
 intro p' hp' q' hq' h
 obtain ⟨p, hp, e1, e2⟩ := Iz ps b p' hp'
 obtain ⟨q, hq, e3, e4⟩ := Iz ps b q' hq'
 have h1 := he p hp q hq
 omega
theorem adu {ps : List (Int × Int)} (he : Ez ps) : Kw ps := by
 intro p hp q hq h
 have := he p hp q hq
 omega
theorem VY {ps : List (Int × Int)} {b : Int} (hg : Good ps) : Good (kK 1 b ps).2 := by
 intro p' hp'
 obtain ⟨p, hp, e1, e2⟩ := Iz ps b p' hp'
 have := hg p hp
 omega
theorem Ev.jW {α : Type} {c : Prop} [Decidable c] {g f : Nat → Option α} {r : α} (hc : c) (h : Ev g r) : Ev (fun k => if c then g k else f k) r := by simp only [if_pos hc]; exact h
theorem Ev.jq {α : Type} {c : Prop} [Decidable c] {g f : Nat → Option α} {r : α} (hc : ¬c) (h : Ev f r) : Ev (fun k => if c then g k else f k) r := by simp only [if_neg hc]; exact h
theorem H7 {α : Type} (f : α → Int) (pre : List α) (p : α) (rest : List α) : rd ((pre ++ p :: rest).map f) (pre.length : Int) = f p := by
 simp [rd, List.getD_eq_getElem?_getD]
theorem Jj (pre : List Int) (p : Int) (rest : List Int) : rd (pre ++ p :: rest) (pre.length : Int) = p := by
 simp [rd, List.getD_eq_getElem?_getD]
theorem aa3 (b : Int) (q : Int) (r : List Int) (hb0 : 0 < b) (hb1 : b ≤ 2147483647) : ∀ (rest pre : List (Int × Int)) (A L : Int), Good (pre ++ rest) → (pre ++ rest).length ≤ 100000 → 0 ≤ A → A ≤ pre.length →
  A + able rest ≠ 0 → q = mx 1 (mn (lst L rest) (b / (A + able rest))) →
  Ev (fun k => aU.l2 k b ((pre ++ rest).map Prod.fst) ((pre ++ rest).map Prod.snd) q ((pre ++ rest).map Prod.fst) ((pre ++ rest).length : Int) 0) r →
  Ev (fun k => aU.l1 k b ((pre ++ rest).map Prod.fst) ((pre ++ rest).map Prod.snd) A L ((pre ++ rest).map Prod.fst) ((pre ++ rest).length : Int) (pre.length : Int)) r := by
 intro rest
 induction rest with
 | nil =>
  intro pre A L hg hl h0 h1 hne hq h
  refine Ev.step (f := fun k => aU.l2 k b ((pre ++ []).map Prod.fst) ((pre ++ []).map Prod.snd) q ((pre ++ []).map Prod.fst) ((pre ++ []).length : Int) 0) (fun k => ?_) h
  simp only [aU.l1]
  simp only [able, Int.add_zero, lst] at hne hq
  have hdiv : wrap64 (Int.tdiv b A) = b / A := by
   rw [Int.tdiv_eq_ediv_of_nonneg (by omega)]
   have h2 : 0 ≤ b / A := Int.ediv_nonneg (by omega) h0
   have h3 : b / A ≤ b := Int.ediv_le_self _ (by omega)
   exact wp (by omega) (by omega)
  rw [if_neg (by simp), if_neg hne, hdiv, ← hq]
  simp
 | cons p rest ih =>
  intro pre A L hg hl h0 h1 hne hq h
  have hp := hg p (by simp)
  have hlen : ((pre ++ p :: rest).length : Int) = pre.length + (rest.length + 1) := by simp
  have hl' : (pre.length : Int) + (rest.length + 1) ≤ 100000 := by omega
  have hw : wrap64 ((pre.length : Int) + 1) = ((pre ++ [p]).length : Int) := by rw [wp (by omega) (by omega)]; simp
  have e : pre ++ p :: rest = (pre ++ [p]) ++ rest := by simp
  have hsum : wrap64 (p.1 + p.2) = p.1 + p.2 := wp (by omega) (by omega)
  refine Ev.step (f := fun k => aU.l1 k b (((pre ++ [p]) ++ rest).map Prod.fst) (((pre ++ [p]) ++ rest).map Prod.snd) (A + if p.1 + p.2 > 0 then 1 else 0) (if p.1 + p.2 > 0 then mn L (p.1 + p.2) else L) (((pre ++ [p]) ++ rest).map Prod.fst) (((pre ++ [p]) ++ rest).length : Int) ((pre ++ [p]).length : Int)) (fun k => ?_) (ih (pre ++ [p]) _ _ (by rw [← e]; exact hg) (by rw [← e]; exact hl) (by split <;> omega) (by simp; split <;> omega) (by simp only [able] at hne; omega) (by simp only [able, lst] at hq; rw [hq, Int.add_assoc]) (by rw [← e]; exact h))
  simp only [aU.l1]
  rw [H7, H7, hsum, if_pos (by omega), if_pos (by omega), if_pos (by simp; omega), if_pos (by simp; omega), hw, ← e]
  by_cases hc : p.1 + p.2 > 0
  ·rw [if_pos hc, if_pos hc, if_pos hc, wp (by omega) (by omega)]
  ·rw [if_neg hc, if_neg hc, if_neg hc, Int.add_zero]
theorem aa4 (m : Int) (r : List Int) (hm : 0 < m) : ∀ (rest pre : List (Int × Int)) (b : Int), 0 ≤ b → b ≤ 2147483647 → Good (pre ++ rest) → (∀ p, p ∈ rest → p.1 + p.2 > 0 → m ≤ p.1 + p.2) → (pre ++ rest).length ≤ 100000 →
  Ev (fun k => aU.l0 k (kK m b rest).1 ((pre ++ rest).map Prod.fst) ((pre ++ (kK m b rest).2).map Prod.snd)) r →
  Ev (fun k => aU.l2 k b ((pre ++ rest).map Prod.fst) ((pre ++ rest).map Prod.snd) m ((pre ++ rest).map Prod.fst) ((pre ++ rest).length : Int) (pre.length : Int)) r := by
 intro rest
 induction rest with
 | nil =>
  intro pre b h0 h1 hg hl hlen h
  simp only [kK] at h
  refine Ev.step (fun k => ?_) h
  simp only [aU.l2]
  rw [if_neg (by simp)]
 | cons p rest ih =>
  intro pre b h0 h1 hg hl hlen h
  have hp := hg p (by simp)
  have hlen' : ((pre ++ p :: rest).length : Int) = pre.length + (rest.length + 1) := by simp
  have hl' : (pre.length : Int) + (rest.length + 1) ≤ 100000 := by omega
  have hw : wrap64 ((pre.length : Int) + 1) = (pre.length : Int) + 1 := wp (by omega) (by omega)
  have hsum : wrap64 (p.1 + p.2) = p.1 + p.2 := wp (by omega) (by omega)
  have hmp := hl p (by simp)
  have hmn : 0 ≤ mn m b ∧ mn m b ≤ m ∧ mn m b ≤ b := by unfold mn; split <;> omega
  have step : ∀ (b' : Int) (p' : Int × Int), p'.1 = p.1 → -p'.1 ≤ p'.2 → p'.2 ≤ 0 → 0 ≤ b' → b' ≤ 2147483647 → kK m b (p :: rest) = ((kK m b' rest).1, p' :: (kK m b' rest).2) →
    Ev (fun k => aU.l2 k b' ((pre ++ p :: rest).map Prod.fst) ((pre ++ p' :: rest).map Prod.snd) m ((pre ++ p :: rest).map Prod.fst) ((pre ++ p :: rest).length : Int) ((pre.length : Int) + 1)) r := by
   intro b' p' e1 e2 e3 e4 e5 eb
   have f1 : (pre ++ p :: rest).map Prod.fst = ((pre ++ [p']) ++ rest).map Prod.fst := by simp [e1]
   have f2 : (pre ++ p' :: rest).map Prod.snd = ((pre ++ [p']) ++ rest).map Prod.snd := by simp
   have f3 : ((pre ++ p :: rest).length : Int) = (((pre ++ [p']) ++ rest).length : Int) := by simp
   have f4 : (pre.length : Int) + 1 = ((pre ++ [p']).length : Int) := by simp
   have hg' : Good ((pre ++ [p']) ++ rest) := by
    intro q hq
    simp only [List.append_assoc, List.mem_append, List.mem_cons, List.not_mem_nil, or_false] at hq
    rcases hq with hq | rfl | hq
    ·exact hg q (by simp [hq])
    ·omega
    ·exact hg q (by simp [hq])
   rw [f1, f2, f3, f4]
   refine ih (pre ++ [p']) b' e4 e5 hg' (fun q hq => hl q (by simp [hq])) (by simp; omega) ?_
   rw [eb] at h
   rw [← f1, List.append_assoc]
   exact h
  refine Ev.step (f := fun k => if p.1 + p.2 > 0 then (if b > 0 then aU.l2 k (b - mn m b) ((pre ++ p :: rest).map Prod.fst) ((pre ++ (p.1, p.2 - mn m b) :: rest).map Prod.snd) m ((pre ++ p :: rest).map Prod.fst) ((pre ++ p :: rest).length : Int) ((pre.length : Int) + 1) else aU.l2 k b ((pre ++ p :: rest).map Prod.fst) ((pre ++ p :: rest).map Prod.snd) m ((pre ++ p :: rest).map Prod.fst) ((pre ++ p :: rest).length : Int) ((pre.length : Int) + 1)) else aU.l2 k b ((pre ++ p :: rest).map Prod.fst) ((pre ++ p :: rest).map Prod.snd) m ((pre ++ p :: rest).map Prod.fst) ((pre ++ p :: rest).length : Int) ((pre.length : Int) + 1)) (fun k => ?_) ?_
  ·simp only [aU.l2]
   rw [H7, H7, hsum, if_pos (by omega), if_pos (by omega), if_pos (by simp; omega), if_pos (by simp; omega), hw]
   by_cases hc : p.1 + p.2 > 0
   ·rw [if_pos hc, if_pos hc]
    by_cases hb : b > 0
    ·rw [if_pos hb, if_pos hb, wp (by omega) (by omega), wp (by omega) (by omega)]
     congr 1
     simp
    ·rw [if_neg hb, if_neg hb]
   ·rw [if_neg hc, if_neg hc]
  ·by_cases hc : p.1 + p.2 > 0
   ·by_cases hb : b > 0
    ·refine Ev.jW hc (Ev.jW hb (step (b - mn m b) (p.1, p.2 - mn m b) rfl (by simp only; omega) (by simp only; omega) (by omega) (by omega) ?_))
     simp only [kK]
     rw [if_pos hc, if_pos hb]
    ·refine Ev.jW hc (Ev.jq hb (step b p rfl (by omega) (by omega) h0 h1 ?_))
     simp only [kK]
     rw [if_pos hc, if_neg hb]
   ·refine Ev.jq hc (step b p rfl (by omega) (by omega) h0 h1 ?_)
    simp only [kK]
    rw [if_neg hc]
theorem OW (ps : List (Int × Int)) : ∀ b : Int, 0 ≤ b → jD (-b) ps = (-(kK 1 b ps).1, (kK 1 b ps).2) := by
 induction ps with
 | nil => intro b _; simp [jD, kK]
 | cons p ps ih =>
  intro b hb
  simp only [jD, kK]
  by_cases hp : p.1 + p.2 > 0
  ·rw [if_pos hp]
   by_cases h : b > 0
   ·rw [if_pos h]
    have h1 : mn 1 b = 1 := by unfold mn; split <;> omega
    have e : nZ (-b) p = (-(b - 1), (p.1, p.2 - 1)) := by
     unfold nZ
     rw [if_neg (by omega), if_pos ⟨by omega, hp⟩]
     congr 1
     omega
    rw [e, h1]
    simp only
    rw [ih (b - 1) (by omega)]
   ·rw [if_neg h]
    have e : nZ (-b) p = (-b, p) := by
     unfold nZ
     rw [if_neg (by omega), if_neg (by omega)]
    rw [e]
    simp only
    rw [ih b hb]
  ·rw [if_neg hp]
   have e : nZ (-b) p = (-b, p) := by
    unfold nZ
    rw [if_neg (by omega), if_neg (by omega)]
   rw [e]
   simp only
   rw [ih b hb]
theorem Af {b : Int} {ps : List (Int × Int)} {r : List Int × Bool} (hb : 0 < b) (hne : (kK 1 b ps).1 ≠ b) (h : Ev (fun k => lC k (-(kK 1 b ps).1) (kK 1 b ps).2) r) : Ev (fun k => lC k (-b) ps) r := by
 refine Ev.step (fun k => ?_) h
 simp only [lC]
 rw [if_neg (by omega), OW ps b (by omega)]
 simp only
 rw [if_neg (by omega)]
theorem Rh {r : List Int × Bool} : ∀ (m : Nat) (b : Int) (ps : List (Int × Int)), 0 < able ps → ((m : Int) + 1) * able ps ≤ b → (∀ p, p ∈ ps → p.1 + p.2 > 0 → (m : Int) + 1 ≤ p.1 + p.2) →
  Ev (fun k => lC k (-(b - ((m : Int) + 1) * able ps)) (mX ((m : Int) + 1) ps)) r → Ev (fun k => lC k (-b) ps) r := by
 intro m
 induction m with
 | zero =>
  intro b ps ha hb hl h
  have e := BP (m := 1) (by omega) ps b (by simpa using hb)
  have hb' : able ps ≤ b := by simpa using hb
  refine Af (by omega) (by rw [e]; simp only; omega) ?_
  rw [e]
  simpa using h
 | succ m ih =>
  intro b ps ha hb hl h
  have hx : 0 ≤ ((m : Int) + 1) * able ps := Int.mul_nonneg (by omega) (by omega)
  have hm : (((m + 1 : Nat) : Int) + 1) * able ps = ((m : Int) + 1) * able ps + able ps := by rw [show (((m + 1 : Nat) : Int) + 1) = ((m : Int) + 1) + 1 by omega, Int.add_mul, Int.one_mul]
  rw [hm] at hb h
  have e := BP (m := 1) (by omega) ps b (by omega)
  obtain ⟨d1, d2⟩ := TA (m := (m : Int) + 1) (ps := ps) (by omega) (fun p hp hc => by have := hl p hp hc; omega)
  refine Af (by omega) (by rw [e]; simp only; omega) ?_
  rw [e]
  simp only [Int.one_mul]
  refine ih (b - able ps) (mX 1 ps) (by omega) (by rw [d2]; omega) ?_ ?_
  ·intro q hq hc
   obtain ⟨p, hp, rfl⟩ := List.mem_map.1 hq
   have := hl p hp
   simp only at hc ⊢
   by_cases hc1 : p.1 + p.2 > 0
   ·rw [if_pos hc1] at hc ⊢
    have := this hc1
    omega
   ·rw [if_neg hc1] at hc
    omega
  ·rw [d2, ← d1]
   refine Ev.congr (fun k => ?_) h
   rw [show (((m + 1 : Nat) : Int) + 1) = ((m : Int) + 1) + 1 by omega]
   congr 2
   omega
theorem UF : ∀ (n : Nat) (b : Int) (ps : List (Int × Int)), b.toNat = n → 0 ≤ b → b ≤ 2147483647 → Good ps → Ez ps → ps.length ≤ 100000 → b ≤ qE ps →
  ∃ qs : List (Int × Int), Ev (fun k => aU.l0 k b (ps.map Prod.fst) (ps.map Prod.snd)) (qs.map Prod.snd) ∧ Ev (fun k => lC k (-b) ps) (qs.map Prod.snd, true) ∧
   qs.map Prod.fst = ps.map Prod.fst ∧ Good qs ∧ Kw qs ∧ outs qs = outs ps - b := by
 intro n
 induction n using Nat.strongRecOn with
 | _ n IH =>
 intro b ps hn h0 h1 hg he hl hav
 by_cases hb : b > 0
 ·have hab := VQ hg (by omega)
  have har := vM ps
  have alz := aa6 ps b hb
  have aly := UG ps b
  have hm1 : 1 ≤ mx 1 (mn (lst b ps) (b / able ps)) := by unfold mx; split <;> omega
  have YW : ∀ (m : Int), m = mx 1 (mn (lst b ps) (b / able ps)) → (∀ p, p ∈ ps → p.1 + p.2 > 0 → m ≤ p.1 + p.2) → ∀ r, Ev (fun k => aU.l0 k (kK m b ps).1 (ps.map Prod.fst) ((kK m b ps).2.map Prod.snd)) r → Ev (fun k => aU.l0 k b (ps.map Prod.fst) (ps.map Prod.snd)) r := by
   intro m hm hml r h
   refine Ev.step (f := fun k => aU.l1 k b (ps.map Prod.fst) (ps.map Prod.snd) 0 b (ps.map Prod.fst) ((ps.map Prod.fst).length : Int) 0) (fun k => ?_) ?_
   ·simp only [aU.l0]; rw [if_pos hb]
   ·have l2 := aa4 m r (by omega) ps [] b h0 h1 (by simpa using hg) hml (by simpa using hl) (by simpa using h)
    have l1 := aa3 b m r hb h1 ps [] 0 b (by simpa using hg) (by simpa using hl) (by omega) (by simp) (by omega) (by rw [Int.zero_add]; exact hm) (by simpa using l2)
    simpa using l1
  by_cases hfull : able ps ≤ b
  ·
   have hq1 : 1 ≤ b / able ps := by rw [Int.le_ediv_iff_mul_le hab]; omega
   have hm : mx 1 (mn (lst b ps) (b / able ps)) = mn (lst b ps) (b / able ps) := by unfold mx mn; split <;> split at * <;> omega
   have ahG : 1 ≤ mn (lst b ps) (b / able ps) := by unfold mn; split <;> omega
   generalize hmm : mn (lst b ps) (b / able ps) = m at hm
   have hm0 : 1 ≤ m := by rw [← hmm]; exact ahG
   have ahE : m ≤ lst b ps := by rw [← hmm]; unfold mn; split <;> omega
   have ahF : m ≤ b / able ps := by rw [← hmm]; unfold mn; split <;> omega
   have hall : ∀ p, p ∈ ps → p.1 + p.2 > 0 → m ≤ p.1 + p.2 := fun p hp hc => Int.le_trans ahE (aa5 ps b p hp hc)
   have hmb : m * able ps ≤ b := (Int.le_ediv_iff_mul_le hab).1 ahF
   have hma : able ps ≤ m * able ps := by have := Int.mul_le_mul_of_nonneg_right hm0 (show 0 ≤ able ps by omega); omega
   have adm := BP (m := m) (by omega) ps b hmb
   obtain ⟨qs, q1, q2, q3, q4, q5, q6⟩ := IH (b - m * able ps).toNat (by omega) (b - m * able ps) (mX m ps) rfl (by omega) (by omega) (JL (by omega) hg hall) (Tz hg he (by omega)) (by simpa [mX] using hl) (by rw [Hg]; omega)
   rw [Wq] at q1 q3
   have eo : outs (mX m ps) = outs ps - m * able ps := by
    have := Mc m ps b
    rw [adm] at this
    simp only at this
    omega
   refine ⟨qs, YW m (by rw [hmm, hm]) hall _ (by rw [adm]; exact q1), ?_, q3, q4, q5, by omega⟩
   obtain ⟨m', rfl⟩ : ∃ m' : Nat, m = (m' : Int) + 1 := ⟨(m - 1).toNat, by omega⟩
   exact Rh m' b ps hab hmb hall q2
  ·
   have hq0 : b / able ps = 0 := Int.ediv_eq_zero_of_lt h0 (by omega)
   have hm : mx 1 (mn (lst b ps) (b / able ps)) = 1 := by rw [hq0]; unfold mx mn; split <;> split at * <;> omega
   have hz := VZ ps b h0 (by omega)
   have eo := Mc 1 ps b
   refine ⟨(kK 1 b ps).2, YW 1 hm.symm (fun p _ hc => by omega) _ ?_, Af hb (by omega) ?_, Zm 1 ps b, VY hg, VX he, by omega⟩
   ·rw [hz]
    refine Ev.step (fun k => ?_) (Ev.now _)
    simp only [aU.l0]
    rw [if_neg (by omega)]
   ·rw [hz]
    refine Ev.step (fun k => ?_) (Ev.now _)
    simp only [lC]
    rw [if_pos (by omega)]
 ·obtain rfl : b = 0 := by omega
  refine ⟨ps, ?_, ?_, rfl, hg, adu he, by omega⟩
  ·refine Ev.step (fun k => ?_) (Ev.now _)
   simp only [aU.l0]
   rw [if_neg hb]
  ·refine Ev.step (fun k => ?_) (Ev.now _)
   simp only [lC]
   rw [if_pos (by omega)]
def total : List Int → Int
 | [] => 0
 | g :: gs => g + total gs
theorem Fv (gs : List Int) : qE (gs.map fun g => (g, (0 : Int))) = total gs := by
 induction gs with
 | nil => rfl
 | cons g gs ih => simp only [List.map_cons, qE, total, ih]; omega
theorem zH (gs : List Int) (h : ∀ g, g ∈ gs → 0 ≤ g) : 0 ≤ total gs := by
 induction gs with
 | nil => simp [total]
 | cons g gs ih => have h1 := h g (by simp); have h2 := ih fun x hx => h x (by simp [hx]); simp only [total]; omega
def uh (m : Int) (gs : List Int) : Int := if m + total gs > 2147483647 then 2147483647 else m + total gs
theorem OE (b : Int) (r : List Int × Bool) : ∀ (rest pre : List Int) (s : Int), 0 ≤ s → s ≤ 2147483647 → (pre ++ rest).length ≤ 100000 →
  (∀ g, g ∈ rest → 0 ≤ g ∧ g ≤ 2147483647) →
  Ev (fun k => if ((pre ++ rest).length : Int) = 0 then (aY.j1 k b (pre ++ rest) true) else (if b < wrap64 (-(uh s rest)) then (aY.j1 k b (pre ++ rest) true) else (aY.j1 k b (pre ++ rest) (decide (b > 2147483647))))) r →
  Ev (fun k => aY.l0 k b (pre ++ rest) s (pre ++ rest) ((pre ++ rest).length : Int) (pre.length : Int)) r := by
 intro rest
 induction rest with
 | nil =>
  intro pre s h0 h1 hl hg h
  refine Ev.step (fun k => ?_) h
  simp only [aY.l0]
  rw [if_neg (by simp)]
  have : uh s [] = s := by unfold uh; simp only [total, Int.add_zero]; rw [if_neg (by omega)]
  rw [this]
 | cons g rest ih =>
  intro pre s h0 h1 hl hg h
  have hgg := hg g (by simp)
  have ht := zH rest fun x hx => (hg x (by simp [hx])).1
  have hlen : ((pre ++ g :: rest).length : Int) = pre.length + (rest.length + 1) := by simp
  have e : pre ++ g :: rest = (pre ++ [g]) ++ rest := by simp
  have hc : uh (mn 2147483647 (s + g)) rest = uh s (g :: rest) := by unfold uh mn; simp only [total]; split <;> split <;> (try split) <;> omega
  refine Ev.step (fun k => ?_) (ih (pre ++ [g]) (mn 2147483647 (s + g)) (by unfold mn; split <;> omega) (by unfold mn; split <;> omega) (by rw [← e]; exact hl) (fun x hx => hg x (by simp [hx])) (by rw [hc, ← e]; exact h))
  simp only [aY.l0]
  rw [Jj, if_pos (by omega), if_pos (by omega), if_pos (by omega), if_neg (by omega), if_neg (by omega), wp (x := s + g) (by omega) (by omega), wp (x := (pre.length : Int) + 1) (by omega) (by omega), ← e]
  simp
theorem Rl (b : Int) : ∀ (rest pre : List Int) (s : Int), 0 ≤ s → s ≤ 2147483647 → (pre ++ rest).length ≤ 100000 → ¬ (∀ g, g ∈ rest → 0 ≤ g ∧ g ≤ 2147483647) →
  Ev (fun k => aY.l0 k b (pre ++ rest) s (pre ++ rest) ((pre ++ rest).length : Int) (pre.length : Int)) ([], false) := by
 intro rest
 induction rest with
 | nil => intro pre s _ _ _ h; exact absurd (fun g hg => by cases hg) h
 | cons g rest ih =>
  intro pre s h0 h1 hl hg
  have hlen : ((pre ++ g :: rest).length : Int) = pre.length + (rest.length + 1) := by simp
  by_cases hgg : 0 ≤ g ∧ g ≤ 2147483647
  ·have e : pre ++ g :: rest = (pre ++ [g]) ++ rest := by simp
   refine Ev.step (fun k => ?_) (ih (pre ++ [g]) (mn 2147483647 (s + g)) (by unfold mn; split <;> omega) (by unfold mn; split <;> omega) (by rw [← e]; exact hl) (fun h => hg fun x hx => by
    rcases List.mem_cons.1 hx with rfl | hx
    ·exact hgg
    ·exact h x hx))
   simp only [aY.l0]
   rw [Jj, if_pos (by omega), if_pos (by omega), if_pos (by omega), if_neg (by omega), if_neg (by omega), wp (x := s + g) (by omega) (by omega), wp (x := (pre.length : Int) + 1) (by omega) (by omega), ← e]
   simp
  ·refine Ev.step (fun k => ?_) (Ev.now _)
   simp only [aY.l0]
   rw [Jj, if_pos (by omega), if_pos (by omega), if_pos (by omega)]
   by_cases h : g < 0
   ·rw [if_pos h]
   ·rw [if_neg h, if_pos (by omega)]
theorem U9 : ∀ (ps : List (Int × Int)) (b : Int), 0 ≤ b → jD b ps = (if (ps.length : Int) ≤ b then b - ps.length else 0, ps.mapIdx fun i p => (p.1, p.2 + if (i : Int) < b then 1 else 0)) := by
 intro ps
 induction ps with
 | nil => intro b hb; simp [jD]; omega
 | cons p ps ih =>
  intro b hb
  simp only [jD]
  by_cases h : b > 0
  ·have e : nZ b p = (b - 1, (p.1, p.2 + 1)) := by unfold nZ; rw [if_pos h]
   rw [e]
   simp only
   rw [ih (b - 1) (by omega), List.mapIdx_cons]
   simp only [Prod.mk.injEq, List.length_cons, List.cons.injEq]
   refine ⟨by split <;> split <;> omega, ?_, ?_⟩
   ·rw [if_pos (by omega)]; simp
   ·apply List.mapIdx_eq_mapIdx_iff.2
    intro i hi
    simp only [Prod.mk.injEq, true_and]
    split <;> split <;> omega
  ·obtain rfl : b = 0 := by omega
   have e : nZ 0 p = (0, p) := by unfold nZ; simp
   rw [e]
   simp only
   rw [ih 0 (by omega), List.mapIdx_cons]
   simp only [Prod.mk.injEq, List.length_cons, List.cons.injEq]
   refine ⟨by split <;> split <;> omega, ?_, ?_⟩
   ·simp
   ·apply List.mapIdx_eq_mapIdx_iff.2
    intro i hi
    simp only [Prod.mk.injEq, true_and]
    split <;> split <;> omega
theorem OB {b n : Int} (hn : 0 < n) (i : Int) : kU (b - n) n i + 1 = kU b n i := by
 unfold kU
 have h1 : (b - n) / n = b / n - 1 := by
  rw [show b - n = b + (-1) * n by omega, Int.add_mul_ediv_right _ _ (by omega)]; omega
 have h2 : (b - n) % n = b % n := by
  rw [show b - n = b + (-1) * n by omega, Int.add_mul_emod_self_right]
 rw [h1, h2]
 omega
theorem Ee {b n : Int} (h0 : 0 ≤ b) (h : b < n) (i : Int) : kU b n i = if i < b then 1 else 0 := by
 unfold kU
 rw [Int.ediv_eq_zero_of_lt h0 h, Int.emod_eq_of_lt h0 h]
 omega
theorem aeV : ∀ (N : Nat) (b t : Int) (gs : List Int), b.toNat = N → 0 ≤ b → gs ≠ [] → Ev (fun k => lC k b (gs.map fun g => (g, t))) (gs.mapIdx (fun i _ => t + kU b gs.length (i : Nat)), true) := by
 intro N
 induction N using Nat.strongRecOn with
 | _ N IH =>
 intro b t gs hN hb hne
 have hpos : 0 < gs.length := List.length_pos_iff.2 hne
 by_cases h0 : b = 0
 ·subst h0
  refine Ev.step (fun k => ?_) (Ev.now _)
  simp only [lC]
  rw [if_pos trivial]
  congr 2
  rw [List.map_map]
  apply List.ext_getElem
  ·simp
  ·intro i h1 h2
   simp only [List.getElem_map, Function.comp_def, List.getElem_mapIdx]
   rw [Ee (show (0 : Int) ≤ 0 by omega) (show (0 : Int) < gs.length by omega), if_neg (by omega)]
   omega
 ·have hr := U9 (gs.map fun g => (g, t)) b hb
  rw [List.length_map] at hr
  by_cases hfull : (gs.length : Int) ≤ b
  ·rw [if_pos hfull] at hr
   have ih := IH (b - gs.length).toNat (by omega) (b - gs.length) (t + 1) gs rfl (by omega) hne
   have e2 : (List.mapIdx (fun i (p : Int × Int) => (p.1, p.2 + if (i : Int) < b then 1 else 0)) (gs.map fun g => (g, t))) = gs.map fun g => (g, t + 1) := by
    apply List.ext_getElem
    ·simp
    ·intro i h1 h2
     simp at h1
     simp only [List.getElem_mapIdx, List.getElem_map]
     rw [if_pos (by omega)]
   rw [e2] at hr
   refine Ev.step (f := fun k => lC k (b - gs.length) (gs.map fun g => (g, t + 1))) (fun k => ?_) ?_
   ·simp only [lC]
    rw [if_neg h0, hr]
    simp only
    rw [if_neg (by omega)]
   ·have e3 : gs.mapIdx (fun i _ => t + kU b gs.length (i : Nat)) = gs.mapIdx (fun i _ => t + 1 + kU (b - gs.length) gs.length (i : Nat)) := by
     apply List.mapIdx_eq_mapIdx_iff.2
     intro i hi
     have := OB (b := b) (n := gs.length) (by omega) (i : Nat)
     omega
    rw [e3]
    exact ih
  ·rw [if_neg hfull] at hr
   refine Ev.step (f := fun k => lC k 0 (List.mapIdx (fun i (p : Int × Int) => (p.1, p.2 + if (i : Int) < b then 1 else 0)) (gs.map fun g => (g, t)))) (fun k => ?_) ?_
   ·simp only [lC]
    rw [if_neg h0, hr]
    simp only
    rw [if_neg (by omega)]
   ·refine Ev.step (fun k => ?_) (Ev.now _)
    simp only [lC]
    rw [if_pos trivial]
    congr 2
    apply List.ext_getElem
    ·simp
    ·intro i h1 h2
     simp only [List.getElem_map, List.getElem_mapIdx]
     rw [Ee hb (by omega)]
theorem XC (b : Int) (gs : List Int) (hb : 0 ≤ b) (hne : gs ≠ []) : Ev (fun k => lC k b (gs.map fun g => (g, 0))) (moreL b gs.length, true) := by
 have h := aeV b.toNat b 0 gs rfl hb hne
 have e : gs.mapIdx (fun i _ => 0 + kU b gs.length (i : Nat)) = moreL b gs.length := by
  apply List.ext_getElem
  ·simp [moreL]
  ·intro i h1 h2
   simp [moreL]
 rw [e] at h
 exact h
theorem U4 : ∀ (N : Nat) (b : Int) (ps : List (Int × Int)), b.toNat = N → Good ps → qE ps < b → 0 < b → Ev (fun k => lC k (-b) ps) ([], false) := by
 intro N
 induction N using Nat.strongRecOn with
 | _ N IH =>
 intro b ps hN hg hav hb
 have har := vM ps
 have hle : able ps ≤ qE ps := by
  clear IH hN hav hb har
  induction ps with
  | nil => simp [able, qE]
  | cons p ps ih =>
   have h1 := hg.head
   have h2 := ih hg.tail
   simp only [able, qE]
   split <;> omega
 have e := BP (m := 1) (by omega) ps b (by omega)
 rw [Int.one_mul] at e
 by_cases h0 : able ps = 0
 ·refine Ev.step (fun k => ?_) (Ev.now _)
  simp only [lC]
  rw [if_neg (by omega), OW ps b (by omega), e]
  simp only
  rw [if_pos (by omega)]
 ·refine Af hb (by rw [e]; simp only; omega) ?_
  rw [e]
  simp only
  exact IH (b - able ps).toNat (by omega) (b - able ps) (mX 1 ps) rfl (JL (by omega) hg fun p _ hc => by omega) (by rw [Hg]; omega) (by omega)
theorem Il {gs : List Int} (h : ∀ g, g ∈ gs → 0 ≤ g ∧ g ≤ 2147483647) : Good (gs.map fun g => (g, (0 : Int))) := by
 intro p hp
 obtain ⟨g, hg, rfl⟩ := List.mem_map.1 hp
 have := h g hg
 simp only
 omega
theorem RF (gs : List Int) : Ez (gs.map fun g => (g, (0 : Int))) := by
 intro p hp q hq h
 obtain ⟨g, hg, rfl⟩ := List.mem_map.1 hp
 obtain ⟨g', hg', rfl⟩ := List.mem_map.1 hq
 simp at h
theorem RG (gs : List Int) : outs (gs.map fun g => (g, (0 : Int))) = 0 := by
 induction gs with
 | nil => rfl
 | cons g gs ih => simp only [List.map_cons, outs, ih]; rfl
def BK (b : Int) (gs : List Int) (r : List Int × Bool) : Prop :=
 (r = ([], false) ∧ (gs = [] ∨ (¬ ∀ g, g ∈ gs → 0 ≤ g ∧ g ≤ 2147483647) ∨ ((∀ g, g ∈ gs → 0 ≤ g ∧ g ≤ 2147483647) ∧ b < -total gs))) ∨
 (r = (moreL b gs.length, true) ∧ gs ≠ [] ∧ (∀ g, g ∈ gs → 0 ≤ g ∧ g ≤ 2147483647) ∧ 0 ≤ b) ∨
 (∃ qs : List (Int × Int), r = (qs.map Prod.snd, true) ∧ (∀ g, g ∈ gs → 0 ≤ g ∧ g ≤ 2147483647) ∧ b < 0 ∧ qs.map Prod.fst = gs ∧ Good qs ∧ Kw qs ∧ outs qs = b ∧ Ev (fun k => lC k b (gs.map fun g => (g, 0))) (qs.map Prod.snd, true))
theorem J7 (b : Int) (gs : List Int) (hl : gs.length ≤ 100000) (h0 : -2147483647 ≤ b) (h1 : b ≤ 2147483647) : ∃ r, BK b gs r ∧ Ev (fun k => aY.f k b gs) r := by
 by_cases hg : ∀ g, g ∈ gs → 0 ≤ g ∧ g ≤ 2147483647
 ·have ht := zH gs fun g h => (hg g h).1
  have look := fun r => OE b r gs [] 0 (by omega) (by omega) (by simpa using hl) hg
  have hcap : uh 0 gs = if total gs > 2147483647 then 2147483647 else total gs := by unfold uh; rw [Int.zero_add]
  have hw : wrap64 (-(uh 0 gs)) = -(uh 0 gs) := by rw [hcap]; apply wp <;> split <;> omega
  simp only [List.nil_append, List.length_nil] at look
  have j1t : Ev (fun k => aY.j1 k b gs true) ([], false) := by
   refine Ev.step (fun k => ?_) (Ev.now _)
   simp only [aY.j1]
   rw [if_pos trivial]
  by_cases hne : gs = []
  ·refine ⟨_, .inl ⟨rfl, .inl hne⟩, ?_⟩
   refine look _ ?_
   refine Ev.jW (by simp [hne]) j1t
  ·have hpos : 0 < gs.length := List.length_pos_iff.2 hne
   by_cases hb : b < -total gs
   ·refine ⟨_, .inl ⟨rfl, .inr (.inr ⟨hg, hb⟩)⟩, look _ (Ev.jq (by omega) (Ev.jW ?_ j1t))⟩
    rw [hw, hcap]
    split <;> omega
   ·have hdec : decide (b > 2147483647) = false := by simp; omega
    have go : ∀ r, Ev (fun k => aY.j1 k b gs false) r → Ev (fun k => aY.f k b gs) r := fun r h => by
     refine look _ (Ev.jq (by omega) (Ev.jq ?_ ?_))
     ·rw [hw, hcap]; split <;> omega
     ·rw [hdec]; exact h
    by_cases hb0 : 0 ≤ b
    ·refine ⟨_, .inr (.inl ⟨rfl, hne, hg, hb0⟩), go _ (Ev.step (fun k => ?_) (Ev.now _))⟩
     simp only [aY.j1]
     rw [if_neg (by simp), if_pos (by omega)]
     unfold pg.f
     rw [if_pos ⟨hb0, by omega, by omega, by omega⟩]
     simp
    ·obtain ⟨qs, q1, q2, q3, q4, q5, q6⟩ := UF (-b).toNat (-b) (gs.map fun g => (g, 0)) rfl (by omega) (by omega) (Il hg) (RF gs) (by simpa using hl) (by rw [Fv]; omega)
     have e1 : (gs.map fun g => (g, (0 : Int))).map Prod.fst = gs := by simp [List.map_map, Function.comp_def]
     have e2 : (gs.map fun g => (g, (0 : Int))).map Prod.snd = List.replicate gs.length 0 := by simp [List.map_map, Function.comp_def, List.map_const']
     rw [e1] at q1 q3
     rw [e2] at q1
     rw [RG] at q6
     rw [Int.neg_neg] at q2
     refine ⟨_, .inr (.inr ⟨qs, rfl, hg, by omega, q3, q4, q5, by omega, q2⟩), go _ (Ev.step (f := fun k => (aU.f k (-b) gs).bind fun t => some (t, true)) (fun k => ?_) (Ev.bind (a := qs.map Prod.snd) ?_ (Ev.now _)))⟩
     ·simp only [aY.j1]
      rw [if_neg (by simp), if_neg (by omega), wp (by omega) (by omega)]
     ·refine Ev.congr (fun k => ?_) q1
      unfold aU.f
      rw [if_pos (by omega), if_pos (by omega)]
      simp
 ·refine ⟨_, .inl ⟨rfl, .inr (.inl hg)⟩, ?_⟩
  have := Rl b gs [] 0 (by omega) (by omega) (by simpa using hl) hg
  simp only [List.nil_append, List.length_nil] at this
  exact this
section
variable {Pr : Program} {ops : Array Oper} {rest : List Oper} {op : Oper} {a : Act} {Q : Exit → Act → World → Prop} {w W : World} {P : Nat → Prop} {bs : List (Option Nat × Obj)} {ow : List (Value × List ai)} {ts : List (Value × List ai)} {ro : List (Addr × Value)}
theorem aj (N : Tmp) (_ : op.dst = some N) (h : wpList Pr ops Q (op :: rest) a W) : wpList Pr ops Q (op :: rest) a W := h
theorem dB (t : TypeId) (p x : Operand) (_ : op.op = .store t p x) (h : wpList Pr ops Q (op :: rest) a W) : wpList Pr ops Q (op :: rest) a W := h
theorem boxS (N : Tmp) (cs : Array Value) (t : TypeId) (S : ae (St w P bs ow ts ro W))
  (h : ∀ g w1, ae (St w P ((some g, .cells cs t (0, 0)) :: bs) ow ts ro w1) → wpList Pr ops Q rest (a.put op.dst (.pointer (some ⟨g, 0, none⟩))) w1) (hd : op.dst = some N := by rfl) (hgd : op.guard = none := by rfl)
  (hr : (execOp a.eval op).run Pr W = .ok (.value (.pointer (some ⟨W.heap.size, 0, none⟩))) (W.alloc (.cells cs t (0, 0))) := by first | (go_simp; done) | (go_simp; rfl)) : wpList Pr ops Q (op :: rest) a W :=
 acQ hd hgd cs t S.out hr (fun g w1 S1 => h g w1 ⟨S1⟩)
theorem Q5 (i : Nat) {g : Nat} {cs : Array Value} {t0 : TypeId} (hi : bs[i]? = some (some g, .cells cs t0 (0, 0))) (t : TypeId) (p x : Tmp) (cs' : Array Value) (j n : Nat) (S : ae (St w P bs ow ts ro W)) (h : ∀ w1, ae (St w P (bs.set i (some g, .cells cs' t0 (0, 0))) ow ts ro w1) → wpList Pr ops Q rest a w1)
  (ho : op.op = .store t (.tmp p) (.tmp x)) (kW : a.eval (.tmp p) = .pointer (some ⟨g, j, none⟩)) (hu : (a.eval (.tmp x)).cells.toList = (cs'.toList.drop j).take n) (ht : (Pr.info? t).map (·.size) = some n)
  (hn : ((cs'.toList.drop j).take n).length = n) (h1 : ((cs'.toList.drop j).take n).all Value.oneCell' = true) (hj : j + n ≤ cs.size) (he : cs.toList.take j ++ (cs'.toList.drop j).take n ++ cs.toList.drop (j + n) = cs'.toList) (hN : op.dst = none) (hgd : op.guard = none) : wpList Pr ops Q (op :: rest) a W :=
 aeO i hi t (.tmp p) (.tmp x) ho cs' S.out kW rfl hu (by rw [hn]; exact ht) (fun q hq => List.all_eq_true.1 h1 q hq) (by rw [hn]; exact hj) (by rw [hn]; exact he) hN hgd (fun w1 S1 => h w1 ⟨S1⟩)
variable {g : Nat} {cs : Array Value} {t0 : TypeId} {b0 b1 b2 b3 b4 : Option Nat × Obj}
theorem gI (t : TypeId) (p x : Tmp) (cs' : Array Value) (j n : Nat) (S : ae (St w P ((some g, .cells cs t0 (0, 0)) :: bs) ow ts ro W)) (h : ∀ w1, ae (St w P ((some g, .cells cs' t0 (0, 0)) :: bs) ow ts ro w1) → wpList Pr ops Q rest a w1)
  (ho : op.op = .store t (.tmp p) (.tmp x) := by rfl) (kW : a.eval (.tmp p) = .pointer (some ⟨g, j, none⟩) := by rfl) (hu : (a.eval (.tmp x)).cells.toList = (cs'.toList.drop j).take n := by rfl) (ht : (Pr.info? t).map (·.size) = some n := by kernel_rfl)
  (hn : ((cs'.toList.drop j).take n).length = n := by rfl) (h1 : ((cs'.toList.drop j).take n).all Value.oneCell' = true := by rfl) (hj : j + n ≤ cs.size := by first | decide | simp) (he : cs.toList.take j ++ (cs'.toList.drop j).take n ++ cs.toList.drop (j + n) = cs'.toList := by rfl) (hN : op.dst = none := by rfl) (hgd : op.guard = none := by rfl) : wpList Pr ops Q (op :: rest) a W :=
 Q5 0 rfl t p x cs' j n S h ho kW hu ht hn h1 hj he hN hgd
theorem oh (t : TypeId) (p x : Tmp) (cs' : Array Value) (j n : Nat) (S : ae (St w P (b0 :: (some g, .cells cs t0 (0, 0)) :: bs) ow ts ro W)) (h : ∀ w1, ae (St w P (b0 :: (some g, .cells cs' t0 (0, 0)) :: bs) ow ts ro w1) → wpList Pr ops Q rest a w1)
  (ho : op.op = .store t (.tmp p) (.tmp x) := by rfl) (kW : a.eval (.tmp p) = .pointer (some ⟨g, j, none⟩) := by rfl) (hu : (a.eval (.tmp x)).cells.toList = (cs'.toList.drop j).take n := by rfl) (ht : (Pr.info? t).map (·.size) = some n := by kernel_rfl)
  (hn : ((cs'.toList.drop j).take n).length = n := by rfl) (h1 : ((cs'.toList.drop j).take n).all Value.oneCell' = true := by rfl) (hj : j + n ≤ cs.size := by first | decide | simp) (he : cs.toList.take j ++ (cs'.toList.drop j).take n ++ cs.toList.drop (j + n) = cs'.toList := by rfl) (hN : op.dst = none := by rfl) (hgd : op.guard = none := by rfl) : wpList Pr ops Q (op :: rest) a W :=
 Q5 1 rfl t p x cs' j n S h ho kW hu ht hn h1 hj he hN hgd
theorem Oa (t : TypeId) (p x : Tmp) (cs' : Array Value) (j n : Nat) (S : ae (St w P (b0 :: b1 :: (some g, .cells cs t0 (0, 0)) :: bs) ow ts ro W)) (h : ∀ w1, ae (St w P (b0 :: b1 :: (some g, .cells cs' t0 (0, 0)) :: bs) ow ts ro w1) → wpList Pr ops Q rest a w1)
  (ho : op.op = .store t (.tmp p) (.tmp x) := by rfl) (kW : a.eval (.tmp p) = .pointer (some ⟨g, j, none⟩) := by rfl) (hu : (a.eval (.tmp x)).cells.toList = (cs'.toList.drop j).take n := by rfl) (ht : (Pr.info? t).map (·.size) = some n := by kernel_rfl)
  (hn : ((cs'.toList.drop j).take n).length = n := by rfl) (h1 : ((cs'.toList.drop j).take n).all Value.oneCell' = true := by rfl) (hj : j + n ≤ cs.size := by first | decide | simp) (he : cs.toList.take j ++ (cs'.toList.drop j).take n ++ cs.toList.drop (j + n) = cs'.toList := by rfl) (hN : op.dst = none := by rfl) (hgd : op.guard = none := by rfl) : wpList Pr ops Q (op :: rest) a W :=
 Q5 2 rfl t p x cs' j n S h ho kW hu ht hn h1 hj he hN hgd
theorem Xv (t : TypeId) (p x : Tmp) (cs' : Array Value) (j n : Nat) (S : ae (St w P (b0 :: b1 :: b2 :: (some g, .cells cs t0 (0, 0)) :: bs) ow ts ro W)) (h : ∀ w1, ae (St w P (b0 :: b1 :: b2 :: (some g, .cells cs' t0 (0, 0)) :: bs) ow ts ro w1) → wpList Pr ops Q rest a w1)
  (ho : op.op = .store t (.tmp p) (.tmp x) := by rfl) (kW : a.eval (.tmp p) = .pointer (some ⟨g, j, none⟩) := by rfl) (hu : (a.eval (.tmp x)).cells.toList = (cs'.toList.drop j).take n := by rfl) (ht : (Pr.info? t).map (·.size) = some n := by kernel_rfl)
  (hn : ((cs'.toList.drop j).take n).length = n := by rfl) (h1 : ((cs'.toList.drop j).take n).all Value.oneCell' = true := by rfl) (hj : j + n ≤ cs.size := by first | decide | simp) (he : cs.toList.take j ++ (cs'.toList.drop j).take n ++ cs.toList.drop (j + n) = cs'.toList := by rfl) (hN : op.dst = none := by rfl) (hgd : op.guard = none := by rfl) : wpList Pr ops Q (op :: rest) a W :=
 Q5 3 rfl t p x cs' j n S h ho kW hu ht hn h1 hj he hN hgd
theorem kR (N : Option Tmp) {f : FuncId} {fn : Func} (hf : Pr.funcs[f]? = some fn) {ar : Array Operand} {Et : Array TypeId} {args : Array Value} {post : Ending → World → Prop} (hc : Calls Pr f args W post)
  (h : ∀ e w1, post e w1 → ∃ v, e = .returned v ∧ wpList Pr ops Q rest (a.put N v) w1) (hd : op.dst = N := by rfl) (hg : op.guard = none := by rfl) (hop : op.op = .call { callee := .value (.func f), args := ar, argTypes := Et } := by rfl)
  (hname : (fn.name == "runtime.NumGoroutine") = false := by kernel_rfl) (hb : fn.body.isSome = true := by rfl) (hargs : ar.map a.eval = args := by ((try simp only [List.map_toArray, List.map_cons, List.map_nil]); first | done | rfl)) : wpList Pr ops Q (op :: rest) a W :=
 jL N hd hg hf hname hb args hop hargs (hc.mono h)
theorem dF (N : Option Tmp) {f : FuncId} {fn : Func} (hf : Pr.funcs[f]? = some fn) {ar : Array Operand} {Et : Array TypeId} {args : Array Value} {v : Value} (S : ae (St w P bs ow ts ro W)) (hc : Calls Pr f args W fun e w' => e = .returned v ∧ Below W.heap.size W w')
  (h : ∀ w1, ae (St w P bs ow ts ro w1) → wpList Pr ops Q rest (a.put N v) w1) (hd : op.dst = N := by rfl) (hg : op.guard = none := by rfl) (hop : op.op = .call { callee := .value (.func f), args := ar, argTypes := Et } := by rfl)
  (hname : (fn.name == "runtime.NumGoroutine") = false := by kernel_rfl) (hb : fn.body.isSome = true := by rfl) (hargs : ar.map a.eval = args := by ((try simp only [List.map_toArray, List.map_cons, List.map_nil]); first | done | rfl)) : wpList Pr ops Q (op :: rest) a W :=
 jL N hd hg hf hname hb args hop hargs (hc.mono fun e w1 ⟨he, hb⟩ => ⟨v, he, h w1 ⟨S.out.call hb⟩⟩)
theorem sO (N : Option Tmp) {f : FuncId} {fn : Func} (hf : Pr.funcs[f]? = some fn) {ar : Array Operand} {Et : Array TypeId} {args : Array Value} {l : List ai} {F : Option Addr → Nat → Value} (S : ae (St w P bs ow ts ro W))
  (hc : Calls Pr f args W fun e w' => ∃ A c, e = .returned (F A c) ∧ Kd.N k26 26 w' W.heap.size (fun k => Ok w P (keys bs ow) k ∨ W.heap.size ≤ k) (.slice A l.length c) l ∧ Below W.heap.size W w')
  (h : ∀ A c w1, ae (St w P bs ow ((.slice A l.length c, l) :: ts) ro w1) → wpList Pr ops Q rest (a.put N (F A c)) w1) (hd : op.dst = N := by rfl) (hg : op.guard = none := by rfl) (hop : op.op = .call { callee := .value (.func f), args := ar, argTypes := Et } := by rfl)
  (hname : (fn.name == "runtime.NumGoroutine") = false := by kernel_rfl) (hb : fn.body.isSome = true := by rfl) (hargs : ar.map a.eval = args := by ((try simp only [List.map_toArray, List.map_cons, List.map_nil]); first | done | rfl)) : wpList Pr ops Q (op :: rest) a W :=
 jL N hd hg hf hname hb args hop hargs (hc.mono fun e w1 ⟨A, c, he, h1, hb⟩ => ⟨_, he, h A c w1 ⟨S.out.res (Kd.rM (base' := 0) h1) hb⟩⟩)
theorem af_ (N : Option Tmp) {f : FuncId} {fn : Func} (hf : Pr.funcs[f]? = some fn) {ar : Array Operand} {Et : Array TypeId} {args : Array Value} {l : List ai} {F : Option Addr → Nat → Value} (S : ae (St w P bs ow ts ro W))
  (hc : Calls Pr f args W fun e w' => ∃ A c, e = .returned (F A c) ∧ Kd.V k26 26 w' W.heap.size (fun k => Ok w P (keys bs ow) k ∨ W.heap.size ≤ k) (.slice A l.length c) l ∧ Below W.heap.size W w')
  (h : ∀ A c w1, ae (St w P bs ow ((.slice A l.length c, l) :: ts) ro w1) → wpList Pr ops Q rest (a.put N (F A c)) w1) (hd : op.dst = N := by rfl) (hg : op.guard = none := by rfl) (hop : op.op = .call { callee := .value (.func f), args := ar, argTypes := Et } := by rfl)
  (hname : (fn.name == "runtime.NumGoroutine") = false := by kernel_rfl) (hb : fn.body.isSome = true := by rfl) (hargs : ar.map a.eval = args := by ((try simp only [List.map_toArray, List.map_cons, List.map_nil]); first | done | rfl)) : wpList Pr ops Q (op :: rest) a W :=
 jL N hd hg hf hname hb args hop hargs (hc.mono fun e w1 ⟨A, c, he, h1, hb⟩ => ⟨_, he, h A c w1 ⟨S.out.res h1 hb⟩⟩)
theorem KF (N : Option Tmp) {f : FuncId} {fn : Func} (hf : Pr.funcs[f]? = some fn) {ar : Array Operand} {Et : Array TypeId} {args : Array Value} {l : List ai} {F : Option Addr → Nat → Value} (S : ae (St w P bs [] ts ro W))
  (hc : Calls Pr f args W fun e w' => ∃ A c, e = .returned (F A c) ∧ Kd.N k26 26 w' W.heap.size (fun k => Ok w P (keys bs []) k ∨ W.heap.size ≤ k) (.slice A l.length c) l ∧ Below W.heap.size W w')
  (h : ∀ A c w1, ae (St w P bs [(.slice A l.length c, l)] ts ro w1) → wpList Pr ops Q rest (a.put N (F A c)) w1) (hd : op.dst = N := by rfl) (hg : op.guard = none := by rfl) (hop : op.op = .call { callee := .value (.func f), args := ar, argTypes := Et } := by rfl)
  (hname : (fn.name == "runtime.NumGoroutine") = false := by kernel_rfl) (hb : fn.body.isSome = true := by rfl) (hargs : ar.map a.eval = args := by ((try simp only [List.map_toArray, List.map_cons, List.map_nil]); first | done | rfl)) : wpList Pr ops Q (op :: rest) a W :=
 jL N hd hg hf hname hb args hop hargs (hc.mono fun e w1 ⟨A, c, he, h1, hb⟩ => ⟨_, he, h A c w1 ⟨S.out.Df h1 hb⟩⟩)
end
section
variable {w W : World} {P : Nat → Prop} {bs : List (Option Nat × Obj)} {ow : List (Value × List ai)} {ts : List (Value × List ai)} {ro : List (Addr × Value)} {g : Nat} {t : TypeId} {v0 v1 v2 v3 v4 v5 v6 : Value} {a0 a1 a2 a3 a4 a5 a6 : Addr}
theorem St.eY (S : ae (St w P bs ow ts ro W)) (hm : (some g, .cells #[v0, v1, v2, v3, v4, v5, v6] t (0, 0)) ∈ bs) :
  W.cell? ⟨g, 0, none⟩ = some v0 ∧ W.cell? ⟨g, 1, none⟩ = some v1 ∧ W.cell? ⟨g, 2, none⟩ = some v2 ∧ W.cell? ⟨g, 3, none⟩ = some v3 ∧ W.cell? ⟨g, 4, none⟩ = some v4 ∧ W.cell? ⟨g, 5, none⟩ = some v5 ∧ W.cell? ⟨g, 6, none⟩ = some v6 :=
 ⟨S.out.at hm 0, S.out.at hm 1, S.out.at hm 2, S.out.at hm 3, S.out.at hm 4, S.out.at hm 5, S.out.at hm 6⟩
theorem St.at4 (S : ae (St w P bs ow ts ro W)) (hm : (some g, .cells #[v0, v1, v2, v3] t (0, 0)) ∈ bs) :
  W.cell? ⟨g, 0, none⟩ = some v0 ∧ W.cell? ⟨g, 1, none⟩ = some v1 ∧ W.cell? ⟨g, 2, none⟩ = some v2 ∧ W.cell? ⟨g, 3, none⟩ = some v3 :=
 ⟨S.out.at hm 0, S.out.at hm 1, S.out.at hm 2, S.out.at hm 3⟩
theorem St.yD (S : ae (St w P bs ow ts ((a0, v0) :: (a1, v1) :: (a2, v2) :: (a3, v3) :: (a4, v4) :: (a5, v5) :: (a6, v6) :: ro) W)) :
  W.cell? a0 = some v0 ∧ W.cell? a1 = some v1 ∧ W.cell? a2 = some v2 ∧ W.cell? a3 = some v3 ∧ W.cell? a4 = some v4 ∧ W.cell? a5 = some v5 ∧ W.cell? a6 = some v6 :=
 ⟨(S.out.cell _ (.head _)).1, (S.out.cell _ (.tail _ (.head _))).1, (S.out.cell _ (.tail _ (.tail _ (.head _)))).1, (S.out.cell _ (.tail _ (.tail _ (.tail _ (.head _))))).1, (S.out.cell _ (.tail _ (.tail _ (.tail _ (.tail _ (.head _)))))).1, (S.out.cell _ (.tail _ (.tail _ (.tail _ (.tail _ (.tail _ (.head _))))))).1, (S.out.cell _ (.tail _ (.tail _ (.tail _ (.tail _ (.tail _ (.tail _ (.head _)))))))).1⟩
end
section
variable {Pr : Program} {md : Region.Mode} {ops : Array Oper} {Q : Exit → Act → World → Prop} {S : World → Prop} {ds : List Nat}
theorem dR (N : Tmp) {fuel : Nat} {l : Array Bool} {b a' : Act} {v : Value} {w : World} (h : dD Pr md ops Q S ds fuel l a' w) (ha : Act.put b (some N) v = a' := by simp only [Act.put, List.setIfInBounds_toArray, List.set_cons_zero, List.set_cons_succ, kT, kS]; rfl) : dD Pr md ops Q S ds fuel l (Act.put b (some N) v) w := mr ha h
end
section
variable {α : Type} {d : Kd α} {e : TypeId} {w : World} {P : Nat → Prop} {bs bs' : List (Option Nat × Obj)} {ow : List (Value × List ai)} {ts : List (Value × List ai)} {ro : List (Addr × Value)} {W W1 : World} {b0 : Nat} {o o1 : Obj} {v v1 : Value} {xs : List α} {ok : Nat → Prop}
def KR (d : Kd α) (e : TypeId) (base : Nat) (v : Value) (xs : List α) (o : Obj) : Prop := ∀ W : World, (∀ g, v.ownBlock = some g → W.heap[g]? = some o) → d.R e W base (fun k => some k = v.ownBlock) v xs
theorem KC {b' : Nat} (hE : d.E = []) (h : d.R e W1 b0 ok v xs) (hb : b' ≤ b0) : ∃ o, (∀ g, v.ownBlock = some g → W1.heap[g]? = some o) ∧ KR d e b' v xs o := by
 have ht := Kd.iZ (Kd.EG hE h) hb
 cases hv : v.ownBlock with
 | none => exact ⟨.cells #[] 0 (0, 0), fun g hg => (by cases hg), fun W hW => Kd.yX ht (fun k hk => (by rw [hv] at hk; cases hk))⟩
 | some g =>
  obtain ⟨cells, hc⟩ := Kd.Iq h g hv
  refine ⟨_, fun g' hg => (by injection hg with hg; rw [← hg]; exact hc), fun W hW => Kd.yX ht (fun k hk _ => ?_)⟩
  rw [hv] at hk
  injection hk with hk
  rw [hk, hc]
  exact hW g hv
theorem St.Gn (hE : d.E = []) (S : St w P bs ow ts ro W) (h : d.R e W1 W.heap.size ok v xs) (hb : Below W.heap.size W W1) : ∃ o, St w P ((v.ownBlock, o) :: bs) ow ts ro W1 ∧ KR d e w.heap.size v xs o := by
 obtain ⟨o, h1, h2⟩ := KC hE h S.below.size
 exact ⟨o, S.V3 v.ownBlock (fun g hg => ⟨Kd.nN h g hg, h1 g hg⟩) hb, h2⟩
theorem Lh (d : Kd α) (e : TypeId) (base : Nat) : KR d e base (.slice none 0 0) [] (.cells #[] 0 (0, 0)) := fun _ _ => Kd.pJ _ _ _ _ _
theorem St.noK (S : St w P bs ow ts ro W) : St w P (((Value.slice none 0 0).ownBlock, .cells #[] 0 (0, 0)) :: bs) ow ts ro W := S.V3 none (fun _ h => by cases h) (Below.refl _ _)
theorem Le {base : Nat} (HI : KR d e base v xs o) (S : St w P bs ow ts ro W) (hm : (v.ownBlock, o) ∈ bs) : d.R e W base (fun k => some k = v.ownBlock) v xs := HI W (S.blk _ hm)
theorem VN {base : Nat} {A : Option Addr} {c : Nat} (HI : KR d e base (.slice A xs.length c) xs o) (S : St w P bs ow ts ro W) (hm : ((Value.slice A xs.length c).ownBlock, o) ∈ bs) : d.C W A xs.length xs ∧ xs.length ≤ c :=
 have h := Kd.dn (Le HI S hm)
 ⟨h.2.2, h.2.1⟩
theorem St.perm (hp : bs.Perm bs') (S : St w P bs ow ts ro W) : St w P bs' ow ts ro W := by
 have hk : (keys bs ow).Perm (keys bs' ow) := (hp.filterMap _).append_right _
 have hm : ∀ k, k ∈ keys bs' ow ↔ k ∈ keys bs ow := fun k => hk.symm.mem_iff
 have hO : ∀ k, Ok w P (keys bs ow) k → Ok w P (keys bs' ow) k := fun k h => ⟨h.1, fun h2 => h.2 ((hm k).1 h2)⟩
 exact ⟨S.below, fun x hx => S.blk x (hp.symm.mem_iff.1 hx), fun k hk => S.new k ((hm k).1 hk), hk.nodup_iff.1 S.nd, fun t ht => Kd.ik (S.tree t ht) hO, fun r hr => Kd.jg (S.own r hr) (fun k h => h.imp (hO k) id), fun c hc => ⟨(S.cell c hc).1, fun h => (S.cell c hc).2 ((hm _).1 h)⟩⟩
variable {x b1 b2 b3 b4 b5 b6 : Option Nat × Obj}
theorem St.uX (S : St w P (b1 :: x :: bs) ow ts ro W) : St w P (x :: b1 :: bs) ow ts ro W := S.perm (List.perm_middle (l₁ := [b1]))
theorem St.JO (S : St w P (b1 :: b2 :: x :: bs) ow ts ro W) : St w P (x :: b1 :: b2 :: bs) ow ts ro W := S.perm (List.perm_middle (l₁ := [b1, b2]))
theorem St.rC (S : St w P (b1 :: b2 :: b3 :: x :: bs) ow ts ro W) : St w P (x :: b1 :: b2 :: b3 :: bs) ow ts ro W := S.perm (List.perm_middle (l₁ := [b1, b2, b3]))
end
section
variable {α : Type} {d : Kd α} {e : TypeId} {Pr : Program} {ops : Array Oper} {rest : List Oper} {op : Oper} {a : Act} {Q : Exit → Act → World → Prop} {Kc : Act → World → Prop} {w W : World} {P : Nat → Prop} {bs : List (Option Nat × Obj)} {ow : List (Value × List ai)} {ts : List (Value × List ai)} {ro : List (Addr × Value)} {v : Value} {xs : List α} {o : Obj}
theorem lY (d : Kd α) (e : TypeId) (hE : d.E = []) (N : Tmp) (S : ae (St w P bs ow ts ro W)) (h : ∀ A c o w1, ae (St w P (((Value.slice A 0 c).ownBlock, o) :: bs) ow ts ro w1) → ae (KR d e w.heap.size (.slice A 0 c) [] o) → wpList Pr ops Q rest (a.put op.dst (.slice A 0 c)) w1)
  (hd : op.dst = some N := by rfl) (hgd : op.guard = none := by rfl) (hrun : (execOp a.eval op).run Pr W = .ok (.value (.slice (some ⟨W.heap.size, 0, none⟩) 0 0)) (W.alloc (.cells #[] e)) := by first | (go_simp; done) | (go_simp; rfl)) : wpList Pr ops Q (op :: rest) a W :=
 Kd.pI d (w0 := W) W.heap.size e hgd hd (xs := ([] : List α)) (inner := []) (ok := fun _ => True) (gm := fun _ => True) hrun (bT.none _ _) (fun _ hk => hk) trivial (Below.refl _ _) (Nat.le_refl _) (by simp) (fun v1 w1 hR hb hg _ => by
  obtain ⟨A, c, rfl⟩ := Kd.fQ hR
  obtain ⟨o, S1, HI⟩ := S.out.Gn hE hR (rY hg)
  exact h A c o w1 ⟨S1⟩ ⟨HI⟩)
theorem uV (d : Kd α) (e : TypeId) (hE : d.E = []) (s x : Tmp) (t : TypeId) (z : Value) (bytes : Nat) (ht : Pr.underlying t = some (.slice e)) (hinfo : (Pr.info? e).map (fun i => (i.zero, i.size, i.bytes)) = some (some z, d.sz, bytes)) (hz : z.cells.size = d.sz) (hs0 : 0 < d.sz) (hb0 : 0 < bytes) (hbb : bytes ≤ 1000)
  (S : ae (St w P ((v.ownBlock, o) :: bs) ow ts ro W)) (hI : ae (KR d e w.heap.size v xs o)) (y : α) (cs : List Value) (hM : ∀ W b ok, d.M W b ok y cs) (hl : xs.length ≤ 10000000)
  (h : ∀ A1 c1 o1 w1, ae (St w P (((Value.slice A1 (xs ++ [y]).length c1).ownBlock, o1) :: bs) ow ts ro w1) → ae (KR d e w.heap.size (.slice A1 (xs ++ [y]).length c1) (xs ++ [y]) o1) → wpList Pr ops Q rest (a.put op.dst (.slice A1 (xs ++ [y]).length c1)) w1)
  (hgd : op.guard = none := by rfl) (ho : op.op = .call { callee := .builtin .append, args := #[.tmp s, .tmp x], argTypes := #[t, t] } := by rfl) (hs : a.eval (.tmp s) = v := by rfl) (hx : a.eval (.tmp x) = .slice (some ⟨W.heap.size, 0, none⟩) 1 1 := by first | rfl | (go_simp; rfl)) :
  wpList Pr ops Q (op :: rest) a (W.alloc (.cells cs.toArray e)) := by
 have hR := hI.out W (S.out.blk _ List.mem_cons_self)
 refine Kd.yV d (w0 := w) w.heap.size hgd (.tmp s) (.tmp x) t e z bytes ho ht hinfo hz hs0 hb0 v xs y cs (fun _ => True) (fun _ => False) hs hx (hM _ _ _) (fun _ hk => hk.elim) (fun _ _ => trivial) (Kd.pX hR (fun _ _ => trivial)) S.out.below S.out.below.size
  (Nat.le_trans (Nat.mul_le_mul (show xs.length + 1 ≤ 10000001 by omega) hbb) (by decide)) ?_
 intro v1 w1 hr hb hg hat
 obtain ⟨A1, c1, rfl⟩ := Kd.fQ hr
 obtain ⟨o1, h1, h2⟩ := KC hE hr (Nat.le_refl _)
 exact h A1 c1 o1 w1 ⟨S.out.BB hb hg hat h1⟩ ⟨h2⟩
theorem L8 (d : Kd α) (e : TypeId) (hE : d.E = []) (s x : Tmp) (t : TypeId) (z : Value) (bytes : Nat) (ht : Pr.underlying t = some (.slice e)) (hinfo : (Pr.info? e).map (fun i => (i.zero, i.size, i.bytes)) = some (some z, d.sz, bytes)) (hz : z.cells.size = d.sz) (hs0 : 0 < d.sz) (hb0 : 0 < bytes) (hbb : bytes ≤ 1000)
  (S : ae (St w P ((v.ownBlock, o) :: bs) ow ts ro W)) (hI : ae (KR d e w.heap.size v xs o)) (y : α) (cs : List Value) (hM : ∀ W b ok, d.M W b ok y cs) (hl : xs.length ≤ 10000000)
  (h : ∀ A1 c1 o1 w1, ae (St w P (((Value.slice A1 (xs ++ [y]).length c1).ownBlock, o1) :: bs) ow ts ro w1) → ae (KR d e w.heap.size (.slice A1 (xs ++ [y]).length c1) (xs ++ [y]) o1) → Kc (a.put op.dst (.slice A1 (xs ++ [y]).length c1)) w1)
  (hw : Region.wanted op (yielded ops a.tmps) = true := by rfl) (ho : op.op = .call { callee := .builtin .append, args := #[.tmp s, .tmp x], argTypes := #[t, t] } := by rfl) (hs : a.eval (.tmp s) = v := by rfl) (hx : a.eval (.tmp x) = .slice (some ⟨W.heap.size, 0, none⟩) 1 1 := by first | rfl | (go_simp; rfl)) :
  if Region.wanted op (yielded ops a.tmps) = true then Oper.wp Pr op a (W.alloc (.cells cs.toArray e)) Kc Q else Kc (a.put op.dst undef) (W.alloc (.cells cs.toArray e)) := by
 have hR := hI.out W (S.out.blk _ List.mem_cons_self)
 refine Kd.Dq d (w0 := w) w.heap.size hw (.tmp s) (.tmp x) t e z bytes ho ht hinfo hz hs0 hb0 v xs y cs (fun _ => True) (fun _ => False) hs hx (hM _ _ _) (fun _ hk => hk.elim) (fun _ _ => trivial) (Kd.pX hR (fun _ _ => trivial)) S.out.below S.out.below.size
  (Nat.le_trans (Nat.mul_le_mul (show xs.length + 1 ≤ 10000001 by omega) hbb) (by decide)) ?_
 intro v1 w1 hr hb hg hat
 obtain ⟨A1, c1, rfl⟩ := Kd.fQ hr
 obtain ⟨o1, h1, h2⟩ := KC hE hr (Nat.le_refl _)
 exact h A1 c1 o1 w1 ⟨S.out.BB hb hg hat h1⟩ ⟨h2⟩
theorem L9 (d : Kd α) (e : TypeId) (hE : d.E = []) (s x : Tmp) (t : TypeId) (z : Value) (bytes : Nat) (ht : Pr.underlying t = some (.slice e)) (hinfo : (Pr.info? e).map (fun i => (i.zero, i.size, i.bytes)) = some (some z, d.sz, bytes)) (hz : z.cells.size = d.sz) (hs0 : 0 < d.sz) (hb0 : 0 < bytes) (hbb : bytes ≤ 1000)
  (S : ae (St w P ((v.ownBlock, o) :: bs) ow ts ro W)) (hI : ae (KR d e w.heap.size v xs o)) {A : Option Addr} {c : Nat} (ys : List α) (hC : d.C W A ys.length ys) (hK : ∀ W b ok y cs, d.K W y cs → d.M W b ok y cs) (hl : xs.length + ys.length ≤ 1000000000)
  (h : ∀ A1 c1 o1 w1, ae (St w P (((Value.slice A1 (xs ++ ys).length c1).ownBlock, o1) :: bs) ow ts ro w1) → ae (KR d e w.heap.size (.slice A1 (xs ++ ys).length c1) (xs ++ ys) o1) → wpList Pr ops Q rest (a.put op.dst (.slice A1 (xs ++ ys).length c1)) w1)
  (hgd : op.guard = none := by rfl) (ho : op.op = .call { callee := .builtin .append, args := #[.tmp s, .tmp x], argTypes := #[t, t] } := by rfl) (hs : a.eval (.tmp s) = v := by rfl) (hx : a.eval (.tmp x) = .slice A ys.length c := by rfl) :
  wpList Pr ops Q (op :: rest) a W := by
 have hR := hI.out W (S.out.blk _ List.mem_cons_self)
 refine Kd.yl d (Rr := d.K W) (w0 := w) w.heap.size hgd (.tmp s) (.tmp x) t e z bytes ho ht hinfo hz hs0 hb0 v xs ys A ys.length c (fun _ => True) (fun _ => False) hs hx (Kd.pX hR (fun _ _ => trivial)) hC (fun y cs h => hK _ _ _ y cs h) (fun _ hk => hk.elim) (fun _ _ => trivial) S.out.below S.out.below.size
  (Nat.le_trans (Nat.mul_le_mul hl hbb) (by decide)) ?_
 intro v1 w1 hr hb hg hat
 obtain ⟨A1, c1, rfl⟩ := Kd.fQ hr
 obtain ⟨o1, h1, h2⟩ := KC hE hr (Nat.le_refl _)
 exact h A1 c1 o1 w1 ⟨S.out.BB hb hg hat h1⟩ ⟨h2⟩
end
section
variable {w W W1 : World} {P : Nat → Prop} {bs : List (Option Nat × Obj)} {ow : List (Value × List ai)} {ts : List (Value × List ai)} {ro : List (Addr × Value)}
theorem St.afU (new : List (Option Nat × Obj)) (S : St w P bs ow ts ro W) (hk : ∀ p, p ∈ new → ∀ g, p.1 = some g → W.heap.size ≤ g ∧ W1.heap[g]? = some p.2) (hnd : (new.filterMap (·.1)).Nodup) (hb : Below W.heap.size W W1) : St w P (new ++ bs) ow ts ro W1 := by
 have ke : keys (new ++ bs) ow = new.filterMap (·.1) ++ keys bs ow := by unfold keys; rw [List.filterMap_append, List.append_assoc]
 have hn : ∀ k, k ∈ new.filterMap (·.1) → W.heap.size ≤ k ∧ k < W1.heap.size := fun k h => by
  obtain ⟨p, hp, he⟩ := List.mem_filterMap.1 h
  exact ⟨(hk p hp k he).1, gu (hk p hp k he).2⟩
 have hnot : ∀ k, k < W.heap.size → k ∉ keys bs ow → k ∉ keys (new ++ bs) ow := fun k h1 h2 h3 => by
  rw [ke] at h3
  rcases List.mem_append.1 h3 with h | h
  ·have := (hn k h).1; omega
  ·exact h2 h
 refine ⟨az S.below hb, fun p hp g hg => ?_, fun k h => ?_, ?_, fun t ht => ?_, fun r hr => ?_, fun c hc => ?_⟩
 ·rcases List.mem_append.1 hp with h | h
  ·exact (hk p h g hg).2
  ·exact aV (S.blk p h g hg) hb
 ·rw [ke] at h
  rcases List.mem_append.1 h with h | h
  ·exact ⟨Nat.le_trans S.below.size (hn k h).1, (hn k h).2⟩
  ·exact ⟨(S.new k h).1, Nat.lt_of_lt_of_le (S.new k h).2 hb.size⟩
 ·rw [ke]
  refine List.nodup_append.2 ⟨hnd, S.nd, fun x hx y hy => ?_⟩
  rintro rfl
  have := (hn x hx).1
  have := S.lt hy
  omega
 ·exact Kd.ik (Kd.jQ (Kd.EH (S.tree t ht)) hb) (fun k h => ⟨h.1.1, hnot k h.2 h.1.2⟩)
 ·exact Kd.jg (Kd.pW (Kd.Bc (S.own r hr)) hb) (fun k h => h.1.imp (fun h1 => ⟨h1.1, hnot k h.2 h1.2⟩) id)
 ·exact ⟨(hb.cell (World.block_lt_of_cell? W _ (S.cell c hc).1)).trans (S.cell c hc).1, hnot _ (World.block_lt_of_cell? W _ (S.cell c hc).1) (S.cell c hc).2⟩
structure Two {α β : Type} (d : Kd α) (e : TypeId) (d' : Kd β) (e' : TypeId) (w w' : World) (v : Value) (l : List α) (v' : Value) (l' : List β) (o o' : Obj) : Prop where
 one : KR d e w.heap.size v l o
 two : KR d' e' w.heap.size v' l' o'
 at1 : ∀ g, v.ownBlock = some g → w.heap.size ≤ g ∧ w'.heap[g]? = some o
 at2 : ∀ g, v'.ownBlock = some g → w.heap.size ≤ g ∧ w'.heap[g]? = some o'
 ne : ∀ g, v.ownBlock = some g → v'.ownBlock ≠ some g
theorem BI {α : Type} {d : Kd α} {e : TypeId} {b b' : Nat} {v : Value} {l : List α} {o : Obj} (h : KR d e b v l o) (hb : b' ≤ b) : KR d e b' v l o := fun W hW => Kd.iZ (h W hW) hb
theorem St.two {α β : Type} {d : Kd α} {e : TypeId} {d' : Kd β} {e' : TypeId} {v v' : Value} {l : List α} {l' : List β} {o o' : Obj} (S : St w P bs ow ts ro W) (h : Two d e d' e' W W1 v l v' l' o o') (hb : Below W.heap.size W W1) :
  St w P ((v.ownBlock, o) :: (v'.ownBlock, o') :: bs) ow ts ro W1 ∧ KR d e w.heap.size v l o ∧ KR d' e' w.heap.size v' l' o' := by
 refine ⟨S.afU [(v.ownBlock, o), (v'.ownBlock, o')] (fun p hp g hg => ?_) ?_ hb, BI h.one S.below.size, BI h.two S.below.size⟩
 ·simp only [List.mem_cons, List.not_mem_nil, or_false] at hp
  rcases hp with rfl | rfl
  ·exact h.at1 g hg
  ·exact h.at2 g hg
 ·cases h1 : v.ownBlock with
  | none => cases h2 : v'.ownBlock <;> simp
  | some g =>
   have hn := h.ne g h1
   cases h2 : v'.ownBlock with
   | none => simp
   | some g' =>
    rw [h2] at hn
    simp
    intro he
    exact hn (by rw [he])
theorem St.UQ {α β : Type} {d : Kd α} {e : TypeId} {d' : Kd β} {e' : TypeId} {v v' : Value} {l : List α} {l' : List β} {o o' : Obj} (S : St w P ((v.ownBlock, o) :: (v'.ownBlock, o') :: bs) ow ts ro W) (h1 : KR d e w.heap.size v l o) (h2 : KR d' e' w.heap.size v' l' o') : Two d e d' e' w W v l v' l' o o' := by
 refine ⟨h1, h2, fun g hg => ⟨(S.new g (mem_keys (List.mem_cons_self) hg)).1, S.blk _ List.mem_cons_self g hg⟩, fun g hg => ⟨(S.new g (mem_keys (List.mem_cons_of_mem _ List.mem_cons_self) hg)).1, S.blk _ (List.mem_cons_of_mem _ List.mem_cons_self) g hg⟩, fun g hg hg2 => ?_⟩
 have hnd := S.nd
 unfold keys at hnd
 rw [List.filterMap_cons, List.filterMap_cons, hg, hg2] at hnd
 exact (List.nodup_cons.1 hnd).1 (by simp)
theorem St.F8 {α : Type} {d : Kd α} {e : TypeId} {v : Value} {l : List α} {o : Obj} (S : St w P bs ow ts ro W) (h : KR d e w.heap.size v l o) (hm : (v.ownBlock, o) ∈ bs) : d.R e W w.heap.size (fun _ => True) v l := Kd.pX (Le h S hm) (fun _ _ => trivial)
end
def tX (ax X Y : Int) : Int := if ax = 2 then Y else X
def CE (ax X Y W H : Int) : Int → List Int → List dW
 | _, [] => []
 | off, n :: ns => (⟨tX ax (tX ax X Y + off) (tX ax Y X), tX ax (tX ax Y X) (tX ax X Y + off), tX ax n (tX ax H W), tX ax (tX ax H W) n⟩ : dW) :: CE ax X Y W H (off + n + 1) ns
theorem Wp (ax X Y W H : Int) : ∀ (ns : List Int) (off : Int), (CE ax X Y W H off ns).length = ns.length := by
 intro ns
 induction ns with
 | nil => intro off; rfl
 | cons n ns ih => intro off; simp [CE, ih]
def nR (ax s t e n : Int) : dW := ⟨tX ax s t, tX ax t s, tX ax n e, tX ax e n⟩
def p_ (ax s t d e : Int) : Int → Bool → List dW → List dW → List Int → List dW × List dW × Bool
 | off, _, ps, ls, [] => if off = d then (ps, ls, true) else ([], [], false)
 | off, fst, ps, ls, n :: ns => if n < 1 ∨ d < (if fst then off else off + 1) + n then ([], [], false) else
  p_ ax s t d e ((if fst then off else off + 1) + n) false (ps ++ [nR ax (s + (if fst then off else off + 1)) t e n]) (if fst then ls else ls ++ [nR ax (s + off) t e 1]) ns
def rW (X Y W H ax : Int) (sizes : List Int) : List dW × List dW × Bool :=
 if (ax = 1 ∨ ax = 2) ∧ rZ X Y W H = true ∧ sizes ≠ [] then p_ ax (tX ax X Y) (tX ax Y X) (tX ax W H) (tX ax H W) 0 true [] [] sizes else ([], [], false)
theorem Wn (ax s t d e : Int) : ∀ (ns : List Int) (off : Int) (f : Bool) (ps ls : List dW), (p_ ax s t d e off f ps ls ns).1.length ≤ ps.length + ns.length ∧ (p_ ax s t d e off f ps ls ns).2.1.length ≤ ls.length + ns.length := by
 intro ns
 induction ns with
 | nil => intro off f ps ls; unfold p_; split <;> simp
 | cons n ns ih =>
  intro off f ps ls
  unfold p_
  have hl : (if f then ls else ls ++ [nR ax (s + off) t e 1]).length ≤ ls.length + 1 := by cases f <;> simp
  generalize (if f then ls else ls ++ [nR ax (s + off) t e 1]) = ls' at hl ⊢
  generalize (if f then off else off + 1) = o
  by_cases hc : n < 1 ∨ d < o + n
  ·rw [if_pos hc]; simp
  ·rw [if_neg hc]
   have h := ih (o + n) false (ps ++ [nR ax (s + o) t e n]) ls'
   rw [List.length_append, List.length_singleton] at h
   rw [List.length_cons]
   omega
theorem Tu (ax X Y W H : Int) : ∀ (ns : List Int) (off : Int) (f : Bool) (ps ls : List dW), (p_ ax (tX ax X Y) (tX ax Y X) (tX ax W H) (tX ax H W) off f ps ls ns).2.2 = true →
  (p_ ax (tX ax X Y) (tX ax Y X) (tX ax W H) (tX ax H W) off f ps ls ns).1 = ps ++ CE ax X Y W H (if f then off else off + 1) ns ∧ off + ns.sum + (ns.length : Int) - (if f ∧ ns ≠ [] then 1 else 0) = tX ax W H ∧ ∀ m, m ∈ ns → 1 ≤ m := by
 intro ns
 induction ns with
 | nil =>
  intro off f ps ls h
  unfold p_ at h ⊢
  split at h
  ·rename_i ho
   rw [if_pos ho]
   exact ⟨by simp [CE], by simp [ho], fun m hm => by cases hm⟩
  ·cases h
 | cons n ns ih =>
  intro off f ps ls h
  unfold p_ at h ⊢
  by_cases hn : n < 1 ∨ tX ax W H < (if f then off else off + 1) + n
  ·rw [if_pos hn] at h; cases h
  ·rw [if_neg hn] at h ⊢
   obtain ⟨h1, h2, h3⟩ := ih _ _ _ _ h
   refine ⟨?_, ?_, fun m hm => ?_⟩
   ·rw [h1, List.append_assoc]
    cases f <;> rfl
   ·rw [List.sum_cons, List.length_cons]
    cases f with
    | false => simp only [Bool.false_eq_true, if_false, false_and] at h2 ⊢; omega
    | true => simp only [Bool.false_eq_true, if_false, if_true, false_and] at h2 ⊢; rw [if_pos (by simp)]; omega
   ·rcases List.mem_cons.1 hm with rfl | hm
    ·omega
    ·exact h3 m hm
theorem Wl (X Y W H ax : Int) (sizes : List Int) : (rW X Y W H ax sizes).1.length ≤ sizes.length ∧ (rW X Y W H ax sizes).2.1.length ≤ sizes.length := by
 unfold rW
 split
 ·have := Wn ax (tX ax X Y) (tX ax Y X) (tX ax W H) (tX ax H W) sizes 0 true [] []
  simpa using this
 ·simp
theorem Tt {X Y W H ax : Int} {sizes : List Int} (h : (rW X Y W H ax sizes).2.2 = true) : (ax = 1 ∨ ax = 2) ∧ (rW X Y W H ax sizes).1 = CE ax X Y W H 0 sizes ∧ sizes.sum + (sizes.length : Int) - 1 = tX ax W H ∧ ∀ m, m ∈ sizes → 1 ≤ m := by
 unfold rW at h ⊢
 split at h
 ·rename_i hc
  rw [if_pos hc]
  obtain ⟨h1, h2, h3⟩ := Tu ax X Y W H sizes 0 true [] [] h
  rw [if_pos ⟨rfl, hc.2.2⟩] at h2
  exact ⟨hc.1, by simpa using h1, by omega, h3⟩
 ·cases h
end Go.Proofs.Ytfdmfgaiblfbhaa.P
namespace Go.Proofs.Ytfdmfgaiblfbhaa.P
open Go.RowKit Go.Proofs.ag.aW Go.Proofs.ag.dA Go.Proofs.ag.dU
attribute [local go_sem] kM kZ lN l7 kz kC kY lg
def pz.f (aA : Int) (aJ : Int) (aH : Int) (aI : Int) (a1 : Int) : Option (Int × Int × Int × Int × Bool) := if a1 = 2 then (some (aJ, aA, aI, aH, true)) else (if a1 = 1 then (some (aA, aJ, aH, aI, true)) else (some (0, 0, 0, 0, false)))
theorem pz.calls (aA : Int) (aJ : Int) (aH : Int) (aI : Int) (a1 : Int) (r1 : Int) (r2 : Int) (r3 : Int) (r4 : Int) (r5 : Bool) (w : World) (h : pz.f aA aJ aH aI a1 = some (r1, r2, r3, r4, r5)) :
  Calls Try.prog 127 #[.agg #[.int .i64 aA, .int .i64 aJ, .int .i64 aH, .int .i64 aI], .int .u8 a1] w fun e w' => e = .returned (.tuple #[.agg #[.int .i64 r1, .int .i64 r2, .int .i64 r3, .int .i64 r4], .bool r5]) ∧ Below w.heap.size w w' := by
 have NP := Try.underlying23
 have HB := ae.mk (Below.refl w.heap.size w)
 have H : (if a1 = 2 then (some (aJ, aA, aI, aH, true)) else (if a1 = 1 then (some (aA, aJ, aH, aI, true)) else (some (0, 0, 0, 0, false)))) = some (r1, r2, r3, r4, r5) := h
 clear h
 by_cases c3 : a1 = 2
 ·rw [if_pos c3] at H
  have pq : (a1 == 2) = true := beq_iff_eq.mpr c3
  have vO : (a1 != 2) = false := bne_eq_false_iff_eq.mpr c3
  clear c3
  simp only [Option.some.injEq, Prod.mk.injEq] at H
  obtain ⟨rfl, rfl, rfl, rfl, rfl⟩ := H
  go_enter Try.func127, Try.ntmps127
  go_wp2_with (first | ((with_reducible refine aC (N := 2) rfl ?_); refine aQ ?hg (N := 2) ?hd (cs := #[.int .i64 aA, .int .i64 aJ, .int .i64 aH, .int .i64 aI]) (t := 23) ?hr ?_; (case hd => rfl); (case hg => rfl); (case hr => (go_simp; done)); intro nz hg w4 hbox hb; have jO := ae.mk (hbox); have Qg := ae.mk ((by rw [hg]; exact (cO (by repeat ((with_reducible exact HB.out)))) : w.heap.size ≤ nz)); replace HB := ae.mk (az (by repeat ((with_reducible exact HB.out))) hb); clear hb hbox hg) | ((with_reducible refine aC (N := 4) rfl ?_); refine aQ ?hg (N := 4) ?hd (cs := #[.int .i64 0, .int .i64 0, .int .i64 0, .int .i64 0]) (t := 23) ?hr ?_; (case hd => rfl); (case hg => rfl); (case hr => (go_simp; done)); intro kQ hg w5 hbox hb; have jS := ae.mk (hbox); have Gy := ae.mk ((by rw [hg]; exact (cO (by repeat ((with_reducible exact HB.out)))) : w.heap.size ≤ kQ)); have xC := ae.mk ((by rw [hg]; exact Nat.ne_of_lt (gu jO.out) : nz ≠ kQ)); have oO := ae.mk ((by rw [hg]; exact Nat.ne_of_gt (gu jO.out) : kQ ≠ nz)); replace jO := ae.mk (aV jO.out hb); replace HB := ae.mk (az (by repeat ((with_reducible exact HB.out))) hb); clear hb hbox hg; have alA := xC.out; have alB := oO.out; have adX : w5.cell? ⟨nz, 0, none⟩ = some (.int .i64 aA) := (af jO.out 0).trans rfl; have adY : w5.cell? ⟨nz, 1, none⟩ = some (.int .i64 aJ) := (af jO.out 1).trans rfl; have adZ : w5.cell? ⟨nz, 2, none⟩ = some (.int .i64 aH) := (af jO.out 2).trans rfl; have ad1 : w5.cell? ⟨nz, 3, none⟩ = some (.int .i64 aI) := (af jO.out 3).trans rfl; have aef := ah jO.out 0; have aeg := ah jO.out 1; have aeh := ah jO.out 2; have aei := ah jO.out 3; have TN : w5.cell? ⟨kQ, 0, none⟩ = some (.int .i64 0) := (af jS.out 0).trans rfl; have TP : w5.cell? ⟨kQ, 1, none⟩ = some (.int .i64 0) := (af jS.out 1).trans rfl; have TQ : w5.cell? ⟨kQ, 2, none⟩ = some (.int .i64 0) := (af jS.out 2).trans rfl; have TR : w5.cell? ⟨kQ, 3, none⟩ = some (.int .i64 0) := (af jS.out 3).trans rfl; have Ug := ah jS.out 0; have Uh := ah jS.out 1; have Ui := ah jS.out 2; have Uj := ah jS.out 3))
  refine bodyPost_ret (bK rfl _ _ kQ 23 #[.int .i64 aJ, .int .i64 aA, .int .i64 aI, .int .i64 aH] (0, 0) _ rfl (by refine jV (cs := #[.int .i64 aJ, .int .i64 aA, .int .i64 aI, .int .i64 aH]) ?_ 3 _ rfl; refine jV (cs := #[.int .i64 aJ, .int .i64 aA, .int .i64 aI, .int .i64 aH]) ?_ 2 _ rfl; refine jV (cs := #[.int .i64 aJ, .int .i64 aA, .int .i64 aI, .int .i64 aH]) ?_ 1 _ rfl; refine jV (cs := #[.int .i64 aJ, .int .i64 aA, .int .i64 aI, .int .i64 aH]) ?_ 0 _ rfl; refine jV (cs := #[.int .i64 aJ, .int .i64 aA, .int .i64 aI, .int .i64 0]) ?_ 3 _ rfl; refine jV (cs := #[.int .i64 aJ, .int .i64 aA, .int .i64 0, .int .i64 0]) ?_ 2 _ rfl; refine jV (cs := #[.int .i64 aJ, .int .i64 0, .int .i64 0, .int .i64 0]) ?_ 1 _ rfl; refine jV (cs := #[.int .i64 0, .int .i64 0, .int .i64 0, .int .i64 0]) ?_ 0 _ rfl; refine EK ?_ oO.out _; refine EK ?_ oO.out _; refine EK ?_ oO.out _; refine EK ?_ oO.out _; exact jS.out) Try.underlying23 rfl (by kernel_rfl)) rfl ?_
  exact ⟨by rfl, by repeat ((with_reducible first | exact HB.out | refine mF ?_ Qg.out | refine mF ?_ Gy.out))⟩
 ·rw [if_neg c3] at H
  have pq : (a1 == 2) = false := beq_eq_false_iff_ne.mpr c3
  have vO : (a1 != 2) = true := bne_iff_ne.mpr c3
  by_cases c9 : a1 = 1
  ·rw [if_pos c9] at H
   have MF : (a1 == 1) = true := beq_iff_eq.mpr c9
   have ahg : (a1 != 1) = false := bne_eq_false_iff_eq.mpr c9
   clear c9
   simp only [Option.some.injEq, Prod.mk.injEq] at H
   obtain ⟨rfl, rfl, rfl, rfl, rfl⟩ := H
   go_enter Try.func127, Try.ntmps127
   go_wp2_with (first | ((with_reducible refine aC (N := 2) rfl ?_); refine aQ ?hg (N := 2) ?hd (cs := #[.int .i64 aA, .int .i64 aJ, .int .i64 aH, .int .i64 aI]) (t := 23) ?hr ?_; (case hd => rfl); (case hg => rfl); (case hr => (go_simp; done)); intro nz hg w10 hbox hb; have jO := ae.mk (hbox); have Qg := ae.mk ((by rw [hg]; exact (cO (by repeat ((with_reducible exact HB.out)))) : w.heap.size ≤ nz)); replace HB := ae.mk (az (by repeat ((with_reducible exact HB.out))) hb); clear hb hbox hg) | ((with_reducible refine aC (N := 4) rfl ?_); refine aQ ?hg (N := 4) ?hd (cs := #[.int .i64 0, .int .i64 0, .int .i64 0, .int .i64 0]) (t := 23) ?hr ?_; (case hd => rfl); (case hg => rfl); (case hr => (go_simp; done)); intro kQ hg Aw hbox hb; have jS := ae.mk (hbox); have Gy := ae.mk ((by rw [hg]; exact (cO (by repeat ((with_reducible exact HB.out)))) : w.heap.size ≤ kQ)); have xC := ae.mk ((by rw [hg]; exact Nat.ne_of_lt (gu jO.out) : nz ≠ kQ)); have oO := ae.mk ((by rw [hg]; exact Nat.ne_of_gt (gu jO.out) : kQ ≠ nz)); replace jO := ae.mk (aV jO.out hb); replace HB := ae.mk (az (by repeat ((with_reducible exact HB.out))) hb); clear hb hbox hg; have akQ := xC.out; have akS := oO.out; have ZB : Aw.cell? ⟨nz, 0, none⟩ = some (.int .i64 aA) := (af jO.out 0).trans rfl; have ZC : Aw.cell? ⟨nz, 1, none⟩ = some (.int .i64 aJ) := (af jO.out 1).trans rfl; have ZE : Aw.cell? ⟨nz, 2, none⟩ = some (.int .i64 aH) := (af jO.out 2).trans rfl; have ZF : Aw.cell? ⟨nz, 3, none⟩ = some (.int .i64 aI) := (af jO.out 3).trans rfl; have aak := ah jO.out 0; have aal := ah jO.out 1; have aam := ah jO.out 2; have aan := ah jO.out 3; have IM : Aw.cell? ⟨kQ, 0, none⟩ = some (.int .i64 0) := (af jS.out 0).trans rfl; have IP : Aw.cell? ⟨kQ, 1, none⟩ = some (.int .i64 0) := (af jS.out 1).trans rfl; have IQ : Aw.cell? ⟨kQ, 2, none⟩ = some (.int .i64 0) := (af jS.out 2).trans rfl; have IU : Aw.cell? ⟨kQ, 3, none⟩ = some (.int .i64 0) := (af jS.out 3).trans rfl; have IV := ah jS.out 0; have IW := ah jS.out 1; have IX := ah jS.out 2; have IY := ah jS.out 3))
   refine bodyPost_ret (bK rfl _ _ kQ 23 #[.int .i64 aA, .int .i64 aJ, .int .i64 aH, .int .i64 aI] (0, 0) _ rfl (by refine jV (cs := #[.int .i64 aA, .int .i64 aJ, .int .i64 aH, .int .i64 aI]) ?_ 3 _ rfl; refine jV (cs := #[.int .i64 aA, .int .i64 aJ, .int .i64 aH, .int .i64 aI]) ?_ 2 _ rfl; refine jV (cs := #[.int .i64 aA, .int .i64 aJ, .int .i64 aH, .int .i64 aI]) ?_ 1 _ rfl; refine jV (cs := #[.int .i64 aA, .int .i64 aJ, .int .i64 aH, .int .i64 aI]) ?_ 0 _ rfl; refine jV (cs := #[.int .i64 aA, .int .i64 aJ, .int .i64 aH, .int .i64 0]) ?_ 3 _ rfl; refine jV (cs := #[.int .i64 aA, .int .i64 aJ, .int .i64 0, .int .i64 0]) ?_ 2 _ rfl; refine jV (cs := #[.int .i64 aA, .int .i64 0, .int .i64 0, .int .i64 0]) ?_ 1 _ rfl; refine jV (cs := #[.int .i64 0, .int .i64 0, .int .i64 0, .int .i64 0]) ?_ 0 _ rfl; exact jS.out) Try.underlying23 rfl (by kernel_rfl)) rfl ?_
   exact ⟨by rfl, by repeat ((with_reducible first | exact HB.out | refine mF ?_ Gy.out))⟩
  ·rw [if_neg c9] at H
   have MF : (a1 == 1) = false := beq_eq_false_iff_ne.mpr c9
   have ahg : (a1 != 1) = true := bne_iff_ne.mpr c9
   simp only [Option.some.injEq, Prod.mk.injEq] at H
   obtain ⟨rfl, rfl, rfl, rfl, rfl⟩ := H
   go_enter Try.func127, Try.ntmps127
   go_wp2_with (first | ((with_reducible refine aC (N := 2) rfl ?_); refine aQ ?hg (N := 2) ?hd (cs := #[.int .i64 aA, .int .i64 aJ, .int .i64 aH, .int .i64 aI]) (t := 23) ?hr ?_; (case hd => rfl); (case hg => rfl); (case hr => (go_simp; done)); intro nz hg tJ hbox hb; have jO := ae.mk (hbox); have Qg := ae.mk ((by rw [hg]; exact (cO (by repeat ((with_reducible exact HB.out)))) : w.heap.size ≤ nz)); replace HB := ae.mk (az (by repeat ((with_reducible exact HB.out))) hb); clear hb hbox hg) | ((with_reducible refine aC (N := 4) rfl ?_); refine aQ ?hg (N := 4) ?hd (cs := #[.int .i64 0, .int .i64 0, .int .i64 0, .int .i64 0]) (t := 23) ?hr ?_; (case hd => rfl); (case hg => rfl); (case hr => (go_simp; done)); intro kQ hg w16 hbox hb; have jS := ae.mk (hbox); have Gy := ae.mk ((by rw [hg]; exact (cO (by repeat ((with_reducible exact HB.out)))) : w.heap.size ≤ kQ)); have xC := ae.mk ((by rw [hg]; exact Nat.ne_of_lt (gu jO.out) : nz ≠ kQ)); have oO := ae.mk ((by rw [hg]; exact Nat.ne_of_gt (gu jO.out) : kQ ≠ nz)); replace jO := ae.mk (aV jO.out hb); replace HB := ae.mk (az (by repeat ((with_reducible exact HB.out))) hb); clear hb hbox hg; have akR := oO.out; have akT := xC.out; have ZM : w16.cell? ⟨kQ, 0, none⟩ = some (.int .i64 0) := (af jS.out 0).trans rfl; have ZN : w16.cell? ⟨kQ, 1, none⟩ = some (.int .i64 0) := (af jS.out 1).trans rfl; have ZO : w16.cell? ⟨kQ, 2, none⟩ = some (.int .i64 0) := (af jS.out 2).trans rfl; have ZP : w16.cell? ⟨kQ, 3, none⟩ = some (.int .i64 0) := (af jS.out 3).trans rfl; have aau := ah jS.out 0; have aav := ah jS.out 1; have aaw := ah jS.out 2; have aax := ah jS.out 3))
   refine bodyPost_ret (bK rfl _ _ kQ 23 #[.int .i64 0, .int .i64 0, .int .i64 0, .int .i64 0] (0, 0) _ rfl (by refine jV (cs := #[.int .i64 0, .int .i64 0, .int .i64 0, .int .i64 0]) ?_ 3 _ rfl; refine jV (cs := #[.int .i64 0, .int .i64 0, .int .i64 0, .int .i64 0]) ?_ 2 _ rfl; refine jV (cs := #[.int .i64 0, .int .i64 0, .int .i64 0, .int .i64 0]) ?_ 1 _ rfl; refine jV (cs := #[.int .i64 0, .int .i64 0, .int .i64 0, .int .i64 0]) ?_ 0 _ rfl; exact jS.out) Try.underlying23 rfl (by kernel_rfl)) rfl ?_
   exact ⟨by rfl, by repeat ((with_reducible first | exact HB.out | refine mF ?_ Gy.out))⟩
end Go.Proofs.Ytfdmfgaiblfbhaa.P
namespace Go.Proofs.Ytfdmfgaiblfbhaa.P
open Go.RowKit Go.Proofs.ag.aW Go.Proofs.ag.dA Go.Proofs.ag.dU
section
variable {W : World}
theorem OH {ax : Int} (h : ax = 1 ∨ ax = 2) (X Y W H : Int) : pz.f X Y W H ax = some (tX ax X Y, tX ax Y X, tX ax W H, tX ax H W, true) := by
 unfold pz.f tX
 rcases h with rfl | rfl
 ·rfl
 ·rfl
theorem Gt {ax : Int} (h : ax = 1 ∨ ax = 2) (x y u v : Int) : Calls Try.prog 127 #[.agg #[.int .i64 x, .int .i64 y, .int .i64 u, .int .i64 v], .int .u8 ax] W fun e w' => e = .returned (.tuple #[.agg #[.int .i64 (tX ax x y), .int .i64 (tX ax y x), .int .i64 (tX ax u v), .int .i64 (tX ax v u)], .bool true]) ∧ Below W.heap.size W w' :=
 pz.calls _ _ _ _ _ _ _ _ _ _ W (OH h x y u v)
theorem Vq {ax : Int} (h : ¬ (ax = 1 ∨ ax = 2)) (x y u v : Int) : Calls Try.prog 127 #[.agg #[.int .i64 x, .int .i64 y, .int .i64 u, .int .i64 v], .int .u8 ax] W fun e w' => e = .returned (.tuple #[.agg #[.int .i64 0, .int .i64 0, .int .i64 0, .int .i64 0], .bool false]) ∧ Below W.heap.size W w' :=
 pz.calls _ _ _ _ _ _ _ _ _ _ W (by unfold pz.f; rw [if_neg (fun e => h (.inr e)), if_neg (fun e => h (.inl e))])
theorem N_ {x y u v : Int} {b : Bool} (h : rZ x y u v = b) : Calls Try.prog 128 #[.agg #[.int .i64 x, .int .i64 y, .int .i64 u, .int .i64 v]] W fun e w' => e = .returned (.bool b) ∧ Below W.heap.size W w' :=
 wZ.calls _ _ _ _ _ W ((NW _ _ _ _).trans (congrArg some h))
theorem Ei {x y u v : Int} {b : Bool} (h : rZ x y u v = b) : Calls Try.prog 57 #[.agg #[.int .i64 x, .int .i64 y, .int .i64 u, .int .i64 v]] W fun e w' => e = .returned (.bool b) ∧ Below W.heap.size W w' :=
 oK.calls _ _ _ _ _ W ((Fj _ _ _ _).trans (congrArg some h))
end
abbrev KT (w : World) (t : List dW × List dW × Bool) (e : Ending) (w' : World) : Prop := ∃ A c A' c' o o', e = .returned (.tuple #[.slice A t.1.length c, .slice A' t.2.1.length c', .bool t.2.2]) ∧ (t.2.2 = true → Two k23 23 k23 23 w w' (.slice A t.1.length c) t.1 (.slice A' t.2.1.length c') t.2.1 o o') ∧ Below w.heap.size w w'
theorem y8 {X Y W H ax : Int} {sizes : List Int} (h : ¬ (ax = 1 ∨ ax = 2) ∨ rZ X Y W H = false ∨ sizes.length = 0) : rW X Y W H ax sizes = ([], [], false) := by
 unfold rW
 refine if_neg (fun hc => ?_)
 rcases h with h | h | h
 ·exact h hc.1
 ·rw [hc.2.1] at h; cases h
 ·exact hc.2.2 (List.eq_nil_of_length_eq_zero h)
theorem Tv {X Y W H ax : Int} {sizes : List Int} (h1 : ax = 1 ∨ ax = 2) (h2 : rZ X Y W H = true) (h3 : sizes.length ≠ 0) : rW X Y W H ax sizes = p_ ax (tX ax X Y) (tX ax Y X) (tX ax W H) (tX ax H W) 0 true [] [] sizes := by
 unfold rW
 exact if_pos ⟨h1, h2, fun h => h3 (by rw [h]; rfl)⟩
theorem MZ {ax s t d e off : Int} {f : Bool} {ps ls : List dW} {R : List dW × List dW × Bool} (h : p_ ax s t d e off f ps ls [] = R) : R = if off = d then (ps, ls, true) else ([], [], false) := h.symm
def AL (ax s t d e o : Int) (ps ls : List dW) (n : Int) (ns : List Int) : List dW × List dW × Bool := if n < 1 ∨ d < o + n then ([], [], false) else p_ ax s t d e (o + n) false (ps ++ [nR ax (s + o) t e n]) ls ns
theorem Bg {ax s t d e o : Int} {ps ls : List dW} {n : Int} {ns : List Int} (h : n < 1 ∨ d < o + n) : AL ax s t d e o ps ls n ns = ([], [], false) := if_pos h
theorem O0 {ax s t d e o : Int} {ps ls : List dW} {n : Int} {ns : List Int} (h : ¬ (n < 1 ∨ d < o + n)) : AL ax s t d e o ps ls n ns = p_ ax s t d e (o + n) false (ps ++ [nR ax (s + o) t e n]) ls ns := if_neg h
theorem Vo {X Y W H ax : Int} (h1 : ax = 1 ∨ ax = 2) (h2 : rZ X Y W H = true) : 0 ≤ tX ax X Y ∧ 1 ≤ tX ax W H ∧ tX ax X Y + tX ax W H ≤ 10000 := by
 have hm := PL.1 h2
 unfold tX
 rcases h1 with rfl | rfl
 ·rw [if_neg (by omega), if_neg (by omega)]; omega
 ·rw [if_pos rfl, if_pos rfl]; omega
end Go.Proofs.Ytfdmfgaiblfbhaa.P
namespace Go.Proofs.Ytfdmfgaiblfbhaa.P
open Go.RowKit Go.Proofs.ag.aW Go.Proofs.ag.dA Go.Proofs.ag.dU
attribute [local go_sem] kM kZ lN l7 kz kC kY lg
theorem af8 (d : Nat) (w : World) (x0 y0 : Int) (x1 y1 : Int) (x2 y2 : Int) (x3 y3 : Int) :
  (Op.equalIn (d + 2) 23 (.agg #[.int .i64 x0, .int .i64 x1, .int .i64 x2, .int .i64 x3]) (.agg #[.int .i64 y0, .int .i64 y1, .int .i64 y2, .int .i64 y3])).run Try.prog w = .ok (x0 == y0 && (x1 == y1 && (x2 == y2 && (x3 == y3)))) w := by
 refine adn Try.underlying23 (by kernel_rfl) ?_
 refine FX (by rfl) (by go_simp; rfl) (by go_simp; rfl) (by go_simp) ?_
 refine FX (by rfl) (by go_simp; rfl) (by go_simp; rfl) (by go_simp) ?_
 refine FX (by rfl) (by go_simp; rfl) (by go_simp; rfl) (by go_simp) ?_
 exact WE (by rfl) (by go_simp; rfl) (by go_simp; rfl) (by go_simp)
end Go.Proofs.Ytfdmfgaiblfbhaa.P
namespace Go.Proofs.Ytfdmfgaiblfbhaa.P
open Go.RowKit Go.Proofs.ag.aW Go.Proofs.ag.dA Go.Proofs.ag.dU
attribute [local go_sem] kM kZ lN l7 kz kC kY lg
attribute [local go_sem high] af8
mutual
def jr.j0 : Nat → Bool → Int → Int → Int → Int → Int → Int → List (ai) → Int → Int → Int → Int → Int → Int → List (ai) → Option (Bool)
 | 0, _, _, _, _, _, _, _, _, _, _, _, _, _, _, _ => none
 | k + 1, x33, Jt, Ju, Jv, Jw, Jy, Jz, oM, JA, JB, JC, JD, JE, JF, qo => if x33 = true then (some false) else (jr.l0 k (oM.length : Int) 0 Jt Ju Jv Jw Jy Jz oM JA JB JC JD JE JF qo)
def jr.l0 : Nat → Int → Int → Int → Int → Int → Int → Int → Int → List (ai) → Int → Int → Int → Int → Int → Int → List (ai) → Option (Bool)
 | 0, _, _, _, _, _, _, _, _, _, _, _, _, _, _, _, _ => none
 | k + 1, x36, wH, Jt, Ju, Jv, Jw, Jy, Jz, oM, JA, JB, JC, JD, JE, JF, qo => if wH < x36 then (if 0 ≤ wH then (if wH < (oM.length : Int) then (if wH < (qo.length : Int) then ((jr.f k ((aG oM wH).f0) ((aG oM wH).f1.f0) ((aG oM wH).f1.f1) ((aG oM wH).f1.f2) ((aG oM wH).f1.f3) ((aG oM wH).f2) ((aG oM wH).f3) ((aG qo wH).f0) ((aG qo wH).f1.f0) ((aG qo wH).f1.f1) ((aG qo wH).f1.f2) ((aG qo wH).f1.f3) ((aG qo wH).f2) ((aG qo wH).f3)).bind fun ahN => (if ahN = true then (jr.l0 k x36 (wrap64 (wH + 1)) Jt Ju Jv Jw Jy Jz oM JA JB JC JD JE JF qo) else (some false))) else (none)) else (none)) else (none)) else (some true)
def jr.f : Nat → Int → Int → Int → Int → Int → Int → List (ai) → Int → Int → Int → Int → Int → Int → List (ai) → Option (Bool)
 | 0, _, _, _, _, _, _, _, _, _, _, _, _, _, _ => none
 | k + 1, aA, aJ, aH, aI, bI, bJ, aK, LM, LP, LQ, LV, LW, LX, NV => if aA = LM then (if (!(aJ == LP) || (!(aH == LQ) || (!(aI == LV) || (!(bI == LW))))) = true then (jr.j0 k true aA aJ aH aI bI bJ aK LM LP LQ LV LW LX NV) else (if bJ = LX then (jr.j0 k ((aK.length : Int) != (NV.length : Int)) aA aJ aH aI bI bJ aK LM LP LQ LV LW LX NV) else (jr.j0 k true aA aJ aH aI bI bJ aK LM LP LQ LV LW LX NV))) else (jr.j0 k true aA aJ aH aI bI bJ aK LM LP LQ LV LW LX NV)
end
def jr.T6 : Bool × List (List Nat × List Nat) := (true, [([], []), ([0], [0]), ([], []), ([1, 2], [1, 2]), ([3], [3]), ([], []), ([5], [5]), ([], []), ([6, 7], [6, 7]), ([8], [8]), ([4, 9], [4, 9]), ([10], [10])])
def jr.B6 : List Nat := [0, 1, 0, 7, 15, 0, 32, 0, 224, 480, 1023, 2047]
end Go.Proofs.Ytfdmfgaiblfbhaa.P
namespace Go.Proofs.Ytfdmfgaiblfbhaa.P
open Go.RowKit Go.Proofs.ag.aW Go.Proofs.ag.dA Go.Proofs.ag.dU
def nC (a b : dW) : Bool := a.f0 == b.f0 && (a.f1 == b.f1 && (a.f2 == b.f2 && a.f3 == b.f3))
mutual
def uF : ai → ai → Bool
 | ⟨a, r, d, l⟩, ⟨a', r', d', l'⟩ => a == a' && (nC r r' && (d == d' && (l.length == l'.length && sS l l')))
def sS : List ai → List ai → Bool
 | [], _ => true
 | _ :: _, [] => true
 | c :: cs, e :: es => uF c e && sS cs es
end
theorem Oj (a b : ai) : uF a b = (a.f0 == b.f0 && (nC a.f1 b.f1 && (a.f2 == b.f2 && (a.f3.length == b.f3.length && sS a.f3 b.f3)))) := by cases a; cases b; simp [uF]
theorem xO (b : List ai) : sS [] b = true := by cases b <;> simp [sS]
theorem wF (c e : ai) (cs es : List ai) : sS (c :: cs) (e :: es) = (uF c e && sS cs es) := by simp [sS]
theorem Rk : ∀ (N : Nat), (∀ c : ai, sz c ≤ N → uF c c = true) ∧ (∀ l : List ai, gy l ≤ N → sS l l = true) := by
 intro N
 induction N with
 | zero =>
  refine ⟨fun c h => ?_, fun l h => ?_⟩
  ·rw [dL] at h; omega
  ·cases l with
   | nil => exact xO _
   | cons x xs => rw [eG, dL] at h; omega
 | succ N ih =>
  have hC : ∀ c : ai, sz c ≤ N + 1 → uF c c = true := by
   intro c h
   rw [dL] at h
   rw [Oj, ih.2 c.f3 (by omega)]
   simp [nC]
  refine ⟨hC, fun l => ?_⟩
  induction l with
  | nil => intro _; exact xO _
  | cons x xs ihl =>
   intro h
   rw [eG] at h
   rw [wF, hC x (by omega), ihl (by omega)]
   rfl
def uj {α β : Type} (r : α → β → Bool) : List α → List β → Bool
 | a :: ta, b :: tb => r a b && uj r ta tb
 | [], _ => true
 | _ :: _, [] => true
theorem ado {α β : Type} (r : α → β → Bool) (za : α) (zb : β) (la : List α) (lb : List β) (k : Nat) (ha : k < la.length) (hb : k < lb.length) :
  uj r (la.drop k) (lb.drop k) = (r (la.getD (k : Int).toNat za) (lb.getD (k : Int).toNat zb) && uj r (la.drop (k + 1)) (lb.drop (k + 1))) := by
 rw [List.drop_eq_getElem_cons ha, List.drop_eq_getElem_cons hb]
 simp only [uj, Int.toNat_natCast, List.getD_eq_getElem?_getD, List.getElem?_eq_getElem ha, List.getElem?_eq_getElem hb, Option.getD_some]
theorem II {α β : Type} (r : α → β → Bool) (lb : List β) : uj r ([] : List α) lb = true := by cases lb <;> rfl
def Fb (k : Int) : Int := (((k - 2) % 256) + 1) % 256
def qU (f0 : Int) (k : ai) : Int := if f0 = 2 then k.f1.f2 else k.f1.f3
def szK (c k : ai) : Int := qU c.f0 k
def kV (c : ai) : List Int := c.f3.map (szK c)
def yZ (c : ai) : List dW × List dW × Bool := rW c.f1.f0 c.f1.f1 c.f1.f2 c.f1.f3 (Fb c.f0) (kV c)
theorem M_ (c : ai) : (yZ c).1.length ≤ c.f3.length ∧ (yZ c).2.1.length ≤ c.f3.length := by
 have h := Wl c.f1.f0 c.f1.f1 c.f1.f2 c.f1.f3 (Fb c.f0) (kV c)
 rwa [show (kV c).length = c.f3.length from List.length_map _] at h
theorem JK {c : ai} (h : (yZ c).2.2 = true) : (Fb c.f0 = 1 ∨ Fb c.f0 = 2) ∧ (yZ c).1 = CE (Fb c.f0) c.f1.f0 c.f1.f1 c.f1.f2 c.f1.f3 0 (kV c) ∧ (kV c).sum + ((kV c).length : Int) - 1 = tX (Fb c.f0) c.f1.f2 c.f1.f3 ∧ ∀ m, m ∈ kV c → 1 ≤ m := Tt h
def Jh (c : ai) (t : List dW × List dW × Bool) : Bool := c.f0 == 1 || (t.2.2 && (c.f3.length == t.1.length && uj (fun k r => nC k.f1 r) c.f3 t.1))
def linesT (c : ai) (t : List dW × List dW × Bool) : List dW := if c.f0 = 1 then [] else t.2.1
def ru (c : ai) : Bool := Jh c (yZ c)
def akg (c : ai) : List dW := linesT c (yZ c)
def lT (c : ai) : Bool := (iH c).all ru
theorem Es (c : ai) : lT c = (ru c && c.f3.all lT) := by
 unfold lT
 rw [uU, List.all_cons]
 congr 1
 generalize c.f3 = l
 induction l with
 | nil => rw [qC]; rfl
 | cons x xs ih => rw [oP, List.all_append, List.all_cons, ih]
theorem O1 {W : World} {f : FuncId} {args : Array Value} {t1 t2 : List dW} (h : Calls Try.prog f args W (KT W (t1, t2, true))) :
  Calls Try.prog f args W fun e w' => ∃ A c A' c' o o', e = .returned (.tuple #[.slice A t1.length c, .slice A' t2.length c', .bool true]) ∧ Two k23 23 k23 23 W w' (.slice A t1.length c) t1 (.slice A' t2.length c') t2 o o' ∧ Below W.heap.size W w' :=
 h.mono (fun _ _ ⟨A, c, A', c', o, o', h1, h2, h3⟩ => ⟨A, c, A', c', o, o', h1, h2 rfl, h3⟩)
theorem Na {W : World} {f : FuncId} {args : Array Value} {t1 t2 : List dW} (h : Calls Try.prog f args W (KT W (t1, t2, false))) :
  Calls Try.prog f args W fun e w' => ∃ A n c A' n' c', e = .returned (.tuple #[.slice A n c, .slice A' n' c', .bool false]) ∧ Below W.heap.size W w' :=
 h.mono (fun _ _ ⟨A, c, A', c', _, _, h1, _, h3⟩ => ⟨A, _, c, A', _, c', h1, h3⟩)
abbrev Qp (w : World) (c : ai) (e : Ending) (w' : World) : Prop := ∃ A n cc, e = .returned (.tuple #[.slice A n cc, .bool (ru c)]) ∧ (ru c = true → ∃ ls : List dW, n = ls.length ∧ ls.length ≤ c.f3.length ∧ k23.R 23 w' w.heap.size (fun _ => True) (.slice A ls.length cc) ls) ∧ Below w.heap.size w w'
theorem Zl (k : Int) : (k - 1) % 256 = Fb k := by unfold Fb; omega
theorem O4 {α β : Type} {r : α → β → Bool} : ∀ {a b : List α} {a' b' : List β}, a.length = a'.length → uj r (a ++ b) (a' ++ b') = (uj r a a' && uj r b b') := by
 intro a
 induction a with
 | nil => intro b a' b' h; cases a' with
  | nil => rw [II]; rfl
  | cons y ys => simp at h
 | cons x xs ih =>
  intro b a' b' h
  cases a' with
  | nil => simp at h
  | cons y ys =>
   simp only [List.cons_append, uj]
   rw [ih (by simpa using h), Bool.and_assoc]
theorem aeF {α : Type} {r k : dW} (h : nC k r = false) (x y : α) : (if r.f0 = k.f0 then if r.f1 = k.f1 then if r.f2 = k.f2 then if r.f3 = k.f3 then x else y else y else y else y) = y := by
 unfold nC at h
 repeat' split
 all_goals first | rfl | (simp_all; done)
theorem acu {base n c : Nat} {A : Option Addr} {l : List dW} {o : Obj} (h : KR k23 23 base (.slice A n c) l o) {W : World} (hm : ∀ g, (Value.slice A n c).ownBlock = some g → W.heap[g]? = some o) (pre rest : List dW) (r : dW) (hl : pre ++ r :: rest = l) :
  ∃ ad, A = some ad ∧ ∀ W : World, (∀ g, (Value.slice A n c).ownBlock = some g → W.heap[g]? = some o) → W.cell? (ad.add (pre.length * 4)) = some (.int .i64 r.f0) ∧ W.cell? ⟨(ad.add (pre.length * 4)).block, (ad.add (pre.length * 4)).off + 1, none⟩ = some (.int .i64 r.f1) ∧ W.cell? ⟨(ad.add (pre.length * 4)).block, (ad.add (pre.length * 4)).off + 2, none⟩ = some (.int .i64 r.f2) ∧ W.cell? ⟨(ad.add (pre.length * 4)).block, (ad.add (pre.length * 4)).off + 3, none⟩ = some (.int .i64 r.f3) := by
 have hi : (pre.length : Int) < l.length := by rw [← hl, List.length_append, List.length_cons]; omega
 have hr : ql l pre.length = r := by rw [← hl]; simp [ql, List.getD_eq_getElem?_getD]
 have key : ∀ W : World, (∀ g, (Value.slice A n c).ownBlock = some g → W.heap[g]? = some o) → ∃ ad, A = some ad ∧ W.cell? (ad.add (pre.length * 4)) = some (.int .i64 r.f0) ∧ W.cell? ⟨(ad.add (pre.length * 4)).block, (ad.add (pre.length * 4)).off + 1, none⟩ = some (.int .i64 r.f1) ∧ W.cell? ⟨(ad.add (pre.length * 4)).block, (ad.add (pre.length * 4)).off + 2, none⟩ = some (.int .i64 r.f2) ∧ W.cell? ⟨(ad.add (pre.length * 4)).block, (ad.add (pre.length * 4)).off + 3, none⟩ = some (.int .i64 r.f3) := fun W hW => by
  have hC := (Kd.dn (h W hW)).2.2
  have h2 := L_ hC (pre.length : Int) (Int.natCast_nonneg _) hi
  rw [hr] at h2
  exact h2
 obtain ⟨ad, hA, _⟩ := key W hm
 refine ⟨ad, hA, fun W hW => ?_⟩
 obtain ⟨ad2, h1, h2⟩ := key W hW
 rw [hA] at h1
 injection h1 with h1
 rw [h1]
 exact h2
def x_.T20 : Bool × List (List Nat × List Nat) := (true, [([], []), ([], []), ([1], [1]), ([], []), ([2, 3], [2, 3]), ([], []), ([5], [5]), ([], []), ([], []), ([7, 8], [7, 8]), ([9], [9]), ([], []), ([11], [11]), ([4, 6, 10, 12], [4, 6, 10, 12]), ([13], [13]), ([0, 14], [0, 14]), ([15, 15, 0, 1, 2, 3, 4, 5, 6, 7, 8, 9, 10, 11, 12, 13, 14, 15], [0, 15])])
def x_.B20 : List Nat := [0, 0, 2, 0, 14, 0, 32, 0, 0, 384, 896, 0, 2048, 8190, 16382, 32767, 65535]
theorem x_.agw : iY .any (opsOf Try.f46 20) = x_.T20 := by kernel_rfl
theorem x_.acO : iI x_.T20.2 x_.B20 = true := by kernel_rfl
def yc.T21 : Bool × List (List Nat × List Nat) := (true, [([], []), ([], []), ([1], [1]), ([], []), ([3], [3]), ([], []), ([4, 5], [4, 5]), ([], []), ([7], [7]), ([], []), ([], []), ([9, 10], [9, 10]), ([11], [11]), ([2, 6, 8, 12], [2, 6, 8, 12]), ([13], [13]), ([0, 14], [0, 14]), ([15, 15, 0, 1, 2, 3, 4, 5, 6, 7, 8, 9, 10, 11, 12, 13, 14, 15], [0, 15])])
def yc.B21 : List Nat := [0, 0, 2, 0, 8, 0, 56, 0, 128, 0, 0, 1536, 3584, 8190, 16382, 32767, 65535]
theorem yc.agx : iY .any (opsOf Try.f46 21) = yc.T21 := by kernel_rfl
theorem yc.acP : iI yc.T21.2 yc.B21 = true := by kernel_rfl
theorem piece1 (s t e n : Int) : nR 1 s t e n = ⟨s, t, n, e⟩ := rfl
theorem piece2 (s t e n : Int) : nR 2 s t e n = ⟨t, s, e, n⟩ := rfl
theorem aeQ (X Y Wd H ax : Int) (sizes : List Int) (hl : sizes.length ≤ 1000000) (B : Option Addr) (cb : Nat) (w : World) (hi : Kd.C (Kd.int .i64) w B sizes.length sizes) :
  Calls Try.prog 46 #[.agg #[.int .i64 X, .int .i64 Y, .int .i64 Wd, .int .i64 H], .int .u8 ax, .slice B sizes.length cb] w (KT w (rW X Y Wd H ax sizes)) := by
 have S := ae.mk (St.start (ts := []) (b0 := w.heap.size) (w := w) (P := fun _ => True) (fun _ h => by cases h))
 have HI := ae.mk hi
 have gX := ae.mk hl
 clear hi hl
 by_cases hm : rZ X Y Wd H = true
 case neg =>
  have HQ := ae.mk (y8 (X := X) (Y := Y) (W := Wd) (H := H) (ax := ax) (sizes := sizes) (.inr (.inl (Bool.eq_false_iff.mpr hm))))
  have xA := ae.mk (Bool.eq_false_iff.mpr hm)
  clear hm
  go_enter Try.func46, Try.ntmps46
  go_wp2_with (first
   | ((with_reducible refine aj 3 rfl ?_); refine boxS 3 #[.int .i64 X, .int .i64 Y, .int .i64 Wd, .int .i64 H] 23 S ?_; clear S; intro b3 eH S)
   | ((with_reducible refine aj 15 rfl ?_); refine lY k23 23 rfl 15 S ?_; clear S; intro An cn on fG S yC; obtain ⟨bD, bF, bG, bH⟩ := St.at4 S (.tail _ (.head _)))
   | ((with_reducible refine aj 17 rfl ?_); refine dF (some 17) Try.func57 S (Ei xA.out) ?_; clear S; intro gV S; clear bD bF bG bH)
   | fail)
  go_ret3
  rw [HQ.out]
  exact ⟨_, _, _, _, .cells #[] 0 (0, 0), .cells #[] 0 (0, 0), rfl, (fun h => by cases h), S.out.below⟩
 have xA := ae.mk hm
 by_cases h1 : ax < 1
 case pos =>
  have HQ := ae.mk (y8 (X := X) (Y := Y) (W := Wd) (H := H) (ax := ax) (sizes := sizes) (.inl (by omega)))
  have h1a : decide (ax < 1) = true := decide_eq_true (by omega)
  have h1b : decide (1 > ax) = true := decide_eq_true (by omega)
  clear hm h1
  go_enter Try.func46, Try.ntmps46
  go_wp2_with (first
   | ((with_reducible refine aj 3 rfl ?_); refine boxS 3 #[.int .i64 X, .int .i64 Y, .int .i64 Wd, .int .i64 H] 23 S ?_; clear S; intro b3 eH S)
   | ((with_reducible refine aj 15 rfl ?_); refine lY k23 23 rfl 15 S ?_; clear S; intro An cn on fG S yC; obtain ⟨bD, bF, bG, bH⟩ := St.at4 S (.tail _ (.head _)))
   | ((with_reducible refine aj 17 rfl ?_); refine dF (some 17) Try.func57 S (Ei xA.out) ?_; clear S; intro gV S; clear bD bF bG bH)
   | fail)
  go_ret3
  rw [HQ.out]
  exact ⟨_, _, _, _, .cells #[] 0 (0, 0), .cells #[] 0 (0, 0), rfl, (fun h => by cases h), S.out.below⟩
 have h1a : decide (ax < 1) = false := decide_eq_false (by omega)
 have h1b : decide (1 > ax) = false := decide_eq_false (by omega)
 by_cases h2 : 2 < ax
 case pos =>
  have HQ := ae.mk (y8 (X := X) (Y := Y) (W := Wd) (H := H) (ax := ax) (sizes := sizes) (.inl (by omega)))
  have h2a : decide (2 < ax) = true := decide_eq_true (by omega)
  have h2b : decide (ax > 2) = true := decide_eq_true (by omega)
  clear hm h1 h2
  go_enter Try.func46, Try.ntmps46
  go_wp2_with (first
   | ((with_reducible refine aj 3 rfl ?_); refine boxS 3 #[.int .i64 X, .int .i64 Y, .int .i64 Wd, .int .i64 H] 23 S ?_; clear S; intro b3 eH S)
   | ((with_reducible refine aj 15 rfl ?_); refine lY k23 23 rfl 15 S ?_; clear S; intro An cn on fG S yC; obtain ⟨bD, bF, bG, bH⟩ := St.at4 S (.tail _ (.head _)))
   | ((with_reducible refine aj 17 rfl ?_); refine dF (some 17) Try.func57 S (Ei xA.out) ?_; clear S; intro gV S; clear bD bF bG bH)
   | fail)
  go_ret3
  rw [HQ.out]
  exact ⟨_, _, _, _, .cells #[] 0 (0, 0), .cells #[] 0 (0, 0), rfl, (fun h => by cases h), S.out.below⟩
 have h2a : decide (2 < ax) = false := decide_eq_false (by omega)
 have h2b : decide (ax > 2) = false := decide_eq_false (by omega)
 by_cases h0 : sizes.length = 0
 case pos =>
  have HQ := ae.mk (y8 (X := X) (Y := Y) (W := Wd) (H := H) (ax := ax) (sizes := sizes) (.inr (.inr h0)))
  have Dt : ((sizes.length : Int) == 0) = true := beq_iff_eq.mpr (by omega)
  have uk : ((sizes.length : Int) != 0) = false := bne_eq_false_iff_eq.mpr (by omega)
  have Ho : decide ((sizes.length : Int) = 0) = true := decide_eq_true (by omega)
  have TD : (sizes.length == 0) = true := beq_iff_eq.mpr (by omega)
  have TE : decide (sizes.length = 0) = true := decide_eq_true (by omega)
  clear hm h1 h2 h0
  go_enter Try.func46, Try.ntmps46
  go_wp2_with (first
   | ((with_reducible refine aj 3 rfl ?_); refine boxS 3 #[.int .i64 X, .int .i64 Y, .int .i64 Wd, .int .i64 H] 23 S ?_; clear S; intro b3 eH S)
   | ((with_reducible refine aj 15 rfl ?_); refine lY k23 23 rfl 15 S ?_; clear S; intro An cn on fG S yC; obtain ⟨bD, bF, bG, bH⟩ := St.at4 S (.tail _ (.head _)))
   | ((with_reducible refine aj 17 rfl ?_); refine dF (some 17) Try.func57 S (Ei xA.out) ?_; clear S; intro gV S; clear bD bF bG bH)
   | fail)
  go_ret3
  rw [HQ.out]
  exact ⟨_, _, _, _, .cells #[] 0 (0, 0), .cells #[] 0 (0, 0), rfl, (fun h => by cases h), S.out.below⟩
 have hax : ax = 1 ∨ ax = 2 := by omega
 have vH := ae.mk hax
 obtain ⟨S0, hS0⟩ : ∃ s, s = tX ax X Y := ⟨_, rfl⟩
 obtain ⟨T0, hT0⟩ : ∃ s, s = tX ax Y X := ⟨_, rfl⟩
 obtain ⟨D, hD⟩ : ∃ s, s = tX ax Wd H := ⟨_, rfl⟩
 obtain ⟨E, hE⟩ : ∃ s, s = tX ax H Wd := ⟨_, rfl⟩
 have HS1 := ae.mk (show ax = 1 → S0 = X ∧ T0 = Y ∧ D = Wd ∧ E = H from fun h => by subst h; exact ⟨hS0, hT0, hD, hE⟩)
 have HS2 := ae.mk (show ax = 2 → S0 = Y ∧ T0 = X ∧ D = H ∧ E = Wd from fun h => by subst h; exact ⟨hS0, hT0, hD, hE⟩)
 have hq := Tv hax hm h0
 rw [← hS0, ← hT0, ← hD, ← hE] at hq
 have hb := Vo hax hm
 rw [← hS0, ← hD] at hb
 have HB := ae.mk hb
 rw [hq]
 have Dt : ((sizes.length : Int) == 0) = false := beq_eq_false_iff_ne.mpr (by omega)
 have uk : ((sizes.length : Int) != 0) = true := bne_iff_ne.mpr (by omega)
 have Ho : decide ((sizes.length : Int) = 0) = false := decide_eq_false (by omega)
 have TD : (sizes.length == 0) = false := beq_eq_false_iff_ne.mpr (by omega)
 have TE : decide (sizes.length = 0) = false := decide_eq_false (by omega)
 obtain ⟨R, hR⟩ : ∃ R, R = p_ ax S0 T0 D E 0 true [] [] sizes := ⟨_, rfl⟩
 rw [← hR]
 have HR := ae.mk hR
 clear hq hb hm h0 h1 h2 hax hS0 hT0 hD hE hR
 go_enter Try.func46, Try.ntmps46
 go_upto_if 37 with (first
  | ((with_reducible refine aj 3 rfl ?_); refine boxS 3 #[.int .i64 X, .int .i64 Y, .int .i64 Wd, .int .i64 H] 23 S ?_; clear S; intro b3 eH S)
  | ((with_reducible refine aj 15 rfl ?_); refine lY k23 23 rfl 15 S ?_; clear S; intro An cn on fG S yC; obtain ⟨bD, bF, bG, bH⟩ := St.at4 S (.tail _ (.head _)))
  | ((with_reducible refine aj 17 rfl ?_); refine dF (some 17) Try.func57 S (Ei xA.out) ?_; clear S; intro gV S; clear bD bF bG bH; have bG := (S.out.at (.tail _ (.head _)) 2).trans rfl)
  | fail)
 clear bG
 (try simp only [Act.put, List.setIfInBounds_toArray, List.set_cons_zero, List.set_cons_succ])
 go_cut [10] (fun v10 wc => v10 = .int .i64 D ∧ ae (St w (fun _ => True) [((Value.slice An 0 cn).ownBlock, on), (some b3, .cells #[.int .i64 X, .int .i64 Y, .int .i64 Wd, .int .i64 H] 23 (0, 0))] [] [] [] wc))
 case first =>
  by_cases hx : ax = 2
  case pos =>
   have hd := (HS2.out hx).2.2.1
   have hxa : (ax == 2) = true := beq_iff_eq.mpr (by omega)
   have hxb : (ax != 2) = false := bne_eq_false_iff_eq.mpr (by omega)
   have hxd : decide (ax = 2) = true := decide_eq_true (by omega)
   have HDD := ae.mk hd
   clear hx hd
   have bH := (S.out.at (.tail _ (.head _)) 3).trans rfl
   go_wp2
   clear bH
   go_meet
   case rel => exact ⟨by rw [HDD.out], S⟩
  case neg =>
   have hd := (HS1.out (by have := vH.out; omega)).2.2.1
   have hxa : (ax == 2) = false := beq_eq_false_iff_ne.mpr (by omega)
   have hxb : (ax != 2) = true := bne_iff_ne.mpr (by omega)
   have hxd : decide (ax = 2) = false := decide_eq_false (by omega)
   have HDD := ae.mk hd
   clear hx hd
   go_wp2
   go_meet
   case rel => exact ⟨by rw [HDD.out], S⟩
 case rest =>
  clear S
  obtain ⟨rfl, S⟩ := hcut
  rename World => wx
  go_wp2_with (first
   | ((with_reducible refine aj 40 rfl ?_); refine lY k23 23 rfl 40 S ?_; clear S; intro Ap cp op eH S jf)
   | ((with_reducible refine aj 41 rfl ?_); refine lY k23 23 rfl 41 S ?_; clear S; intro Aq cq oq fG S mM)
   | fail)
  clear Dt uk Ho TD TE h1a h1b h2a h2b
  go_loopg [11, 12, 13, 44] sizes.length (fun gg v11 v12 v13 v44 wr => ∃ (pre rest : List Int) (off : Int) (ps ls : List dW) (Ap : Option Addr) (cp : Nat) (op : Obj) (Aq : Option Addr) (cq : Nat) (oq : Obj), v11 = .slice Ap ps.length cp ∧ v12 = .slice Aq ls.length cq ∧ v13 = .int .i64 off ∧ v44 = .int .i64 (pre.length : Int) ∧ ae (pre ++ rest = sizes) ∧ rest.length ≤ gg ∧ ae (0 ≤ off ∧ off ≤ D ∧ ps.length ≤ pre.length ∧ ls.length ≤ pre.length) ∧ ae (p_ ax S0 T0 D E off (pre.length == 0) ps ls rest = R) ∧ ae (KR k23 23 w.heap.size (.slice Ap ps.length cp) ps op) ∧ ae (KR k23 23 w.heap.size (.slice Aq ls.length cq) ls oq) ∧ ae (St w (fun _ => True) [((Value.slice Ap ps.length cp).ownBlock, op), ((Value.slice Aq ls.length cq).ownBlock, oq), ((Value.slice An 0 cn).ownBlock, on), (some b3, .cells #[.int .i64 X, .int .i64 Y, .int .i64 Wd, .int .i64 H] 23 (0, 0))] [] [] [] wr))
  case atStart => exact ⟨[], sizes, 0, [], [], _, _, _, _, _, _, rfl, rfl, rfl, rfl, ⟨rfl⟩, Nat.le_refl _, ⟨by have := HB.out; simp; omega⟩, ⟨HR.out.symm⟩, jf, mM, ⟨S.out.rC.rC.JO.rC⟩⟩
  case round =>
   clear S HR jf mM
   obtain ⟨pre, rest, off, ps, ls, Ap, cp, op, Aq, cq, oq, rfl, rfl, rfl, rfl, HE, hgg, HO, HG, jf, mM, S⟩ := hrel
   cases rest with
   | nil =>
    have hE := HE.out
    rw [List.append_nil] at hE
    subst hE
    clear HE hgg
    have hlt : ¬ ((pre.length : Int) < (pre.length : Int)) := by omega
    have RX := ae.mk (MZ HG.out)
    by_cases hod : off = D
    case pos =>
     have hza : (off == D) = true := beq_iff_eq.mpr (by omega)
     have hzb : (off != D) = false := bne_eq_false_iff_eq.mpr (by omega)
     have hzd : decide (off = D) = true := decide_eq_true (by omega)
     have Lc := ae.mk hod
     clear hod
     go_wp2
     go_ret3
     rw [RX.out, if_pos Lc.out]
     exact ⟨Ap, cp, Aq, cq, op, oq, rfl, fun _ => S.out.UQ jf.out mM.out, S.out.below⟩
    case neg =>
     have hza : (off == D) = false := beq_eq_false_iff_ne.mpr (by omega)
     have hzb : (off != D) = true := bne_iff_ne.mpr (by omega)
     have hzd : decide (off = D) = false := decide_eq_false (by omega)
     have Lc := ae.mk hod
     clear hod
     go_wp2
     have HQ := ae.mk (RX.out.trans (if_neg Lc.out))
     go_ret3
     rw [HQ.out]
     exact ⟨_, _, _, _, .cells #[] 0 (0, 0), .cells #[] 0 (0, 0), rfl, (fun h => by cases h), S.out.below⟩
   | cons n ns =>
    have hlt : (pre.length : Int) < (sizes.length : Int) := by rw [← HE.out, List.length_append, List.length_cons]; omega
    have hw1 : wrap64 ((pre.length : Int) + 1) = ((pre ++ [n]).length : Int) := by have := gX.out; rw [List.length_append, List.length_singleton]; unfold wrap64; omega
    have HW1 := ae.mk hw1
    have jh := ae.mk hgg
    have OM := ae.mk hlt
    have zK := ae.mk (show ps.length ≤ 1000000 ∧ ls.length ≤ 1000000 by have := HO.out; have := gX.out; omega)
    clear hgg hw1
    go_upto_if 48 with fail
    (try simp only [Act.put, List.setIfInBounds_toArray, List.set_cons_zero, List.set_cons_succ])
    go_cut [12, 13] (fun v12 v13 wc => ∃ (o' : Int) (ls' : List dW) (Aq : Option Addr) (cq : Nat) (oq : Obj), v12 = .slice Aq ls'.length cq ∧ v13 = .int .i64 o' ∧ ae (0 ≤ o' ∧ o' ≤ D + 1 ∧ ls'.length ≤ pre.length + 1) ∧ ae (AL ax S0 T0 D E o' ps ls' n ns = R) ∧ ae (KR k23 23 w.heap.size (.slice Aq ls'.length cq) ls' oq) ∧ ae (St w (fun _ => True) [((Value.slice Ap ps.length cp).ownBlock, op), ((Value.slice Aq ls'.length cq).ownBlock, oq), ((Value.slice An 0 cn).ownBlock, on), (some b3, .cells #[.int .i64 X, .int .i64 Y, .int .i64 Wd, .int .i64 H] 23 (0, 0))] [] [] [] wc))
    case first =>
     by_cases hp2 : pre.length = 0
     case pos =>
      have hp : (pre.length == 0) = true := beq_iff_eq.mpr hp2
      have hpa : decide (0 < (pre.length : Int)) = false := decide_eq_false (by omega)
      have hpb : decide ((pre.length : Int) > 0) = false := decide_eq_false (by omega)
      have hpc : decide (0 < pre.length) = false := decide_eq_false (by omega)
      have hpe : ¬ (0 < pre.length) := by omega
      have HG2 := ae.mk (show AL ax S0 T0 D E off ps ls n ns = R by have h := HG.out; rw [hp] at h; exact h)
      clear hp hp2
      go_wp2
      go_meet
      case rel => exact ⟨off, ls, _, _, _, rfl, rfl, ⟨by have := HO.out; omega⟩, HG2, mM, S⟩
     case neg =>
      have hp : (pre.length == 0) = false := beq_eq_false_iff_ne.mpr hp2
      have hpa : decide (0 < (pre.length : Int)) = true := decide_eq_true (by omega)
      have hpb : decide ((pre.length : Int) > 0) = true := decide_eq_true (by omega)
      have hpc : decide (0 < pre.length) = true := decide_eq_true (by omega)
      have hpe : 0 < pre.length := by omega
      have RU := ae.mk (show AL ax S0 T0 D E (off + 1) ps (ls ++ [nR ax (S0 + off) T0 E 1]) n ns = R by have h := HG.out; rw [hp] at h; exact h)
      have OQ := ae.mk (show wrap64 (off + 1) = off + 1 by have := HO.out; have := HB.out; unfold wrap64; omega)
      clear hp hp2
      by_cases hx : ax = 1
      case pos =>
       have HX := ae.mk hx
       have hxa : (ax == 1) = true := beq_iff_eq.mpr (by omega)
       have hxb : (ax != 1) = false := bne_eq_false_iff_eq.mpr (by omega)
       have hxd : decide (ax = 1) = true := decide_eq_true (by omega)
       clear hx
       have Ld := ae.mk (show nR ax (S0 + off) T0 E 1 = (⟨wrap64 (X + off), Y, 1, H⟩ : dW) by have hb := HB.out; have ho := HO.out; have hs := HS1.out HX.out; rw [HX.out, piece1, hs.1, hs.2.1, hs.2.2.2, show wrap64 (X + off) = X + off by rw [hs.1] at hb; unfold wrap64; omega])
       have HG2 := ae.mk (show AL ax S0 T0 D E (off + 1) ps (ls ++ [(⟨wrap64 (X + off), Y, 1, H⟩ : dW)]) n ns = R by rw [← Ld.out]; exact RU.out)
       have bD := (S.out.at (.tail _ (.tail _ (.tail _ (.head _)))) 0).trans rfl
       have bF := (S.out.at (.tail _ (.tail _ (.tail _ (.head _)))) 1).trans rfl
       have bH := (S.out.at (.tail _ (.tail _ (.tail _ (.head _)))) 3).trans rfl
       go_wp2_with (first
        | ((with_reducible refine aj 62 rfl ?_); at_builtin; replace S := ae.mk S.out.uX; refine uV k23 23 rfl 51 61 42 _ 32 Try.underlying42 info23 rfl (by decide) (by decide) (by decide) S mM ⟨wrap64 (X + off), Y, 1, H⟩ [.int .i64 (wrap64 (X + off)), .int .i64 Y, .int .i64 1, .int .i64 H] (fun _ _ _ => qV _ _ _ _) (by have := zK.out; omega) ?_; clear S mM; intro Aq2 cq2 oq2 eH S mM; clear bD bF bH)
        | fail)
       go_meet
       case rel => exact ⟨off + 1, _, _, _, _, (by rw [List.length_append]; rfl), (by rw [OQ.out]), ⟨by have := HO.out; rw [List.length_append, List.length_singleton]; omega⟩, HG2, mM, ⟨S.out.rC.rC.JO.rC⟩⟩
      case neg =>
       have HX := ae.mk (show ax = 2 by have := vH.out; omega)
       have hxa : (ax == 1) = false := beq_eq_false_iff_ne.mpr (by omega)
       have hxb : (ax != 1) = true := bne_iff_ne.mpr (by omega)
       have hxd : decide (ax = 1) = false := decide_eq_false (by omega)
       clear hx
       have Ld := ae.mk (show nR ax (S0 + off) T0 E 1 = (⟨X, wrap64 (Y + off), Wd, 1⟩ : dW) by have hb := HB.out; have ho := HO.out; have hs := HS2.out HX.out; rw [HX.out, piece2, hs.1, hs.2.1, hs.2.2.2, show wrap64 (Y + off) = Y + off by rw [hs.1] at hb; unfold wrap64; omega])
       have HG2 := ae.mk (show AL ax S0 T0 D E (off + 1) ps (ls ++ [(⟨X, wrap64 (Y + off), Wd, 1⟩ : dW)]) n ns = R by rw [← Ld.out]; exact RU.out)
       have bD := (S.out.at (.tail _ (.tail _ (.tail _ (.head _)))) 0).trans rfl
       have bF := (S.out.at (.tail _ (.tail _ (.tail _ (.head _)))) 1).trans rfl
       have bG := (S.out.at (.tail _ (.tail _ (.tail _ (.head _)))) 2).trans rfl
       go_wp2_with (first
        | ((with_reducible refine aj 74 rfl ?_); at_builtin; replace S := ae.mk S.out.uX; refine uV k23 23 rfl 63 73 42 _ 32 Try.underlying42 info23 rfl (by decide) (by decide) (by decide) S mM ⟨X, wrap64 (Y + off), Wd, 1⟩ [.int .i64 X, .int .i64 (wrap64 (Y + off)), .int .i64 Wd, .int .i64 1] (fun _ _ _ => qV _ _ _ _) (by have := zK.out; omega) ?_; clear S mM; intro Aq2 cq2 oq2 eH S mM; clear bD bF bG)
        | fail)
       go_meet
       case rel => exact ⟨off + 1, _, _, _, _, (by rw [List.length_append]; rfl), (by rw [OQ.out]), ⟨by have := HO.out; rw [List.length_append, List.length_singleton]; omega⟩, HG2, mM, ⟨S.out.rC.rC.JO.rC⟩⟩
    case rest =>
     clear S mM HG
     obtain ⟨o', ls', Aq, cq, oq, rfl, rfl, pV, HG, mM, S⟩ := hcut
     rename World => wy
     have zK := ae.mk (show ps.length ≤ 1000000 ∧ ls'.length ≤ 1000001 by have := HO.out; have := pV.out; have := gX.out; omega)
     have hlt := OM.out
     have hrd : rd sizes (pre.length : Int) = n := by rw [← HE.out]; simp [rd, List.getD_eq_getElem?_getD]
     obtain ⟨Yn, ek, xi⟩ := Kd.iq (Kd.fC HI.out S.out.below) (pre.length : Int) (Int.natCast_nonneg _) hlt
     subst ek
     rw [hrd] at xi
     simp only [Int.toNat_natCast] at xi
     have HXI := fun (W : World) (h : Below w.heap.size w W) => (show W.cell? (Yn.add pre.length) = some (.int .i64 n) by have h2 := Kd.iq (Kd.fC HI.out h) (pre.length : Int) (Int.natCast_nonneg _) OM.out; obtain ⟨ad, e1, e2⟩ := h2; injection e1 with e1; subst e1; simp only [Int.toNat_natCast] at e2; rw [e2, ← HE.out]; simp [rd, List.getD_eq_getElem?_getD])
     have A_ := ae.mk HXI
     clear hrd xi HXI
     by_cases hn : n < 1
     case pos =>
      have hna : decide (n < 1) = true := decide_eq_true (by omega)
      have hnb : decide (1 > n) = true := decide_eq_true (by omega)
      have HQ := ae.mk (HG.out.symm.trans (Bg (.inl hn)))
      have xi := A_.out _ S.out.below
      go_wp2
      clear xi
      go_ret3
      rw [HQ.out]
      exact ⟨_, _, _, _, .cells #[] 0 (0, 0), .cells #[] 0 (0, 0), rfl, (fun h => by cases h), S.out.below⟩
     have hna : decide (n < 1) = false := decide_eq_false (by omega)
     have hnb : decide (1 > n) = false := decide_eq_false (by omega)
     by_cases hd : D < n
     case pos =>
      have hda : decide (D < n) = true := decide_eq_true (by omega)
      have hdb : decide (n > D) = true := decide_eq_true (by omega)
      have HQ := ae.mk (HG.out.symm.trans (Bg (.inr (by have := pV.out; omega))))
      have xi := A_.out _ S.out.below
      go_wp2
      clear xi
      go_ret3
      rw [HQ.out]
      exact ⟨_, _, _, _, .cells #[] 0 (0, 0), .cells #[] 0 (0, 0), rfl, (fun h => by cases h), S.out.below⟩
     have hda : decide (D < n) = false := decide_eq_false (by omega)
     have hdb : decide (n > D) = false := decide_eq_false (by omega)
     have hg : wrap64 (o' + n) = o' + n := by have := HB.out; have := pV.out; unfold wrap64; omega
     have HWG := ae.mk hg
     by_cases he : D < o' + n
     case pos =>
      have hea : decide (D < wrap64 (o' + n)) = true := decide_eq_true (by omega)
      have heb : decide (wrap64 (o' + n) > D) = true := decide_eq_true (by omega)
      have hfa : decide (D < o' + n) = true := decide_eq_true (by omega)
      have hfb : decide (o' + n > D) = true := decide_eq_true (by omega)
      have HQ := ae.mk (HG.out.symm.trans (Bg (.inr he)))
      have xi := A_.out _ S.out.below
      go_wp2
      clear xi
      go_ret3
      rw [HQ.out]
      exact ⟨_, _, _, _, .cells #[] 0 (0, 0), .cells #[] 0 (0, 0), rfl, (fun h => by cases h), S.out.below⟩
     have hea : decide (D < wrap64 (o' + n)) = false := decide_eq_false (by omega)
     have heb : decide (wrap64 (o' + n) > D) = false := decide_eq_false (by omega)
     have hfa : decide (D < o' + n) = false := decide_eq_false (by omega)
     have hfb : decide (o' + n > D) = false := decide_eq_false (by omega)
     have RU := ae.mk ((O0 (fun h => h.elim hn he)).symm.trans HG.out)
     have HN := ae.mk hn
     have HD2 := ae.mk he
     clear hn hd he hg
     by_cases hx : ax = 1
     case pos =>
      have HX := ae.mk hx
      have hxa : (ax == 1) = true := beq_iff_eq.mpr (by omega)
      have hxb : (ax != 1) = false := bne_eq_false_iff_eq.mpr (by omega)
      have hxd : decide (ax = 1) = true := decide_eq_true (by omega)
      clear hx
      have Ld := ae.mk (show nR ax (S0 + o') T0 E n = (⟨wrap64 (X + o'), Y, n, H⟩ : dW) by have hb := HB.out; have ho := pV.out; have hs := HS1.out HX.out; rw [HX.out, piece1, hs.1, hs.2.1, hs.2.2.2, show wrap64 (X + o') = X + o' by rw [hs.1] at hb; unfold wrap64; omega])
      have HG2 := ae.mk (show p_ ax S0 T0 D E (o' + n) false (ps ++ [(⟨wrap64 (X + o'), Y, n, H⟩ : dW)]) ls' ns = R by rw [← Ld.out]; exact RU.out)
      have xi := A_.out _ S.out.below
      go_wp2
      clear xi
      go_wp2
      refine iR (n := 17) (S := fun w' => St w _ _ _ _ _ w') (ds := [15]) (bA 17 0) (by kernel_rfl) rfl rfl (S.out.eF.call (bC (Below.refl _ _))) (fun hHeld => ?_); refine fJ x_.agw x_.acO (fun ak dZ => ?_)
      replace S := ae.mk (S.out.call (bC (Below.refl _ _)))
      generalize wy.drew = wd1 at S hHeld ⊢
      refine au 0 104 (bA 17 1) ak ?_
      refine au 1 105 (bA 17 3) ak ?_
      refine dE 2 106 (bA 17 7) ak dZ hHeld ?_ (hv := by intro w' hs_; have bD := (hs_.at (.tail _ (.tail _ (.head _))) 0).trans rfl; go_simp; with_reducible rfl)
      refine au 3 107 (bA 17 15) ak ?_
      refine au 4 108 (bA 17 31) ak ?_
      refine au 5 109 (bA 17 63) ak ?_
      refine dE 6 110 (bA 17 127) ak dZ hHeld ?_ (hv := by intro w' hs_; have bF := (hs_.at (.tail _ (.tail _ (.head _))) 1).trans rfl; go_simp; with_reducible rfl)
      refine au 7 111 (bA 17 255) ak ?_
      refine au 8 112 (bA 17 511) ak ?_
      refine au 9 113 (bA 17 1023) ak ?_
      refine dE 10 114 (bA 17 2047) ak dZ hHeld ?_ (hv := by intro w' hs_; have xi := A_.out _ hs_.below; go_simp; with_reducible rfl)
      refine au 11 115 (bA 17 4095) ak ?_
      refine dE 12 116 (bA 17 8191) ak dZ hHeld ?_ (hv := by intro w' hs_; have bH := (hs_.at (.tail _ (.tail _ (.head _))) 3).trans rfl; go_simp; with_reducible rfl)
      refine au 13 117 (bA 17 16383) ak ?_
      refine gU (i := 14) (N := some 118) (bA 17 32767) rfl rfl (bY ak.out (by kernel_rfl)) (by decide) (fun K hK => ?_)
      refine Ou (w1 := ?_) (v := ?_) (by rfl) rfl ?_ ?_
      rotate_left 2
      ·go_simp
       constructor
       ·rfl
       ·rfl
      refine hK.out _ _ (S.out.eF.call (gz (Below.refl _ _) _)) (fun hHeld => ?_)
      clear hK K
      refine dR 118 ?_
      refine mO (i := 15) (N := some 119) (bA 17 65535) rfl rfl (bY ak.out (by kernel_rfl)) (by decide) (fun K hK => ?_)
      refine L8 k23 23 rfl 104 118 42 _ 32 Try.underlying42 info23 rfl (by decide) (by decide) (by decide) S jf ⟨wrap64 (X + o'), Y, n, H⟩ [.int .i64 (wrap64 (X + o')), .int .i64 Y, .int .i64 n, .int .i64 H] (fun _ _ _ => qV _ _ _ _) (by have := zK.out; omega) ?_
      clear S jf
      intro KO cp2 N7 gV S jf
      refine hK.out _ _ ?_
      clear hK K
      refine dR 119 ?_
      refine au 16 11 (bA 17 131071) ak ?_
      refine jI (gQ ak.out (by kernel_rfl)) ?_
      clear hHeld
      have xi := A_.out _ S.out.below
      go_wp2
      clear xi
      have hw1 := HW1.out
      go_wp2
      go_roundg ns.length
      case measure => exact Nat.lt_of_lt_of_le (Nat.lt_succ_self _) jh.out
      case rel => exact ⟨pre ++ [n], ns, o' + n, _, ls', _, _, _, _, _, _, (by rw [List.length_append]; rfl), rfl, (by rw [HWG.out]), (by rw [hw1]), ⟨by rw [List.append_assoc]; exact HE.out⟩, Nat.le_refl _, ⟨by have := HO.out; have := pV.out; have := HN.out; have := HD2.out; simp only [List.length_append, List.length_singleton]; omega⟩, ⟨by rw [show ((pre ++ [n]).length == 0) = false by simp]; exact HG2.out⟩, jf, mM, ⟨S.out.rC.rC.rC.rC⟩⟩
     case neg =>
      have HX := ae.mk (show ax = 2 by have := vH.out; omega)
      have hxa : (ax == 1) = false := beq_eq_false_iff_ne.mpr (by omega)
      have hxb : (ax != 1) = true := bne_iff_ne.mpr (by omega)
      have hxd : decide (ax = 1) = false := decide_eq_false (by omega)
      clear hx
      have Ld := ae.mk (show nR ax (S0 + o') T0 E n = (⟨X, wrap64 (Y + o'), Wd, n⟩ : dW) by have hb := HB.out; have ho := pV.out; have hs := HS2.out HX.out; rw [HX.out, piece2, hs.1, hs.2.1, hs.2.2.2, show wrap64 (Y + o') = Y + o' by rw [hs.1] at hb; unfold wrap64; omega])
      have HG2 := ae.mk (show p_ ax S0 T0 D E (o' + n) false (ps ++ [(⟨X, wrap64 (Y + o'), Wd, n⟩ : dW)]) ls' ns = R by rw [← Ld.out]; exact RU.out)
      have xi := A_.out _ S.out.below
      go_wp2
      clear xi
      go_wp2
      refine iR (n := 17) (S := fun w' => St w _ _ _ _ _ w') (ds := [15]) (bA 17 0) (by kernel_rfl) rfl rfl (S.out.eF.call (bC (Below.refl _ _))) (fun hHeld => ?_); refine fJ yc.agx yc.acP (fun ak dZ => ?_)
      replace S := ae.mk (S.out.call (bC (Below.refl _ _)))
      generalize wy.drew = wd1 at S hHeld ⊢
      refine au 0 120 (bA 17 1) ak ?_
      refine au 1 121 (bA 17 3) ak ?_
      refine dE 2 122 (bA 17 7) ak dZ hHeld ?_ (hv := by intro w' hs_; have bD := (hs_.at (.tail _ (.tail _ (.head _))) 0).trans rfl; go_simp; with_reducible rfl)
      refine au 3 123 (bA 17 15) ak ?_
      refine dE 4 124 (bA 17 31) ak dZ hHeld ?_ (hv := by intro w' hs_; have bF := (hs_.at (.tail _ (.tail _ (.head _))) 1).trans rfl; go_simp; with_reducible rfl)
      refine au 5 125 (bA 17 63) ak ?_
      refine au 6 126 (bA 17 127) ak ?_
      refine au 7 127 (bA 17 255) ak ?_
      refine dE 8 128 (bA 17 511) ak dZ hHeld ?_ (hv := by intro w' hs_; have bG := (hs_.at (.tail _ (.tail _ (.head _))) 2).trans rfl; go_simp; with_reducible rfl)
      refine au 9 129 (bA 17 1023) ak ?_
      refine au 10 130 (bA 17 2047) ak ?_
      refine au 11 131 (bA 17 4095) ak ?_
      refine dE 12 132 (bA 17 8191) ak dZ hHeld ?_ (hv := by intro w' hs_; have xi := A_.out _ hs_.below; go_simp; with_reducible rfl)
      refine au 13 133 (bA 17 16383) ak ?_
      refine gU (i := 14) (N := some 134) (bA 17 32767) rfl rfl (bY ak.out (by kernel_rfl)) (by decide) (fun K hK => ?_)
      refine Ou (w1 := ?_) (v := ?_) (by rfl) rfl ?_ ?_
      rotate_left 2
      ·go_simp
       constructor
       ·rfl
       ·rfl
      refine hK.out _ _ (S.out.eF.call (gz (Below.refl _ _) _)) (fun hHeld => ?_)
      clear hK K
      refine dR 134 ?_
      refine mO (i := 15) (N := some 135) (bA 17 65535) rfl rfl (bY ak.out (by kernel_rfl)) (by decide) (fun K hK => ?_)
      refine L8 k23 23 rfl 120 134 42 _ 32 Try.underlying42 info23 rfl (by decide) (by decide) (by decide) S jf ⟨X, wrap64 (Y + o'), Wd, n⟩ [.int .i64 X, .int .i64 (wrap64 (Y + o')), .int .i64 Wd, .int .i64 n] (fun _ _ _ => qV _ _ _ _) (by have := zK.out; omega) ?_
      clear S jf
      intro KO cp2 N7 gV S jf
      refine hK.out _ _ ?_
      clear hK K
      refine dR 135 ?_
      refine au 16 11 (bA 17 131071) ak ?_
      refine jI (gQ ak.out (by kernel_rfl)) ?_
      clear hHeld
      have xi := A_.out _ S.out.below
      go_wp2
      clear xi
      have hw1 := HW1.out
      go_wp2
      go_roundg ns.length
      case measure => exact Nat.lt_of_lt_of_le (Nat.lt_succ_self _) jh.out
      case rel => exact ⟨pre ++ [n], ns, o' + n, _, ls', _, _, _, _, _, _, (by rw [List.length_append]; rfl), rfl, (by rw [HWG.out]), (by rw [hw1]), ⟨by rw [List.append_assoc]; exact HE.out⟩, Nat.le_refl _, ⟨by have := HO.out; have := pV.out; have := HN.out; have := HD2.out; simp only [List.length_append, List.length_singleton]; omega⟩, ⟨by rw [show ((pre ++ [n]).length == 0) = false by simp]; exact HG2.out⟩, jf, mM, ⟨S.out.rC.rC.rC.rC⟩⟩
theorem XP (c : ai) (hl : c.f3.length ≤ 1000000) (b : Nat) (P : Nat → Prop) (A : Option Addr) (cc : Nat) (w : World) (hv : Kd.V k26 26 w b P (.slice A c.f3.length cc) c.f3) :
  Calls Try.prog 194 #[.agg #[.int .u8 c.f0, .int .i64 c.f1.f0, .int .i64 c.f1.f1, .int .i64 c.f1.f2, .int .i64 c.f1.f3, .int .i64 c.f2, .slice A c.f3.length cc]] w fun e w' => ∃ A' c', e = .returned (.slice A' (kV c).length c') ∧ (Kd.int .i64).R 3 w' w.heap.size (fun _ => True) (.slice A' (kV c).length c') (kV c) ∧ Below w.heap.size w w' := by
 have S := ae.mk (St.start (ts := [(.slice A c.f3.length cc, c.f3)]) (b0 := w.heap.size) (w := w) (P := P) (fun t ht => by rw [List.mem_singleton.1 ht]; exact dO hv))
 have gX := ae.mk hl
 clear hl hv
 obtain ⟨ck, ⟨cx, cy, cw, ch⟩, ay, l⟩ := c
 simp only [] at S gX ⊢
 rw [show kV ⟨ck, ⟨cx, cy, cw, ch⟩, ay, l⟩ = l.map (qU ck) from rfl]
 simp only [List.length_map]
 go_enter Try.func194, Try.ntmps194
 go_wp2_with (first
  | ((with_reducible refine aj 1 rfl ?_); refine boxS 1 #[.int .u8 ck, .int .i64 cx, .int .i64 cy, .int .i64 cw, .int .i64 ch, .int .i64 ay, .slice A l.length cc] 26 S ?_; clear S; intro b1 eH S)
  | ((with_reducible refine aj 5 rfl ?_); refine lY (Kd.int .i64) 3 rfl 5 S ?_; clear S; intro Ap cp op fG S jf; have iw := (S.out.at (.tail _ (.head _)) 6).trans rfl)
  | fail)
 clear iw
 go_loopg [3, 9] l.length (fun gg v3 v9 wr => ∃ (pre rest : List ai) (Ap : Option Addr) (cp : Nat) (op : Obj), v3 = .slice Ap pre.length cp ∧ v9 = .int .i64 (pre.length : Int) ∧ ae (pre ++ rest = l) ∧ rest.length ≤ gg ∧ ae (KR (Kd.int .i64) 3 w.heap.size (.slice Ap pre.length cp) (pre.map (qU ck)) op) ∧ ae (St w P [((Value.slice Ap pre.length cp).ownBlock, op), (some b1, .cells #[.int .u8 ck, .int .i64 cx, .int .i64 cy, .int .i64 cw, .int .i64 ch, .int .i64 ay, .slice A l.length cc] 26 (0, 0))] [] [(.slice A l.length cc, l)] [] wr))
 case atStart => exact ⟨[], l, _, _, _, rfl, rfl, ⟨rfl⟩, Nat.le_refl _, jf, S⟩
 case round =>
  clear S jf
  obtain ⟨pre, rest, Ap, cp, op, rfl, rfl, HE, hgg, jf, S⟩ := hrel
  cases rest with
  | nil =>
   have hE := HE.out
   rw [List.append_nil] at hE
   have hE2 := hE.symm
   subst hE2
   clear hE HE hgg
   have hlt : ¬ ((l.length : Int) < (l.length : Int)) := by omega
   go_wp2
   go_ret
   exact ⟨_, _, rfl, S.out.F8 jf.out (.head _), S.out.below⟩
  | cons k rest =>
   have hk : k ∈ l := by rw [← HE.out]; simp
   have hlt : (pre.length : Int) < (l.length : Int) := by rw [← HE.out, List.length_append, List.length_cons]; omega
   have hw1 : wrap64 ((pre.length : Int) + 1) = ((pre ++ [k]).length : Int) := by have := gX.out; rw [List.length_append, List.length_singleton]; unfold wrap64; omega
   have HW1 := ae.mk hw1
   have jh := ae.mk hgg
   have HK := ae.mk hk
   have tH := ae.mk (show pre.length ≤ 1048576 by have := gX.out; omega)
   obtain ⟨dM, ua, uc, ek, S1⟩ := S.out.elem (.head _) (pre.length : Int) (Int.natCast_nonneg _) hlt
   subst ek
   have hrd : aG l (pre.length : Int) = k := by rw [← HE.out]; exact jF pre k rest
   rw [hrd] at S1
   simp only [Int.toNat_natCast] at S1
   replace S := ae.mk S1
   clear S1 hrd hk hgg hw1
   by_cases hk2 : ck = 2
   case pos =>
    have hka : (ck == 2) = true := beq_iff_eq.mpr hk2
    have hkb : decide (ck = 2) = true := decide_eq_true hk2
    have A8 := ae.mk (show (pre ++ [k]).map (qU ck) = pre.map (qU ck) ++ [k.f1.f2] by rw [List.map_append]; exact congrArg (pre.map (qU ck) ++ [·]) (if_pos hk2))
    clear hk2
    have fF := (S.out.at (.tail _ (.head _)) 0).trans rfl
    have iw := (S.out.at (.tail _ (.head _)) 6).trans rfl
    have iC := (S.out.cell _ (.tail _ (.tail _ (.tail _ (.head _))))).1
    go_wp2_with (first
     | ((with_reducible refine aj 24 rfl ?_); at_builtin; refine uV (Kd.int .i64) 3 rfl 15 23 41 (.int .i64 0) 8 Try.underlying41 info3 rfl (by decide) (by decide) (by decide) S jf k.f1.f2 [.int .i64 k.f1.f2] (fun _ _ _ => rfl) (by have := tH.out; simp only [List.length_map]; omega) ?_; clear S jf; intro KO cp2 N7 gV S jf; clear fF iw iC)
     | fail)
    have e2 : ((pre.map (qU ck)) ++ [k.f1.f2]).length = (pre ++ [k]).length := by simp
    rw [e2, ← A8.out] at jf
    rw [e2] at S
    have hw1 := HW1.out
    go_wp2
    go_roundg rest.length
    case measure => exact Nat.lt_of_lt_of_le (Nat.lt_succ_self _) jh.out
    case rel => exact ⟨pre ++ [k], rest, _, _, _, (by rw [List.length_append]; rfl), (by rw [hw1]), ⟨by rw [List.append_assoc]; exact HE.out⟩, Nat.le_refl _, jf, ⟨S.out.uX.uX.bW.aT.aT.aT.aT.aT.aT.aT⟩⟩
   case neg =>
    have hka : (ck == 2) = false := beq_eq_false_iff_ne.mpr hk2
    have hkb : decide (ck = 2) = false := decide_eq_false hk2
    have A8 := ae.mk (show (pre ++ [k]).map (qU ck) = pre.map (qU ck) ++ [k.f1.f3] by rw [List.map_append]; exact congrArg (pre.map (qU ck) ++ [·]) (if_neg hk2))
    clear hk2
    have fF := (S.out.at (.tail _ (.head _)) 0).trans rfl
    have iw := (S.out.at (.tail _ (.head _)) 6).trans rfl
    have iD := (S.out.cell _ (.tail _ (.tail _ (.tail _ (.tail _ (.head _)))))).1
    go_wp2_with (first
     | ((with_reducible refine aj 34 rfl ?_); at_builtin; refine uV (Kd.int .i64) 3 rfl 25 33 41 (.int .i64 0) 8 Try.underlying41 info3 rfl (by decide) (by decide) (by decide) S jf k.f1.f3 [.int .i64 k.f1.f3] (fun _ _ _ => rfl) (by have := tH.out; simp only [List.length_map]; omega) ?_; clear S jf; intro KO cp2 N7 jB S jf; clear fF iw iD)
     | fail)
    have e2 : ((pre.map (qU ck)) ++ [k.f1.f3]).length = (pre ++ [k]).length := by simp
    rw [e2, ← A8.out] at jf
    rw [e2] at S
    have hw1 := HW1.out
    go_wp2
    go_roundg rest.length
    case measure => exact Nat.lt_of_lt_of_le (Nat.lt_succ_self _) jh.out
    case rel => exact ⟨pre ++ [k], rest, _, _, _, (by rw [List.length_append]; rfl), (by rw [hw1]), ⟨by rw [List.append_assoc]; exact HE.out⟩, Nat.le_refl _, jf, ⟨S.out.uX.uX.bW.aT.aT.aT.aT.aT.aT.aT⟩⟩
def uA.T3 : Bool × List (List Nat × List Nat) := (true, [([], []), ([0], [0]), ([], []), ([2], [2]), ([3], [3]), ([], []), ([5], [5]), ([1, 4, 6, 6], [1, 4, 6]), ([7], [7]), ([8], [8]), ([8], [8]), ([8], [8]), ([9, 7, 0, 1, 2, 3, 4, 5, 6, 7, 8, 9], [9]), ([10, 12, 0, 1, 2, 3, 4, 5, 6, 7, 8, 9, 10, 12], [10]), ([11, 13, 0, 1, 2, 3, 4, 5, 6, 7, 8, 9, 10, 11, 12, 13], [11])])
def uA.B3 : List Nat := [0, 1, 0, 4, 12, 0, 32, 127, 255, 511, 511, 511, 1023, 6143, 16383]
theorem uA.Ru : iY .any (opsOf Try.f178 3) = uA.T3 := by kernel_rfl
theorem uA.KE : iI uA.T3.2 uA.B3 = true := by kernel_rfl
def uB.T9 : Bool × List (List Nat × List Nat) := (true, [([], []), ([], []), ([0, 1], [0, 1]), ([2], [2]), ([], []), ([4], [4]), ([], []), ([5, 6], [5, 6]), ([7], [7]), ([8], [8]), ([3, 9], [3, 9])])
def uB.B9 : List Nat := [0, 0, 3, 7, 0, 16, 0, 112, 240, 496, 1023]
theorem uB.Jn : iY .any (opsOf Try.f178 9) = uB.T9 := by kernel_rfl
theorem uB.EJ : iI uB.T9.2 uB.B9 = true := by kernel_rfl
theorem UO (c : ai) (hl : c.f3.length ≤ 1000000) (b : Nat) (P : Nat → Prop) (A : Option Addr) (cc : Nat) (w : World) (hv : Kd.V k26 26 w b P (.slice A c.f3.length cc) c.f3) :
  Calls Try.prog 178 #[.agg #[.int .u8 c.f0, .int .i64 c.f1.f0, .int .i64 c.f1.f1, .int .i64 c.f1.f2, .int .i64 c.f1.f3, .int .i64 c.f2, .slice A c.f3.length cc]] w (Qp w c) := by
 have S := ae.mk (St.start (ts := [(.slice A c.f3.length cc, c.f3)]) (b0 := w.heap.size) (w := w) (P := P) (fun t ht => by rw [List.mem_singleton.1 ht]; exact dO hv))
 have gX := ae.mk hl
 have hsz := fun b P A cc w hv => XP c hl b P A cc w hv
 obtain ⟨T, hT⟩ : ∃ T, T = yZ c := ⟨_, rfl⟩
 have hlen : T.2.2 = true → T.1.length = c.f3.length := fun h => by rw [hT] at h ⊢; rw [(JK h).2.1, Wp]; simp [kV]
 have hl2 : T.2.1.length ≤ c.f3.length := by rw [hT]; exact (M_ c).2
 have hcut := fun B cb w hi => aeQ c.f1.f0 c.f1.f1 c.f1.f2 c.f1.f3 ((c.f0 - 1) % 256) (kV c) (by simpa [kV] using hl) B cb w hi
 rw [show rW c.f1.f0 c.f1.f1 c.f1.f2 c.f1.f3 ((c.f0 - 1) % 256) (kV c) = T by rw [hT, Zl]; rfl] at hcut
 have ho : ru c = Jh c T := by rw [hT]; rfl
 generalize kV c = SL at hsz hcut
 unfold Qp
 generalize ru c = v at ho ⊢
 clear hT hl hv
 obtain ⟨ck, ⟨cx, cy, cw, ch⟩, ay, l⟩ := c
 obtain ⟨t1, t2, t3⟩ := T
 simp only [Jh] at S gX hsz hlen hl2 hcut ho ⊢
 have HZC := ae.mk hsz
 have HL2 := ae.mk hl2
 clear hsz hl2
 by_cases h1 : ck = 1
 case pos =>
  have hv : v = true := by rw [ho, h1]; rfl
  have ha : (ck == 1) = true := beq_iff_eq.mpr h1
  have hb : decide (ck = 1) = true := decide_eq_true h1
  have HL := ae.mk hv
  clear hv h1 ho hcut hlen
  go_enter Try.func178, Try.ntmps178
  go_wp2_with (first
   | ((with_reducible refine aj 1 rfl ?_); refine boxS 1 #[.int .u8 ck, .int .i64 cx, .int .i64 cy, .int .i64 cw, .int .i64 ch, .int .i64 ay, .slice A l.length cc] 26 S ?_; clear S; intro b1 eH S; have fF := (S.out.at (.head _) 0).trans rfl)
   | ((with_reducible refine aj 11 rfl ?_); refine lY k23 23 rfl 11 S ?_; clear S; intro ak0 alh alF fG S yC; clear fF)
   | fail)
  go_ret2
  rw [HL.out]
  exact ⟨_, _, _, rfl, fun _ => ⟨[], rfl, Nat.zero_le _, S.out.F8 yC.out (.head _)⟩, S.out.below⟩
 have ha : (ck == 1) = false := beq_eq_false_iff_ne.mpr h1
 have hd : decide (ck = 1) = false := decide_eq_false h1
 rw [ha, Bool.false_or] at ho
 clear h1
 cases t3 with
 | false =>
  rw [Bool.false_and] at ho
  have HL := ae.mk ho
  have Gz := ae.mk (fun B cb w hi => Na (hcut B cb w hi))
  clear hcut ho hlen
  go_enter Try.func178, Try.ntmps178
  go_wp2_with (first
   | ((with_reducible refine aj 1 rfl ?_); refine boxS 1 #[.int .u8 ck, .int .i64 cx, .int .i64 cy, .int .i64 cw, .int .i64 ch, .int .i64 ay, .slice A l.length cc] 26 S ?_; clear S; intro b1 eH S; have fF := (S.out.at (.head _) 0).trans rfl)
   | fail)
  clear fF
  refine iR (n := 15) (S := fun w' => St w _ _ _ _ _ w') (ds := []) (bA 15 0) (by kernel_rfl) rfl rfl (S.out.call (bC (Below.refl _ _))) (fun hHeld => ?_); refine fJ uA.Ru uA.KE (fun ak dZ => ?_)
  replace S := ae.mk (S.out.call (bC (Below.refl _ _)))
  generalize eH.drew = wd2 at S hHeld ⊢
  refine au 0 13 (bA 15 1) ak ?_
  refine dE 1 14 (bA 15 3) ak dZ hHeld ?_ (hv := by intro w' hs_; have kE := (hs_.at (.head _) 1).trans rfl; have kF := (hs_.at (.head _) 2).trans rfl; have kG := (hs_.at (.head _) 3).trans rfl; have kH := (hs_.at (.head _) 4).trans rfl; go_simp; with_reducible rfl)
  refine au 2 15 (bA 15 7) ak ?_
  refine dE 3 16 (bA 15 15) ak dZ hHeld ?_ (hv := by intro w' hs_; have fF := (hs_.at (.head _) 0).trans rfl; go_simp; with_reducible rfl)
  refine au 4 17 (bA 15 31) ak ?_
  refine dE 5 18 (bA 15 63) ak dZ hHeld ?_ (hv := by intro w' hs_; have fF := (hs_.at (.head _) 0).trans rfl; have kE := (hs_.at (.head _) 1).trans rfl; have kF := (hs_.at (.head _) 2).trans rfl; have kG := (hs_.at (.head _) 3).trans rfl; have kH := (hs_.at (.head _) 4).trans rfl; have ng := (hs_.at (.head _) 5).trans rfl; have iw := (hs_.at (.head _) 6).trans rfl; go_simp; with_reducible rfl)
  refine gU (i := 6) (N := some 19) (bA 15 127) rfl rfl (bY ak.out (by kernel_rfl)) (by decide) (fun K hK => ?_)
  refine fK Try.func194 (by kernel_rfl) rfl #[.agg #[.int .u8 ck, .int .i64 cx, .int .i64 cy, .int .i64 cw, .int .i64 ch, .int .i64 ay, .slice A l.length cc]] (by rfl) rfl rfl (by (try simp only [List.map_toArray, List.map_cons, List.map_nil]); first | done | rfl) ?_
  refine (HZC.out _ _ _ _ _ (S.out.tree _ (.head _))).mono ?_
  rintro e gV ⟨As, cs, rfl, h1, hb⟩
  refine ⟨_, rfl, ?_⟩
  obtain ⟨os, S1, hI⟩ := S.out.Gn (d := Kd.int .i64) (e := 3) rfl h1 hb
  replace S := ae.mk S1
  have HKs := ae.mk hI
  clear S1 hI h1 hb
  refine hK.out _ _ S.out.eF (fun hHeld => ?_)
  clear hK K
  refine dR 19 ?_
  refine gU (i := 7) (N := some 20) (bA 15 255) rfl rfl (bY ak.out (by kernel_rfl)) (by decide) (fun K hK => ?_)
  refine fK Try.func46 (by kernel_rfl) rfl #[.agg #[.int .i64 cx, .int .i64 cy, .int .i64 cw, .int .i64 ch], .int .u8 ((ck - 1) % 256), .slice As SL.length cs] (by rfl) rfl rfl (by (try simp only [List.map_toArray, List.map_cons, List.map_nil]); first | done | rfl) ?_
  refine (Gz.out _ _ _ (Kd.dn (Le HKs.out S.out (.head _))).2.2).mono ?_
  rintro e jB ⟨Ap, np, cp, Aq, nq, cq, rfl, hb⟩
  refine ⟨_, rfl, ?_⟩
  replace S := ae.mk (S.out.call hb)
  clear hb
  refine hK.out _ _ S.out.eF (fun hHeld => ?_)
  clear hK K
  refine dR 20 ?_
  refine au 8 12 (bA 15 511) ak ?_
  refine au 9 21 (bA 15 1023) ak ?_
  refine au 10 22 (bA 15 2047) ak ?_
  refine au 11 23 (bA 15 4095) ak ?_
  refine au 12 4 (bA 15 8191) ak ?_
  refine au 13 5 (bA 15 16383) ak ?_
  refine au 14 6 (bA 15 32767) ak ?_
  refine jI (gQ ak.out (by kernel_rfl)) ?_
  clear hHeld
  go_wp2
  go_ret2
  rw [HL.out]
  exact ⟨_, _, _, rfl, (fun h => by cases h), S.out.below⟩
 | true =>
  replace hlen := hlen rfl
  rw [Bool.true_and, show (l.length == t1.length) = true from beq_iff_eq.mpr hlen.symm, Bool.true_and] at ho
  have HL := ae.mk ho
  have zK := ae.mk hlen
  have Gz := ae.mk (fun B cb w hi => O1 (hcut B cb w hi))
  clear hcut ho hlen
  go_enter Try.func178, Try.ntmps178
  go_wp2_with (first
   | ((with_reducible refine aj 1 rfl ?_); refine boxS 1 #[.int .u8 ck, .int .i64 cx, .int .i64 cy, .int .i64 cw, .int .i64 ch, .int .i64 ay, .slice A l.length cc] 26 S ?_; clear S; intro b1 eH S; have fF := (S.out.at (.head _) 0).trans rfl)
   | fail)
  clear fF
  refine iR (n := 15) (S := fun w' => St w _ _ _ _ _ w') (ds := []) (bA 15 0) (by kernel_rfl) rfl rfl (S.out.call (bC (Below.refl _ _))) (fun hHeld => ?_); refine fJ uA.Ru uA.KE (fun ak dZ => ?_)
  replace S := ae.mk (S.out.call (bC (Below.refl _ _)))
  generalize eH.drew = wd2 at S hHeld ⊢
  refine au 0 13 (bA 15 1) ak ?_
  refine dE 1 14 (bA 15 3) ak dZ hHeld ?_ (hv := by intro w' hs_; have kE := (hs_.at (.head _) 1).trans rfl; have kF := (hs_.at (.head _) 2).trans rfl; have kG := (hs_.at (.head _) 3).trans rfl; have kH := (hs_.at (.head _) 4).trans rfl; go_simp; with_reducible rfl)
  refine au 2 15 (bA 15 7) ak ?_
  refine dE 3 16 (bA 15 15) ak dZ hHeld ?_ (hv := by intro w' hs_; have fF := (hs_.at (.head _) 0).trans rfl; go_simp; with_reducible rfl)
  refine au 4 17 (bA 15 31) ak ?_
  refine dE 5 18 (bA 15 63) ak dZ hHeld ?_ (hv := by intro w' hs_; have fF := (hs_.at (.head _) 0).trans rfl; have kE := (hs_.at (.head _) 1).trans rfl; have kF := (hs_.at (.head _) 2).trans rfl; have kG := (hs_.at (.head _) 3).trans rfl; have kH := (hs_.at (.head _) 4).trans rfl; have ng := (hs_.at (.head _) 5).trans rfl; have iw := (hs_.at (.head _) 6).trans rfl; go_simp; with_reducible rfl)
  refine gU (i := 6) (N := some 19) (bA 15 127) rfl rfl (bY ak.out (by kernel_rfl)) (by decide) (fun K hK => ?_)
  refine fK Try.func194 (by kernel_rfl) rfl #[.agg #[.int .u8 ck, .int .i64 cx, .int .i64 cy, .int .i64 cw, .int .i64 ch, .int .i64 ay, .slice A l.length cc]] (by rfl) rfl rfl (by (try simp only [List.map_toArray, List.map_cons, List.map_nil]); first | done | rfl) ?_
  refine (HZC.out _ _ _ _ _ (S.out.tree _ (.head _))).mono ?_
  rintro e gV ⟨As, cs, rfl, h1, hb⟩
  refine ⟨_, rfl, ?_⟩
  obtain ⟨os, S1, hI⟩ := S.out.Gn (d := Kd.int .i64) (e := 3) rfl h1 hb
  replace S := ae.mk S1
  have HKs := ae.mk hI
  clear S1 hI h1 hb
  refine hK.out _ _ S.out.eF (fun hHeld => ?_)
  clear hK K
  refine dR 19 ?_
  refine gU (i := 7) (N := some 20) (bA 15 255) rfl rfl (bY ak.out (by kernel_rfl)) (by decide) (fun K hK => ?_)
  refine fK Try.func46 (by kernel_rfl) rfl #[.agg #[.int .i64 cx, .int .i64 cy, .int .i64 cw, .int .i64 ch], .int .u8 ((ck - 1) % 256), .slice As SL.length cs] (by rfl) rfl rfl (by (try simp only [List.map_toArray, List.map_cons, List.map_nil]); first | done | rfl) ?_
  refine (Gz.out _ _ _ (Kd.dn (Le HKs.out S.out (.head _))).2.2).mono ?_
  rintro e jB ⟨Ap, cp, Aq, cq, op, oq, rfl, h1, hb⟩
  refine ⟨_, rfl, ?_⟩
  obtain ⟨S1, hp, hq⟩ := S.out.two h1 hb
  replace S := ae.mk S1
  have jf := ae.mk hp
  have mM := ae.mk hq
  clear S1 hp hq h1 hb
  refine hK.out _ _ S.out.eF.eF.eF (fun hHeld => ?_)
  clear hK K
  refine dR 20 ?_
  refine au 8 12 (bA 15 511) ak ?_
  refine au 9 21 (bA 15 1023) ak ?_
  refine au 10 22 (bA 15 2047) ak ?_
  refine au 11 23 (bA 15 4095) ak ?_
  refine au 12 4 (bA 15 8191) ak ?_
  refine au 13 5 (bA 15 16383) ak ?_
  refine au 14 6 (bA 15 32767) ak ?_
  refine jI (gQ ak.out (by kernel_rfl)) ?_
  clear hHeld
  go_wp2
  clear ha hd
  go_loopg [29] t1.length (fun gg v29 wr => ∃ (pre rest : List dW) (pb rb : List ai), v29 = .int .i64 (pre.length : Int) ∧ ae (pre ++ rest = t1) ∧ ae (pb ++ rb = l) ∧ ae (pb.length = pre.length) ∧ ae (uj (fun k r => nC k.f1 r) pb pre = true) ∧ rest.length ≤ gg ∧ ae (St w P [((Value.slice Ap t1.length cp).ownBlock, op), ((Value.slice Aq t2.length cq).ownBlock, oq), ((Value.slice As SL.length cs).ownBlock, os), (some b1, .cells #[.int .u8 ck, .int .i64 cx, .int .i64 cy, .int .i64 cw, .int .i64 ch, .int .i64 ay, .slice A l.length cc] 26 (0, 0))] [] [(.slice A l.length cc, l)] [] wr))
  case atStart => exact ⟨[], t1, [], l, rfl, ⟨rfl⟩, ⟨rfl⟩, ⟨rfl⟩, ⟨II _ _⟩, Nat.le_refl _, S⟩
  case round =>
   clear S
   obtain ⟨pre, rest, pb, rb, rfl, HE, HE2, xy, OO, hgg, S⟩ := hrel
   have hlr : rb.length = rest.length := by have h1 := congrArg List.length HE.out; have h2 := congrArg List.length HE2.out; rw [List.length_append] at h1 h2; have := xy.out; have := zK.out; omega
   cases rest with
   | nil =>
    have hrb := List.eq_nil_of_length_eq_zero hlr
    subst hrb
    have hE := HE.out
    rw [List.append_nil] at hE
    have O5 := HE2.out
    rw [List.append_nil] at O5
    have HV := ae.mk (show v = true by rw [HL.out, ← hE, ← O5]; exact OO.out)
    have hlt : ¬ ((pre.length : Int) < (t1.length : Int)) := by rw [hE]; omega
    have aep : ¬ (pre.length < t1.length) := by omega
    clear HE HE2 hgg hlr hE O5
    go_wp2
    go_ret2
    rw [HV.out]
    exact ⟨_, _, _, rfl, fun _ => ⟨t2, rfl, HL2.out, S.out.F8 mM.out (.tail _ (.head _))⟩, S.out.below⟩
   | cons r rest =>
    cases rb with
    | nil => simp at hlr
    | cons k rb =>
     have hlt : (pre.length : Int) < (t1.length : Int) := by rw [← HE.out, List.length_append, List.length_cons]; omega
     have hlt2 : (pb.length : Int) < (l.length : Int) := by rw [← HE2.out, List.length_append, List.length_cons]; omega
     have hlt3 : pre.length < l.length := by have := xy.out; omega
     have aep : pre.length < t1.length := by omega
     have hlt4 : (pre.length : Int) < (l.length : Int) := by omega
     have hw1 : wrap64 ((pre.length : Int) + 1) = ((pre ++ [r]).length : Int) := by have := gX.out; have := zK.out; rw [List.length_append, List.length_singleton]; unfold wrap64; omega
     have HW1 := ae.mk hw1
     have jh := ae.mk hgg
     obtain ⟨dM, ua, uc, ek, S1⟩ := S.out.elem (.head _) (pb.length : Int) (Int.natCast_nonneg _) hlt2
     subst ek
     have hrd : aG l (pb.length : Int) = k := by rw [← HE2.out]; exact jF pb k rb
     rw [hrd] at S1
     simp only [Int.toNat_natCast] at S1
     rw [xy.out] at S1
     replace S := ae.mk S1
     obtain ⟨adp, ep, hel⟩ := acu jf.out (S.out.blk _ (.head _)) pre rest r HE.out
     subst ep
     have GH := ae.mk hel
     clear S1 hrd hgg hw1 hlr hel hlt2
     cases hq : nC k.f1 r with
     | false =>
      have HQ := ae.mk hq
      have HV := ae.mk (show v = false by rw [HL.out, ← HE.out, ← HE2.out, O4 xy.out, OO.out]; simp [uj, hq])
      clear hq
      go_wp2
      refine iR (n := 11) (S := fun w' => St w _ _ _ _ _ w') (ds := []) (bA 11 0) (by kernel_rfl) rfl rfl (S.out.call (bC (Below.refl _ _))) (fun hHeld => ?_); refine fJ uB.Jn uB.EJ (fun ak dZ => ?_)
      replace S := ae.mk (S.out.call (bC (Below.refl _ _)))
      generalize wr.drew = wd1 at S hHeld ⊢
      refine au 0 32 (bA 11 1) ak ?_
      refine au 1 33 (bA 11 3) ak ?_
      refine au 2 34 (bA 11 7) ak ?_
      refine dE 3 35 (bA 11 15) ak dZ hHeld ?_ (hv := by intro w' hs_; have xp0 := (GH.out _ (hs_.blk _ (.head _))).1; have xp1 := (GH.out _ (hs_.blk _ (.head _))).2.1; have xp2 := (GH.out _ (hs_.blk _ (.head _))).2.2.1; have xp3 := (GH.out _ (hs_.blk _ (.head _))).2.2.2; go_simp; with_reducible rfl)
      refine au 4 36 (bA 11 31) ak ?_
      refine dE 5 37 (bA 11 63) ak dZ hHeld ?_ (hv := by intro w' hs_; have iw := (hs_.at (.tail _ (.tail _ (.tail _ (.head _)))) 6).trans rfl; go_simp; with_reducible rfl)
      refine au 6 38 (bA 11 127) ak ?_
      refine au 7 39 (bA 11 255) ak ?_
      refine au 8 40 (bA 11 511) ak ?_
      refine dE 9 41 (bA 11 1023) ak dZ hHeld ?_ (hv := by intro w' hs_; have iM := (hs_.cell _ (.tail _ (.head _))).1; have iO := (hs_.cell _ (.tail _ (.tail _ (.head _)))).1; have iC := (hs_.cell _ (.tail _ (.tail _ (.tail _ (.head _))))).1; have iD := (hs_.cell _ (.tail _ (.tail _ (.tail _ (.tail _ (.head _)))))).1; go_simp; with_reducible rfl)
      refine dE 10 42 (bA 11 2047) ak dZ hHeld ?_ (hv := by intro w' hs_; go_simp; exact aeF HQ.out _ _)
      refine jI (gQ ak.out (by kernel_rfl)) ?_
      clear hHeld
      go_wp2_with (first
       | ((with_reducible refine aj 43 rfl ?_); refine lY k23 23 rfl 43 S ?_; clear S; intro ak1 ali alG fG S yC)
       | fail)
      go_ret2
      rw [HV.out]
      exact ⟨_, _, _, rfl, (fun h => by cases h), S.out.below⟩
     | true =>
      have GI := ae.mk (show uj (fun k r => nC k.f1 r) (pb ++ [k]) (pre ++ [r]) = true by rw [O4 xy.out, OO.out]; simp [uj, hq])
      obtain ⟨q0, q1, q2, q3⟩ := r
      unfold nC at hq
      simp only [Bool.and_eq_true, beq_iff_eq] at hq
      obtain ⟨e0, e1, e2, e3⟩ := hq
      subst e0 e1 e2 e3
      simp only [] at GH
      go_wp2
      refine iR (n := 11) (S := fun w' => St w _ _ _ _ _ w') (ds := []) (bA 11 0) (by kernel_rfl) rfl rfl (S.out.call (bC (Below.refl _ _))) (fun hHeld => ?_); refine fJ uB.Jn uB.EJ (fun ak dZ => ?_)
      replace S := ae.mk (S.out.call (bC (Below.refl _ _)))
      generalize wr.drew = wd1 at S hHeld ⊢
      refine au 0 32 (bA 11 1) ak ?_
      refine au 1 33 (bA 11 3) ak ?_
      refine au 2 34 (bA 11 7) ak ?_
      refine dE 3 35 (bA 11 15) ak dZ hHeld ?_ (hv := by intro w' hs_; have xp0 := (GH.out _ (hs_.blk _ (.head _))).1; have xp1 := (GH.out _ (hs_.blk _ (.head _))).2.1; have xp2 := (GH.out _ (hs_.blk _ (.head _))).2.2.1; have xp3 := (GH.out _ (hs_.blk _ (.head _))).2.2.2; go_simp; with_reducible rfl)
      refine au 4 36 (bA 11 31) ak ?_
      refine dE 5 37 (bA 11 63) ak dZ hHeld ?_ (hv := by intro w' hs_; have iw := (hs_.at (.tail _ (.tail _ (.tail _ (.head _)))) 6).trans rfl; go_simp; with_reducible rfl)
      refine au 6 38 (bA 11 127) ak ?_
      refine au 7 39 (bA 11 255) ak ?_
      refine au 8 40 (bA 11 511) ak ?_
      refine dE 9 41 (bA 11 1023) ak dZ hHeld ?_ (hv := by intro w' hs_; have iM := (hs_.cell _ (.tail _ (.head _))).1; have iO := (hs_.cell _ (.tail _ (.tail _ (.head _)))).1; have iC := (hs_.cell _ (.tail _ (.tail _ (.tail _ (.head _))))).1; have iD := (hs_.cell _ (.tail _ (.tail _ (.tail _ (.tail _ (.head _)))))).1; go_simp; with_reducible rfl)
      refine au 10 42 (bA 11 2047) ak ?_
      refine jI (gQ ak.out (by kernel_rfl)) ?_
      clear hHeld
      go_wp2
      have hw1 := HW1.out
      go_wp2
      go_roundg rest.length
      case measure => exact Nat.lt_of_lt_of_le (Nat.lt_succ_self _) jh.out
      case rel => exact ⟨pre ++ [_], rest, pb ++ [k], rb, (by rw [hw1]), ⟨by rw [List.append_assoc]; exact HE.out⟩, ⟨by rw [List.append_assoc]; exact HE2.out⟩, ⟨by rw [List.length_append, List.length_append, xy.out]; rfl⟩, GI, Nat.le_refl _, ⟨S.out.bW.aT.aT.aT.aT.aT.aT.aT⟩⟩
section
variable {W : World} {b : Nat} {P : Nat → Prop} {A : Option Addr} {cc : Nat}
theorem L6 (c : ai) (hz : sz c ≤ 1048576) (hV : Kd.V k26 26 W b P (.slice A c.f3.length cc) c.f3) :
  Calls Try.prog 79 #[.agg #[.int .u8 c.f0, .int .i64 c.f1.f0, .int .i64 c.f1.f1, .int .i64 c.f1.f2, .int .i64 c.f1.f3, .int .i64 c.f2, .slice A c.f3.length cc]] W fun e w' => ∃ A' c', e = .returned (.slice A' (iH c).length c') ∧ Kd.N k26 26 w' W.heap.size (fun k => P k ∨ W.heap.size ≤ k) (.slice A' (iH c).length c') (iH c) ∧ Below W.heap.size W w' := by
 obtain ⟨k, hk⟩ := (JJ (sz c) c (Nat.le_refl _) hz).rounds
 exact (dY.calls k _ _ _ _ _ _ P A cc c.f3 _ W (dO hV) hk).mono (fun e w' ⟨v, he, hN, hB⟩ => by
  obtain ⟨A', c', rfl⟩ := Kd.jE hN
  exact ⟨A', c', he, hN, hB⟩)
theorem Xd (c : ai) (hz : sz c ≤ 1048576) (hV : Kd.V k26 26 W b P (.slice A c.f3.length cc) c.f3) :
  Calls Try.prog 126 #[.agg #[.int .u8 c.f0, .int .i64 c.f1.f0, .int .i64 c.f1.f1, .int .i64 c.f1.f2, .int .i64 c.f1.f3, .int .i64 c.f2, .slice A c.f3.length cc]] W fun e w' => ∃ A' c', e = .returned (.slice A' (oH c).length c') ∧ Kd.N k26 26 w' W.heap.size (fun k => P k ∨ W.heap.size ≤ k) (.slice A' (oH c).length c') (oH c) ∧ Below W.heap.size W w' := by
 obtain ⟨k, hk⟩ := (UE c hz).rounds
 exact (fA.calls k _ _ _ _ _ _ P A cc c.f3 _ W (dO hV) hk).mono (fun e w' ⟨v, he, hN, hB⟩ => by
  obtain ⟨A', c', rfl⟩ := Kd.jE hN
  exact ⟨A', c', he, hN, hB⟩)
theorem uo {r : dW} {v : Bool} (h : n_ r = v) : Calls Try.prog 57 #[.agg #[.int .i64 r.f0, .int .i64 r.f1, .int .i64 r.f2, .int .i64 r.f3]] W fun e w' => e = .returned (.bool v) ∧ Below W.heap.size W w' :=
 oK.calls _ _ _ _ _ W ((Fj _ _ _ _).trans (congrArg some h))
end
def oW (L M : List ai) : Bool := decide (L.length ≤ 20000) && (L.all qi && gJ M)
theorem r_ {pre rest M : List ai} {k : ai} (h : qi k = false) : oW (pre ++ k :: rest) M = false := by
 unfold oW
 rw [List.all_append, List.all_cons, h, Bool.false_and, Bool.and_false, Bool.false_and, Bool.and_false]
theorem xK {k : ai} (h : n_ k.f1 = false ∨ k.f0 < 1 ∨ 3 < k.f0 ∨ (k.f0 = 1 ∧ (0 < k.f3.length ∨ k.f2 < 0 ∨ 2147483647 < k.f2)) ∨ (1 < k.f0 ∧ (k.f3.length < 2 ∨ k.f2 ≠ 0))) : qi k = false := by
 cases hk : qi k with
 | false => rfl
 | true =>
  exfalso
  unfold qi at hk
  simp only [Bool.and_eq_true, decide_eq_true_eq] at hk
  obtain ⟨⟨⟨h1, h2⟩, h3⟩, h4⟩ := hk
  rcases h with h | h | h | h | h
  ·rw [h1] at h; cases h
  ·omega
  ·omega
  ·have := h3 h.1; omega
  ·have := h4 h.1; omega
theorem PQ {k : ai} (h1 : n_ k.f1 = true) (h2 : 1 ≤ k.f0 ∧ k.f0 ≤ 3) (h3 : k.f0 = 1 → k.f3.length = 0 ∧ 0 ≤ k.f2 ∧ k.f2 ≤ 2147483647) (h4 : k.f0 > 1 → 2 ≤ k.f3.length ∧ k.f2 = 0) : qi k = true := by
 unfold qi
 rw [h1, decide_eq_true h2, decide_eq_true h3, decide_eq_true h4]
 rfl
theorem Oz {pre rest : List ai} {k : ai} (h : oG pre k = false) : gJ (pre ++ k :: rest) = false := by
 have h2 : gJ (pre ++ [k]) = false := by rw [qQ, h, Bool.and_false]
 have h3 := yw (pre ++ [k]) rest h2
 rwa [List.append_assoc] at h3
theorem agb (c : ai) (hz : sz c ≤ 1048576) (A : Option Addr) (cc : Nat) (w : World) (hr : Kd.C k26 w A c.f3.length c.f3) (hc : c.f3.length ≤ cc) :
  Calls Try.prog 38 #[.agg #[.int .u8 c.f0, .int .i64 c.f1.f0, .int .i64 c.f1.f1, .int .i64 c.f1.f2, .int .i64 c.f1.f3, .int .i64 c.f2, .slice A c.f3.length cc]] w fun e w' => e = .returned (.bool (lZ c)) ∧ Below w.heap.size w w' := by
 have S := ae.mk (St.start (ts := [(.slice A c.f3.length cc, c.f3)]) (b0 := w.heap.size) (w := w) (P := fun k => k < w.heap.size) (fun t ht => by
  rw [List.mem_singleton.1 ht]; exact Kd.uJ hc (Kd.Dx nP hr)))
 have HZ := ae.mk hz
 have HM := ae.mk (show lZ c = oW (iH c) (oH c) from rfl)
 have HLZ := ae.mk (show (iH c).length ≤ 1048576 from hz)
 have Yc := ae.mk (show (oH c).length ≤ 1048576 from Nat.le_trans (List.length_filter_le _ _) hz)
 clear hr hc hz
 obtain ⟨ck, ⟨cx, cy, cw, ch⟩, ay, l⟩ := c
 simp only [] at S HZ HM HLZ Yc
 have WM := fun W b P A cc hV => @L6 W b P A cc ⟨ck, ⟨cx, cy, cw, ch⟩, ay, l⟩ HZ.out hV
 have WN := fun W b P A cc hV => @Xd W b P A cc ⟨ck, ⟨cx, cy, cw, ch⟩, ay, l⟩ HZ.out hV
 rw [HM.out]
 generalize iH ⟨ck, ⟨cx, cy, cw, ch⟩, ay, l⟩ = L at HM HLZ WM ⊢
 generalize oH ⟨ck, ⟨cx, cy, cw, ch⟩, ay, l⟩ = M at HM Yc WN ⊢
 have HA := ae.mk WM
 have HLE := ae.mk WN
 clear HM WM WN
 by_cases hl : 20000 < L.length
 case pos =>
  have hla : decide (20000 < (L.length : Int)) = true := decide_eq_true (by omega)
  have hlb : decide ((L.length : Int) > 20000) = true := decide_eq_true (by omega)
  have hlc : decide (20000 < L.length) = true := decide_eq_true (by omega)
  have HB := ae.mk (show oW L M = false by unfold oW; rw [decide_eq_false (by omega), Bool.false_and])
  clear hl
  go_enter Try.func38, Try.ntmps38
  go_wp2_with (first
   | ((with_reducible refine aj 1 rfl ?_); refine boxS 1 #[.int .u8 ck, .int .i64 cx, .int .i64 cy, .int .i64 cw, .int .i64 ch, .int .i64 ay, .slice A l.length cc] 26 S ?_; clear S; intro b1 eH S; obtain ⟨fF, kE, kF, kG, kH, ng, iw⟩ := St.eY S (.head _))
   | ((with_reducible refine aj 9 rfl ?_); refine sO (some 9) Try.func79 S (HA.out _ _ _ _ _ (S.out.tree _ (.head _))) ?_; clear S; intro Aa ca fG S; clear fF kE kF kG kH ng iw)
   | fail)
  go_ret
  refine ⟨?_, S.out.below⟩
  rw [HB.out]
  rfl
 have hla : decide (20000 < (L.length : Int)) = false := decide_eq_false (by omega)
 have hlb : decide ((L.length : Int) > 20000) = false := decide_eq_false (by omega)
 have hlc : decide (20000 < L.length) = false := decide_eq_false (by omega)
 have HL := ae.mk hl
 clear hl
 go_enter Try.func38, Try.ntmps38
 go_wp2_with (first
  | ((with_reducible refine aj 1 rfl ?_); refine boxS 1 #[.int .u8 ck, .int .i64 cx, .int .i64 cy, .int .i64 cw, .int .i64 ch, .int .i64 ay, .slice A l.length cc] 26 S ?_; clear S; intro b1 gV S; obtain ⟨fF, kE, kF, kG, kH, ng, iw⟩ := St.eY S (.head _))
  | ((with_reducible refine aj 9 rfl ?_); refine sO (some 9) Try.func79 S (HA.out _ _ _ _ _ (S.out.tree _ (.head _))) ?_; clear S; intro Aa ca jB S; clear fF kE kF kG kH ng iw)
  | fail)
 clear hla hlb hlc
 go_loopg [15] L.length (fun gg v15 wr => ∃ (pre rest : List ai), v15 = .int .i64 (pre.length : Int) ∧ ae (pre ++ rest = L) ∧ rest.length ≤ gg ∧ ae (pre.all qi = true) ∧ ae (St w (fun k => k < w.heap.size) [(some b1, .cells #[.int .u8 ck, .int .i64 cx, .int .i64 cy, .int .i64 cw, .int .i64 ch, .int .i64 ay, .slice A l.length cc] 26 (0, 0))] [] [(.slice Aa L.length ca, L), (.slice A l.length cc, l)] [] wr))
 case atStart => exact ⟨[], L, rfl, ⟨rfl⟩, Nat.le_refl _, ⟨rfl⟩, ⟨S.out⟩⟩
 case round =>
  clear S
  obtain ⟨pre, rest, rfl, HE, hgg, R_, S⟩ := hrel
  cases rest with
  | cons k rest =>
   have hlt : (pre.length : Int) < (L.length : Int) := by rw [← HE.out, List.length_append, List.length_cons]; omega
   have hw1 : wrap64 ((pre.length : Int) + 1) = ((pre ++ [k]).length : Int) := by have := HLZ.out; rw [List.length_append, List.length_singleton]; unfold wrap64; omega
   have HW1 := ae.mk hw1
   have jh := ae.mk hgg
   obtain ⟨dM, ua, uc, ek, S1⟩ := S.out.elem (.head _) (pre.length : Int) (Int.natCast_nonneg _) hlt
   subst ek
   have hrd : aG L (pre.length : Int) = k := by rw [← HE.out]; exact jF pre k rest
   rw [hrd] at S1
   simp only [Int.toNat_natCast] at S1
   replace S := ae.mk S1
   clear S1 hrd hgg hw1
   cases hmr : n_ k.f1 with
   | false =>
    have zL := ae.mk hmr
    clear hmr
    have HB := ae.mk (show oW L M = false by rw [← HE.out]; exact r_ (xK (.inl zL.out)))
    have iM := (S.out.cell _ (.tail _ (.head _))).1
    have iO := (S.out.cell _ (.tail _ (.tail _ (.head _)))).1
    have iC := (S.out.cell _ (.tail _ (.tail _ (.tail _ (.head _))))).1
    have iD := (S.out.cell _ (.tail _ (.tail _ (.tail _ (.tail _ (.head _)))))).1
    go_wp2_with (first
     | ((with_reducible refine aj 23 rfl ?_); refine dF (some 23) Try.func57 S (uo zL.out) ?_; clear S; intro lQ S; clear iM iO iC iD)
     | fail)
    go_ret
    refine ⟨?_, S.out.below⟩
    rw [HB.out]
    rfl
   | true =>
    have zL := ae.mk hmr
    clear hmr
    by_cases h1 : k.f0 < 1
    case pos =>
     have h1a : decide (k.f0 < 1) = true := decide_eq_true (by omega)
     have h1b : decide (1 > k.f0) = true := decide_eq_true (by omega)
     have HB := ae.mk (show oW L M = false by rw [← HE.out]; exact r_ (xK (.inr (.inl h1))))
     have iM := (S.out.cell _ (.tail _ (.head _))).1
     have iO := (S.out.cell _ (.tail _ (.tail _ (.head _)))).1
     have iC := (S.out.cell _ (.tail _ (.tail _ (.tail _ (.head _))))).1
     have iD := (S.out.cell _ (.tail _ (.tail _ (.tail _ (.tail _ (.head _)))))).1
     go_wp2_with (first
      | ((with_reducible refine aj 23 rfl ?_); refine dF (some 23) Try.func57 S (uo zL.out) ?_; clear S; intro rG S; clear iM iO iC iD; have gY := (S.out.cell _ (.head _)).1)
      | fail)
     clear gY
     go_ret
     refine ⟨?_, S.out.below⟩
     rw [HB.out]
     rfl
    have h1a : decide (k.f0 < 1) = false := decide_eq_false (by omega)
    have h1b : decide (1 > k.f0) = false := decide_eq_false (by omega)
    by_cases h3 : 3 < k.f0
    case pos =>
     have h3a : decide (3 < k.f0) = true := decide_eq_true (by omega)
     have h3b : decide (k.f0 > 3) = true := decide_eq_true (by omega)
     have HB := ae.mk (show oW L M = false by rw [← HE.out]; exact r_ (xK (.inr (.inr (.inl h3)))))
     have iM := (S.out.cell _ (.tail _ (.head _))).1
     have iO := (S.out.cell _ (.tail _ (.tail _ (.head _)))).1
     have iC := (S.out.cell _ (.tail _ (.tail _ (.tail _ (.head _))))).1
     have iD := (S.out.cell _ (.tail _ (.tail _ (.tail _ (.tail _ (.head _)))))).1
     go_wp2_with (first
      | ((with_reducible refine aj 23 rfl ?_); refine dF (some 23) Try.func57 S (uo zL.out) ?_; clear S; intro vG S; clear iM iO iC iD; have gY := (S.out.cell _ (.head _)).1)
      | fail)
     clear gY
     go_ret
     refine ⟨?_, S.out.below⟩
     rw [HB.out]
     rfl
    have h3a : decide (3 < k.f0) = false := decide_eq_false (by omega)
    have h3b : decide (k.f0 > 3) = false := decide_eq_false (by omega)
    by_cases h4 : k.f0 = 1
    case pos =>
     have Bj : (k.f0 == 1) = true := beq_iff_eq.mpr h4
     have h4d : decide (k.f0 = 1) = true := decide_eq_true h4
     by_cases h5 : 0 < k.f3.length
     case pos =>
      have h5a : decide (0 < (k.f3.length : Int)) = true := decide_eq_true (by omega)
      have Hq : decide ((k.f3.length : Int) > 0) = true := decide_eq_true (by omega)
      have TF : decide (0 < k.f3.length) = true := decide_eq_true (by omega)
      have HB := ae.mk (show oW L M = false by rw [← HE.out]; exact r_ (xK (.inr (.inr (.inr (.inl ⟨h4, .inl h5⟩))))))
      have iM := (S.out.cell _ (.tail _ (.head _))).1
      have iO := (S.out.cell _ (.tail _ (.tail _ (.head _)))).1
      have iC := (S.out.cell _ (.tail _ (.tail _ (.tail _ (.head _))))).1
      have iD := (S.out.cell _ (.tail _ (.tail _ (.tail _ (.tail _ (.head _)))))).1
      go_wp2_with (first
       | ((with_reducible refine aj 23 rfl ?_); refine dF (some 23) Try.func57 S (uo zL.out) ?_; clear S; intro yf S; clear iM iO iC iD; have gY := (S.out.cell _ (.head _)).1; have jw := (S.out.cell _ (.tail _ (.tail _ (.tail _ (.tail _ (.tail _ (.tail _ (.head _)))))))).1)
       | fail)
      clear gY jw
      go_ret
      refine ⟨?_, S.out.below⟩
      rw [HB.out]
      rfl
     have h5a : decide (0 < (k.f3.length : Int)) = false := decide_eq_false (by omega)
     have Hq : decide ((k.f3.length : Int) > 0) = false := decide_eq_false (by omega)
     have TF : decide (0 < k.f3.length) = false := decide_eq_false (by omega)
     by_cases h6 : k.f2 < 0
     case pos =>
      have h6a : decide (k.f2 < 0) = true := decide_eq_true (by omega)
      have TG : decide (0 > k.f2) = true := decide_eq_true (by omega)
      have HB := ae.mk (show oW L M = false by rw [← HE.out]; exact r_ (xK (.inr (.inr (.inr (.inl ⟨h4, .inr (.inl h6)⟩))))))
      have iM := (S.out.cell _ (.tail _ (.head _))).1
      have iO := (S.out.cell _ (.tail _ (.tail _ (.head _)))).1
      have iC := (S.out.cell _ (.tail _ (.tail _ (.tail _ (.head _))))).1
      have iD := (S.out.cell _ (.tail _ (.tail _ (.tail _ (.tail _ (.head _)))))).1
      go_wp2_with (first
       | ((with_reducible refine aj 23 rfl ?_); refine dF (some 23) Try.func57 S (uo zL.out) ?_; clear S; intro BF S; clear iM iO iC iD; have gY := (S.out.cell _ (.head _)).1; have jw := (S.out.cell _ (.tail _ (.tail _ (.tail _ (.tail _ (.tail _ (.tail _ (.head _)))))))).1; have jv := (S.out.cell _ (.tail _ (.tail _ (.tail _ (.tail _ (.tail _ (.head _))))))).1)
       | fail)
      clear gY jw jv
      go_ret
      refine ⟨?_, S.out.below⟩
      rw [HB.out]
      rfl
     have h6a : decide (k.f2 < 0) = false := decide_eq_false (by omega)
     have TG : decide (0 > k.f2) = false := decide_eq_false (by omega)
     by_cases h7 : 2147483647 < k.f2
     case pos =>
      have h7a : decide (2147483647 < k.f2) = true := decide_eq_true (by omega)
      have h7b : decide (k.f2 > 2147483647) = true := decide_eq_true (by omega)
      have HB := ae.mk (show oW L M = false by rw [← HE.out]; exact r_ (xK (.inr (.inr (.inr (.inl ⟨h4, .inr (.inr h7)⟩))))))
      have iM := (S.out.cell _ (.tail _ (.head _))).1
      have iO := (S.out.cell _ (.tail _ (.tail _ (.head _)))).1
      have iC := (S.out.cell _ (.tail _ (.tail _ (.tail _ (.head _))))).1
      have iD := (S.out.cell _ (.tail _ (.tail _ (.tail _ (.tail _ (.head _)))))).1
      go_wp2_with (first
       | ((with_reducible refine aj 23 rfl ?_); refine dF (some 23) Try.func57 S (uo zL.out) ?_; clear S; intro zI S; clear iM iO iC iD; have gY := (S.out.cell _ (.head _)).1; have jw := (S.out.cell _ (.tail _ (.tail _ (.tail _ (.tail _ (.tail _ (.tail _ (.head _)))))))).1; have jv := (S.out.cell _ (.tail _ (.tail _ (.tail _ (.tail _ (.tail _ (.head _))))))).1)
       | fail)
      clear gY jw jv
      go_ret
      refine ⟨?_, S.out.below⟩
      rw [HB.out]
      rfl
     have h7a : decide (2147483647 < k.f2) = false := decide_eq_false (by omega)
     have h7b : decide (k.f2 > 2147483647) = false := decide_eq_false (by omega)
     have h8a : decide (1 < k.f0) = false := decide_eq_false (by omega)
     have h8b : decide (k.f0 > 1) = false := decide_eq_false (by omega)
     have HG := ae.mk (PQ zL.out (by omega) (by omega) (by omega))
     have iM := (S.out.cell _ (.tail _ (.head _))).1
     have iO := (S.out.cell _ (.tail _ (.tail _ (.head _)))).1
     have iC := (S.out.cell _ (.tail _ (.tail _ (.tail _ (.head _))))).1
     have iD := (S.out.cell _ (.tail _ (.tail _ (.tail _ (.tail _ (.head _)))))).1
     go_wp2_with (first
      | ((with_reducible refine aj 23 rfl ?_); refine dF (some 23) Try.func57 S (uo zL.out) ?_; clear S; intro yB S; clear iM iO iC iD; have gY := (S.out.cell _ (.head _)).1; have jw := (S.out.cell _ (.tail _ (.tail _ (.tail _ (.tail _ (.tail _ (.tail _ (.head _)))))))).1; have jv := (S.out.cell _ (.tail _ (.tail _ (.tail _ (.tail _ (.tail _ (.head _))))))).1)
      | fail)
     clear gY jw jv
     have hw1 := HW1.out
     go_wp2
     go_roundg rest.length
     case measure => exact Nat.lt_of_lt_of_le (Nat.lt_succ_self _) jh.out
     case rel => exact ⟨pre ++ [k], rest, (by rw [hw1]), ⟨by rw [List.append_assoc]; exact HE.out⟩, Nat.le_refl _, ⟨by rw [List.all_append, R_.out, List.all_cons, HG.out]; rfl⟩, ⟨S.out.bW.aT.aT.aT.aT.aT.aT.aT⟩⟩
    have Bj : (k.f0 == 1) = false := beq_eq_false_iff_ne.mpr h4
    have h4d : decide (k.f0 = 1) = false := decide_eq_false h4
    have h8a : decide (1 < k.f0) = true := decide_eq_true (by omega)
    have h8b : decide (k.f0 > 1) = true := decide_eq_true (by omega)
    by_cases h5 : k.f3.length < 2
    case pos =>
     have h5a : decide ((k.f3.length : Int) < 2) = true := decide_eq_true (by omega)
     have Hq : decide (2 > (k.f3.length : Int)) = true := decide_eq_true (by omega)
     have TF : decide (k.f3.length < 2) = true := decide_eq_true (by omega)
     have HB := ae.mk (show oW L M = false by rw [← HE.out]; exact r_ (xK (.inr (.inr (.inr (.inr ⟨by omega, .inl h5⟩))))))
     have iM := (S.out.cell _ (.tail _ (.head _))).1
     have iO := (S.out.cell _ (.tail _ (.tail _ (.head _)))).1
     have iC := (S.out.cell _ (.tail _ (.tail _ (.tail _ (.head _))))).1
     have iD := (S.out.cell _ (.tail _ (.tail _ (.tail _ (.tail _ (.head _)))))).1
     go_wp2_with (first
      | ((with_reducible refine aj 23 rfl ?_); refine dF (some 23) Try.func57 S (uo zL.out) ?_; clear S; intro AU S; clear iM iO iC iD; have gY := (S.out.cell _ (.head _)).1; have jw := (S.out.cell _ (.tail _ (.tail _ (.tail _ (.tail _ (.tail _ (.tail _ (.head _)))))))).1)
      | fail)
     clear gY jw
     go_ret
     refine ⟨?_, S.out.below⟩
     rw [HB.out]
     rfl
    have h5a : decide ((k.f3.length : Int) < 2) = false := decide_eq_false (by omega)
    have Hq : decide (2 > (k.f3.length : Int)) = false := decide_eq_false (by omega)
    have TF : decide (k.f3.length < 2) = false := decide_eq_false (by omega)
    by_cases h6 : k.f2 = 0
    case neg =>
     have TG : (k.f2 != 0) = true := bne_iff_ne.mpr h6
     have h6c : (k.f2 == 0) = false := beq_eq_false_iff_ne.mpr h6
     have h6d : decide (k.f2 = 0) = false := decide_eq_false h6
     have HB := ae.mk (show oW L M = false by rw [← HE.out]; exact r_ (xK (.inr (.inr (.inr (.inr ⟨by omega, .inr h6⟩))))))
     have iM := (S.out.cell _ (.tail _ (.head _))).1
     have iO := (S.out.cell _ (.tail _ (.tail _ (.head _)))).1
     have iC := (S.out.cell _ (.tail _ (.tail _ (.tail _ (.head _))))).1
     have iD := (S.out.cell _ (.tail _ (.tail _ (.tail _ (.tail _ (.head _)))))).1
     go_wp2_with (first
      | ((with_reducible refine aj 23 rfl ?_); refine dF (some 23) Try.func57 S (uo zL.out) ?_; clear S; intro zJ S; clear iM iO iC iD; have gY := (S.out.cell _ (.head _)).1; have jw := (S.out.cell _ (.tail _ (.tail _ (.tail _ (.tail _ (.tail _ (.tail _ (.head _)))))))).1; have jv := (S.out.cell _ (.tail _ (.tail _ (.tail _ (.tail _ (.tail _ (.head _))))))).1)
      | fail)
     clear gY jw jv
     go_ret
     refine ⟨?_, S.out.below⟩
     rw [HB.out]
     rfl
    have TG : (k.f2 != 0) = false := bne_eq_false_iff_eq.mpr h6
    have h6c : (k.f2 == 0) = true := beq_iff_eq.mpr h6
    have h6d : decide (k.f2 = 0) = true := decide_eq_true h6
    have HG := ae.mk (PQ zL.out (by omega) (by omega) (by omega))
    have iM := (S.out.cell _ (.tail _ (.head _))).1
    have iO := (S.out.cell _ (.tail _ (.tail _ (.head _)))).1
    have iC := (S.out.cell _ (.tail _ (.tail _ (.tail _ (.head _))))).1
    have iD := (S.out.cell _ (.tail _ (.tail _ (.tail _ (.tail _ (.head _)))))).1
    go_wp2_with (first
     | ((with_reducible refine aj 23 rfl ?_); refine dF (some 23) Try.func57 S (uo zL.out) ?_; clear S; intro Gu S; clear iM iO iC iD; have gY := (S.out.cell _ (.head _)).1; have jw := (S.out.cell _ (.tail _ (.tail _ (.tail _ (.tail _ (.tail _ (.tail _ (.head _)))))))).1; have jv := (S.out.cell _ (.tail _ (.tail _ (.tail _ (.tail _ (.tail _ (.head _))))))).1)
     | fail)
    clear gY jw jv
    have hw1 := HW1.out
    go_wp2
    go_roundg rest.length
    case measure => exact Nat.lt_of_lt_of_le (Nat.lt_succ_self _) jh.out
    case rel => exact ⟨pre ++ [k], rest, (by rw [hw1]), ⟨by rw [List.append_assoc]; exact HE.out⟩, Nat.le_refl _, ⟨by rw [List.all_append, R_.out, List.all_cons, HG.out]; rfl⟩, ⟨S.out.bW.aT.aT.aT.aT.aT.aT.aT⟩⟩
  | nil =>
   have hE := HE.out
   rw [List.append_nil] at hE
   subst hE
   clear HE hgg
   have hlt : ¬ ((pre.length : Int) < (pre.length : Int)) := by omega
   obtain ⟨fF, kE, kF, kG, kH, ng, iw⟩ := St.eY S (.head _)
   go_wp2_with (first
    | ((with_reducible refine aj 99 rfl ?_); refine sO (some 99) Try.func126 S (HLE.out _ _ _ _ _ (S.out.tree _ (.tail _ (.head _)))) ?_; clear S; intro Al cl Gv S; clear fF kE kF kG kH ng iw)
    | fail)
   go_loopg [102] M.length (fun gg ahP wr => ∃ (pm rest : List ai), ahP = .int .i64 (pm.length : Int) ∧ ae (pm ++ rest = M) ∧ rest.length ≤ gg ∧ ae (gJ pm = true) ∧ ae (St w (fun k => k < w.heap.size) [(some b1, .cells #[.int .u8 ck, .int .i64 cx, .int .i64 cy, .int .i64 cw, .int .i64 ch, .int .i64 ay, .slice A l.length cc] 26 (0, 0))] [] [(.slice Al M.length cl, M), (.slice Aa pre.length ca, pre), (.slice A l.length cc, l)] [] wr))
   case atStart => exact ⟨[], M, rfl, ⟨rfl⟩, Nat.le_refl _, ⟨rfl⟩, ⟨S.out⟩⟩
   case round =>
    clear S
    rename World => wz
    obtain ⟨pm, rest, rfl, HE, hgg, HD, S⟩ := hrel
    cases rest with
    | nil =>
     have hE := HE.out
     rw [List.append_nil] at hE
     subst hE
     have hlt : ¬ ((pm.length : Int) < (pm.length : Int)) := by omega
     have HB := ae.mk (show oW pre pm = true by unfold oW; rw [R_.out, HD.out, decide_eq_true (by have := HL.out; omega)]; rfl)
     go_wp2
     go_ret
     refine ⟨?_, S.out.below⟩
     rw [HB.out]
     rfl
    | cons k rest =>
     have hlt : (pm.length : Int) < (M.length : Int) := by rw [← HE.out, List.length_append, List.length_cons]; omega
     have hw1 : wrap64 ((pm.length : Int) + 1) = ((pm ++ [k]).length : Int) := by have := Yc.out; rw [List.length_append, List.length_singleton]; unfold wrap64; omega
     have HW1 := ae.mk hw1
     have jh := ae.mk hgg
     have HPM := ae.mk (show pm.length ≤ 1048576 by have := Yc.out; omega)
     have OM := ae.mk hlt
     obtain ⟨dM, ua, uc, ek, S1⟩ := S.out.elem (.head _) (pm.length : Int) (Int.natCast_nonneg _) hlt
     subst ek
     have hrd : aG M (pm.length : Int) = k := by rw [← HE.out]; exact jF pm k rest
     rw [hrd] at S1
     simp only [Int.toNat_natCast] at S1
     replace S := ae.mk S1
     clear S1 hrd hgg hw1
     go_wp2
     have HK0 := ae.mk (show oG [] k = true from rfl)
     go_loopg [7] pm.length (fun gg v7 wr => ∃ (pa pb : List ai), v7 = .int .i64 (pa.length : Int) ∧ ae (pa ++ pb = pm) ∧ pb.length ≤ gg ∧ ae (oG pa k = true) ∧ ae (St w (fun k => k < w.heap.size) [(some b1, .cells #[.int .u8 ck, .int .i64 cx, .int .i64 cy, .int .i64 cw, .int .i64 ch, .int .i64 ay, .slice A l.length cc] 26 (0, 0))] [] [(.slice ua k.f3.length uc, k.f3), (.slice (some dM) M.length cl, M), (.slice Aa pre.length ca, pre), (.slice A l.length cc, l)] [((dM.add (pm.length * 7)), .int .u8 k.f0), (⟨(dM.add (pm.length * 7)).block, (dM.add (pm.length * 7)).off + 1, none⟩, .int .i64 k.f1.f0), (⟨(dM.add (pm.length * 7)).block, (dM.add (pm.length * 7)).off + 2, none⟩, .int .i64 k.f1.f1), (⟨(dM.add (pm.length * 7)).block, (dM.add (pm.length * 7)).off + 3, none⟩, .int .i64 k.f1.f2), (⟨(dM.add (pm.length * 7)).block, (dM.add (pm.length * 7)).off + 4, none⟩, .int .i64 k.f1.f3), (⟨(dM.add (pm.length * 7)).block, (dM.add (pm.length * 7)).off + 5, none⟩, .int .i64 k.f2), (⟨(dM.add (pm.length * 7)).block, (dM.add (pm.length * 7)).off + 6, none⟩, .slice ua k.f3.length uc)] wr))
     case atStart => exact ⟨[], pm, rfl, ⟨rfl⟩, Nat.le_refl _, ⟨rfl⟩, ⟨S.out⟩⟩
     case round =>
      clear S
      rename World => wy
      obtain ⟨pa, pb, rfl, HE2, hgg, HAP, S⟩ := hrel
      cases pb with
      | nil =>
       have hE := HE2.out
       rw [List.append_nil] at hE
       subst hE
       have hlt : ¬ ((pa.length : Int) < (pa.length : Int)) := by omega
       go_wp2
       have hw1 := HW1.out
       go_wp2
       go_roundg rest.length
       case measure => exact Nat.lt_of_lt_of_le (Nat.lt_succ_self _) jh.out
       case rel => exact ⟨pa ++ [k], rest, (by rw [hw1]), ⟨by rw [List.append_assoc]; exact HE.out⟩, Nat.le_refl _, ⟨by rw [qQ, HD.out, HAP.out]; rfl⟩, ⟨S.out.bW.aT.aT.aT.aT.aT.aT.aT⟩⟩
      | cons q pb =>
       have hlt : (pa.length : Int) < (pm.length : Int) := by rw [← HE2.out, List.length_append, List.length_cons]; omega
       have hlt0 := OM.out
       have hlt2 : (pa.length : Int) < (M.length : Int) := by omega
       have hw1 : wrap64 ((pa.length : Int) + 1) = ((pa ++ [q]).length : Int) := by have := HPM.out; rw [List.length_append, List.length_singleton]; unfold wrap64; omega
       have HW2 := ae.mk hw1
       have ag_ := ae.mk hgg
       obtain ⟨adq, va, vc, TB, S1⟩ := S.out.elem (.tail _ (.head _)) (pa.length : Int) (Int.natCast_nonneg _) hlt2
       injection TB with TB
       subst TB
       have hrd : aG M (pa.length : Int) = q := by rw [← HE.out, ← HE2.out, List.append_assoc]; exact jF pa q (pb ++ k :: rest)
       rw [hrd] at S1
       simp only [Int.toNat_natCast] at S1
       replace S := ae.mk S1
       clear S1 hrd hgg hw1
       by_cases hq : k.f2 = q.f2
       case pos =>
        have hqb : (k.f2 == q.f2) = true := beq_iff_eq.mpr hq
        have hqd : decide (k.f2 = q.f2) = true := decide_eq_true hq
        have HQ := ae.mk hq
        clear hq
        have Oy := (S.out.cell _ (.tail _ (.tail _ (.tail _ (.tail _ (.tail _ (.tail _ (.tail _ (.tail _ (.tail _ (.tail _ (.tail _ (.tail _ (.head _)))))))))))))).1
        have jv := (S.out.cell _ (.tail _ (.tail _ (.tail _ (.tail _ (.tail _ (.head _))))))).1
        go_wp2
        go_quiet (fail)
        clear Oy jv
        replace S := ae.mk (S.out.call (dC (Below.refl _ _) nq))
        generalize wr.drewN nq = al1 at S ⊢
        go_wp2
        have HB := ae.mk (show oW pre M = false by unfold oW; rw [← HE.out, Oz (by rw [← HE2.out]; unfold oG; rw [List.all_append, List.all_cons, decide_eq_false (by have := HQ.out; simpa using this), Bool.false_and, Bool.and_false]), Bool.and_false, Bool.and_false])
        go_ret
        refine ⟨?_, S.out.below⟩
        rw [HB.out]
        rfl
       case neg =>
        have hqb : (k.f2 == q.f2) = false := beq_eq_false_iff_ne.mpr hq
        have hqd : decide (k.f2 = q.f2) = false := decide_eq_false hq
        have HQ := ae.mk hq
        clear hq
        have Oy := (S.out.cell _ (.tail _ (.tail _ (.tail _ (.tail _ (.tail _ (.tail _ (.tail _ (.tail _ (.tail _ (.tail _ (.tail _ (.tail _ (.head _)))))))))))))).1
        have jv := (S.out.cell _ (.tail _ (.tail _ (.tail _ (.tail _ (.tail _ (.head _))))))).1
        go_wp2
        go_quiet (fail)
        clear Oy jv
        replace S := ae.mk (S.out.call (dC (Below.refl _ _) nq))
        generalize wr.drewN nq = al2 at S ⊢
        go_wp2
        have hw1 := HW2.out
        go_wp2
        go_roundg pb.length
        case measure => exact Nat.lt_of_lt_of_le (Nat.lt_succ_self _) ag_.out
        case rel => exact ⟨pa ++ [q], pb, (by rw [hw1]), ⟨by rw [List.append_assoc]; exact HE2.out⟩, Nat.le_refl _, ⟨by unfold oG; rw [List.all_append, List.all_cons, decide_eq_true HQ.out]; rw [show (pa.all fun y => decide (k.f2 ≠ y.f2)) = true from HAP.out]; rfl⟩, ⟨S.out.bW.aT.aT.aT.aT.aT.aT.aT⟩⟩
def abM.f (_ : Nat) (a0 a1 a2 a3 a4 a5 : Int) (l : List ai) : Option Bool := if sz ⟨a0, ⟨a1, a2, a3, a4⟩, a5, l⟩ ≤ 1048576 then some (lZ ⟨a0, ⟨a1, a2, a3, a4⟩, a5, l⟩) else none
def eP (c : ai) : Bool := lZ c && lT c
theorem oZ {c : ai} (h : lZ c = true) : sz c ≤ 20000 := by
 unfold lZ at h
 simp only [Bool.and_eq_true, decide_eq_true_eq] at h
 omega
theorem acG : ∀ (N : Nat), (∀ c : ai, sz c ≤ N → ∀ d, d ∈ iH c → sz d ≤ sz c) ∧ (∀ l : List ai, gy l ≤ N → ∀ d, d ∈ allL l → sz d ≤ gy l) := by
 intro N
 induction N with
 | zero =>
  refine ⟨fun c h => ?_, fun l h => ?_⟩
  ·rw [dL] at h; omega
  ·cases l with
   | nil => intro d hd; rw [qC] at hd; cases hd
   | cons z zs => rw [eG, dL] at h; omega
 | succ N ih =>
  have hC : ∀ c : ai, sz c ≤ N + 1 → ∀ d, d ∈ iH c → sz d ≤ sz c := by
   intro c h d hd
   have hs := dL c
   rw [uU] at hd
   rcases List.mem_cons.1 hd with rfl | hd
   ·exact Nat.le_refl _
   ·have := ih.2 c.f3 (by omega) d hd
    omega
  refine ⟨hC, fun l => ?_⟩
  induction l with
  | nil => intro _ d hd; rw [qC] at hd; cases hd
  | cons x xs ihl =>
   intro h d hd
   rw [eG] at h ⊢
   rw [oP] at hd
   rcases List.mem_append.1 hd with hd | hd
   ·have := hC x (by omega) d hd
    omega
   ·have := ihl (by omega) d hd
    omega
theorem VU {c d : ai} (h : d ∈ iH c) : d.f3.length + 1 ≤ sz c := by
 have h1 := (acG (sz c)).1 c (Nat.le_refl _) d h
 have h2 := dL d
 have h3 := jR d.f3
 omega
section
variable {W : World} {b : Nat} {P : Nat → Prop} {A : Option Addr} {cc : Nat}
theorem aeJ (c : ai) (h : ru c = false) (hl : c.f3.length ≤ 1000000) (hV : Kd.V k26 26 W b P (.slice A c.f3.length cc) c.f3) : Calls Try.prog 178 #[.agg #[.int .u8 c.f0, .int .i64 c.f1.f0, .int .i64 c.f1.f1, .int .i64 c.f1.f2, .int .i64 c.f1.f3, .int .i64 c.f2, .slice A c.f3.length cc]] W fun e w' => ∃ A n cc, e = .returned (.tuple #[.slice A n cc, .bool false]) ∧ Below W.heap.size W w' :=
 (UO c hl b P A cc W hV).mono (fun _ _ ⟨A, n, cc, h1, _, h3⟩ => ⟨A, n, cc, by rw [h1, h], h3⟩)
theorem aa_ (c : ai) (h : ru c = true) (hl : c.f3.length ≤ 1000000) (hV : Kd.V k26 26 W b P (.slice A c.f3.length cc) c.f3) : Calls Try.prog 178 #[.agg #[.int .u8 c.f0, .int .i64 c.f1.f0, .int .i64 c.f1.f1, .int .i64 c.f1.f2, .int .i64 c.f1.f3, .int .i64 c.f2, .slice A c.f3.length cc]] W fun e w' => ∃ A cc ls, e = .returned (.tuple #[.slice A ls.length cc, .bool true]) ∧ ls.length ≤ c.f3.length ∧ k23.R 23 w' W.heap.size (fun _ => True) (.slice A ls.length cc) ls ∧ Below W.heap.size W w' :=
 (UO c hl b P A cc W hV).mono (fun _ _ ⟨A, n, cc, h1, h2, h3⟩ => by
  obtain ⟨ls, rfl, h4, h5⟩ := h2 h
  exact ⟨A, cc, ls, by rw [h1, h], h4, h5, h3⟩)
theorem YO {c : ai} {v : Bool} (h : lZ c = v) (hz : sz c ≤ 1048576) (b : Nat) (P : Nat → Prop) (A : Option Addr) (cc : Nat) (W : World) (hV : Kd.V k26 26 W b P (.slice A c.f3.length cc) c.f3) : Calls Try.prog 38 #[.agg #[.int .u8 c.f0, .int .i64 c.f1.f0, .int .i64 c.f1.f1, .int .i64 c.f1.f2, .int .i64 c.f1.f3, .int .i64 c.f2, .slice A c.f3.length cc]] W fun e w' => e = .returned (.bool v) ∧ Below W.heap.size W w' := by
 have h1 := Kd.jY hV
 have h2 := agb c hz A cc W h1.2.2 h1.2.1
 rwa [h] at h2
end
abbrev KQ (w : World) (c : ai) (e : Ending) (w' : World) : Prop := ∃ A n cc n1 n2, e = .returned (.tuple #[.slice A n cc, .int .i64 n1, .int .i64 n2]) ∧ (n1 == 0) = eP c ∧ Below w.heap.size w w'
theorem V7 (c : ai) (hz : sz c ≤ 1048576) (b : Nat) (P : Nat → Prop) (A : Option Addr) (cc : Nat) (w : World) (hv : Kd.V k26 26 w b P (.slice A c.f3.length cc) c.f3) :
  Calls Try.prog 146 #[.agg #[.int .u8 c.f0, .int .i64 c.f1.f0, .int .i64 c.f1.f1, .int .i64 c.f1.f2, .int .i64 c.f1.f3, .int .i64 c.f2, .slice A c.f3.length cc]] w (KQ w c) := by
 have S := ae.mk (St.start (ts := [(.slice A c.f3.length cc, c.f3)]) (b0 := w.heap.size) (w := w) (P := P) (fun t ht => by rw [List.mem_singleton.1 ht]; exact dO hv))
 unfold KQ
 cases hm : lZ c with
 | false =>
  have xA := ae.mk (fun b P A cc W hV => YO hm hz b P A cc W hV)
  rw [show eP c = false by unfold eP; rw [hm]; rfl]
  clear hm hv hz
  obtain ⟨ck, ⟨cx, cy, cw, ch⟩, ay, l⟩ := c
  simp only [] at S xA ⊢
  go_enter Try.func146, Try.ntmps146
  go_wp2_with (first
   | ((with_reducible refine aj 1 rfl ?_); refine boxS 1 #[.int .u8 ck, .int .i64 cx, .int .i64 cy, .int .i64 cw, .int .i64 ch, .int .i64 ay, .slice A l.length cc] 26 S ?_; clear S; intro b1 eH S)
   | ((with_reducible refine aj 11 rfl ?_); refine lY k23 23 rfl 11 S ?_; clear S; intro Ae ce oe fG S HKe; obtain ⟨fF, kE, kF, kG, kH, ng, iw⟩ := St.eY S (.tail _ (.head _)))
   | ((with_reducible refine aj 13 rfl ?_); refine dF (some 13) Try.func38 S (xA.out _ _ _ _ _ (S.out.tree _ (.head _))) ?_; clear S; intro gV S; clear fF kE kF kG kH ng iw)
   | fail)
  go_ret3
  exact ⟨_, _, _, _, _, rfl, rfl, S.out.below⟩
 | true =>
  have xA := ae.mk (fun b P A cc W hV => YO hm hz b P A cc W hV)
  have HAL := ae.mk (fun b P A cc W hV => @L6 W b P A cc c hz hV)
  have hs := oZ hm
  have hk : ∀ k, k ∈ iH c → k.f3.length ≤ 20000 := fun k hk => by have := VU hk; omega
  have hlen : (iH c).length ≤ 20000 := hs
  have ht : eP c = (iH c).all ru := by unfold eP; rw [hm, Bool.true_and]; rfl
  rw [ht]
  generalize iH c = L at HAL hk hlen ⊢
  have gX := ae.mk hlen
  have HKK := ae.mk hk
  clear hm hv hz ht hs hk hlen
  obtain ⟨ck, ⟨cx, cy, cw, ch⟩, ay, l⟩ := c
  simp only [] at S xA HAL ⊢
  go_enter Try.func146, Try.ntmps146
  go_wp2_with (first
   | ((with_reducible refine aj 1 rfl ?_); refine boxS 1 #[.int .u8 ck, .int .i64 cx, .int .i64 cy, .int .i64 cw, .int .i64 ch, .int .i64 ay, .slice A l.length cc] 26 S ?_; clear S; intro b1 eH S)
   | ((with_reducible refine aj 11 rfl ?_); refine lY k23 23 rfl 11 S ?_; clear S; intro Ae ce oe fG S HKe; obtain ⟨fF, kE, kF, kG, kH, ng, iw⟩ := St.eY S (.tail _ (.head _)))
   | ((with_reducible refine aj 13 rfl ?_); refine dF (some 13) Try.func38 S (xA.out _ _ _ _ _ (S.out.tree _ (.head _))) ?_; clear S; intro gV S; clear fF kE kF kG kH ng iw; obtain ⟨fF, kE, kF, kG, kH, ng, iw⟩ := St.eY S (.tail _ (.head _)))
   | ((with_reducible refine aj 17 rfl ?_); refine sO (some 17) Try.func79 S (HAL.out _ _ _ _ _ (S.out.tree _ (.head _))) ?_; clear S; intro Aa ca jB S; clear fF kE kF kG kH ng iw)
   | ((with_reducible refine aj 18 rfl ?_); refine lY k23 23 rfl 18 S ?_; clear S; intro Ap cp op lQ S jf)
   | fail)
  go_loopg [7, 21] L.length (fun gg v7 v21 wr => ∃ (pre rest : List ai) (out : List dW) (Ap : Option Addr) (cp : Nat) (op : Obj), v7 = .slice Ap out.length cp ∧ v21 = .int .i64 (pre.length : Int) ∧ ae (pre ++ rest = L) ∧ ae (pre.all ru = true) ∧ ae (out.length ≤ 20000 * pre.length) ∧ rest.length ≤ gg ∧ ae (KR k23 23 w.heap.size (.slice Ap out.length cp) out op) ∧ ae (St w P [((Value.slice Ap out.length cp).ownBlock, op), ((Value.slice Ae 0 ce).ownBlock, oe), (some b1, .cells #[.int .u8 ck, .int .i64 cx, .int .i64 cy, .int .i64 cw, .int .i64 ch, .int .i64 ay, .slice A l.length cc] 26 (0, 0))] [] [(.slice Aa L.length ca, L), (.slice A l.length cc, l)] [] wr))
  case atStart => exact ⟨[], L, [], _, _, _, rfl, rfl, ⟨rfl⟩, ⟨rfl⟩, ⟨Nat.zero_le _⟩, Nat.le_refl _, jf, S⟩
  case round =>
   clear S jf
   obtain ⟨pre, rest, out, Ap, cp, op, rfl, rfl, HE, HA, HOL, hgg, jf, S⟩ := hrel
   cases rest with
   | nil =>
    have hE := HE.out
    rw [List.append_nil] at hE
    have hE2 := hE.symm
    subst hE2
    clear hE HE hgg
    have hlt : ¬ ((L.length : Int) < (L.length : Int)) := by omega
    go_wp2
    go_ret3
    exact ⟨_, _, _, _, ⟨_, rfl⟩, HA.out.symm, S.out.below⟩
   | cons k rest =>
    have VJ := ae.mk (HKK.out k (by rw [← HE.out]; simp))
    have HKL := ae.mk (show k.f3.length ≤ 1000000 by have := VJ.out; omega)
    have ag' := ae.mk (show pre.length ≤ 20000 by have := gX.out; rw [← HE.out, List.length_append] at this; omega)
    have hk : k ∈ L := by rw [← HE.out]; simp
    have hlt : (pre.length : Int) < (L.length : Int) := by rw [← HE.out, List.length_append, List.length_cons]; omega
    have hw1 : wrap64 ((pre.length : Int) + 1) = ((pre ++ [k]).length : Int) := by have := gX.out; rw [List.length_append, List.length_singleton]; unfold wrap64; omega
    have HW1 := ae.mk hw1
    have jh := ae.mk hgg
    have HK := ae.mk hk
    have tH := ae.mk (show pre.length ≤ 1048576 by have := gX.out; omega)
    obtain ⟨dM, ua, uc, ek, S1⟩ := S.out.elem (.head _) (pre.length : Int) (Int.natCast_nonneg _) hlt
    subst ek
    have hrd : aG L (pre.length : Int) = k := by rw [← HE.out]; exact jF pre k rest
    rw [hrd] at S1
    simp only [Int.toNat_natCast] at S1
    replace S := ae.mk S1
    clear S1 hrd hk hgg hw1
    cases ho : ru k with
    | false =>
     have HO := ae.mk ho
     clear ho
     obtain ⟨gY, iM, iO, iC, iD, jv, jw⟩ := St.yD S
     go_wp2_with (first
      | ((with_reducible refine aj 29 rfl ?_); refine kR (some 29) Try.func178 (aeJ k HO.out HKL.out (S.out.tree _ (.head _))) ?_; rintro e eH ⟨Ax, nx, zX, rfl, hb⟩; refine ⟨_, rfl, ?_⟩; replace S := ae.mk (S.out.call hb); clear hb; clear gY iM iO iC iD jv jw)
      | fail)
     go_ret3
     exact ⟨_, _, _, _, _, rfl, (by rw [← HE.out, List.all_append, List.all_cons, HO.out, Bool.false_and, Bool.and_false]; rfl), S.out.below⟩
    | true =>
     have HO := ae.mk ho
     clear ho
     obtain ⟨gY, iM, iO, iC, iD, jv, jw⟩ := St.yD S
     go_wp2_with (first
      | ((with_reducible refine aj 29 rfl ?_); refine kR (some 29) Try.func178 (aa_ k HO.out HKL.out (S.out.tree _ (.head _))) ?_; rintro e eH ⟨Ax, zX, ls, rfl, h0, h1, hb⟩; refine ⟨_, rfl, ?_⟩; obtain ⟨ox, S1, hI⟩ := S.out.Gn (d := k23) (e := 23) rfl h1 hb; replace S := ae.mk S1; have HKx := ae.mk hI; have OL := ae.mk h0; clear S1 hI h0 h1 hb; clear gY iM iO iC iD jv jw)
      | ((with_reducible refine aj 38 rfl ?_); at_builtin; replace S := ae.mk S.out.uX; refine L9 k23 23 rfl 36 37 42 _ 32 Try.underlying42 info23 rfl (by decide) (by decide) (by decide) S jf ls (VN HKx.out S.out (.tail _ (.head _))).1 (fun _ _ _ _ _ h => h) (by have := HOL.out; have := OL.out; have := VJ.out; have := ag'.out; omega) ?_; clear S jf; intro KO cp2 N7 fG S jf)
      | fail)
     have hw1 := HW1.out
     go_wp2
     go_roundg rest.length
     case measure => exact Nat.lt_of_lt_of_le (Nat.lt_succ_self _) jh.out
     case rel => exact ⟨pre ++ [k], rest, out ++ ls, _, _, _, (by rw [List.length_append]), (by rw [hw1]), ⟨by rw [List.append_assoc]; exact HE.out⟩, ⟨by rw [List.all_append, HA.out, List.all_cons, HO.out]; rfl⟩, ⟨by have := HOL.out; have := OL.out; have := VJ.out; rw [List.length_append, List.length_append, List.length_singleton]; omega⟩, Nat.le_refl _, jf, ⟨S.out.uX.eF.JO.JO.JO.bW.aT.aT.aT.aT.aT.aT.aT⟩⟩
theorem XI (c : ai) (hz : sz c ≤ 1048576) (b : Nat) (P : Nat → Prop) (A : Option Addr) (cc : Nat) (w : World) (hv : Kd.V k26 26 w b P (.slice A c.f3.length cc) c.f3) :
  Calls Try.prog 84 #[.agg #[.int .u8 c.f0, .int .i64 c.f1.f0, .int .i64 c.f1.f1, .int .i64 c.f1.f2, .int .i64 c.f1.f3, .int .i64 c.f2, .slice A c.f3.length cc]] w fun e w' => e = .returned (.bool (eP c)) ∧ Below w.heap.size w w' := by
 have S := ae.mk (St.start (ts := [(.slice A c.f3.length cc, c.f3)]) (b0 := w.heap.size) (w := w) (P := P) (fun t ht => by rw [List.mem_singleton.1 ht]; exact dO hv))
 have X_ := ae.mk (fun b P A cc W hV => V7 c hz b P A cc W hV)
 unfold KQ at X_
 generalize eP c = v at X_ ⊢
 clear hv hz
 obtain ⟨ck, ⟨cx, cy, cw, ch⟩, ay, l⟩ := c
 simp only [] at S X_ ⊢
 go_enter Try.func84, Try.ntmps84
 go_wp2_with (first
  | ((with_reducible refine aj 1 rfl ?_); refine boxS 1 #[.int .u8 ck, .int .i64 cx, .int .i64 cy, .int .i64 cw, .int .i64 ch, .int .i64 ay, .slice A l.length cc] 26 S ?_; clear S; intro b1 eH S; obtain ⟨fF, kE, kF, kG, kH, ng, iw⟩ := St.eY S (.head _))
  | ((with_reducible refine aj 8 rfl ?_); refine kR (some 8) Try.func146 (X_.out _ _ _ _ _ (S.out.tree _ (.head _))) ?_; rintro e fG ⟨Ax, nx, zX, n1, n2, rfl, hn, hb⟩; refine ⟨_, rfl, ?_⟩; have hn2 : decide (n1 = 0) = v := (by rw [← hn]; by_cases h : n1 = 0 <;> simp [h]); replace S := ae.mk (S.out.call hb); clear hb; clear fF kE kF kG kH ng iw)
  | fail)
 go_ret
 exact ⟨rfl, S.out.below⟩
def mP.f (_ : Nat) (a0 a1 a2 a3 a4 a5 : Int) (l : List ai) : Option Bool := if sz ⟨a0, ⟨a1, a2, a3, a4⟩, a5, l⟩ ≤ 1048576 then some (eP ⟨a0, ⟨a1, a2, a3, a4⟩, a5, l⟩) else none
theorem mP.calls (k : Nat) (aA : Int) (aJ : Int) (aH : Int) (aI : Int) (bI : Int) (bJ : Int) (eQ : Option Addr) (eU : Nat) (aK : List (ai)) (r : Bool) (w : World) (pR : Kd.C k26 w eQ aK.length aK) (qH : aK.length ≤ eU) (h : mP.f k aA aJ aH aI bI bJ aK = some r) :
  Calls Try.prog 84 #[.agg #[.int .u8 aA, .int .i64 aJ, .int .i64 aH, .int .i64 aI, .int .i64 bI, .int .i64 bJ, .slice eQ aK.length eU]] w fun e w' => e = .returned (.bool r) ∧ Below w.heap.size w w' := by
 unfold mP.f at h
 split at h
 ·rename_i hz
  injection h with h
  subst h
  exact XI ⟨aA, ⟨aJ, aH, aI, bI⟩, bJ, aK⟩ hz w.heap.size (fun _ => True) eQ eU w (Kd.uJ qH (Kd.qN (Kd.Dx nP pR) (fun _ _ => trivial)))
 ·cases h
theorem Og (c : ai) (hz : sz c ≤ 1048576) : Ev (fun k => mP.f k c.f0 c.f1.f0 c.f1.f1 c.f1.f2 c.f1.f3 c.f2 c.f3) (eP c) := by
 refine Ev.congr (f := fun _ => some (eP c)) (fun k => ?_) (Ev.now _)
 unfold mP.f
 rw [EM, if_pos hz]
end Go.Proofs.Ytfdmfgaiblfbhaa.P
namespace Go.Proofs.Ytfdmfgaiblfbhaa.P
open Go.RowKit Go.Proofs.ag.aW Go.Proofs.ag.dA Go.Proofs.ag.dU
attribute [local go_sem] kM kZ lN l7 kz kC kY lg
def o7.f (aA : Int) (aJ : Int) (aH : Int) (aI : Int) (bI : Int) (bJ : Int) (aK : List (ai)) (a1 : Int) : Option (Bool) := if aA = 2 then (if a1 = 1 then (some true) else (if aA = 3 then (some (a1 == 2)) else (some false))) else (if aA = 3 then (some (a1 == 2)) else (some false))
theorem o7.calls (aA : Int) (aJ : Int) (aH : Int) (aI : Int) (bI : Int) (bJ : Int) (eQ : Option Addr) (eU : Nat) (aK : List (ai)) (a1 : Int) (r : Bool) (w : World) (pR : Kd.C k26 w eQ aK.length aK) (qH : aK.length ≤ eU) (h : o7.f aA aJ aH aI bI bJ aK a1 = some r) :
  Calls Try.prog 88 #[.agg #[.int .u8 aA, .int .i64 aJ, .int .i64 aH, .int .i64 aI, .int .i64 bI, .int .i64 bJ, .slice eQ aK.length eU], .int .u8 a1] w fun e w' => e = .returned (.bool r) ∧ Below w.heap.size w w' := by
 have I8 := Try.underlying26
 clear pR qH
 have HB := ae.mk (Below.refl w.heap.size w)
 have H : (if aA = 2 then (if a1 = 1 then (some true) else (if aA = 3 then (some (a1 == 2)) else (some false))) else (if aA = 3 then (some (a1 == 2)) else (some false))) = some r := h
 clear h
 by_cases c3 : aA = 2
 ·rw [if_pos c3] at H
  have pq : (aA == 2) = true := beq_iff_eq.mpr c3
  have vO : (aA != 2) = false := bne_eq_false_iff_eq.mpr c3
  clear c3
  by_cases c4 : a1 = 1
  ·rw [if_pos c4] at H
   have yu : (a1 == 1) = true := beq_iff_eq.mpr c4
   have MC : (a1 != 1) = false := bne_eq_false_iff_eq.mpr c4
   clear c4
   obtain rfl := Option.some.inj H
   go_enter Try.func88, Try.ntmps88
   go_wp2_with (((with_reducible refine aC (N := 2) rfl ?_); refine aQ ?hg (N := 2) ?hd (cs := #[.int .u8 aA, .int .i64 aJ, .int .i64 aH, .int .i64 aI, .int .i64 bI, .int .i64 bJ, .slice eQ aK.length eU]) (t := 26) ?hr ?_; (case hd => rfl); (case hg => rfl); (case hr => (go_simp; done)); intro iL hg w5 hbox hb; have dQ := ae.mk (hbox); replace HB := ae.mk (az (by repeat ((with_reducible exact HB.out))) hb); clear hb hbox hg; have DK : w5.cell? ⟨iL, 0, none⟩ = some (.int .u8 aA) := (af dQ.out 0).trans rfl; have DL : w5.cell? ⟨iL, 1, none⟩ = some (.int .i64 aJ) := (af dQ.out 1).trans rfl; have DN : w5.cell? ⟨iL, 2, none⟩ = some (.int .i64 aH) := (af dQ.out 2).trans rfl; have DR : w5.cell? ⟨iL, 3, none⟩ = some (.int .i64 aI) := (af dQ.out 3).trans rfl; have DT : w5.cell? ⟨iL, 4, none⟩ = some (.int .i64 bI) := (af dQ.out 4).trans rfl; have DU : w5.cell? ⟨iL, 5, none⟩ = some (.int .i64 bJ) := (af dQ.out 5).trans rfl; have DV : w5.cell? ⟨iL, 6, none⟩ = some (.slice eQ aK.length eU) := (af dQ.out 6).trans rfl; have DW := ah dQ.out 0; have DX := ah dQ.out 1; have DY := ah dQ.out 2; have DZ := ah dQ.out 3; have D5 := ah dQ.out 4; have D6 := ah dQ.out 5; have D7 := ah dQ.out 6))
   go_ret
   exact ⟨by rfl, by repeat ((with_reducible exact HB.out))⟩
  ·rw [if_neg c4] at H
   have yu : (a1 == 1) = false := beq_eq_false_iff_ne.mpr c4
   have MC : (a1 != 1) = true := bne_iff_ne.mpr c4
   by_cases c7 : aA = 3
   ·rw [if_pos c7] at H
    have rU : (aA == 3) = true := beq_iff_eq.mpr c7
    have Qx : (aA != 3) = false := bne_eq_false_iff_eq.mpr c7
    clear c7
    obtain rfl := Option.some.inj H
    go_enter Try.func88, Try.ntmps88
    go_wp2_with (((with_reducible refine aC (N := 2) rfl ?_); refine aQ ?hg (N := 2) ?hd (cs := #[.int .u8 aA, .int .i64 aJ, .int .i64 aH, .int .i64 aI, .int .i64 bI, .int .i64 bJ, .slice eQ aK.length eU]) (t := 26) ?hr ?_; (case hd => rfl); (case hg => rfl); (case hr => (go_simp; done)); intro iL hg w8 hbox hb; have dQ := ae.mk (hbox); replace HB := ae.mk (az (by repeat ((with_reducible exact HB.out))) hb); clear hb hbox hg; have TS : w8.cell? ⟨iL, 0, none⟩ = some (.int .u8 aA) := (af dQ.out 0).trans rfl; have TT : w8.cell? ⟨iL, 1, none⟩ = some (.int .i64 aJ) := (af dQ.out 1).trans rfl; have TU : w8.cell? ⟨iL, 2, none⟩ = some (.int .i64 aH) := (af dQ.out 2).trans rfl; have TV : w8.cell? ⟨iL, 3, none⟩ = some (.int .i64 aI) := (af dQ.out 3).trans rfl; have TW : w8.cell? ⟨iL, 4, none⟩ = some (.int .i64 bI) := (af dQ.out 4).trans rfl; have TY : w8.cell? ⟨iL, 5, none⟩ = some (.int .i64 bJ) := (af dQ.out 5).trans rfl; have TZ : w8.cell? ⟨iL, 6, none⟩ = some (.slice eQ aK.length eU) := (af dQ.out 6).trans rfl; have Uk := ah dQ.out 0; have Ul := ah dQ.out 1; have Um := ah dQ.out 2; have Un := ah dQ.out 3; have Uo := ah dQ.out 4; have Ur := ah dQ.out 5; have Us := ah dQ.out 6))
    go_ret
    exact ⟨by rfl, by repeat ((with_reducible exact HB.out))⟩
   ·rw [if_neg c7] at H
    have rU : (aA == 3) = false := beq_eq_false_iff_ne.mpr c7
    have Qx : (aA != 3) = true := bne_iff_ne.mpr c7
    obtain rfl := Option.some.inj H
    go_enter Try.func88, Try.ntmps88
    go_wp2_with (((with_reducible refine aC (N := 2) rfl ?_); refine aQ ?hg (N := 2) ?hd (cs := #[.int .u8 aA, .int .i64 aJ, .int .i64 aH, .int .i64 aI, .int .i64 bI, .int .i64 bJ, .slice eQ aK.length eU]) (t := 26) ?hr ?_; (case hd => rfl); (case hg => rfl); (case hr => (go_simp; done)); intro iL hg w10 hbox hb; have dQ := ae.mk (hbox); replace HB := ae.mk (az (by repeat ((with_reducible exact HB.out))) hb); clear hb hbox hg; have Zp : w10.cell? ⟨iL, 0, none⟩ = some (.int .u8 aA) := (af dQ.out 0).trans rfl; have Zq : w10.cell? ⟨iL, 1, none⟩ = some (.int .i64 aJ) := (af dQ.out 1).trans rfl; have Zr : w10.cell? ⟨iL, 2, none⟩ = some (.int .i64 aH) := (af dQ.out 2).trans rfl; have Zt : w10.cell? ⟨iL, 3, none⟩ = some (.int .i64 aI) := (af dQ.out 3).trans rfl; have Zu : w10.cell? ⟨iL, 4, none⟩ = some (.int .i64 bI) := (af dQ.out 4).trans rfl; have Zv : w10.cell? ⟨iL, 5, none⟩ = some (.int .i64 bJ) := (af dQ.out 5).trans rfl; have Zw : w10.cell? ⟨iL, 6, none⟩ = some (.slice eQ aK.length eU) := (af dQ.out 6).trans rfl; have Z9 := ah dQ.out 0; have Z_ := ah dQ.out 1; have aab := ah dQ.out 2; have aac := ah dQ.out 3; have aad := ah dQ.out 4; have aae := ah dQ.out 5; have aaf := ah dQ.out 6))
    go_ret
    exact ⟨by rfl, by repeat ((with_reducible exact HB.out))⟩
 ·rw [if_neg c3] at H
  have pq : (aA == 2) = false := beq_eq_false_iff_ne.mpr c3
  have vO : (aA != 2) = true := bne_iff_ne.mpr c3
  by_cases c12 : aA = 3
  ·rw [if_pos c12] at H
   have yI : (aA == 3) = true := beq_iff_eq.mpr c12
   have G_ : (aA != 3) = false := bne_eq_false_iff_eq.mpr c12
   clear c12
   obtain rfl := Option.some.inj H
   go_enter Try.func88, Try.ntmps88
   go_wp2_with (((with_reducible refine aC (N := 2) rfl ?_); refine aQ ?hg (N := 2) ?hd (cs := #[.int .u8 aA, .int .i64 aJ, .int .i64 aH, .int .i64 aI, .int .i64 bI, .int .i64 bJ, .slice eQ aK.length eU]) (t := 26) ?hr ?_; (case hd => rfl); (case hg => rfl); (case hr => (go_simp; done)); intro iL hg sG hbox hb; have dQ := ae.mk (hbox); replace HB := ae.mk (az (by repeat ((with_reducible exact HB.out))) hb); clear hb hbox hg; have IM : sG.cell? ⟨iL, 0, none⟩ = some (.int .u8 aA) := (af dQ.out 0).trans rfl; have IP : sG.cell? ⟨iL, 1, none⟩ = some (.int .i64 aJ) := (af dQ.out 1).trans rfl; have IQ : sG.cell? ⟨iL, 2, none⟩ = some (.int .i64 aH) := (af dQ.out 2).trans rfl; have IU : sG.cell? ⟨iL, 3, none⟩ = some (.int .i64 aI) := (af dQ.out 3).trans rfl; have ZG : sG.cell? ⟨iL, 4, none⟩ = some (.int .i64 bI) := (af dQ.out 4).trans rfl; have ZH : sG.cell? ⟨iL, 5, none⟩ = some (.int .i64 bJ) := (af dQ.out 5).trans rfl; have ZI : sG.cell? ⟨iL, 6, none⟩ = some (.slice eQ aK.length eU) := (af dQ.out 6).trans rfl; have IV := ah dQ.out 0; have IW := ah dQ.out 1; have IX := ah dQ.out 2; have IY := ah dQ.out 3; have aao := ah dQ.out 4; have aap := ah dQ.out 5; have aaq := ah dQ.out 6))
   go_ret
   exact ⟨by rfl, by repeat ((with_reducible exact HB.out))⟩
  ·rw [if_neg c12] at H
   have yI : (aA == 3) = false := beq_eq_false_iff_ne.mpr c12
   have G_ : (aA != 3) = true := bne_iff_ne.mpr c12
   obtain rfl := Option.some.inj H
   go_enter Try.func88, Try.ntmps88
   go_wp2_with (((with_reducible refine aC (N := 2) rfl ?_); refine aQ ?hg (N := 2) ?hd (cs := #[.int .u8 aA, .int .i64 aJ, .int .i64 aH, .int .i64 aI, .int .i64 bI, .int .i64 bJ, .slice eQ aK.length eU]) (t := 26) ?hr ?_; (case hd => rfl); (case hg => rfl); (case hr => (go_simp; done)); intro iL hg tJ hbox hb; have dQ := ae.mk (hbox); replace HB := ae.mk (az (by repeat ((with_reducible exact HB.out))) hb); clear hb hbox hg; have Pg : tJ.cell? ⟨iL, 0, none⟩ = some (.int .u8 aA) := (af dQ.out 0).trans rfl; have Ph : tJ.cell? ⟨iL, 1, none⟩ = some (.int .i64 aJ) := (af dQ.out 1).trans rfl; have Pj : tJ.cell? ⟨iL, 2, none⟩ = some (.int .i64 aH) := (af dQ.out 2).trans rfl; have Pm : tJ.cell? ⟨iL, 3, none⟩ = some (.int .i64 aI) := (af dQ.out 3).trans rfl; have ZJ : tJ.cell? ⟨iL, 4, none⟩ = some (.int .i64 bI) := (af dQ.out 4).trans rfl; have ZK : tJ.cell? ⟨iL, 5, none⟩ = some (.int .i64 bJ) := (af dQ.out 5).trans rfl; have ZL : tJ.cell? ⟨iL, 6, none⟩ = some (.slice eQ aK.length eU) := (af dQ.out 6).trans rfl; have Px := ah dQ.out 0; have Py := ah dQ.out 1; have Pz := ah dQ.out 2; have PD := ah dQ.out 3; have aar := ah dQ.out 4; have aas := ah dQ.out 5; have aat := ah dQ.out 6))
   go_ret
   exact ⟨by rfl, by repeat ((with_reducible exact HB.out))⟩
def qW.f (aA : Int) (aJ : Int) (aH : Int) (aI : Int) (bI : Int) (bJ : Int) (aK : List (ai)) (a1 : Int) : Option (Bool) := if aA = 2 then (if a1 = 1 then (some true) else (if aA = 3 then (some (a1 == 2)) else (some false))) else (if aA = 3 then (some (a1 == 2)) else (some false))
theorem qW.calls (aA : Int) (aJ : Int) (aH : Int) (aI : Int) (bI : Int) (bJ : Int) (eQ : Option Addr) (eU : Nat) (aK : List (ai)) (a1 : Int) (r : Bool) (w : World) (pR : Kd.C k26 w eQ aK.length aK) (qH : aK.length ≤ eU) (h : qW.f aA aJ aH aI bI bJ aK a1 = some r) :
  Calls Try.prog 99 #[.agg #[.int .u8 aA, .int .i64 aJ, .int .i64 aH, .int .i64 aI, .int .i64 bI, .int .i64 bJ, .slice eQ aK.length eU], .int .u8 a1] w fun e w' => e = .returned (.bool r) ∧ Below w.heap.size w w' := by
 have I8 := Try.underlying26
 clear pR qH
 have HB := ae.mk (Below.refl w.heap.size w)
 have H : (if aA = 2 then (if a1 = 1 then (some true) else (if aA = 3 then (some (a1 == 2)) else (some false))) else (if aA = 3 then (some (a1 == 2)) else (some false))) = some r := h
 clear h
 by_cases c3 : aA = 2
 ·rw [if_pos c3] at H
  have pq : (aA == 2) = true := beq_iff_eq.mpr c3
  have vO : (aA != 2) = false := bne_eq_false_iff_eq.mpr c3
  clear c3
  by_cases c4 : a1 = 1
  ·rw [if_pos c4] at H
   have yu : (a1 == 1) = true := beq_iff_eq.mpr c4
   have MC : (a1 != 1) = false := bne_eq_false_iff_eq.mpr c4
   clear c4
   obtain rfl := Option.some.inj H
   go_enter Try.func99, Try.ntmps99
   go_wp2_with (((with_reducible refine aC (N := 2) rfl ?_); refine aQ ?hg (N := 2) ?hd (cs := #[.int .u8 aA, .int .i64 aJ, .int .i64 aH, .int .i64 aI, .int .i64 bI, .int .i64 bJ, .slice eQ aK.length eU]) (t := 26) ?hr ?_; (case hd => rfl); (case hg => rfl); (case hr => (go_simp; done)); intro iK hg w5 hbox hb; have dP := ae.mk (hbox); replace HB := ae.mk (az (by repeat ((with_reducible exact HB.out))) hb); clear hb hbox hg; have DK : w5.cell? ⟨iK, 0, none⟩ = some (.int .u8 aA) := (af dP.out 0).trans rfl; have DL : w5.cell? ⟨iK, 1, none⟩ = some (.int .i64 aJ) := (af dP.out 1).trans rfl; have DN : w5.cell? ⟨iK, 2, none⟩ = some (.int .i64 aH) := (af dP.out 2).trans rfl; have DR : w5.cell? ⟨iK, 3, none⟩ = some (.int .i64 aI) := (af dP.out 3).trans rfl; have DT : w5.cell? ⟨iK, 4, none⟩ = some (.int .i64 bI) := (af dP.out 4).trans rfl; have DU : w5.cell? ⟨iK, 5, none⟩ = some (.int .i64 bJ) := (af dP.out 5).trans rfl; have DV : w5.cell? ⟨iK, 6, none⟩ = some (.slice eQ aK.length eU) := (af dP.out 6).trans rfl; have DW := ah dP.out 0; have DX := ah dP.out 1; have DY := ah dP.out 2; have DZ := ah dP.out 3; have D5 := ah dP.out 4; have D6 := ah dP.out 5; have D7 := ah dP.out 6))
   go_ret
   exact ⟨by rfl, by repeat ((with_reducible exact HB.out))⟩
  ·rw [if_neg c4] at H
   have yu : (a1 == 1) = false := beq_eq_false_iff_ne.mpr c4
   have MC : (a1 != 1) = true := bne_iff_ne.mpr c4
   by_cases c7 : aA = 3
   ·rw [if_pos c7] at H
    have rU : (aA == 3) = true := beq_iff_eq.mpr c7
    have Qx : (aA != 3) = false := bne_eq_false_iff_eq.mpr c7
    clear c7
    obtain rfl := Option.some.inj H
    go_enter Try.func99, Try.ntmps99
    go_wp2_with (((with_reducible refine aC (N := 2) rfl ?_); refine aQ ?hg (N := 2) ?hd (cs := #[.int .u8 aA, .int .i64 aJ, .int .i64 aH, .int .i64 aI, .int .i64 bI, .int .i64 bJ, .slice eQ aK.length eU]) (t := 26) ?hr ?_; (case hd => rfl); (case hg => rfl); (case hr => (go_simp; done)); intro iK hg w8 hbox hb; have dP := ae.mk (hbox); replace HB := ae.mk (az (by repeat ((with_reducible exact HB.out))) hb); clear hb hbox hg; have TS : w8.cell? ⟨iK, 0, none⟩ = some (.int .u8 aA) := (af dP.out 0).trans rfl; have TT : w8.cell? ⟨iK, 1, none⟩ = some (.int .i64 aJ) := (af dP.out 1).trans rfl; have TU : w8.cell? ⟨iK, 2, none⟩ = some (.int .i64 aH) := (af dP.out 2).trans rfl; have TV : w8.cell? ⟨iK, 3, none⟩ = some (.int .i64 aI) := (af dP.out 3).trans rfl; have TW : w8.cell? ⟨iK, 4, none⟩ = some (.int .i64 bI) := (af dP.out 4).trans rfl; have TY : w8.cell? ⟨iK, 5, none⟩ = some (.int .i64 bJ) := (af dP.out 5).trans rfl; have TZ : w8.cell? ⟨iK, 6, none⟩ = some (.slice eQ aK.length eU) := (af dP.out 6).trans rfl; have Uk := ah dP.out 0; have Ul := ah dP.out 1; have Um := ah dP.out 2; have Un := ah dP.out 3; have Uo := ah dP.out 4; have Ur := ah dP.out 5; have Us := ah dP.out 6))
    go_ret
    exact ⟨by rfl, by repeat ((with_reducible exact HB.out))⟩
   ·rw [if_neg c7] at H
    have rU : (aA == 3) = false := beq_eq_false_iff_ne.mpr c7
    have Qx : (aA != 3) = true := bne_iff_ne.mpr c7
    obtain rfl := Option.some.inj H
    go_enter Try.func99, Try.ntmps99
    go_wp2_with (((with_reducible refine aC (N := 2) rfl ?_); refine aQ ?hg (N := 2) ?hd (cs := #[.int .u8 aA, .int .i64 aJ, .int .i64 aH, .int .i64 aI, .int .i64 bI, .int .i64 bJ, .slice eQ aK.length eU]) (t := 26) ?hr ?_; (case hd => rfl); (case hg => rfl); (case hr => (go_simp; done)); intro iK hg w10 hbox hb; have dP := ae.mk (hbox); replace HB := ae.mk (az (by repeat ((with_reducible exact HB.out))) hb); clear hb hbox hg; have Zp : w10.cell? ⟨iK, 0, none⟩ = some (.int .u8 aA) := (af dP.out 0).trans rfl; have Zq : w10.cell? ⟨iK, 1, none⟩ = some (.int .i64 aJ) := (af dP.out 1).trans rfl; have Zr : w10.cell? ⟨iK, 2, none⟩ = some (.int .i64 aH) := (af dP.out 2).trans rfl; have Zt : w10.cell? ⟨iK, 3, none⟩ = some (.int .i64 aI) := (af dP.out 3).trans rfl; have Zu : w10.cell? ⟨iK, 4, none⟩ = some (.int .i64 bI) := (af dP.out 4).trans rfl; have Zv : w10.cell? ⟨iK, 5, none⟩ = some (.int .i64 bJ) := (af dP.out 5).trans rfl; have Zw : w10.cell? ⟨iK, 6, none⟩ = some (.slice eQ aK.length eU) := (af dP.out 6).trans rfl; have Z9 := ah dP.out 0; have Z_ := ah dP.out 1; have aab := ah dP.out 2; have aac := ah dP.out 3; have aad := ah dP.out 4; have aae := ah dP.out 5; have aaf := ah dP.out 6))
    go_ret
    exact ⟨by rfl, by repeat ((with_reducible exact HB.out))⟩
 ·rw [if_neg c3] at H
  have pq : (aA == 2) = false := beq_eq_false_iff_ne.mpr c3
  have vO : (aA != 2) = true := bne_iff_ne.mpr c3
  by_cases c12 : aA = 3
  ·rw [if_pos c12] at H
   have yI : (aA == 3) = true := beq_iff_eq.mpr c12
   have G_ : (aA != 3) = false := bne_eq_false_iff_eq.mpr c12
   clear c12
   obtain rfl := Option.some.inj H
   go_enter Try.func99, Try.ntmps99
   go_wp2_with (((with_reducible refine aC (N := 2) rfl ?_); refine aQ ?hg (N := 2) ?hd (cs := #[.int .u8 aA, .int .i64 aJ, .int .i64 aH, .int .i64 aI, .int .i64 bI, .int .i64 bJ, .slice eQ aK.length eU]) (t := 26) ?hr ?_; (case hd => rfl); (case hg => rfl); (case hr => (go_simp; done)); intro iK hg sG hbox hb; have dP := ae.mk (hbox); replace HB := ae.mk (az (by repeat ((with_reducible exact HB.out))) hb); clear hb hbox hg; have IM : sG.cell? ⟨iK, 0, none⟩ = some (.int .u8 aA) := (af dP.out 0).trans rfl; have IP : sG.cell? ⟨iK, 1, none⟩ = some (.int .i64 aJ) := (af dP.out 1).trans rfl; have IQ : sG.cell? ⟨iK, 2, none⟩ = some (.int .i64 aH) := (af dP.out 2).trans rfl; have IU : sG.cell? ⟨iK, 3, none⟩ = some (.int .i64 aI) := (af dP.out 3).trans rfl; have ZG : sG.cell? ⟨iK, 4, none⟩ = some (.int .i64 bI) := (af dP.out 4).trans rfl; have ZH : sG.cell? ⟨iK, 5, none⟩ = some (.int .i64 bJ) := (af dP.out 5).trans rfl; have ZI : sG.cell? ⟨iK, 6, none⟩ = some (.slice eQ aK.length eU) := (af dP.out 6).trans rfl; have IV := ah dP.out 0; have IW := ah dP.out 1; have IX := ah dP.out 2; have IY := ah dP.out 3; have aao := ah dP.out 4; have aap := ah dP.out 5; have aaq := ah dP.out 6))
   go_ret
   exact ⟨by rfl, by repeat ((with_reducible exact HB.out))⟩
  ·rw [if_neg c12] at H
   have yI : (aA == 3) = false := beq_eq_false_iff_ne.mpr c12
   have G_ : (aA != 3) = true := bne_iff_ne.mpr c12
   obtain rfl := Option.some.inj H
   go_enter Try.func99, Try.ntmps99
   go_wp2_with (((with_reducible refine aC (N := 2) rfl ?_); refine aQ ?hg (N := 2) ?hd (cs := #[.int .u8 aA, .int .i64 aJ, .int .i64 aH, .int .i64 aI, .int .i64 bI, .int .i64 bJ, .slice eQ aK.length eU]) (t := 26) ?hr ?_; (case hd => rfl); (case hg => rfl); (case hr => (go_simp; done)); intro iK hg tJ hbox hb; have dP := ae.mk (hbox); replace HB := ae.mk (az (by repeat ((with_reducible exact HB.out))) hb); clear hb hbox hg; have Pg : tJ.cell? ⟨iK, 0, none⟩ = some (.int .u8 aA) := (af dP.out 0).trans rfl; have Ph : tJ.cell? ⟨iK, 1, none⟩ = some (.int .i64 aJ) := (af dP.out 1).trans rfl; have Pj : tJ.cell? ⟨iK, 2, none⟩ = some (.int .i64 aH) := (af dP.out 2).trans rfl; have Pm : tJ.cell? ⟨iK, 3, none⟩ = some (.int .i64 aI) := (af dP.out 3).trans rfl; have ZJ : tJ.cell? ⟨iK, 4, none⟩ = some (.int .i64 bI) := (af dP.out 4).trans rfl; have ZK : tJ.cell? ⟨iK, 5, none⟩ = some (.int .i64 bJ) := (af dP.out 5).trans rfl; have ZL : tJ.cell? ⟨iK, 6, none⟩ = some (.slice eQ aK.length eU) := (af dP.out 6).trans rfl; have Px := ah dP.out 0; have Py := ah dP.out 1; have Pz := ah dP.out 2; have PD := ah dP.out 3; have aar := ah dP.out 4; have aas := ah dP.out 5; have aat := ah dP.out 6))
   go_ret
   exact ⟨by rfl, by repeat ((with_reducible exact HB.out))⟩
end Go.Proofs.Ytfdmfgaiblfbhaa.P
namespace Go.Proofs.Ytfdmfgaiblfbhaa.P
open Go.RowKit Go.Proofs.ag.aW Go.Proofs.ag.dA Go.Proofs.ag.dU
def jC (ax k : Int) : Bool := (k == 2 && ax == 1) || (k == 3 && ax == 2)
theorem BO (c : ai) (ax : Int) : qW.f c.f0 c.f1.f0 c.f1.f1 c.f1.f2 c.f1.f3 c.f2 c.f3 ax = some (jC ax c.f0) := by
 unfold qW.f jC
 by_cases h2 : c.f0 = 2
 ·by_cases h1 : ax = 1
  ·rw [if_pos h2, if_pos h1]; simp [h2, h1]
  ·rw [if_pos h2, if_neg h1, if_neg (by omega)]; simp [h2, h1]
 ·rw [if_neg h2]
  by_cases h3 : c.f0 = 3
  ·rw [if_pos h3]; simp [h3]
  ·rw [if_neg h3]; simp [h2, h3]
theorem Fg (c : ai) (ax : Int) : o7.f c.f0 c.f1.f0 c.f1.f1 c.f1.f2 c.f1.f3 c.f2 c.f3 ax = some (jC ax c.f0) := BO c ax
mutual
def dX (ax : Int) : ai → Int
 | ⟨a, _, _, l⟩ => if a = 1 then 1 else if jC ax a = true then ((l.length : Int) - 1) + nH ax l else pU ax 0 l
def nH (ax : Int) : List ai → Int
 | [] => 0
 | k :: ks => dX ax k + nH ax ks
def pU (ax : Int) : Int → List ai → Int
 | m, [] => m
 | m, k :: ks => pU ax (mx m (dX ax k)) ks
end
theorem xH (ax : Int) (c : ai) : dX ax c = if c.f0 = 1 then 1 else if jC ax c.f0 = true then ((c.f3.length : Int) - 1) + nH ax c.f3 else pU ax 0 c.f3 := by cases c; simp [dX]
theorem uN (ax : Int) : nH ax [] = 0 := by simp [nH]
theorem vk (ax : Int) (k : ai) (ks : List ai) : nH ax (k :: ks) = dX ax k + nH ax ks := by simp [nH]
theorem XT (ax : Int) (a b : List ai) : nH ax (a ++ b) = nH ax a + nH ax b := by
 induction a with
 | nil => rw [List.nil_append, uN]; omega
 | cons x xs ih => rw [List.cons_append, vk, vk, ih]; omega
theorem su (ax m : Int) : pU ax m [] = m := by simp [pU]
theorem qK (ax m : Int) (k : ai) (ks : List ai) : pU ax m (k :: ks) = pU ax (mx m (dX ax k)) ks := by simp [pU]
theorem YP {a b c : Int} (h : a ≤ c) (k : b ≤ c) : mx a b ≤ c := by unfold mx; split <;> omega
theorem UD (a b : Int) : a ≤ mx a b := by unfold mx; split <;> omega
theorem aeB (a b : Int) : b ≤ mx a b := by unfold mx; split <;> omega
theorem JX (ax : Int) : ∀ (N : Nat), (∀ c : ai, sz c ≤ N → -(sz c : Int) ≤ dX ax c ∧ dX ax c ≤ 2 * (sz c : Int) - 1) ∧
  (∀ l : List ai, gy l ≤ N → -(gy l : Int) ≤ nH ax l ∧ nH ax l ≤ 2 * (gy l : Int) - (l.length : Int)) ∧ (∀ l : List ai, gy l ≤ N → ∀ m : Int, m ≤ pU ax m l ∧ ∀ u, m ≤ u → 2 * (gy l : Int) ≤ u → pU ax m l ≤ u) := by
 intro N
 induction N with
 | zero =>
  refine ⟨fun c h => ?_, fun l h => ?_, fun l h => ?_⟩
  ·rw [dL] at h; omega
  ·cases l with
   | nil => rw [uN, qY]; simp
   | cons z zs => rw [eG, dL] at h; omega
  ·cases l with
   | nil => intro m; rw [su]; exact ⟨Int.le_refl _, fun u h _ => h⟩
   | cons z zs => rw [eG, dL] at h; omega
 | succ N ih =>
  have hC : ∀ c : ai, sz c ≤ N + 1 → -(sz c : Int) ≤ dX ax c ∧ dX ax c ≤ 2 * (sz c : Int) - 1 := by
   intro c h
   have hs := dL c
   have h1 := ih.2.1 c.f3 (by omega)
   have h2 := ih.2.2 c.f3 (by omega) 0
   have h3 := h2.2 (2 * (gy c.f3 : Int)) (by omega) (Int.le_refl _)
   rw [xH]
   split
   ·omega
   ·split
    ·omega
    ·omega
  refine ⟨hC, fun l => ?_, fun l => ?_⟩
  ·induction l with
   | nil => intro _; rw [uN, qY]; simp
   | cons x xs ihl =>
    intro h
    rw [eG] at h ⊢
    have h1 := hC x (by omega)
    have h2 := ihl (by omega)
    rw [vk, List.length_cons]
    omega
  ·induction l with
   | nil => intro _ m; rw [su]; exact ⟨Int.le_refl _, fun u h _ => h⟩
   | cons x xs ihl =>
    intro h m
    rw [eG] at h ⊢
    have h1 := hC x (by omega)
    have h2 := ihl (by omega) (mx m (dX ax x))
    rw [qK]
    refine ⟨Int.le_trans (UD m (dX ax x)) h2.1, fun u hu hu2 => h2.2 u (YP hu (by omega)) (by omega)⟩
theorem Jg {c x : ai} (h : (iH c).all qi = true) (hx : x ∈ c.f3) : (iH x).all qi = true := by
 rw [uU, List.all_cons, Bool.and_eq_true] at h
 obtain ⟨p, q, e⟩ := List.append_of_mem hx
 have h2 := h.2
 rw [e, BN, oP, List.all_append, List.all_append] at h2
 simp only [Bool.and_eq_true] at h2
 exact h2.2.1
theorem wY {c : ai} (h : (iH c).all qi = true) : qi c = true := by
 rw [uU, List.all_cons, Bool.and_eq_true] at h
 exact h.1
theorem NZ {c : ai} (h : qi c = true) : (c.f0 = 1 ∧ c.f3.length = 0) ∨ ((c.f0 = 2 ∨ c.f0 = 3) ∧ 2 ≤ c.f3.length) := by
 unfold qi at h
 simp only [Bool.and_eq_true, decide_eq_true_eq] at h
 obtain ⟨⟨⟨_, h1⟩, h2⟩, h3⟩ := h
 by_cases e : c.f0 = 1
 ·exact .inl ⟨e, (h2 e).1⟩
 ·exact .inr ⟨by omega, (h3 (by omega)).1⟩
theorem CX (ax m : Int) (l : List ai) (k : ai) : pU ax m (l ++ [k]) = mx (pU ax m l) (dX ax k) := by
 induction l generalizing m with
 | nil => rw [List.nil_append, qK, su, su]
 | cons x xs ih => rw [List.cons_append, qK, qK, ih]
def uq (ax : Int) (a : Bool) (pre : List ai) : Int := if a = true then nH ax pre + (if pre.length = 0 then 0 else (pre.length : Int) - 1) else pU ax 0 pre
theorem Eo (ax : Int) (pre : List ai) (k : ai) : nH ax (pre ++ [k]) = nH ax pre + dX ax k := by rw [XT, vk, uN, Int.add_zero]
theorem Om {ax : Int} {pre : List ai} {k : ai} (h : gy pre + sz k ≤ 1048576) : -2097152 ≤ nH ax pre ∧ nH ax pre ≤ 2097152 ∧ -2097152 ≤ dX ax k ∧ dX ax k ≤ 2097152 := by
 have b1 := (JX ax (sz k)).1 k (Nat.le_refl _)
 have b2 := (JX ax (gy pre)).2.1 pre (Nat.le_refl _)
 omega
theorem UM {ax : Int} {pre : List ai} {k : ai} (h : gy pre + sz k ≤ 1048576) (hp : pre.length = 0) : wrap64 (uq ax true pre + dX ax k) = uq ax true (pre ++ [k]) := by
 have b := Om (ax := ax) h
 unfold uq
 rw [if_pos rfl, if_pos rfl, if_pos hp, Eo, List.length_append, List.length_singleton, hp, if_neg (by omega), wq (by omega) (by omega)]
 omega
theorem Xn {ax : Int} {pre : List ai} {k : ai} (h : gy pre + sz k ≤ 1048576) (hp : 0 < pre.length) : wrap64 (wrap64 (uq ax true pre + dX ax k) + 1) = uq ax true (pre ++ [k]) := by
 have b := Om (ax := ax) h
 have hl := jR pre
 unfold uq
 rw [if_pos rfl, if_pos rfl, if_neg (by omega), Eo, List.length_append, List.length_singleton, if_neg (by omega), wq (x := nH ax pre + ((pre.length : Int) - 1) + dX ax k) (by omega) (by omega), wq (by omega) (by omega)]
 omega
theorem aeH {ax : Int} {pre : List ai} {k : ai} (h : uq ax false pre < dX ax k) : dX ax k = uq ax false (pre ++ [k]) := by
 unfold uq at h ⊢
 rw [if_neg (by simp)] at h ⊢
 rw [CX]
 unfold mx
 split <;> omega
theorem Xo {ax : Int} {pre : List ai} {k : ai} (h : ¬ uq ax false pre < dX ax k) : uq ax false pre = uq ax false (pre ++ [k]) := by
 unfold uq at h ⊢
 rw [if_neg (by simp)] at h ⊢
 rw [if_neg (by simp), CX]
 unfold mx
 split <;> omega
theorem PO {ax : Int} {c : ai} (h1 : ¬ c.f0 = 1) (h2 : c.f3.length ≠ 0) : uq ax (jC ax c.f0) c.f3 = dX ax c := by
 rw [xH, if_neg h1]
 unfold uq
 rw [if_neg h2]
 split <;> omega
theorem QY {ax : Int} {pre : List ai} {k : ai} {n : Int} (h : gy pre + sz k ≤ 1048576) (hn : -1 ≤ n ∧ n ≤ 1048576) : wrap64 (n + nH ax pre + dX ax k) = n + nH ax (pre ++ [k]) := by
 have b := Om (ax := ax) h
 rw [Eo, wq (by omega) (by omega)]
 omega
theorem H6 (l : List ai) (i : Int) (h0 : 0 ≤ i) (h1 : i < (l.length : Int)) : aG l i ∈ l := by
 unfold aG
 rw [List.getD_eq_getElem?_getD, List.getElem?_eq_getElem (by omega), Option.getD_some]
 exact List.getElem_mem _
theorem xQ {l : List ai} {k : ai} (h : k ∈ l) : sz k ≤ gy l := by
 obtain ⟨p, q, e⟩ := List.append_of_mem h
 rw [e, nJ, eG]
 omega
def rP (c : ai) : List Int → Option ai
 | [] => some c
 | i :: is => if i < 0 ∨ i ≥ (c.f3.length : Int) then none else rP (aG c.f3 i) is
end Go.Proofs.Ytfdmfgaiblfbhaa.P
namespace Go.Proofs.Ytfdmfgaiblfbhaa.P
open Go.RowKit Go.Proofs.ag.aW Go.Proofs.ag.dA Go.Proofs.ag.dU
attribute [local go_sem] kM lN
section
variable {W : World} {b : Nat} {P : Nat → Prop} {A : Option Addr} {cc : Nat}
theorem OV {c : ai} {ax : Int} {v : Bool} (h : jC ax c.f0 = v) (hV : Kd.V k26 26 W b P (.slice A c.f3.length cc) c.f3) :
  Calls Try.prog 99 #[.agg #[.int .u8 c.f0, .int .i64 c.f1.f0, .int .i64 c.f1.f1, .int .i64 c.f1.f2, .int .i64 c.f1.f3, .int .i64 c.f2, .slice A c.f3.length cc], .int .u8 ax] W fun e w' => e = .returned (.bool v) ∧ Below W.heap.size W w' :=
 have h2 := Kd.jY hV
 qW.calls _ _ _ _ _ _ A cc c.f3 ax _ W h2.2.2 h2.2.1 ((BO c ax).trans (congrArg some h))
end
theorem Xb (ax : Int) : ∀ (N : Nat) (c : ai), sz c ≤ N → N ≤ 1048576 → ∀ (b : Nat) (P : Nat → Prop) (A : Option Addr) (cc : Nat) (w : World), Kd.V k26 26 w b P (.slice A c.f3.length cc) c.f3 →
  Calls Try.prog 149 #[.agg #[.int .u8 c.f0, .int .i64 c.f1.f0, .int .i64 c.f1.f1, .int .i64 c.f1.f2, .int .i64 c.f1.f3, .int .i64 c.f2, .slice A c.f3.length cc], .int .u8 ax] w fun e w' => e = .returned (.int .i64 (dX ax c)) ∧ Below w.heap.size w w' := by
 intro N
 induction N with
 | zero => intro c h; rw [dL] at h; omega
 | succ N ih =>
  intro c hc hN b P A cc w hv
  have hsz := dL c
  have hlen := jR c.f3
  have S := ae.mk (St.start (ts := [(.slice A c.f3.length cc, c.f3)]) (b0 := w.heap.size) (w := w) (P := P) (fun t ht => by rw [List.mem_singleton.1 ht]; exact dO hv))
  have gX := ae.mk (show c.f3.length ≤ 1048576 by omega)
  have yT := ae.mk (show gy c.f3 ≤ 1048576 by omega)
  have IH := ae.mk fun (k : ai) (hk : k ∈ c.f3) A cc w {b P} h => ih k (by have := xQ hk; omega) (by omega) b P A cc w h
  have hE := fun h1 h2 => @PO ax c h1 h2
  have hL := xH ax c
  generalize dX ax c = R at hE hL ⊢
  obtain ⟨ck, ⟨cx, cy, cw, ch⟩, ay, l⟩ := c
  simp only [] at S gX yT IH hE hL ⊢
  clear ih hc hN hv hsz hlen
  by_cases h1 : ck = 1
  case pos =>
   have HR := ae.mk (show R = 1 by rw [hL, if_pos h1])
   have h1a : (ck == 1) = true := beq_iff_eq.mpr (by omega)
   have h1b : (ck != 1) = false := bne_eq_false_iff_eq.mpr (by omega)
   have h1d : decide (ck = 1) = true := decide_eq_true (by omega)
   clear h1 hE hL
   go_enter Try.func149, Try.ntmps149
   go_wp2_with (first
    | ((with_reducible refine aj 2 rfl ?_); refine boxS 2 #[.int .u8 ck, .int .i64 cx, .int .i64 cy, .int .i64 cw, .int .i64 ch, .int .i64 ay, .slice A l.length cc] 26 S ?_; clear S; intro b2 eH S; have bQ := (S.out.at (.head _) 0).trans rfl)
    | fail)
   clear bQ
   go_ret
   rw [HR.out]
   exact ⟨rfl, S.out.below⟩
  rw [if_neg h1] at hL
  have HR := ae.mk hL
  have h1a : (ck == 1) = false := beq_eq_false_iff_ne.mpr (by omega)
  have h1b : (ck != 1) = true := bne_iff_ne.mpr (by omega)
  have h1d : decide (ck = 1) = false := decide_eq_false (by omega)
  have HWL := ae.mk (show wrap64 ((l.length : Int) - 1) = (l.length : Int) - 1 by have := gX.out; unfold wrap64; omega)
  clear h1 hE hL
  go_enter Try.func149, Try.ntmps149
  go_wp2_with (first
   | ((with_reducible refine aj 2 rfl ?_); refine boxS 2 #[.int .u8 ck, .int .i64 cx, .int .i64 cy, .int .i64 cw, .int .i64 ch, .int .i64 ay, .slice A l.length cc] 26 S ?_; clear S; intro b2 fG S; have bQ := (S.out.at (.head _) 0).trans rfl; have bu := (S.out.at (.head _) 6).trans rfl)
   | fail)
  clear bQ bu
  go_loopg [5, 6, 20] l.length (fun gg v5 v6 v20 wr => ∃ (pre rest : List ai), v5 = .int .i64 ((l.length : Int) - 1 + nH ax pre) ∧ v6 = .int .i64 (pU ax 0 pre) ∧ v20 = .int .i64 (pre.length : Int) ∧ ae (pre ++ rest = l) ∧ rest.length ≤ gg ∧ ae (St w P [(some b2, .cells #[.int .u8 ck, .int .i64 cx, .int .i64 cy, .int .i64 cw, .int .i64 ch, .int .i64 ay, .slice A l.length cc] 26 (0, 0))] [] [(.slice A l.length cc, l)] [] wr))
  case atStart => exact ⟨[], l, (by rw [uN, Int.add_zero, HWL.out]), (by rw [su]), rfl, ⟨rfl⟩, Nat.le_refl _, S⟩
  case round =>
   clear S
   obtain ⟨pre, rest, rfl, rfl, rfl, HE, hgg, S⟩ := hrel
   cases rest with
   | nil =>
    have hE := HE.out
    rw [List.append_nil] at hE
    have hE2 := hE.symm
    subst hE2
    clear hE HE hgg
    have hlt : ¬ ((l.length : Int) < (l.length : Int)) := by omega
    cases ha : jC ax ck with
    | true =>
     have HA := ae.mk ha
     rw [ha] at HR
     clear ha
     obtain ⟨bQ, bU, bV, cZ, df, di, bu⟩ := St.eY S (.head _)
     go_wp2_with (first
      | ((with_reducible refine aj 36 rfl ?_); refine dF (some 36) Try.func99 S (OV (c := ⟨ck, ⟨cx, cy, cw, ch⟩, ay, l⟩) HA.out (S.out.tree _ (.head _))) ?_; clear S; intro eH S; clear bQ bU bV cZ df di bu)
      | fail)
     go_ret
     rw [HR.out]
     exact ⟨rfl, S.out.below⟩
    | false =>
     have HA := ae.mk ha
     rw [ha] at HR
     clear ha
     obtain ⟨bQ, bU, bV, cZ, df, di, bu⟩ := St.eY S (.head _)
     go_wp2_with (first
      | ((with_reducible refine aj 36 rfl ?_); refine dF (some 36) Try.func99 S (OV (c := ⟨ck, ⟨cx, cy, cw, ch⟩, ay, l⟩) HA.out (S.out.tree _ (.head _))) ?_; clear S; intro eH S; clear bQ bU bV cZ df di bu)
      | fail)
     go_ret
     rw [HR.out]
     exact ⟨rfl, S.out.below⟩
   | cons k rest =>
    have hk : k ∈ l := by rw [← HE.out]; simp
    have hlt : (pre.length : Int) < (l.length : Int) := by rw [← HE.out, List.length_append, List.length_cons]; omega
    have hw1 : wrap64 ((pre.length : Int) + 1) = ((pre ++ [k]).length : Int) := by have := gX.out; rw [List.length_append, List.length_singleton]; unfold wrap64; omega
    have HW1 := ae.mk hw1
    have jh := ae.mk hgg
    have HK := ae.mk hk
    have tH := ae.mk (show pre.length ≤ 1048576 by have := gX.out; omega)
    have Ye := ae.mk (show gy pre + sz k ≤ 1048576 by have h := yT.out; rw [← HE.out, nJ, eG] at h; omega)
    obtain ⟨dM, ua, uc, ek, S1⟩ := S.out.elem (.head _) (pre.length : Int) (Int.natCast_nonneg _) hlt
    subst ek
    have hrd : aG l (pre.length : Int) = k := by rw [← HE.out]; exact jF pre k rest
    rw [hrd] at S1
    simp only [Int.toNat_natCast] at S1
    replace S := ae.mk S1
    clear S1 hrd hk hgg hw1
    obtain ⟨gY, iM, iO, iC, iD, jv, jw⟩ := St.yD S
    go_wp2_with (first
     | ((with_reducible refine aj 8 rfl ?_); refine boxS 8 #[.int .u8 0, .int .i64 0, .int .i64 0, .int .i64 0, .int .i64 0, .int .i64 0, .slice none 0 0] 26 S ?_; clear S; intro b8 eH S; clear gY iM iO iC iD jv jw)
     | ((with_reducible refine dB 26 (.tmp 8) (.tmp 23) rfl ?_); refine gI 26 8 23 #[.int .u8 k.f0, .int .i64 k.f1.f0, .int .i64 k.f1.f1, .int .i64 k.f1.f2, .int .i64 k.f1.f3, .int .i64 k.f2, .slice ua k.f3.length uc] 0 7 S ?_; clear S; intro fG S; obtain ⟨Yy, Yz, YA, YB, YC, YD, YE⟩ := St.eY S (.head _))
     | ((with_reducible refine aj 26 rfl ?_); refine dF (some 26) Try.func149 S (IH.out k HK.out ua uc _ (S.out.tree _ (.head _))) ?_; clear S; intro gV S; clear Yy Yz YA YB YC YD YE)
     | fail)
    all_goals
     have hw1 := HW1.out
     go_wp2
     go_roundg rest.length
     case measure => exact Nat.lt_of_lt_of_le (Nat.lt_succ_self _) jh.out
     case rel => exact ⟨pre ++ [k], rest, (by rw [QY Ye.out (by have := gX.out; omega)]), (by rw [CX]; congr 1; unfold mx; split <;> omega), (by rw [hw1]), ⟨by rw [List.append_assoc]; exact HE.out⟩, Nat.le_refl _, ⟨S.out.eF.bW.aT.aT.aT.aT.aT.aT.aT⟩⟩
def lF.f (_ : Nat) (a0 a1 a2 a3 a4 a5 : Int) (l : List ai) (ax : Int) : Option Int := if sz ⟨a0, ⟨a1, a2, a3, a4⟩, a5, l⟩ ≤ 1048576 then some (dX ax ⟨a0, ⟨a1, a2, a3, a4⟩, a5, l⟩) else none
theorem lF.calls (k : Nat) (aA : Int) (aJ : Int) (aH : Int) (aI : Int) (bI : Int) (bJ : Int) (eQ : Option Addr) (eU : Nat) (aK : List (ai)) (a1 : Int) (r : Int) (w : World) (pR : Kd.C k26 w eQ aK.length aK) (qH : aK.length ≤ eU) (h : lF.f k aA aJ aH aI bI bJ aK a1 = some r) :
  Calls Try.prog 149 #[.agg #[.int .u8 aA, .int .i64 aJ, .int .i64 aH, .int .i64 aI, .int .i64 bI, .int .i64 bJ, .slice eQ aK.length eU], .int .u8 a1] w fun e w' => e = .returned (.int .i64 r) ∧ Below w.heap.size w w' := by
 unfold lF.f at h
 split at h
 ·rename_i hz
  injection h with h
  subst h
  exact Xb a1 _ ⟨aA, ⟨aJ, aH, aI, bI⟩, bJ, aK⟩ (Nat.le_refl _) hz w.heap.size (fun _ => True) eQ eU w (Kd.uJ qH (Kd.qN (Kd.Dx nP pR) (fun _ _ => trivial)))
 ·cases h
theorem Xc (ax : Int) (N : Nat) (c : ai) (hc : sz c ≤ N) (hN : N ≤ 1048576) : Ev (fun k => lF.f k c.f0 c.f1.f0 c.f1.f1 c.f1.f2 c.f1.f3 c.f2 c.f3 ax) (dX ax c) := by
 refine Ev.congr (f := fun _ => some (dX ax c)) (fun k => ?_) (Ev.now _)
 unfold lF.f
 rw [EM, if_pos (Nat.le_trans hc hN)]
end Go.Proofs.Ytfdmfgaiblfbhaa.P
namespace Go.Proofs.Ytfdmfgaiblfbhaa.P
open Go.RowKit Go.Proofs.ag.aW Go.Proofs.ag.dA Go.Proofs.ag.dU
section
variable {W : World} {b : Nat} {P : Nat → Prop} {A : Option Addr} {cc : Nat}
theorem C_ {c : ai} {ax : Int} {v : Bool} (h : jC ax c.f0 = v) (hV : Kd.V k26 26 W b P (.slice A c.f3.length cc) c.f3) :
  Calls Try.prog 88 #[.agg #[.int .u8 c.f0, .int .i64 c.f1.f0, .int .i64 c.f1.f1, .int .i64 c.f1.f2, .int .i64 c.f1.f3, .int .i64 c.f2, .slice A c.f3.length cc], .int .u8 ax] W fun e w' => e = .returned (.bool v) ∧ Below W.heap.size W w' :=
 have h2 := Kd.jY hV
 o7.calls _ _ _ _ _ _ A cc c.f3 ax _ W h2.2.2 h2.2.1 ((Fg c ax).trans (congrArg some h))
end
theorem agk (ax : Int) : ∀ (N : Nat) (c : ai), sz c ≤ N → N ≤ 1048576 → (iH c).all qi = true → ∀ (b : Nat) (P : Nat → Prop) (A : Option Addr) (cc : Nat) (w : World), Kd.V k26 26 w b P (.slice A c.f3.length cc) c.f3 →
  Calls Try.prog 152 #[.agg #[.int .u8 c.f0, .int .i64 c.f1.f0, .int .i64 c.f1.f1, .int .i64 c.f1.f2, .int .i64 c.f1.f3, .int .i64 c.f2, .slice A c.f3.length cc], .int .u8 ax] w fun e w' => e = .returned (.int .i64 (dX ax c)) ∧ Below w.heap.size w w' := by
 intro N
 induction N with
 | zero => intro c h; rw [dL] at h; omega
 | succ N ih =>
  intro c hc hN hok b P A cc w hv
  have hsz := dL c
  have hlen := jR c.f3
  have S := ae.mk (St.start (ts := [(.slice A c.f3.length cc, c.f3)]) (b0 := w.heap.size) (w := w) (P := P) (fun t ht => by rw [List.mem_singleton.1 ht]; exact dO hv))
  have gX := ae.mk (show c.f3.length ≤ 1048576 by omega)
  have yT := ae.mk (show gy c.f3 ≤ 1048576 by omega)
  have IH := ae.mk fun (k : ai) (hk : k ∈ c.f3) A cc w {b P} h => ih k (by have := xQ hk; omega) (by omega) (Jg hok hk) b P A cc w h
  have hE := fun h1 h2 => @PO ax c h1 h2
  have hL := xH ax c
  have hkd := NZ (wY hok)
  generalize dX ax c = R at hE hL ⊢
  obtain ⟨ck, ⟨cx, cy, cw, ch⟩, ay, l⟩ := c
  simp only [] at S gX yT IH hE hL ⊢
  clear ih hc hN hv hsz hlen
  simp only [] at hkd
  by_cases hz : l.length = 0
  case pos =>
   have HR := ae.mk (show R = 1 by rw [hL, if_pos (by omega)])
   have hza : ((l.length : Int) == 0) = true := beq_iff_eq.mpr (by omega)
   have hzb : ((l.length : Int) != 0) = false := bne_eq_false_iff_eq.mpr (by omega)
   have hzd : decide ((l.length : Int) = 0) = true := decide_eq_true (by omega)
   have hze : (l.length == 0) = true := beq_iff_eq.mpr (by omega)
   have hzf : decide (l.length = 0) = true := decide_eq_true (by omega)
   clear hkd hz hE hL
   go_enter Try.func152, Try.ntmps152
   go_wp2_with (first
    | ((with_reducible refine aj 2 rfl ?_); refine boxS 2 #[.int .u8 ck, .int .i64 cx, .int .i64 cy, .int .i64 cw, .int .i64 ch, .int .i64 ay, .slice A l.length cc] 26 S ?_; clear S; intro b2 eH S; have bu := (S.out.at (.head _) 6).trans rfl)
    | fail)
   clear bu
   go_ret
   rw [HR.out]
   exact ⟨rfl, S.out.below⟩
  have HR := ae.mk (hE (by omega) hz)
  have hza : ((l.length : Int) == 0) = false := beq_eq_false_iff_ne.mpr (by omega)
  have hzb : ((l.length : Int) != 0) = true := bne_iff_ne.mpr (by omega)
  have hzd : decide ((l.length : Int) = 0) = false := decide_eq_false (by omega)
  have hze : (l.length == 0) = false := beq_eq_false_iff_ne.mpr (by omega)
  have hzf : decide (l.length = 0) = false := decide_eq_false (by omega)
  clear hkd hz hE hL
  generalize ha : jC ax ck = a at HR
  have HA := ae.mk ha
  clear ha
  go_enter Try.func152, Try.ntmps152
  go_wp2_with (first
   | ((with_reducible refine aj 2 rfl ?_); refine boxS 2 #[.int .u8 ck, .int .i64 cx, .int .i64 cy, .int .i64 cw, .int .i64 ch, .int .i64 ay, .slice A l.length cc] 26 S ?_; clear S; intro b2 fG S; have bu := (S.out.at (.head _) 6).trans rfl)
   | fail)
  clear bu
  go_loopg [5, 15] l.length (fun gg v5 v15 wr => ∃ (pre rest : List ai), v5 = .int .i64 (uq ax a pre) ∧ v15 = .int .i64 (pre.length : Int) ∧ ae (pre ++ rest = l) ∧ rest.length ≤ gg ∧ ae (St w P [(some b2, .cells #[.int .u8 ck, .int .i64 cx, .int .i64 cy, .int .i64 cw, .int .i64 ch, .int .i64 ay, .slice A l.length cc] 26 (0, 0))] [] [(.slice A l.length cc, l)] [] wr))
  case atStart => exact ⟨[], l, (by cases a <;> rfl), rfl, ⟨rfl⟩, Nat.le_refl _, S⟩
  case round =>
   clear S
   obtain ⟨pre, rest, rfl, rfl, HE, hgg, S⟩ := hrel
   cases rest with
   | nil =>
    have hE := HE.out
    rw [List.append_nil] at hE
    have hE2 := hE.symm
    subst hE2
    clear hE HE hgg
    have hlt : ¬ ((l.length : Int) < (l.length : Int)) := by omega
    go_wp2
    go_ret
    rw [← HR.out]
    exact ⟨rfl, S.out.below⟩
   | cons k rest =>
    have hk : k ∈ l := by rw [← HE.out]; simp
    have hlt : (pre.length : Int) < (l.length : Int) := by rw [← HE.out, List.length_append, List.length_cons]; omega
    have hw1 : wrap64 ((pre.length : Int) + 1) = ((pre ++ [k]).length : Int) := by have := gX.out; rw [List.length_append, List.length_singleton]; unfold wrap64; omega
    have HW1 := ae.mk hw1
    have jh := ae.mk hgg
    have HK := ae.mk hk
    have tH := ae.mk (show pre.length ≤ 1048576 by have := gX.out; omega)
    have Ye := ae.mk (show gy pre + sz k ≤ 1048576 by have h := yT.out; rw [← HE.out, nJ, eG] at h; omega)
    obtain ⟨dM, ua, uc, ek, S1⟩ := S.out.elem (.head _) (pre.length : Int) (Int.natCast_nonneg _) hlt
    subst ek
    have hrd : aG l (pre.length : Int) = k := by rw [← HE.out]; exact jF pre k rest
    rw [hrd] at S1
    simp only [Int.toNat_natCast] at S1
    replace S := ae.mk S1
    clear S1 hrd hk hgg hw1
    cases a with
    | true =>
     by_cases hp : pre.length = 0
     case pos =>
      have HP := ae.mk hp
      have hpn : ¬ (0 < pre.length) := by omega
      have hqa : decide (0 < (pre.length : Int)) = false := decide_eq_false (by omega)
      have hqb : decide ((pre.length : Int) > 0) = false := decide_eq_false (by omega)
      have hqc : decide (0 < pre.length) = false := decide_eq_false (by omega)
      have hqe : ¬ (0 < pre.length) := by omega
      clear hp
      obtain ⟨gY, iM, iO, iC, iD, jv, jw⟩ := St.yD S
      have bu := (S.out.at (.head _) 6).trans rfl
      go_wp2_with (first
       | ((with_reducible refine aj 24 rfl ?_); refine dF (some 24) Try.func152 S (IH.out k HK.out ua uc _ (S.out.tree _ (.head _))) ?_; clear S; intro eH S; clear gY iM iO iC iD jv jw bu; obtain ⟨bQ, bU, bV, cZ, df, di, bu⟩ := St.eY S (.head _))
       | ((with_reducible refine aj 27 rfl ?_); refine dF (some 27) Try.func88 S (C_ (c := ⟨ck, ⟨cx, cy, cw, ch⟩, ay, l⟩) HA.out (S.out.tree _ (.tail _ (.head _)))) ?_; clear S; intro fG S; clear bQ bU bV cZ df di bu)
       | fail)
      have hw1 := HW1.out
      go_wp2
      go_roundg rest.length
      case measure => exact Nat.lt_of_lt_of_le (Nat.lt_succ_self _) jh.out
      case rel => exact ⟨pre ++ [k], rest, (by rw [UM Ye.out HP.out]), (by first | rw [hw1] | (rw [List.length_append]; rfl)), ⟨by rw [List.append_assoc]; exact HE.out⟩, Nat.le_refl _, ⟨S.out.bW.aT.aT.aT.aT.aT.aT.aT⟩⟩
     case neg =>
      have HP := ae.mk (show 0 < pre.length by omega)
      have hpn : 0 < pre.length := HP.out
      have hqa : decide (0 < (pre.length : Int)) = true := decide_eq_true (by omega)
      have hqb : decide ((pre.length : Int) > 0) = true := decide_eq_true (by omega)
      have hqc : decide (0 < pre.length) = true := decide_eq_true (by omega)
      have hqe : 0 < pre.length := by omega
      clear hp
      obtain ⟨gY, iM, iO, iC, iD, jv, jw⟩ := St.yD S
      have bu := (S.out.at (.head _) 6).trans rfl
      go_wp2_with (first
       | ((with_reducible refine aj 24 rfl ?_); refine dF (some 24) Try.func152 S (IH.out k HK.out ua uc _ (S.out.tree _ (.head _))) ?_; clear S; intro eH S; clear gY iM iO iC iD jv jw bu; obtain ⟨bQ, bU, bV, cZ, df, di, bu⟩ := St.eY S (.head _))
       | ((with_reducible refine aj 27 rfl ?_); refine dF (some 27) Try.func88 S (C_ (c := ⟨ck, ⟨cx, cy, cw, ch⟩, ay, l⟩) HA.out (S.out.tree _ (.tail _ (.head _)))) ?_; clear S; intro fG S; clear bQ bU bV cZ df di bu)
       | fail)
      have hw1 := HW1.out
      go_wp2
      go_roundg rest.length
      case measure => exact Nat.lt_of_lt_of_le (Nat.lt_succ_self _) jh.out
      case rel => exact ⟨pre ++ [k], rest, (by rw [Xn Ye.out HP.out]), (by first | rw [hw1] | (rw [List.length_append]; rfl)), ⟨by rw [List.append_assoc]; exact HE.out⟩, Nat.le_refl _, ⟨S.out.bW.aT.aT.aT.aT.aT.aT.aT⟩⟩
    | false =>
     by_cases hp : uq ax false pre < dX ax k
     case pos =>
      have HP := ae.mk hp
      have hpa : decide (uq ax false pre < dX ax k) = true := decide_eq_true (by omega)
      have hpb : decide (dX ax k > uq ax false pre) = true := decide_eq_true (by omega)
      clear hp
      obtain ⟨gY, iM, iO, iC, iD, jv, jw⟩ := St.yD S
      have bu := (S.out.at (.head _) 6).trans rfl
      go_wp2_with (first
       | ((with_reducible refine aj 24 rfl ?_); refine dF (some 24) Try.func152 S (IH.out k HK.out ua uc _ (S.out.tree _ (.head _))) ?_; clear S; intro eH S; clear gY iM iO iC iD jv jw bu; obtain ⟨bQ, bU, bV, cZ, df, di, bu⟩ := St.eY S (.head _))
       | ((with_reducible refine aj 27 rfl ?_); refine dF (some 27) Try.func88 S (C_ (c := ⟨ck, ⟨cx, cy, cw, ch⟩, ay, l⟩) HA.out (S.out.tree _ (.tail _ (.head _)))) ?_; clear S; intro fG S; clear bQ bU bV cZ df di bu)
       | fail)
      have hw1 := HW1.out
      go_wp2
      go_roundg rest.length
      case measure => exact Nat.lt_of_lt_of_le (Nat.lt_succ_self _) jh.out
      case rel => exact ⟨pre ++ [k], rest, (by rw [aeH HP.out]), (by first | rw [hw1] | (rw [List.length_append]; rfl)), ⟨by rw [List.append_assoc]; exact HE.out⟩, Nat.le_refl _, ⟨S.out.bW.aT.aT.aT.aT.aT.aT.aT⟩⟩
     case neg =>
      have HP := ae.mk hp
      have hpa : decide (uq ax false pre < dX ax k) = false := decide_eq_false (by omega)
      have hpb : decide (dX ax k > uq ax false pre) = false := decide_eq_false (by omega)
      clear hp
      obtain ⟨gY, iM, iO, iC, iD, jv, jw⟩ := St.yD S
      have bu := (S.out.at (.head _) 6).trans rfl
      go_wp2_with (first
       | ((with_reducible refine aj 24 rfl ?_); refine dF (some 24) Try.func152 S (IH.out k HK.out ua uc _ (S.out.tree _ (.head _))) ?_; clear S; intro eH S; clear gY iM iO iC iD jv jw bu; obtain ⟨bQ, bU, bV, cZ, df, di, bu⟩ := St.eY S (.head _))
       | ((with_reducible refine aj 27 rfl ?_); refine dF (some 27) Try.func88 S (C_ (c := ⟨ck, ⟨cx, cy, cw, ch⟩, ay, l⟩) HA.out (S.out.tree _ (.tail _ (.head _)))) ?_; clear S; intro fG S; clear bQ bU bV cZ df di bu)
       | fail)
      have hw1 := HW1.out
      go_wp2
      go_roundg rest.length
      case measure => exact Nat.lt_of_lt_of_le (Nat.lt_succ_self _) jh.out
      case rel => exact ⟨pre ++ [k], rest, (by rw [Xo (Int.not_lt.mpr HP.out)]), (by first | rw [hw1] | (rw [List.length_append]; rfl)), ⟨by rw [List.append_assoc]; exact HE.out⟩, Nat.le_refl _, ⟨S.out.bW.aT.aT.aT.aT.aT.aT.aT⟩⟩
def ae0.f (_ : Nat) (a0 a1 a2 a3 a4 a5 : Int) (l : List ai) (ax : Int) : Option Int := if sz ⟨a0, ⟨a1, a2, a3, a4⟩, a5, l⟩ ≤ 1048576 ∧ (iH ⟨a0, ⟨a1, a2, a3, a4⟩, a5, l⟩).all qi = true then some (dX ax ⟨a0, ⟨a1, a2, a3, a4⟩, a5, l⟩) else none
end Go.Proofs.Ytfdmfgaiblfbhaa.P

namespace Go.Proofs.Ytfdmfgaiblfbhaa.P
open Go.RowKit Go.Proofs.ag.aW Go.Proofs.ag.dA Go.Proofs.ag.dU
attribute [local go_sem] kM kZ lN l7 kz kC kY lg
def oV.f (aA : Int) (aJ : Int) (aH : Int) (aI : Int) (a1 : Int) : Option (Int) := if a1 = 2 then (some aI) else (if a1 = 1 then (some aH) else (some 0))
theorem oV.calls (aA : Int) (aJ : Int) (aH : Int) (aI : Int) (a1 : Int) (r : Int) (w : World) (h : oV.f aA aJ aH aI a1 = some r) :
  Calls Try.prog 98 #[.agg #[.int .i64 aA, .int .i64 aJ, .int .i64 aH, .int .i64 aI], .int .u8 a1] w fun e w' => e = .returned (.int .i64 r) ∧ Below w.heap.size w w' := by
 have NP := Try.underlying23
 have HB := ae.mk (Below.refl w.heap.size w)
 have H : (if a1 = 2 then (some aI) else (if a1 = 1 then (some aH) else (some 0))) = some r := h
 clear h
 by_cases c3 : a1 = 2
 ·rw [if_pos c3] at H
  have pq : (a1 == 2) = true := beq_iff_eq.mpr c3
  have vO : (a1 != 2) = false := bne_eq_false_iff_eq.mpr c3
  clear c3
  obtain rfl := Option.some.inj H
  go_enter Try.func98, Try.ntmps98
  go_wp2_with (((with_reducible refine aC (N := 2) rfl ?_); refine aQ ?hg (N := 2) ?hd (cs := #[.int .i64 aA, .int .i64 aJ, .int .i64 aH, .int .i64 aI]) (t := 23) ?hr ?_; (case hd => rfl); (case hg => rfl); (case hr => (go_simp; done)); intro sN hg w4 hbox hb; have nV := ae.mk (hbox); have Qh := ae.mk ((by rw [hg]; exact (cO (by repeat ((with_reducible exact HB.out)))) : w.heap.size ≤ sN)); replace HB := ae.mk (az (by repeat ((with_reducible exact HB.out))) hb); clear hb hbox hg; have adT : w4.cell? ⟨sN, 0, none⟩ = some (.int .i64 aA) := (af nV.out 0).trans rfl; have adU : w4.cell? ⟨sN, 1, none⟩ = some (.int .i64 aJ) := (af nV.out 1).trans rfl; have adV : w4.cell? ⟨sN, 2, none⟩ = some (.int .i64 aH) := (af nV.out 2).trans rfl; have adW : w4.cell? ⟨sN, 3, none⟩ = some (.int .i64 aI) := (af nV.out 3).trans rfl; have aeb := ah nV.out 0; have aec := ah nV.out 1; have aed := ah nV.out 2; have aee := ah nV.out 3))
  go_ret
  exact ⟨by rfl, by repeat ((with_reducible first | exact HB.out | refine mF ?_ Qh.out))⟩
 ·rw [if_neg c3] at H
  have pq : (a1 == 2) = false := beq_eq_false_iff_ne.mpr c3
  have vO : (a1 != 2) = true := bne_iff_ne.mpr c3
  by_cases c6 : a1 = 1
  ·rw [if_pos c6] at H
   have vP : (a1 == 1) = true := beq_iff_eq.mpr c6
   have V6 : (a1 != 1) = false := bne_eq_false_iff_eq.mpr c6
   clear c6
   obtain rfl := Option.some.inj H
   go_enter Try.func98, Try.ntmps98
   go_wp2_with (((with_reducible refine aC (N := 2) rfl ?_); refine aQ ?hg (N := 2) ?hd (cs := #[.int .i64 aA, .int .i64 aJ, .int .i64 aH, .int .i64 aI]) (t := 23) ?hr ?_; (case hd => rfl); (case hg => rfl); (case hr => (go_simp; done)); intro sN hg w7 hbox hb; have nV := ae.mk (hbox); have Qh := ae.mk ((by rw [hg]; exact (cO (by repeat ((with_reducible exact HB.out)))) : w.heap.size ≤ sN)); replace HB := ae.mk (az (by repeat ((with_reducible exact HB.out))) hb); clear hb hbox hg; have TN : w7.cell? ⟨sN, 0, none⟩ = some (.int .i64 aA) := (af nV.out 0).trans rfl; have TP : w7.cell? ⟨sN, 1, none⟩ = some (.int .i64 aJ) := (af nV.out 1).trans rfl; have TQ : w7.cell? ⟨sN, 2, none⟩ = some (.int .i64 aH) := (af nV.out 2).trans rfl; have TR : w7.cell? ⟨sN, 3, none⟩ = some (.int .i64 aI) := (af nV.out 3).trans rfl; have Ug := ah nV.out 0; have Uh := ah nV.out 1; have Ui := ah nV.out 2; have Uj := ah nV.out 3))
   go_ret
   exact ⟨by rfl, by repeat ((with_reducible exact HB.out))⟩
  ·rw [if_neg c6] at H
   have vP : (a1 == 1) = false := beq_eq_false_iff_ne.mpr c6
   have V6 : (a1 != 1) = true := bne_iff_ne.mpr c6
   obtain rfl := Option.some.inj H
   go_enter Try.func98, Try.ntmps98
   go_wp2_with (((with_reducible refine aC (N := 2) rfl ?_); refine aQ ?hg (N := 2) ?hd (cs := #[.int .i64 aA, .int .i64 aJ, .int .i64 aH, .int .i64 aI]) (t := 23) ?hr ?_; (case hd => rfl); (case hg => rfl); (case hr => (go_simp; done)); intro sN hg w9 hbox hb; have nV := ae.mk (hbox); have Qh := ae.mk ((by rw [hg]; exact (cO (by repeat ((with_reducible exact HB.out)))) : w.heap.size ≤ sN)); replace HB := ae.mk (az (by repeat ((with_reducible exact HB.out))) hb); clear hb hbox hg))
   go_ret
   exact ⟨by rfl, by repeat ((with_reducible exact HB.out))⟩
end Go.Proofs.Ytfdmfgaiblfbhaa.P
namespace Go.Proofs.Ytfdmfgaiblfbhaa.P
open Go.RowKit Go.Proofs.ag.aW Go.Proofs.ag.dA Go.Proofs.ag.dU
def bM (ax : Int) (r : dW) : Int := if ax = 1 then r.f2 else if ax = 2 then r.f3 else 0
theorem J8 (r : dW) (ax : Int) : oV.f r.f0 r.f1 r.f2 r.f3 ax = some (bM ax r) := by
 unfold oV.f bM
 by_cases h1 : ax = 1
 ·rw [if_neg (by omega), if_pos h1, if_pos h1]
 ·by_cases h2 : ax = 2
  ·rw [if_pos h2, if_neg h1, if_pos h2]
  ·rw [if_neg h2, if_neg h1, if_neg h1, if_neg h2]
end Go.Proofs.Ytfdmfgaiblfbhaa.P
namespace Go.Proofs.Ytfdmfgaiblfbhaa.P
open Go.RowKit Go.Proofs.ag.aW Go.Proofs.ag.dA Go.Proofs.ag.dU
attribute [local go_sem] kM kZ lN l7 kz kC kY lg
def kX.f (a0 : Int) : Option (Bool) := if a0 = 1 then (some true) else (some (a0 == 2))
theorem kX.acY (a0 : Int) (r : Bool) (w : World) (h : kX.f a0 = some r) :
  Calls Try.prog 147 #[.int .u8 a0] w fun e w' => e = .returned (.bool r) ∧ kJ w w' := by
 have H : (if a0 = 1 then (some true) else (some (a0 == 2))) = some r := h
 clear h
 by_cases c2 : a0 = 1
 ·rw [if_pos c2] at H
  have MB : (a0 == 1) = true := beq_iff_eq.mpr c2
  have ahf : (a0 != 1) = false := bne_eq_false_iff_eq.mpr c2
  clear c2
  obtain rfl := Option.some.inj H
  go_enter Try.func147, Try.ntmps147
  go_wp2
  go_ret
  exact ⟨by rfl, by repeat (exact kJ.refl _)⟩
 ·rw [if_neg c2] at H
  have MB : (a0 == 1) = false := beq_eq_false_iff_ne.mpr c2
  have ahf : (a0 != 1) = true := bne_iff_ne.mpr c2
  obtain rfl := Option.some.inj H
  go_enter Try.func147, Try.ntmps147
  go_wp2
  go_ret
  exact ⟨by rfl, by repeat (exact kJ.refl _)⟩
theorem kX.calls (a0 : Int) (r : Bool) (w : World) (h : kX.f a0 = some r) :
  Calls Try.prog 147 #[.int .u8 a0] w fun e w' => e = .returned (.bool r) ∧ Below w.heap.size w w' := by
 refine (kX.acY a0 r w h).mono ?_
 rintro e w' ⟨he, n, rfl⟩
 exact ⟨he, dC (Below.refl _ _) n⟩
end Go.Proofs.Ytfdmfgaiblfbhaa.P
namespace Go.Proofs.Ytfdmfgaiblfbhaa.P
open Go.RowKit Go.Proofs.ag.aW Go.Proofs.ag.dA Go.Proofs.ag.dU
theorem aaZ (Inv : List ai → World → Prop) (r : ai → Bool) (g : Nat) (lb : Array Value) (eg : ∀ args w, (callFunc g args).run Try.prog w = .ok (.enter g args) w) (l : List ai) (A : Option Addr) (c : Nat)
  (w0 : World) (hR : Kd.C k26 w0 A l.length l) (hW : ∀ s W, Inv s W → Below w0.heap.size w0 W) (hD : ∀ s W n, Inv s W → Inv s (W.drewN n))
  (hcall : ∀ (x : ai) (rest : List ai) (W : World) (B : Option Addr) (cb : Nat), x ∈ l → (∃ pre, pre ++ x :: rest = l) → Inv (x :: rest) W → Kd.C k26 w0 B x.f3.length x.f3 → x.f3.length ≤ cb → Calls Try.prog g (#[.agg #[.int .u8 x.f0, .int .i64 x.f1.f0, .int .i64 x.f1.f1, .int .i64 x.f1.f2, .int .i64 x.f1.f3, .int .i64 x.f2, .slice B x.f3.length cb]] ++ lb) W fun e w' => e = .returned (.bool (r x)) ∧ Inv (if r x = true then [] else rest) w')
  (w : World) (hI : Inv l w) (hl : l.length ≤ 9223372036854775807) :
  Calls Try.prog 192 #[.slice A l.length c, .func (.func g) #[] lb] w fun e w' => ∃ i : Int, e = .returned (.int .i64 i) ∧ decide (i ≥ 0) = l.any r ∧ Inv [] w' := by
 have HR := ae.mk hR
 have HW := ae.mk hW
 have HD := ae.mk hD
 have HI := ae.mk hI
 have yE := ae.mk hcall
 clear hR hW hcall hD hI
 go_enter Try.func192, Try.ntmps192
 go_wp2
 go_loopg [5, 8] l.length (fun gg _ v8 wr => ∃ (kk : Nat), kk ≤ l.length ∧ l.length - kk ≤ gg ∧ v8 = .int .i64 kk ∧ ae (Inv (l.drop kk) wr) ∧ ae (l.any r = (l.drop kk).any r))
 case atStart => exact ⟨0, Nat.zero_le _, by omega, rfl, ⟨by simpa using HI.out⟩, ⟨by simp⟩⟩
 case round =>
  clear HI
  obtain ⟨kk, hkk, hg, rfl, HI, HS⟩ := hrel
  by_cases hlt : kk < l.length
  ·have hltz : (kk : Int) < (l.length : Int) := by omega
   obtain ⟨ad, B, cb, rfl, hc0, hc1, hc2, hc3, hc4, hc5, hc6, hlb, hgb⟩ := rQ HR.out (kk : Int) (by omega) (by omega)
   have hbw := HW.out _ wr HI.out
   replace hc0 := (hbw.cell (World.block_lt_of_cell? w0 _ hc0)).trans hc0
   replace hc1 := (hbw.cell (World.block_lt_of_cell? w0 _ hc1)).trans hc1
   replace hc2 := (hbw.cell (World.block_lt_of_cell? w0 _ hc2)).trans hc2
   replace hc3 := (hbw.cell (World.block_lt_of_cell? w0 _ hc3)).trans hc3
   replace hc4 := (hbw.cell (World.block_lt_of_cell? w0 _ hc4)).trans hc4
   replace hc5 := (hbw.cell (World.block_lt_of_cell? w0 _ hc5)).trans hc5
   replace hc6 := (hbw.cell (World.block_lt_of_cell? w0 _ hc6)).trans hc6
   clear hbw
   have hmem : (aG l (kk : Int)) ∈ l := Di z26 l kk hlt
   have hdr : l.drop kk = aG l (kk : Int) :: l.drop (kk + 1) := by
    rw [List.drop_eq_getElem_cons hlt]
    simp only [aG, Int.toNat_natCast, List.getD_eq_getElem?_getD, List.getElem?_eq_getElem hlt, Option.getD_some]
   have HX : ae ((l.drop kk).any r = (r (aG l (kk : Int)) || (l.drop (kk + 1)).any r)) := ⟨by rw [hdr, List.any_cons]⟩
   have hcall := yE.out _ (l.drop (kk + 1)) wr B cb hmem ⟨l.take kk, by rw [← hdr]; exact List.take_append_drop kk l⟩ (by rw [← hdr]; exact HI.out) hgb hlb
   clear hmem hgb hlb hdr
   simp only [Int.toNat_natCast] at hc0 hc1 hc2 hc3 hc4 hc5 hc6
   generalize aG l (kk : Int) = x at hc0 hc1 hc2 hc3 hc4 hc5 hc6 HX hcall
   have HC := ae.mk hcall
   clear hcall
   cases hq : r x with
   | true =>
    have h := HC.out
    rw [hq, if_pos rfl] at h
    have HH := ae.mk h
    have HQ := ae.mk hq
    clear hq HC h
    go_wp2_with fail
    refine HH.out.mono ?_
    rintro e w' ⟨rfl, hb'⟩
    have HB := ae.mk hb'
    clear hb'
    go_wp2
    go_ret
    refine ⟨_, rfl, ?_, HB.out⟩
    rw [HS.out, HX.out, HQ.out, Bool.true_or]
    exact decide_eq_true (by omega)
   | false =>
    have h := HC.out
    rw [hq, if_neg (by simp)] at h
    have HH := ae.mk h
    have HQ := ae.mk hq
    clear hq HC h
    go_wp2_with fail
    refine HH.out.mono ?_
    rintro e w' ⟨rfl, hb'⟩
    have HB := ae.mk hb'
    clear hb'
    go_wp2
    go_roundg (l.length - (kk + 1))
    case measure => omega
    case rel =>
     refine ⟨kk + 1, by omega, by omega, by go_num, HB, ⟨?_⟩⟩
     rw [HS.out, HX.out, HQ.out, Bool.false_or]
  ·have hltz : ¬ (kk : Int) < (l.length : Int) := by omega
   have hd : l.drop kk = [] := List.drop_eq_nil_of_le (by omega)
   have HI2 := ae.mk (hd ▸ HI.out)
   have HS2 := ae.mk (hd ▸ HS.out)
   clear HI HS hd
   go_wp2
   go_ret
   refine ⟨_, rfl, ?_, HI2.out⟩
   rw [HS2.out]
   rfl
theorem OZ (Inv : List ai → World → Prop) (r : ai → Bool) (g : Nat) (lb : Array Value) (eg : ∀ args w, (callFunc g args).run Try.prog w = .ok (.enter g args) w) (l : List ai) (A : Option Addr) (c : Nat)
  (w0 : World) (hR : Kd.C k26 w0 A l.length l) (hW : ∀ s W, Inv s W → Below w0.heap.size w0 W) (hD : ∀ s W n, Inv s W → Inv s (W.drewN n))
  (hcall : ∀ (x : ai) (rest : List ai) (W : World) (B : Option Addr) (cb : Nat), x ∈ l → (∃ pre, pre ++ x :: rest = l) → Inv (x :: rest) W → Kd.C k26 w0 B x.f3.length x.f3 → x.f3.length ≤ cb → Calls Try.prog g (#[.agg #[.int .u8 x.f0, .int .i64 x.f1.f0, .int .i64 x.f1.f1, .int .i64 x.f1.f2, .int .i64 x.f1.f3, .int .i64 x.f2, .slice B x.f3.length cb]] ++ lb) W fun e w' => e = .returned (.bool (r x)) ∧ Inv (if r x = true then [] else rest) w')
  (w : World) (hI : Inv l w) (hl : l.length ≤ 9223372036854775807) :
  Calls Try.prog 174 #[.slice A l.length c, .func (.func g) #[] lb] w fun e w' => e = .returned (.bool (l.any r)) ∧ Inv [] w' := by
 have hi := aaZ Inv r g lb eg l A c w0 hR hW hD hcall w hI hl
 clear hR hW hD hcall hI
 have HI := ae.mk hi
 clear hi
 go_enter Try.func174, Try.ntmps174
 go_wp2_with fail
 refine HI.out.mono ?_
 rintro e w' ⟨i, rfl, hd, hb'⟩
 have HB := ae.mk hb'
 have HN := ae.mk hd
 clear hb' hd
 go_wp2
 go_ret
 exact ⟨by rw [← HN.out]; rfl, HB.out⟩
theorem adr (r : ai → dW → Bool) (g : Nat) (eg : ∀ args w, (callFunc g args).run Try.prog w = .ok (.enter g args) w) (la : List ai) (lb : List dW) (A B : Option Addr) (ca cb : Nat) (w : World) (hA : Kd.C k26 w A la.length la) (hB : Kd.C k23 w B lb.length lb)
  (hcall : ∀ W (x : ai) (X : Option Addr) (cx : Nat) (y : dW), x ∈ la → Below w.heap.size w W → Kd.C k26 w X x.f3.length x.f3 → x.f3.length ≤ cx → Calls Try.prog g #[.agg #[.int .u8 x.f0, .int .i64 x.f1.f0, .int .i64 x.f1.f1, .int .i64 x.f1.f2, .int .i64 x.f1.f3, .int .i64 x.f2, .slice X x.f3.length cx], .agg #[.int .i64 y.f0, .int .i64 y.f1, .int .i64 y.f2, .int .i64 y.f3]] W fun e w' => e = .returned (.bool (r x y)) ∧ Below W.heap.size W w') :
  Calls Try.prog 211 #[.slice A la.length ca, .slice B lb.length cb, .func (.func g) #[] #[]] w fun e w' => e = .returned (.bool (la.length == lb.length && uj r la lb)) ∧ Below w.heap.size w w' := by
 have HA := ae.mk hA
 have HLB := ae.mk hB
 have HC := ae.mk hcall
 have HB := ae.mk (Below.refl w.heap.size w)
 have HL := ae.mk (show la.length ≤ 9223372036854775807 from hA.2.1)
 clear hA hB hcall
 by_cases hl : la.length = lb.length
 ·have hl1 : ((la.length : Int) != (lb.length : Int)) = false := by simp [hl]
  have hl2 : (la.length == lb.length) = true := by simp [hl]
  rw [hl2, Bool.true_and]
  have HE := ae.mk hl
  clear hl hl2
  go_enter Try.func211, Try.ntmps211
  go_wp2
  go_loopg [17] la.length (fun gg v17 wr => ∃ (kk : Nat), kk ≤ la.length ∧ la.length - kk ≤ gg ∧ v17 = .int .i64 kk ∧ ae (uj r la lb = uj r (la.drop kk) (lb.drop kk)) ∧ ae (Below w.heap.size w wr))
  case atStart => exact ⟨0, Nat.zero_le _, by omega, rfl, ⟨by simp⟩, HB⟩
  case round =>
   clear HB
   obtain ⟨kk, hkk, hgg, rfl, HS, HB⟩ := hrel
   by_cases hlt : kk < la.length
   ·have hltz : (kk : Int) < (la.length : Int) := by omega
    have ahD : (kk : Int) < (lb.length : Int) := by have := HE.out; omega
    have hw : wrap64 ((kk : Int) + 1) = ((kk + 1 : Nat) : Int) := by unfold wrap64; have := HL.out; omega
    have HX := ae.mk (ado r z26 z23 la lb kk hlt (by omega))
    have hmem : aG la (kk : Int) ∈ la := Di z26 la kk hlt
    obtain ⟨cd, X, cx, rfl, c0, c1, c2, c3, c4, c5, c6, cl, cg⟩ := rQ HA.out (kk : Int) (by omega) hltz
    obtain ⟨dd, rfl, d0, d1, d2, d3⟩ := L_ HLB.out (kk : Int) (by omega) ahD
    simp only [Int.toNat_natCast] at c0 c1 c2 c3 c4 c5 c6 d0 d1 d2 d3
    replace c0 := (HB.out.cell (World.block_lt_of_cell? w _ c0)).trans c0
    replace c1 := (HB.out.cell (World.block_lt_of_cell? w _ c1)).trans c1
    replace c2 := (HB.out.cell (World.block_lt_of_cell? w _ c2)).trans c2
    replace c3 := (HB.out.cell (World.block_lt_of_cell? w _ c3)).trans c3
    replace c4 := (HB.out.cell (World.block_lt_of_cell? w _ c4)).trans c4
    replace c5 := (HB.out.cell (World.block_lt_of_cell? w _ c5)).trans c5
    replace c6 := (HB.out.cell (World.block_lt_of_cell? w _ c6)).trans c6
    have D0 := ae.mk d0
    have D1 := ae.mk d1
    have D2 := ae.mk d2
    have D3 := ae.mk d3
    clear d0 d1 d2 d3
    have HX := ae.mk (show uj r (la.drop kk) (lb.drop kk) = (r (aG la (kk : Int)) (ql lb (kk : Int)) && uj r (la.drop (kk + 1)) (lb.drop (kk + 1))) from HX.out)
    have cG := ae.mk cg
    have cL := ae.mk cl
    clear cg cl
    have HM := ae.mk hmem
    clear hmem
    generalize aG la (kk : Int) = x at *
    generalize ql lb (kk : Int) = y at *
    have HCx := ae.mk (fun W hW => HC.out W x X cx y HM.out hW cG.out cL.out )
    have HW := ae.mk hw
    have HKK := ae.mk (show kk + 1 ≤ la.length from hlt)
    have jh := ae.mk hgg
    clear hw hlt hgg hkk HM
    go_wp2_with (first | ((with_reducible refine aC (N := 8) rfl ?_); refine aQ ?hg (N := 8) ?hd (cs := #[.int .u8 0, .int .i64 0, .int .i64 0, .int .i64 0, .int .i64 0, .int .i64 0, .slice none 0 0]) (t := 26) ?hr ?_; (case hd => rfl); (case hg => rfl); (case hr => (go_simp; done)); intro b8 hg wb8 hbox hb; have K8 := ae.mk hbox; have G8 := ae.mk (show w.heap.size ≤ b8 by rw [hg]; exact HB.out.size); have q_ := ae.mk (az HB.out hb); clear HB; have HB := q_; clear q_; clear hb hbox hg) | ((with_reducible refine lG (.store 26 (.tmp 8) (.tmp 21)) rfl ?_); go_loud (refine iF (w0 := w) rfl rfl 26 (.tmp 8) (.tmp 21) rfl (g := b8) (j := 0) (base := w.heap.size) #[.int .u8 x.f0, .int .i64 x.f1.f0, .int .i64 x.f1.f1, .int .i64 x.f1.f2, .int .i64 x.f1.f3, .int .i64 x.f2, .slice X x.f3.length cx] (u := .agg #[.int .u8 x.f0, .int .i64 x.f1.f0, .int .i64 x.f1.f1, .int .i64 x.f1.f2, .int .i64 x.f1.f3, .int .i64 x.f2, .slice X x.f3.length cx]) (bP := [.int .u8 x.f0, .int .i64 x.f1.f0, .int .i64 x.f1.f1, .int .i64 x.f1.f2, .int .i64 x.f1.f3, .int .i64 x.f2, .slice X x.f3.length cx]) ?sA ?sX rfl ?sT ?s1 K8.out ?sJ rfl HB.out HB.out.size G8.out ?_; (case sA => rfl); (case sX => rfl); (case sT => rfl); (case s1 => (simp [Value.oneCell'])); (case sJ => (simp)); intro ws8 hbk hbb hgg; clear K8 HB; have K8 := ae.mk hbk; have HB := ae.mk hbb; clear hbk hbb hgg; clear c0 c1 c2 c3 c4 c5 c6; have d0 := (HB.out.cell (World.block_lt_of_cell? w _ D0.out)).trans D0.out; have d1 := (HB.out.cell (World.block_lt_of_cell? w _ D1.out)).trans D1.out; have d2 := (HB.out.cell (World.block_lt_of_cell? w _ D2.out)).trans D2.out; have d3 := (HB.out.cell (World.block_lt_of_cell? w _ D3.out)).trans D3.out)) | ((with_reducible refine aC (N := 9) rfl ?_); refine aQ ?hg (N := 9) ?hd (cs := #[.int .i64 0, .int .i64 0, .int .i64 0, .int .i64 0]) (t := 23) ?hr ?_; (case hd => rfl); (case hg => rfl); (case hr => (go_simp; done)); intro b9 hg wb9 hbox hb; have K9 := ae.mk hbox; have G9 := ae.mk (show w.heap.size ≤ b9 by rw [hg]; exact HB.out.size); have NE := ae.mk (show b8 ≠ b9 by rw [hg]; exact Nat.ne_of_lt (gu K8.out)); have UZ := ae.mk (aV K8.out hb); clear K8; have K8 := UZ; clear UZ; have q_ := ae.mk (az HB.out hb); clear HB; have HB := q_; clear q_; clear hb hbox hg d0 d1 d2 d3) | ((with_reducible refine lG (.store 23 (.tmp 9) (.tmp 25)) rfl ?_); go_loud (refine iF (w0 := w) rfl rfl 23 (.tmp 9) (.tmp 25) rfl (g := b9) (j := 0) (base := w.heap.size) #[.int .i64 y.f0, .int .i64 y.f1, .int .i64 y.f2, .int .i64 y.f3] (u := .agg #[.int .i64 y.f0, .int .i64 y.f1, .int .i64 y.f2, .int .i64 y.f3]) (bP := [.int .i64 y.f0, .int .i64 y.f1, .int .i64 y.f2, .int .i64 y.f3]) ?sA ?sX rfl ?sT ?s1 K9.out ?sJ rfl HB.out HB.out.size G9.out ?_; (case sA => rfl); (case sX => rfl); (case sT => rfl); (case s1 => (simp [Value.oneCell'])); (case sJ => (simp)); intro ws9 hbk hbb hgg; have UZ := ae.mk (dJ K8.out hgg (fun e_ => absurd (Option.some.inj e_) NE.out)); clear K8; have K8 := UZ; clear UZ; clear K9 HB; have K9 := ae.mk hbk; have HB := ae.mk hbb; clear hbk hbb hgg; have e0 := (af K8.out 0).trans rfl; have e1 := (af K8.out 1).trans rfl; have e2 := (af K8.out 2).trans rfl; have e3 := (af K8.out 3).trans rfl; have e4 := (af K8.out 4).trans rfl; have e5 := (af K8.out 5).trans rfl; have e6 := (af K8.out 6).trans rfl; have f0 := (af K9.out 0).trans rfl; have f1 := (af K9.out 1).trans rfl; have f2 := (af K9.out 2).trans rfl; have f3 := (af K9.out 3).trans rfl)))
    clear e0 e1 e2 e3 e4 e5 e6 f0 f1 f2 f3 K8 K9 NE G8 G9
    refine (HCx.out _ HB.out).mono ?_
    rintro e w' ⟨rfl, hb⟩
    have q_ := ae.mk (az HB.out hb); clear HB; have HB := q_; clear q_
    clear hb
    cases hq : r x y with
    | true =>
     have HQ := ae.mk hq
     clear hq
     go_wp2
     go_roundg (la.length - (kk + 1))
     case measure => have h1 := jh.out; have h2 := HKK.out; omega
     case rel => exact ⟨kk + 1, HKK.out, Nat.le_refl _, (by rw [HW.out]), ⟨by rw [HS.out, HX.out, HQ.out, Bool.true_and]⟩, HB⟩
    | false =>
     have HQ := ae.mk hq
     clear hq
     go_wp2
     go_ret
     rw [HS.out, HX.out, HQ.out, Bool.false_and]
     exact ⟨rfl, HB.out⟩
   ·have hltz : ¬ (kk : Int) < (la.length : Int) := by omega
    go_wp2
    go_ret
    rw [HS.out, List.drop_eq_nil_of_le (by omega), II]
    exact ⟨rfl, HB.out⟩
 ·have hl1 : ((la.length : Int) != (lb.length : Int)) = true := by simp; omega
  have hl2 : (la.length == lb.length) = false := by simp [hl]
  rw [hl2, Bool.false_and]
  clear hl hl2
  go_enter Try.func211, Try.ntmps211
  go_wp2
  go_ret
  exact ⟨rfl, HB.out⟩
theorem af7 (X Y Wd H ax : Int) (sizes : List Int) (hl : sizes.length ≤ 1000000) (B : Option Addr) (cb : Nat) (w : World) (hi : Kd.C (Kd.int .i64) w B sizes.length sizes) :
  Calls Try.prog 45 #[.agg #[.int .i64 X, .int .i64 Y, .int .i64 Wd, .int .i64 H], .int .u8 ax, .slice B sizes.length cb] w (KT w (rW X Y Wd H ax sizes)) := by
 have S := ae.mk (St.start (ts := []) (b0 := w.heap.size) (w := w) (P := fun _ => True) (fun _ h => by cases h))
 have HI := ae.mk hi
 have gX := ae.mk hl
 clear hi hl
 by_cases hax : ax = 1 ∨ ax = 2
 case neg =>
  have HQ := ae.mk (y8 (X := X) (Y := Y) (W := Wd) (H := H) (sizes := sizes) (.inl hax))
  have vH := ae.mk hax
  clear hax
  go_enter Try.func45, Try.ntmps45
  go_wp2_with (first
   | ((with_reducible refine aj 3 rfl ?_); refine boxS 3 #[.int .i64 X, .int .i64 Y, .int .i64 Wd, .int .i64 H] 23 S ?_; clear S; intro b3 eH S; obtain ⟨bD, bF, bG, bH⟩ := St.at4 S (.head _))
   | ((with_reducible refine aj 23 rfl ?_); refine dF (some 23) Try.func127 S (Vq vH.out _ _ _ _) ?_; clear S; intro fG S; clear bD bF bG bH)
   | ((with_reducible refine aj 9 rfl ?_); refine boxS 9 #[.int .i64 0, .int .i64 0, .int .i64 0, .int .i64 0] 23 S ?_; clear S; intro b9 gV S)
   | ((with_reducible refine dB 23 (.tmp 9) (.tmp 24) rfl ?_); refine gI 23 9 24 #[.int .i64 0, .int .i64 0, .int .i64 0, .int .i64 0] 0 4 S ?_; clear S; intro jB S)
   | fail)
  go_ret3
  rw [HQ.out]
  exact ⟨none, 0, none, 0, .cells #[] 0 (0, 0), .cells #[] 0 (0, 0), rfl, (fun h => by cases h), S.out.below⟩
 have vH := ae.mk hax
 obtain ⟨S0, hS0⟩ : ∃ s, s = tX ax X Y := ⟨_, rfl⟩
 obtain ⟨T0, hT0⟩ : ∃ s, s = tX ax Y X := ⟨_, rfl⟩
 obtain ⟨D, hD⟩ : ∃ s, s = tX ax Wd H := ⟨_, rfl⟩
 obtain ⟨E, hE⟩ : ∃ s, s = tX ax H Wd := ⟨_, rfl⟩
 have HTU := ae.mk (fun (W : World) => show Calls Try.prog 127 #[.agg #[.int .i64 X, .int .i64 Y, .int .i64 Wd, .int .i64 H], .int .u8 ax] W fun e w' => e = .returned (.tuple #[.agg #[.int .i64 S0, .int .i64 T0, .int .i64 D, .int .i64 E], .bool true]) ∧ Below W.heap.size W w' by rw [hS0, hT0, hD, hE]; exact Gt hax X Y Wd H)
 by_cases hm : rZ X Y Wd H = true
 case neg =>
  have hm2 := Bool.eq_false_iff.mpr hm
  have HQ := ae.mk (y8 (ax := ax) (sizes := sizes) (.inr (.inl hm2)))
  have xA := ae.mk hm2
  clear hm hm2 hax hS0 hT0 hD hE
  go_enter Try.func45, Try.ntmps45
  go_wp2_with (first
   | ((with_reducible refine aj 3 rfl ?_); refine boxS 3 #[.int .i64 X, .int .i64 Y, .int .i64 Wd, .int .i64 H] 23 S ?_; clear S; intro b3 eH S; obtain ⟨bD, bF, bG, bH⟩ := St.at4 S (.head _))
   | ((with_reducible refine aj 23 rfl ?_); refine dF (some 23) Try.func127 S (HTU.out _) ?_; clear S; intro fG S; clear bD bF bG bH)
   | ((with_reducible refine aj 9 rfl ?_); refine boxS 9 #[.int .i64 0, .int .i64 0, .int .i64 0, .int .i64 0] 23 S ?_; clear S; intro b9 gV S)
   | ((with_reducible refine dB 23 (.tmp 9) (.tmp 24) rfl ?_); refine gI 23 9 24 #[.int .i64 S0, .int .i64 T0, .int .i64 D, .int .i64 E] 0 4 S ?_; clear S; intro jB S; obtain ⟨bD, bF, bG, bH⟩ := St.at4 S (.tail _ (.head _)))
   | ((with_reducible refine aj 30 rfl ?_); (refine fZ (by rfl) ?_; dsimp only); refine dF (some 30) Try.func128 S (N_ xA.out) ?_; clear S; intro lQ S; clear bD bF bG bH)
   | fail)
  go_ret3
  rw [HQ.out]
  exact ⟨none, 0, none, 0, .cells #[] 0 (0, 0), .cells #[] 0 (0, 0), rfl, (fun h => by cases h), S.out.below⟩
 have xA := ae.mk hm
 by_cases h0 : sizes.length = 0
 case pos =>
  have HQ := ae.mk (y8 (X := X) (Y := Y) (W := Wd) (H := H) (ax := ax) (.inr (.inr h0)))
  have Dt : ((sizes.length : Int) == 0) = true := beq_iff_eq.mpr (by omega)
  have uk : ((sizes.length : Int) != 0) = false := bne_eq_false_iff_eq.mpr (by omega)
  have Ho : decide ((sizes.length : Int) = 0) = true := decide_eq_true (by omega)
  have TD : (sizes.length == 0) = true := beq_iff_eq.mpr (by omega)
  have TE : decide (sizes.length = 0) = true := decide_eq_true (by omega)
  clear hm h0 hax hS0 hT0 hD hE
  go_enter Try.func45, Try.ntmps45
  go_wp2_with (first
   | ((with_reducible refine aj 3 rfl ?_); refine boxS 3 #[.int .i64 X, .int .i64 Y, .int .i64 Wd, .int .i64 H] 23 S ?_; clear S; intro b3 eH S; obtain ⟨bD, bF, bG, bH⟩ := St.at4 S (.head _))
   | ((with_reducible refine aj 23 rfl ?_); refine dF (some 23) Try.func127 S (HTU.out _) ?_; clear S; intro fG S; clear bD bF bG bH)
   | ((with_reducible refine aj 9 rfl ?_); refine boxS 9 #[.int .i64 0, .int .i64 0, .int .i64 0, .int .i64 0] 23 S ?_; clear S; intro b9 gV S)
   | ((with_reducible refine dB 23 (.tmp 9) (.tmp 24) rfl ?_); refine gI 23 9 24 #[.int .i64 S0, .int .i64 T0, .int .i64 D, .int .i64 E] 0 4 S ?_; clear S; intro jB S; obtain ⟨bD, bF, bG, bH⟩ := St.at4 S (.tail _ (.head _)))
   | ((with_reducible refine aj 30 rfl ?_); (refine fZ (by rfl) ?_; dsimp only); refine dF (some 30) Try.func128 S (N_ xA.out) ?_; clear S; intro lQ S; clear bD bF bG bH)
   | fail)
  go_ret3
  rw [HQ.out]
  exact ⟨none, 0, none, 0, .cells #[] 0 (0, 0), .cells #[] 0 (0, 0), rfl, (fun h => by cases h), S.out.below⟩
 have hq := Tv hax hm h0
 rw [← hS0, ← hT0, ← hD, ← hE] at hq
 have hb := Vo hax hm
 rw [← hS0, ← hD] at hb
 have HB := ae.mk hb
 rw [hq]
 have Dt : ((sizes.length : Int) == 0) = false := beq_eq_false_iff_ne.mpr (by omega)
 have uk : ((sizes.length : Int) != 0) = true := bne_iff_ne.mpr (by omega)
 have Ho : decide ((sizes.length : Int) = 0) = false := decide_eq_false (by omega)
 have TD : (sizes.length == 0) = false := beq_eq_false_iff_ne.mpr (by omega)
 have TE : decide (sizes.length = 0) = false := decide_eq_false (by omega)
 obtain ⟨R, hR⟩ : ∃ R, R = p_ ax S0 T0 D E 0 true [] [] sizes := ⟨_, rfl⟩
 rw [← hR]
 have HR := ae.mk hR
 clear hq hb hm h0 hax hS0 hT0 hD hE hR
 go_enter Try.func45, Try.ntmps45
 go_wp2_with (first
  | ((with_reducible refine aj 3 rfl ?_); refine boxS 3 #[.int .i64 X, .int .i64 Y, .int .i64 Wd, .int .i64 H] 23 S ?_; clear S; intro b3 eH S; obtain ⟨bD, bF, bG, bH⟩ := St.at4 S (.head _))
  | ((with_reducible refine aj 23 rfl ?_); refine dF (some 23) Try.func127 S (HTU.out _) ?_; clear S; intro fG S; clear bD bF bG bH)
  | ((with_reducible refine aj 9 rfl ?_); refine boxS 9 #[.int .i64 0, .int .i64 0, .int .i64 0, .int .i64 0] 23 S ?_; clear S; intro b9 gV S)
  | ((with_reducible refine dB 23 (.tmp 9) (.tmp 24) rfl ?_); refine gI 23 9 24 #[.int .i64 S0, .int .i64 T0, .int .i64 D, .int .i64 E] 0 4 S ?_; clear S; intro jB S; obtain ⟨bD, bF, bG, bH⟩ := St.at4 S (.tail _ (.head _)))
  | ((with_reducible refine aj 30 rfl ?_); (refine fZ (by rfl) ?_; dsimp only); refine dF (some 30) Try.func128 S (N_ xA.out) ?_; clear S; intro lQ S; clear bD bF bG bH; have nY := (S.out.at (.head _) 0).trans rfl)
  | fail)
 clear nY
 clear Dt uk Ho TD TE
 go_loopg [11, 12, 13, 42] sizes.length (fun gg v11 v12 v13 v42 wr => ∃ (pre rest : List Int) (off : Int) (ps ls : List dW) (Ap : Option Addr) (cp : Nat) (op : Obj) (Aq : Option Addr) (cq : Nat) (oq : Obj), v11 = .slice Ap ps.length cp ∧ v12 = .slice Aq ls.length cq ∧ v13 = .int .i64 (S0 + off) ∧ v42 = .int .i64 (pre.length : Int) ∧ ae (pre ++ rest = sizes) ∧ rest.length ≤ gg ∧ ae (0 ≤ off ∧ off ≤ D ∧ ps.length ≤ pre.length ∧ ls.length ≤ pre.length) ∧ ae (p_ ax S0 T0 D E off (pre.length == 0) ps ls rest = R) ∧ ae (KR k23 23 w.heap.size (.slice Ap ps.length cp) ps op) ∧ ae (KR k23 23 w.heap.size (.slice Aq ls.length cq) ls oq) ∧ ae (St w (fun _ => True) [((Value.slice Aq ls.length cq).ownBlock, oq), ((Value.slice Ap ps.length cp).ownBlock, op), (some b9, .cells #[.int .i64 S0, .int .i64 T0, .int .i64 D, .int .i64 E] 23 (0, 0)), (some b3, .cells #[.int .i64 X, .int .i64 Y, .int .i64 Wd, .int .i64 H] 23 (0, 0))] [] [] [] wr))
 case atStart => exact ⟨[], sizes, 0, [], [], none, 0, _, none, 0, _, rfl, rfl, by rw [Int.add_zero], rfl, ⟨rfl⟩, Nat.le_refl _, ⟨by have := HB.out; simp; omega⟩, ⟨HR.out.symm⟩, ⟨Lh _ _ _⟩, ⟨Lh _ _ _⟩, ⟨S.out.noK.noK⟩⟩
 case round =>
  clear S HR
  obtain ⟨pre, rest, off, ps, ls, Ap, cp, op, Aq, cq, oq, rfl, rfl, rfl, rfl, HE, hgg, HO, HG, jf, mM, S⟩ := hrel
  cases rest with
  | nil =>
   have hE := HE.out
   rw [List.append_nil] at hE
   subst hE
   clear HE hgg
   have hlt : ¬ ((pre.length : Int) < (pre.length : Int)) := by omega
   have hw : wrap64 (S0 + D) = S0 + D := by have := HB.out; unfold wrap64; omega
   have RX := ae.mk (MZ HG.out)
   by_cases hod : off = D
   case pos =>
    have hza : ((S0 + off) == wrap64 (S0 + D)) = true := beq_iff_eq.mpr (by omega)
    have hzb : ((S0 + off) != wrap64 (S0 + D)) = false := bne_eq_false_iff_eq.mpr (by omega)
    have hzd : decide ((S0 + off) = wrap64 (S0 + D)) = true := decide_eq_true (by omega)
    have hya : ((S0 + off) == (S0 + D)) = true := beq_iff_eq.mpr (by omega)
    have hyb : ((S0 + off) != (S0 + D)) = false := bne_eq_false_iff_eq.mpr (by omega)
    have hyd : decide ((S0 + off) = (S0 + D)) = true := decide_eq_true (by omega)
    have Lc := ae.mk hod
    clear hod hw
    have nY := (S.out.at (.tail _ (.tail _ (.head _))) 0).trans rfl
    have oU := (S.out.at (.tail _ (.tail _ (.head _))) 2).trans rfl
    go_wp2
    clear nY oU
    go_ret3
    rw [RX.out, if_pos Lc.out]
    have S2 := S.out.uX
    exact ⟨Ap, cp, Aq, cq, op, oq, rfl, fun _ => S2.UQ jf.out mM.out, S.out.below⟩
   case neg =>
    have hza : ((S0 + off) == wrap64 (S0 + D)) = false := beq_eq_false_iff_ne.mpr (by omega)
    have hzb : ((S0 + off) != wrap64 (S0 + D)) = true := bne_iff_ne.mpr (by omega)
    have hzd : decide ((S0 + off) = wrap64 (S0 + D)) = false := decide_eq_false (by omega)
    have hya : ((S0 + off) == (S0 + D)) = false := beq_eq_false_iff_ne.mpr (by omega)
    have hyb : ((S0 + off) != (S0 + D)) = true := bne_iff_ne.mpr (by omega)
    have hyd : decide ((S0 + off) = (S0 + D)) = false := decide_eq_false (by omega)
    have Lc := ae.mk hod
    clear hod hw
    have nY := (S.out.at (.tail _ (.tail _ (.head _))) 0).trans rfl
    have oU := (S.out.at (.tail _ (.tail _ (.head _))) 2).trans rfl
    go_wp2
    clear nY oU
    have HQ := ae.mk (RX.out.trans (if_neg Lc.out))
    go_ret3
    rw [HQ.out]
    exact ⟨none, 0, none, 0, .cells #[] 0 (0, 0), .cells #[] 0 (0, 0), rfl, (fun h => by cases h), S.out.below⟩
  | cons n ns =>
   have hlt : (pre.length : Int) < (sizes.length : Int) := by rw [← HE.out, List.length_append, List.length_cons]; omega
   have hw1 : wrap64 ((pre.length : Int) + 1) = ((pre ++ [n]).length : Int) := by have := gX.out; rw [List.length_append, List.length_singleton]; unfold wrap64; omega
   have HW1 := ae.mk hw1
   have jh := ae.mk hgg
   have zK := ae.mk (show ps.length ≤ 1000000 ∧ ls.length ≤ 1000000 by have := HO.out; have := gX.out; omega)
   have hrd : rd sizes (pre.length : Int) = n := by rw [← HE.out]; simp [rd, List.getD_eq_getElem?_getD]
   obtain ⟨Yn, ek, xi⟩ := Kd.iq (Kd.fC HI.out S.out.below) (pre.length : Int) (Int.natCast_nonneg _) hlt
   subst ek
   rw [hrd] at xi
   simp only [Int.toNat_natCast] at xi
   clear hrd hgg hw1
   go_upto_if 48 with fail
   clear xi
   go_cut [12, 13] (fun v12 v13 wc => ∃ (o' : Int) (ls' : List dW) (Aq : Option Addr) (cq : Nat) (oq : Obj), v12 = .slice Aq ls'.length cq ∧ v13 = .int .i64 (S0 + o') ∧ ae (0 ≤ o' ∧ o' ≤ D + 1 ∧ ls'.length ≤ pre.length + 1) ∧ ae (AL ax S0 T0 D E o' ps ls' n ns = R) ∧ ae (KR k23 23 w.heap.size (.slice Aq ls'.length cq) ls' oq) ∧ ae (St w (fun _ => True) [((Value.slice Aq ls'.length cq).ownBlock, oq), ((Value.slice Ap ps.length cp).ownBlock, op), (some b9, .cells #[.int .i64 S0, .int .i64 T0, .int .i64 D, .int .i64 E] 23 (0, 0)), (some b3, .cells #[.int .i64 X, .int .i64 Y, .int .i64 Wd, .int .i64 H] 23 (0, 0))] [] [] [] wc))
   case first =>
    by_cases hp2 : pre.length = 0
    case pos =>
     have hp : (pre.length == 0) = true := beq_iff_eq.mpr hp2
     have hpa : decide (0 < (pre.length : Int)) = false := decide_eq_false (by omega)
     have hpb : decide ((pre.length : Int) > 0) = false := decide_eq_false (by omega)
     have hpc : decide (0 < pre.length) = false := decide_eq_false (by omega)
     have hpe : ¬ (0 < pre.length) := by omega
     have HG2 := ae.mk (show AL ax S0 T0 D E off ps ls n ns = R by have h := HG.out; rw [hp] at h; exact h)
     clear hp hp2
     go_wp2
     go_meet
     case rel => exact ⟨off, ls, _, _, _, rfl, rfl, ⟨by have := HO.out; omega⟩, HG2, mM, S⟩
    case neg =>
     have hp : (pre.length == 0) = false := beq_eq_false_iff_ne.mpr hp2
     have hpa : decide (0 < (pre.length : Int)) = true := decide_eq_true (by omega)
     have hpb : decide ((pre.length : Int) > 0) = true := decide_eq_true (by omega)
     have hpc : decide (0 < pre.length) = true := decide_eq_true (by omega)
     have hpe : 0 < pre.length := by omega
     have HG2 := ae.mk (show AL ax S0 T0 D E (off + 1) ps (ls ++ [nR ax (S0 + off) T0 E 1]) n ns = R by have h := HG.out; rw [hp] at h; exact h)
     have OQ := ae.mk (show wrap64 ((S0 + off) + 1) = S0 + (off + 1) by have := HO.out; have := HB.out; unfold wrap64; omega)
     clear hp hp2
     have sH := (S.out.at (.tail _ (.tail _ (.head _))) 1).trans rfl
     have sK := (S.out.at (.tail _ (.tail _ (.head _))) 3).trans rfl
     go_wp2_with (first
      | ((with_reducible refine aj 57 rfl ?_); refine dF (some 57) Try.func127 S (Gt vH.out (S0 + off) T0 1 E) ?_; clear S; intro eH S; clear sH sK)
      | ((with_reducible refine aj 16 rfl ?_); refine boxS 16 #[.int .i64 0, .int .i64 0, .int .i64 0, .int .i64 0] 23 S ?_; clear S; intro b16 fG S)
      | ((with_reducible refine dB 23 (.tmp 16) (.tmp 58) rfl ?_); refine gI 23 16 58 #[.int .i64 (tX ax (S0 + off) T0), .int .i64 (tX ax T0 (S0 + off)), .int .i64 (tX ax 1 E), .int .i64 (tX ax E 1)] 0 4 S ?_; clear S; intro gV S; obtain ⟨acZ, ac0, ac1, ac2⟩ := St.at4 S (.head _))
      | ((with_reducible refine aj 63 rfl ?_); at_builtin; replace S := ae.mk S.out.uX; refine uV k23 23 rfl 60 62 42 _ 32 Try.underlying42 info23 rfl (by decide) (by decide) (by decide) S mM ⟨tX ax (S0 + off) T0, tX ax T0 (S0 + off), tX ax 1 E, tX ax E 1⟩ [.int .i64 (tX ax (S0 + off) T0), .int .i64 (tX ax T0 (S0 + off)), .int .i64 (tX ax 1 E), .int .i64 (tX ax E 1)] (fun _ _ _ => qV _ _ _ _) (by have := zK.out; omega) ?_; clear S mM; intro Aq2 cq2 oq2 jB S mM; clear acZ ac0 ac1 ac2)
      | fail)
     go_meet
     case rel => exact ⟨off + 1, _, _, _, _, (by rw [List.length_append]; rfl), (by rw [OQ.out]), ⟨by have := HO.out; rw [List.length_append, List.length_singleton]; omega⟩, HG2, mM, ⟨S.out.uX.eF.rC.rC.rC.rC⟩⟩
   case rest =>
    clear S mM HG
    obtain ⟨o', ls', Aq, cq, oq, rfl, rfl, pV, HG, mM, S⟩ := hcut
    rename World => wx
    have zK := ae.mk (show ps.length ≤ 1000000 ∧ ls'.length ≤ 1000001 by have := HO.out; have := pV.out; have := gX.out; omega)
    have hg : wrap64 (wrap64 (S0 + D) - (S0 + o')) = D - o' := by have := HB.out; have := pV.out; unfold wrap64; omega
    have HWG := ae.mk hg
    by_cases hn : n < 1
    case pos =>
     have hna : decide (n < 1) = true := decide_eq_true (by omega)
     have hnb : decide (1 > n) = true := decide_eq_true (by omega)
     have HQ := ae.mk (HG.out.symm.trans (Bg (.inl hn)))
     go_wp2
     go_ret3
     rw [HQ.out]
     exact ⟨none, 0, none, 0, .cells #[] 0 (0, 0), .cells #[] 0 (0, 0), rfl, (fun h => by cases h), S.out.below⟩
    have hna : decide (n < 1) = false := decide_eq_false (by omega)
    have hnb : decide (1 > n) = false := decide_eq_false (by omega)
    by_cases hd : D < o' + n
    case pos =>
     have hda : decide (wrap64 (wrap64 (S0 + D) - (S0 + o')) < n) = true := decide_eq_true (by omega)
     have hdb : decide (n > wrap64 (wrap64 (S0 + D) - (S0 + o'))) = true := decide_eq_true (by omega)
     have hea : decide (D - o' < n) = true := decide_eq_true (by omega)
     have heb : decide (n > D - o') = true := decide_eq_true (by omega)
     have HQ := ae.mk (HG.out.symm.trans (Bg (.inr hd)))
     have nY := (S.out.at (.tail _ (.tail _ (.head _))) 0).trans rfl
     have oU := (S.out.at (.tail _ (.tail _ (.head _))) 2).trans rfl
     go_wp2
     clear nY oU
     go_ret3
     rw [HQ.out]
     exact ⟨none, 0, none, 0, .cells #[] 0 (0, 0), .cells #[] 0 (0, 0), rfl, (fun h => by cases h), S.out.below⟩
    have hda : decide (wrap64 (wrap64 (S0 + D) - (S0 + o')) < n) = false := decide_eq_false (by omega)
    have hdb : decide (n > wrap64 (wrap64 (S0 + D) - (S0 + o'))) = false := decide_eq_false (by omega)
    have hea : decide (D - o' < n) = false := decide_eq_false (by omega)
    have heb : decide (n > D - o') = false := decide_eq_false (by omega)
    have HG2 := ae.mk ((O0 (fun h => h.elim hn hd)).symm.trans HG.out)
    have HN := ae.mk hn
    have HD2 := ae.mk hd
    have OQ := ae.mk (show wrap64 ((S0 + o') + n) = S0 + (o' + n) by have := pV.out; have := HB.out; unfold wrap64; omega)
    clear hn hd hg
    obtain ⟨nY, sH, oU, sK⟩ := St.at4 S (.tail _ (.tail _ (.head _)))
    go_wp2_with (first
     | ((with_reducible refine aj 88 rfl ?_); refine dF (some 88) Try.func127 S (Gt vH.out (S0 + o') T0 n E) ?_; clear S; intro eH S; clear nY sH oU sK)
     | ((with_reducible refine aj 18 rfl ?_); refine boxS 18 #[.int .i64 0, .int .i64 0, .int .i64 0, .int .i64 0] 23 S ?_; clear S; intro b18 fG S)
     | ((with_reducible refine dB 23 (.tmp 18) (.tmp 89) rfl ?_); refine gI 23 18 89 #[.int .i64 (tX ax (S0 + o') T0), .int .i64 (tX ax T0 (S0 + o')), .int .i64 (tX ax n E), .int .i64 (tX ax E n)] 0 4 S ?_; clear S; intro gV S; obtain ⟨ac3, ac4, ac5, ac6⟩ := St.at4 S (.head _))
     | ((with_reducible refine aj 94 rfl ?_); at_builtin; replace S := ae.mk S.out.JO; refine uV k23 23 rfl 91 93 42 _ 32 Try.underlying42 info23 rfl (by decide) (by decide) (by decide) S jf ⟨tX ax (S0 + o') T0, tX ax T0 (S0 + o'), tX ax n E, tX ax E n⟩ [.int .i64 (tX ax (S0 + o') T0), .int .i64 (tX ax T0 (S0 + o')), .int .i64 (tX ax n E), .int .i64 (tX ax E n)] (fun _ _ _ => qV _ _ _ _) (by have := zK.out; omega) ?_; clear S jf; intro KO cp2 N7 jB S jf; clear ac3 ac4 ac5 ac6)
     | fail)
    have hw1 := HW1.out
    go_wp2
    go_roundg ns.length
    case measure => exact Nat.lt_of_lt_of_le (Nat.lt_succ_self _) jh.out
    case rel => exact ⟨pre ++ [n], ns, o' + n, _, ls', _, _, _, _, _, _, (by rw [List.length_append]; rfl), rfl, (by rw [OQ.out]), (by rw [hw1]), ⟨by rw [List.append_assoc]; exact HE.out⟩, Nat.le_refl _, ⟨by have := HO.out; have := pV.out; have := HN.out; have := HD2.out; simp only [List.length_append, List.length_singleton]; omega⟩, ⟨by rw [show ((pre ++ [n]).length == 0) = false by simp]; exact HG2.out⟩, jf, mM, ⟨S.out.uX.eF.rC.rC.JO.rC⟩⟩
def ahJ.f (_ : Nat) (X Y Wd H ax : Int) (sizes : List Int) : Option (List dW × List dW × Bool) := if sizes.length ≤ 1000000 then some (rW X Y Wd H ax sizes) else none
end Go.Proofs.Ytfdmfgaiblfbhaa.P
