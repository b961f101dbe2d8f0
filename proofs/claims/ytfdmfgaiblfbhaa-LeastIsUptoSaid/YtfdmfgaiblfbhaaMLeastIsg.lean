/- The row of the law LeastIs, second form (what it reads is of bulk at most 1048576), out of its plain law and its walk. -/
import Derived.Test.YtfdmfgaiblfbhaaMLeastIsf
import Derived.Test.YtfdmfgaiblfbhaaMLeastIsc
import Derived.Test.YtfdmfgaiblfbhaaMLeastIse
import Derived.Test.YtfdmfgaiblfbhaaMLeastIsd
import Derived.Test.YtfdmfgaiblfbhaaRows
import Derived.ProofKit
import Derived.WalkKit
import Derived.OpenShut
import Derived.ShutString
import Derived.ChangeOld
import Derived.Below
import Derived.SizedLaws
import Derived.JoinedCond
/- The least size of a tree, by the code and by the reference: plain data. -/
namespace Go.Proofs.Ytfdmfgaiblfbhaa.P
open Go.RowKit Go.Proofs.YtfdmfgaiblfbhaaW.PrintWords Go.Proofs.YtfdmfgaiblfbhaaW.PrintLast Go.Proofs.YtfdmfgaiblfbhaaW.PrintMore
def alongK (ax k : Int) : Bool := (k == 2 && ax == 1) || (k == 3 && ax == 2)
theorem along_some (c : S26) (ax : Int) : least_Along.f c.f0 c.f1.f0 c.f1.f1 c.f1.f2 c.f1.f3 c.f2 c.f3 ax = some (alongK ax c.f0) := by
  unfold least_Along.f alongK
  by_cases h2 : c.f0 = 2
  · by_cases h1 : ax = 1
    · rw [if_pos h2, if_pos h1]; simp [h2, h1]
    · rw [if_pos h2, if_neg h1, if_neg (by omega)]; simp [h2, h1]
  · rw [if_neg h2]
    by_cases h3 : c.f0 = 3
    · rw [if_pos h3]; simp [h3]
    · rw [if_neg h3]; simp [h2, h3]
theorem ralong_some (c : S26) (ax : Int) : sashref08_Along.f c.f0 c.f1.f0 c.f1.f1 c.f1.f2 c.f1.f3 c.f2 c.f3 ax = some (alongK ax c.f0) := along_some c ax
mutual
def leastC (ax : Int) : S26 → Int
  | ⟨a, _, _, l⟩ => if a = 1 then 1 else if alongK ax a = true then ((l.length : Int) - 1) + sumL ax l else mostL ax 0 l
def sumL (ax : Int) : List S26 → Int
  | [] => 0
  | k :: ks => leastC ax k + sumL ax ks
def mostL (ax : Int) : Int → List S26 → Int
  | m, [] => m
  | m, k :: ks => mostL ax (mx m (leastC ax k)) ks
end
theorem leastC_eq (ax : Int) (c : S26) : leastC ax c = if c.f0 = 1 then 1 else if alongK ax c.f0 = true then ((c.f3.length : Int) - 1) + sumL ax c.f3 else mostL ax 0 c.f3 := by cases c; simp [leastC]
theorem sumL_nil (ax : Int) : sumL ax [] = 0 := by simp [sumL]
theorem sumL_cons (ax : Int) (k : S26) (ks : List S26) : sumL ax (k :: ks) = leastC ax k + sumL ax ks := by simp [sumL]
theorem sumL_app (ax : Int) (a b : List S26) : sumL ax (a ++ b) = sumL ax a + sumL ax b := by
  induction a with
  | nil => rw [List.nil_append, sumL_nil]; omega
  | cons x xs ih => rw [List.cons_append, sumL_cons, sumL_cons, ih]; omega
theorem mostL_nil (ax m : Int) : mostL ax m [] = m := by simp [mostL]
theorem mostL_cons (ax m : Int) (k : S26) (ks : List S26) : mostL ax m (k :: ks) = mostL ax (mx m (leastC ax k)) ks := by simp [mostL]
theorem mx_le {a b c : Int} (h : a ≤ c) (k : b ≤ c) : mx a b ≤ c := by unfold mx; split <;> omega
theorem le_mx1 (a b : Int) : a ≤ mx a b := by unfold mx; split <;> omega
theorem leastC_bd (ax : Int) : ∀ (N : Nat), (∀ c : S26, sz c ≤ N → -(sz c : Int) ≤ leastC ax c ∧ leastC ax c ≤ 2 * (sz c : Int) - 1) ∧
    (∀ l : List S26, szL l ≤ N → -(szL l : Int) ≤ sumL ax l ∧ sumL ax l ≤ 2 * (szL l : Int) - (l.length : Int)) ∧ (∀ l : List S26, szL l ≤ N → ∀ m : Int, m ≤ mostL ax m l ∧ ∀ u, m ≤ u → 2 * (szL l : Int) ≤ u → mostL ax m l ≤ u) := by
  intro N
  induction N with
  | zero =>
    refine ⟨fun c h => ?_, fun l h => ?_, fun l h => ?_⟩
    · rw [sz_eq] at h; omega
    · cases l with
      | nil => rw [sumL_nil, szL_nil]; simp
      | cons z zs => rw [szL_cons, sz_eq] at h; omega
    · cases l with
      | nil => intro m; rw [mostL_nil]; exact ⟨Int.le_refl _, fun u h _ => h⟩
      | cons z zs => rw [szL_cons, sz_eq] at h; omega
  | succ N ih =>
    have hC : ∀ c : S26, sz c ≤ N + 1 → -(sz c : Int) ≤ leastC ax c ∧ leastC ax c ≤ 2 * (sz c : Int) - 1 := by
      intro c h
      have hs := sz_eq c
      have h1 := ih.2.1 c.f3 (by omega)
      have h2 := ih.2.2 c.f3 (by omega) 0
      have h3 := h2.2 (2 * (szL c.f3 : Int)) (by omega) (Int.le_refl _)
      rw [leastC_eq]
      split
      · omega
      · split
        · omega
        · omega
    refine ⟨hC, fun l => ?_, fun l => ?_⟩
    · induction l with
      | nil => intro _; rw [sumL_nil, szL_nil]; simp
      | cons x xs ihl =>
        intro h
        rw [szL_cons] at h ⊢
        have h1 := hC x (by omega)
        have h2 := ihl (by omega)
        rw [sumL_cons, List.length_cons]
        omega
    · induction l with
      | nil => intro _ m; rw [mostL_nil]; exact ⟨Int.le_refl _, fun u h _ => h⟩
      | cons x xs ihl =>
        intro h m
        rw [szL_cons] at h ⊢
        have h1 := hC x (by omega)
        have h2 := ihl (by omega) (mx m (leastC ax x))
        rw [mostL_cons]
        refine ⟨Int.le_trans (le_mx1 m (leastC ax x)) h2.1, fun u hu hu2 => h2.2 u (mx_le hu (by omega)) (by omega)⟩
theorem least_ev (ax : Int) : ∀ (N : Nat) (c : S26), sz c ≤ N → N ≤ 1048576 → Ev (fun k => least_least.f k c.f0 c.f1.f0 c.f1.f1 c.f1.f2 c.f1.f3 c.f2 c.f3 ax) (leastC ax c) := by
  intro N
  induction N with
  | zero => intro c h _; rw [sz_eq] at h; omega
  | succ N ih =>
    intro c hc hN
    have hs := sz_eq c
    have hlen := szL_len c.f3
    rw [leastC_eq]
    by_cases h1 : c.f0 = 1
    · rw [if_pos h1]
      refine Ev.step (f := fun _ => some 1) (fun k => ?_) (Ev.now _)
      simp only [least_least.f]
      rw [if_pos h1]
    · rw [if_neg h1]
      have key : ∀ (rest pre : List S26), pre ++ rest = c.f3 → ∀ m : Int, Ev (fun k => least_least.l0 k ax (((c.f3.length : Int) - 1) + sumL ax pre) m c.f3 (c.f3.length : Int) (pre.length : Int) c.f0 c.f1.f0 c.f1.f1 c.f1.f2 c.f1.f3 c.f2 c.f3) (if alongK ax c.f0 = true then ((c.f3.length : Int) - 1) + sumL ax c.f3 else mostL ax m rest) := by
        intro rest
        induction rest with
        | nil =>
          intro pre hp m
          rw [List.append_nil] at hp
          subst hp
          rw [mostL_nil]
          refine Ev.step (f := fun _ => some (if alongK ax c.f0 = true then ((c.f3.length : Int) - 1) + sumL ax c.f3 else m)) (fun k => ?_) (Ev.now _)
          simp only [least_least.l0]
          rw [if_neg (by omega), along_some]
          simp only [Option.bind_some]
          split <;> rfl
        | cons x xs ihr =>
          intro pre hp m
          have hl : (pre.length : Int) < (c.f3.length : Int) := by rw [← hp, List.length_append, List.length_cons]; omega
          have hsum : szL c.f3 = szL pre + (sz x + szL xs) := by rw [← hp, szL_app, szL_cons]
          have hr : rd_T26 c.f3 (pre.length : Int) = x := by rw [← hp]; exact rd26_in pre x xs
          have hu : wrap64 ((pre.length : Int) + 1) = ((pre ++ [x]).length : Int) := up_in pre x xs (by rw [hp]; omega)
          have e2 := ihr (pre ++ [x]) (by rw [List.append_assoc]; exact hp) (mx m (leastC ax x))
          have b1 := (leastC_bd ax (sz x)).1 x (Nat.le_refl _)
          have b2 := (leastC_bd ax (szL pre)).2.1 pre (Nat.le_refl _)
          have hw : wrap64 ((((c.f3.length : Int) - 1) + sumL ax pre) + leastC ax x) = ((c.f3.length : Int) - 1) + sumL ax (pre ++ [x]) := by
            rw [wq (by omega) (by omega), sumL_app, sumL_cons, sumL_nil]
            omega
          rw [mostL_cons]
          refine Ev.step (f := fun k => (least_least.f k x.f0 x.f1.f0 x.f1.f1 x.f1.f2 x.f1.f3 x.f2 x.f3 ax).bind fun t => least_least.l0 k ax (wrap64 ((((c.f3.length : Int) - 1) + sumL ax pre) + t)) (mx m t) c.f3 (c.f3.length : Int) (wrap64 ((pre.length : Int) + 1)) c.f0 c.f1.f0 c.f1.f1 c.f1.f2 c.f1.f3 c.f2 c.f3) (fun k => ?_) (Ev.bind (ih x (by omega) (by omega)) ?_)
          · simp only [least_least.l0]
            rw [if_pos hl, if_pos (by omega), if_pos hl, hr]
          · rw [hu, hw]
            exact e2
      have e := key c.f3 [] rfl 0
      rw [sumL_nil, Int.add_zero] at e
      refine Ev.step (fun k => ?_) e
      simp only [least_least.f]
      rw [if_neg h1, wq (by omega) (by omega)]
      rfl
theorem ok_kids {c x : S26} (h : (allC c).all okC = true) (hx : x ∈ c.f3) : (allC x).all okC = true := by
  rw [allC_eq, List.all_cons, Bool.and_eq_true] at h
  obtain ⟨p, q, e⟩ := List.append_of_mem hx
  have h2 := h.2
  rw [e, allL_app, allL_cons, List.all_append, List.all_append] at h2
  simp only [Bool.and_eq_true] at h2
  exact h2.2.1
theorem ok_head {c : S26} (h : (allC c).all okC = true) : okC c = true := by
  rw [allC_eq, List.all_cons, Bool.and_eq_true] at h
  exact h.1
theorem ok_kinds {c : S26} (h : okC c = true) : (c.f0 = 1 ∧ c.f3.length = 0) ∨ ((c.f0 = 2 ∨ c.f0 = 3) ∧ 2 ≤ c.f3.length) := by
  unfold okC at h
  simp only [Bool.and_eq_true, decide_eq_true_eq] at h
  obtain ⟨⟨⟨_, h1⟩, h2⟩, h3⟩ := h
  by_cases e : c.f0 = 1
  · exact .inl ⟨e, (h2 e).1⟩
  · exact .inr ⟨by omega, (h3 (by omega)).1⟩
theorem of_ev (ax : Int) : ∀ (N : Nat) (c : S26), sz c ≤ N → N ≤ 1048576 → (allC c).all okC = true → Ev (fun k => sashref08_Of.f k c.f0 c.f1.f0 c.f1.f1 c.f1.f2 c.f1.f3 c.f2 c.f3 ax) (leastC ax c) := by
  intro N
  induction N with
  | zero => intro c h _; rw [sz_eq] at h; omega
  | succ N ih =>
    intro c hc hN hok
    have hs := sz_eq c
    have hlen := szL_len c.f3
    rw [leastC_eq]
    rcases ok_kinds (ok_head hok) with ⟨h1, h2⟩ | ⟨h1, h2⟩
    · rw [if_pos h1]
      refine Ev.step (f := fun _ => some 1) (fun k => ?_) (Ev.now _)
      simp only [sashref08_Of.f]
      rw [if_pos (by omega)]
    · rw [if_neg (by omega)]
      have key : ∀ (rest pre : List S26), pre ++ rest = c.f3 → ∀ m : Int, Ev (fun k => sashref08_Of.l0 k ax (if alongK ax c.f0 = true then sumL ax pre + (if pre.length = 0 then 0 else (pre.length : Int) - 1) else m) (c.f3.length : Int) (pre.length : Int) c.f0 c.f1.f0 c.f1.f1 c.f1.f2 c.f1.f3 c.f2 c.f3) (if alongK ax c.f0 = true then ((c.f3.length : Int) - 1) + sumL ax c.f3 else mostL ax m rest) := by
        intro rest
        induction rest with
        | nil =>
          intro pre hp m
          rw [List.append_nil] at hp
          subst hp
          rw [mostL_nil]
          refine Ev.step (f := fun _ => some (if alongK ax c.f0 = true then ((c.f3.length : Int) - 1) + sumL ax c.f3 else m)) (fun k => ?_) (Ev.now _)
          simp only [sashref08_Of.l0]
          rw [if_neg (by omega)]
          cases ha : alongK ax c.f0 with
          | true =>
            simp only [if_true]
            rw [if_neg (show ¬ c.f3.length = 0 by omega)]
            congr 1
            omega
          | false => simp only [Bool.false_eq_true, if_false]
        | cons x xs ihr =>
          intro pre hp m
          have hl : (pre.length : Int) < (c.f3.length : Int) := by rw [← hp, List.length_append, List.length_cons]; omega
          have hsum : szL c.f3 = szL pre + (sz x + szL xs) := by rw [← hp, szL_app, szL_cons]
          have hr : rd_T26 c.f3 (pre.length : Int) = x := by rw [← hp]; exact rd26_in pre x xs
          have hu : wrap64 ((pre.length : Int) + 1) = ((pre ++ [x]).length : Int) := up_in pre x xs (by rw [hp]; omega)
          have e2 := ihr (pre ++ [x]) (by rw [List.append_assoc]; exact hp) (mx m (leastC ax x))
          have b1 := (leastC_bd ax (sz x)).1 x (Nat.le_refl _)
          have b2 := (leastC_bd ax (szL pre)).2.1 pre (Nat.le_refl _)
          have bl := szL_len pre
          have hx : x ∈ c.f3 := by rw [← hp]; simp
          rw [mostL_cons]
          refine Ev.step (f := fun k => (sashref08_Of.f k x.f0 x.f1.f0 x.f1.f1 x.f1.f2 x.f1.f3 x.f2 x.f3 ax).bind fun t => sashref08_Of.l0 k ax (if alongK ax c.f0 = true then (if (pre.length : Int) > 0 then wrap64 ((wrap64 ((sumL ax pre + (if pre.length = 0 then 0 else (pre.length : Int) - 1)) + t)) + 1) else wrap64 ((sumL ax pre + (if pre.length = 0 then 0 else (pre.length : Int) - 1)) + t)) else (mx m t)) (c.f3.length : Int) (wrap64 ((pre.length : Int) + 1)) c.f0 c.f1.f0 c.f1.f1 c.f1.f2 c.f1.f3 c.f2 c.f3) (fun k => ?_) (Ev.bind (ih x (by omega) (by omega) (ok_kids hok hx)) ?_)
          · simp only [sashref08_Of.l0]
            rw [if_pos hl, if_pos (by omega), if_pos hl, hr]
            congr 1
            funext t
            rw [ralong_some]
            simp only [Option.bind_some]
            cases ha : alongK ax c.f0 with
            | true =>
              simp only [if_true]
              split <;> rfl
            | false =>
              simp only [Bool.false_eq_true, if_false]
              unfold mx
              by_cases hm : t > m
              · rw [if_pos hm, if_pos (by omega)]
              · rw [if_neg hm, if_neg (by omega)]
          · rw [hu]
            cases ha : alongK ax c.f0 with
            | false =>
              rw [ha] at e2
              exact e2
            | true =>
              rw [ha] at e2
              simp only [if_true] at e2 ⊢
              rw [if_neg (by simp), sumL_app, sumL_cons, sumL_nil, List.length_append, List.length_singleton] at e2
              rw [List.length_append, List.length_singleton]
              by_cases hz : pre.length = 0
              · rw [if_neg (by omega), if_pos hz, wq (by omega) (by omega)]
                rw [show sumL ax pre + (leastC ax x + 0) + (((pre.length + 1 : Nat) : Int) - 1) = sumL ax pre + 0 + leastC ax x from by omega] at e2
                exact e2
              · rw [if_pos (by omega), if_neg hz, wq (x := sumL ax pre + ((pre.length : Int) - 1) + leastC ax x) (by omega) (by omega), wq (by omega) (by omega)]
                rw [show sumL ax pre + (leastC ax x + 0) + (((pre.length + 1 : Nat) : Int) - 1) = sumL ax pre + ((pre.length : Int) - 1) + leastC ax x + 1 from by omega] at e2
                exact e2
      have e := key c.f3 [] rfl 0
      rw [sumL_nil, if_pos List.length_nil] at e
      refine Ev.step (fun k => ?_) e
      simp only [sashref08_Of.f]
      rw [if_neg (by omega)]
      split <;> rfl
end Go.Proofs.Ytfdmfgaiblfbhaa.P
/- least.Size: plain data. -/
namespace Go.Proofs.Ytfdmfgaiblfbhaa.P
open Go.RowKit Go.Proofs.YtfdmfgaiblfbhaaW.PrintWords Go.Proofs.YtfdmfgaiblfbhaaW.PrintLast Go.Proofs.YtfdmfgaiblfbhaaW.PrintMore
def sizeR (ax : Int) (r : S23) : Int := if ax = 1 then r.f2 else if ax = 2 then r.f3 else 0
theorem size_some (r : S23) (ax : Int) : least_Size.f r.f0 r.f1 r.f2 r.f3 ax = some (sizeR ax r) := by
  unfold least_Size.f sizeR
  by_cases h1 : ax = 1
  · rw [if_neg (by omega), if_pos h1, if_pos h1]
  · by_cases h2 : ax = 2
    · rw [if_pos h2, if_neg h1, if_pos h2]
    · rw [if_neg h2, if_neg h1, if_neg h1, if_neg h2]
end Go.Proofs.Ytfdmfgaiblfbhaa.P
/- What a tree can give, its least size, whether a size fits it, by the code and by the reference: plain data. -/
namespace Go.Proofs.Ytfdmfgaiblfbhaa.P
open Go.RowKit Go.Proofs.YtfdmfgaiblfbhaaW.PrintWords Go.Proofs.YtfdmfgaiblfbhaaW.PrintLast Go.Proofs.YtfdmfgaiblfbhaaW.PrintMore
theorem Ev.unique {α : Type} {g : Nat → Option α} {a b : α} (h : Ev g a) (k : Ev g b) : a = b := by
  obtain ⟨n, hn⟩ := h
  obtain ⟨m, hm⟩ := k
  have e := (hn (max n m) (by omega)).symm.trans (hm (max n m) (by omega))
  exact Option.some.inj e
theorem rsize_some (r : S23) (ax : Int) : sashref08_Size.f r.f0 r.f1 r.f2 r.f3 ax = some (sizeR ax r) := by
  unfold sashref08_Size.f sizeR
  split
  · rfl
  · split <;> rfl
theorem may1_some (c : S26) (hz : sz c ≤ 1048576) : cell_May.f ([(⟨c.f0, (⟨c.f1.f0, c.f1.f1, c.f1.f2, c.f1.f3⟩ : S23), c.f2, c.f3⟩ : S26)] : List S26) = some (mayC c) := by
  rw [eta26]
  unfold cell_May.f
  rw [if_pos (by simp [hz])]
  simp
theorem tiles1_some (c : S26) (hz : sz c ≤ 1048576) : tile_Tiles.f ([(⟨c.f0, (⟨c.f1.f0, c.f1.f1, c.f1.f2, c.f1.f3⟩ : S23), c.f2, c.f3⟩ : S26)] : List S26) = some (tilesC c) := by
  rw [eta26]
  unfold tile_Tiles.f
  rw [if_pos (by simp [hz])]
  simp
theorem may_ok {c : S26} (h : mayC c = true) : (allC c).all okC = true := by
  unfold mayC at h
  simp only [Bool.and_eq_true] at h
  exact h.2.1
theorem tiles_may {c : S26} (h : tilesC c = true) : mayC c = true := by
  unfold tilesC at h
  simp only [Bool.and_eq_true] at h
  exact h.1
noncomputable def givesC (ax : Int) (c : S26) : Int := if (ax = 1 ∨ ax = 2) ∧ tilesC c = true then wrap64 (sizeR ax c.f1 - leastC ax c) else 0
def lstC (ax : Int) (c : S26) : Int := if (ax = 1 ∨ ax = 2) ∧ mayC c = true then leastC ax c else 0
def fitsC (c : S26) (w h : Int) : Bool := mayC c && (decide (w ≥ leastC 1 c) && (decide (h ≥ leastC 2 c) && (decide (w ≤ wrap64 (10000 - c.f1.f0)) && decide (h ≤ wrap64 (10000 - c.f1.f1)))))
theorem gives_ev (c : S26) (hz : sz c ≤ 1048576) (ax : Int) : Ev (fun k => least_Gives.f k c.f0 c.f1.f0 c.f1.f1 c.f1.f2 c.f1.f3 c.f2 c.f3 ax) (givesC ax c) := by
  have no : Ev (fun k => least_Gives.j0 k ax true c.f0 c.f1.f0 c.f1.f1 c.f1.f2 c.f1.f3 c.f2 c.f3) 0 := by
    refine Ev.step (f := fun _ => some 0) (fun k => ?_) (Ev.now _)
    simp only [least_Gives.j0]
    rw [if_pos trivial]
  unfold givesC
  by_cases hax : ax = 1 ∨ ax = 2
  · have ha : least_axes.f ax = some true := by
      unfold least_axes.f
      rcases hax with rfl | rfl <;> rfl
    cases ht : tilesC c with
    | false =>
      rw [if_neg (by simp)]
      refine Ev.congr (f := fun k => least_Gives.j0 k ax true c.f0 c.f1.f0 c.f1.f1 c.f1.f2 c.f1.f3 c.f2 c.f3) (fun k => ?_) no
      unfold least_Gives.f
      rw [ha]
      simp only [Option.bind_some, if_true]
      rw [tiles1_some c hz, ht]
      rfl
    | true =>
      rw [if_pos ⟨hax, rfl⟩]
      refine Ev.congr (f := fun k => least_Gives.j0 k ax false c.f0 c.f1.f0 c.f1.f1 c.f1.f2 c.f1.f3 c.f2 c.f3) (fun k => ?_) (Ev.step (f := fun k => (least_least.f k c.f0 c.f1.f0 c.f1.f1 c.f1.f2 c.f1.f3 c.f2 c.f3 ax).bind fun t => some (wrap64 (sizeR ax c.f1 - t))) (fun k => ?_) (Ev.bind (least_ev ax (sz c) c (Nat.le_refl _) hz) (Ev.now _)))
      · unfold least_Gives.f
        rw [ha]
        simp only [Option.bind_some, if_true]
        rw [tiles1_some c hz, ht]
        rfl
      · simp only [least_Gives.j0]
        rw [if_neg (by simp), size_some c.f1 ax]
        rfl
  · rw [if_neg (fun h => hax h.1)]
    refine Ev.congr (f := fun k => least_Gives.j0 k ax true c.f0 c.f1.f0 c.f1.f1 c.f1.f2 c.f1.f3 c.f2 c.f3) (fun k => ?_) no
    unfold least_Gives.f least_axes.f
    rw [if_neg (fun h => hax (.inl h)), show (ax == 2) = false from by simp; exact fun h => hax (.inr h)]
    simp only [Option.bind_some, Bool.false_eq_true, if_false]
theorem rgives_ev (c : S26) (hz : sz c ≤ 1048576) (ax : Int) : Ev (fun k => sashref08_Gives.f k c.f0 c.f1.f0 c.f1.f1 c.f1.f2 c.f1.f3 c.f2 c.f3 ax) (givesC ax c) := by
  have no : Ev (fun k => sashref08_Gives.j0 k ax true c.f0 c.f1.f0 c.f1.f1 c.f1.f2 c.f1.f3 c.f2 c.f3) 0 := by
    refine Ev.step (f := fun _ => some 0) (fun k => ?_) (Ev.now _)
    simp only [sashref08_Gives.j0]
    rw [if_pos trivial]
  unfold givesC sashref08_Gives.f
  by_cases h1 : ax < 1
  · rw [if_neg (by omega)]
    exact ev_pos h1 no
  · refine ev_neg h1 ?_
    by_cases h2 : ax > 2
    · rw [if_neg (by omega)]
      exact ev_pos h2 no
    · refine ev_neg h2 (Ev.bind (ref_tiles_ev c hz) ?_)
      cases ht : tilesC c with
      | false =>
        rw [if_neg (by simp)]
        exact no
      | true =>
        rw [if_pos ⟨by omega, rfl⟩]
        refine Ev.step (f := fun k => (sashref08_Of.f k c.f0 c.f1.f0 c.f1.f1 c.f1.f2 c.f1.f3 c.f2 c.f3 ax).bind fun t => some (wrap64 (sizeR ax c.f1 - t))) (fun k => ?_) (Ev.bind (of_ev ax (sz c) c (Nat.le_refl _) hz (may_ok (tiles_may ht))) (Ev.now _))
        simp only [sashref08_Gives.j0]
        rw [if_neg (by simp), rsize_some c.f1 ax]
        rfl
theorem lst_ev (c : S26) (hz : sz c ≤ 1048576) (ax : Int) : Ev (fun k => least_Least.f k c.f0 c.f1.f0 c.f1.f1 c.f1.f2 c.f1.f3 c.f2 c.f3 ax) (lstC ax c) := by
  unfold lstC least_Least.f
  by_cases hax : ax = 1 ∨ ax = 2
  · have ha : least_axes.f ax = some true := by
      unfold least_axes.f
      rcases hax with rfl | rfl <;> rfl
    rw [ha, may1_some c hz]
    simp only [Option.bind_some, if_true]
    cases hm : mayC c with
    | false =>
      rw [if_neg (by simp)]
      exact ev_neg (by simp) (Ev.now _)
    | true =>
      rw [if_pos ⟨hax, rfl⟩]
      exact ev_pos rfl (Ev.bind (least_ev ax (sz c) c (Nat.le_refl _) hz) (Ev.now _))
  · rw [if_neg (fun h => hax h.1)]
    unfold least_axes.f
    rw [if_neg (fun h => hax (.inl h)), show (ax == 2) = false from by simp; exact fun h => hax (.inr h)]
    simp only [Option.bind_some, Bool.false_eq_true, if_false]
    exact Ev.now _
theorem rlst_ev (c : S26) (hz : sz c ≤ 1048576) (ax : Int) : Ev (fun k => sashref08_Least.f k c.f0 c.f1.f0 c.f1.f1 c.f1.f2 c.f1.f3 c.f2 c.f3 ax) (lstC ax c) := by
  unfold lstC sashref08_Least.f
  by_cases h1 : ax < 1
  · rw [if_neg (by omega)]
    exact ev_pos h1 (Ev.now _)
  · refine ev_neg h1 ?_
    by_cases h2 : ax > 2
    · rw [if_neg (by omega)]
      exact ev_pos h2 (Ev.now _)
    · refine ev_neg h2 (Ev.bind (may_ev c hz) ?_)
      cases hm : mayC c with
      | false =>
        rw [if_neg (by simp)]
        exact ev_neg (by simp) (Ev.now _)
      | true =>
        rw [if_pos ⟨by omega, rfl⟩]
        exact ev_pos rfl (Ev.bind (of_ev ax (sz c) c (Nat.le_refl _) hz (may_ok hm)) (Ev.now _))
theorem fits_ev (c : S26) (hz : sz c ≤ 1048576) (w h : Int) : Ev (fun k => least_Fits.f k c.f0 c.f1.f0 c.f1.f1 c.f1.f2 c.f1.f3 c.f2 c.f3 w h) (fitsC c w h) := by
  unfold fitsC least_Fits.f
  rw [may1_some c hz]
  simp only [Option.bind_some]
  cases hm : mayC c with
  | false => exact ev_neg (by simp) (Ev.now _)
  | true =>
    rw [Bool.true_and]
    refine ev_pos rfl (Ev.bind (least_ev 1 (sz c) c (Nat.le_refl _) hz) ?_)
    by_cases h1 : w ≥ leastC 1 c
    · rw [decide_eq_true h1, Bool.true_and]
      refine ev_pos h1 (Ev.bind (least_ev 2 (sz c) c (Nat.le_refl _) hz) ?_)
      by_cases h2 : h ≥ leastC 2 c
      · rw [decide_eq_true h2, Bool.true_and]
        refine ev_pos h2 ?_
        by_cases h3 : w ≤ wrap64 (10000 - c.f1.f0)
        · rw [decide_eq_true h3, Bool.true_and]
          exact ev_pos h3 (Ev.now _)
        · rw [decide_eq_false h3, Bool.false_and]
          exact ev_neg h3 (Ev.now _)
      · rw [decide_eq_false h2, Bool.false_and]
        exact ev_neg h2 (Ev.now _)
    · rw [decide_eq_false h1, Bool.false_and]
      exact ev_neg h1 (Ev.now _)
theorem rfits_ev (c : S26) (hz : sz c ≤ 1048576) (w h : Int) : Ev (fun k => sashref08_Fits.f k c.f0 c.f1.f0 c.f1.f1 c.f1.f2 c.f1.f3 c.f2 c.f3 w h) (fitsC c w h) := by
  unfold fitsC sashref08_Fits.f
  refine Ev.bind (may_ev c hz) ?_
  cases hm : mayC c with
  | false => exact ev_neg (by simp) (Ev.now _)
  | true =>
    rw [Bool.true_and]
    refine ev_pos rfl (Ev.bind (of_ev 1 (sz c) c (Nat.le_refl _) hz (may_ok hm)) ?_)
    by_cases h1 : w ≥ leastC 1 c
    · rw [decide_eq_true h1, Bool.true_and]
      refine ev_pos h1 ?_
      by_cases h3 : w ≤ wrap64 (10000 - c.f1.f0)
      · rw [decide_eq_true h3, Bool.true_and]
        refine ev_pos h3 (Ev.bind (of_ev 2 (sz c) c (Nat.le_refl _) hz (may_ok hm)) ?_)
        by_cases h2 : h ≥ leastC 2 c
        · rw [decide_eq_true h2, Bool.true_and]
          exact ev_pos h2 (Ev.now _)
        · rw [decide_eq_false h2, Bool.false_and]
          exact ev_neg h2 (Ev.now _)
      · rw [decide_eq_false h3, Bool.false_and, Bool.and_false]
        exact ev_neg h3 (Ev.now _)
    · rw [decide_eq_false h1, Bool.false_and]
      exact ev_neg h1 (Ev.now _)
def tree08 : S26 := ⟨2, ⟨0, 0, 7, 2⟩, 0, [⟨1, ⟨0, 0, 3, 2⟩, 1, []⟩, ⟨1, ⟨4, 0, 3, 2⟩, 2, []⟩]⟩
theorem tree08_tiles : tilesC tree08 = true :=
  Ev.unique (ref_tiles_ev tree08 (by decide +kernel)) (Ev.of (k := 60) (fun k => sashref06_Tiles.mono _ _ _ _ _ _ _ k) (by decide +kernel))
theorem l08_1 : lstC 1 tree08 = 3 := by decide +kernel
theorem l08_2 : lstC 2 tree08 = 1 := by decide +kernel
theorem l08_3 : leastC 1 tree08 = 3 := by decide +kernel
theorem g08 : givesC 1 tree08 = 4 := by
  unfold givesC
  rw [if_pos ⟨.inl rfl, tree08_tiles⟩, l08_3]
  decide +kernel
end Go.Proofs.Ytfdmfgaiblfbhaa.P
/- The document's example of chapter 08, walked: it holds. -/
namespace Go.Proofs.Ytfdmfgaiblfbhaa.P
open Go.RowKit Go.Proofs.YtfdmfgaiblfbhaaW.PrintWords Go.Proofs.YtfdmfgaiblfbhaaW.PrintLast Go.Proofs.YtfdmfgaiblfbhaaW.PrintMore
attribute [local go_sem] max2_int min2_int max_two min_two max_three min_three max_four min_four
set_option linter.unusedVariables false
set_option linter.unusedSimpArgs false
def sashlaw08_awake.f : Option Bool := some true
set_option maxHeartbeats 8000000 in
set_option maxRecDepth 100000 in
theorem sashlaw08_awake.calls (r : Bool) (w : World) (h : sashlaw08_awake.f = some r) :
    Calls Try.prog 85 #[] w fun e w' => e = .returned (.bool r) ∧ Below w.heap.size w w' := by
  have hu23 := Try.underlying23
  have hu26 := Try.underlying26
  have HB := Aside0.mk (Below.refl w.heap.size w)
  injection h with h
  subst h
  obtain ⟨y988, hy988⟩ : ∃ y_ : List (S26), y_ = (([(⟨1, (⟨0, 0, 3, 2⟩ : S23), 1, ([] : List (S26))⟩ : S26), (⟨1, (⟨4, 0, 3, 2⟩ : S23), 2, ([] : List (S26))⟩ : S26)] : List (S26))) := ⟨_, rfl⟩
  have e1 := lst_ev tree08 (by decide +kernel) 1
  have e2 := lst_ev tree08 (by decide +kernel) 2
  have e3 := gives_ev tree08 (by decide +kernel) 1
  rw [l08_1] at e1
  rw [l08_2] at e2
  rw [g08] at e3
  obtain ⟨k1, e1⟩ := e1
  obtain ⟨k2, e2⟩ := e2
  obtain ⟨k3, e3⟩ := e3
  obtain ⟨k, hk1, hk2, hk3⟩ : ∃ k : Nat, k1 ≤ k ∧ k2 ≤ k ∧ k3 ≤ k := ⟨k1 + k2 + k3, by omega, by omega, by omega⟩
  obtain ⟨t992, h992⟩ : ∃ t : Int, t = 3 := ⟨_, rfl⟩
  obtain ⟨t993, h993⟩ : ∃ t : Int, t = 1 := ⟨_, rfl⟩
  obtain ⟨t994, h994⟩ : ∃ t : Int, t = 4 := ⟨_, rfl⟩
  have A1 : Aside0 (least_Least.f k 2 0 0 7 2 0 y988 1 = some t992) := ⟨by rw [hy988, h992]; exact e1 k hk1⟩
  have A3 : Aside0 (least_Least.f k 2 0 0 7 2 0 y988 2 = some t993) := ⟨by rw [hy988, h993]; exact e2 k hk2⟩
  have A5 : Aside0 (least_Gives.f k 2 0 0 7 2 0 y988 1 = some t994) := ⟨by rw [hy988, h994]; exact e3 k hk3⟩
  have Ny988 := Aside0.mk hy988
  clear hy988 e1 e2 e3 hk1 hk2 hk3
  have c2b0 : (t992 == 3) = true := beq_iff_eq.mpr h992
  have c2b1 : (t992 != 3) = false := bne_eq_false_iff_eq.mpr h992
  have c4b0 : (t993 == 1) = true := beq_iff_eq.mpr h993
  have c4b1 : (t993 != 1) = false := bne_eq_false_iff_eq.mpr h993
  have c5b0 : (t994 == 4) = true := beq_iff_eq.mpr h994
  clear h992 h993 h994
  go_enter Try.func85, Try.ntmps85
  go_wp2_with (first | ((with_reducible refine gate_dst (N := 1) rfl ?_); refine box_event ?hg (N := 1) ?hd (cs := #[.int .u8 0, .int .i64 0, .int .i64 0, .int .i64 0, .int .i64 0, .int .i64 0, .slice none 0 0]) (t := 26) ?hr ?_; (case hd => rfl); (case hg => rfl); (case hr => (go_simp; done)); intro gb986 hg w6 hbox hb; have BK986 := Aside0.mk (hbox); have GE986 := Aside0.mk ((by rw [hg]; exact (below_size (by repeat ((with_reducible exact HB.out)))) : w.heap.size ≤ gb986)); replace HB := Aside0.mk (below_step (by repeat ((with_reducible exact HB.out))) hb); clear hb hbox hg; have hcz7_0 : w6.cell? ⟨gb986, 0, none⟩ = some (.int .u8 0) := (blk_cell BK986.out 0).trans rfl; have hcz7_1 : w6.cell? ⟨gb986, 1, none⟩ = some (.int .i64 0) := (blk_cell BK986.out 1).trans rfl; have hcz7_2 : w6.cell? ⟨gb986, 2, none⟩ = some (.int .i64 0) := (blk_cell BK986.out 2).trans rfl; have hcz7_3 : w6.cell? ⟨gb986, 3, none⟩ = some (.int .i64 0) := (blk_cell BK986.out 3).trans rfl; have hcz7_4 : w6.cell? ⟨gb986, 4, none⟩ = some (.int .i64 0) := (blk_cell BK986.out 4).trans rfl; have hcz7_5 : w6.cell? ⟨gb986, 5, none⟩ = some (.int .i64 0) := (blk_cell BK986.out 5).trans rfl; have hcz7_6 : w6.cell? ⟨gb986, 6, none⟩ = some (.slice none 0 0) := (blk_cell BK986.out 6).trans rfl; have hfz7_0 := blk_frozen BK986.out 0; have hfz7_1 := blk_frozen BK986.out 1; have hfz7_2 := blk_frozen BK986.out 2; have hfz7_3 := blk_frozen BK986.out 3; have hfz7_4 := blk_frozen BK986.out 4; have hfz7_5 := blk_frozen BK986.out 5; have hfz7_6 := blk_frozen BK986.out 6) | ((with_reducible refine gate_dst (N := 2) rfl ?_); refine box_event ?hg (N := 2) ?hd (cs := #[.int .u8 0, .int .i64 0, .int .i64 0, .int .i64 0, .int .i64 0, .int .i64 0, .slice none 0 0]) (t := 26) ?hr ?_; (case hd => rfl); (case hg => rfl); (case hr => (go_simp; done)); intro gb987 hg w8 hbox hb; have BK987 := Aside0.mk (hbox); have GE987 := Aside0.mk ((by rw [hg]; exact (below_size (by repeat ((with_reducible first | exact HB.out | refine below_set ?_ GE986.out)))) : w.heap.size ≤ gb987)); have NB986_987 := Aside0.mk ((by rw [hg]; exact Nat.ne_of_lt (blk_lt (g := gb986) (o := .cells #[.int .u8 1, .int .i64 0, .int .i64 0, .int .i64 3, .int .i64 2, .int .i64 1, .slice none 0 0] 26 (0, 0)) (by refine blk_put (cs := #[.int .u8 1, .int .i64 0, .int .i64 0, .int .i64 3, .int .i64 2, .int .i64 1, .slice none 0 0]) ?_ 6 _ rfl; refine blk_put (cs := #[.int .u8 1, .int .i64 0, .int .i64 0, .int .i64 3, .int .i64 2, .int .i64 0, .slice none 0 0]) ?_ 5 _ rfl; refine blk_put (cs := #[.int .u8 1, .int .i64 0, .int .i64 0, .int .i64 3, .int .i64 0, .int .i64 0, .slice none 0 0]) ?_ 4 _ rfl; refine blk_put (cs := #[.int .u8 1, .int .i64 0, .int .i64 0, .int .i64 0, .int .i64 0, .int .i64 0, .slice none 0 0]) ?_ 3 _ rfl; refine blk_put (cs := #[.int .u8 1, .int .i64 0, .int .i64 0, .int .i64 0, .int .i64 0, .int .i64 0, .slice none 0 0]) ?_ 2 _ rfl; refine blk_put (cs := #[.int .u8 1, .int .i64 0, .int .i64 0, .int .i64 0, .int .i64 0, .int .i64 0, .slice none 0 0]) ?_ 1 _ rfl; refine blk_put (cs := #[.int .u8 0, .int .i64 0, .int .i64 0, .int .i64 0, .int .i64 0, .int .i64 0, .slice none 0 0]) ?_ 0 _ rfl; exact BK986.out)) : gb986 ≠ gb987)); have NB987_986 := Aside0.mk ((by rw [hg]; exact Nat.ne_of_gt (blk_lt (g := gb986) (o := .cells #[.int .u8 1, .int .i64 0, .int .i64 0, .int .i64 3, .int .i64 2, .int .i64 1, .slice none 0 0] 26 (0, 0)) (by refine blk_put (cs := #[.int .u8 1, .int .i64 0, .int .i64 0, .int .i64 3, .int .i64 2, .int .i64 1, .slice none 0 0]) ?_ 6 _ rfl; refine blk_put (cs := #[.int .u8 1, .int .i64 0, .int .i64 0, .int .i64 3, .int .i64 2, .int .i64 0, .slice none 0 0]) ?_ 5 _ rfl; refine blk_put (cs := #[.int .u8 1, .int .i64 0, .int .i64 0, .int .i64 3, .int .i64 0, .int .i64 0, .slice none 0 0]) ?_ 4 _ rfl; refine blk_put (cs := #[.int .u8 1, .int .i64 0, .int .i64 0, .int .i64 0, .int .i64 0, .int .i64 0, .slice none 0 0]) ?_ 3 _ rfl; refine blk_put (cs := #[.int .u8 1, .int .i64 0, .int .i64 0, .int .i64 0, .int .i64 0, .int .i64 0, .slice none 0 0]) ?_ 2 _ rfl; refine blk_put (cs := #[.int .u8 1, .int .i64 0, .int .i64 0, .int .i64 0, .int .i64 0, .int .i64 0, .slice none 0 0]) ?_ 1 _ rfl; refine blk_put (cs := #[.int .u8 0, .int .i64 0, .int .i64 0, .int .i64 0, .int .i64 0, .int .i64 0, .slice none 0 0]) ?_ 0 _ rfl; exact BK986.out)) : gb987 ≠ gb986)); replace BK986 := Aside0.mk (blk_below (g := gb986) (o := .cells #[.int .u8 1, .int .i64 0, .int .i64 0, .int .i64 3, .int .i64 2, .int .i64 1, .slice none 0 0] 26 (0, 0)) (by refine blk_put (cs := #[.int .u8 1, .int .i64 0, .int .i64 0, .int .i64 3, .int .i64 2, .int .i64 1, .slice none 0 0]) ?_ 6 _ rfl; refine blk_put (cs := #[.int .u8 1, .int .i64 0, .int .i64 0, .int .i64 3, .int .i64 2, .int .i64 0, .slice none 0 0]) ?_ 5 _ rfl; refine blk_put (cs := #[.int .u8 1, .int .i64 0, .int .i64 0, .int .i64 3, .int .i64 0, .int .i64 0, .slice none 0 0]) ?_ 4 _ rfl; refine blk_put (cs := #[.int .u8 1, .int .i64 0, .int .i64 0, .int .i64 0, .int .i64 0, .int .i64 0, .slice none 0 0]) ?_ 3 _ rfl; refine blk_put (cs := #[.int .u8 1, .int .i64 0, .int .i64 0, .int .i64 0, .int .i64 0, .int .i64 0, .slice none 0 0]) ?_ 2 _ rfl; refine blk_put (cs := #[.int .u8 1, .int .i64 0, .int .i64 0, .int .i64 0, .int .i64 0, .int .i64 0, .slice none 0 0]) ?_ 1 _ rfl; refine blk_put (cs := #[.int .u8 0, .int .i64 0, .int .i64 0, .int .i64 0, .int .i64 0, .int .i64 0, .slice none 0 0]) ?_ 0 _ rfl; exact BK986.out) hb); replace HB := Aside0.mk (below_step (by repeat ((with_reducible first | exact HB.out | refine below_set ?_ GE986.out))) hb); clear hb hbox hg; have hnb9 := NB987_986.out; have hnc9 := NB986_987.out; have hcz10_0 : w8.cell? ⟨gb987, 0, none⟩ = some (.int .u8 0) := (blk_cell BK987.out 0).trans rfl; have hcz10_1 : w8.cell? ⟨gb987, 1, none⟩ = some (.int .i64 0) := (blk_cell BK987.out 1).trans rfl; have hcz10_2 : w8.cell? ⟨gb987, 2, none⟩ = some (.int .i64 0) := (blk_cell BK987.out 2).trans rfl; have hcz10_3 : w8.cell? ⟨gb987, 3, none⟩ = some (.int .i64 0) := (blk_cell BK987.out 3).trans rfl; have hcz10_4 : w8.cell? ⟨gb987, 4, none⟩ = some (.int .i64 0) := (blk_cell BK987.out 4).trans rfl; have hcz10_5 : w8.cell? ⟨gb987, 5, none⟩ = some (.int .i64 0) := (blk_cell BK987.out 5).trans rfl; have hcz10_6 : w8.cell? ⟨gb987, 6, none⟩ = some (.slice none 0 0) := (blk_cell BK987.out 6).trans rfl; have hfz10_0 := blk_frozen BK987.out 0; have hfz10_1 := blk_frozen BK987.out 1; have hfz10_2 := blk_frozen BK987.out 2; have hfz10_3 := blk_frozen BK987.out 3; have hfz10_4 := blk_frozen BK987.out 4; have hfz10_5 := blk_frozen BK987.out 5; have hfz10_6 := blk_frozen BK987.out 6; have hcz11_0 : w8.cell? ⟨gb986, 0, none⟩ = some (.int .u8 1) := (blk_cell BK986.out 0).trans rfl; have hcz11_1 : w8.cell? ⟨gb986, 1, none⟩ = some (.int .i64 0) := (blk_cell BK986.out 1).trans rfl; have hcz11_2 : w8.cell? ⟨gb986, 2, none⟩ = some (.int .i64 0) := (blk_cell BK986.out 2).trans rfl; have hcz11_3 : w8.cell? ⟨gb986, 3, none⟩ = some (.int .i64 3) := (blk_cell BK986.out 3).trans rfl; have hcz11_4 : w8.cell? ⟨gb986, 4, none⟩ = some (.int .i64 2) := (blk_cell BK986.out 4).trans rfl; have hcz11_5 : w8.cell? ⟨gb986, 5, none⟩ = some (.int .i64 1) := (blk_cell BK986.out 5).trans rfl; have hcz11_6 : w8.cell? ⟨gb986, 6, none⟩ = some (.slice none 0 0) := (blk_cell BK986.out 6).trans rfl; have hfz11_0 := blk_frozen BK986.out 0; have hfz11_1 := blk_frozen BK986.out 1; have hfz11_2 := blk_frozen BK986.out 2; have hfz11_3 := blk_frozen BK986.out 3; have hfz11_4 := blk_frozen BK986.out 4; have hfz11_5 := blk_frozen BK986.out 5; have hfz11_6 := blk_frozen BK986.out 6) | ((with_reducible refine gate_dst (N := 11) rfl ?_); refine Kd.R_lit k26 _ 26 ?hg (N := 11) ?hd (xs := ([(⟨1, (⟨0, 0, 3, 2⟩ : S23), 1, ([] : List (S26))⟩ : S26), (⟨1, (⟨4, 0, 3, 2⟩ : S23), 2, ([] : List (S26))⟩ : S26)] : List (S26))) (inner := [.int .u8 1, .int .i64 0, .int .i64 0, .int .i64 3, .int .i64 2, .int .i64 1, .slice none 0 0, .int .u8 1, .int .i64 4, .int .i64 0, .int .i64 3, .int .i64 2, .int .i64 2, .slice none 0 0]) (ok := fun _ => True) (okp := fun _ => True) ?hr ?hp (fun _ hk => hk) trivial (Below.refl _ _) (Nat.le_refl _) (by simp) ?_; (case hd => rfl); (case hg => rfl); (case hr => (go_simp; done)); (case hp => exact (Reps.c7 (show Kd.M k26 _ _ _ (⟨1, (⟨0, 0, 3, 2⟩ : S23), 1, ([] : List (S26))⟩ : S26) [.int .u8 1, .int .i64 0, .int .i64 0, .int .i64 3, .int .i64 2, .int .i64 1, .slice none 0 0] from (k26_mkM _ _ _ (⟨1, (⟨0, 0, 3, 2⟩ : S23), 1, ([] : List (S26))⟩ : S26) (Kd.R_nil _ _ _ _ _))) (Reps.c7 (show Kd.M k26 _ _ _ (⟨1, (⟨4, 0, 3, 2⟩ : S23), 2, ([] : List (S26))⟩ : S26) [.int .u8 1, .int .i64 4, .int .i64 0, .int .i64 3, .int .i64 2, .int .i64 2, .slice none 0 0] from (k26_mkM _ _ _ (⟨1, (⟨4, 0, 3, 2⟩ : S23), 2, ([] : List (S26))⟩ : S26) (Kd.R_nil _ _ _ _ _))) (Reps.none _ _)))); intro v989 w12 ho13 hb hg_ hnew_; clear hg_ hnew_; (rw [← Ny988.out] at ho13); have HO990 := Aside0.mk (Kd.R_lower (Kd.R_newB (Kd.R_newB ho13 (g := gb986) (o := .cells #[.int .u8 1, .int .i64 0, .int .i64 0, .int .i64 3, .int .i64 2, .int .i64 1, .slice none 0 0] 26 (0, 0)) (by refine blk_far ?_ NB986_987.out _; refine blk_far ?_ NB986_987.out _; refine blk_far ?_ NB986_987.out _; refine blk_far ?_ NB986_987.out _; refine blk_far ?_ NB986_987.out _; refine blk_far ?_ NB986_987.out _; refine blk_far ?_ NB986_987.out _; exact BK986.out)) (g := gb987) (o := .cells #[.int .u8 1, .int .i64 4, .int .i64 0, .int .i64 3, .int .i64 2, .int .i64 2, .slice none 0 0] 26 (0, 0)) (by refine blk_put (cs := #[.int .u8 1, .int .i64 4, .int .i64 0, .int .i64 3, .int .i64 2, .int .i64 2, .slice none 0 0]) ?_ 6 _ rfl; refine blk_put (cs := #[.int .u8 1, .int .i64 4, .int .i64 0, .int .i64 3, .int .i64 2, .int .i64 0, .slice none 0 0]) ?_ 5 _ rfl; refine blk_put (cs := #[.int .u8 1, .int .i64 4, .int .i64 0, .int .i64 3, .int .i64 0, .int .i64 0, .slice none 0 0]) ?_ 4 _ rfl; refine blk_put (cs := #[.int .u8 1, .int .i64 4, .int .i64 0, .int .i64 0, .int .i64 0, .int .i64 0, .slice none 0 0]) ?_ 3 _ rfl; refine blk_put (cs := #[.int .u8 1, .int .i64 4, .int .i64 0, .int .i64 0, .int .i64 0, .int .i64 0, .slice none 0 0]) ?_ 2 _ rfl; refine blk_put (cs := #[.int .u8 1, .int .i64 0, .int .i64 0, .int .i64 0, .int .i64 0, .int .i64 0, .slice none 0 0]) ?_ 1 _ rfl; refine blk_put (cs := #[.int .u8 0, .int .i64 0, .int .i64 0, .int .i64 0, .int .i64 0, .int .i64 0, .slice none 0 0]) ?_ 0 _ rfl; exact BK987.out)) (below_size (by repeat ((with_reducible first | exact HB.out | refine below_set ?_ GE987.out))))); replace BK986 := Aside0.mk (blk_below (g := gb986) (o := .cells #[.int .u8 1, .int .i64 0, .int .i64 0, .int .i64 3, .int .i64 2, .int .i64 1, .slice none 0 0] 26 (0, 0)) (by refine blk_far ?_ NB986_987.out _; refine blk_far ?_ NB986_987.out _; refine blk_far ?_ NB986_987.out _; refine blk_far ?_ NB986_987.out _; refine blk_far ?_ NB986_987.out _; refine blk_far ?_ NB986_987.out _; refine blk_far ?_ NB986_987.out _; exact BK986.out) hb); replace BK987 := Aside0.mk (blk_below (g := gb987) (o := .cells #[.int .u8 1, .int .i64 4, .int .i64 0, .int .i64 3, .int .i64 2, .int .i64 2, .slice none 0 0] 26 (0, 0)) (by refine blk_put (cs := #[.int .u8 1, .int .i64 4, .int .i64 0, .int .i64 3, .int .i64 2, .int .i64 2, .slice none 0 0]) ?_ 6 _ rfl; refine blk_put (cs := #[.int .u8 1, .int .i64 4, .int .i64 0, .int .i64 3, .int .i64 2, .int .i64 0, .slice none 0 0]) ?_ 5 _ rfl; refine blk_put (cs := #[.int .u8 1, .int .i64 4, .int .i64 0, .int .i64 3, .int .i64 0, .int .i64 0, .slice none 0 0]) ?_ 4 _ rfl; refine blk_put (cs := #[.int .u8 1, .int .i64 4, .int .i64 0, .int .i64 0, .int .i64 0, .int .i64 0, .slice none 0 0]) ?_ 3 _ rfl; refine blk_put (cs := #[.int .u8 1, .int .i64 4, .int .i64 0, .int .i64 0, .int .i64 0, .int .i64 0, .slice none 0 0]) ?_ 2 _ rfl; refine blk_put (cs := #[.int .u8 1, .int .i64 0, .int .i64 0, .int .i64 0, .int .i64 0, .int .i64 0, .slice none 0 0]) ?_ 1 _ rfl; refine blk_put (cs := #[.int .u8 0, .int .i64 0, .int .i64 0, .int .i64 0, .int .i64 0, .int .i64 0, .slice none 0 0]) ?_ 0 _ rfl; exact BK987.out) hb); replace HB := Aside0.mk (below_step (by repeat ((with_reducible first | exact HB.out | refine below_set ?_ GE987.out))) hb); clear hb ho13; obtain ⟨Ao14, co14, eo14⟩ := Kd.R_slice HO990.out; subst eo14) | ((with_reducible refine gate_dst (N := 3) rfl ?_); refine box_event ?hg (N := 3) ?hd (cs := #[.int .u8 0, .int .i64 0, .int .i64 0, .int .i64 0, .int .i64 0, .int .i64 0, .slice none 0 0]) (t := 26) ?hr ?_; (case hd => rfl); (case hg => rfl); (case hr => (go_simp; done)); intro gb991 hg w15 hbox hb; have BK991 := Aside0.mk (hbox); have GE991 := Aside0.mk ((by rw [hg]; exact (below_size (by repeat ((with_reducible exact HB.out)))) : w.heap.size ≤ gb991)); have NB986_991 := Aside0.mk ((by rw [hg]; exact Nat.ne_of_lt (blk_lt BK986.out) : gb986 ≠ gb991)); have NB991_986 := Aside0.mk ((by rw [hg]; exact Nat.ne_of_gt (blk_lt BK986.out) : gb991 ≠ gb986)); have NB987_991 := Aside0.mk ((by rw [hg]; exact Nat.ne_of_lt (blk_lt BK987.out) : gb987 ≠ gb991)); have NB991_987 := Aside0.mk ((by rw [hg]; exact Nat.ne_of_gt (blk_lt BK987.out) : gb991 ≠ gb987)); replace HO990 := Aside0.mk (Kd.R_below (Kd.R_elderB HO990.out gb991 (Nat.le_of_eq hg.symm)) hb); replace BK986 := Aside0.mk (blk_below BK986.out hb); replace BK987 := Aside0.mk (blk_below BK987.out hb); replace HB := Aside0.mk (below_step (by repeat ((with_reducible exact HB.out))) hb); clear hb hbox hg; have hnb16 := NB991_986.out; have hnc16 := NB986_991.out; have hnb17 := NB991_987.out; have hnc17 := NB987_991.out; have hcz18_0 : w15.cell? ⟨gb991, 0, none⟩ = some (.int .u8 0) := (blk_cell BK991.out 0).trans rfl; have hcz18_1 : w15.cell? ⟨gb991, 1, none⟩ = some (.int .i64 0) := (blk_cell BK991.out 1).trans rfl; have hcz18_2 : w15.cell? ⟨gb991, 2, none⟩ = some (.int .i64 0) := (blk_cell BK991.out 2).trans rfl; have hcz18_3 : w15.cell? ⟨gb991, 3, none⟩ = some (.int .i64 0) := (blk_cell BK991.out 3).trans rfl; have hcz18_4 : w15.cell? ⟨gb991, 4, none⟩ = some (.int .i64 0) := (blk_cell BK991.out 4).trans rfl; have hcz18_5 : w15.cell? ⟨gb991, 5, none⟩ = some (.int .i64 0) := (blk_cell BK991.out 5).trans rfl; have hcz18_6 : w15.cell? ⟨gb991, 6, none⟩ = some (.slice none 0 0) := (blk_cell BK991.out 6).trans rfl; have hfz18_0 := blk_frozen BK991.out 0; have hfz18_1 := blk_frozen BK991.out 1; have hfz18_2 := blk_frozen BK991.out 2; have hfz18_3 := blk_frozen BK991.out 3; have hfz18_4 := blk_frozen BK991.out 4; have hfz18_5 := blk_frozen BK991.out 5; have hfz18_6 := blk_frozen BK991.out 6) | ((with_reducible refine gate_store (t := 26) (p := 3) rfl ?_); refine store_event (t := 26) (p := 3) (v := ?vo_w19) (w1 := (((((((w15.setCell ⟨gb991, 0, none⟩ (.int .u8 2)).setCell ⟨gb991, 1, none⟩ (.int .i64 0)).setCell ⟨gb991, 2, none⟩ (.int .i64 0)).setCell ⟨gb991, 3, none⟩ (.int .i64 7)).setCell ⟨gb991, 4, none⟩ (.int .i64 2)).setCell ⟨gb991, 5, none⟩ (.int .i64 0)).setCell ⟨gb991, 6, none⟩ (.slice Ao14 y988.length co14))) ?hg ?ho ?hn ?hr ?_; (case ho => rfl); (case hg => rfl); (case hn => rfl); (case hr => (go_simp; done)); intro w19 hw; have n0_ : Aside0 (Kd.R k26 26 w19 w.heap.size (fun k_ => k_ ≠ gb986 ∧ k_ ≠ gb987 ∧ k_ ≠ gb991) (.slice Ao14 y988.length co14) y988) := ⟨(by rw [hw]; exact (by exact Kd.R_mono (Kd.R_far (p := ⟨gb991, 6, none⟩) (Kd.R_far (p := ⟨gb991, 5, none⟩) (Kd.R_far (p := ⟨gb991, 4, none⟩) (Kd.R_far (p := ⟨gb991, 3, none⟩) (Kd.R_far (p := ⟨gb991, 2, none⟩) (Kd.R_far (p := ⟨gb991, 1, none⟩) (Kd.R_far (p := ⟨gb991, 0, none⟩) (Kd.R_mono HO990.out (fun k_ hk => (⟨hk, hk.2⟩ : _ ∧ k_ ≠ gb991))) (fun _ hk => hk.2) (.int .u8 2)) (fun _ hk => hk.2) (.int .i64 0)) (fun _ hk => hk.2) (.int .i64 0)) (fun _ hk => hk.2) (.int .i64 7)) (fun _ hk => hk.2) (.int .i64 2)) (fun _ hk => hk.2) (.int .i64 0)) (fun _ hk => hk.2) (.slice Ao14 y988.length co14)) (fun _ hk => ⟨hk.1.1.1.2, ⟨hk.1.1.2, hk.1.2⟩⟩)))⟩; have n1_ : Aside0 (w19.heap[gb986]? = some (.cells #[.int .u8 1, .int .i64 0, .int .i64 0, .int .i64 3, .int .i64 2, .int .i64 1, .slice none 0 0] 26 (0, 0))) := ⟨(by rw [hw]; exact (by refine blk_far ?_ NB986_991.out _; refine blk_far ?_ NB986_991.out _; refine blk_far ?_ NB986_991.out _; refine blk_far ?_ NB986_991.out _; refine blk_far ?_ NB986_991.out _; refine blk_far ?_ NB986_991.out _; refine blk_far ?_ NB986_991.out _; exact BK986.out))⟩; have n2_ : Aside0 (w19.heap[gb987]? = some (.cells #[.int .u8 1, .int .i64 4, .int .i64 0, .int .i64 3, .int .i64 2, .int .i64 2, .slice none 0 0] 26 (0, 0))) := ⟨(by rw [hw]; exact (by refine blk_far ?_ NB987_991.out _; refine blk_far ?_ NB987_991.out _; refine blk_far ?_ NB987_991.out _; refine blk_far ?_ NB987_991.out _; refine blk_far ?_ NB987_991.out _; refine blk_far ?_ NB987_991.out _; refine blk_far ?_ NB987_991.out _; exact BK987.out))⟩; have n3_ : Aside0 (w19.heap[gb991]? = some (.cells #[.int .u8 2, .int .i64 0, .int .i64 0, .int .i64 7, .int .i64 2, .int .i64 0, .slice Ao14 y988.length co14] 26 (0, 0))) := ⟨(by rw [hw]; exact (by refine blk_put (cs := #[.int .u8 2, .int .i64 0, .int .i64 0, .int .i64 7, .int .i64 2, .int .i64 0, .slice none 0 0]) ?_ 6 _ rfl; refine blk_put (cs := #[.int .u8 2, .int .i64 0, .int .i64 0, .int .i64 7, .int .i64 2, .int .i64 0, .slice none 0 0]) ?_ 5 _ rfl; refine blk_put (cs := #[.int .u8 2, .int .i64 0, .int .i64 0, .int .i64 7, .int .i64 0, .int .i64 0, .slice none 0 0]) ?_ 4 _ rfl; refine blk_put (cs := #[.int .u8 2, .int .i64 0, .int .i64 0, .int .i64 0, .int .i64 0, .int .i64 0, .slice none 0 0]) ?_ 3 _ rfl; refine blk_put (cs := #[.int .u8 2, .int .i64 0, .int .i64 0, .int .i64 0, .int .i64 0, .int .i64 0, .slice none 0 0]) ?_ 2 _ rfl; refine blk_put (cs := #[.int .u8 2, .int .i64 0, .int .i64 0, .int .i64 0, .int .i64 0, .int .i64 0, .slice none 0 0]) ?_ 1 _ rfl; refine blk_put (cs := #[.int .u8 0, .int .i64 0, .int .i64 0, .int .i64 0, .int .i64 0, .int .i64 0, .slice none 0 0]) ?_ 0 _ rfl; exact BK991.out))⟩; have n4_ : Aside0 (Below w.heap.size w w19) := ⟨(by rw [hw]; exact (by repeat ((with_reducible first | exact HB.out | refine below_set ?_ GE991.out))))⟩; clear hw; clear HO990; clear BK986; clear BK987; clear BK991; clear HB; have HO990 := n0_; have BK986 := n1_; have BK987 := n2_; have BK991 := n3_; have HB := n4_; clear n0_ n1_ n2_ n3_ n4_; have hcz20_0 : w19.cell? ⟨gb991, 0, none⟩ = some (.int .u8 2) := (blk_cell BK991.out 0).trans rfl; have hcz20_1 : w19.cell? ⟨gb991, 1, none⟩ = some (.int .i64 0) := (blk_cell BK991.out 1).trans rfl; have hcz20_2 : w19.cell? ⟨gb991, 2, none⟩ = some (.int .i64 0) := (blk_cell BK991.out 2).trans rfl; have hcz20_3 : w19.cell? ⟨gb991, 3, none⟩ = some (.int .i64 7) := (blk_cell BK991.out 3).trans rfl; have hcz20_4 : w19.cell? ⟨gb991, 4, none⟩ = some (.int .i64 2) := (blk_cell BK991.out 4).trans rfl; have hcz20_5 : w19.cell? ⟨gb991, 5, none⟩ = some (.int .i64 0) := (blk_cell BK991.out 5).trans rfl; have hcz20_6 : w19.cell? ⟨gb991, 6, none⟩ = some (.slice Ao14 y988.length co14) := (blk_cell BK991.out 6).trans rfl; have hfz20_0 := blk_frozen BK991.out 0; have hfz20_1 := blk_frozen BK991.out 1; have hfz20_2 := blk_frozen BK991.out 2; have hfz20_3 := blk_frozen BK991.out 3; have hfz20_4 := blk_frozen BK991.out 4; have hfz20_5 := blk_frozen BK991.out 5; have hfz20_6 := blk_frozen BK991.out 6) | ((with_reducible refine gate_callee (f := 93) rfl ?_); refine goesL_ (some 14) rfl rfl Try.func93 (by kernel_rfl) rfl #[.agg #[.int .u8 2, .int .i64 0, .int .i64 0, .int .i64 7, .int .i64 2, .int .i64 0, .slice Ao14 y988.length co14], .int .u8 1] rfl (by (try simp only [List.map_toArray, List.map_cons, List.map_nil]); rfl) ?_; (with_reducible refine (least_Least.calls k 2 0 0 7 2 0 (fun k_ => (k_ ≠ gb986 ∧ (k_ ≠ gb987 ∧ k_ ≠ gb991))) _ _ y988 1 t992 _ ?side1 A1.out).mono ?_); (case side1 => exact Kd.R_V (HO990.out)); rintro e w21 ⟨rfl, hb⟩; refine ⟨_, rfl, ?_⟩; replace HO990 := Aside0.mk (Kd.R_below HO990.out hb); replace BK986 := Aside0.mk (blk_below BK986.out hb); replace BK987 := Aside0.mk (blk_below BK987.out hb); replace BK991 := Aside0.mk (blk_below BK991.out hb); replace HB := Aside0.mk (below_step (by repeat ((with_reducible exact HB.out))) hb); (try clear hb); have hcz22_0 : w21.cell? ⟨gb991, 0, none⟩ = some (.int .u8 2) := (blk_cell BK991.out 0).trans rfl; have hcz22_1 : w21.cell? ⟨gb991, 1, none⟩ = some (.int .i64 0) := (blk_cell BK991.out 1).trans rfl; have hcz22_2 : w21.cell? ⟨gb991, 2, none⟩ = some (.int .i64 0) := (blk_cell BK991.out 2).trans rfl; have hcz22_3 : w21.cell? ⟨gb991, 3, none⟩ = some (.int .i64 7) := (blk_cell BK991.out 3).trans rfl; have hcz22_4 : w21.cell? ⟨gb991, 4, none⟩ = some (.int .i64 2) := (blk_cell BK991.out 4).trans rfl; have hcz22_5 : w21.cell? ⟨gb991, 5, none⟩ = some (.int .i64 0) := (blk_cell BK991.out 5).trans rfl; have hcz22_6 : w21.cell? ⟨gb991, 6, none⟩ = some (.slice Ao14 y988.length co14) := (blk_cell BK991.out 6).trans rfl; have hfz22_0 := blk_frozen BK991.out 0; have hfz22_1 := blk_frozen BK991.out 1; have hfz22_2 := blk_frozen BK991.out 2; have hfz22_3 := blk_frozen BK991.out 3; have hfz22_4 := blk_frozen BK991.out 4; have hfz22_5 := blk_frozen BK991.out 5; have hfz22_6 := blk_frozen BK991.out 6) | (go_at_call 93; (with_reducible refine (least_Least.calls k 2 0 0 7 2 0 (fun k_ => (k_ ≠ gb986 ∧ (k_ ≠ gb987 ∧ k_ ≠ gb991))) _ _ y988 2 t993 _ ?side1 A3.out).mono ?_); (case side1 => exact Kd.R_V (HO990.out)); rintro e w23 ⟨rfl, hb⟩; replace HO990 := Aside0.mk (Kd.R_below HO990.out hb); replace BK986 := Aside0.mk (blk_below BK986.out hb); replace BK987 := Aside0.mk (blk_below BK987.out hb); replace BK991 := Aside0.mk (blk_below BK991.out hb); replace HB := Aside0.mk (below_step (by repeat ((with_reducible exact HB.out))) hb); (try clear hb); have hcz24_0 : w23.cell? ⟨gb991, 0, none⟩ = some (.int .u8 2) := (blk_cell BK991.out 0).trans rfl; have hcz24_1 : w23.cell? ⟨gb991, 1, none⟩ = some (.int .i64 0) := (blk_cell BK991.out 1).trans rfl; have hcz24_2 : w23.cell? ⟨gb991, 2, none⟩ = some (.int .i64 0) := (blk_cell BK991.out 2).trans rfl; have hcz24_3 : w23.cell? ⟨gb991, 3, none⟩ = some (.int .i64 7) := (blk_cell BK991.out 3).trans rfl; have hcz24_4 : w23.cell? ⟨gb991, 4, none⟩ = some (.int .i64 2) := (blk_cell BK991.out 4).trans rfl; have hcz24_5 : w23.cell? ⟨gb991, 5, none⟩ = some (.int .i64 0) := (blk_cell BK991.out 5).trans rfl; have hcz24_6 : w23.cell? ⟨gb991, 6, none⟩ = some (.slice Ao14 y988.length co14) := (blk_cell BK991.out 6).trans rfl; have hfz24_0 := blk_frozen BK991.out 0; have hfz24_1 := blk_frozen BK991.out 1; have hfz24_2 := blk_frozen BK991.out 2; have hfz24_3 := blk_frozen BK991.out 3; have hfz24_4 := blk_frozen BK991.out 4; have hfz24_5 := blk_frozen BK991.out 5; have hfz24_6 := blk_frozen BK991.out 6) | (go_at_call 86; (with_reducible refine (least_Gives.calls k 2 0 0 7 2 0 (fun k_ => (k_ ≠ gb986 ∧ (k_ ≠ gb987 ∧ k_ ≠ gb991))) _ _ y988 1 t994 _ ?side1 A5.out).mono ?_); (case side1 => exact Kd.R_V (HO990.out)); rintro e w25 ⟨rfl, hb⟩; replace HO990 := Aside0.mk (Kd.R_below HO990.out hb); replace BK986 := Aside0.mk (blk_below BK986.out hb); replace BK987 := Aside0.mk (blk_below BK987.out hb); replace BK991 := Aside0.mk (blk_below BK991.out hb); replace HB := Aside0.mk (below_step (by repeat ((with_reducible exact HB.out))) hb); (try clear hb)))
  go_ret
  exact ⟨by rfl, by repeat ((with_reducible exact HB.out))⟩
end Go.Proofs.Ytfdmfgaiblfbhaa.P
namespace Go.Proofs.Ytfdmfgaiblfbhaa.P
open Go.RowKit Go.Proofs.YtfdmfgaiblfbhaaW.PrintWords Go.Proofs.YtfdmfgaiblfbhaaW.PrintLast Go.Proofs.YtfdmfgaiblfbhaaW.PrintMore
attribute [local go_sem] max2_int min2_int max_two min_two max_three min_three max_four min_four   -- for this text's walks alone
set_option linter.unusedVariables false
set_option linter.unusedSimpArgs false

/-! ### sashlaw08_LeastIs: function 21 -/
noncomputable def sashlaw08_LeastIs.f (k : Nat) (a0_0 : Int) (a0_1 : Int) (a0_2 : Int) (a0_3 : Int) (a0_4 : Int) (a0_5 : Int) (l0_6 : List (S26)) (a1 : Int) (a2 : Int) (a3 : Int) : Option (Bool) := (sashref05_Great.f k a0_0 a0_1 a0_2 a0_3 a0_4 a0_5 l0_6).bind fun t1104 => (if t1104 = true then ((sashlaw08_awake.f).bind fun t1105 => (some t1105)) else ((least_Least.f k a0_0 a0_1 a0_2 a0_3 a0_4 a0_5 l0_6 a1).bind fun t1106 => ((sashref08_Least.f k a0_0 a0_1 a0_2 a0_3 a0_4 a0_5 l0_6 a1).bind fun t1107 => (if t1106 = t1107 then ((least_Gives.f k a0_0 a0_1 a0_2 a0_3 a0_4 a0_5 l0_6 a1).bind fun t1108 => ((sashref08_Gives.f k a0_0 a0_1 a0_2 a0_3 a0_4 a0_5 l0_6 a1).bind fun t1109 => (if t1108 = t1109 then ((least_Fits.f k a0_0 a0_1 a0_2 a0_3 a0_4 a0_5 l0_6 a2 a3).bind fun t1110 => ((sashref08_Fits.f k a0_0 a0_1 a0_2 a0_3 a0_4 a0_5 l0_6 a2 a3).bind fun t1111 => (if (t1110 == t1111) = true then ((sashlaw08_awake.f).bind fun t1112 => (some t1112)) else (some false)))) else (some false)))) else (some false)))))
def sashlaw08_LeastIs.T3 : Bool × List (List Nat × List Nat) := (true, [([], []), ([], []), ([0, 1], [0, 1]), ([], []), ([], []), ([3, 4, 2], [3, 4]), ([2, 5], [2, 5]), ([6, 5], [6]), ([7], [7]), ([7], [7]), ([8, 9, 7, 7], [7, 8, 9]), ([7], [7]), ([7], [7]), ([11, 12, 10, 7], [7, 11, 12]), ([10, 13, 7], [7, 10, 13]), ([7, 14], [7, 14]), ([15, 13], [15]), ([16], [16]), ([16], [16]), ([16], [16]), ([17, 18, 19, 16, 16], [16, 17, 18, 19]), ([16], [16]), ([16], [16]), ([16], [16]), ([21, 22, 23, 20, 16], [16, 21, 22, 23]), ([20, 24, 16], [16, 20, 24]), ([16, 25], [16, 25]), ([26, 24], [26]), ([27, 27], [27]), ([27, 28], [27, 28]), ([29, 28, 0, 1, 2, 3, 4, 5, 6, 7, 8, 9, 10, 11, 12, 13, 14, 15, 16, 17, 18, 19, 20, 21, 22, 23, 24, 25, 26, 27, 28, 29], [29])])
def sashlaw08_LeastIs.B3 : List Nat := [0, 0, 3, 0, 0, 31, 63, 127, 255, 255, 1023, 255, 255, 8191, 16383, 32767, 65535, 131071, 131071, 131071, 1048575, 131071, 131071, 131071, 16777215, 33554431, 67108863, 134217727, 268435455, 536870911, 1073741823]
theorem sashlaw08_LeastIs.tab3 : rtab .any (opsOf Try.f21 3) = sashlaw08_LeastIs.T3 := by kernel_rfl
theorem sashlaw08_LeastIs.bits3 : waitsOk sashlaw08_LeastIs.T3.2 sashlaw08_LeastIs.B3 = true := by kernel_rfl
set_option maxHeartbeats 8000000 in
set_option maxRecDepth 100000 in
theorem sashlaw08_LeastIs.calls (k : Nat) (a0_0 : Int) (a0_1 : Int) (a0_2 : Int) (a0_3 : Int) (a0_4 : Int) (a0_5 : Int) (A0_6 : Option Addr) (c0_6 : Nat) (l0_6 : List (S26)) (a1 : Int) (a2 : Int) (a3 : Int) (r : Bool) (w : World) (hr0_6 : Kd.C k26 w A0_6 l0_6.length l0_6) (hc0_6 : l0_6.length ≤ c0_6) (h : sashlaw08_LeastIs.f k a0_0 a0_1 a0_2 a0_3 a0_4 a0_5 l0_6 a1 a2 a3 = some r) :
  Calls Try.prog 21 #[.agg #[.int .u8 a0_0, .int .i64 a0_1, .int .i64 a0_2, .int .i64 a0_3, .int .i64 a0_4, .int .i64 a0_5, .slice A0_6 l0_6.length c0_6], .int .u8 a1, .int .i64 a2, .int .i64 a3] w fun e w' => e = .returned (.bool r) ∧ Below w.heap.size w w' := by
 have hu26 := Try.underlying26
 have HR0_6 := Aside0.mk hr0_6
 have HC0_6 := Aside0.mk hc0_6
 clear hr0_6 hc0_6
 have HB := Aside0.mk (Below.refl w.heap.size w)
 have H : ((sashref05_Great.f k a0_0 a0_1 a0_2 a0_3 a0_4 a0_5 l0_6).bind fun t1104 => (if t1104 = true then ((sashlaw08_awake.f).bind fun t1105 => (some t1105)) else ((least_Least.f k a0_0 a0_1 a0_2 a0_3 a0_4 a0_5 l0_6 a1).bind fun t1106 => ((sashref08_Least.f k a0_0 a0_1 a0_2 a0_3 a0_4 a0_5 l0_6 a1).bind fun t1107 => (if t1106 = t1107 then ((least_Gives.f k a0_0 a0_1 a0_2 a0_3 a0_4 a0_5 l0_6 a1).bind fun t1108 => ((sashref08_Gives.f k a0_0 a0_1 a0_2 a0_3 a0_4 a0_5 l0_6 a1).bind fun t1109 => (if t1108 = t1109 then ((least_Fits.f k a0_0 a0_1 a0_2 a0_3 a0_4 a0_5 l0_6 a2 a3).bind fun t1110 => ((sashref08_Fits.f k a0_0 a0_1 a0_2 a0_3 a0_4 a0_5 l0_6 a2 a3).bind fun t1111 => (if (t1110 == t1111) = true then ((sashlaw08_awake.f).bind fun t1112 => (some t1112)) else (some false)))) else (some false)))) else (some false)))))) = some r := h
 clear h
 replace H := Option.bind_eq_some_iff.mp H
 obtain ⟨t1104, A50, H⟩ := H
 replace H : (if t1104 = true then ((sashlaw08_awake.f).bind fun t1105 => (some t1105)) else ((least_Least.f k a0_0 a0_1 a0_2 a0_3 a0_4 a0_5 l0_6 a1).bind fun t1106 => ((sashref08_Least.f k a0_0 a0_1 a0_2 a0_3 a0_4 a0_5 l0_6 a1).bind fun t1107 => (if t1106 = t1107 then ((least_Gives.f k a0_0 a0_1 a0_2 a0_3 a0_4 a0_5 l0_6 a1).bind fun t1108 => ((sashref08_Gives.f k a0_0 a0_1 a0_2 a0_3 a0_4 a0_5 l0_6 a1).bind fun t1109 => (if t1108 = t1109 then ((least_Fits.f k a0_0 a0_1 a0_2 a0_3 a0_4 a0_5 l0_6 a2 a3).bind fun t1110 => ((sashref08_Fits.f k a0_0 a0_1 a0_2 a0_3 a0_4 a0_5 l0_6 a2 a3).bind fun t1111 => (if (t1110 == t1111) = true then ((sashlaw08_awake.f).bind fun t1112 => (some t1112)) else (some false)))) else (some false)))) else (some false))))) = some r := H
 have A5 := Aside0.mk A50
 clear A50
 by_cases c6 : t1104 = true
 ·subst c6
  have H1 : ((sashlaw08_awake.f).bind fun t1105 => (some t1105)) = some r := by rw [if_pos rfl] at H; exact H
  clear H
  have H := H1
  clear H1
  replace H := Option.bind_eq_some_iff.mp H
  obtain ⟨t1105, A70, H⟩ := H
  replace H : (some t1105) = some r := H
  have A7 := Aside0.mk A70
  clear A70
  obtain rfl := Option.some.inj H
  go_enter Try.func21, Try.ntmps21
  go_wp2_with (first | ((with_reducible refine gate_dst (N := 4) rfl ?_); refine box_event ?hg (N := 4) ?hd (cs := #[.int .u8 a0_0, .int .i64 a0_1, .int .i64 a0_2, .int .i64 a0_3, .int .i64 a0_4, .int .i64 a0_5, .slice A0_6 l0_6.length c0_6]) (t := 26) ?hr ?_; (case hd => rfl); (case hg => rfl); (case hr => (go_simp; done)); intro gb1103 hg w8 hbox hb; have BK1103 := Aside0.mk (hbox); replace HB := Aside0.mk (below_step (by repeat ((with_reducible exact HB.out))) hb); clear hb hbox hg; have hcz9_0 : w8.cell? ⟨gb1103, 0, none⟩ = some (.int .u8 a0_0) := (blk_cell BK1103.out 0).trans rfl; have hcz9_1 : w8.cell? ⟨gb1103, 1, none⟩ = some (.int .i64 a0_1) := (blk_cell BK1103.out 1).trans rfl; have hcz9_2 : w8.cell? ⟨gb1103, 2, none⟩ = some (.int .i64 a0_2) := (blk_cell BK1103.out 2).trans rfl; have hcz9_3 : w8.cell? ⟨gb1103, 3, none⟩ = some (.int .i64 a0_3) := (blk_cell BK1103.out 3).trans rfl; have hcz9_4 : w8.cell? ⟨gb1103, 4, none⟩ = some (.int .i64 a0_4) := (blk_cell BK1103.out 4).trans rfl; have hcz9_5 : w8.cell? ⟨gb1103, 5, none⟩ = some (.int .i64 a0_5) := (blk_cell BK1103.out 5).trans rfl; have hcz9_6 : w8.cell? ⟨gb1103, 6, none⟩ = some (.slice A0_6 l0_6.length c0_6) := (blk_cell BK1103.out 6).trans rfl; have hfz9_0 := blk_frozen BK1103.out 0; have hfz9_1 := blk_frozen BK1103.out 1; have hfz9_2 := blk_frozen BK1103.out 2; have hfz9_3 := blk_frozen BK1103.out 3; have hfz9_4 := blk_frozen BK1103.out 4; have hfz9_5 := blk_frozen BK1103.out 5; have hfz9_6 := blk_frozen BK1103.out 6) | ((with_reducible refine gate_callee (f := 34) rfl ?_); refine goesL_ (some 10) rfl rfl Try.func34 (by kernel_rfl) rfl #[.agg #[.int .u8 a0_0, .int .i64 a0_1, .int .i64 a0_2, .int .i64 a0_3, .int .i64 a0_4, .int .i64 a0_5, .slice A0_6 l0_6.length c0_6]] rfl (by (try simp only [List.map_toArray, List.map_cons, List.map_nil]); rfl) ?_; (with_reducible refine (sashref05_Great.calls k a0_0 a0_1 a0_2 a0_3 a0_4 a0_5 _ _ l0_6 true _ ?side1 ?side2 A5.out).mono ?_); (case side1 => repeat (exact (Kd.C_below HR0_6.out HB.out))); (case side2 => exact HC0_6.out); rintro e w10 ⟨rfl, hb⟩; refine ⟨_, rfl, ?_⟩; replace BK1103 := Aside0.mk (blk_below BK1103.out hb); replace HB := Aside0.mk (below_step (by repeat ((with_reducible exact HB.out))) hb); (try clear hb)) | ((with_reducible refine gate_callee (f := 85) rfl ?_); refine goesL_ (some 11) rfl rfl Try.func85 (by kernel_rfl) rfl #[] rfl (by (try simp only [List.map_toArray, List.map_cons, List.map_nil]); done) ?_; (with_reducible refine (sashlaw08_awake.calls  t1105 _ A7.out).mono ?_); rintro e w11 ⟨rfl, hb⟩; refine ⟨_, rfl, ?_⟩; replace BK1103 := Aside0.mk (blk_below BK1103.out hb); replace HB := Aside0.mk (below_step (by repeat ((with_reducible exact HB.out))) hb); (try clear hb)))
  go_ret
  exact ⟨by rfl, by repeat ((with_reducible exact HB.out))⟩
 ·replace c6 := Bool.eq_false_iff.mpr c6
  subst c6
  have H1 : ((least_Least.f k a0_0 a0_1 a0_2 a0_3 a0_4 a0_5 l0_6 a1).bind fun t1106 => ((sashref08_Least.f k a0_0 a0_1 a0_2 a0_3 a0_4 a0_5 l0_6 a1).bind fun t1107 => (if t1106 = t1107 then ((least_Gives.f k a0_0 a0_1 a0_2 a0_3 a0_4 a0_5 l0_6 a1).bind fun t1108 => ((sashref08_Gives.f k a0_0 a0_1 a0_2 a0_3 a0_4 a0_5 l0_6 a1).bind fun t1109 => (if t1108 = t1109 then ((least_Fits.f k a0_0 a0_1 a0_2 a0_3 a0_4 a0_5 l0_6 a2 a3).bind fun t1110 => ((sashref08_Fits.f k a0_0 a0_1 a0_2 a0_3 a0_4 a0_5 l0_6 a2 a3).bind fun t1111 => (if (t1110 == t1111) = true then ((sashlaw08_awake.f).bind fun t1112 => (some t1112)) else (some false)))) else (some false)))) else (some false)))) = some r := by rw [if_neg (show ¬ (false = true) by decide)] at H; exact H
  clear H
  have H := H1
  clear H1
  replace H := Option.bind_eq_some_iff.mp H
  obtain ⟨t1106, A120, H⟩ := H
  replace H : ((sashref08_Least.f k a0_0 a0_1 a0_2 a0_3 a0_4 a0_5 l0_6 a1).bind fun t1107 => (if t1106 = t1107 then ((least_Gives.f k a0_0 a0_1 a0_2 a0_3 a0_4 a0_5 l0_6 a1).bind fun t1108 => ((sashref08_Gives.f k a0_0 a0_1 a0_2 a0_3 a0_4 a0_5 l0_6 a1).bind fun t1109 => (if t1108 = t1109 then ((least_Fits.f k a0_0 a0_1 a0_2 a0_3 a0_4 a0_5 l0_6 a2 a3).bind fun t1110 => ((sashref08_Fits.f k a0_0 a0_1 a0_2 a0_3 a0_4 a0_5 l0_6 a2 a3).bind fun t1111 => (if (t1110 == t1111) = true then ((sashlaw08_awake.f).bind fun t1112 => (some t1112)) else (some false)))) else (some false)))) else (some false))) = some r := H
  have A12 := Aside0.mk A120
  clear A120
  replace H := Option.bind_eq_some_iff.mp H
  obtain ⟨t1107, A130, H⟩ := H
  replace H : (if t1106 = t1107 then ((least_Gives.f k a0_0 a0_1 a0_2 a0_3 a0_4 a0_5 l0_6 a1).bind fun t1108 => ((sashref08_Gives.f k a0_0 a0_1 a0_2 a0_3 a0_4 a0_5 l0_6 a1).bind fun t1109 => (if t1108 = t1109 then ((least_Fits.f k a0_0 a0_1 a0_2 a0_3 a0_4 a0_5 l0_6 a2 a3).bind fun t1110 => ((sashref08_Fits.f k a0_0 a0_1 a0_2 a0_3 a0_4 a0_5 l0_6 a2 a3).bind fun t1111 => (if (t1110 == t1111) = true then ((sashlaw08_awake.f).bind fun t1112 => (some t1112)) else (some false)))) else (some false)))) else (some false)) = some r := H
  have A13 := Aside0.mk A130
  clear A130
  by_cases c14 : t1106 = t1107
  ·rw [if_pos c14] at H
   have c14b0 : (t1106 == t1107) = true := beq_iff_eq.mpr c14
   have c14b1 : (t1106 != t1107) = false := bne_eq_false_iff_eq.mpr c14
   clear c14
   replace H := Option.bind_eq_some_iff.mp H
   obtain ⟨t1108, A150, H⟩ := H
   replace H : ((sashref08_Gives.f k a0_0 a0_1 a0_2 a0_3 a0_4 a0_5 l0_6 a1).bind fun t1109 => (if t1108 = t1109 then ((least_Fits.f k a0_0 a0_1 a0_2 a0_3 a0_4 a0_5 l0_6 a2 a3).bind fun t1110 => ((sashref08_Fits.f k a0_0 a0_1 a0_2 a0_3 a0_4 a0_5 l0_6 a2 a3).bind fun t1111 => (if (t1110 == t1111) = true then ((sashlaw08_awake.f).bind fun t1112 => (some t1112)) else (some false)))) else (some false))) = some r := H
   have A15 := Aside0.mk A150
   clear A150
   replace H := Option.bind_eq_some_iff.mp H
   obtain ⟨t1109, A160, H⟩ := H
   replace H : (if t1108 = t1109 then ((least_Fits.f k a0_0 a0_1 a0_2 a0_3 a0_4 a0_5 l0_6 a2 a3).bind fun t1110 => ((sashref08_Fits.f k a0_0 a0_1 a0_2 a0_3 a0_4 a0_5 l0_6 a2 a3).bind fun t1111 => (if (t1110 == t1111) = true then ((sashlaw08_awake.f).bind fun t1112 => (some t1112)) else (some false)))) else (some false)) = some r := H
   have A16 := Aside0.mk A160
   clear A160
   by_cases c17 : t1108 = t1109
   ·rw [if_pos c17] at H
    have c17b0 : (t1108 == t1109) = true := beq_iff_eq.mpr c17
    have c17b1 : (t1108 != t1109) = false := bne_eq_false_iff_eq.mpr c17
    clear c17
    replace H := Option.bind_eq_some_iff.mp H
    obtain ⟨t1110, A180, H⟩ := H
    replace H : ((sashref08_Fits.f k a0_0 a0_1 a0_2 a0_3 a0_4 a0_5 l0_6 a2 a3).bind fun t1111 => (if (t1110 == t1111) = true then ((sashlaw08_awake.f).bind fun t1112 => (some t1112)) else (some false))) = some r := H
    have A18 := Aside0.mk A180
    clear A180
    replace H := Option.bind_eq_some_iff.mp H
    obtain ⟨t1111, A190, H⟩ := H
    replace H : (if (t1110 == t1111) = true then ((sashlaw08_awake.f).bind fun t1112 => (some t1112)) else (some false)) = some r := H
    have A19 := Aside0.mk A190
    clear A190
    by_cases c20 : (t1110 == t1111) = true
    ·rw [if_pos c20] at H
     have c20b0 : (t1110 == t1111) = true := c20
     (try (have c20b1 : decide (t1110 = t1111) = true := by simpa using c20))
     (try (have c20b2 : (t1110 == t1111) = true := by simpa using c20))
     clear c20
     replace H := Option.bind_eq_some_iff.mp H
     obtain ⟨t1112, A210, H⟩ := H
     replace H : (some t1112) = some r := H
     have A21 := Aside0.mk A210
     clear A210
     obtain rfl := Option.some.inj H
     go_enter Try.func21, Try.ntmps21
     try go_wp2_with (first | ((with_reducible refine gate_dst (N := 4) rfl ?_); refine box_event ?hg (N := 4) ?hd (cs := #[.int .u8 a0_0, .int .i64 a0_1, .int .i64 a0_2, .int .i64 a0_3, .int .i64 a0_4, .int .i64 a0_5, .slice A0_6 l0_6.length c0_6]) (t := 26) ?hr ?_; (case hd => rfl); (case hg => rfl); (case hr => (go_simp; done)); intro gb1103 hg w22 hbox hb; have BK1103 := Aside0.mk (hbox); replace HB := Aside0.mk (below_step (by repeat ((with_reducible exact HB.out))) hb); clear hb hbox hg; have hcz23_0 : w22.cell? ⟨gb1103, 0, none⟩ = some (.int .u8 a0_0) := (blk_cell BK1103.out 0).trans rfl; have hcz23_1 : w22.cell? ⟨gb1103, 1, none⟩ = some (.int .i64 a0_1) := (blk_cell BK1103.out 1).trans rfl; have hcz23_2 : w22.cell? ⟨gb1103, 2, none⟩ = some (.int .i64 a0_2) := (blk_cell BK1103.out 2).trans rfl; have hcz23_3 : w22.cell? ⟨gb1103, 3, none⟩ = some (.int .i64 a0_3) := (blk_cell BK1103.out 3).trans rfl; have hcz23_4 : w22.cell? ⟨gb1103, 4, none⟩ = some (.int .i64 a0_4) := (blk_cell BK1103.out 4).trans rfl; have hcz23_5 : w22.cell? ⟨gb1103, 5, none⟩ = some (.int .i64 a0_5) := (blk_cell BK1103.out 5).trans rfl; have hcz23_6 : w22.cell? ⟨gb1103, 6, none⟩ = some (.slice A0_6 l0_6.length c0_6) := (blk_cell BK1103.out 6).trans rfl; have hfz23_0 := blk_frozen BK1103.out 0; have hfz23_1 := blk_frozen BK1103.out 1; have hfz23_2 := blk_frozen BK1103.out 2; have hfz23_3 := blk_frozen BK1103.out 3; have hfz23_4 := blk_frozen BK1103.out 4; have hfz23_5 := blk_frozen BK1103.out 5; have hfz23_6 := blk_frozen BK1103.out 6) | ((with_reducible refine gate_callee (f := 34) rfl ?_); refine goesL_ (some 10) rfl rfl Try.func34 (by kernel_rfl) rfl #[.agg #[.int .u8 a0_0, .int .i64 a0_1, .int .i64 a0_2, .int .i64 a0_3, .int .i64 a0_4, .int .i64 a0_5, .slice A0_6 l0_6.length c0_6]] rfl (by (try simp only [List.map_toArray, List.map_cons, List.map_nil]); rfl) ?_; (with_reducible refine (sashref05_Great.calls k a0_0 a0_1 a0_2 a0_3 a0_4 a0_5 _ _ l0_6 false _ ?side1 ?side2 A5.out).mono ?_); (case side1 => repeat (exact (Kd.C_below HR0_6.out HB.out))); (case side2 => exact HC0_6.out); rintro e w24 ⟨rfl, hb⟩; refine ⟨_, rfl, ?_⟩; replace BK1103 := Aside0.mk (blk_below BK1103.out hb); replace HB := Aside0.mk (below_step (by repeat ((with_reducible exact HB.out))) hb); (try clear hb)))
     replace BK1103 := Aside0.mk (blk_drew BK1103.out); replace HB := Aside0.mk (below_drew1 HB.out)
     refine start_ (n := 31) (S := fun w' => w'.cell? ⟨gb1103, 0, none⟩ = some (.int .u8 a0_0) ∧ w'.cell? ⟨gb1103, 1, none⟩ = some (.int .i64 a0_1) ∧ w'.cell? ⟨gb1103, 2, none⟩ = some (.int .i64 a0_2) ∧ w'.cell? ⟨gb1103, 3, none⟩ = some (.int .i64 a0_3) ∧ w'.cell? ⟨gb1103, 4, none⟩ = some (.int .i64 a0_4) ∧ w'.cell? ⟨gb1103, 5, none⟩ = some (.int .i64 a0_5) ∧ w'.cell? ⟨gb1103, 6, none⟩ = some (.slice A0_6 l0_6.length c0_6)) (ds := []) #[false, false, false, false, false, false, false, false, false, false, false, false, false, false, false, false, false, false, false, false, false, false, false, false, false, false, false, false, false, false, false] (by kernel_rfl) rfl rfl ⟨(blk_cell BK1103.out 0).trans rfl, (blk_cell BK1103.out 1).trans rfl, (blk_cell BK1103.out 2).trans rfl, (blk_cell BK1103.out 3).trans rfl, (blk_cell BK1103.out 4).trans rfl, (blk_cell BK1103.out 5).trans rfl, (blk_cell BK1103.out 6).trans rfl⟩ (fun hHeld => ?_); refine with_tabW sashlaw08_LeastIs.tab3 sashlaw08_LeastIs.bits3 (fun HT_ HW_ => ?_)
     generalize w24.drew = w25 at BK1103 HB hHeld ⊢
     refine pure_ (i := 1) (N := some 13) (v := ?_) (a' := ?_) #[false, true, false, false, false, false, false, false, false, false, false, false, false, false, false, false, false, false, false, false, false, false, false, false, false, false, false, false, false, false, false] rfl rfl (any_of HT_.out (by kernel_rfl)) (fun _ _ _ h => h) (Or.inl ⟨by rfl, ?_⟩) ?_ ?_
     rotate_left
     ·intro w'
      go_simp
      with_reducible rfl
     rotate_left
     ·simp only [Act.put, List.setIfInBounds_toArray, List.set_cons_zero, List.set_cons_succ, i64_w, i32_w]
      rfl
     refine pure_ (i := 4) (N := some 16) (v := ?_) (a' := ?_) #[false, true, false, false, true, false, false, false, false, false, false, false, false, false, false, false, false, false, false, false, false, false, false, false, false, false, false, false, false, false, false] rfl rfl (any_of HT_.out (by kernel_rfl)) (fun _ _ _ h => h) (Or.inl ⟨by rfl, ?_⟩) ?_ ?_
     rotate_left
     ·intro w'
      go_simp
      with_reducible rfl
     rotate_left
     ·simp only [Act.put, List.setIfInBounds_toArray, List.set_cons_zero, List.set_cons_succ, i64_w, i32_w]
      rfl
     refine take_ (i := 0) (N := some 12) (v := ?_) (a' := ?_) #[true, true, false, false, true, false, false, false, false, false, false, false, false, false, false, false, false, false, false, false, false, false, false, false, false, false, false, false, false, false, false] rfl rfl (take_ofW HT_.out HW_.out (by kernel_rfl)) (fun _ _ _ h => h) (Or.inl ⟨by rfl, ?_⟩) hHeld ?_ ?_
     rotate_left
     ·rintro w' ⟨s0, s1, s2, s3, s4, s5, s6⟩
      go_simp
      with_reducible rfl
     rotate_left
     ·simp only [Act.put, List.setIfInBounds_toArray, List.set_cons_zero, List.set_cons_succ, i64_w, i32_w]
      rfl
     refine take_ (i := 3) (N := some 15) (v := ?_) (a' := ?_) #[true, true, false, true, true, false, false, false, false, false, false, false, false, false, false, false, false, false, false, false, false, false, false, false, false, false, false, false, false, false, false] rfl rfl (take_ofW HT_.out HW_.out (by kernel_rfl)) (fun _ _ _ h => h) (Or.inl ⟨by rfl, ?_⟩) hHeld ?_ ?_
     rotate_left
     ·rintro w' ⟨s0, s1, s2, s3, s4, s5, s6⟩
      go_simp
      with_reducible rfl
     rotate_left
     ·simp only [Act.put, List.setIfInBounds_toArray, List.set_cons_zero, List.set_cons_succ, i64_w, i32_w]
      rfl
     refine one_ (i := 2) (N := some 14) #[true, true, true, true, true, false, false, false, false, false, false, false, false, false, false, false, false, false, false, false, false, false, false, false, false, false, false, false, false, false, false] rfl rfl (one_of HT_.out (by kernel_rfl)) (by decide) (fun K hK => ?_)
     refine goes_ Try.func93 (by kernel_rfl) rfl #[.agg #[.int .u8 a0_0, .int .i64 a0_1, .int .i64 a0_2, .int .i64 a0_3, .int .i64 a0_4, .int .i64 a0_5, .slice A0_6 l0_6.length c0_6], .int .u8 a1] (by rfl) rfl rfl (by (try simp only [List.map_toArray, List.map_cons, List.map_nil]); rfl) ?_
     with_reducible refine (least_Least.calls k a0_0 a0_1 a0_2 a0_3 a0_4 a0_5 (fun k_ => k_ < w.heap.size) _ _ l0_6 a1 t1106 _ ?side1 A12.out).mono ?_
     (case side1 => exact Kd.V_mk HC0_6.out (Kd.F_below (Kd.C_F k26_heap HR0_6.out) (by repeat ((with_reducible exact HB.out)))))
     rintro e w26 ⟨rfl, hb⟩
     refine ⟨_, rfl, ?_⟩
     replace BK1103 := Aside0.mk (blk_below BK1103.out hb); replace HB := Aside0.mk (below_step (by repeat ((with_reducible exact HB.out))) hb)
     (try clear hb)
     (skip)
     (skip)
     (skip)
     refine hK.out _ _ ⟨(blk_cell BK1103.out 0).trans rfl, (blk_cell BK1103.out 1).trans rfl, (blk_cell BK1103.out 2).trans rfl, (blk_cell BK1103.out 3).trans rfl, (blk_cell BK1103.out 4).trans rfl, (blk_cell BK1103.out 5).trans rfl, (blk_cell BK1103.out 6).trans rfl⟩ (fun hHeld => ?_)
     clear hK K
     refine norm_ (a' := ?_) ?_ ?_
     rotate_left
     ·show Act.put _ (some 14) _ = _
      simp only [Act.put, List.setIfInBounds_toArray, List.set_cons_zero, List.set_cons_succ, i64_w, i32_w]
      rfl
     refine one_ (i := 5) (N := some 17) #[true, true, true, true, true, true, false, false, false, false, false, false, false, false, false, false, false, false, false, false, false, false, false, false, false, false, false, false, false, false, false] rfl rfl (one_of HT_.out (by kernel_rfl)) (by decide) (fun K hK => ?_)
     refine goes_ Try.func94 (by kernel_rfl) rfl #[.agg #[.int .u8 a0_0, .int .i64 a0_1, .int .i64 a0_2, .int .i64 a0_3, .int .i64 a0_4, .int .i64 a0_5, .slice A0_6 l0_6.length c0_6], .int .u8 a1] (by rfl) rfl rfl (by (try simp only [List.map_toArray, List.map_cons, List.map_nil]); rfl) ?_
     with_reducible refine (sashref08_Least.calls k a0_0 a0_1 a0_2 a0_3 a0_4 a0_5 _ _ l0_6 a1 t1107 _ ?side1 ?side2 A13.out).mono ?_
     (case side1 => repeat (exact (Kd.C_below HR0_6.out HB.out)))
     (case side2 => exact HC0_6.out)
     rintro e w27 ⟨rfl, hb⟩
     refine ⟨_, rfl, ?_⟩
     replace BK1103 := Aside0.mk (blk_below BK1103.out hb); replace HB := Aside0.mk (below_step (by repeat ((with_reducible exact HB.out))) hb)
     (try clear hb)
     (skip)
     (skip)
     (skip)
     refine hK.out _ _ ⟨(blk_cell BK1103.out 0).trans rfl, (blk_cell BK1103.out 1).trans rfl, (blk_cell BK1103.out 2).trans rfl, (blk_cell BK1103.out 3).trans rfl, (blk_cell BK1103.out 4).trans rfl, (blk_cell BK1103.out 5).trans rfl, (blk_cell BK1103.out 6).trans rfl⟩ (fun hHeld => ?_)
     clear hK K
     refine norm_ (a' := ?_) ?_ ?_
     rotate_left
     ·show Act.put _ (some 17) _ = _
      simp only [Act.put, List.setIfInBounds_toArray, List.set_cons_zero, List.set_cons_succ, i64_w, i32_w]
      rfl
     refine pure_ (i := 6) (N := some 18) (v := ?_) (a' := ?_) #[true, true, true, true, true, true, true, false, false, false, false, false, false, false, false, false, false, false, false, false, false, false, false, false, false, false, false, false, false, false, false] rfl rfl (any_of HT_.out (by kernel_rfl)) (fun _ _ _ h => h) (Or.inl ⟨by rfl, ?_⟩) ?_ ?_
     rotate_left
     ·intro w'
      go_simp
      with_reducible rfl
     rotate_left
     ·simp only [Act.put, List.setIfInBounds_toArray, List.set_cons_zero, List.set_cons_succ, i64_w, i32_w]
      rfl
     refine pure_ (i := 7) (N := some 19) (v := ?_) (a' := ?_) #[true, true, true, true, true, true, true, true, false, false, false, false, false, false, false, false, false, false, false, false, false, false, false, false, false, false, false, false, false, false, false] rfl rfl (any_of HT_.out (by kernel_rfl)) (fun _ _ _ h => h) (Or.inl ⟨by rfl, ?_⟩) ?_ ?_
     rotate_left
     ·intro w'
      go_simp
      with_reducible rfl
     rotate_left
     ·simp only [Act.put, List.setIfInBounds_toArray, List.set_cons_zero, List.set_cons_succ, i64_w, i32_w]
      rfl
     refine pure_ (i := 9) (N := some 21) (v := ?_) (a' := ?_) #[true, true, true, true, true, true, true, true, false, true, false, false, false, false, false, false, false, false, false, false, false, false, false, false, false, false, false, false, false, false, false] rfl rfl (any_of HT_.out (by kernel_rfl)) (fun _ _ _ h => h) (Or.inl ⟨by rfl, ?_⟩) ?_ ?_
     rotate_left
     ·intro w'
      go_simp
      with_reducible rfl
     rotate_left
     ·simp only [Act.put, List.setIfInBounds_toArray, List.set_cons_zero, List.set_cons_succ, i64_w, i32_w]
      rfl
     refine pure_ (i := 12) (N := some 24) (v := ?_) (a' := ?_) #[true, true, true, true, true, true, true, true, false, true, false, false, true, false, false, false, false, false, false, false, false, false, false, false, false, false, false, false, false, false, false] rfl rfl (any_of HT_.out (by kernel_rfl)) (fun _ _ _ h => h) (Or.inl ⟨by rfl, ?_⟩) ?_ ?_
     rotate_left
     ·intro w'
      go_simp
      with_reducible rfl
     rotate_left
     ·simp only [Act.put, List.setIfInBounds_toArray, List.set_cons_zero, List.set_cons_succ, i64_w, i32_w]
      rfl
     refine take_ (i := 8) (N := some 20) (v := ?_) (a' := ?_) #[true, true, true, true, true, true, true, true, true, true, false, false, true, false, false, false, false, false, false, false, false, false, false, false, false, false, false, false, false, false, false] rfl rfl (take_ofW HT_.out HW_.out (by kernel_rfl)) (fun _ _ _ h => h) (Or.inl ⟨by rfl, ?_⟩) hHeld ?_ ?_
     rotate_left
     ·rintro w' ⟨s0, s1, s2, s3, s4, s5, s6⟩
      go_simp
      with_reducible rfl
     rotate_left
     ·simp only [Act.put, List.setIfInBounds_toArray, List.set_cons_zero, List.set_cons_succ, i64_w, i32_w]
      rfl
     refine take_ (i := 11) (N := some 23) (v := ?_) (a' := ?_) #[true, true, true, true, true, true, true, true, true, true, false, true, true, false, false, false, false, false, false, false, false, false, false, false, false, false, false, false, false, false, false] rfl rfl (take_ofW HT_.out HW_.out (by kernel_rfl)) (fun _ _ _ h => h) (Or.inl ⟨by rfl, ?_⟩) hHeld ?_ ?_
     rotate_left
     ·rintro w' ⟨s0, s1, s2, s3, s4, s5, s6⟩
      go_simp
      with_reducible rfl
     rotate_left
     ·simp only [Act.put, List.setIfInBounds_toArray, List.set_cons_zero, List.set_cons_succ, i64_w, i32_w]
      rfl
     refine one_ (i := 10) (N := some 22) #[true, true, true, true, true, true, true, true, true, true, true, true, true, false, false, false, false, false, false, false, false, false, false, false, false, false, false, false, false, false, false] rfl rfl (one_of HT_.out (by kernel_rfl)) (by decide) (fun K hK => ?_)
     refine goes_ Try.func86 (by kernel_rfl) rfl #[.agg #[.int .u8 a0_0, .int .i64 a0_1, .int .i64 a0_2, .int .i64 a0_3, .int .i64 a0_4, .int .i64 a0_5, .slice A0_6 l0_6.length c0_6], .int .u8 a1] (by rfl) rfl rfl (by (try simp only [List.map_toArray, List.map_cons, List.map_nil]); rfl) ?_
     with_reducible refine (least_Gives.calls k a0_0 a0_1 a0_2 a0_3 a0_4 a0_5 (fun k_ => k_ < w.heap.size) _ _ l0_6 a1 t1108 _ ?side1 A15.out).mono ?_
     (case side1 => exact Kd.V_mk HC0_6.out (Kd.F_below (Kd.C_F k26_heap HR0_6.out) (by repeat ((with_reducible exact HB.out)))))
     rintro e w28 ⟨rfl, hb⟩
     refine ⟨_, rfl, ?_⟩
     replace BK1103 := Aside0.mk (blk_below BK1103.out hb); replace HB := Aside0.mk (below_step (by repeat ((with_reducible exact HB.out))) hb)
     (try clear hb)
     (skip)
     (skip)
     (skip)
     refine hK.out _ _ ⟨(blk_cell BK1103.out 0).trans rfl, (blk_cell BK1103.out 1).trans rfl, (blk_cell BK1103.out 2).trans rfl, (blk_cell BK1103.out 3).trans rfl, (blk_cell BK1103.out 4).trans rfl, (blk_cell BK1103.out 5).trans rfl, (blk_cell BK1103.out 6).trans rfl⟩ (fun hHeld => ?_)
     clear hK K
     refine norm_ (a' := ?_) ?_ ?_
     rotate_left
     ·show Act.put _ (some 22) _ = _
      simp only [Act.put, List.setIfInBounds_toArray, List.set_cons_zero, List.set_cons_succ, i64_w, i32_w]
      rfl
     refine one_ (i := 13) (N := some 25) #[true, true, true, true, true, true, true, true, true, true, true, true, true, true, false, false, false, false, false, false, false, false, false, false, false, false, false, false, false, false, false] rfl rfl (one_of HT_.out (by kernel_rfl)) (by decide) (fun K hK => ?_)
     refine goes_ Try.func95 (by kernel_rfl) rfl #[.agg #[.int .u8 a0_0, .int .i64 a0_1, .int .i64 a0_2, .int .i64 a0_3, .int .i64 a0_4, .int .i64 a0_5, .slice A0_6 l0_6.length c0_6], .int .u8 a1] (by rfl) rfl rfl (by (try simp only [List.map_toArray, List.map_cons, List.map_nil]); rfl) ?_
     with_reducible refine (sashref08_Gives.calls k a0_0 a0_1 a0_2 a0_3 a0_4 a0_5 _ _ l0_6 a1 t1109 _ ?side1 ?side2 A16.out).mono ?_
     (case side1 => repeat (exact (Kd.C_below HR0_6.out HB.out)))
     (case side2 => exact HC0_6.out)
     rintro e w29 ⟨rfl, hb⟩
     refine ⟨_, rfl, ?_⟩
     replace BK1103 := Aside0.mk (blk_below BK1103.out hb); replace HB := Aside0.mk (below_step (by repeat ((with_reducible exact HB.out))) hb)
     (try clear hb)
     (skip)
     (skip)
     (skip)
     refine hK.out _ _ ⟨(blk_cell BK1103.out 0).trans rfl, (blk_cell BK1103.out 1).trans rfl, (blk_cell BK1103.out 2).trans rfl, (blk_cell BK1103.out 3).trans rfl, (blk_cell BK1103.out 4).trans rfl, (blk_cell BK1103.out 5).trans rfl, (blk_cell BK1103.out 6).trans rfl⟩ (fun hHeld => ?_)
     clear hK K
     refine norm_ (a' := ?_) ?_ ?_
     rotate_left
     ·show Act.put _ (some 25) _ = _
      simp only [Act.put, List.setIfInBounds_toArray, List.set_cons_zero, List.set_cons_succ, i64_w, i32_w]
      rfl
     refine pure_ (i := 14) (N := some 26) (v := ?_) (a' := ?_) #[true, true, true, true, true, true, true, true, true, true, true, true, true, true, true, false, false, false, false, false, false, false, false, false, false, false, false, false, false, false, false] rfl rfl (any_of HT_.out (by kernel_rfl)) (fun _ _ _ h => h) (Or.inl ⟨by rfl, ?_⟩) ?_ ?_
     rotate_left
     ·intro w'
      go_simp
      with_reducible rfl
     rotate_left
     ·simp only [Act.put, List.setIfInBounds_toArray, List.set_cons_zero, List.set_cons_succ, i64_w, i32_w]
      rfl
     refine pure_ (i := 15) (N := some 27) (v := ?_) (a' := ?_) #[true, true, true, true, true, true, true, true, true, true, true, true, true, true, true, true, false, false, false, false, false, false, false, false, false, false, false, false, false, false, false] rfl rfl (any_of HT_.out (by kernel_rfl)) (fun _ _ _ h => h) (Or.inl ⟨by rfl, ?_⟩) ?_ ?_
     rotate_left
     ·intro w'
      go_simp
      with_reducible rfl
     rotate_left
     ·simp only [Act.put, List.setIfInBounds_toArray, List.set_cons_zero, List.set_cons_succ, i64_w, i32_w]
      rfl
     refine pure_ (i := 16) (N := some 28) (v := ?_) (a' := ?_) #[true, true, true, true, true, true, true, true, true, true, true, true, true, true, true, true, true, false, false, false, false, false, false, false, false, false, false, false, false, false, false] rfl rfl (any_of HT_.out (by kernel_rfl)) (fun _ _ _ h => h) (Or.inl ⟨by rfl, ?_⟩) ?_ ?_
     rotate_left
     ·intro w'
      go_simp
      with_reducible rfl
     rotate_left
     ·simp only [Act.put, List.setIfInBounds_toArray, List.set_cons_zero, List.set_cons_succ, i64_w, i32_w]
      rfl
     refine pure_ (i := 18) (N := some 30) (v := ?_) (a' := ?_) #[true, true, true, true, true, true, true, true, true, true, true, true, true, true, true, true, true, false, true, false, false, false, false, false, false, false, false, false, false, false, false] rfl rfl (any_of HT_.out (by kernel_rfl)) (fun _ _ _ h => h) (Or.inl ⟨by rfl, ?_⟩) ?_ ?_
     rotate_left
     ·intro w'
      go_simp
      with_reducible rfl
     rotate_left
     ·simp only [Act.put, List.setIfInBounds_toArray, List.set_cons_zero, List.set_cons_succ, i64_w, i32_w]
      rfl
     refine pure_ (i := 19) (N := some 31) (v := ?_) (a' := ?_) #[true, true, true, true, true, true, true, true, true, true, true, true, true, true, true, true, true, false, true, true, false, false, false, false, false, false, false, false, false, false, false] rfl rfl (any_of HT_.out (by kernel_rfl)) (fun _ _ _ h => h) (Or.inl ⟨by rfl, ?_⟩) ?_ ?_
     rotate_left
     ·intro w'
      go_simp
      with_reducible rfl
     rotate_left
     ·simp only [Act.put, List.setIfInBounds_toArray, List.set_cons_zero, List.set_cons_succ, i64_w, i32_w]
      rfl
     refine pure_ (i := 22) (N := some 34) (v := ?_) (a' := ?_) #[true, true, true, true, true, true, true, true, true, true, true, true, true, true, true, true, true, false, true, true, false, false, true, false, false, false, false, false, false, false, false] rfl rfl (any_of HT_.out (by kernel_rfl)) (fun _ _ _ h => h) (Or.inl ⟨by rfl, ?_⟩) ?_ ?_
     rotate_left
     ·intro w'
      go_simp
      with_reducible rfl
     rotate_left
     ·simp only [Act.put, List.setIfInBounds_toArray, List.set_cons_zero, List.set_cons_succ, i64_w, i32_w]
      rfl
     refine pure_ (i := 23) (N := some 35) (v := ?_) (a' := ?_) #[true, true, true, true, true, true, true, true, true, true, true, true, true, true, true, true, true, false, true, true, false, false, true, true, false, false, false, false, false, false, false] rfl rfl (any_of HT_.out (by kernel_rfl)) (fun _ _ _ h => h) (Or.inl ⟨by rfl, ?_⟩) ?_ ?_
     rotate_left
     ·intro w'
      go_simp
      with_reducible rfl
     rotate_left
     ·simp only [Act.put, List.setIfInBounds_toArray, List.set_cons_zero, List.set_cons_succ, i64_w, i32_w]
      rfl
     refine take_ (i := 17) (N := some 29) (v := ?_) (a' := ?_) #[true, true, true, true, true, true, true, true, true, true, true, true, true, true, true, true, true, true, true, true, false, false, true, true, false, false, false, false, false, false, false] rfl rfl (take_ofW HT_.out HW_.out (by kernel_rfl)) (fun _ _ _ h => h) (Or.inl ⟨by rfl, ?_⟩) hHeld ?_ ?_
     rotate_left
     ·rintro w' ⟨s0, s1, s2, s3, s4, s5, s6⟩
      go_simp
      with_reducible rfl
     rotate_left
     ·simp only [Act.put, List.setIfInBounds_toArray, List.set_cons_zero, List.set_cons_succ, i64_w, i32_w]
      rfl
     refine take_ (i := 21) (N := some 33) (v := ?_) (a' := ?_) #[true, true, true, true, true, true, true, true, true, true, true, true, true, true, true, true, true, true, true, true, false, true, true, true, false, false, false, false, false, false, false] rfl rfl (take_ofW HT_.out HW_.out (by kernel_rfl)) (fun _ _ _ h => h) (Or.inl ⟨by rfl, ?_⟩) hHeld ?_ ?_
     rotate_left
     ·rintro w' ⟨s0, s1, s2, s3, s4, s5, s6⟩
      go_simp
      with_reducible rfl
     rotate_left
     ·simp only [Act.put, List.setIfInBounds_toArray, List.set_cons_zero, List.set_cons_succ, i64_w, i32_w]
      rfl
     refine one_ (i := 20) (N := some 32) #[true, true, true, true, true, true, true, true, true, true, true, true, true, true, true, true, true, true, true, true, true, true, true, true, false, false, false, false, false, false, false] rfl rfl (one_of HT_.out (by kernel_rfl)) (by decide) (fun K hK => ?_)
     refine goes_ Try.func96 (by kernel_rfl) rfl #[.agg #[.int .u8 a0_0, .int .i64 a0_1, .int .i64 a0_2, .int .i64 a0_3, .int .i64 a0_4, .int .i64 a0_5, .slice A0_6 l0_6.length c0_6], .int .i64 a2, .int .i64 a3] (by rfl) rfl rfl (by (try simp only [List.map_toArray, List.map_cons, List.map_nil]); rfl) ?_
     with_reducible refine (least_Fits.calls k a0_0 a0_1 a0_2 a0_3 a0_4 a0_5 (fun k_ => k_ < w.heap.size) _ _ l0_6 a2 a3 t1110 _ ?side1 A18.out).mono ?_
     (case side1 => exact Kd.V_mk HC0_6.out (Kd.F_below (Kd.C_F k26_heap HR0_6.out) (by repeat ((with_reducible exact HB.out)))))
     rintro e w30 ⟨rfl, hb⟩
     refine ⟨_, rfl, ?_⟩
     replace BK1103 := Aside0.mk (blk_below BK1103.out hb); replace HB := Aside0.mk (below_step (by repeat ((with_reducible exact HB.out))) hb)
     (try clear hb)
     (skip)
     (skip)
     (skip)
     refine hK.out _ _ ⟨(blk_cell BK1103.out 0).trans rfl, (blk_cell BK1103.out 1).trans rfl, (blk_cell BK1103.out 2).trans rfl, (blk_cell BK1103.out 3).trans rfl, (blk_cell BK1103.out 4).trans rfl, (blk_cell BK1103.out 5).trans rfl, (blk_cell BK1103.out 6).trans rfl⟩ (fun hHeld => ?_)
     clear hK K
     refine norm_ (a' := ?_) ?_ ?_
     rotate_left
     ·show Act.put _ (some 32) _ = _
      simp only [Act.put, List.setIfInBounds_toArray, List.set_cons_zero, List.set_cons_succ, i64_w, i32_w]
      rfl
     refine one_ (i := 24) (N := some 36) #[true, true, true, true, true, true, true, true, true, true, true, true, true, true, true, true, true, true, true, true, true, true, true, true, true, false, false, false, false, false, false] rfl rfl (one_of HT_.out (by kernel_rfl)) (by decide) (fun K hK => ?_)
     refine goes_ Try.func97 (by kernel_rfl) rfl #[.agg #[.int .u8 a0_0, .int .i64 a0_1, .int .i64 a0_2, .int .i64 a0_3, .int .i64 a0_4, .int .i64 a0_5, .slice A0_6 l0_6.length c0_6], .int .i64 a2, .int .i64 a3] (by rfl) rfl rfl (by (try simp only [List.map_toArray, List.map_cons, List.map_nil]); rfl) ?_
     with_reducible refine (sashref08_Fits.calls k a0_0 a0_1 a0_2 a0_3 a0_4 a0_5 _ _ l0_6 a2 a3 t1111 _ ?side1 ?side2 A19.out).mono ?_
     (case side1 => repeat (exact (Kd.C_below HR0_6.out HB.out)))
     (case side2 => exact HC0_6.out)
     rintro e w31 ⟨rfl, hb⟩
     refine ⟨_, rfl, ?_⟩
     replace BK1103 := Aside0.mk (blk_below BK1103.out hb); replace HB := Aside0.mk (below_step (by repeat ((with_reducible exact HB.out))) hb)
     (try clear hb)
     (skip)
     (skip)
     (skip)
     refine hK.out _ _ ⟨(blk_cell BK1103.out 0).trans rfl, (blk_cell BK1103.out 1).trans rfl, (blk_cell BK1103.out 2).trans rfl, (blk_cell BK1103.out 3).trans rfl, (blk_cell BK1103.out 4).trans rfl, (blk_cell BK1103.out 5).trans rfl, (blk_cell BK1103.out 6).trans rfl⟩ (fun hHeld => ?_)
     clear hK K
     refine norm_ (a' := ?_) ?_ ?_
     rotate_left
     ·show Act.put _ (some 36) _ = _
      simp only [Act.put, List.setIfInBounds_toArray, List.set_cons_zero, List.set_cons_succ, i64_w, i32_w]
      rfl
     refine pure_ (i := 25) (N := some 37) (v := ?_) (a' := ?_) #[true, true, true, true, true, true, true, true, true, true, true, true, true, true, true, true, true, true, true, true, true, true, true, true, true, true, false, false, false, false, false] rfl rfl (any_of HT_.out (by kernel_rfl)) (fun _ _ _ h => h) (Or.inl ⟨by rfl, ?_⟩) ?_ ?_
     rotate_left
     ·intro w'
      go_simp
      with_reducible rfl
     rotate_left
     ·simp only [Act.put, List.setIfInBounds_toArray, List.set_cons_zero, List.set_cons_succ, i64_w, i32_w]
      rfl
     refine pure_ (i := 26) (N := some 38) (v := ?_) (a' := ?_) #[true, true, true, true, true, true, true, true, true, true, true, true, true, true, true, true, true, true, true, true, true, true, true, true, true, true, true, false, false, false, false] rfl rfl (any_of HT_.out (by kernel_rfl)) (fun _ _ _ h => h) (Or.inl ⟨by rfl, ?_⟩) ?_ ?_
     rotate_left
     ·intro w'
      go_simp
      with_reducible rfl
     rotate_left
     ·simp only [Act.put, List.setIfInBounds_toArray, List.set_cons_zero, List.set_cons_succ, i64_w, i32_w]
      rfl
     refine pure_ (i := 27) (N := some 39) (v := ?_) (a' := ?_) #[true, true, true, true, true, true, true, true, true, true, true, true, true, true, true, true, true, true, true, true, true, true, true, true, true, true, true, true, false, false, false] rfl rfl (any_of HT_.out (by kernel_rfl)) (fun _ _ _ h => h) (Or.inl ⟨by rfl, ?_⟩) ?_ ?_
     rotate_left
     ·intro w'
      go_simp
      with_reducible rfl
     rotate_left
     ·simp only [Act.put, List.setIfInBounds_toArray, List.set_cons_zero, List.set_cons_succ, i64_w, i32_w]
      rfl
     refine one_ (i := 28) (N := some 40) #[true, true, true, true, true, true, true, true, true, true, true, true, true, true, true, true, true, true, true, true, true, true, true, true, true, true, true, true, true, false, false] rfl rfl (one_of HT_.out (by kernel_rfl)) (by decide) (fun K hK => ?_)
     refine goes_ Try.func85 (by kernel_rfl) rfl #[] (by rfl) rfl rfl (by (try simp only [List.map_toArray, List.map_cons, List.map_nil]); done) ?_
     with_reducible refine (sashlaw08_awake.calls  t1112 _ A21.out).mono ?_
     rintro e w32 ⟨rfl, hb⟩
     refine ⟨_, rfl, ?_⟩
     replace BK1103 := Aside0.mk (blk_below BK1103.out hb); replace HB := Aside0.mk (below_step (by repeat ((with_reducible exact HB.out))) hb)
     (try clear hb)
     (skip)
     (skip)
     (skip)
     refine hK.out _ _ ⟨(blk_cell BK1103.out 0).trans rfl, (blk_cell BK1103.out 1).trans rfl, (blk_cell BK1103.out 2).trans rfl, (blk_cell BK1103.out 3).trans rfl, (blk_cell BK1103.out 4).trans rfl, (blk_cell BK1103.out 5).trans rfl, (blk_cell BK1103.out 6).trans rfl⟩ (fun hHeld => ?_)
     clear hK K
     refine norm_ (a' := ?_) ?_ ?_
     rotate_left
     ·show Act.put _ (some 40) _ = _
      simp only [Act.put, List.setIfInBounds_toArray, List.set_cons_zero, List.set_cons_succ, i64_w, i32_w]
      rfl
     refine pure_ (i := 29) (N := some 41) (v := ?_) (a' := ?_) #[true, true, true, true, true, true, true, true, true, true, true, true, true, true, true, true, true, true, true, true, true, true, true, true, true, true, true, true, true, true, false] rfl rfl (any_of HT_.out (by kernel_rfl)) (fun _ _ _ h => h) (Or.inl ⟨by rfl, ?_⟩) ?_ ?_
     rotate_left
     ·intro w'
      go_simp
      with_reducible rfl
     rotate_left
     ·simp only [Act.put, List.setIfInBounds_toArray, List.set_cons_zero, List.set_cons_succ, i64_w, i32_w]
      rfl
     refine pure_ (i := 30) (N := some 8) (v := ?_) (a' := ?_) #[true, true, true, true, true, true, true, true, true, true, true, true, true, true, true, true, true, true, true, true, true, true, true, true, true, true, true, true, true, true, true] rfl rfl (any_of HT_.out (by kernel_rfl)) (fun _ _ _ h => h) (Or.inl ⟨by rfl, ?_⟩) ?_ ?_
     rotate_left
     ·intro w'
      go_simp
      with_reducible rfl
     rotate_left
     ·simp only [Act.put, List.setIfInBounds_toArray, List.set_cons_zero, List.set_cons_succ, i64_w, i32_w]
      rfl
     refine done_ (done_of HT_.out (by kernel_rfl)) ?_
     try go_wp2
     go_ret
     exact ⟨by rfl, by repeat ((with_reducible exact HB.out))⟩
    ·rw [if_neg c20] at H
     have c20b0 : (t1110 == t1111) = false := by simpa using c20
     (try (have c20b1 : decide (t1110 = t1111) = false := by simpa using c20))
     (try (have c20b2 : (t1110 == t1111) = false := by simpa using c20))
     (try (have c20b3 : ¬ (t1110 = t1111) := by simpa using c20))
     clear c20
     obtain rfl := Option.some.inj H
     go_enter Try.func21, Try.ntmps21
     try go_wp2_with (first | ((with_reducible refine gate_dst (N := 4) rfl ?_); refine box_event ?hg (N := 4) ?hd (cs := #[.int .u8 a0_0, .int .i64 a0_1, .int .i64 a0_2, .int .i64 a0_3, .int .i64 a0_4, .int .i64 a0_5, .slice A0_6 l0_6.length c0_6]) (t := 26) ?hr ?_; (case hd => rfl); (case hg => rfl); (case hr => (go_simp; done)); intro gb1103 hg w33 hbox hb; have BK1103 := Aside0.mk (hbox); replace HB := Aside0.mk (below_step (by repeat ((with_reducible exact HB.out))) hb); clear hb hbox hg; have hcz34_0 : w33.cell? ⟨gb1103, 0, none⟩ = some (.int .u8 a0_0) := (blk_cell BK1103.out 0).trans rfl; have hcz34_1 : w33.cell? ⟨gb1103, 1, none⟩ = some (.int .i64 a0_1) := (blk_cell BK1103.out 1).trans rfl; have hcz34_2 : w33.cell? ⟨gb1103, 2, none⟩ = some (.int .i64 a0_2) := (blk_cell BK1103.out 2).trans rfl; have hcz34_3 : w33.cell? ⟨gb1103, 3, none⟩ = some (.int .i64 a0_3) := (blk_cell BK1103.out 3).trans rfl; have hcz34_4 : w33.cell? ⟨gb1103, 4, none⟩ = some (.int .i64 a0_4) := (blk_cell BK1103.out 4).trans rfl; have hcz34_5 : w33.cell? ⟨gb1103, 5, none⟩ = some (.int .i64 a0_5) := (blk_cell BK1103.out 5).trans rfl; have hcz34_6 : w33.cell? ⟨gb1103, 6, none⟩ = some (.slice A0_6 l0_6.length c0_6) := (blk_cell BK1103.out 6).trans rfl; have hfz34_0 := blk_frozen BK1103.out 0; have hfz34_1 := blk_frozen BK1103.out 1; have hfz34_2 := blk_frozen BK1103.out 2; have hfz34_3 := blk_frozen BK1103.out 3; have hfz34_4 := blk_frozen BK1103.out 4; have hfz34_5 := blk_frozen BK1103.out 5; have hfz34_6 := blk_frozen BK1103.out 6) | ((with_reducible refine gate_callee (f := 34) rfl ?_); refine goesL_ (some 10) rfl rfl Try.func34 (by kernel_rfl) rfl #[.agg #[.int .u8 a0_0, .int .i64 a0_1, .int .i64 a0_2, .int .i64 a0_3, .int .i64 a0_4, .int .i64 a0_5, .slice A0_6 l0_6.length c0_6]] rfl (by (try simp only [List.map_toArray, List.map_cons, List.map_nil]); rfl) ?_; (with_reducible refine (sashref05_Great.calls k a0_0 a0_1 a0_2 a0_3 a0_4 a0_5 _ _ l0_6 false _ ?side1 ?side2 A5.out).mono ?_); (case side1 => repeat (exact (Kd.C_below HR0_6.out HB.out))); (case side2 => exact HC0_6.out); rintro e w35 ⟨rfl, hb⟩; refine ⟨_, rfl, ?_⟩; replace BK1103 := Aside0.mk (blk_below BK1103.out hb); replace HB := Aside0.mk (below_step (by repeat ((with_reducible exact HB.out))) hb); (try clear hb)))
     replace BK1103 := Aside0.mk (blk_drew BK1103.out); replace HB := Aside0.mk (below_drew1 HB.out)
     refine start_ (n := 31) (S := fun w' => w'.cell? ⟨gb1103, 0, none⟩ = some (.int .u8 a0_0) ∧ w'.cell? ⟨gb1103, 1, none⟩ = some (.int .i64 a0_1) ∧ w'.cell? ⟨gb1103, 2, none⟩ = some (.int .i64 a0_2) ∧ w'.cell? ⟨gb1103, 3, none⟩ = some (.int .i64 a0_3) ∧ w'.cell? ⟨gb1103, 4, none⟩ = some (.int .i64 a0_4) ∧ w'.cell? ⟨gb1103, 5, none⟩ = some (.int .i64 a0_5) ∧ w'.cell? ⟨gb1103, 6, none⟩ = some (.slice A0_6 l0_6.length c0_6)) (ds := []) #[false, false, false, false, false, false, false, false, false, false, false, false, false, false, false, false, false, false, false, false, false, false, false, false, false, false, false, false, false, false, false] (by kernel_rfl) rfl rfl ⟨(blk_cell BK1103.out 0).trans rfl, (blk_cell BK1103.out 1).trans rfl, (blk_cell BK1103.out 2).trans rfl, (blk_cell BK1103.out 3).trans rfl, (blk_cell BK1103.out 4).trans rfl, (blk_cell BK1103.out 5).trans rfl, (blk_cell BK1103.out 6).trans rfl⟩ (fun hHeld => ?_); refine with_tabW sashlaw08_LeastIs.tab3 sashlaw08_LeastIs.bits3 (fun HT_ HW_ => ?_)
     generalize w35.drew = w36 at BK1103 HB hHeld ⊢
     refine pure_ (i := 1) (N := some 13) (v := ?_) (a' := ?_) #[false, true, false, false, false, false, false, false, false, false, false, false, false, false, false, false, false, false, false, false, false, false, false, false, false, false, false, false, false, false, false] rfl rfl (any_of HT_.out (by kernel_rfl)) (fun _ _ _ h => h) (Or.inl ⟨by rfl, ?_⟩) ?_ ?_
     rotate_left
     ·intro w'
      go_simp
      with_reducible rfl
     rotate_left
     ·simp only [Act.put, List.setIfInBounds_toArray, List.set_cons_zero, List.set_cons_succ, i64_w, i32_w]
      rfl
     refine pure_ (i := 4) (N := some 16) (v := ?_) (a' := ?_) #[false, true, false, false, true, false, false, false, false, false, false, false, false, false, false, false, false, false, false, false, false, false, false, false, false, false, false, false, false, false, false] rfl rfl (any_of HT_.out (by kernel_rfl)) (fun _ _ _ h => h) (Or.inl ⟨by rfl, ?_⟩) ?_ ?_
     rotate_left
     ·intro w'
      go_simp
      with_reducible rfl
     rotate_left
     ·simp only [Act.put, List.setIfInBounds_toArray, List.set_cons_zero, List.set_cons_succ, i64_w, i32_w]
      rfl
     refine take_ (i := 0) (N := some 12) (v := ?_) (a' := ?_) #[true, true, false, false, true, false, false, false, false, false, false, false, false, false, false, false, false, false, false, false, false, false, false, false, false, false, false, false, false, false, false] rfl rfl (take_ofW HT_.out HW_.out (by kernel_rfl)) (fun _ _ _ h => h) (Or.inl ⟨by rfl, ?_⟩) hHeld ?_ ?_
     rotate_left
     ·rintro w' ⟨s0, s1, s2, s3, s4, s5, s6⟩
      go_simp
      with_reducible rfl
     rotate_left
     ·simp only [Act.put, List.setIfInBounds_toArray, List.set_cons_zero, List.set_cons_succ, i64_w, i32_w]
      rfl
     refine take_ (i := 3) (N := some 15) (v := ?_) (a' := ?_) #[true, true, false, true, true, false, false, false, false, false, false, false, false, false, false, false, false, false, false, false, false, false, false, false, false, false, false, false, false, false, false] rfl rfl (take_ofW HT_.out HW_.out (by kernel_rfl)) (fun _ _ _ h => h) (Or.inl ⟨by rfl, ?_⟩) hHeld ?_ ?_
     rotate_left
     ·rintro w' ⟨s0, s1, s2, s3, s4, s5, s6⟩
      go_simp
      with_reducible rfl
     rotate_left
     ·simp only [Act.put, List.setIfInBounds_toArray, List.set_cons_zero, List.set_cons_succ, i64_w, i32_w]
      rfl
     refine one_ (i := 2) (N := some 14) #[true, true, true, true, true, false, false, false, false, false, false, false, false, false, false, false, false, false, false, false, false, false, false, false, false, false, false, false, false, false, false] rfl rfl (one_of HT_.out (by kernel_rfl)) (by decide) (fun K hK => ?_)
     refine goes_ Try.func93 (by kernel_rfl) rfl #[.agg #[.int .u8 a0_0, .int .i64 a0_1, .int .i64 a0_2, .int .i64 a0_3, .int .i64 a0_4, .int .i64 a0_5, .slice A0_6 l0_6.length c0_6], .int .u8 a1] (by rfl) rfl rfl (by (try simp only [List.map_toArray, List.map_cons, List.map_nil]); rfl) ?_
     with_reducible refine (least_Least.calls k a0_0 a0_1 a0_2 a0_3 a0_4 a0_5 (fun k_ => k_ < w.heap.size) _ _ l0_6 a1 t1106 _ ?side1 A12.out).mono ?_
     (case side1 => exact Kd.V_mk HC0_6.out (Kd.F_below (Kd.C_F k26_heap HR0_6.out) (by repeat ((with_reducible exact HB.out)))))
     rintro e w37 ⟨rfl, hb⟩
     refine ⟨_, rfl, ?_⟩
     replace BK1103 := Aside0.mk (blk_below BK1103.out hb); replace HB := Aside0.mk (below_step (by repeat ((with_reducible exact HB.out))) hb)
     (try clear hb)
     (skip)
     (skip)
     (skip)
     refine hK.out _ _ ⟨(blk_cell BK1103.out 0).trans rfl, (blk_cell BK1103.out 1).trans rfl, (blk_cell BK1103.out 2).trans rfl, (blk_cell BK1103.out 3).trans rfl, (blk_cell BK1103.out 4).trans rfl, (blk_cell BK1103.out 5).trans rfl, (blk_cell BK1103.out 6).trans rfl⟩ (fun hHeld => ?_)
     clear hK K
     refine norm_ (a' := ?_) ?_ ?_
     rotate_left
     ·show Act.put _ (some 14) _ = _
      simp only [Act.put, List.setIfInBounds_toArray, List.set_cons_zero, List.set_cons_succ, i64_w, i32_w]
      rfl
     refine one_ (i := 5) (N := some 17) #[true, true, true, true, true, true, false, false, false, false, false, false, false, false, false, false, false, false, false, false, false, false, false, false, false, false, false, false, false, false, false] rfl rfl (one_of HT_.out (by kernel_rfl)) (by decide) (fun K hK => ?_)
     refine goes_ Try.func94 (by kernel_rfl) rfl #[.agg #[.int .u8 a0_0, .int .i64 a0_1, .int .i64 a0_2, .int .i64 a0_3, .int .i64 a0_4, .int .i64 a0_5, .slice A0_6 l0_6.length c0_6], .int .u8 a1] (by rfl) rfl rfl (by (try simp only [List.map_toArray, List.map_cons, List.map_nil]); rfl) ?_
     with_reducible refine (sashref08_Least.calls k a0_0 a0_1 a0_2 a0_3 a0_4 a0_5 _ _ l0_6 a1 t1107 _ ?side1 ?side2 A13.out).mono ?_
     (case side1 => repeat (exact (Kd.C_below HR0_6.out HB.out)))
     (case side2 => exact HC0_6.out)
     rintro e w38 ⟨rfl, hb⟩
     refine ⟨_, rfl, ?_⟩
     replace BK1103 := Aside0.mk (blk_below BK1103.out hb); replace HB := Aside0.mk (below_step (by repeat ((with_reducible exact HB.out))) hb)
     (try clear hb)
     (skip)
     (skip)
     (skip)
     refine hK.out _ _ ⟨(blk_cell BK1103.out 0).trans rfl, (blk_cell BK1103.out 1).trans rfl, (blk_cell BK1103.out 2).trans rfl, (blk_cell BK1103.out 3).trans rfl, (blk_cell BK1103.out 4).trans rfl, (blk_cell BK1103.out 5).trans rfl, (blk_cell BK1103.out 6).trans rfl⟩ (fun hHeld => ?_)
     clear hK K
     refine norm_ (a' := ?_) ?_ ?_
     rotate_left
     ·show Act.put _ (some 17) _ = _
      simp only [Act.put, List.setIfInBounds_toArray, List.set_cons_zero, List.set_cons_succ, i64_w, i32_w]
      rfl
     refine pure_ (i := 6) (N := some 18) (v := ?_) (a' := ?_) #[true, true, true, true, true, true, true, false, false, false, false, false, false, false, false, false, false, false, false, false, false, false, false, false, false, false, false, false, false, false, false] rfl rfl (any_of HT_.out (by kernel_rfl)) (fun _ _ _ h => h) (Or.inl ⟨by rfl, ?_⟩) ?_ ?_
     rotate_left
     ·intro w'
      go_simp
      with_reducible rfl
     rotate_left
     ·simp only [Act.put, List.setIfInBounds_toArray, List.set_cons_zero, List.set_cons_succ, i64_w, i32_w]
      rfl
     refine pure_ (i := 7) (N := some 19) (v := ?_) (a' := ?_) #[true, true, true, true, true, true, true, true, false, false, false, false, false, false, false, false, false, false, false, false, false, false, false, false, false, false, false, false, false, false, false] rfl rfl (any_of HT_.out (by kernel_rfl)) (fun _ _ _ h => h) (Or.inl ⟨by rfl, ?_⟩) ?_ ?_
     rotate_left
     ·intro w'
      go_simp
      with_reducible rfl
     rotate_left
     ·simp only [Act.put, List.setIfInBounds_toArray, List.set_cons_zero, List.set_cons_succ, i64_w, i32_w]
      rfl
     refine pure_ (i := 9) (N := some 21) (v := ?_) (a' := ?_) #[true, true, true, true, true, true, true, true, false, true, false, false, false, false, false, false, false, false, false, false, false, false, false, false, false, false, false, false, false, false, false] rfl rfl (any_of HT_.out (by kernel_rfl)) (fun _ _ _ h => h) (Or.inl ⟨by rfl, ?_⟩) ?_ ?_
     rotate_left
     ·intro w'
      go_simp
      with_reducible rfl
     rotate_left
     ·simp only [Act.put, List.setIfInBounds_toArray, List.set_cons_zero, List.set_cons_succ, i64_w, i32_w]
      rfl
     refine pure_ (i := 12) (N := some 24) (v := ?_) (a' := ?_) #[true, true, true, true, true, true, true, true, false, true, false, false, true, false, false, false, false, false, false, false, false, false, false, false, false, false, false, false, false, false, false] rfl rfl (any_of HT_.out (by kernel_rfl)) (fun _ _ _ h => h) (Or.inl ⟨by rfl, ?_⟩) ?_ ?_
     rotate_left
     ·intro w'
      go_simp
      with_reducible rfl
     rotate_left
     ·simp only [Act.put, List.setIfInBounds_toArray, List.set_cons_zero, List.set_cons_succ, i64_w, i32_w]
      rfl
     refine take_ (i := 8) (N := some 20) (v := ?_) (a' := ?_) #[true, true, true, true, true, true, true, true, true, true, false, false, true, false, false, false, false, false, false, false, false, false, false, false, false, false, false, false, false, false, false] rfl rfl (take_ofW HT_.out HW_.out (by kernel_rfl)) (fun _ _ _ h => h) (Or.inl ⟨by rfl, ?_⟩) hHeld ?_ ?_
     rotate_left
     ·rintro w' ⟨s0, s1, s2, s3, s4, s5, s6⟩
      go_simp
      with_reducible rfl
     rotate_left
     ·simp only [Act.put, List.setIfInBounds_toArray, List.set_cons_zero, List.set_cons_succ, i64_w, i32_w]
      rfl
     refine take_ (i := 11) (N := some 23) (v := ?_) (a' := ?_) #[true, true, true, true, true, true, true, true, true, true, false, true, true, false, false, false, false, false, false, false, false, false, false, false, false, false, false, false, false, false, false] rfl rfl (take_ofW HT_.out HW_.out (by kernel_rfl)) (fun _ _ _ h => h) (Or.inl ⟨by rfl, ?_⟩) hHeld ?_ ?_
     rotate_left
     ·rintro w' ⟨s0, s1, s2, s3, s4, s5, s6⟩
      go_simp
      with_reducible rfl
     rotate_left
     ·simp only [Act.put, List.setIfInBounds_toArray, List.set_cons_zero, List.set_cons_succ, i64_w, i32_w]
      rfl
     refine one_ (i := 10) (N := some 22) #[true, true, true, true, true, true, true, true, true, true, true, true, true, false, false, false, false, false, false, false, false, false, false, false, false, false, false, false, false, false, false] rfl rfl (one_of HT_.out (by kernel_rfl)) (by decide) (fun K hK => ?_)
     refine goes_ Try.func86 (by kernel_rfl) rfl #[.agg #[.int .u8 a0_0, .int .i64 a0_1, .int .i64 a0_2, .int .i64 a0_3, .int .i64 a0_4, .int .i64 a0_5, .slice A0_6 l0_6.length c0_6], .int .u8 a1] (by rfl) rfl rfl (by (try simp only [List.map_toArray, List.map_cons, List.map_nil]); rfl) ?_
     with_reducible refine (least_Gives.calls k a0_0 a0_1 a0_2 a0_3 a0_4 a0_5 (fun k_ => k_ < w.heap.size) _ _ l0_6 a1 t1108 _ ?side1 A15.out).mono ?_
     (case side1 => exact Kd.V_mk HC0_6.out (Kd.F_below (Kd.C_F k26_heap HR0_6.out) (by repeat ((with_reducible exact HB.out)))))
     rintro e w39 ⟨rfl, hb⟩
     refine ⟨_, rfl, ?_⟩
     replace BK1103 := Aside0.mk (blk_below BK1103.out hb); replace HB := Aside0.mk (below_step (by repeat ((with_reducible exact HB.out))) hb)
     (try clear hb)
     (skip)
     (skip)
     (skip)
     refine hK.out _ _ ⟨(blk_cell BK1103.out 0).trans rfl, (blk_cell BK1103.out 1).trans rfl, (blk_cell BK1103.out 2).trans rfl, (blk_cell BK1103.out 3).trans rfl, (blk_cell BK1103.out 4).trans rfl, (blk_cell BK1103.out 5).trans rfl, (blk_cell BK1103.out 6).trans rfl⟩ (fun hHeld => ?_)
     clear hK K
     refine norm_ (a' := ?_) ?_ ?_
     rotate_left
     ·show Act.put _ (some 22) _ = _
      simp only [Act.put, List.setIfInBounds_toArray, List.set_cons_zero, List.set_cons_succ, i64_w, i32_w]
      rfl
     refine one_ (i := 13) (N := some 25) #[true, true, true, true, true, true, true, true, true, true, true, true, true, true, false, false, false, false, false, false, false, false, false, false, false, false, false, false, false, false, false] rfl rfl (one_of HT_.out (by kernel_rfl)) (by decide) (fun K hK => ?_)
     refine goes_ Try.func95 (by kernel_rfl) rfl #[.agg #[.int .u8 a0_0, .int .i64 a0_1, .int .i64 a0_2, .int .i64 a0_3, .int .i64 a0_4, .int .i64 a0_5, .slice A0_6 l0_6.length c0_6], .int .u8 a1] (by rfl) rfl rfl (by (try simp only [List.map_toArray, List.map_cons, List.map_nil]); rfl) ?_
     with_reducible refine (sashref08_Gives.calls k a0_0 a0_1 a0_2 a0_3 a0_4 a0_5 _ _ l0_6 a1 t1109 _ ?side1 ?side2 A16.out).mono ?_
     (case side1 => repeat (exact (Kd.C_below HR0_6.out HB.out)))
     (case side2 => exact HC0_6.out)
     rintro e w40 ⟨rfl, hb⟩
     refine ⟨_, rfl, ?_⟩
     replace BK1103 := Aside0.mk (blk_below BK1103.out hb); replace HB := Aside0.mk (below_step (by repeat ((with_reducible exact HB.out))) hb)
     (try clear hb)
     (skip)
     (skip)
     (skip)
     refine hK.out _ _ ⟨(blk_cell BK1103.out 0).trans rfl, (blk_cell BK1103.out 1).trans rfl, (blk_cell BK1103.out 2).trans rfl, (blk_cell BK1103.out 3).trans rfl, (blk_cell BK1103.out 4).trans rfl, (blk_cell BK1103.out 5).trans rfl, (blk_cell BK1103.out 6).trans rfl⟩ (fun hHeld => ?_)
     clear hK K
     refine norm_ (a' := ?_) ?_ ?_
     rotate_left
     ·show Act.put _ (some 25) _ = _
      simp only [Act.put, List.setIfInBounds_toArray, List.set_cons_zero, List.set_cons_succ, i64_w, i32_w]
      rfl
     refine pure_ (i := 14) (N := some 26) (v := ?_) (a' := ?_) #[true, true, true, true, true, true, true, true, true, true, true, true, true, true, true, false, false, false, false, false, false, false, false, false, false, false, false, false, false, false, false] rfl rfl (any_of HT_.out (by kernel_rfl)) (fun _ _ _ h => h) (Or.inl ⟨by rfl, ?_⟩) ?_ ?_
     rotate_left
     ·intro w'
      go_simp
      with_reducible rfl
     rotate_left
     ·simp only [Act.put, List.setIfInBounds_toArray, List.set_cons_zero, List.set_cons_succ, i64_w, i32_w]
      rfl
     refine pure_ (i := 15) (N := some 27) (v := ?_) (a' := ?_) #[true, true, true, true, true, true, true, true, true, true, true, true, true, true, true, true, false, false, false, false, false, false, false, false, false, false, false, false, false, false, false] rfl rfl (any_of HT_.out (by kernel_rfl)) (fun _ _ _ h => h) (Or.inl ⟨by rfl, ?_⟩) ?_ ?_
     rotate_left
     ·intro w'
      go_simp
      with_reducible rfl
     rotate_left
     ·simp only [Act.put, List.setIfInBounds_toArray, List.set_cons_zero, List.set_cons_succ, i64_w, i32_w]
      rfl
     refine pure_ (i := 16) (N := some 28) (v := ?_) (a' := ?_) #[true, true, true, true, true, true, true, true, true, true, true, true, true, true, true, true, true, false, false, false, false, false, false, false, false, false, false, false, false, false, false] rfl rfl (any_of HT_.out (by kernel_rfl)) (fun _ _ _ h => h) (Or.inl ⟨by rfl, ?_⟩) ?_ ?_
     rotate_left
     ·intro w'
      go_simp
      with_reducible rfl
     rotate_left
     ·simp only [Act.put, List.setIfInBounds_toArray, List.set_cons_zero, List.set_cons_succ, i64_w, i32_w]
      rfl
     refine pure_ (i := 18) (N := some 30) (v := ?_) (a' := ?_) #[true, true, true, true, true, true, true, true, true, true, true, true, true, true, true, true, true, false, true, false, false, false, false, false, false, false, false, false, false, false, false] rfl rfl (any_of HT_.out (by kernel_rfl)) (fun _ _ _ h => h) (Or.inl ⟨by rfl, ?_⟩) ?_ ?_
     rotate_left
     ·intro w'
      go_simp
      with_reducible rfl
     rotate_left
     ·simp only [Act.put, List.setIfInBounds_toArray, List.set_cons_zero, List.set_cons_succ, i64_w, i32_w]
      rfl
     refine pure_ (i := 19) (N := some 31) (v := ?_) (a' := ?_) #[true, true, true, true, true, true, true, true, true, true, true, true, true, true, true, true, true, false, true, true, false, false, false, false, false, false, false, false, false, false, false] rfl rfl (any_of HT_.out (by kernel_rfl)) (fun _ _ _ h => h) (Or.inl ⟨by rfl, ?_⟩) ?_ ?_
     rotate_left
     ·intro w'
      go_simp
      with_reducible rfl
     rotate_left
     ·simp only [Act.put, List.setIfInBounds_toArray, List.set_cons_zero, List.set_cons_succ, i64_w, i32_w]
      rfl
     refine pure_ (i := 22) (N := some 34) (v := ?_) (a' := ?_) #[true, true, true, true, true, true, true, true, true, true, true, true, true, true, true, true, true, false, true, true, false, false, true, false, false, false, false, false, false, false, false] rfl rfl (any_of HT_.out (by kernel_rfl)) (fun _ _ _ h => h) (Or.inl ⟨by rfl, ?_⟩) ?_ ?_
     rotate_left
     ·intro w'
      go_simp
      with_reducible rfl
     rotate_left
     ·simp only [Act.put, List.setIfInBounds_toArray, List.set_cons_zero, List.set_cons_succ, i64_w, i32_w]
      rfl
     refine pure_ (i := 23) (N := some 35) (v := ?_) (a' := ?_) #[true, true, true, true, true, true, true, true, true, true, true, true, true, true, true, true, true, false, true, true, false, false, true, true, false, false, false, false, false, false, false] rfl rfl (any_of HT_.out (by kernel_rfl)) (fun _ _ _ h => h) (Or.inl ⟨by rfl, ?_⟩) ?_ ?_
     rotate_left
     ·intro w'
      go_simp
      with_reducible rfl
     rotate_left
     ·simp only [Act.put, List.setIfInBounds_toArray, List.set_cons_zero, List.set_cons_succ, i64_w, i32_w]
      rfl
     refine take_ (i := 17) (N := some 29) (v := ?_) (a' := ?_) #[true, true, true, true, true, true, true, true, true, true, true, true, true, true, true, true, true, true, true, true, false, false, true, true, false, false, false, false, false, false, false] rfl rfl (take_ofW HT_.out HW_.out (by kernel_rfl)) (fun _ _ _ h => h) (Or.inl ⟨by rfl, ?_⟩) hHeld ?_ ?_
     rotate_left
     ·rintro w' ⟨s0, s1, s2, s3, s4, s5, s6⟩
      go_simp
      with_reducible rfl
     rotate_left
     ·simp only [Act.put, List.setIfInBounds_toArray, List.set_cons_zero, List.set_cons_succ, i64_w, i32_w]
      rfl
     refine take_ (i := 21) (N := some 33) (v := ?_) (a' := ?_) #[true, true, true, true, true, true, true, true, true, true, true, true, true, true, true, true, true, true, true, true, false, true, true, true, false, false, false, false, false, false, false] rfl rfl (take_ofW HT_.out HW_.out (by kernel_rfl)) (fun _ _ _ h => h) (Or.inl ⟨by rfl, ?_⟩) hHeld ?_ ?_
     rotate_left
     ·rintro w' ⟨s0, s1, s2, s3, s4, s5, s6⟩
      go_simp
      with_reducible rfl
     rotate_left
     ·simp only [Act.put, List.setIfInBounds_toArray, List.set_cons_zero, List.set_cons_succ, i64_w, i32_w]
      rfl
     refine one_ (i := 20) (N := some 32) #[true, true, true, true, true, true, true, true, true, true, true, true, true, true, true, true, true, true, true, true, true, true, true, true, false, false, false, false, false, false, false] rfl rfl (one_of HT_.out (by kernel_rfl)) (by decide) (fun K hK => ?_)
     refine goes_ Try.func96 (by kernel_rfl) rfl #[.agg #[.int .u8 a0_0, .int .i64 a0_1, .int .i64 a0_2, .int .i64 a0_3, .int .i64 a0_4, .int .i64 a0_5, .slice A0_6 l0_6.length c0_6], .int .i64 a2, .int .i64 a3] (by rfl) rfl rfl (by (try simp only [List.map_toArray, List.map_cons, List.map_nil]); rfl) ?_
     with_reducible refine (least_Fits.calls k a0_0 a0_1 a0_2 a0_3 a0_4 a0_5 (fun k_ => k_ < w.heap.size) _ _ l0_6 a2 a3 t1110 _ ?side1 A18.out).mono ?_
     (case side1 => exact Kd.V_mk HC0_6.out (Kd.F_below (Kd.C_F k26_heap HR0_6.out) (by repeat ((with_reducible exact HB.out)))))
     rintro e w41 ⟨rfl, hb⟩
     refine ⟨_, rfl, ?_⟩
     replace BK1103 := Aside0.mk (blk_below BK1103.out hb); replace HB := Aside0.mk (below_step (by repeat ((with_reducible exact HB.out))) hb)
     (try clear hb)
     (skip)
     (skip)
     (skip)
     refine hK.out _ _ ⟨(blk_cell BK1103.out 0).trans rfl, (blk_cell BK1103.out 1).trans rfl, (blk_cell BK1103.out 2).trans rfl, (blk_cell BK1103.out 3).trans rfl, (blk_cell BK1103.out 4).trans rfl, (blk_cell BK1103.out 5).trans rfl, (blk_cell BK1103.out 6).trans rfl⟩ (fun hHeld => ?_)
     clear hK K
     refine norm_ (a' := ?_) ?_ ?_
     rotate_left
     ·show Act.put _ (some 32) _ = _
      simp only [Act.put, List.setIfInBounds_toArray, List.set_cons_zero, List.set_cons_succ, i64_w, i32_w]
      rfl
     refine one_ (i := 24) (N := some 36) #[true, true, true, true, true, true, true, true, true, true, true, true, true, true, true, true, true, true, true, true, true, true, true, true, true, false, false, false, false, false, false] rfl rfl (one_of HT_.out (by kernel_rfl)) (by decide) (fun K hK => ?_)
     refine goes_ Try.func97 (by kernel_rfl) rfl #[.agg #[.int .u8 a0_0, .int .i64 a0_1, .int .i64 a0_2, .int .i64 a0_3, .int .i64 a0_4, .int .i64 a0_5, .slice A0_6 l0_6.length c0_6], .int .i64 a2, .int .i64 a3] (by rfl) rfl rfl (by (try simp only [List.map_toArray, List.map_cons, List.map_nil]); rfl) ?_
     with_reducible refine (sashref08_Fits.calls k a0_0 a0_1 a0_2 a0_3 a0_4 a0_5 _ _ l0_6 a2 a3 t1111 _ ?side1 ?side2 A19.out).mono ?_
     (case side1 => repeat (exact (Kd.C_below HR0_6.out HB.out)))
     (case side2 => exact HC0_6.out)
     rintro e w42 ⟨rfl, hb⟩
     refine ⟨_, rfl, ?_⟩
     replace BK1103 := Aside0.mk (blk_below BK1103.out hb); replace HB := Aside0.mk (below_step (by repeat ((with_reducible exact HB.out))) hb)
     (try clear hb)
     (skip)
     (skip)
     (skip)
     refine hK.out _ _ ⟨(blk_cell BK1103.out 0).trans rfl, (blk_cell BK1103.out 1).trans rfl, (blk_cell BK1103.out 2).trans rfl, (blk_cell BK1103.out 3).trans rfl, (blk_cell BK1103.out 4).trans rfl, (blk_cell BK1103.out 5).trans rfl, (blk_cell BK1103.out 6).trans rfl⟩ (fun hHeld => ?_)
     clear hK K
     refine norm_ (a' := ?_) ?_ ?_
     rotate_left
     ·show Act.put _ (some 36) _ = _
      simp only [Act.put, List.setIfInBounds_toArray, List.set_cons_zero, List.set_cons_succ, i64_w, i32_w]
      rfl
     refine pure_ (i := 25) (N := some 37) (v := ?_) (a' := ?_) #[true, true, true, true, true, true, true, true, true, true, true, true, true, true, true, true, true, true, true, true, true, true, true, true, true, true, false, false, false, false, false] rfl rfl (any_of HT_.out (by kernel_rfl)) (fun _ _ _ h => h) (Or.inl ⟨by rfl, ?_⟩) ?_ ?_
     rotate_left
     ·intro w'
      go_simp
      with_reducible rfl
     rotate_left
     ·simp only [Act.put, List.setIfInBounds_toArray, List.set_cons_zero, List.set_cons_succ, i64_w, i32_w]
      rfl
     refine pure_ (i := 26) (N := some 38) (v := ?_) (a' := ?_) #[true, true, true, true, true, true, true, true, true, true, true, true, true, true, true, true, true, true, true, true, true, true, true, true, true, true, true, false, false, false, false] rfl rfl (any_of HT_.out (by kernel_rfl)) (fun _ _ _ h => h) (Or.inl ⟨by rfl, ?_⟩) ?_ ?_
     rotate_left
     ·intro w'
      go_simp
      with_reducible rfl
     rotate_left
     ·simp only [Act.put, List.setIfInBounds_toArray, List.set_cons_zero, List.set_cons_succ, i64_w, i32_w]
      rfl
     refine pure_ (i := 27) (N := some 39) (v := ?_) (a' := ?_) #[true, true, true, true, true, true, true, true, true, true, true, true, true, true, true, true, true, true, true, true, true, true, true, true, true, true, true, true, false, false, false] rfl rfl (any_of HT_.out (by kernel_rfl)) (fun _ _ _ h => h) (Or.inl ⟨by rfl, ?_⟩) ?_ ?_
     rotate_left
     ·intro w'
      go_simp
      with_reducible rfl
     rotate_left
     ·simp only [Act.put, List.setIfInBounds_toArray, List.set_cons_zero, List.set_cons_succ, i64_w, i32_w]
      rfl
     refine pure_ (i := 28) (N := some 40) (v := undef) (a' := ?_) #[true, true, true, true, true, true, true, true, true, true, true, true, true, true, true, true, true, true, true, true, true, true, true, true, true, true, true, true, true, false, false] rfl rfl (any_of HT_.out (by kernel_rfl)) (fun _ _ _ h => h) (Or.inr ⟨by rfl, rfl⟩) ?_ ?_
     rotate_left
     ·simp only [Act.put, List.setIfInBounds_toArray, List.set_cons_zero, List.set_cons_succ, i64_w, i32_w]
      rfl
     refine pure_ (i := 29) (N := some 41) (v := ?_) (a' := ?_) #[true, true, true, true, true, true, true, true, true, true, true, true, true, true, true, true, true, true, true, true, true, true, true, true, true, true, true, true, true, true, false] rfl rfl (any_of HT_.out (by kernel_rfl)) (fun _ _ _ h => h) (Or.inl ⟨by rfl, ?_⟩) ?_ ?_
     rotate_left
     ·intro w'
      go_simp
      with_reducible rfl
     rotate_left
     ·simp only [Act.put, List.setIfInBounds_toArray, List.set_cons_zero, List.set_cons_succ, i64_w, i32_w]
      rfl
     refine pure_ (i := 30) (N := some 8) (v := ?_) (a' := ?_) #[true, true, true, true, true, true, true, true, true, true, true, true, true, true, true, true, true, true, true, true, true, true, true, true, true, true, true, true, true, true, true] rfl rfl (any_of HT_.out (by kernel_rfl)) (fun _ _ _ h => h) (Or.inl ⟨by rfl, ?_⟩) ?_ ?_
     rotate_left
     ·intro w'
      go_simp
      with_reducible rfl
     rotate_left
     ·simp only [Act.put, List.setIfInBounds_toArray, List.set_cons_zero, List.set_cons_succ, i64_w, i32_w]
      rfl
     refine done_ (done_of HT_.out (by kernel_rfl)) ?_
     try go_wp2
     go_ret
     exact ⟨by rfl, by repeat ((with_reducible exact HB.out))⟩
   ·rw [if_neg c17] at H
    have c17b0 : (t1108 == t1109) = false := beq_eq_false_iff_ne.mpr c17
    have c17b1 : (t1108 != t1109) = true := bne_iff_ne.mpr c17
    obtain rfl := Option.some.inj H
    go_enter Try.func21, Try.ntmps21
    try go_wp2_with (first | ((with_reducible refine gate_dst (N := 4) rfl ?_); refine box_event ?hg (N := 4) ?hd (cs := #[.int .u8 a0_0, .int .i64 a0_1, .int .i64 a0_2, .int .i64 a0_3, .int .i64 a0_4, .int .i64 a0_5, .slice A0_6 l0_6.length c0_6]) (t := 26) ?hr ?_; (case hd => rfl); (case hg => rfl); (case hr => (go_simp; done)); intro gb1103 hg w43 hbox hb; have BK1103 := Aside0.mk (hbox); replace HB := Aside0.mk (below_step (by repeat ((with_reducible exact HB.out))) hb); clear hb hbox hg; have hcz44_0 : w43.cell? ⟨gb1103, 0, none⟩ = some (.int .u8 a0_0) := (blk_cell BK1103.out 0).trans rfl; have hcz44_1 : w43.cell? ⟨gb1103, 1, none⟩ = some (.int .i64 a0_1) := (blk_cell BK1103.out 1).trans rfl; have hcz44_2 : w43.cell? ⟨gb1103, 2, none⟩ = some (.int .i64 a0_2) := (blk_cell BK1103.out 2).trans rfl; have hcz44_3 : w43.cell? ⟨gb1103, 3, none⟩ = some (.int .i64 a0_3) := (blk_cell BK1103.out 3).trans rfl; have hcz44_4 : w43.cell? ⟨gb1103, 4, none⟩ = some (.int .i64 a0_4) := (blk_cell BK1103.out 4).trans rfl; have hcz44_5 : w43.cell? ⟨gb1103, 5, none⟩ = some (.int .i64 a0_5) := (blk_cell BK1103.out 5).trans rfl; have hcz44_6 : w43.cell? ⟨gb1103, 6, none⟩ = some (.slice A0_6 l0_6.length c0_6) := (blk_cell BK1103.out 6).trans rfl; have hfz44_0 := blk_frozen BK1103.out 0; have hfz44_1 := blk_frozen BK1103.out 1; have hfz44_2 := blk_frozen BK1103.out 2; have hfz44_3 := blk_frozen BK1103.out 3; have hfz44_4 := blk_frozen BK1103.out 4; have hfz44_5 := blk_frozen BK1103.out 5; have hfz44_6 := blk_frozen BK1103.out 6) | ((with_reducible refine gate_callee (f := 34) rfl ?_); refine goesL_ (some 10) rfl rfl Try.func34 (by kernel_rfl) rfl #[.agg #[.int .u8 a0_0, .int .i64 a0_1, .int .i64 a0_2, .int .i64 a0_3, .int .i64 a0_4, .int .i64 a0_5, .slice A0_6 l0_6.length c0_6]] rfl (by (try simp only [List.map_toArray, List.map_cons, List.map_nil]); rfl) ?_; (with_reducible refine (sashref05_Great.calls k a0_0 a0_1 a0_2 a0_3 a0_4 a0_5 _ _ l0_6 false _ ?side1 ?side2 A5.out).mono ?_); (case side1 => repeat (exact (Kd.C_below HR0_6.out HB.out))); (case side2 => exact HC0_6.out); rintro e w45 ⟨rfl, hb⟩; refine ⟨_, rfl, ?_⟩; replace BK1103 := Aside0.mk (blk_below BK1103.out hb); replace HB := Aside0.mk (below_step (by repeat ((with_reducible exact HB.out))) hb); (try clear hb)))
    replace BK1103 := Aside0.mk (blk_drew BK1103.out); replace HB := Aside0.mk (below_drew1 HB.out)
    refine start_ (n := 31) (S := fun w' => w'.cell? ⟨gb1103, 0, none⟩ = some (.int .u8 a0_0) ∧ w'.cell? ⟨gb1103, 1, none⟩ = some (.int .i64 a0_1) ∧ w'.cell? ⟨gb1103, 2, none⟩ = some (.int .i64 a0_2) ∧ w'.cell? ⟨gb1103, 3, none⟩ = some (.int .i64 a0_3) ∧ w'.cell? ⟨gb1103, 4, none⟩ = some (.int .i64 a0_4) ∧ w'.cell? ⟨gb1103, 5, none⟩ = some (.int .i64 a0_5) ∧ w'.cell? ⟨gb1103, 6, none⟩ = some (.slice A0_6 l0_6.length c0_6)) (ds := []) #[false, false, false, false, false, false, false, false, false, false, false, false, false, false, false, false, false, false, false, false, false, false, false, false, false, false, false, false, false, false, false] (by kernel_rfl) rfl rfl ⟨(blk_cell BK1103.out 0).trans rfl, (blk_cell BK1103.out 1).trans rfl, (blk_cell BK1103.out 2).trans rfl, (blk_cell BK1103.out 3).trans rfl, (blk_cell BK1103.out 4).trans rfl, (blk_cell BK1103.out 5).trans rfl, (blk_cell BK1103.out 6).trans rfl⟩ (fun hHeld => ?_); refine with_tabW sashlaw08_LeastIs.tab3 sashlaw08_LeastIs.bits3 (fun HT_ HW_ => ?_)
    generalize w45.drew = w46 at BK1103 HB hHeld ⊢
    refine pure_ (i := 1) (N := some 13) (v := ?_) (a' := ?_) #[false, true, false, false, false, false, false, false, false, false, false, false, false, false, false, false, false, false, false, false, false, false, false, false, false, false, false, false, false, false, false] rfl rfl (any_of HT_.out (by kernel_rfl)) (fun _ _ _ h => h) (Or.inl ⟨by rfl, ?_⟩) ?_ ?_
    rotate_left
    ·intro w'
     go_simp
     with_reducible rfl
    rotate_left
    ·simp only [Act.put, List.setIfInBounds_toArray, List.set_cons_zero, List.set_cons_succ, i64_w, i32_w]
     rfl
    refine pure_ (i := 4) (N := some 16) (v := ?_) (a' := ?_) #[false, true, false, false, true, false, false, false, false, false, false, false, false, false, false, false, false, false, false, false, false, false, false, false, false, false, false, false, false, false, false] rfl rfl (any_of HT_.out (by kernel_rfl)) (fun _ _ _ h => h) (Or.inl ⟨by rfl, ?_⟩) ?_ ?_
    rotate_left
    ·intro w'
     go_simp
     with_reducible rfl
    rotate_left
    ·simp only [Act.put, List.setIfInBounds_toArray, List.set_cons_zero, List.set_cons_succ, i64_w, i32_w]
     rfl
    refine take_ (i := 0) (N := some 12) (v := ?_) (a' := ?_) #[true, true, false, false, true, false, false, false, false, false, false, false, false, false, false, false, false, false, false, false, false, false, false, false, false, false, false, false, false, false, false] rfl rfl (take_ofW HT_.out HW_.out (by kernel_rfl)) (fun _ _ _ h => h) (Or.inl ⟨by rfl, ?_⟩) hHeld ?_ ?_
    rotate_left
    ·rintro w' ⟨s0, s1, s2, s3, s4, s5, s6⟩
     go_simp
     with_reducible rfl
    rotate_left
    ·simp only [Act.put, List.setIfInBounds_toArray, List.set_cons_zero, List.set_cons_succ, i64_w, i32_w]
     rfl
    refine take_ (i := 3) (N := some 15) (v := ?_) (a' := ?_) #[true, true, false, true, true, false, false, false, false, false, false, false, false, false, false, false, false, false, false, false, false, false, false, false, false, false, false, false, false, false, false] rfl rfl (take_ofW HT_.out HW_.out (by kernel_rfl)) (fun _ _ _ h => h) (Or.inl ⟨by rfl, ?_⟩) hHeld ?_ ?_
    rotate_left
    ·rintro w' ⟨s0, s1, s2, s3, s4, s5, s6⟩
     go_simp
     with_reducible rfl
    rotate_left
    ·simp only [Act.put, List.setIfInBounds_toArray, List.set_cons_zero, List.set_cons_succ, i64_w, i32_w]
     rfl
    refine one_ (i := 2) (N := some 14) #[true, true, true, true, true, false, false, false, false, false, false, false, false, false, false, false, false, false, false, false, false, false, false, false, false, false, false, false, false, false, false] rfl rfl (one_of HT_.out (by kernel_rfl)) (by decide) (fun K hK => ?_)
    refine goes_ Try.func93 (by kernel_rfl) rfl #[.agg #[.int .u8 a0_0, .int .i64 a0_1, .int .i64 a0_2, .int .i64 a0_3, .int .i64 a0_4, .int .i64 a0_5, .slice A0_6 l0_6.length c0_6], .int .u8 a1] (by rfl) rfl rfl (by (try simp only [List.map_toArray, List.map_cons, List.map_nil]); rfl) ?_
    with_reducible refine (least_Least.calls k a0_0 a0_1 a0_2 a0_3 a0_4 a0_5 (fun k_ => k_ < w.heap.size) _ _ l0_6 a1 t1106 _ ?side1 A12.out).mono ?_
    (case side1 => exact Kd.V_mk HC0_6.out (Kd.F_below (Kd.C_F k26_heap HR0_6.out) (by repeat ((with_reducible exact HB.out)))))
    rintro e w47 ⟨rfl, hb⟩
    refine ⟨_, rfl, ?_⟩
    replace BK1103 := Aside0.mk (blk_below BK1103.out hb); replace HB := Aside0.mk (below_step (by repeat ((with_reducible exact HB.out))) hb)
    (try clear hb)
    (skip)
    (skip)
    (skip)
    refine hK.out _ _ ⟨(blk_cell BK1103.out 0).trans rfl, (blk_cell BK1103.out 1).trans rfl, (blk_cell BK1103.out 2).trans rfl, (blk_cell BK1103.out 3).trans rfl, (blk_cell BK1103.out 4).trans rfl, (blk_cell BK1103.out 5).trans rfl, (blk_cell BK1103.out 6).trans rfl⟩ (fun hHeld => ?_)
    clear hK K
    refine norm_ (a' := ?_) ?_ ?_
    rotate_left
    ·show Act.put _ (some 14) _ = _
     simp only [Act.put, List.setIfInBounds_toArray, List.set_cons_zero, List.set_cons_succ, i64_w, i32_w]
     rfl
    refine one_ (i := 5) (N := some 17) #[true, true, true, true, true, true, false, false, false, false, false, false, false, false, false, false, false, false, false, false, false, false, false, false, false, false, false, false, false, false, false] rfl rfl (one_of HT_.out (by kernel_rfl)) (by decide) (fun K hK => ?_)
    refine goes_ Try.func94 (by kernel_rfl) rfl #[.agg #[.int .u8 a0_0, .int .i64 a0_1, .int .i64 a0_2, .int .i64 a0_3, .int .i64 a0_4, .int .i64 a0_5, .slice A0_6 l0_6.length c0_6], .int .u8 a1] (by rfl) rfl rfl (by (try simp only [List.map_toArray, List.map_cons, List.map_nil]); rfl) ?_
    with_reducible refine (sashref08_Least.calls k a0_0 a0_1 a0_2 a0_3 a0_4 a0_5 _ _ l0_6 a1 t1107 _ ?side1 ?side2 A13.out).mono ?_
    (case side1 => repeat (exact (Kd.C_below HR0_6.out HB.out)))
    (case side2 => exact HC0_6.out)
    rintro e w48 ⟨rfl, hb⟩
    refine ⟨_, rfl, ?_⟩
    replace BK1103 := Aside0.mk (blk_below BK1103.out hb); replace HB := Aside0.mk (below_step (by repeat ((with_reducible exact HB.out))) hb)
    (try clear hb)
    (skip)
    (skip)
    (skip)
    refine hK.out _ _ ⟨(blk_cell BK1103.out 0).trans rfl, (blk_cell BK1103.out 1).trans rfl, (blk_cell BK1103.out 2).trans rfl, (blk_cell BK1103.out 3).trans rfl, (blk_cell BK1103.out 4).trans rfl, (blk_cell BK1103.out 5).trans rfl, (blk_cell BK1103.out 6).trans rfl⟩ (fun hHeld => ?_)
    clear hK K
    refine norm_ (a' := ?_) ?_ ?_
    rotate_left
    ·show Act.put _ (some 17) _ = _
     simp only [Act.put, List.setIfInBounds_toArray, List.set_cons_zero, List.set_cons_succ, i64_w, i32_w]
     rfl
    refine pure_ (i := 6) (N := some 18) (v := ?_) (a' := ?_) #[true, true, true, true, true, true, true, false, false, false, false, false, false, false, false, false, false, false, false, false, false, false, false, false, false, false, false, false, false, false, false] rfl rfl (any_of HT_.out (by kernel_rfl)) (fun _ _ _ h => h) (Or.inl ⟨by rfl, ?_⟩) ?_ ?_
    rotate_left
    ·intro w'
     go_simp
     with_reducible rfl
    rotate_left
    ·simp only [Act.put, List.setIfInBounds_toArray, List.set_cons_zero, List.set_cons_succ, i64_w, i32_w]
     rfl
    refine pure_ (i := 7) (N := some 19) (v := ?_) (a' := ?_) #[true, true, true, true, true, true, true, true, false, false, false, false, false, false, false, false, false, false, false, false, false, false, false, false, false, false, false, false, false, false, false] rfl rfl (any_of HT_.out (by kernel_rfl)) (fun _ _ _ h => h) (Or.inl ⟨by rfl, ?_⟩) ?_ ?_
    rotate_left
    ·intro w'
     go_simp
     with_reducible rfl
    rotate_left
    ·simp only [Act.put, List.setIfInBounds_toArray, List.set_cons_zero, List.set_cons_succ, i64_w, i32_w]
     rfl
    refine pure_ (i := 9) (N := some 21) (v := ?_) (a' := ?_) #[true, true, true, true, true, true, true, true, false, true, false, false, false, false, false, false, false, false, false, false, false, false, false, false, false, false, false, false, false, false, false] rfl rfl (any_of HT_.out (by kernel_rfl)) (fun _ _ _ h => h) (Or.inl ⟨by rfl, ?_⟩) ?_ ?_
    rotate_left
    ·intro w'
     go_simp
     with_reducible rfl
    rotate_left
    ·simp only [Act.put, List.setIfInBounds_toArray, List.set_cons_zero, List.set_cons_succ, i64_w, i32_w]
     rfl
    refine pure_ (i := 12) (N := some 24) (v := ?_) (a' := ?_) #[true, true, true, true, true, true, true, true, false, true, false, false, true, false, false, false, false, false, false, false, false, false, false, false, false, false, false, false, false, false, false] rfl rfl (any_of HT_.out (by kernel_rfl)) (fun _ _ _ h => h) (Or.inl ⟨by rfl, ?_⟩) ?_ ?_
    rotate_left
    ·intro w'
     go_simp
     with_reducible rfl
    rotate_left
    ·simp only [Act.put, List.setIfInBounds_toArray, List.set_cons_zero, List.set_cons_succ, i64_w, i32_w]
     rfl
    refine take_ (i := 8) (N := some 20) (v := ?_) (a' := ?_) #[true, true, true, true, true, true, true, true, true, true, false, false, true, false, false, false, false, false, false, false, false, false, false, false, false, false, false, false, false, false, false] rfl rfl (take_ofW HT_.out HW_.out (by kernel_rfl)) (fun _ _ _ h => h) (Or.inl ⟨by rfl, ?_⟩) hHeld ?_ ?_
    rotate_left
    ·rintro w' ⟨s0, s1, s2, s3, s4, s5, s6⟩
     go_simp
     with_reducible rfl
    rotate_left
    ·simp only [Act.put, List.setIfInBounds_toArray, List.set_cons_zero, List.set_cons_succ, i64_w, i32_w]
     rfl
    refine take_ (i := 11) (N := some 23) (v := ?_) (a' := ?_) #[true, true, true, true, true, true, true, true, true, true, false, true, true, false, false, false, false, false, false, false, false, false, false, false, false, false, false, false, false, false, false] rfl rfl (take_ofW HT_.out HW_.out (by kernel_rfl)) (fun _ _ _ h => h) (Or.inl ⟨by rfl, ?_⟩) hHeld ?_ ?_
    rotate_left
    ·rintro w' ⟨s0, s1, s2, s3, s4, s5, s6⟩
     go_simp
     with_reducible rfl
    rotate_left
    ·simp only [Act.put, List.setIfInBounds_toArray, List.set_cons_zero, List.set_cons_succ, i64_w, i32_w]
     rfl
    refine one_ (i := 10) (N := some 22) #[true, true, true, true, true, true, true, true, true, true, true, true, true, false, false, false, false, false, false, false, false, false, false, false, false, false, false, false, false, false, false] rfl rfl (one_of HT_.out (by kernel_rfl)) (by decide) (fun K hK => ?_)
    refine goes_ Try.func86 (by kernel_rfl) rfl #[.agg #[.int .u8 a0_0, .int .i64 a0_1, .int .i64 a0_2, .int .i64 a0_3, .int .i64 a0_4, .int .i64 a0_5, .slice A0_6 l0_6.length c0_6], .int .u8 a1] (by rfl) rfl rfl (by (try simp only [List.map_toArray, List.map_cons, List.map_nil]); rfl) ?_
    with_reducible refine (least_Gives.calls k a0_0 a0_1 a0_2 a0_3 a0_4 a0_5 (fun k_ => k_ < w.heap.size) _ _ l0_6 a1 t1108 _ ?side1 A15.out).mono ?_
    (case side1 => exact Kd.V_mk HC0_6.out (Kd.F_below (Kd.C_F k26_heap HR0_6.out) (by repeat ((with_reducible exact HB.out)))))
    rintro e w49 ⟨rfl, hb⟩
    refine ⟨_, rfl, ?_⟩
    replace BK1103 := Aside0.mk (blk_below BK1103.out hb); replace HB := Aside0.mk (below_step (by repeat ((with_reducible exact HB.out))) hb)
    (try clear hb)
    (skip)
    (skip)
    (skip)
    refine hK.out _ _ ⟨(blk_cell BK1103.out 0).trans rfl, (blk_cell BK1103.out 1).trans rfl, (blk_cell BK1103.out 2).trans rfl, (blk_cell BK1103.out 3).trans rfl, (blk_cell BK1103.out 4).trans rfl, (blk_cell BK1103.out 5).trans rfl, (blk_cell BK1103.out 6).trans rfl⟩ (fun hHeld => ?_)
    clear hK K
    refine norm_ (a' := ?_) ?_ ?_
    rotate_left
    ·show Act.put _ (some 22) _ = _
     simp only [Act.put, List.setIfInBounds_toArray, List.set_cons_zero, List.set_cons_succ, i64_w, i32_w]
     rfl
    refine one_ (i := 13) (N := some 25) #[true, true, true, true, true, true, true, true, true, true, true, true, true, true, false, false, false, false, false, false, false, false, false, false, false, false, false, false, false, false, false] rfl rfl (one_of HT_.out (by kernel_rfl)) (by decide) (fun K hK => ?_)
    refine goes_ Try.func95 (by kernel_rfl) rfl #[.agg #[.int .u8 a0_0, .int .i64 a0_1, .int .i64 a0_2, .int .i64 a0_3, .int .i64 a0_4, .int .i64 a0_5, .slice A0_6 l0_6.length c0_6], .int .u8 a1] (by rfl) rfl rfl (by (try simp only [List.map_toArray, List.map_cons, List.map_nil]); rfl) ?_
    with_reducible refine (sashref08_Gives.calls k a0_0 a0_1 a0_2 a0_3 a0_4 a0_5 _ _ l0_6 a1 t1109 _ ?side1 ?side2 A16.out).mono ?_
    (case side1 => repeat (exact (Kd.C_below HR0_6.out HB.out)))
    (case side2 => exact HC0_6.out)
    rintro e w50 ⟨rfl, hb⟩
    refine ⟨_, rfl, ?_⟩
    replace BK1103 := Aside0.mk (blk_below BK1103.out hb); replace HB := Aside0.mk (below_step (by repeat ((with_reducible exact HB.out))) hb)
    (try clear hb)
    (skip)
    (skip)
    (skip)
    refine hK.out _ _ ⟨(blk_cell BK1103.out 0).trans rfl, (blk_cell BK1103.out 1).trans rfl, (blk_cell BK1103.out 2).trans rfl, (blk_cell BK1103.out 3).trans rfl, (blk_cell BK1103.out 4).trans rfl, (blk_cell BK1103.out 5).trans rfl, (blk_cell BK1103.out 6).trans rfl⟩ (fun hHeld => ?_)
    clear hK K
    refine norm_ (a' := ?_) ?_ ?_
    rotate_left
    ·show Act.put _ (some 25) _ = _
     simp only [Act.put, List.setIfInBounds_toArray, List.set_cons_zero, List.set_cons_succ, i64_w, i32_w]
     rfl
    refine pure_ (i := 14) (N := some 26) (v := ?_) (a' := ?_) #[true, true, true, true, true, true, true, true, true, true, true, true, true, true, true, false, false, false, false, false, false, false, false, false, false, false, false, false, false, false, false] rfl rfl (any_of HT_.out (by kernel_rfl)) (fun _ _ _ h => h) (Or.inl ⟨by rfl, ?_⟩) ?_ ?_
    rotate_left
    ·intro w'
     go_simp
     with_reducible rfl
    rotate_left
    ·simp only [Act.put, List.setIfInBounds_toArray, List.set_cons_zero, List.set_cons_succ, i64_w, i32_w]
     rfl
    refine pure_ (i := 15) (N := some 27) (v := ?_) (a' := ?_) #[true, true, true, true, true, true, true, true, true, true, true, true, true, true, true, true, false, false, false, false, false, false, false, false, false, false, false, false, false, false, false] rfl rfl (any_of HT_.out (by kernel_rfl)) (fun _ _ _ h => h) (Or.inl ⟨by rfl, ?_⟩) ?_ ?_
    rotate_left
    ·intro w'
     go_simp
     with_reducible rfl
    rotate_left
    ·simp only [Act.put, List.setIfInBounds_toArray, List.set_cons_zero, List.set_cons_succ, i64_w, i32_w]
     rfl
    refine pure_ (i := 16) (N := some 28) (v := ?_) (a' := ?_) #[true, true, true, true, true, true, true, true, true, true, true, true, true, true, true, true, true, false, false, false, false, false, false, false, false, false, false, false, false, false, false] rfl rfl (any_of HT_.out (by kernel_rfl)) (fun _ _ _ h => h) (Or.inl ⟨by rfl, ?_⟩) ?_ ?_
    rotate_left
    ·intro w'
     go_simp
     with_reducible rfl
    rotate_left
    ·simp only [Act.put, List.setIfInBounds_toArray, List.set_cons_zero, List.set_cons_succ, i64_w, i32_w]
     rfl
    refine pure_ (i := 17) (N := some 29) (v := undef) (a' := ?_) #[true, true, true, true, true, true, true, true, true, true, true, true, true, true, true, true, true, true, false, false, false, false, false, false, false, false, false, false, false, false, false] rfl rfl (any_of HT_.out (by kernel_rfl)) (fun _ _ _ h => h) (Or.inr ⟨by rfl, rfl⟩) ?_ ?_
    rotate_left
    ·simp only [Act.put, List.setIfInBounds_toArray, List.set_cons_zero, List.set_cons_succ, i64_w, i32_w]
     rfl
    refine pure_ (i := 18) (N := some 30) (v := undef) (a' := ?_) #[true, true, true, true, true, true, true, true, true, true, true, true, true, true, true, true, true, true, true, false, false, false, false, false, false, false, false, false, false, false, false] rfl rfl (any_of HT_.out (by kernel_rfl)) (fun _ _ _ h => h) (Or.inr ⟨by rfl, rfl⟩) ?_ ?_
    rotate_left
    ·simp only [Act.put, List.setIfInBounds_toArray, List.set_cons_zero, List.set_cons_succ, i64_w, i32_w]
     rfl
    refine pure_ (i := 19) (N := some 31) (v := undef) (a' := ?_) #[true, true, true, true, true, true, true, true, true, true, true, true, true, true, true, true, true, true, true, true, false, false, false, false, false, false, false, false, false, false, false] rfl rfl (any_of HT_.out (by kernel_rfl)) (fun _ _ _ h => h) (Or.inr ⟨by rfl, rfl⟩) ?_ ?_
    rotate_left
    ·simp only [Act.put, List.setIfInBounds_toArray, List.set_cons_zero, List.set_cons_succ, i64_w, i32_w]
     rfl
    refine pure_ (i := 20) (N := some 32) (v := undef) (a' := ?_) #[true, true, true, true, true, true, true, true, true, true, true, true, true, true, true, true, true, true, true, true, true, false, false, false, false, false, false, false, false, false, false] rfl rfl (any_of HT_.out (by kernel_rfl)) (fun _ _ _ h => h) (Or.inr ⟨by rfl, rfl⟩) ?_ ?_
    rotate_left
    ·simp only [Act.put, List.setIfInBounds_toArray, List.set_cons_zero, List.set_cons_succ, i64_w, i32_w]
     rfl
    refine pure_ (i := 21) (N := some 33) (v := undef) (a' := ?_) #[true, true, true, true, true, true, true, true, true, true, true, true, true, true, true, true, true, true, true, true, true, true, false, false, false, false, false, false, false, false, false] rfl rfl (any_of HT_.out (by kernel_rfl)) (fun _ _ _ h => h) (Or.inr ⟨by rfl, rfl⟩) ?_ ?_
    rotate_left
    ·simp only [Act.put, List.setIfInBounds_toArray, List.set_cons_zero, List.set_cons_succ, i64_w, i32_w]
     rfl
    refine pure_ (i := 22) (N := some 34) (v := undef) (a' := ?_) #[true, true, true, true, true, true, true, true, true, true, true, true, true, true, true, true, true, true, true, true, true, true, true, false, false, false, false, false, false, false, false] rfl rfl (any_of HT_.out (by kernel_rfl)) (fun _ _ _ h => h) (Or.inr ⟨by rfl, rfl⟩) ?_ ?_
    rotate_left
    ·simp only [Act.put, List.setIfInBounds_toArray, List.set_cons_zero, List.set_cons_succ, i64_w, i32_w]
     rfl
    refine pure_ (i := 23) (N := some 35) (v := undef) (a' := ?_) #[true, true, true, true, true, true, true, true, true, true, true, true, true, true, true, true, true, true, true, true, true, true, true, true, false, false, false, false, false, false, false] rfl rfl (any_of HT_.out (by kernel_rfl)) (fun _ _ _ h => h) (Or.inr ⟨by rfl, rfl⟩) ?_ ?_
    rotate_left
    ·simp only [Act.put, List.setIfInBounds_toArray, List.set_cons_zero, List.set_cons_succ, i64_w, i32_w]
     rfl
    refine pure_ (i := 24) (N := some 36) (v := undef) (a' := ?_) #[true, true, true, true, true, true, true, true, true, true, true, true, true, true, true, true, true, true, true, true, true, true, true, true, true, false, false, false, false, false, false] rfl rfl (any_of HT_.out (by kernel_rfl)) (fun _ _ _ h => h) (Or.inr ⟨by rfl, rfl⟩) ?_ ?_
    rotate_left
    ·simp only [Act.put, List.setIfInBounds_toArray, List.set_cons_zero, List.set_cons_succ, i64_w, i32_w]
     rfl
    refine pure_ (i := 25) (N := some 37) (v := undef) (a' := ?_) #[true, true, true, true, true, true, true, true, true, true, true, true, true, true, true, true, true, true, true, true, true, true, true, true, true, true, false, false, false, false, false] rfl rfl (any_of HT_.out (by kernel_rfl)) (fun _ _ _ h => h) (Or.inr ⟨by rfl, rfl⟩) ?_ ?_
    rotate_left
    ·simp only [Act.put, List.setIfInBounds_toArray, List.set_cons_zero, List.set_cons_succ, i64_w, i32_w]
     rfl
    refine pure_ (i := 26) (N := some 38) (v := ?_) (a' := ?_) #[true, true, true, true, true, true, true, true, true, true, true, true, true, true, true, true, true, true, true, true, true, true, true, true, true, true, true, false, false, false, false] rfl rfl (any_of HT_.out (by kernel_rfl)) (fun _ _ _ h => h) (Or.inl ⟨by rfl, ?_⟩) ?_ ?_
    rotate_left
    ·intro w'
     go_simp
     with_reducible rfl
    rotate_left
    ·simp only [Act.put, List.setIfInBounds_toArray, List.set_cons_zero, List.set_cons_succ, i64_w, i32_w]
     rfl
    refine pure_ (i := 27) (N := some 39) (v := ?_) (a' := ?_) #[true, true, true, true, true, true, true, true, true, true, true, true, true, true, true, true, true, true, true, true, true, true, true, true, true, true, true, true, false, false, false] rfl rfl (any_of HT_.out (by kernel_rfl)) (fun _ _ _ h => h) (Or.inl ⟨by rfl, ?_⟩) ?_ ?_
    rotate_left
    ·intro w'
     go_simp
     with_reducible rfl
    rotate_left
    ·simp only [Act.put, List.setIfInBounds_toArray, List.set_cons_zero, List.set_cons_succ, i64_w, i32_w]
     rfl
    refine pure_ (i := 28) (N := some 40) (v := undef) (a' := ?_) #[true, true, true, true, true, true, true, true, true, true, true, true, true, true, true, true, true, true, true, true, true, true, true, true, true, true, true, true, true, false, false] rfl rfl (any_of HT_.out (by kernel_rfl)) (fun _ _ _ h => h) (Or.inr ⟨by rfl, rfl⟩) ?_ ?_
    rotate_left
    ·simp only [Act.put, List.setIfInBounds_toArray, List.set_cons_zero, List.set_cons_succ, i64_w, i32_w]
     rfl
    refine pure_ (i := 29) (N := some 41) (v := ?_) (a' := ?_) #[true, true, true, true, true, true, true, true, true, true, true, true, true, true, true, true, true, true, true, true, true, true, true, true, true, true, true, true, true, true, false] rfl rfl (any_of HT_.out (by kernel_rfl)) (fun _ _ _ h => h) (Or.inl ⟨by rfl, ?_⟩) ?_ ?_
    rotate_left
    ·intro w'
     go_simp
     with_reducible rfl
    rotate_left
    ·simp only [Act.put, List.setIfInBounds_toArray, List.set_cons_zero, List.set_cons_succ, i64_w, i32_w]
     rfl
    refine pure_ (i := 30) (N := some 8) (v := ?_) (a' := ?_) #[true, true, true, true, true, true, true, true, true, true, true, true, true, true, true, true, true, true, true, true, true, true, true, true, true, true, true, true, true, true, true] rfl rfl (any_of HT_.out (by kernel_rfl)) (fun _ _ _ h => h) (Or.inl ⟨by rfl, ?_⟩) ?_ ?_
    rotate_left
    ·intro w'
     go_simp
     with_reducible rfl
    rotate_left
    ·simp only [Act.put, List.setIfInBounds_toArray, List.set_cons_zero, List.set_cons_succ, i64_w, i32_w]
     rfl
    refine done_ (done_of HT_.out (by kernel_rfl)) ?_
    try go_wp2
    go_ret
    exact ⟨by rfl, by repeat ((with_reducible exact HB.out))⟩
  ·rw [if_neg c14] at H
   have c14b0 : (t1106 == t1107) = false := beq_eq_false_iff_ne.mpr c14
   have c14b1 : (t1106 != t1107) = true := bne_iff_ne.mpr c14
   obtain rfl := Option.some.inj H
   go_enter Try.func21, Try.ntmps21
   try go_wp2_with (first | ((with_reducible refine gate_dst (N := 4) rfl ?_); refine box_event ?hg (N := 4) ?hd (cs := #[.int .u8 a0_0, .int .i64 a0_1, .int .i64 a0_2, .int .i64 a0_3, .int .i64 a0_4, .int .i64 a0_5, .slice A0_6 l0_6.length c0_6]) (t := 26) ?hr ?_; (case hd => rfl); (case hg => rfl); (case hr => (go_simp; done)); intro gb1103 hg w51 hbox hb; have BK1103 := Aside0.mk (hbox); replace HB := Aside0.mk (below_step (by repeat ((with_reducible exact HB.out))) hb); clear hb hbox hg; have hcz52_0 : w51.cell? ⟨gb1103, 0, none⟩ = some (.int .u8 a0_0) := (blk_cell BK1103.out 0).trans rfl; have hcz52_1 : w51.cell? ⟨gb1103, 1, none⟩ = some (.int .i64 a0_1) := (blk_cell BK1103.out 1).trans rfl; have hcz52_2 : w51.cell? ⟨gb1103, 2, none⟩ = some (.int .i64 a0_2) := (blk_cell BK1103.out 2).trans rfl; have hcz52_3 : w51.cell? ⟨gb1103, 3, none⟩ = some (.int .i64 a0_3) := (blk_cell BK1103.out 3).trans rfl; have hcz52_4 : w51.cell? ⟨gb1103, 4, none⟩ = some (.int .i64 a0_4) := (blk_cell BK1103.out 4).trans rfl; have hcz52_5 : w51.cell? ⟨gb1103, 5, none⟩ = some (.int .i64 a0_5) := (blk_cell BK1103.out 5).trans rfl; have hcz52_6 : w51.cell? ⟨gb1103, 6, none⟩ = some (.slice A0_6 l0_6.length c0_6) := (blk_cell BK1103.out 6).trans rfl; have hfz52_0 := blk_frozen BK1103.out 0; have hfz52_1 := blk_frozen BK1103.out 1; have hfz52_2 := blk_frozen BK1103.out 2; have hfz52_3 := blk_frozen BK1103.out 3; have hfz52_4 := blk_frozen BK1103.out 4; have hfz52_5 := blk_frozen BK1103.out 5; have hfz52_6 := blk_frozen BK1103.out 6) | ((with_reducible refine gate_callee (f := 34) rfl ?_); refine goesL_ (some 10) rfl rfl Try.func34 (by kernel_rfl) rfl #[.agg #[.int .u8 a0_0, .int .i64 a0_1, .int .i64 a0_2, .int .i64 a0_3, .int .i64 a0_4, .int .i64 a0_5, .slice A0_6 l0_6.length c0_6]] rfl (by (try simp only [List.map_toArray, List.map_cons, List.map_nil]); rfl) ?_; (with_reducible refine (sashref05_Great.calls k a0_0 a0_1 a0_2 a0_3 a0_4 a0_5 _ _ l0_6 false _ ?side1 ?side2 A5.out).mono ?_); (case side1 => repeat (exact (Kd.C_below HR0_6.out HB.out))); (case side2 => exact HC0_6.out); rintro e w53 ⟨rfl, hb⟩; refine ⟨_, rfl, ?_⟩; replace BK1103 := Aside0.mk (blk_below BK1103.out hb); replace HB := Aside0.mk (below_step (by repeat ((with_reducible exact HB.out))) hb); (try clear hb)))
   replace BK1103 := Aside0.mk (blk_drew BK1103.out); replace HB := Aside0.mk (below_drew1 HB.out)
   refine start_ (n := 31) (S := fun w' => w'.cell? ⟨gb1103, 0, none⟩ = some (.int .u8 a0_0) ∧ w'.cell? ⟨gb1103, 1, none⟩ = some (.int .i64 a0_1) ∧ w'.cell? ⟨gb1103, 2, none⟩ = some (.int .i64 a0_2) ∧ w'.cell? ⟨gb1103, 3, none⟩ = some (.int .i64 a0_3) ∧ w'.cell? ⟨gb1103, 4, none⟩ = some (.int .i64 a0_4) ∧ w'.cell? ⟨gb1103, 5, none⟩ = some (.int .i64 a0_5) ∧ w'.cell? ⟨gb1103, 6, none⟩ = some (.slice A0_6 l0_6.length c0_6)) (ds := []) #[false, false, false, false, false, false, false, false, false, false, false, false, false, false, false, false, false, false, false, false, false, false, false, false, false, false, false, false, false, false, false] (by kernel_rfl) rfl rfl ⟨(blk_cell BK1103.out 0).trans rfl, (blk_cell BK1103.out 1).trans rfl, (blk_cell BK1103.out 2).trans rfl, (blk_cell BK1103.out 3).trans rfl, (blk_cell BK1103.out 4).trans rfl, (blk_cell BK1103.out 5).trans rfl, (blk_cell BK1103.out 6).trans rfl⟩ (fun hHeld => ?_); refine with_tabW sashlaw08_LeastIs.tab3 sashlaw08_LeastIs.bits3 (fun HT_ HW_ => ?_)
   generalize w53.drew = w54 at BK1103 HB hHeld ⊢
   refine pure_ (i := 1) (N := some 13) (v := ?_) (a' := ?_) #[false, true, false, false, false, false, false, false, false, false, false, false, false, false, false, false, false, false, false, false, false, false, false, false, false, false, false, false, false, false, false] rfl rfl (any_of HT_.out (by kernel_rfl)) (fun _ _ _ h => h) (Or.inl ⟨by rfl, ?_⟩) ?_ ?_
   rotate_left
   ·intro w'
    go_simp
    with_reducible rfl
   rotate_left
   ·simp only [Act.put, List.setIfInBounds_toArray, List.set_cons_zero, List.set_cons_succ, i64_w, i32_w]
    rfl
   refine pure_ (i := 4) (N := some 16) (v := ?_) (a' := ?_) #[false, true, false, false, true, false, false, false, false, false, false, false, false, false, false, false, false, false, false, false, false, false, false, false, false, false, false, false, false, false, false] rfl rfl (any_of HT_.out (by kernel_rfl)) (fun _ _ _ h => h) (Or.inl ⟨by rfl, ?_⟩) ?_ ?_
   rotate_left
   ·intro w'
    go_simp
    with_reducible rfl
   rotate_left
   ·simp only [Act.put, List.setIfInBounds_toArray, List.set_cons_zero, List.set_cons_succ, i64_w, i32_w]
    rfl
   refine take_ (i := 0) (N := some 12) (v := ?_) (a' := ?_) #[true, true, false, false, true, false, false, false, false, false, false, false, false, false, false, false, false, false, false, false, false, false, false, false, false, false, false, false, false, false, false] rfl rfl (take_ofW HT_.out HW_.out (by kernel_rfl)) (fun _ _ _ h => h) (Or.inl ⟨by rfl, ?_⟩) hHeld ?_ ?_
   rotate_left
   ·rintro w' ⟨s0, s1, s2, s3, s4, s5, s6⟩
    go_simp
    with_reducible rfl
   rotate_left
   ·simp only [Act.put, List.setIfInBounds_toArray, List.set_cons_zero, List.set_cons_succ, i64_w, i32_w]
    rfl
   refine take_ (i := 3) (N := some 15) (v := ?_) (a' := ?_) #[true, true, false, true, true, false, false, false, false, false, false, false, false, false, false, false, false, false, false, false, false, false, false, false, false, false, false, false, false, false, false] rfl rfl (take_ofW HT_.out HW_.out (by kernel_rfl)) (fun _ _ _ h => h) (Or.inl ⟨by rfl, ?_⟩) hHeld ?_ ?_
   rotate_left
   ·rintro w' ⟨s0, s1, s2, s3, s4, s5, s6⟩
    go_simp
    with_reducible rfl
   rotate_left
   ·simp only [Act.put, List.setIfInBounds_toArray, List.set_cons_zero, List.set_cons_succ, i64_w, i32_w]
    rfl
   refine one_ (i := 2) (N := some 14) #[true, true, true, true, true, false, false, false, false, false, false, false, false, false, false, false, false, false, false, false, false, false, false, false, false, false, false, false, false, false, false] rfl rfl (one_of HT_.out (by kernel_rfl)) (by decide) (fun K hK => ?_)
   refine goes_ Try.func93 (by kernel_rfl) rfl #[.agg #[.int .u8 a0_0, .int .i64 a0_1, .int .i64 a0_2, .int .i64 a0_3, .int .i64 a0_4, .int .i64 a0_5, .slice A0_6 l0_6.length c0_6], .int .u8 a1] (by rfl) rfl rfl (by (try simp only [List.map_toArray, List.map_cons, List.map_nil]); rfl) ?_
   with_reducible refine (least_Least.calls k a0_0 a0_1 a0_2 a0_3 a0_4 a0_5 (fun k_ => k_ < w.heap.size) _ _ l0_6 a1 t1106 _ ?side1 A12.out).mono ?_
   (case side1 => exact Kd.V_mk HC0_6.out (Kd.F_below (Kd.C_F k26_heap HR0_6.out) (by repeat ((with_reducible exact HB.out)))))
   rintro e w55 ⟨rfl, hb⟩
   refine ⟨_, rfl, ?_⟩
   replace BK1103 := Aside0.mk (blk_below BK1103.out hb); replace HB := Aside0.mk (below_step (by repeat ((with_reducible exact HB.out))) hb)
   (try clear hb)
   (skip)
   (skip)
   (skip)
   refine hK.out _ _ ⟨(blk_cell BK1103.out 0).trans rfl, (blk_cell BK1103.out 1).trans rfl, (blk_cell BK1103.out 2).trans rfl, (blk_cell BK1103.out 3).trans rfl, (blk_cell BK1103.out 4).trans rfl, (blk_cell BK1103.out 5).trans rfl, (blk_cell BK1103.out 6).trans rfl⟩ (fun hHeld => ?_)
   clear hK K
   refine norm_ (a' := ?_) ?_ ?_
   rotate_left
   ·show Act.put _ (some 14) _ = _
    simp only [Act.put, List.setIfInBounds_toArray, List.set_cons_zero, List.set_cons_succ, i64_w, i32_w]
    rfl
   refine one_ (i := 5) (N := some 17) #[true, true, true, true, true, true, false, false, false, false, false, false, false, false, false, false, false, false, false, false, false, false, false, false, false, false, false, false, false, false, false] rfl rfl (one_of HT_.out (by kernel_rfl)) (by decide) (fun K hK => ?_)
   refine goes_ Try.func94 (by kernel_rfl) rfl #[.agg #[.int .u8 a0_0, .int .i64 a0_1, .int .i64 a0_2, .int .i64 a0_3, .int .i64 a0_4, .int .i64 a0_5, .slice A0_6 l0_6.length c0_6], .int .u8 a1] (by rfl) rfl rfl (by (try simp only [List.map_toArray, List.map_cons, List.map_nil]); rfl) ?_
   with_reducible refine (sashref08_Least.calls k a0_0 a0_1 a0_2 a0_3 a0_4 a0_5 _ _ l0_6 a1 t1107 _ ?side1 ?side2 A13.out).mono ?_
   (case side1 => repeat (exact (Kd.C_below HR0_6.out HB.out)))
   (case side2 => exact HC0_6.out)
   rintro e w56 ⟨rfl, hb⟩
   refine ⟨_, rfl, ?_⟩
   replace BK1103 := Aside0.mk (blk_below BK1103.out hb); replace HB := Aside0.mk (below_step (by repeat ((with_reducible exact HB.out))) hb)
   (try clear hb)
   (skip)
   (skip)
   (skip)
   refine hK.out _ _ ⟨(blk_cell BK1103.out 0).trans rfl, (blk_cell BK1103.out 1).trans rfl, (blk_cell BK1103.out 2).trans rfl, (blk_cell BK1103.out 3).trans rfl, (blk_cell BK1103.out 4).trans rfl, (blk_cell BK1103.out 5).trans rfl, (blk_cell BK1103.out 6).trans rfl⟩ (fun hHeld => ?_)
   clear hK K
   refine norm_ (a' := ?_) ?_ ?_
   rotate_left
   ·show Act.put _ (some 17) _ = _
    simp only [Act.put, List.setIfInBounds_toArray, List.set_cons_zero, List.set_cons_succ, i64_w, i32_w]
    rfl
   refine pure_ (i := 6) (N := some 18) (v := ?_) (a' := ?_) #[true, true, true, true, true, true, true, false, false, false, false, false, false, false, false, false, false, false, false, false, false, false, false, false, false, false, false, false, false, false, false] rfl rfl (any_of HT_.out (by kernel_rfl)) (fun _ _ _ h => h) (Or.inl ⟨by rfl, ?_⟩) ?_ ?_
   rotate_left
   ·intro w'
    go_simp
    with_reducible rfl
   rotate_left
   ·simp only [Act.put, List.setIfInBounds_toArray, List.set_cons_zero, List.set_cons_succ, i64_w, i32_w]
    rfl
   refine pure_ (i := 7) (N := some 19) (v := ?_) (a' := ?_) #[true, true, true, true, true, true, true, true, false, false, false, false, false, false, false, false, false, false, false, false, false, false, false, false, false, false, false, false, false, false, false] rfl rfl (any_of HT_.out (by kernel_rfl)) (fun _ _ _ h => h) (Or.inl ⟨by rfl, ?_⟩) ?_ ?_
   rotate_left
   ·intro w'
    go_simp
    with_reducible rfl
   rotate_left
   ·simp only [Act.put, List.setIfInBounds_toArray, List.set_cons_zero, List.set_cons_succ, i64_w, i32_w]
    rfl
   refine pure_ (i := 8) (N := some 20) (v := undef) (a' := ?_) #[true, true, true, true, true, true, true, true, true, false, false, false, false, false, false, false, false, false, false, false, false, false, false, false, false, false, false, false, false, false, false] rfl rfl (any_of HT_.out (by kernel_rfl)) (fun _ _ _ h => h) (Or.inr ⟨by rfl, rfl⟩) ?_ ?_
   rotate_left
   ·simp only [Act.put, List.setIfInBounds_toArray, List.set_cons_zero, List.set_cons_succ, i64_w, i32_w]
    rfl
   refine pure_ (i := 9) (N := some 21) (v := undef) (a' := ?_) #[true, true, true, true, true, true, true, true, true, true, false, false, false, false, false, false, false, false, false, false, false, false, false, false, false, false, false, false, false, false, false] rfl rfl (any_of HT_.out (by kernel_rfl)) (fun _ _ _ h => h) (Or.inr ⟨by rfl, rfl⟩) ?_ ?_
   rotate_left
   ·simp only [Act.put, List.setIfInBounds_toArray, List.set_cons_zero, List.set_cons_succ, i64_w, i32_w]
    rfl
   refine pure_ (i := 10) (N := some 22) (v := undef) (a' := ?_) #[true, true, true, true, true, true, true, true, true, true, true, false, false, false, false, false, false, false, false, false, false, false, false, false, false, false, false, false, false, false, false] rfl rfl (any_of HT_.out (by kernel_rfl)) (fun _ _ _ h => h) (Or.inr ⟨by rfl, rfl⟩) ?_ ?_
   rotate_left
   ·simp only [Act.put, List.setIfInBounds_toArray, List.set_cons_zero, List.set_cons_succ, i64_w, i32_w]
    rfl
   refine pure_ (i := 11) (N := some 23) (v := undef) (a' := ?_) #[true, true, true, true, true, true, true, true, true, true, true, true, false, false, false, false, false, false, false, false, false, false, false, false, false, false, false, false, false, false, false] rfl rfl (any_of HT_.out (by kernel_rfl)) (fun _ _ _ h => h) (Or.inr ⟨by rfl, rfl⟩) ?_ ?_
   rotate_left
   ·simp only [Act.put, List.setIfInBounds_toArray, List.set_cons_zero, List.set_cons_succ, i64_w, i32_w]
    rfl
   refine pure_ (i := 12) (N := some 24) (v := undef) (a' := ?_) #[true, true, true, true, true, true, true, true, true, true, true, true, true, false, false, false, false, false, false, false, false, false, false, false, false, false, false, false, false, false, false] rfl rfl (any_of HT_.out (by kernel_rfl)) (fun _ _ _ h => h) (Or.inr ⟨by rfl, rfl⟩) ?_ ?_
   rotate_left
   ·simp only [Act.put, List.setIfInBounds_toArray, List.set_cons_zero, List.set_cons_succ, i64_w, i32_w]
    rfl
   refine pure_ (i := 13) (N := some 25) (v := undef) (a' := ?_) #[true, true, true, true, true, true, true, true, true, true, true, true, true, true, false, false, false, false, false, false, false, false, false, false, false, false, false, false, false, false, false] rfl rfl (any_of HT_.out (by kernel_rfl)) (fun _ _ _ h => h) (Or.inr ⟨by rfl, rfl⟩) ?_ ?_
   rotate_left
   ·simp only [Act.put, List.setIfInBounds_toArray, List.set_cons_zero, List.set_cons_succ, i64_w, i32_w]
    rfl
   refine pure_ (i := 14) (N := some 26) (v := undef) (a' := ?_) #[true, true, true, true, true, true, true, true, true, true, true, true, true, true, true, false, false, false, false, false, false, false, false, false, false, false, false, false, false, false, false] rfl rfl (any_of HT_.out (by kernel_rfl)) (fun _ _ _ h => h) (Or.inr ⟨by rfl, rfl⟩) ?_ ?_
   rotate_left
   ·simp only [Act.put, List.setIfInBounds_toArray, List.set_cons_zero, List.set_cons_succ, i64_w, i32_w]
    rfl
   refine pure_ (i := 15) (N := some 27) (v := ?_) (a' := ?_) #[true, true, true, true, true, true, true, true, true, true, true, true, true, true, true, true, false, false, false, false, false, false, false, false, false, false, false, false, false, false, false] rfl rfl (any_of HT_.out (by kernel_rfl)) (fun _ _ _ h => h) (Or.inl ⟨by rfl, ?_⟩) ?_ ?_
   rotate_left
   ·intro w'
    go_simp
    with_reducible rfl
   rotate_left
   ·simp only [Act.put, List.setIfInBounds_toArray, List.set_cons_zero, List.set_cons_succ, i64_w, i32_w]
    rfl
   refine pure_ (i := 16) (N := some 28) (v := ?_) (a' := ?_) #[true, true, true, true, true, true, true, true, true, true, true, true, true, true, true, true, true, false, false, false, false, false, false, false, false, false, false, false, false, false, false] rfl rfl (any_of HT_.out (by kernel_rfl)) (fun _ _ _ h => h) (Or.inl ⟨by rfl, ?_⟩) ?_ ?_
   rotate_left
   ·intro w'
    go_simp
    with_reducible rfl
   rotate_left
   ·simp only [Act.put, List.setIfInBounds_toArray, List.set_cons_zero, List.set_cons_succ, i64_w, i32_w]
    rfl
   refine pure_ (i := 17) (N := some 29) (v := undef) (a' := ?_) #[true, true, true, true, true, true, true, true, true, true, true, true, true, true, true, true, true, true, false, false, false, false, false, false, false, false, false, false, false, false, false] rfl rfl (any_of HT_.out (by kernel_rfl)) (fun _ _ _ h => h) (Or.inr ⟨by rfl, rfl⟩) ?_ ?_
   rotate_left
   ·simp only [Act.put, List.setIfInBounds_toArray, List.set_cons_zero, List.set_cons_succ, i64_w, i32_w]
    rfl
   refine pure_ (i := 18) (N := some 30) (v := undef) (a' := ?_) #[true, true, true, true, true, true, true, true, true, true, true, true, true, true, true, true, true, true, true, false, false, false, false, false, false, false, false, false, false, false, false] rfl rfl (any_of HT_.out (by kernel_rfl)) (fun _ _ _ h => h) (Or.inr ⟨by rfl, rfl⟩) ?_ ?_
   rotate_left
   ·simp only [Act.put, List.setIfInBounds_toArray, List.set_cons_zero, List.set_cons_succ, i64_w, i32_w]
    rfl
   refine pure_ (i := 19) (N := some 31) (v := undef) (a' := ?_) #[true, true, true, true, true, true, true, true, true, true, true, true, true, true, true, true, true, true, true, true, false, false, false, false, false, false, false, false, false, false, false] rfl rfl (any_of HT_.out (by kernel_rfl)) (fun _ _ _ h => h) (Or.inr ⟨by rfl, rfl⟩) ?_ ?_
   rotate_left
   ·simp only [Act.put, List.setIfInBounds_toArray, List.set_cons_zero, List.set_cons_succ, i64_w, i32_w]
    rfl
   refine pure_ (i := 20) (N := some 32) (v := undef) (a' := ?_) #[true, true, true, true, true, true, true, true, true, true, true, true, true, true, true, true, true, true, true, true, true, false, false, false, false, false, false, false, false, false, false] rfl rfl (any_of HT_.out (by kernel_rfl)) (fun _ _ _ h => h) (Or.inr ⟨by rfl, rfl⟩) ?_ ?_
   rotate_left
   ·simp only [Act.put, List.setIfInBounds_toArray, List.set_cons_zero, List.set_cons_succ, i64_w, i32_w]
    rfl
   refine pure_ (i := 21) (N := some 33) (v := undef) (a' := ?_) #[true, true, true, true, true, true, true, true, true, true, true, true, true, true, true, true, true, true, true, true, true, true, false, false, false, false, false, false, false, false, false] rfl rfl (any_of HT_.out (by kernel_rfl)) (fun _ _ _ h => h) (Or.inr ⟨by rfl, rfl⟩) ?_ ?_
   rotate_left
   ·simp only [Act.put, List.setIfInBounds_toArray, List.set_cons_zero, List.set_cons_succ, i64_w, i32_w]
    rfl
   refine pure_ (i := 22) (N := some 34) (v := undef) (a' := ?_) #[true, true, true, true, true, true, true, true, true, true, true, true, true, true, true, true, true, true, true, true, true, true, true, false, false, false, false, false, false, false, false] rfl rfl (any_of HT_.out (by kernel_rfl)) (fun _ _ _ h => h) (Or.inr ⟨by rfl, rfl⟩) ?_ ?_
   rotate_left
   ·simp only [Act.put, List.setIfInBounds_toArray, List.set_cons_zero, List.set_cons_succ, i64_w, i32_w]
    rfl
   refine pure_ (i := 23) (N := some 35) (v := undef) (a' := ?_) #[true, true, true, true, true, true, true, true, true, true, true, true, true, true, true, true, true, true, true, true, true, true, true, true, false, false, false, false, false, false, false] rfl rfl (any_of HT_.out (by kernel_rfl)) (fun _ _ _ h => h) (Or.inr ⟨by rfl, rfl⟩) ?_ ?_
   rotate_left
   ·simp only [Act.put, List.setIfInBounds_toArray, List.set_cons_zero, List.set_cons_succ, i64_w, i32_w]
    rfl
   refine pure_ (i := 24) (N := some 36) (v := undef) (a' := ?_) #[true, true, true, true, true, true, true, true, true, true, true, true, true, true, true, true, true, true, true, true, true, true, true, true, true, false, false, false, false, false, false] rfl rfl (any_of HT_.out (by kernel_rfl)) (fun _ _ _ h => h) (Or.inr ⟨by rfl, rfl⟩) ?_ ?_
   rotate_left
   ·simp only [Act.put, List.setIfInBounds_toArray, List.set_cons_zero, List.set_cons_succ, i64_w, i32_w]
    rfl
   refine pure_ (i := 25) (N := some 37) (v := undef) (a' := ?_) #[true, true, true, true, true, true, true, true, true, true, true, true, true, true, true, true, true, true, true, true, true, true, true, true, true, true, false, false, false, false, false] rfl rfl (any_of HT_.out (by kernel_rfl)) (fun _ _ _ h => h) (Or.inr ⟨by rfl, rfl⟩) ?_ ?_
   rotate_left
   ·simp only [Act.put, List.setIfInBounds_toArray, List.set_cons_zero, List.set_cons_succ, i64_w, i32_w]
    rfl
   refine pure_ (i := 26) (N := some 38) (v := ?_) (a' := ?_) #[true, true, true, true, true, true, true, true, true, true, true, true, true, true, true, true, true, true, true, true, true, true, true, true, true, true, true, false, false, false, false] rfl rfl (any_of HT_.out (by kernel_rfl)) (fun _ _ _ h => h) (Or.inl ⟨by rfl, ?_⟩) ?_ ?_
   rotate_left
   ·intro w'
    go_simp
    with_reducible rfl
   rotate_left
   ·simp only [Act.put, List.setIfInBounds_toArray, List.set_cons_zero, List.set_cons_succ, i64_w, i32_w]
    rfl
   refine pure_ (i := 27) (N := some 39) (v := ?_) (a' := ?_) #[true, true, true, true, true, true, true, true, true, true, true, true, true, true, true, true, true, true, true, true, true, true, true, true, true, true, true, true, false, false, false] rfl rfl (any_of HT_.out (by kernel_rfl)) (fun _ _ _ h => h) (Or.inl ⟨by rfl, ?_⟩) ?_ ?_
   rotate_left
   ·intro w'
    go_simp
    with_reducible rfl
   rotate_left
   ·simp only [Act.put, List.setIfInBounds_toArray, List.set_cons_zero, List.set_cons_succ, i64_w, i32_w]
    rfl
   refine pure_ (i := 28) (N := some 40) (v := undef) (a' := ?_) #[true, true, true, true, true, true, true, true, true, true, true, true, true, true, true, true, true, true, true, true, true, true, true, true, true, true, true, true, true, false, false] rfl rfl (any_of HT_.out (by kernel_rfl)) (fun _ _ _ h => h) (Or.inr ⟨by rfl, rfl⟩) ?_ ?_
   rotate_left
   ·simp only [Act.put, List.setIfInBounds_toArray, List.set_cons_zero, List.set_cons_succ, i64_w, i32_w]
    rfl
   refine pure_ (i := 29) (N := some 41) (v := ?_) (a' := ?_) #[true, true, true, true, true, true, true, true, true, true, true, true, true, true, true, true, true, true, true, true, true, true, true, true, true, true, true, true, true, true, false] rfl rfl (any_of HT_.out (by kernel_rfl)) (fun _ _ _ h => h) (Or.inl ⟨by rfl, ?_⟩) ?_ ?_
   rotate_left
   ·intro w'
    go_simp
    with_reducible rfl
   rotate_left
   ·simp only [Act.put, List.setIfInBounds_toArray, List.set_cons_zero, List.set_cons_succ, i64_w, i32_w]
    rfl
   refine pure_ (i := 30) (N := some 8) (v := ?_) (a' := ?_) #[true, true, true, true, true, true, true, true, true, true, true, true, true, true, true, true, true, true, true, true, true, true, true, true, true, true, true, true, true, true, true] rfl rfl (any_of HT_.out (by kernel_rfl)) (fun _ _ _ h => h) (Or.inl ⟨by rfl, ?_⟩) ?_ ?_
   rotate_left
   ·intro w'
    go_simp
    with_reducible rfl
   rotate_left
   ·simp only [Act.put, List.setIfInBounds_toArray, List.set_cons_zero, List.set_cons_succ, i64_w, i32_w]
    rfl
   refine done_ (done_of HT_.out (by kernel_rfl)) ?_
   try go_wp2
   go_ret
   exact ⟨by rfl, by repeat ((with_reducible exact HB.out))⟩

end Go.Proofs.Ytfdmfgaiblfbhaa.P
/- LeastIs, the plain law: the least size of any tree, what it can give, and whether it can have any size, are the reference's. Condition: at most 1048576 cells. -/
namespace Go.Proofs.Ytfdmfgaiblfbhaa.Pure
open Go.RowKit Go.Proofs.Ytfdmfgaiblfbhaa.P Go.Proofs.YtfdmfgaiblfbhaaW.PrintWords Go.Proofs.YtfdmfgaiblfbhaaW.PrintLast Go.Proofs.YtfdmfgaiblfbhaaW.PrintMore
theorem LeastIs : ∀ (a0 : S26) (a1 : Int) (a2 : Int) (a3 : Int), wf26 a0 → sz a0 ≤ 1048576 → U8 a1 → I64 a2 → I64 a3 → ∃ k, sashlaw08_LeastIs.f k a0.f0 a0.f1.f0 a0.f1.f1 a0.f1.f2 a0.f1.f3 a0.f2 a0.f3 a1 a2 a3 = some true := by
  intro c ax w h _ hz _ _ _
  refine Ev.rounds (g := fun k => sashlaw08_LeastIs.f k c.f0 c.f1.f0 c.f1.f1 c.f1.f2 c.f1.f3 c.f2 c.f3 ax w h) ?_
  unfold sashlaw08_LeastIs.f
  have aw : Ev (fun _ => (sashlaw08_awake.f).bind fun t => some t) true := Ev.now _
  obtain ⟨g, eg, _⟩ := great_ev c hz
  refine Ev.bind eg ?_
  cases g with
  | true => exact ev_pos rfl aw
  | false =>
    refine ev_neg (by simp) (Ev.bind (lst_ev c hz ax) (Ev.bind (rlst_ev c hz ax) (ev_pos rfl ?_)))
    refine Ev.bind (gives_ev c hz ax) (Ev.bind (rgives_ev c hz ax) (ev_pos rfl ?_))
    exact Ev.bind (fits_ev c hz w h) (Ev.bind (rfits_ev c hz w h) (ev_pos (by simp) aw))
end Go.Proofs.Ytfdmfgaiblfbhaa.Pure
/- Facts on the program's head, each once: the head's text as a row of signs, its words; what follows of them. -/
namespace Go.Proofs.Ytfdmfgaiblfbhaa.P
open Go.RowKit
def headSigns : List Char := [104, 97, 114, 110, 101, 115, 115, 32, 57, 48, 98, 52, 50, 100, 98, 100, 99, 50, 52, 54, 55, 51, 50, 51, 56, 57, 50, 48, 100, 50, 50, 98, 56, 57, 53, 102, 48, 48, 55, 48, 53, 101, 102, 48, 53, 53, 102, 54, 54, 55, 97, 57, 54, 56, 100, 50, 56, 97, 57, 52, 55, 52, 56, 57, 49, 49, 48, 97, 48, 101, 53, 55, 32, 99, 117, 116, 32, 97, 116, 32, 115, 97, 115, 104, 47, 115, 97, 115, 104, 108, 97, 119, 48, 55, 46, 70, 108, 97, 116, 78, 101, 120, 116, 115, 32, 115, 97, 115, 104, 47, 115, 97, 115, 104, 108, 97, 119, 48, 55, 46, 70, 108, 97, 116, 76, 105, 115, 116, 115, 32, 115, 97, 115, 104, 47, 115, 97, 115, 104, 108, 97, 119, 48, 52, 46, 82, 101, 99, 116, 67, 117, 116, 115, 32, 115, 97, 115, 104, 47, 115, 97, 115, 104, 108, 97, 119, 48, 57, 46, 65, 100, 106, 117, 115, 116, 83, 104, 97, 114, 101, 115, 32, 115, 97, 115, 104, 47, 115, 97, 115, 104, 108, 97, 119, 48, 57, 46, 65, 100, 106, 117, 115, 116, 69, 118, 101, 110, 115, 32, 115, 97, 115, 104, 47, 115, 97, 115, 104, 108, 97, 119, 49, 54, 46, 83, 112, 114, 101, 97, 100, 83, 105, 122, 101, 115, 32, 115, 97, 115, 104, 47, 115, 97, 115, 104, 108, 97, 119, 48, 55, 46, 70, 108, 97, 116, 67, 104, 97, 110, 103, 101, 115, 32, 115, 97, 115, 104, 47, 115, 97, 115, 104, 108, 97, 119, 48, 52, 46, 82, 101, 99, 116, 73, 110, 115, 105, 100, 101, 32, 115, 97, 115, 104, 47, 115, 97, 115, 104, 108, 97, 119, 48, 55, 46, 70, 108, 97, 116, 78, 97, 109, 101, 115, 32, 115, 97, 115, 104, 47, 115, 97, 115, 104, 108, 97, 119, 48, 57, 46, 65, 100, 106, 117, 115, 116, 83, 101, 116, 115, 32, 115, 97, 115, 104, 47, 115, 97, 115, 104, 108, 97, 119, 48, 52, 46, 82, 101, 99, 116, 77, 101, 101, 116, 115, 32, 115, 97, 115, 104, 47, 115, 97, 115, 104, 108, 97, 119, 48, 52, 46, 82, 101, 99, 116, 77, 97, 121, 115, 32, 115, 97, 115, 104, 47, 115, 97, 115, 104, 108, 97, 119, 48, 55, 46, 70, 108, 97, 116, 83, 116, 105, 108, 108, 32, 115, 97, 115, 104, 47, 115, 97, 115, 104, 108, 97, 119, 48, 53, 46, 67, 101, 108, 108, 77, 97, 121, 115, 32, 115, 97, 115, 104, 47, 115, 97, 115, 104, 108, 97, 119, 48, 53, 46, 67, 101, 108, 108, 83, 97, 109, 101, 32, 115, 97, 115, 104, 47, 115, 97, 115, 104, 108, 97, 119, 48, 53, 46, 67, 101, 108, 108, 67, 111, 117, 110, 116, 115, 32, 115, 97, 115, 104, 47, 115, 97, 115, 104, 108, 97, 119, 48, 56, 46, 76, 101, 97, 115, 116, 83, 117, 109, 115, 32, 115, 97, 115, 104, 47, 115, 97, 115, 104, 108, 97, 119, 48, 53, 46, 67, 101, 108, 108, 70, 105, 110, 100, 115, 32, 115, 97, 115, 104, 47, 115, 97, 115, 104, 108, 97, 119, 48, 56, 46, 76, 101, 97, 115, 116, 73, 115, 32, 115, 97, 115, 104, 47, 115, 97, 115, 104, 108, 97, 119, 48, 56, 46, 76, 101, 97, 115, 116, 70, 105, 116, 115, 32, 115, 97, 115, 104, 47, 115, 97, 115, 104, 108, 97, 119, 48, 56, 46, 76, 101, 97, 115, 116, 80, 97, 116, 104, 115, 32, 115, 97, 115, 104, 47, 115, 97, 115, 104, 108, 97, 119, 48, 53, 46, 67, 101, 108, 108, 80, 117, 116, 115, 32, 115, 97, 115, 104, 47, 115, 97, 115, 104, 108, 97, 119, 49, 50, 46, 83, 112, 108, 105, 116, 83, 105, 122, 101, 115, 32, 115, 97, 115, 104, 47, 115, 97, 115, 104, 108, 97, 119, 49, 54, 46, 83, 112, 114, 101, 97, 100, 65, 108, 108, 32, 115, 97, 115, 104, 47, 115, 97, 115, 104, 108, 97, 119, 49, 54, 46, 83, 112, 114, 101, 97, 100, 65, 116, 32, 115, 97, 115, 104, 47, 115, 97, 115, 104, 108, 97, 119, 49, 52, 46, 80, 117, 115, 104, 73, 115, 32, 115, 97, 115, 104, 47, 115, 97, 115, 104, 108, 97, 119, 49, 52, 46, 80, 117, 115, 104, 79, 110, 101, 32, 115, 97, 115, 104, 47, 115, 97, 115, 104, 108, 97, 119, 49, 52, 46, 80, 117, 115, 104, 70, 114, 97, 109, 101, 115, 32, 115, 97, 115, 104, 47, 115, 97, 115, 104, 108, 97, 119, 49, 52, 46, 80, 117, 115, 104, 67, 97, 110, 32, 115, 97, 115, 104, 47, 115, 97, 115, 104, 108, 97, 119, 49, 50, 46, 83, 112, 108, 105, 116, 73, 115, 32, 115, 97, 115, 104, 47, 115, 97, 115, 104, 108, 97, 119, 49, 50, 46, 83, 112, 108, 105, 116, 67, 97, 110].map Char.ofNat
def headWords : List (List Char) := [[104, 97, 114, 110, 101, 115, 115].map Char.ofNat,
  [57, 48, 98, 52, 50, 100, 98, 100, 99, 50, 52, 54, 55, 51, 50, 51, 56, 57, 50, 48, 100, 50, 50, 98, 56, 57, 53, 102, 48, 48, 55, 48, 53, 101, 102, 48, 53, 53, 102, 54, 54, 55, 97, 57, 54, 56, 100, 50, 56, 97, 57, 52, 55, 52, 56, 57, 49, 49, 48, 97, 48, 101, 53, 55].map Char.ofNat,
  [99, 117, 116].map Char.ofNat,
  [97, 116].map Char.ofNat,
  [115, 97, 115, 104, 47, 115, 97, 115, 104, 108, 97, 119, 48, 55, 46, 70, 108, 97, 116, 78, 101, 120, 116, 115].map Char.ofNat,
  [115, 97, 115, 104, 47, 115, 97, 115, 104, 108, 97, 119, 48, 55, 46, 70, 108, 97, 116, 76, 105, 115, 116, 115].map Char.ofNat,
  [115, 97, 115, 104, 47, 115, 97, 115, 104, 108, 97, 119, 48, 52, 46, 82, 101, 99, 116, 67, 117, 116, 115].map Char.ofNat,
  [115, 97, 115, 104, 47, 115, 97, 115, 104, 108, 97, 119, 48, 57, 46, 65, 100, 106, 117, 115, 116, 83, 104, 97, 114, 101, 115].map Char.ofNat,
  [115, 97, 115, 104, 47, 115, 97, 115, 104, 108, 97, 119, 48, 57, 46, 65, 100, 106, 117, 115, 116, 69, 118, 101, 110, 115].map Char.ofNat,
  [115, 97, 115, 104, 47, 115, 97, 115, 104, 108, 97, 119, 49, 54, 46, 83, 112, 114, 101, 97, 100, 83, 105, 122, 101, 115].map Char.ofNat,
  [115, 97, 115, 104, 47, 115, 97, 115, 104, 108, 97, 119, 48, 55, 46, 70, 108, 97, 116, 67, 104, 97, 110, 103, 101, 115].map Char.ofNat,
  [115, 97, 115, 104, 47, 115, 97, 115, 104, 108, 97, 119, 48, 52, 46, 82, 101, 99, 116, 73, 110, 115, 105, 100, 101].map Char.ofNat,
  [115, 97, 115, 104, 47, 115, 97, 115, 104, 108, 97, 119, 48, 55, 46, 70, 108, 97, 116, 78, 97, 109, 101, 115].map Char.ofNat,
  [115, 97, 115, 104, 47, 115, 97, 115, 104, 108, 97, 119, 48, 57, 46, 65, 100, 106, 117, 115, 116, 83, 101, 116, 115].map Char.ofNat,
  [115, 97, 115, 104, 47, 115, 97, 115, 104, 108, 97, 119, 48, 52, 46, 82, 101, 99, 116, 77, 101, 101, 116, 115].map Char.ofNat,
  [115, 97, 115, 104, 47, 115, 97, 115, 104, 108, 97, 119, 48, 52, 46, 82, 101, 99, 116, 77, 97, 121, 115].map Char.ofNat,
  [115, 97, 115, 104, 47, 115, 97, 115, 104, 108, 97, 119, 48, 55, 46, 70, 108, 97, 116, 83, 116, 105, 108, 108].map Char.ofNat,
  [115, 97, 115, 104, 47, 115, 97, 115, 104, 108, 97, 119, 48, 53, 46, 67, 101, 108, 108, 77, 97, 121, 115].map Char.ofNat,
  [115, 97, 115, 104, 47, 115, 97, 115, 104, 108, 97, 119, 48, 53, 46, 67, 101, 108, 108, 83, 97, 109, 101].map Char.ofNat,
  [115, 97, 115, 104, 47, 115, 97, 115, 104, 108, 97, 119, 48, 53, 46, 67, 101, 108, 108, 67, 111, 117, 110, 116, 115].map Char.ofNat,
  [115, 97, 115, 104, 47, 115, 97, 115, 104, 108, 97, 119, 48, 56, 46, 76, 101, 97, 115, 116, 83, 117, 109, 115].map Char.ofNat,
  [115, 97, 115, 104, 47, 115, 97, 115, 104, 108, 97, 119, 48, 53, 46, 67, 101, 108, 108, 70, 105, 110, 100, 115].map Char.ofNat,
  [115, 97, 115, 104, 47, 115, 97, 115, 104, 108, 97, 119, 48, 56, 46, 76, 101, 97, 115, 116, 73, 115].map Char.ofNat,
  [115, 97, 115, 104, 47, 115, 97, 115, 104, 108, 97, 119, 48, 56, 46, 76, 101, 97, 115, 116, 70, 105, 116, 115].map Char.ofNat,
  [115, 97, 115, 104, 47, 115, 97, 115, 104, 108, 97, 119, 48, 56, 46, 76, 101, 97, 115, 116, 80, 97, 116, 104, 115].map Char.ofNat,
  [115, 97, 115, 104, 47, 115, 97, 115, 104, 108, 97, 119, 48, 53, 46, 67, 101, 108, 108, 80, 117, 116, 115].map Char.ofNat,
  [115, 97, 115, 104, 47, 115, 97, 115, 104, 108, 97, 119, 49, 50, 46, 83, 112, 108, 105, 116, 83, 105, 122, 101, 115].map Char.ofNat,
  [115, 97, 115, 104, 47, 115, 97, 115, 104, 108, 97, 119, 49, 54, 46, 83, 112, 114, 101, 97, 100, 65, 108, 108].map Char.ofNat,
  [115, 97, 115, 104, 47, 115, 97, 115, 104, 108, 97, 119, 49, 54, 46, 83, 112, 114, 101, 97, 100, 65, 116].map Char.ofNat,
  [115, 97, 115, 104, 47, 115, 97, 115, 104, 108, 97, 119, 49, 52, 46, 80, 117, 115, 104, 73, 115].map Char.ofNat,
  [115, 97, 115, 104, 47, 115, 97, 115, 104, 108, 97, 119, 49, 52, 46, 80, 117, 115, 104, 79, 110, 101].map Char.ofNat,
  [115, 97, 115, 104, 47, 115, 97, 115, 104, 108, 97, 119, 49, 52, 46, 80, 117, 115, 104, 70, 114, 97, 109, 101, 115].map Char.ofNat,
  [115, 97, 115, 104, 47, 115, 97, 115, 104, 108, 97, 119, 49, 52, 46, 80, 117, 115, 104, 67, 97, 110].map Char.ofNat,
  [115, 97, 115, 104, 47, 115, 97, 115, 104, 108, 97, 119, 49, 50, 46, 83, 112, 108, 105, 116, 73, 115].map Char.ofNat,
  [115, 97, 115, 104, 47, 115, 97, 115, 104, 108, 97, 119, 49, 50, 46, 83, 112, 108, 105, 116, 67, 97, 110].map Char.ofNat]
theorem head_list : Try.prog.initOrder.toList = headSigns := by
  have e : Try.prog.initOrder = String.ofList headSigns := by kernel_rfl
  rw [e, String.toList_ofList]
theorem head_words : wordsSigns Try.prog.initOrder.toList = headWords := by
  rw [head_list]
  kernel_rfl
def headRest : List (List Char) := headWords.drop 3
theorem head_behind : behindMainWord (wordsSigns Try.prog.initOrder.toList) = ([99, 117, 116].map Char.ofNat) :: headRest := by
  rw [head_words]
  kernel_rfl
theorem cut_eq : ([99, 117, 116].map Char.ofNat : List Char) = "cut".toList := by decide +kernel
theorem head_behind' : behindMainWord (wordsSigns Try.prog.initOrder.toList) = "cut".toList :: headRest := head_behind.trans (congrArg (fun c => c :: headRest) cut_eq)
theorem strip_none (rest : List (List Char)) : stripLifts liftWords ("cut".toList :: rest) = ([], "cut".toList :: rest) := by
  have key : ∀ (l : List String), (l.all fun o => !("cut".toList == o.toList)) = true → stripLifts l ("cut".toList :: rest) = ([], "cut".toList :: rest) := by
    intro l
    induction l with
    | nil => intro _; rfl
    | cons o l ih =>
      intro h
      simp only [List.all_cons, Bool.and_eq_true] at h
      unfold stripLifts
      rw [if_neg (by simpa using h.1)]
      exact ih h.2
  exact key _ (by decide +kernel)
theorem make_of (P : Program) (rest : List (List Char)) (h : behindMainWord (wordsSigns P.initOrder.toList) = "cut".toList :: rest) : P.make = some .cut := by
  unfold Program.make
  rw [h]
  simp only
  have h1 : ("cut".toList == "gc".toList) = false := by decide +kernel
  have h2 : ("cut".toList == "spec".toList) = false := by decide +kernel
  rw [h1, h2, if_neg (by simp), if_pos (by simp)]
theorem lifts_of (P : Program) (rest : List (List Char)) (h : behindMainWord (wordsSigns P.initOrder.toList) = "cut".toList :: rest) : P.headLifts = [] := by
  unfold Program.headLifts
  simp only [h, strip_none]
  simp
theorem final_of (P : Program) (rest : List (List Char)) (h : behindMainWord (wordsSigns P.initOrder.toList) = "cut".toList :: rest) : P.liftsFinal = false := by
  have h1 : (some "cut".toList == some "carried".toList) = false := by decide +kernel
  unfold Program.liftsFinal
  simp only [h, lifts_of P rest h, List.head?_cons, h1, Bool.false_and, List.contains_nil, Bool.or_false]
theorem enter_of (P : Program) (rest : List (List Char)) (h : behindMainWord (wordsSigns P.initOrder.toList) = "cut".toList :: rest) (h1 : P.laysLater = false) (h2 : P.bearsReflect = false) (h3 : P.doorFits [] = true) : P.mayEnter = true := by
  unfold Program.mayEnter
  rw [h]
  simp only [strip_none]
  rw [h1, h2, h3]
  simp
theorem head_make : Try.prog.make = some .cut := make_of Try.prog headRest head_behind'
theorem head_final : Try.prog.liftsFinal = false := final_of Try.prog headRest head_behind'
theorem head_later : Try.prog.laysLater = false := by kernel_rfl
theorem head_reflect : Try.prog.bearsReflect = false := by kernel_rfl
theorem head_door : Try.prog.doorFits [] = true := by kernel_rfl
theorem head_enter : Try.prog.mayEnter = true := enter_of Try.prog headRest head_behind' head_later head_reflect head_door
theorem head_keys : (true == Try.prog.plainKeys) = true := by kernel_rfl
theorem head_heard : Try.prog.stopsHeard = true := by kernel_rfl
end Go.Proofs.Ytfdmfgaiblfbhaa.P
/- joinedFacts out of its parts, over any program. -/
namespace Go.Proofs.Ytfdmfgaiblfbhaa.P
open Go.RowKit
theorem joined_mk {P : Program} {f : FuncId} {fn : Func} {s : ChangeSpec} {c : OpenClaim}
    (h0 : (c.wf (OpenSpec.ofChange s)) = true)
    (h1 : (laidOutB P) = true)
    (h2 : (mapsRowed P) = true)
    (h3 : (fn.params.all (P.readableRec ·)) = true)
    (h4 : (namedTie P c.named s.vars) = true)
    (h5 : ((c.stops == [])) = true)
    (h6 : ((P.stops == [])) = true)
    (h7 : ((c.knobs == [])) = true)
    (h8 : ((P.stopKnobs == [])) = true)
    (h9 : ((c.inPlace == P.inPlace f)) = true)
    (h10 : ((c.unfollowed == P.unfollowed f)) = true)
    (h11 : ((c.recurses == P.recurses f)) = true)
    (h12 : ((c.named == P.varsNamed f)) = true)
    (h13 : ((c.maps == (fn.params.toList ++ s.plain.varTypes P).any (P.mapsRec ·))) = true)
    (h14 : ((c.ifaces == (fn.params.toList ++ s.plain.varTypes P).any (P.ifacesRec ·))) = true)
    (h15 : ((c.mapsOut == P.mapsAmong fn.resultTypes.toList)) = true)
    (h16 : ((c.loops == (fn.params.toList ++ s.plain.varTypes P).any (P.loopsFrom ·))) = true)
    (h17 : ((c.wideKeys == (fn.params.toList ++ s.plain.varTypes P ++ fn.resultTypes.toList).any (P.wideKeysFrom ·))) = true)
    (h18 : (s.vars.all (P.varReadable ·)) = true)
    (h19 : (fn.resultTypes.all (fun t => P.readableRec t && decide (t < P.types.size))) = true)
    (h20 : ((c.ifacesOut == fn.resultTypes.toList.any (P.ifacesRec ·))) = true)
    (h21 : ((c.loopsOut == fn.resultTypes.toList.any (P.loopsFrom ·))) = true)
    (h22 : ((c.plainKeys == P.plainKeys)) = true)
    (h23 : (c.shortTexts.isNone) = true)
    (h24 : (P.stopsHeard) = true)
    (h25 : (P.mayEnter) = true)
    (h26 : ((c.lifted == P.liftsFinal)) = true)
    (h27 : ((P.make == some c.make)) = true)
    (hd : c.domain.isEmpty = true) (hk : c.kinds = [])
    (h29 : ((c.pinned == c.pinnedBy)) = true)
    (h30 : ((c.veiled == (fn.params.toList ++ s.plain.varTypes P ++ fn.resultTypes.toList).any (P.veiledRec ·))) = true)
    (h31 : (c.veiledFits P fn.params.toList (fn.params.toList ++ s.plain.varTypes P ++ fn.resultTypes.toList)) = true)
    : joinedFacts P f fn s c = true := by
  unfold joinedFacts
  rw [h0, h1, h2, h3, h4, h5, h6, h7, h8, h9, h10, h11, h12, h13, h14, h15, h16, h17, h18, h19, h20, h21, h22, h23, h24, h25, h26, h27, if_pos hd, hk, h29, h30, h31]
  rfl
end Go.Proofs.Ytfdmfgaiblfbhaa.P
/- How a law's arguments read, with their bulk: a tree has no more cells than its reading has bulk. -/
namespace Go.Proofs.Ytfdmfgaiblfbhaa.P
open Go.RowKit Go.Proofs.YtfdmfgaiblfbhaaW.PrintWords Go.Proofs.YtfdmfgaiblfbhaaW.PrintLast Go.Proofs.YtfdmfgaiblfbhaaW.PrintMore
open Go.ChangeShapes Go.WideShapes Go.ChangeAt Go.Joins Go.Deep

section
variable {H : Type} {enc : TypeId × Value → H} {P : Program} {w : World} {base : Nat} {spare : Nat → Bool} {held : Bool}
theorem bulk_pos (d : DataW H) : 1 ≤ Rows.uptoBulk d := by
  cases d with
  | lit l => cases l <;> simp [Rows.uptoBulk]
  | _ => simp [Rows.uptoBulk]
theorem bulk_len (l : List (DataW H)) : l.length ≤ Rows.uptoBulkAll l := by
  induction l with
  | nil => simp
  | cons x xs ih =>
    have := bulk_pos x
    simp only [Rows.uptoBulkAll, List.length_cons]
    omega
theorem bulk_sum {α : Type} (m : α → Nat) : ∀ (l : List α) (es : List (DataW H)), l.length = es.length → (∀ (i : Nat) (p : α) (e : DataW H), l[i]? = some p → es[i]? = some e → m p ≤ Rows.uptoBulk e) → (l.map m).sum ≤ Rows.uptoBulkAll es := by
  intro l
  induction l with
  | nil => intro es _ _; simp
  | cons x xs ih =>
    intro es hl h
    cases es with
    | nil => simp at hl
    | cons e es =>
      have h0 := h 0 x e rfl rfl
      have h1 := ih es (by simpa using hl) (fun i p e hp he => h (i + 1) p e (by simpa using hp) (by simpa using he))
      simp only [List.map_cons, List.sum_cons, Rows.uptoBulkAll]
      omega
theorem trod_struct4z {t : TypeId} {f0 f1 f2 f3 : Field} {fuel : Nat} {cs : List Value} {x : DataW H × List MemPlace} (ht : P.underlying t = some (.struct #[f0, f1, f2, f3])) (h : DataW.trod enc P w base spare held fuel t cs = some x) :
    ∃ y0 y1 y2 y3 n, fuel = n + 1 ∧ x.1 = .agg [y0.1, y1.1, y2.1, y3.1] ∧ cs.length = P.cellsOf t ∧ DataW.trod enc P w base spare held n f0.type ((cs.drop f0.offset).take (P.cellsOf f0.type)) = some y0 ∧
      DataW.trod enc P w base spare held n f1.type ((cs.drop f1.offset).take (P.cellsOf f1.type)) = some y1 ∧ DataW.trod enc P w base spare held n f2.type ((cs.drop f2.offset).take (P.cellsOf f2.type)) = some y2 ∧
      DataW.trod enc P w base spare held n f3.type ((cs.drop f3.offset).take (P.cellsOf f3.type)) = some y3 := by
  obtain ⟨xs, n, hn, rfl, hl, hlen, hf⟩ := DataW.trod_struct ht h
  match xs, hlen with
  | [y0, y1, y2, y3], _ => exact ⟨y0, y1, y2, y3, n, hn, rfl, hl, by simpa using hf 0 f0 rfl, by simpa using hf 1 f1 rfl, by simpa using hf 2 f2 rfl, by simpa using hf 3 f3 rfl⟩
/-- A row whose elements read: so many, and of such a bulk. -/
theorem open_rowz {α : Type} {k : Kd α} {ok : α → Prop} (m : α → Nat) {t e : TypeId} {fuel : Nat} {cs : List Value} {x : DataW H × List MemPlace} (ht : P.underlying t = some (.slice e)) (hs : k.sz = P.cellsOf e)
    (hE : ∀ n, n < fuel → ∀ cs y, DataW.trod enc P w base spare held n e cs = some y → ∃ p, k.K w p cs ∧ ok p ∧ m p ≤ Rows.uptoBulk y.1) (h : DataW.trod enc P w base spare held fuel t cs = some x) :
    ∃ A c l, cs = [.slice A (l : List α).length c] ∧ l.length ≤ c ∧ k.C w A l.length l ∧ (∀ p, p ∈ l → ok p) ∧ (l.map m).sum < Rows.uptoBulk x.1 ∧ l.length < Rows.uptoBulk x.1 := by
  rcases DataW.trod_slice ht h with ⟨rfl, rfl⟩ | ⟨a, len, cap, elems, rest, n, hn, rfl, rfl, hb, hl, hm, hlen, hel, hsp, hns⟩
  · exact ⟨none, 0, [], rfl, Nat.le_refl _, ⟨rfl, by simp, fun h => absurd h (by simp)⟩, (fun p hp => by cases hp), (by simp [Rows.uptoBulk]), (by simp [Rows.uptoBulk])⟩
  · obtain ⟨l, hl2, hq⟩ := row_of (α := α) (Q := fun i p => ok p ∧ (∃ c, c.length = k.sz ∧ k.K w p c ∧ ∀ j u, c[j]? = some u → w.cell? (a.add (i * k.sz + j)) = some u) ∧ ∀ e, elems[i]? = some e → m p ≤ Rows.uptoBulk e.1) len (fun i hi => by
      have key := hel i hi
      rw [List.getElem?_eq_getElem (by omega)] at key
      obtain ⟨cs', h1, h2⟩ := Option.bind_eq_some_iff.1 key
      obtain ⟨p, hp, hok, hm⟩ := hE n (by omega) cs' _ h2
      obtain ⟨h3, h4⟩ := cells_at h1
      refine ⟨p, hok, ⟨cs', by rw [h3, hs], hp, fun j u hj => ?_⟩, fun e he => ?_⟩
      · rw [hs, ← Deep.add_add]
        exact h4 j u hj
      · rw [List.getElem?_eq_getElem (by omega)] at he
        cases he
        exact hm)
    subst hl2
    refine ⟨some a, cap, l, rfl, hl, ⟨rfl, by unfold maxLen at hm; omega, fun _ => ⟨a, rfl, fun j p hj => ?_⟩⟩, fun p hp => ?_, ?_, ?_⟩
    · obtain ⟨_, ⟨c, h1, h2, h3⟩, _⟩ := hq j p hj
      exact ⟨c, h1, h2, h3⟩
    · obtain ⟨i, hi, rfl⟩ := List.getElem_of_mem hp
      exact (hq i _ (List.getElem?_eq_getElem hi)).1
    · have := bulk_sum m l (elems.map (·.1)) (by simp [hlen]) (fun i p e hp he => by
        rw [List.getElem?_map] at he
        obtain ⟨e', he', rfl⟩ := Option.map_eq_some_iff.1 he
        exact (hq i p hp).2.2 e' he')
      simp only [Rows.uptoBulk]
      omega
    · have := bulk_len (elems.map (·.1))
      simp only [List.length_map] at this
      simp only [Rows.uptoBulk]
      omega
end
section
variable {H : Type} {enc : TypeId × Value → H} {w : World} {base : Nat} {spare : Nat → Bool} {held : Bool}
set_option maxRecDepth 100000 in
theorem read26nz : ∀ (fuel : Nat) {cs : List Value} {x : DataW H × List MemPlace} (_ : DataW.trod enc Try.prog w base spare held fuel 26 cs = some x), ∃ r : S26, (Kd.upto F26 7 [26] fuel).K w r cs ∧ wfn26 fuel r ∧ sz r ≤ Rows.uptoBulk x.1 := by
  intro fuel
  induction fuel using Nat.strongRecOn with
  | _ fuel ih =>
  intro cs x h
  cases fuel with
  | zero => simp [DataW.trod] at h
  | succ fuel =>
    obtain ⟨y0, y1, y2, y3, m, hm, hx, hl, h0, h1, h2, h3⟩ := trod_struct4z Try.underlying26 h
    obtain rfl : fuel = m := by omega
    rw [cells26] at hl
    match cs, hl with
    | [c0, c1, c2, c3, c4, c5, c6], _ =>
        simp only [cells3, cells5, cells23, cells24, List.drop_zero, List.take_succ_cons, List.take_zero, List.drop_succ_cons] at h0 h1 h2 h3
        obtain ⟨n0, e0, _, w0⟩ := DataW.trod_int Try.underlying5 h0
        obtain ⟨n2, e2, _, w2⟩ := DataW.trod_int Try.underlying3 h2
        simp only [List.cons.injEq, and_true] at e0 e2
        subst e0 e2
        obtain ⟨r, hr, hw⟩ := read23 h1
        obtain e1 := k23_open hr
        simp only [List.cons.injEq, and_true] at e1
        obtain ⟨rfl, rfl, rfl, rfl⟩ := e1
        obtain ⟨A, c, l, e3, hlc, hC, hok, hsum, _⟩ := open_rowz (k := Kd.upto F26 7 [26] fuel) (ok := wfn26 fuel) sz Try.underlying24 (by rw [sz26, cells26]) (fun n hn cs y hy => by
          obtain ⟨p, hp, hok, hz⟩ := ih n (by omega) hy
          exact ⟨p, Kd.upto_K_le mono26 sz26 (by omega) hp, wfn26_le (by omega) hok, hz⟩) h3
        simp only [List.cons.injEq, and_true] at e3
        subst e3
        have hlen9 : l.length ≤ 9223372036854775807 := hC.2.1
        refine ⟨⟨n0, r, n2, l⟩, ?_, ⟨u8_of w0, hw, i64_of w2, hlen9, hok⟩, ?_⟩
        · exact ⟨[.int .u8 n0], [.int .i64 r.f0, .int .i64 r.f1, .int .i64 r.f2, .int .i64 r.f3, .int .i64 n2, .slice A l.length c], rfl, rfl, [.int .i64 r.f0, .int .i64 r.f1, .int .i64 r.f2, .int .i64 r.f3], [.int .i64 n2, .slice A l.length c], rfl, k23_mk w r, [.int .i64 n2], [.slice A l.length c], rfl, rfl, A, c, rfl, hlc, hC⟩
        · rw [hx, sz_eq]
          have := szL_sum l
          simp only [Rows.uptoBulk, Rows.uptoBulkAll]
          have h3 := bulk_pos y0.1
          omega
theorem read26z {fuel : Nat} {cs : List Value} {x : DataW H × List MemPlace} (h : DataW.trod enc Try.prog w base spare held fuel 26 cs = some x) : ∃ r : S26, k26.K w r cs ∧ wf26 r ∧ sz r ≤ Rows.uptoBulk x.1 := by
  obtain ⟨r, hr, hw, hz⟩ := read26nz fuel h
  exact ⟨r, ⟨fuel, hr⟩, ⟨fuel, hw⟩, hz⟩
end
end Go.Proofs.Ytfdmfgaiblfbhaa.P
/- The row of the law LeastIs, second form (what it reads is of bulk at most 1048576), out of its plain law and its walk. -/
namespace Go.Proofs.Ytfdmfgaiblfbhaa.leastIsUpto
open Go.ChangeShapes Go.WideShapes Go.ChangeAt Go.RowKit Go.Proofs.Ytfdmfgaiblfbhaa.P Go.Proofs.YtfdmfgaiblfbhaaW.PrintWords
open Go.ChangeMaps (open_string shut_string)
theorem own : ownKnob Try.prog.godebug = none := by kernel_rfl
theorem laidOut : laidOutB Try.prog = true := by kernel_rfl
set_option maxRecDepth 100000 in
theorem lifted (os : Os) (started : os.Started) (H : Type) (enc : TypeId × Value → H) (F : Stop.Interp) :
  ReturnsInHanded {} Try.checked os 21 .any ((Rows.OpenSpec.upto Rows.leastIsSpec).pre6 enc Try.prog Try.f21 Rows.leastIsUptoRow.domain false) (((Rows.OpenSpec.upto Rows.leastIsSpec).at F).post enc Try.prog Try.f21 false true false false) := by
 refine returnsInHanded_of_cond (C := Try.checked) (s := Rows.OpenSpec.upto Rows.leastIsSpec) (k := Rows.uptoSmall) rfl own started (by kernel_rfl) Try.func21
  (OpenSpec.witness (enc := enc) (C := Try.checked) (s := Rows.OpenSpec.upto Rows.leastIsSpec) (k := Rows.uptoSmall) rfl false ⟨#[], #[.agg #[.int .u8 0, .int .i64 0, .int .i64 0, .int .i64 0, .int .i64 0, .int .i64 0, .slice none 0 0], .int .u8 0, .int .i64 0, .int .i64 0], []⟩ 8 (by kernel_rfl) (by kernel_rfl) (by kernel_rfl)
   (x := ([.agg [.lit (.int .u8 0), .agg [.lit (.int .i64 0), .lit (.int .i64 0), .lit (.int .i64 0), .lit (.int .i64 0)], .lit (.int .i64 0), .nil], .lit (.int .u8 0), .lit (.int .i64 0), .lit (.int .i64 0)], [], [])) (by kernel_rfl) rfl (by kernel_rfl)) ?_
 intro W base args ds gs before hval0 hW hcnd hk0 _
 have hval : ∀ (j : Nat) t v, Try.f21.params[j]? = some t → args[j]? = some v → Value.okWide Try.prog W .any base t v := hval0
 have hW' := hW
 obtain ⟨p, q, hA0, hV, rfl, hfz, hnd⟩ := hW
 have hA : DataW.TrodAll enc Try.prog W 0 (fun _ => true) true Try.f21.params.toList args.toList ds p := hA0
 rw [Try.params21] at hA hval
 obtain ⟨v0, vs0, d0, ds0, p0, q0, hargs, rfl, rfl, h0, r0⟩ := trodAll_cons hA
 obtain ⟨v1, vs1, d1, ds1, p1, q1, rfl, rfl, rfl, h1, r1⟩ := trodAll_cons r0
 obtain ⟨v2, vs2, d2, ds2, p2, q2, rfl, rfl, rfl, h2, r2⟩ := trodAll_cons r1
 obtain ⟨v3, vs3, d3, ds3, p3, q3, rfl, rfl, rfl, h3, r3⟩ := trodAll_cons r2
 obtain ⟨rfl, rfl, rfl⟩ := trodAll_nil r3
 obtain rfl : args = #[v0, v1, v2, v3] := by cases args; simp_all
 obtain ⟨rfl, rfl⟩ := trodVars_none hV
 have hB := of_decide_eq_true hk0
 simp only [List.cons_append, List.nil_append, List.append_nil, Rows.uptoBulkAll] at hB
 have z0 : Rows.uptoBulk d0 ≤ 1048576 := by omega
 have k0 := h0
 have lt0 : ∀ x ∈ p0, x.block < W.heap.size := by obtain ⟨m, hm⟩ := k0; exact DataW.trod_lt m _ _ _ hm
 obtain ⟨fuel0, hf0⟩ := h0
 obtain ⟨cs0, rfl, _⟩ := okWide_struct Try.underlying26 (hval 0 26 v0 rfl rfl)
 obtain ⟨a0, b0, w0, y0⟩ := read26z hf0
 obtain ⟨A0, c0, e0, hc0, hr0⟩ := k26_open b0
 obtain rfl := agg_of e0
 obtain ⟨a1, rfl, rfl, rfl, w1⟩ := open_int Try.underlying5 (hval 1 5 v1 rfl rfl) h1
 obtain ⟨a2, rfl, rfl, rfl, w2⟩ := open_int Try.underlying3 (hval 2 3 v2 rfl rfl) h2
 obtain ⟨a3, rfl, rfl, rfl, w3⟩ := open_int Try.underlying3 (hval 3 3 v3 rfl rfl) h3
 obtain ⟨k, hP⟩ := Pure.LeastIs a0 a1 a2 a3 w0 (Nat.le_trans y0 z0) (u8_of w1) (i64_of w2) (i64_of w3)
 refine (sashlaw08_LeastIs.calls k a0.f0 a0.f1.f0 a0.f1.f1 a0.f1.f2 a0.f1.f3 a0.f2 _ _ a0.f3 a1 a2 a3 true W hr0 hc0 hP).mono fun e W' ⟨he, bel0⟩ => ?_
 have bel : Below W.heap.size W W' := bel0
 subst he
 exact ⟨_, rfl, _, _, _, [], _, [], hW', trodAll_mk1 (shut_bool Try.underlying4 _), (trodAll_cons_mk (Below.trod laidOut (by kernel_rfl) (of_decide_eq_true (by kernel_rfl)) k0 bel lt0) (trodAll_cons_mk (shut_int Try.underlying5 w1) (trodAll_cons_mk (shut_int Try.underlying3 w2) (trodAll_cons_mk (shut_int Try.underlying3 w3) trodAll_mk0)))), rfl, bel.frame _, fun h => by cases h⟩
theorem j0 : (Rows.leastIsUptoRow.wf (OpenSpec.ofChange (Rows.OpenSpec.upto Rows.leastIsSpec).bare)) = true := by kernel_rfl
theorem j1 : (laidOutB Try.prog) = true := by kernel_rfl
theorem j2 : (mapsRowed Try.prog) = true := by kernel_rfl
theorem j3 : (Try.f21.params.all (Try.prog.readableRec ·)) = true := by kernel_rfl
theorem j4 : (namedTie Try.prog Rows.leastIsUptoRow.named (Rows.OpenSpec.upto Rows.leastIsSpec).bare.vars) = true := by kernel_rfl
theorem j5 : ((Rows.leastIsUptoRow.stops == [])) = true := by kernel_rfl
theorem j6 : ((Try.prog.stops == [])) = true := by kernel_rfl
theorem j7 : ((Rows.leastIsUptoRow.knobs == [])) = true := by kernel_rfl
theorem j8 : ((Try.prog.stopKnobs == [])) = true := by kernel_rfl
theorem j9 : ((Rows.leastIsUptoRow.inPlace == Try.prog.inPlace 21)) = true := by kernel_rfl
theorem j10 : ((Rows.leastIsUptoRow.unfollowed == Try.prog.unfollowed 21)) = true := by kernel_rfl
theorem j11 : ((Rows.leastIsUptoRow.recurses == Try.prog.recurses 21)) = true := by kernel_rfl
theorem j12 : ((Rows.leastIsUptoRow.named == Try.prog.varsNamed 21)) = true := by kernel_rfl
theorem j13 : ((Rows.leastIsUptoRow.maps == (Try.f21.params.toList ++ (Rows.OpenSpec.upto Rows.leastIsSpec).bare.plain.varTypes Try.prog).any (Try.prog.mapsRec ·))) = true := by kernel_rfl
theorem j14 : ((Rows.leastIsUptoRow.ifaces == (Try.f21.params.toList ++ (Rows.OpenSpec.upto Rows.leastIsSpec).bare.plain.varTypes Try.prog).any (Try.prog.ifacesRec ·))) = true := by kernel_rfl
theorem j15 : ((Rows.leastIsUptoRow.mapsOut == Try.prog.mapsAmong Try.f21.resultTypes.toList)) = true := by kernel_rfl
theorem j16 : ((Rows.leastIsUptoRow.loops == (Try.f21.params.toList ++ (Rows.OpenSpec.upto Rows.leastIsSpec).bare.plain.varTypes Try.prog).any (Try.prog.loopsFrom ·))) = true := by kernel_rfl
theorem j17 : ((Rows.leastIsUptoRow.wideKeys == (Try.f21.params.toList ++ (Rows.OpenSpec.upto Rows.leastIsSpec).bare.plain.varTypes Try.prog ++ Try.f21.resultTypes.toList).any (Try.prog.wideKeysFrom ·))) = true := by kernel_rfl
theorem j18 : ((Rows.OpenSpec.upto Rows.leastIsSpec).bare.vars.all (Try.prog.varReadable ·)) = true := by kernel_rfl
theorem j19 : (Try.f21.resultTypes.all (fun t => Try.prog.readableRec t && decide (t < Try.prog.types.size))) = true := by kernel_rfl
theorem j20 : ((Rows.leastIsUptoRow.ifacesOut == Try.f21.resultTypes.toList.any (Try.prog.ifacesRec ·))) = true := by kernel_rfl
theorem j21 : ((Rows.leastIsUptoRow.loopsOut == Try.f21.resultTypes.toList.any (Try.prog.loopsFrom ·))) = true := by kernel_rfl
theorem j23 : (Rows.leastIsUptoRow.shortTexts.isNone) = true := by kernel_rfl
theorem j29 : ((Rows.leastIsUptoRow.pinned == Rows.leastIsUptoRow.pinnedBy)) = true := by kernel_rfl
theorem j30 : ((Rows.leastIsUptoRow.veiled == (Try.f21.params.toList ++ (Rows.OpenSpec.upto Rows.leastIsSpec).bare.plain.varTypes Try.prog ++ Try.f21.resultTypes.toList).any (Try.prog.veiledRec ·))) = true := by kernel_rfl
theorem j31 : (Rows.leastIsUptoRow.veiledFits Try.prog Try.f21.params.toList (Try.f21.params.toList ++ (Rows.OpenSpec.upto Rows.leastIsSpec).bare.plain.varTypes Try.prog ++ Try.f21.resultTypes.toList)) = true := by kernel_rfl
theorem closed : joinedFacts Try.prog 21 Try.f21 (Rows.OpenSpec.upto Rows.leastIsSpec).bare Rows.leastIsUptoRow = true := P.joined_mk j0 j1 j2 j3 j4 j5 j6 j7 j8 j9 j10 j11 j12 j13 j14 j15 j16 j17 j18 j19 j20 j21 P.head_keys j23 P.head_heard P.head_enter (by rw [P.head_final]; rfl) (by rw [P.head_make]; rfl) rfl rfl j29 j30 j31
theorem over : Rows.leastIsUptoRow.holds Try.pinned (Rows.OpenSpec.upto Rows.leastIsSpec) :=
 OpenClaim.holds_of_cond 21 Try.f21 rfl rfl rfl rfl rfl rfl rfl ⟨rfl, rfl, rfl, rfl, rfl⟩ rfl rfl rfl rfl rfl (by kernel_rfl) Try.func21 closed
  (of_decide_eq_true (by kernel_rfl)) (by unfold Func.isWrapper; first | (rw [if_pos (by decide +kernel)]; kernel_rfl) | (rw [if_neg (by decide +kernel)]; exact ⟨rfl, rfl⟩))
  (fun os started H enc _ F => lifted os started H enc F)
theorem proved : Rows.LeastIsUptoSaid := over
#print axioms proved
end Go.Proofs.Ytfdmfgaiblfbhaa.leastIsUpto
namespace Go.Proofs.Ytfdmfgaiblfbhaa
/-- The row, under a short name, for the claim. -/
theorem leastIsUpto_holds : Rows.LeastIsUptoSaid := leastIsUpto.proved
end Go.Proofs.Ytfdmfgaiblfbhaa
