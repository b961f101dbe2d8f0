/- May a tree be, by the reference: plain data. -/
import Derived.Test.YtfdmfgaiblfbhaaYTree
import Derived.Test.YtfdmfgaiblfbhaaPF38
namespace Go.Proofs.Ytfdmfgaiblfbhaa.P
open Go.RowKit Go.Proofs.YtfdmfgaiblfbhaaW.PrintWords Go.Proofs.YtfdmfgaiblfbhaaW.PrintLast Go.Proofs.YtfdmfgaiblfbhaaW.PrintMore

/-- May one cell be, by itself? -/
def okC (c : S26) : Bool := mayR c.f1 && decide (1 ≤ c.f0 ∧ c.f0 ≤ 3) && decide (c.f0 = 1 → c.f3.length = 0 ∧ 0 ≤ c.f2 ∧ c.f2 ≤ 2147483647) && decide (c.f0 > 1 → 2 ≤ c.f3.length ∧ c.f2 = 0)
/-- No number twice? -/
def distinctC : List S26 → Bool
  | [] => true
  | x :: xs => (xs.all fun y => decide (y.f2 ≠ x.f2)) && distinctC xs
def apartTo (pre : List S26) (x : S26) : Bool := pre.all fun y => decide (x.f2 ≠ y.f2)
theorem distinctC_app (pre : List S26) (x : S26) : distinctC (pre ++ [x]) = (distinctC pre && apartTo pre x) := by
  induction pre with
  | nil => simp [distinctC, apartTo]
  | cons y ys ih =>
    have : (decide (x.f2 ≠ y.f2)) = decide (¬ x.f2 = y.f2) := rfl
    simp only [List.cons_append, distinctC, ih, apartTo, List.all_append, List.all_cons, List.all_nil, Bool.and_true]
    cases (ys.all fun z => decide (z.f2 ≠ y.f2)) <;> cases (decide (x.f2 ≠ y.f2)) <;> cases distinctC ys <;> cases (ys.all fun z => decide (x.f2 ≠ z.f2)) <;> rfl
theorem distinctC_pre : ∀ (pre rest : List S26), distinctC pre = false → distinctC (pre ++ rest) = false := by
  intro pre rest h
  induction rest generalizing pre with
  | nil => rw [List.append_nil]; exact h
  | cons x xs ih =>
    have := ih (pre ++ [x]) (by rw [distinctC_app, h, Bool.false_and])
    rwa [List.append_assoc] at this
def mayC (c : S26) : Bool := decide (sz c ≤ 20000) && ((allC c).all okC && distinctC (leavesC c))

theorem may_ev (c : S26) (h : sz c ≤ 1048576) : Ev (fun k => sashref05_May.f k c.f0 c.f1.f0 c.f1.f1 c.f1.f2 c.f1.f3 c.f2 c.f3) (mayC c) := by
  unfold sashref05_May.f
  refine Ev.bind (all_cells _ c h (Nat.le_refl _)) ?_
  by_cases h2 : ((allC c).length : Int) > 20000
  · refine ev_pos h2 ?_
    have : mayC c = false := by
      unfold mayC sz
      rw [decide_eq_false (by omega), Bool.false_and]
    rw [this]
    exact Ev.now _
  refine ev_neg h2 ?_
  have hm : mayC c = ((allC c).all okC && distinctC (leavesC c)) := by
    unfold mayC sz
    rw [decide_eq_true (by omega), Bool.true_and]
  have hlv : (leavesC c).length ≤ 1048576 := by have := leaves_len c; omega
  -- the leaves' numbers
  have inner : ∀ (pre : List S26) (x : S26) (rest : List S26), pre ++ x :: rest = leavesC c → ∀ b : Bool, (apartTo pre x = true → Ev (fun k => sashref05_May.l1 k (leavesC c) ((leavesC c).length : Int) ((pre ++ [x]).length : Int)) b) → (apartTo pre x = false → b = false) →
      ∀ (q p : List S26), p ++ q = pre → apartTo p x = true → Ev (fun k => sashref05_May.l2 k (leavesC c) (pre.length : Int) (p.length : Int) ((leavesC c).length : Int) (pre.length : Int)) b := by
    intro pre x rest hp b hb hf q
    have hl : (pre.length : Int) < ((leavesC c).length : Int) := by rw [← hp, List.length_append, List.length_cons]; omega
    have hr : rd_T26 (leavesC c) (pre.length : Int) = x := by rw [← hp]; exact rd26_in pre x rest
    have hu : wrap64 ((pre.length : Int) + 1) = ((pre ++ [x]).length : Int) := up_in pre x rest (by rw [hp]; omega)
    induction q with
    | nil =>
      intro p hq ha
      rw [List.append_nil] at hq
      subst hq
      refine Ev.step (fun k => ?_) (hb ha)
      simp only [sashref05_May.l2]
      rw [if_neg (by omega), hu]
    | cons y ys ihq =>
      intro p hq ha
      have hpl : (p.length : Int) < (pre.length : Int) := by rw [← hq, List.length_append, List.length_cons]; omega
      have hpr : rd_T26 (leavesC c) (p.length : Int) = y := by rw [← hp, ← hq, List.append_assoc, List.cons_append]; exact rd26_in p y _
      have hpu : wrap64 ((p.length : Int) + 1) = ((p ++ [y]).length : Int) := up_in p y ys (by rw [hq]; omega)
      by_cases he : x.f2 = y.f2
      · have hbf : b = false := hf (by
          unfold apartTo
          rw [← hq, List.all_append, List.all_cons, decide_eq_false (by simpa using he), Bool.false_and, Bool.and_false])
        rw [hbf]
        refine Ev.step (f := fun _ => some false) (fun k => ?_) (Ev.now _)
        simp only [sashref05_May.l2]
        rw [if_pos hpl, if_pos (by omega), if_pos hl, if_pos (by omega), if_pos (by omega), hr, hpr, if_pos he]
      · have e2 := ihq (p ++ [y]) (by rw [List.append_assoc]; exact hq) (by
          unfold apartTo at ha ⊢
          rw [List.all_append, ha, Bool.true_and, List.all_cons, decide_eq_true (by simpa using he)]
          rfl)
        refine Ev.step (fun k => ?_) e2
        simp only [sashref05_May.l2]
        rw [if_pos hpl, if_pos (by omega), if_pos hl, if_pos (by omega), if_pos (by omega), hr, hpr, if_neg he, hpu]
  have outer : ∀ (rest pre : List S26), pre ++ rest = leavesC c → distinctC pre = true → Ev (fun k => sashref05_May.l1 k (leavesC c) ((leavesC c).length : Int) (pre.length : Int)) (distinctC (leavesC c)) := by
    intro rest
    induction rest with
    | nil =>
      intro pre hp hd
      rw [List.append_nil] at hp
      have hd2 : distinctC (leavesC c) = true := by rw [← hp]; exact hd
      rw [hd2]
      refine Ev.step (f := fun _ => some true) (fun k => ?_) (Ev.now _)
      simp only [sashref05_May.l1]
      rw [if_neg (by rw [← hp]; omega)]
    | cons x xs ihr =>
      intro pre hp hd
      have hl : (pre.length : Int) < ((leavesC c).length : Int) := by rw [← hp, List.length_append, List.length_cons]; omega
      have e := inner pre x xs hp (distinctC (leavesC c)) (fun ha => ihr (pre ++ [x]) (by rw [List.append_assoc]; exact hp) (by rw [distinctC_app, hd, ha]; rfl)) (fun ha => by
        have := distinctC_pre (pre ++ [x]) xs (by rw [distinctC_app, ha, Bool.and_false])
        rwa [List.append_assoc, List.singleton_append, hp] at this) pre [] rfl rfl
      refine Ev.step (fun k => ?_) e
      simp only [sashref05_May.l1]
      rw [if_pos hl]
      rfl
  -- the cells
  have cells : ∀ (rest pre : List S26), pre ++ rest = allC c → pre.all okC = true → Ev (fun k => sashref05_May.l0 k (allC c) ((allC c).length : Int) (pre.length : Int) c.f0 c.f1.f0 c.f1.f1 c.f1.f2 c.f1.f3 c.f2 c.f3) (mayC c) := by
    intro rest
    induction rest with
    | nil =>
      intro pre hp ha
      rw [List.append_nil] at hp
      rw [hm, ← hp, ha, Bool.true_and, hp]
      refine Ev.step (f := fun k => (sashref05_Leaves.f k c.f0 c.f1.f0 c.f1.f1 c.f1.f2 c.f1.f3 c.f2 c.f3).bind fun t => sashref05_May.l1 k t (t.length : Int) 0) (fun k => ?_) (Ev.bind (leaves_ev c h) (outer (leavesC c) [] rfl rfl))
      simp only [sashref05_May.l0]
      rw [if_neg (by omega)]
    | cons x xs ihr =>
      intro pre hp ha
      have hsz : (allC c).length ≤ 1048576 := h
      have hl : (pre.length : Int) < ((allC c).length : Int) := by rw [← hp, List.length_append, List.length_cons]; omega
      have hr : rd_T26 (allC c) (pre.length : Int) = x := by rw [← hp]; exact rd26_in pre x xs
      have hu : wrap64 ((pre.length : Int) + 1) = ((pre ++ [x]).length : Int) := up_in pre x xs (by rw [hp]; omega)
      have hno : okC x = false → mayC c = false := fun hx => by
        rw [hm, ← hp, List.all_append, List.all_cons, hx, Bool.false_and, Bool.and_false, Bool.false_and]
      have hyes : okC x = true → Ev (fun k => sashref05_May.l0 k (allC c) ((allC c).length : Int) ((pre ++ [x]).length : Int) c.f0 c.f1.f0 c.f1.f1 c.f1.f2 c.f1.f3 c.f2 c.f3) (mayC c) := fun hx =>
        ihr (pre ++ [x]) (by rw [List.append_assoc]; exact hp) (by rw [List.all_append, ha, Bool.true_and, List.all_cons, hx]; rfl)
      have j1t : okC x = false → Ev (fun k => sashref05_May.j1 k (allC c) (pre.length : Int) ((allC c).length : Int) (pre.length : Int) true c.f0 c.f1.f0 c.f1.f1 c.f1.f2 c.f1.f3 c.f2 c.f3) (mayC c) := fun hx => by
        rw [hno hx]
        refine Ev.step (f := fun _ => some false) (fun k => ?_) (Ev.now _)
        simp only [sashref05_May.j1]
        rw [if_pos trivial]
      refine Ev.step (f := fun k => (sashref04_May.f x.f1.f0 x.f1.f1 x.f1.f2 x.f1.f3).bind fun t179 => (if t179 = true then (if x.f0 < 1 then (sashref05_May.j1 k (allC c) (pre.length : Int) ((allC c).length : Int) (pre.length : Int) true c.f0 c.f1.f0 c.f1.f1 c.f1.f2 c.f1.f3 c.f2 c.f3) else (sashref05_May.j1 k (allC c) (pre.length : Int) ((allC c).length : Int) (pre.length : Int) (decide (x.f0 > 3)) c.f0 c.f1.f0 c.f1.f1 c.f1.f2 c.f1.f3 c.f2 c.f3)) else (sashref05_May.j1 k (allC c) (pre.length : Int) ((allC c).length : Int) (pre.length : Int) true c.f0 c.f1.f0 c.f1.f1 c.f1.f2 c.f1.f3 c.f2 c.f3))) (fun k => ?_) ?_
      · simp only [sashref05_May.l0]
        rw [if_pos hl, if_pos (by omega), if_pos hl, hr]
      · refine Ev.bind (a := mayR x.f1) (ev_some fun k => refmay_some _ _ _ _) ?_
        by_cases hmr : mayR x.f1 = true
        · refine ev_pos hmr ?_
          by_cases h1 : x.f0 < 1
          · refine ev_pos h1 (j1t ?_)
            unfold okC
            rw [decide_eq_false (p := 1 ≤ x.f0 ∧ x.f0 ≤ 3) (by omega)]
            simp
          · refine ev_neg h1 ?_
            by_cases h3 : x.f0 > 3
            · rw [decide_eq_true h3]
              refine j1t ?_
              unfold okC
              rw [decide_eq_false (p := 1 ≤ x.f0 ∧ x.f0 ≤ 3) (by omega)]
              simp
            · rw [decide_eq_false h3]
              have hk : okC x = (decide (x.f0 = 1 → x.f3.length = 0 ∧ 0 ≤ x.f2 ∧ x.f2 ≤ 2147483647) && decide (x.f0 > 1 → 2 ≤ x.f3.length ∧ x.f2 = 0)) := by
                unfold okC
                rw [hmr, decide_eq_true (p := 1 ≤ x.f0 ∧ x.f0 ≤ 3) (by omega), Bool.true_and, Bool.true_and]
              have go : ∀ {f : Nat → Option Bool}, Ev f (mayC c) → (∀ k, sashref05_May.j1 (k + 1) (allC c) (pre.length : Int) ((allC c).length : Int) (pre.length : Int) false c.f0 c.f1.f0 c.f1.f1 c.f1.f2 c.f1.f3 c.f2 c.f3 = f k) → Ev (fun k => sashref05_May.j1 k (allC c) (pre.length : Int) ((allC c).length : Int) (pre.length : Int) false c.f0 c.f1.f0 c.f1.f1 c.f1.f2 c.f1.f3 c.f2 c.f3) (mayC c) := fun he hs => Ev.step hs he
              have base : ∀ k, sashref05_May.j1 (k + 1) (allC c) (pre.length : Int) ((allC c).length : Int) (pre.length : Int) false c.f0 c.f1.f0 c.f1.f1 c.f1.f2 c.f1.f3 c.f2 c.f3 =
                  (if x.f0 = 1 then (if (x.f3.length : Int) > 0 then (some false) else (if x.f2 < 0 then (some false) else (if x.f2 > 2147483647 then (some false) else (if x.f0 > 1 then (if (x.f3.length : Int) < 2 then (some false) else (if x.f2 = 0 then (sashref05_May.l0 k (allC c) ((allC c).length : Int) ((pre ++ [x]).length : Int) c.f0 c.f1.f0 c.f1.f1 c.f1.f2 c.f1.f3 c.f2 c.f3) else (some false))) else (sashref05_May.l0 k (allC c) ((allC c).length : Int) ((pre ++ [x]).length : Int) c.f0 c.f1.f0 c.f1.f1 c.f1.f2 c.f1.f3 c.f2 c.f3))))) else (if x.f0 > 1 then (if (x.f3.length : Int) < 2 then (some false) else (if x.f2 = 0 then (sashref05_May.l0 k (allC c) ((allC c).length : Int) ((pre ++ [x]).length : Int) c.f0 c.f1.f0 c.f1.f1 c.f1.f2 c.f1.f3 c.f2 c.f3) else (some false))) else (sashref05_May.l0 k (allC c) ((allC c).length : Int) ((pre ++ [x]).length : Int) c.f0 c.f1.f0 c.f1.f1 c.f1.f2 c.f1.f3 c.f2 c.f3))) := by
                intro k
                simp only [sashref05_May.j1]
                rw [if_neg (by simp), if_pos (by omega), if_pos hl, hr, hu]
              have bad : okC x = false → Ev (fun _ : Nat => some false) (mayC c) := fun hx => by rw [hno hx]; exact Ev.now _
              by_cases g1 : x.f0 = 1
              · by_cases g2 : (x.f3.length : Int) > 0
                · exact go (bad (by rw [hk, decide_eq_false (by omega), Bool.false_and])) (fun k => by rw [base, if_pos g1, if_pos g2])
                · by_cases g3 : x.f2 < 0
                  · exact go (bad (by rw [hk, decide_eq_false (by omega), Bool.false_and])) (fun k => by rw [base, if_pos g1, if_neg g2, if_pos g3])
                  · by_cases g4 : x.f2 > 2147483647
                    · exact go (bad (by rw [hk, decide_eq_false (by omega), Bool.false_and])) (fun k => by rw [base, if_pos g1, if_neg g2, if_neg g3, if_pos g4])
                    · exact go (hyes (by rw [hk, decide_eq_true (by omega), decide_eq_true (by omega)]; rfl)) (fun k => by rw [base, if_pos g1, if_neg g2, if_neg g3, if_neg g4, if_neg (by omega)])
              · by_cases g2 : (x.f3.length : Int) < 2
                · exact go (bad (by rw [hk, decide_eq_false (p := x.f0 > 1 → 2 ≤ x.f3.length ∧ x.f2 = 0) (by omega), Bool.and_false])) (fun k => by rw [base, if_neg g1, if_pos (by omega), if_pos g2])
                · by_cases g3 : x.f2 = 0
                  · exact go (hyes (by rw [hk, decide_eq_true (by omega), decide_eq_true (by omega)]; rfl)) (fun k => by rw [base, if_neg g1, if_pos (by omega), if_neg g2, if_pos g3])
                  · exact go (bad (by rw [hk, decide_eq_false (p := x.f0 > 1 → 2 ≤ x.f3.length ∧ x.f2 = 0) (by omega), Bool.and_false])) (fun k => by rw [base, if_neg g1, if_pos (by omega), if_neg g2, if_neg g3])
        · refine ev_neg hmr (j1t ?_)
          unfold okC
          rw [Bool.eq_false_iff.2 hmr, Bool.false_and, Bool.false_and, Bool.false_and]
  exact cells (allC c) [] rfl rfl
end Go.Proofs.Ytfdmfgaiblfbhaa.P
