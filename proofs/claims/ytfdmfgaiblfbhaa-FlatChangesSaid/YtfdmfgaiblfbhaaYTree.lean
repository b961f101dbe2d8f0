/- Trees of cells: their size, their cells, their leaves, their panes: the reference's functions, as plain data. -/
import Derived.Test.YtfdmfgaiblfbhaaYMay
import Derived.Test.YtfdmfgaiblfbhaaYSize
import Derived.Test.YtfdmfgaiblfbhaaPF34
import Derived.Test.YtfdmfgaiblfbhaaPF126
namespace Go.Proofs.Ytfdmfgaiblfbhaa.P
open Go.RowKit Go.Proofs.YtfdmfgaiblfbhaaW.PrintWords Go.Proofs.YtfdmfgaiblfbhaaW.PrintLast Go.Proofs.YtfdmfgaiblfbhaaW.PrintMore

theorem rd26_in (pre : List S26) (p : S26) (rest : List S26) : rd_T26 (pre ++ p :: rest) (pre.length : Int) = p := by
  simp [rd_T26, List.getD_eq_getElem?_getD]
theorem rd35_in (pre : List S35) (p : S35) (rest : List S35) : rd_T35 (pre ++ p :: rest) (pre.length : Int) = p := by
  simp [rd_T35, List.getD_eq_getElem?_getD]
theorem up_in {α : Type} (pre : List α) (p : α) (rest : List α) (h : (pre ++ p :: rest).length ≤ 9223372036854775807) : wrap64 ((pre.length : Int) + 1) = ((pre ++ [p]).length : Int) := by
  simp only [List.length_append, List.length_cons, List.length_nil] at h ⊢
  rw [wq (by omega) (by omega)]
  omega

/-- THE COUNT, that ends once it is above a bound. -/
theorem count_ev (L : Int) : ∀ (N : Nat) (c : S26), sz c ≤ N → N ≤ 1048576 → ∃ n : Int, Ev (fun k => sashref05_count.f k c.f0 c.f1.f0 c.f1.f1 c.f1.f2 c.f1.f3 c.f2 c.f3 L) n ∧ 1 ≤ n ∧ n ≤ (sz c : Int) ∧ (n > L ∨ n = (sz c : Int)) := by
  intro N
  induction N with
  | zero => intro c h _; rw [sz_eq] at h; omega
  | succ N ih =>
    intro c hc hN
    have hs := sz_eq c
    have key : ∀ (rest pre : List S26), pre ++ rest = c.f3 → ∀ acc : Int, 1 ≤ acc → acc + (szL rest : Int) ≤ 1048576 → (acc > L ∨ acc = 1 + (szL pre : Int)) →
        ∃ n : Int, Ev (fun k => sashref05_count.l0 k L acc (c.f3.length : Int) (pre.length : Int) c.f0 c.f1.f0 c.f1.f1 c.f1.f2 c.f1.f3 c.f2 c.f3) n ∧ acc ≤ n ∧ n ≤ acc + (szL rest : Int) ∧ (n > L ∨ n = 1 + (szL c.f3 : Int)) := by
      intro rest
      induction rest with
      | nil =>
        intro pre hp acc h1 h2 h3
        rw [List.append_nil] at hp
        refine ⟨acc, Ev.step (f := fun _ => some acc) (fun k => ?_) (Ev.now _), by omega, by omega, by rw [← hp]; exact h3⟩
        simp only [sashref05_count.l0]
        rw [if_neg (by rw [hp]; omega)]
      | cons x xs ihr =>
        intro pre hp acc h1 h2 h3
        have hl : (pre.length : Int) < (c.f3.length : Int) := by rw [← hp, List.length_append, List.length_cons]; omega
        have hlen := szL_len c.f3
        by_cases hL : acc > L
        · refine ⟨acc, Ev.step (f := fun _ => some acc) (fun k => ?_) (Ev.now _), by omega, by omega, .inl hL⟩
          simp only [sashref05_count.l0]
          rw [if_pos hl, if_pos hL]
        · have h3' : acc = 1 + (szL pre : Int) := by omega
          have hsum : szL c.f3 = szL pre + (sz x + szL xs) := by rw [← hp, szL_app, szL_cons]
          obtain ⟨n1, e1, a1, b1, c1⟩ := ih x (by omega) (by omega)
          rw [szL_cons] at h2
          obtain ⟨n, e2, a2, b2, c2⟩ := ihr (pre ++ [x]) (by rw [List.append_assoc]; exact hp) (acc + n1) (by omega) (by omega) (by
            rw [szL_app, szL_cons, szL_nil]
            omega)
          refine ⟨n, ?_, by omega, by rw [szL_cons]; omega, c2⟩
          have hw : wrap64 (acc + n1) = acc + n1 := wq (by omega) (by omega)
          have hr : rd_T26 c.f3 (pre.length : Int) = x := by rw [← hp]; exact rd26_in pre x xs
          have hu : wrap64 ((pre.length : Int) + 1) = ((pre ++ [x]).length : Int) := up_in pre x xs (by rw [hp]; omega)
          refine Ev.step (f := fun k => (sashref05_count.f k x.f0 x.f1.f0 x.f1.f1 x.f1.f2 x.f1.f3 x.f2 x.f3 L).bind fun t => sashref05_count.l0 k L (wrap64 (acc + t)) (c.f3.length : Int) (wrap64 ((pre.length : Int) + 1)) c.f0 c.f1.f0 c.f1.f1 c.f1.f2 c.f1.f3 c.f2 c.f3) (fun k => ?_) (Ev.bind e1 ?_)
          · simp only [sashref05_count.l0]
            rw [if_pos hl, if_neg hL, if_pos (by omega), if_pos hl, hr]
          · rw [hw, hu]
            exact e2
    obtain ⟨n, e, a, b, d⟩ := key c.f3 [] rfl 1 (by omega) (by omega) (.inr (by rw [szL_nil]; rfl))
    refine ⟨n, Ev.step (fun k => ?_) e, a, by omega, by omega⟩
    simp only [sashref05_count.f]
    rfl
theorem great_ev (c : S26) (h : sz c ≤ 1048576) : ∃ b : Bool, Ev (fun k => sashref05_Great.f k c.f0 c.f1.f0 c.f1.f1 c.f1.f2 c.f1.f3 c.f2 c.f3) b ∧ (b = false → sz c ≤ 200) := by
  obtain ⟨n, e, h1, h2, h3⟩ := count_ev 200 1048576 c h (Nat.le_refl _)
  refine ⟨decide (n > 200), ?_, fun hb => ?_⟩
  · unfold sashref05_Great.f
    exact Ev.bind e (Ev.now _)
  · have := of_decide_eq_false hb
    omega

/-- ALL CELLS. -/
theorem all_cells : ∀ (N : Nat) (c : S26), sz c ≤ N → N ≤ 1048576 → Ev (fun k => sashref05_All.f k c.f0 c.f1.f0 c.f1.f1 c.f1.f2 c.f1.f3 c.f2 c.f3) (allC c) := by
  intro N
  induction N with
  | zero => intro c h _; rw [sz_eq] at h; omega
  | succ N ih =>
    intro c hc hN
    have hs := sz_eq c
    have key : ∀ (rest pre : List S26), pre ++ rest = c.f3 → Ev (fun k => sashref05_All.l0 k (c :: allL pre) (c.f3.length : Int) (pre.length : Int) c.f0 c.f1.f0 c.f1.f1 c.f1.f2 c.f1.f3 c.f2 c.f3) (allC c) := by
      intro rest
      induction rest with
      | nil =>
        intro pre hp
        rw [List.append_nil] at hp
        refine Ev.step (f := fun _ => some (allC c)) (fun k => ?_) (Ev.now _)
        simp only [sashref05_All.l0]
        rw [if_neg (by rw [hp]; omega), hp, allC_eq]
      | cons x xs ihr =>
        intro pre hp
        have hl : (pre.length : Int) < (c.f3.length : Int) := by rw [← hp, List.length_append, List.length_cons]; omega
        have hlen := szL_len c.f3
        have hsum : szL c.f3 = szL pre + (sz x + szL xs) := by rw [← hp, szL_app, szL_cons]
        have e2 := ihr (pre ++ [x]) (by rw [List.append_assoc]; exact hp)
        have hr : rd_T26 c.f3 (pre.length : Int) = x := by rw [← hp]; exact rd26_in pre x xs
        have hu : wrap64 ((pre.length : Int) + 1) = ((pre ++ [x]).length : Int) := up_in pre x xs (by rw [hp]; omega)
        have ha : c :: allL (pre ++ [x]) = (c :: allL pre) ++ allC x := by rw [allL_app, allL_cons, allL_nil, List.append_nil, List.cons_append]
        have hb : (c :: allL pre).length + (allC x).length < 1954687338268 := by
          have h1 : (allL pre).length = szL pre := rfl
          have h2 : (allC x).length = sz x := rfl
          rw [List.length_cons, h1, h2]
          omega
        rw [ha] at e2
        refine Ev.step (f := fun k => (sashref05_All.f k x.f0 x.f1.f0 x.f1.f1 x.f1.f2 x.f1.f3 x.f2 x.f3).bind fun t => (if (c :: allL pre).length + t.length < 1954687338268 then (sashref05_All.l0 k ((c :: allL pre) ++ t) (c.f3.length : Int) (wrap64 ((pre.length : Int) + 1)) c.f0 c.f1.f0 c.f1.f1 c.f1.f2 c.f1.f3 c.f2 c.f3) else none)) (fun k => ?_) (Ev.bind (ih x (by omega) (by omega)) (ev_pos hb ?_))
        · simp only [sashref05_All.l0]
          rw [if_pos hl, if_pos (by omega), if_pos hl, hr]
        · rw [hu]
          exact e2
    refine Ev.step (fun k => ?_) (key c.f3 [] rfl)
    simp only [sashref05_All.f, allL_nil, eta26]
    rfl

/-- The leaves. -/
def leavesC (c : S26) : List S26 := (allC c).filter fun x => decide (x.f0 = 1)
theorem leaves_len (c : S26) : (leavesC c).length ≤ sz c := List.length_filter_le _ _
theorem leaves_ev (c : S26) (h : sz c ≤ 1048576) : Ev (fun k => sashref05_Leaves.f k c.f0 c.f1.f0 c.f1.f1 c.f1.f2 c.f1.f3 c.f2 c.f3) (leavesC c) := by
  unfold sashref05_Leaves.f
  refine Ev.bind (all_cells _ c h (Nat.le_refl _)) ?_
  have key : ∀ (rest pre : List S26), pre ++ rest = allC c → Ev (fun k => sashref05_Leaves.l0 k (pre.filter fun x => decide (x.f0 = 1)) (allC c) ((allC c).length : Int) (pre.length : Int)) (leavesC c) := by
    intro rest
    induction rest with
    | nil =>
      intro pre hp
      rw [List.append_nil] at hp
      refine Ev.step (f := fun _ => some (leavesC c)) (fun k => ?_) (Ev.now _)
      simp only [sashref05_Leaves.l0]
      rw [if_neg (by rw [hp]; omega), hp]
      rfl
    | cons x xs ihr =>
      intro pre hp
      have hsz : (allC c).length ≤ 1048576 := h
      have hl : (pre.length : Int) < ((allC c).length : Int) := by rw [← hp, List.length_append, List.length_cons]; omega
      have e2 := ihr (pre ++ [x]) (by rw [List.append_assoc]; exact hp)
      have hr : rd_T26 (allC c) (pre.length : Int) = x := by rw [← hp]; exact rd26_in pre x xs
      have hu : wrap64 ((pre.length : Int) + 1) = ((pre ++ [x]).length : Int) := up_in pre x xs (by rw [hp]; omega)
      have hb : (pre.filter fun x => decide (x.f0 = 1)).length < 1954687338268 := by
        have := List.length_filter_le (fun x : S26 => decide (x.f0 = 1)) pre
        omega
      rw [List.filter_append] at e2
      refine Ev.step (fun k => ?_) e2
      simp only [sashref05_Leaves.l0]
      rw [if_pos hl, if_pos (by omega), if_pos hl, hr, hu]
      by_cases h1 : x.f0 = 1
      · rw [if_pos h1, if_pos hb, List.filter_cons_of_pos (by simpa using h1), eta26]
        rfl
      · rw [if_neg h1, List.filter_cons_of_neg (by simpa using h1), List.filter_nil, List.append_nil]
  exact key (allC c) [] rfl
end Go.Proofs.Ytfdmfgaiblfbhaa.P
