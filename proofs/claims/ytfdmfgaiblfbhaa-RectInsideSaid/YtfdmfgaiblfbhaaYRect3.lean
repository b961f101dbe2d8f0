/- Plain words on rectangles: inside, apart, areas: the code's and the reference's alike. -/
import Derived.Test.YtfdmfgaiblfbhaaX69
import Derived.Test.YtfdmfgaiblfbhaaYRect
import Derived.Test.YtfdmfgaiblfbhaaPF58
import Derived.Test.YtfdmfgaiblfbhaaPF61
import Derived.Test.YtfdmfgaiblfbhaaPF71
import Derived.Test.YtfdmfgaiblfbhaaPF72
import Derived.Test.YtfdmfgaiblfbhaaPF73
namespace Go.Proofs.Ytfdmfgaiblfbhaa.P
open Go.RowKit Go.Proofs.YtfdmfgaiblfbhaaW.PrintWords Go.Proofs.YtfdmfgaiblfbhaaW.PrintLast Go.Proofs.YtfdmfgaiblfbhaaW.PrintMore

theorem refhas_some (r : S23) (x y : Int) : sashref04_Has.f r.f0 r.f1 r.f2 r.f3 x y = some (hasB r x y) := by
  unfold sashref04_Has.f hasB
  rw [refmay_some, Option.bind_some]
  show (if mayR r = true then _ else _) = _
  by_cases hm : mayR r = true
  · have hb := may_iff.1 hm
    rw [if_pos hm, hm, Bool.true_and, wq (x := r.f0 + r.f2) (by omega) (by omega), wq (x := r.f1 + r.f3) (by omega) (by omega), wq (x := r.f0 + r.f2 - 1) (by omega) (by omega), wq (x := r.f1 + r.f3 - 1) (by omega) (by omega)]
    by_cases h1 : r.f0 ≤ x
    · by_cases h2 : x ≤ r.f0 + r.f2 - 1
      · by_cases h3 : r.f1 ≤ y
        · rw [if_pos h1, if_pos h2, if_pos h3]
          congr 1
          rw [decide_eq_decide]
          omega
        · rw [if_pos h1, if_pos h2, if_neg h3, decide_eq_false (by omega)]
      · rw [if_pos h1, if_neg h2, decide_eq_false (by omega)]
    · rw [if_neg h1, decide_eq_false (by omega)]
  · rw [if_neg hm, Bool.eq_false_iff.2 hm, Bool.false_and]
theorem corners_iff {o r : S23} (ho : mayR o = true) (hr : mayR r = true) : cornersB o r = decide (o.f0 ≤ r.f0 ∧ o.f1 ≤ r.f1 ∧ r.f0 + r.f2 ≤ o.f0 + o.f2 ∧ r.f1 + r.f3 ≤ o.f1 + o.f3) := by
  have h1 := may_iff.1 ho
  have h2 := may_iff.1 hr
  unfold cornersB hasB
  rw [ho, Bool.true_and, Bool.true_and, ← Bool.decide_and, decide_eq_decide]
  omega
theorem refinside_some (o r : S23) : sashref04_Inside.f o.f0 o.f1 o.f2 o.f3 r.f0 r.f1 r.f2 r.f3 = some (mayR o && (mayR r && cornersB o r)) := by
  unfold sashref04_Inside.f
  rw [refmay_some, Option.bind_some]
  show (if mayR o = true then _ else _) = _
  by_cases ho : mayR o = true
  · rw [if_pos ho, ho, Bool.true_and, refmay_some, Option.bind_some]
    show (if mayR r = true then _ else _) = _
    by_cases hr : mayR r = true
    · have h1 := may_iff.1 ho
      have h2 := may_iff.1 hr
      rw [if_pos hr, hr, Bool.true_and, corners_iff ho hr, wq (x := o.f0 + o.f2) (by omega) (by omega), wq (x := o.f1 + o.f3) (by omega) (by omega), wq (x := r.f0 + r.f2) (by omega) (by omega), wq (x := r.f1 + r.f3) (by omega) (by omega)]
      by_cases c1 : o.f0 ≤ r.f0
      · by_cases c2 : o.f1 ≤ r.f1
        · by_cases c3 : r.f0 + r.f2 ≤ o.f0 + o.f2
          · rw [if_pos c1, if_pos c2, if_pos c3]
            congr 1
            rw [decide_eq_decide]
            omega
          · rw [if_pos c1, if_pos c2, if_neg c3, decide_eq_false (by omega)]
        · rw [if_pos c1, if_neg c2, decide_eq_false (by omega)]
      · rw [if_neg c1, decide_eq_false (by omega)]
    · rw [if_neg hr, Bool.eq_false_iff.2 hr, Bool.false_and]
  · rw [if_neg ho, Bool.eq_false_iff.2 ho, Bool.false_and]
theorem refapart_some {a b : S23} (ha : mayR a = true) (hb : mayR b = true) : sashref04_Apart.f a.f0 a.f1 a.f2 a.f3 b.f0 b.f1 b.f2 b.f3 = some (!meetB a b) := by
  have h1 := may_iff.1 ha
  have h2 := may_iff.1 hb
  unfold sashref04_Apart.f meetB
  rw [wq (x := a.f0 + a.f2) (by omega) (by omega), wq (x := a.f1 + a.f3) (by omega) (by omega), wq (x := b.f0 + b.f2) (by omega) (by omega), wq (x := b.f1 + b.f3) (by omega) (by omega)]
  by_cases c1 : a.f0 + a.f2 ≤ b.f0
  · rw [if_pos c1, decide_eq_false (by omega)]; rfl
  · rw [if_neg c1]
    by_cases c2 : b.f0 + b.f2 ≤ a.f0
    · rw [if_pos c2, decide_eq_false (by omega)]; rfl
    · rw [if_neg c2]
      by_cases c3 : a.f1 + a.f3 ≤ b.f1
      · rw [if_pos c3, decide_eq_false (by omega)]; rfl
      · rw [if_neg c3]
        by_cases c4 : b.f1 + b.f3 ≤ a.f1
        · rw [decide_eq_true c4, decide_eq_false (by omega)]; rfl
        · rw [decide_eq_false c4, decide_eq_true (by omega)]; rfl
theorem refapart_any (a b : S23) : ∃ t, sashref04_Apart.f a.f0 a.f1 a.f2 a.f3 b.f0 b.f1 b.f2 b.f3 = some t := by
  unfold sashref04_Apart.f
  split
  · exact ⟨_, rfl⟩
  · split
    · exact ⟨_, rfl⟩
    · split <;> exact ⟨_, rfl⟩
theorem rd23_at (l : List S23) (k : Nat) (h : k < l.length) : rd_T23 l (k : Int) = l[k] := by simp [rd_T23, List.getD_eq_getElem?_getD, h]
theorem up1 {i n : Nat} (h : i < n) (hn : n ≤ 9223372036854775807) : wrap64 ((i : Int) + 1) = ((i + 1 : Nat) : Int) := by rw [wq (by omega) (by omega)]; omega
theorem all_ev (l : List S23) (hl : l.length ≤ 9223372036854775807) : Ev (fun k => sashref04_All.f k l) (l.all mayR) := by
  have key : ∀ d i, i + d = l.length → Ev (fun k => sashref04_All.l0 k l (l.length : Int) (i : Nat)) ((l.drop i).all mayR) := by
    intro d
    induction d with
    | zero =>
      intro i hi
      refine Ev.step (fun k => ?_) (Ev.now _)
      simp only [sashref04_All.l0]
      rw [if_neg (by omega), List.drop_eq_nil_of_le (by omega)]
      rfl
    | succ d ih =>
      intro i hi
      have hw := up1 (show i < l.length by omega) hl
      have h1 : (i : Int) < (l.length : Int) := by omega
      have h0 : (0 : Int) ≤ (i : Int) := by omega
      have e : (l.drop i).all mayR = (mayR (rd_T23 l (i : Int)) && (l.drop (i + 1)).all mayR) := by
        rw [List.drop_eq_getElem_cons (by omega), rd23_at l i (by omega)]; rfl
      refine Ev.step (f := fun k => if mayR (rd_T23 l (i : Int)) = true then sashref04_All.l0 k l (l.length : Int) ((i + 1 : Nat) : Int) else some false) (fun k => ?_) ?_
      · simp only [sashref04_All.l0]
        simp only [if_pos h1, if_pos h0, hw]
        rw [refmay_some]
        rfl
      · rw [e]
        cases h : mayR (rd_T23 l (i : Int)) with
        | true => exact ev_pos rfl (ih (i + 1) (by omega))
        | false => exact ev_neg (by simp) (Ev.now _)
  have := key l.length 0 (by omega)
  simpa [sashref04_All.f] using this
/-- The reference's pairs, if all may be. -/
theorem pairs_ok (l : List S23) (hl : l.length ≤ 9223372036854775807) (hm : l.all mayR = true) : ∀ d i, i + d = l.length → Ev (fun k => sashref04_Apartments.l0 k l (l.length : Int) (i : Nat)) (apartL (l.take i) (l.drop i)) := by
  have hmem := List.all_eq_true.1 hm
  intro d
  induction d with
  | zero =>
    intro i hi
    refine Ev.step (f := fun k => (sashref04_All.f k l).bind fun t => some t) (fun k => ?_) ?_
    · simp only [sashref04_Apartments.l0]
      rw [if_neg (by omega)]
    · rw [List.drop_eq_nil_of_le (by omega)]
      refine Ev.bind (all_ev l hl) ?_
      rw [hm]
      exact Ev.now _
  | succ d ih =>
    intro i hi
    have hw := up1 (show i < l.length by omega) hl
    have h1 : (i : Int) < (l.length : Int) := by omega
    have h0 : (0 : Int) ≤ (i : Int) := by omega
    have inner : ∀ e j, j + e = i → Ev (fun k => sashref04_Apartments.l1 k l (i : Nat) (j : Nat) (l.length : Int) (i : Nat)) (!(((l.take i).drop j).any (meetB (rd_T23 l (i : Int)))) && apartL (l.take (i + 1)) (l.drop (i + 1))) := by
      intro e
      induction e with
      | zero =>
        intro j hj
        have ed : (l.take i).drop j = [] := List.drop_eq_nil_of_le (by rw [List.length_take]; omega)
        refine Ev.step (f := fun k => sashref04_Apartments.l0 k l (l.length : Int) ((i + 1 : Nat) : Int)) (fun k => ?_) ?_
        · simp only [sashref04_Apartments.l1]
          rw [if_neg (by omega), hw]
        · rw [ed]
          exact ih (i + 1) (by omega)
      | succ e ihe =>
        intro j hj
        have hw2 := up1 (show j < l.length by omega) hl
        have g1 : (j : Int) < (i : Int) := by omega
        have g2 : (j : Int) < (l.length : Int) := by omega
        have g0 : (0 : Int) ≤ (j : Int) := by omega
        have ed : (l.take i).drop j = rd_T23 l (j : Int) :: (l.take i).drop (j + 1) := by
          rw [List.drop_eq_getElem_cons (by rw [List.length_take]; omega), rd23_at l j (by omega), List.getElem_take]
        have hs := refapart_some (hmem _ (rd23_mem l i (by omega))) (hmem _ (rd23_mem l j (by omega)))
        refine Ev.step (f := fun k => if (!meetB (rd_T23 l (i : Int)) (rd_T23 l (j : Int))) = true then sashref04_Apartments.l1 k l (i : Nat) ((j + 1 : Nat) : Int) (l.length : Int) (i : Nat) else some false) (fun k => ?_) ?_
        · simp only [sashref04_Apartments.l1]
          simp only [if_pos h1, if_pos h0, if_pos g0, if_pos g1, if_pos g2, hw2]
          rw [hs]
          rfl
        · rw [ed, List.any_cons]
          cases h : meetB (rd_T23 l (i : Int)) (rd_T23 l (j : Int)) with
          | true => exact ev_neg (by simp) (Ev.now _)
          | false => exact ev_pos rfl (by simpa using ihe (j + 1) (by omega))
    refine Ev.step (f := fun k => sashref04_Apartments.l1 k l (i : Nat) ((0 : Nat) : Int) (l.length : Int) (i : Nat)) (fun k => ?_) ?_
    · simp only [sashref04_Apartments.l0]
      rw [if_pos h1]
      rfl
    · rw [apartL_at l i (by omega)]
      have := inner i 0 (by omega)
      simpa using this
/-- If one may not be, they aren't apart, whatever the pairs say. -/
theorem pairs_no (l : List S23) (hl : l.length ≤ 9223372036854775807) (hm : l.all mayR = false) : ∀ d i, i + d = l.length → Ev (fun k => sashref04_Apartments.l0 k l (l.length : Int) (i : Nat)) false := by
  intro d
  induction d with
  | zero =>
    intro i hi
    refine Ev.step (f := fun k => (sashref04_All.f k l).bind fun t => some t) (fun k => ?_) ?_
    · simp only [sashref04_Apartments.l0]
      rw [if_neg (by omega)]
    · refine Ev.bind (all_ev l hl) ?_
      rw [hm]
      exact Ev.now _
  | succ d ih =>
    intro i hi
    have hw := up1 (show i < l.length by omega) hl
    have h1 : (i : Int) < (l.length : Int) := by omega
    have h0 : (0 : Int) ≤ (i : Int) := by omega
    have inner : ∀ e j, j + e = i → Ev (fun k => sashref04_Apartments.l1 k l (i : Nat) (j : Nat) (l.length : Int) (i : Nat)) false := by
      intro e
      induction e with
      | zero =>
        intro j hj
        refine Ev.step (f := fun k => sashref04_Apartments.l0 k l (l.length : Int) ((i + 1 : Nat) : Int)) (fun k => ?_) (ih (i + 1) (by omega))
        simp only [sashref04_Apartments.l1]
        rw [if_neg (by omega), hw]
      | succ e ihe =>
        intro j hj
        have hw2 := up1 (show j < l.length by omega) hl
        have g1 : (j : Int) < (i : Int) := by omega
        have g2 : (j : Int) < (l.length : Int) := by omega
        have g0 : (0 : Int) ≤ (j : Int) := by omega
        obtain ⟨t, ht⟩ := refapart_any (rd_T23 l (i : Int)) (rd_T23 l (j : Int))
        refine Ev.step (f := fun k => if t = true then sashref04_Apartments.l1 k l (i : Nat) ((j + 1 : Nat) : Int) (l.length : Int) (i : Nat) else some false) (fun k => ?_) ?_
        · simp only [sashref04_Apartments.l1]
          simp only [if_pos h1, if_pos h0, if_pos g0, if_pos g1, if_pos g2, hw2]
          rw [ht]
          rfl
        · by_cases h : t = true
          · exact ev_pos h (ihe (j + 1) (by omega))
          · exact ev_neg h (Ev.now _)
    refine Ev.step (f := fun k => sashref04_Apartments.l1 k l (i : Nat) ((0 : Nat) : Int) (l.length : Int) (i : Nat)) (fun k => ?_) (inner i 0 (by omega))
    simp only [sashref04_Apartments.l0]
    rw [if_pos h1]
    rfl
theorem apartments_ev (l : List S23) (hl : l.length ≤ 9223372036854775807) : Ev (fun k => sashref04_Apartments.f k l) (l.all mayR && apartL [] l) := by
  unfold sashref04_Apartments.f
  cases hm : l.all mayR with
  | true =>
    have := pairs_ok l hl hm l.length 0 (by omega)
    simpa using this
  | false =>
    have := pairs_no l hl hm l.length 0 (by omega)
    simpa using this
theorem area_ev (l : List S23) (hl : l.length ≤ 9223372036854775807) : ∀ d i (n : Int), i + d = l.length → ∃ t, Ev (fun k => rect_Area.l0 k n l (l.length : Int) (i : Nat)) t ∧ Ev (fun k => sashref04_Area.l0 k l n (l.length : Int) (i : Nat)) t := by
  intro d
  induction d with
  | zero =>
    intro i n hi
    refine ⟨n, Ev.step (fun k => ?_) (Ev.now _), Ev.step (fun k => ?_) (Ev.now _)⟩
    · simp only [rect_Area.l0]
      rw [if_neg (by omega)]
    · simp only [sashref04_Area.l0]
      rw [if_neg (by omega)]
  | succ d ih =>
    intro i n hi
    have hw := up1 (show i < l.length by omega) hl
    have h1 : (i : Int) < (l.length : Int) := by omega
    have h0 : (0 : Int) ≤ (i : Int) := by omega
    cases hm : mayR (rd_T23 l (i : Int)) with
    | true =>
      obtain ⟨t, t1, t2⟩ := ih (i + 1) (wrap64 (n + wrap64 ((rd_T23 l (i : Int)).f2 * (rd_T23 l (i : Int)).f3))) (by omega)
      refine ⟨t, Ev.step (fun k => ?_) t1, Ev.step (fun k => ?_) t2⟩
      · simp only [rect_Area.l0]
        simp only [if_pos h1, if_pos h0, hw]
        rw [may_some]
        show (if mayR (rd_T23 l (i : Int)) = true then _ else _) = _
        rw [if_pos hm]
      · simp only [sashref04_Area.l0]
        simp only [if_pos h1, if_pos h0, hw]
        rw [refmay_some]
        show (if mayR (rd_T23 l (i : Int)) = true then _ else _) = _
        rw [if_pos hm]
    | false =>
      obtain ⟨t, t1, t2⟩ := ih (i + 1) n (by omega)
      refine ⟨t, Ev.step (fun k => ?_) t1, Ev.step (fun k => ?_) t2⟩
      · simp only [rect_Area.l0]
        simp only [if_pos h1, if_pos h0, hw]
        rw [may_some]
        show (if mayR (rd_T23 l (i : Int)) = true then _ else _) = _
        rw [if_neg (by rw [hm]; simp)]
      · simp only [sashref04_Area.l0]
        simp only [if_pos h1, if_pos h0, hw]
        rw [refmay_some]
        show (if mayR (rd_T23 l (i : Int)) = true then _ else _) = _
        rw [if_neg (by rw [hm]; simp)]
theorem aw04 : Ev (fun k => (sashlaw04_awake.f k).bind fun t => some t) true := Ev.bind awake04 (Ev.now _)
end Go.Proofs.Ytfdmfgaiblfbhaa.P
