/- A tree's panes: the code's and the reference's, the place of one, the one so many places behind: plain data. -/
import Derived.Test.YtfdmfgaiblfbhaaYTree
import Derived.Test.YtfdmfgaiblfbhaaPF35
import Derived.Test.YtfdmfgaiblfbhaaPF39
import Derived.Test.YtfdmfgaiblfbhaaPF41
namespace Go.Proofs.Ytfdmfgaiblfbhaa.P
open Go.RowKit Go.Proofs.YtfdmfgaiblfbhaaW.PrintWords Go.Proofs.YtfdmfgaiblfbhaaW.PrintLast Go.Proofs.YtfdmfgaiblfbhaaW.PrintMore

def paneOf (c : S26) : S35 := ⟨c.f2, c.f1⟩
def panes (c : S26) : List S35 := (leavesC c).map paneOf
def panesL (l : List S26) : List S35 := ((allL l).filter fun x => decide (x.f0 = 1)).map paneOf
theorem panes_eq (c : S26) : panes c = (if c.f0 = 1 then [paneOf c] else []) ++ panesL c.f3 := by
  unfold panes leavesC panesL
  rw [allC_eq]
  by_cases h : c.f0 = 1
  · rw [if_pos h, List.filter_cons_of_pos (by simpa using h)]
    rfl
  · rw [if_neg h, List.filter_cons_of_neg (by simpa using h)]
    rfl
theorem panesL_app (a b : List S26) : panesL (a ++ b) = panesL a ++ panesL b := by
  unfold panesL
  rw [allL_app, List.filter_append, List.map_append]
theorem panesL_one (x : S26) : panesL [x] = panes x := by
  unfold panesL panes leavesC
  rw [allL_cons, allL_nil, List.append_nil]
theorem panes_len (c : S26) : (panes c).length ≤ sz c := by unfold panes; rw [List.length_map]; exact leaves_len c
theorem panesL_len (l : List S26) : (panesL l).length ≤ szL l := by unfold panesL; rw [List.length_map]; exact List.length_filter_le _ _

/-- The reference's list. -/
theorem reflist_ev (c : S26) (h : sz c ≤ 1048576) : Ev (fun k => sashref07_List.f k c.f0 c.f1.f0 c.f1.f1 c.f1.f2 c.f1.f3 c.f2 c.f3) (panes c) := by
  unfold sashref07_List.f
  refine Ev.bind (leaves_ev c h) ?_
  have hsz : (leavesC c).length ≤ 1048576 := by have := leaves_len c; omega
  have key : ∀ (rest pre : List S26), pre ++ rest = leavesC c → Ev (fun k => sashref07_List.l0 k (pre.map paneOf) (leavesC c) ((leavesC c).length : Int) (pre.length : Int)) (panes c) := by
    intro rest
    induction rest with
    | nil =>
      intro pre hp
      rw [List.append_nil] at hp
      refine Ev.step (f := fun _ => some (panes c)) (fun k => ?_) (Ev.now _)
      simp only [sashref07_List.l0]
      rw [if_neg (by rw [hp]; omega), hp]
      rfl
    | cons x xs ihr =>
      intro pre hp
      have hl : (pre.length : Int) < ((leavesC c).length : Int) := by rw [← hp, List.length_append, List.length_cons]; omega
      have e2 := ihr (pre ++ [x]) (by rw [List.append_assoc]; exact hp)
      have hr : rd_T26 (leavesC c) (pre.length : Int) = x := by rw [← hp]; exact rd26_in pre x xs
      have hu : wrap64 ((pre.length : Int) + 1) = ((pre ++ [x]).length : Int) := up_in pre x xs (by rw [hp]; omega)
      rw [List.map_append] at e2
      refine Ev.step (fun k => ?_) e2
      simp only [sashref07_List.l0]
      rw [if_pos hl, if_pos (by omega), if_pos hl, if_pos (by rw [List.length_map]; omega), hr, hu]
      rfl
  exact key (leavesC c) [] rfl

/-- The code's list. -/
theorem list_ev : ∀ (N : Nat) (c : S26), sz c ≤ N → N ≤ 1048576 → Ev (fun k => flat_List.f k c.f0 c.f1.f0 c.f1.f1 c.f1.f2 c.f1.f3 c.f2 c.f3) (panes c) := by
  intro N
  induction N with
  | zero => intro c h _; rw [sz_eq] at h; omega
  | succ N ih =>
    intro c hc hN
    have hs := sz_eq c
    have key : ∀ (p0 : List S35), p0.length ≤ 1 → ∀ (rest pre : List S26), pre ++ rest = c.f3 → Ev (fun k => flat_List.l0 k (p0 ++ panesL pre) c.f3 (c.f3.length : Int) (pre.length : Int)) (p0 ++ panesL c.f3) := by
      intro p0 hp0 rest
      induction rest with
      | nil =>
        intro pre hp
        rw [List.append_nil] at hp
        refine Ev.step (f := fun _ => some (p0 ++ panesL c.f3)) (fun k => ?_) (Ev.now _)
        simp only [flat_List.l0]
        rw [if_neg (by rw [hp]; omega), hp]
      | cons x xs ihr =>
        intro pre hp
        have hl : (pre.length : Int) < (c.f3.length : Int) := by rw [← hp, List.length_append, List.length_cons]; omega
        have hlen := szL_len c.f3
        have hsum : szL c.f3 = szL pre + (sz x + szL xs) := by rw [← hp, szL_app, szL_cons]
        have e2 := ihr (pre ++ [x]) (by rw [List.append_assoc]; exact hp)
        have hr : rd_T26 c.f3 (pre.length : Int) = x := by rw [← hp]; exact rd26_in pre x xs
        have hu : wrap64 ((pre.length : Int) + 1) = ((pre ++ [x]).length : Int) := up_in pre x xs (by rw [hp]; omega)
        rw [panesL_app, panesL_one, ← List.append_assoc] at e2
        have hb : (p0 ++ panesL pre).length + (panes x).length < 3518437208883 := by
          have h1 := panesL_len pre
          have h2 := panes_len x
          rw [List.length_append]
          omega
        refine Ev.step (f := fun k => (flat_List.f k x.f0 x.f1.f0 x.f1.f1 x.f1.f2 x.f1.f3 x.f2 x.f3).bind fun t => (if (p0 ++ panesL pre).length + t.length < 3518437208883 then (flat_List.l0 k ((p0 ++ panesL pre) ++ t) c.f3 (c.f3.length : Int) (wrap64 ((pre.length : Int) + 1))) else none)) (fun k => ?_) (Ev.bind (ih x (by omega) (by omega)) (ev_pos hb ?_))
        · simp only [flat_List.l0]
          rw [if_pos hl, if_pos (by omega), if_pos hl, hr]
        · rw [hu]
          exact e2
    rw [panes_eq]
    have hj : ∀ p0 : List S35, p0.length ≤ 1 → Ev (fun k => flat_List.j0 k p0 c.f0 c.f1.f0 c.f1.f1 c.f1.f2 c.f1.f3 c.f2 c.f3) (p0 ++ panesL c.f3) := by
      intro p0 hp0
      have := key p0 hp0 c.f3 [] rfl
      rw [show panesL [] = [] from by unfold panesL; rw [allL_nil]; rfl, List.append_nil] at this
      refine Ev.step (fun k => ?_) this
      simp only [flat_List.j0]
      rfl
    by_cases h1 : c.f0 = 1
    · rw [if_pos h1]
      refine Ev.step (fun k => ?_) (hj [paneOf c] (by simp))
      simp only [flat_List.f]
      rw [if_pos h1, if_pos (by simp)]
      rfl
    · rw [if_neg h1]
      refine Ev.step (fun k => ?_) (hj [] (by simp))
      simp only [flat_List.f]
      rw [if_neg h1]

/-- The place of a number. -/
theorem reffind_ev (l : List S35) (id : Int) (h : l.length ≤ 1048576) : Ev (fun k => sashref07_Find.f k l id) (findP id 0 l) := by
  unfold sashref07_Find.f
  have key : ∀ (rest pre : List S35), pre ++ rest = l → Ev (fun k => sashref07_Find.l0 k l id (l.length : Int) (pre.length : Int)) (findP id (pre.length : Int) rest) := by
    intro rest
    induction rest with
    | nil =>
      intro pre hp
      rw [List.append_nil] at hp
      refine Ev.step (f := fun _ => some (-1)) (fun k => ?_) (Ev.now _)
      simp only [sashref07_Find.l0]
      rw [if_neg (by rw [hp]; omega)]
    | cons x xs ihr =>
      intro pre hp
      have hl : (pre.length : Int) < (l.length : Int) := by rw [← hp, List.length_append, List.length_cons]; omega
      have e2 := ihr (pre ++ [x]) (by rw [List.append_assoc]; exact hp)
      have hr : rd_T35 l (pre.length : Int) = x := by rw [← hp]; exact rd35_in pre x xs
      have hu : wrap64 ((pre.length : Int) + 1) = ((pre ++ [x]).length : Int) := up_in pre x xs (by rw [hp]; omega)
      simp only [findP]
      by_cases h1 : x.f0 = id
      · rw [if_pos h1]
        refine Ev.step (f := fun _ => some (pre.length : Int)) (fun k => ?_) (Ev.now _)
        simp only [sashref07_Find.l0]
        rw [if_pos hl, if_pos (by omega), if_pos hl, hr, if_pos h1]
      · rw [if_neg h1]
        have hq : ((pre ++ [x]).length : Int) = (pre.length : Int) + 1 := by simp
        rw [hq] at e2
        refine Ev.step (fun k => ?_) e2
        simp only [sashref07_Find.l0]
        rw [if_pos hl, if_pos (by omega), if_pos hl, hr, if_neg h1, hu, hq]
  exact key l [] rfl
theorem awake07 : Ev (fun k => sashlaw07_awake.f k) true := Ev.of (k := 6) sashlaw07_awake.mono (by decide +kernel)
end Go.Proofs.Ytfdmfgaiblfbhaa.P
