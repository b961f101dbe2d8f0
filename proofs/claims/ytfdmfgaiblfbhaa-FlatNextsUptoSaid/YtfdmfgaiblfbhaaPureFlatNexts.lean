/- FlatNexts, the plain law: the pane so many places behind, or ahead, is the reference's; so many back is where it was. Condition: the tree has at most 1048576 cells. -/
import Derived.Test.YtfdmfgaiblfbhaaYFlat
import Derived.Test.YtfdmfgaiblfbhaaYMayC
import Derived.Test.YtfdmfgaiblfbhaaRead
import Derived.Test.YtfdmfgaiblfbhaaPF3
namespace Go.Proofs.Ytfdmfgaiblfbhaa.Pure
open Go.RowKit Go.Proofs.Ytfdmfgaiblfbhaa.P Go.Proofs.YtfdmfgaiblfbhaaW.PrintWords Go.Proofs.YtfdmfgaiblfbhaaW.PrintLast Go.Proofs.YtfdmfgaiblfbhaaW.PrintMore

def nx (n i m : Int) : Int := if i + m ≥ n then i + m - n else if i + m < 0 then i + m + n else i + m
theorem tm1 {a n : Int} (h0 : 0 ≤ a) (h1 : a < n) : Int.tmod a n = a := Int.tmod_eq_of_lt h0 h1
theorem tm2 {a n : Int} (h0 : -n < a) (h1 : a < 0) : Int.tmod a n = a := by
  have h := Int.neg_tmod (-a) n
  rw [Int.neg_neg, tm1 (a := -a) (by omega) (by omega)] at h
  omega
theorem tm3 {a n : Int} (h0 : n ≤ a) (h1 : a < 2 * n) : Int.tmod a n = a - n := by
  rw [Int.tmod_eq_emod_of_nonneg (by omega), ← Int.sub_emod_right, Int.emod_eq_of_lt (by omega) (by omega)]
theorem code_nx {n i m : Int} (hn : 0 < n) (hb : n ≤ 1048576) (h0 : 0 ≤ i) (h1 : i < n) (h2 : -n < m) (h3 : m < n) : Int.tmod (wrap64 (Int.tmod (wrap64 (i + m)) n + n)) n = nx n i m := by
  rw [wq (x := i + m) (by omega) (by omega)]
  unfold nx
  by_cases c1 : i + m ≥ n
  · rw [if_pos c1, tm3 (a := i + m) (by omega) (by omega), wq (by omega) (by omega), tm3 (by omega) (by omega)]
    omega
  · rw [if_neg c1]
    by_cases c2 : i + m < 0
    · rw [if_pos c2, tm2 (a := i + m) (by omega) (by omega), wq (by omega) (by omega), tm1 (by omega) (by omega)]
    · rw [if_neg c2, tm1 (a := i + m) (by omega) (by omega), wq (by omega) (by omega), tm3 (by omega) (by omega)]
      omega
theorem nx_range {n i m : Int} (h0 : 0 ≤ i) (h1 : i < n) (h2 : -n < m) (h3 : m < n) : 0 ≤ nx n i m ∧ nx n i m < n := by
  unfold nx
  split
  · omega
  · split <;> omega
theorem nx_back {n i m : Int} (h0 : 0 ≤ i) (h1 : i < n) (h2 : -n < m) (h3 : m < n) : nx n (nx n i m) (-m) = i := by
  unfold nx
  split
  · rw [if_neg (by omega), if_pos (by omega)]; omega
  · split
    · rw [if_pos (by omega)]; omega
    · rw [if_neg (by omega), if_neg (by omega)]; omega
def nextV (l : List S35) (id b : Int) : Int × Bool := if findP id 0 l < 0 then (0, false) else ((rd_T35 l (nx (l.length : Int) (findP id 0 l) (Int.tmod b (l.length : Int)))).f0, true)
theorem nextV_neg {l : List S35} {id b : Int} (h : findP id 0 l < 0) : nextV l id b = (0, false) := if_pos h
theorem nextV_pos {l : List S35} {id b : Int} (h : ¬ findP id 0 l < 0) : nextV l id b = ((rd_T35 l (nx (l.length : Int) (findP id 0 l) (Int.tmod b (l.length : Int)))).f0, true) := if_neg h
theorem next_ev (c : S26) (h : sz c ≤ 1048576) (id b : Int) : Ev (fun k => flat_Next.f k c.f0 c.f1.f0 c.f1.f1 c.f1.f2 c.f1.f3 c.f2 c.f3 id b) (nextV (panes c) id b) := by
  unfold flat_Next.f
  refine Ev.bind (list_ev _ c h (Nat.le_refl _)) (Ev.bind (a := findP id 0 (panes c)) (Ev.now _) ?_)
  have hlen : (panes c).length ≤ 1048576 := by have := panes_len c; omega
  have hr := findP_range id (panes c) 0 (by omega)
  by_cases hi : findP id 0 (panes c) < 0
  · rw [nextV_neg hi]
    exact ev_pos hi (Ev.now _)
  · rw [nextV_pos hi]
    have hn : 0 < ((panes c).length : Int) := by omega
    have hm1 := Int.tmod_lt_of_pos b hn
    have hm0 := Int.lt_tmod_of_pos b hn
    have e := code_nx hn (by omega) (show 0 ≤ findP id 0 (panes c) by omega) (by omega) hm0 hm1
    have hx := nx_range (n := ((panes c).length : Int)) (show 0 ≤ findP id 0 (panes c) by omega) (by omega) hm0 hm1
    refine ev_neg hi (ev_neg (by omega) ?_)
    rw [e]
    exact ev_pos hx.1 (ev_pos hx.2 (Ev.now _))
theorem refnext_ev (c : S26) (h : sz c ≤ 1048576) (id b : Int) : Ev (fun k => sashref07_Next.f k c.f0 c.f1.f0 c.f1.f1 c.f1.f2 c.f1.f3 c.f2 c.f3 id b) (nextV (panes c) id b) := by
  unfold sashref07_Next.f
  have hlen : (panes c).length ≤ 1048576 := by have := panes_len c; omega
  refine Ev.bind (reflist_ev c h) (Ev.bind (reffind_ev _ id hlen) ?_)
  have hr := findP_range id (panes c) 0 (by omega)
  by_cases hi : findP id 0 (panes c) < 0
  · rw [nextV_neg hi]
    exact ev_pos hi (Ev.now _)
  rw [nextV_pos hi]
  have hn : 0 < ((panes c).length : Int) := by omega
  have hm1 := Int.tmod_lt_of_pos b hn
  have hm0 := Int.lt_tmod_of_pos b hn
  refine ev_neg hi (ev_neg (by omega) ?_)
  generalize Int.tmod b ((panes c).length : Int) = m at hm0 hm1 ⊢
  generalize hI : findP id 0 (panes c) = i at hi hr ⊢
  generalize panes c = l at hn hm0 hm1 hlen hr ⊢
  have h0 : 0 ≤ i := by omega
  have h1 : i < (l.length : Int) := by omega
  have down : ∀ (d : Nat) (i m : Int), m = -(d : Int) → 0 ≤ i → i < (l.length : Int) → -(l.length : Int) < m → Ev (fun k => sashref07_Next.l1 k l i m) ((rd_T35 l (nx (l.length : Int) i m)).f0, true) := by
    intro d
    induction d with
    | zero =>
      intro i m hd h0 h1 h2
      have e : nx (l.length : Int) i m = i := by unfold nx; rw [if_neg (by omega), if_neg (by omega)]; omega
      rw [e]
      refine Ev.step (f := fun _ => some ((rd_T35 l i).f0, true)) (fun k => ?_) (Ev.now _)
      simp only [sashref07_Next.l1]
      rw [if_neg (by omega), if_pos h0, if_pos h1]
    | succ d ih =>
      intro i m hd h0 h1 h2
      have w1 : wrap64 (i - 1) = i - 1 := wq (by omega) (by omega)
      have w2 : wrap64 ((l.length : Int) - 1) = (l.length : Int) - 1 := wq (by omega) (by omega)
      have w3 : wrap64 (m + 1) = m + 1 := wq (by omega) (by omega)
      by_cases c1 : i - 1 < 0
      · have e2 := ih ((l.length : Int) - 1) (m + 1) (by omega) (by omega) (by omega) (by omega)
        have e : nx (l.length : Int) ((l.length : Int) - 1) (m + 1) = nx (l.length : Int) i m := by
          unfold nx
          rw [if_neg (by omega), if_neg (by omega), if_neg (by omega), if_pos (by omega)]
          omega
        rw [e] at e2
        refine Ev.step (fun k => ?_) e2
        simp only [sashref07_Next.l1]
        rw [if_pos (by omega), w1, if_pos c1, w2, w3]
      · have e2 := ih (i - 1) (m + 1) (by omega) (by omega) (by omega) (by omega)
        have e : nx (l.length : Int) (i - 1) (m + 1) = nx (l.length : Int) i m := by
          unfold nx
          rw [show i - 1 + (m + 1) = i + m by omega]
        rw [e] at e2
        refine Ev.step (fun k => ?_) e2
        simp only [sashref07_Next.l1]
        rw [if_pos (by omega), w1, if_neg c1, w3]
  have up : ∀ (d : Nat) (i m : Int), m = (d : Int) → 0 ≤ i → i < (l.length : Int) → m < (l.length : Int) → Ev (fun k => sashref07_Next.l0 k l i m) ((rd_T35 l (nx (l.length : Int) i m)).f0, true) := by
    intro d
    induction d with
    | zero =>
      intro i m hd h0 h1 h2
      refine Ev.step (fun k => ?_) (down 0 i m (by omega) h0 h1 (by omega))
      simp only [sashref07_Next.l0]
      rw [if_neg (by omega)]
    | succ d ih =>
      intro i m hd h0 h1 h2
      have w1 : wrap64 (i + 1) = i + 1 := wq (by omega) (by omega)
      have w3 : wrap64 (m - 1) = m - 1 := wq (by omega) (by omega)
      by_cases c1 : i + 1 = (l.length : Int)
      · have e2 := ih 0 (m - 1) (by omega) (by omega) (by omega) (by omega)
        have e : nx (l.length : Int) 0 (m - 1) = nx (l.length : Int) i m := by
          unfold nx
          rw [if_neg (by omega), if_neg (by omega), if_pos (by omega)]
          omega
        rw [e] at e2
        refine Ev.step (fun k => ?_) e2
        simp only [sashref07_Next.l0]
        rw [if_pos (by omega), w1, if_pos c1, w3]
      · have e2 := ih (i + 1) (m - 1) (by omega) (by omega) (by omega) (by omega)
        have e : nx (l.length : Int) (i + 1) (m - 1) = nx (l.length : Int) i m := by
          unfold nx
          rw [show i + 1 + (m - 1) = i + m by omega]
        rw [e] at e2
        refine Ev.step (fun k => ?_) e2
        simp only [sashref07_Next.l0]
        rw [if_pos (by omega), w1, if_neg c1, w3]
  by_cases hs : 0 ≤ m
  · exact up m.toNat i m (by omega) h0 h1 hm1
  · refine Ev.step (fun k => ?_) (down (-m).toNat i m (by omega) h0 h1 hm0)
    simp only [sashref07_Next.l0]
    rw [if_neg (by omega)]
theorem findP_hit (id : Int) : ∀ (l : List S35) (i : Int), 0 ≤ i → ¬ findP id i l < 0 → (rd_T35 l (findP id i l - i)).f0 = id := by
  intro l
  induction l with
  | nil => intro i _ h; simp only [findP] at h; omega
  | cons x xs ih =>
    intro i hi h
    simp only [findP] at h ⊢
    by_cases c : x.f0 = id
    · rw [if_pos c, Int.sub_self]
      exact c
    · rw [if_neg c] at h ⊢
      have hr := findP_range id xs (i + 1) (by omega)
      have := ih (i + 1) (by omega) h
      have e : rd_T35 (x :: xs) (findP id (i + 1) xs - i) = rd_T35 xs (findP id (i + 1) xs - (i + 1)) := by
        unfold rd_T35
        rw [show (findP id (i + 1) xs - i).toNat = (findP id (i + 1) xs - (i + 1)).toNat + 1 by omega]
        simp
      rw [e]
      exact this
theorem findP_at (x : S35) (rest : List S35) : ∀ (pre : List S35) (i : Int), (∀ y, y ∈ pre → y.f0 ≠ x.f0) → findP x.f0 i (pre ++ x :: rest) = i + (pre.length : Int) := by
  intro pre
  induction pre with
  | nil => intro i _; simp [findP]
  | cons y ys ih =>
    intro i h
    rw [List.cons_append]
    simp only [findP]
    rw [if_neg (h y (by simp)), ih (i + 1) (fun z hz => h z (by simp [hz]))]
    simp
    omega
theorem find_there (c : S26) (hd : distinctC (leavesC c) = true) (j : Int) (h0 : 0 ≤ j) (h1 : j < ((panes c).length : Int)) : findP (rd_T35 (panes c) j).f0 0 (panes c) = j := by
  have hn : j.toNat < (leavesC c).length := by unfold panes at h1; rw [List.length_map] at h1; omega
  have hsp : leavesC c = (leavesC c).take j.toNat ++ (leavesC c)[j.toNat] :: (leavesC c).drop (j.toNat + 1) := by
    rw [List.getElem_cons_drop, List.take_append_drop]
  generalize hp : (leavesC c).take j.toNat = p at hsp
  generalize (leavesC c)[j.toNat] = x at hsp
  generalize (leavesC c).drop (j.toNat + 1) = r at hsp
  have hpl : p.length = j.toNat := by rw [← hp, List.length_take]; omega
  have ha : apartTo p x = true := by
    have : distinctC (p ++ [x]) = true := by
      cases hq : distinctC (p ++ [x]) with
      | true => rfl
      | false =>
        have := distinctC_pre (p ++ [x]) r hq
        rw [List.append_assoc, List.singleton_append, ← hsp, hd] at this
        cases this
    rw [distinctC_app] at this
    exact (Bool.and_eq_true_iff.1 this).2
  have hpn : panes c = p.map paneOf ++ paneOf x :: r.map paneOf := by unfold panes; rw [hsp, List.map_append, List.map_cons]
  have hj : j = ((p.map paneOf).length : Int) := by rw [List.length_map, hpl]; omega
  rw [hpn]
  have hrd : rd_T35 (p.map paneOf ++ paneOf x :: r.map paneOf) j = paneOf x := by rw [hj]; exact rd35_in _ _ _
  rw [hrd, findP_at, Int.zero_add, ← hj]
  intro y hy
  obtain ⟨z, hz, rfl⟩ := List.mem_map.1 hy
  have := List.all_eq_true.1 ha z hz
  have := of_decide_eq_true this
  exact fun e => this (show x.f2 = z.f2 from e.symm)
theorem FlatNexts : ∀ (a0 : S26) (a1 : Int) (a2 : Int), wf26 a0 → sz a0 ≤ 1048576 → I64 a1 → I64 a2 → ∃ k, sashlaw07_FlatNexts.f k a0.f0 a0.f1.f0 a0.f1.f1 a0.f1.f2 a0.f1.f3 a0.f2 a0.f3 a1 a2 = some true := by
  intro c id b _ hz _ _
  refine Ev.rounds (g := fun k => sashlaw07_FlatNexts.f k c.f0 c.f1.f0 c.f1.f1 c.f1.f2 c.f1.f3 c.f2 c.f3 id b) ?_
  unfold sashlaw07_FlatNexts.f
  obtain ⟨g, eg, _⟩ := great_ev c hz
  have aw : Ev (fun k => (sashlaw07_awake.f k).bind fun t => some t) true := Ev.bind awake07 (Ev.now _)
  refine Ev.bind eg ?_
  cases g with
  | true => exact ev_pos rfl aw
  | false =>
    refine ev_neg (by simp) (Ev.bind (next_ev c hz id b) (Ev.bind (refnext_ev c hz id b) (ev_pos rfl ?_)))
    rw [bne_self_eq_false]
    have j1t : Ev (fun k => sashlaw07_FlatNexts.j1 k id b (nextV (panes c) id b).1 true c.f0 c.f1.f0 c.f1.f1 c.f1.f2 c.f1.f3 c.f2 c.f3) true := by
      refine Ev.step (fun k => ?_) aw
      simp only [sashlaw07_FlatNexts.j1]
      rw [if_pos trivial]
    have hlen : (panes c).length ≤ 1048576 := by have := panes_len c; omega
    have hr := findP_range id (panes c) 0 (by omega)
    by_cases hi : findP id 0 (panes c) < 0
    · have e2 : (nextV (panes c) id b).2 = false := by unfold nextV; rw [if_pos hi]
      refine Ev.step (fun k => ?_) j1t
      simp only [sashlaw07_FlatNexts.j0]
      rw [if_neg (by simp), e2, if_neg (by simp)]
    · have e2 : (nextV (panes c) id b).2 = true := by unfold nextV; rw [if_neg hi]
      by_cases b1 : b < -1099511627776
      · refine Ev.step (fun k => ?_) j1t
        simp only [sashlaw07_FlatNexts.j0]
        rw [if_neg (by simp), e2, if_pos rfl, if_pos b1]
      by_cases b2 : b > 1099511627776
      · refine Ev.step (fun k => ?_) j1t
        simp only [sashlaw07_FlatNexts.j0]
        rw [if_neg (by simp), e2, if_pos rfl, if_neg b1, if_pos b2]
      refine Ev.step (f := fun k => (sashref05_May.f k c.f0 c.f1.f0 c.f1.f1 c.f1.f2 c.f1.f3 c.f2 c.f3).bind fun t204 => (sashlaw07_FlatNexts.j1 k id b (nextV (panes c) id b).1 (!t204) c.f0 c.f1.f0 c.f1.f1 c.f1.f2 c.f1.f3 c.f2 c.f3)) (fun k => ?_) (Ev.bind (may_ev c hz) ?_)
      · simp only [sashlaw07_FlatNexts.j0]
        rw [if_neg (by simp), e2, if_pos rfl, if_neg b1, if_neg b2]
      cases hm : mayC c with
      | false => exact j1t
      | true =>
        have hd : distinctC (leavesC c) = true := by
          unfold mayC at hm
          simp only [Bool.and_eq_true] at hm
          exact hm.2.2
        have hn : 0 < ((panes c).length : Int) := by omega
        have hm1 := Int.tmod_lt_of_pos b hn
        have hm0 := Int.lt_tmod_of_pos b hn
        have i0 : 0 ≤ findP id 0 (panes c) := by omega
        have i1 : findP id 0 (panes c) < ((panes c).length : Int) := by omega
        have hx := nx_range i0 i1 hm0 hm1
        have hk := nx_back i0 i1 hm0 hm1
        have e1 : (nextV (panes c) id b).1 = (rd_T35 (panes c) (nx ((panes c).length : Int) (findP id 0 (panes c)) (Int.tmod b ((panes c).length : Int)))).f0 := by unfold nextV; rw [if_neg hi]
        have hf := find_there c hd _ hx.1 hx.2
        rw [← e1] at hf
        have hh := findP_hit id (panes c) 0 (by omega) hi
        rw [Int.sub_zero] at hh
        have ev : nextV (panes c) (nextV (panes c) id b).1 (-b) = (id, true) := by
          rw [nextV, hf, if_neg (by omega), Int.neg_tmod, hk, hh]
        have e := next_ev c hz (nextV (panes c) id b).1 (-b)
        rw [ev] at e
        refine Ev.step (f := fun k => (flat_Next.f k c.f0 c.f1.f0 c.f1.f1 c.f1.f2 c.f1.f3 c.f2 c.f3 (nextV (panes c) id b).1 (-b)).bind fun bt206 => (if bt206.2 = true then (if bt206.1 = id then ((sashlaw07_awake.f k).bind fun t208 => (some t208)) else (some false)) else (some false))) (fun k => ?_) (Ev.bind e (ev_pos rfl (ev_pos rfl aw)))
        simp only [sashlaw07_FlatNexts.j1]
        rw [Bool.not_true, if_neg (by simp), wq (x := -b) (by omega) (by omega)]
end Go.Proofs.Ytfdmfgaiblfbhaa.Pure
