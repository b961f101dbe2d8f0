/- SpreadSizes, the plain law: even sizes are the reference's, together as much, less what is between; none differs by more than 1. No condition. -/
import Derived.Test.YtfdmfgaiblfbhaaYShares
import Derived.Test.YtfdmfgaiblfbhaaPF8
namespace Go.Proofs.Ytfdmfgaiblfbhaa.Pure
open Go.RowKit Go.Proofs.Ytfdmfgaiblfbhaa.P Go.Proofs.YtfdmfgaiblfbhaaW.PrintWords Go.Proofs.YtfdmfgaiblfbhaaW.PrintLast Go.Proofs.YtfdmfgaiblfbhaaW.PrintMore
theorem awake16 : Ev (fun k => sashlaw16_awake.f k) true := Ev.of (k := 200) (fun k => sashlaw16_awake.mono k) (by decide +kernel)
/-- Whether even sizes can be. -/
def Can (s n : Int) : Prop := 1 ≤ n ∧ n ≤ 20000 ∧ 2 * n - 1 ≤ s ∧ s ≤ 2147483647
theorem sizes_ok (s n : Int) (h : Can s n) : Ev (fun k => spread_Sizes.f k s n) (moreL (s - n + 1) n.toNat, true) := by
  obtain ⟨h1, h2, h3, h4⟩ := h
  have hw1 : wrap64 (2 * n) = 2 * n := wp (by omega) (by omega)
  have hw2 : wrap64 (2 * n - 1) = 2 * n - 1 := wp (by omega) (by omega)
  have hw3 : wrap64 (s - n) = s - n := wp (by omega) (by omega)
  have hw4 : wrap64 (s - n + 1) = s - n + 1 := wp (by omega) (by omega)
  unfold spread_Sizes.f
  rw [hw1, hw2, hw3, hw4]
  refine Ev.ite_neg (by omega) (Ev.ite_neg (by omega) (Ev.ite_neg (by omega) (Ev.ite_neg (by omega) (Ev.ite_pos (by omega) (Ev.ite_pos (by omega) ?_)))))
  obtain ⟨r, hr, hE⟩ := shares_is (s - n + 1) (List.replicate n.toNat 0) (by simp; omega) (by omega) (by omega)
  have hz : total (List.replicate n.toNat 0) = 0 := by
    generalize n.toNat = m
    induction m with
    | zero => rfl
    | succ m ih => simp only [List.replicate_succ, total, ih]; rfl
  have hr2 : r = (moreL (s - n + 1) n.toNat, true) := by
    rcases hr with ⟨_, h | h | ⟨_, h⟩⟩ | ⟨h, _⟩ | ⟨qs, _, _, hb, _⟩
    · have := congrArg List.length h; simp at this; omega
    · exact absurd (fun g hg => by rw [List.eq_of_mem_replicate hg]; omega) h
    · rw [hz] at h; omega
    · rw [h, List.length_replicate]
    · omega
  rw [hr2] at hE
  exact Ev.bind hE (Ev.now _)
theorem sizes_no (s n : Int) (h : ¬ Can s n) : Ev (fun k => spread_Sizes.f k s n) ([], false) := by
  unfold Can at h
  unfold spread_Sizes.f
  by_cases h1 : n < 1
  · exact Ev.ite_pos h1 (Ev.now _)
  · refine Ev.ite_neg h1 ?_
    by_cases h2 : n > 20000
    · exact Ev.ite_pos h2 (Ev.now _)
    · refine Ev.ite_neg h2 ?_
      have hw1 : wrap64 (2 * n) = 2 * n := wp (by omega) (by omega)
      have hw2 : wrap64 (2 * n - 1) = 2 * n - 1 := wp (by omega) (by omega)
      rw [hw1, hw2]
      by_cases h3 : s < 2 * n - 1
      · exact Ev.ite_pos h3 (Ev.now _)
      · exact Ev.ite_neg h3 (Ev.ite_pos (by omega) (Ev.now _))
theorem ref_no (s n : Int) (h : ¬ Can s n) : Ev (fun k => sashref16_Sizes.f k s n) ([], false) := by
  have j : Ev (fun k => sashref16_Sizes.j0 k s n [] true) ([], false) := by
    refine Ev.step (fun k => ?_) (Ev.now _)
    simp only [sashref16_Sizes.j0]
    rw [if_pos trivial]
  unfold Can at h
  unfold sashref16_Sizes.f
  refine Ev.congr (f := fun k => _) (fun k => Option.bind_some _ _) ?_
  by_cases h1 : n < 1
  · exact Ev.ite_pos h1 j
  · refine Ev.ite_neg h1 ?_
    by_cases h2 : n > 20000
    · exact Ev.ite_pos h2 j
    · refine Ev.ite_neg h2 ?_
      have hw1 : wrap64 (2 * n) = 2 * n := wp (by omega) (by omega)
      have hw2 : wrap64 (2 * n - 1) = 2 * n - 1 := wp (by omega) (by omega)
      rw [hw1, hw2]
      by_cases h3 : s < 2 * n - 1
      · exact Ev.ite_pos h3 j
      · refine Ev.ite_neg h3 ?_
        rw [decide_eq_true (by omega)]
        exact j
theorem ref_ok (s n : Int) (h : Can s n) : Ev (fun k => sashref16_Sizes.f k s n) (moreL (s - n + 1) n.toNat, true) := by
  obtain ⟨h1, h2, h3, h4⟩ := h
  have q0 : 0 ≤ (s - n + 1) / n := Int.ediv_nonneg (by omega) (by omega)
  have q1 : (s - n + 1) / n ≤ s - n + 1 := Int.ediv_le_self _ (by omega)
  have HW6 := Aside0.mk (wp (x := (s - n + 1) / n + 1) (by omega) (by omega))
  have key : ∀ d i, i + d = n.toNat → Ev (fun k => sashref16_Sizes.l0 k n ((moreL (s - n + 1) n.toNat).take i) ((s - n + 1) / n) ((s - n + 1) % n) (i : Nat)) (moreL (s - n + 1) n.toNat, true) := by
    intro d
    induction d with
    | zero =>
      intro i hi
      refine Ev.step (fun k => ?_) (Ev.now _)
      simp only [sashref16_Sizes.l0]
      rw [if_neg (by omega), List.take_of_length_le (by rw [moreL_length]; omega)]
    | succ d ih =>
      intro i hi
      refine Ev.step (fun k => ?_) (ih (i + 1) (by omega))
      have hi' : i < (moreL (s - n + 1) n.toNat).length := by rw [moreL_length]; omega
      have e : (moreL (s - n + 1) n.toNat).take (i + 1) = (moreL (s - n + 1) n.toNat).take i ++ [moreAt (s - n + 1) n (i : Nat)] := by
        rw [List.take_succ_eq_append_getElem hi']
        congr 2
        simp only [moreL, List.getElem_map, List.getElem_range]
        rw [show ((n.toNat : Nat) : Int) = n by omega]
      have hl0 : ((moreL (s - n + 1) n.toNat).take i).length ≤ 20000 := by rw [List.length_take, moreL_length]; omega
      have hwi : wrap64 ((i : Int) + 1) = ((i + 1 : Nat) : Int) := by rw [wp (by omega) (by omega)]; omega
      have hin : (i : Int) < n := by omega
      have hl : ((moreL (s - n + 1) n.toNat).take i).length < 17592186044416 := Nat.lt_of_le_of_lt hl0 (by decide)
      simp only [sashref16_Sizes.l0]
      rw [if_pos hin, HW6.out, hwi, e, if_pos hl]
      unfold moreAt
      by_cases hc : (i : Int) < (s - n + 1) % n
      · rw [if_pos hc, if_pos hc]
      · rw [if_neg hc, if_neg hc, if_pos hl, Int.add_zero]
  have hw1 : wrap64 (2 * n) = 2 * n := wp (by omega) (by omega)
  have hw2 : wrap64 (2 * n - 1) = 2 * n - 1 := wp (by omega) (by omega)
  have hw3 : wrap64 (n - 1) = n - 1 := wp (by omega) (by omega)
  have hw4 : wrap64 (s - (n - 1)) = s - n + 1 := by rw [wp (by omega) (by omega)]; omega
  have hw5 : wrap64 ((s - n + 1) / n) = (s - n + 1) / n := wp (by omega) (by omega)
  unfold sashref16_Sizes.f
  refine Ev.congr (f := fun k => _) (fun k => Option.bind_some _ _) ?_
  rw [hw1, hw2, decide_eq_false (by omega)]
  refine Ev.ite_neg (by omega) (Ev.ite_neg (by omega) (Ev.ite_neg (by omega) ?_))
  refine Ev.step (f := fun k => sashref16_Sizes.l0 k n [] ((s - n + 1) / n) ((s - n + 1) % n) 0) (fun k => ?_) ?_
  · simp only [sashref16_Sizes.j0]
    rw [if_neg (by simp), if_neg (by omega), hw3, hw4, Int.tdiv_eq_ediv_of_nonneg (by omega), Int.tmod_eq_emod_of_nonneg (by omega), hw5]
  · have := key n.toNat 0 (by omega)
    simpa using this
theorem aw16 : Ev (fun k => (sashlaw16_awake.f k).bind fun t => some t) true := Ev.bind awake16 (Ev.now _)
theorem law_no (s n : Int) (h : ¬ Can s n) : Ev (fun k => sashlaw16_SpreadSizes.j0 k s n false) true := by
  refine Ev.step (f := fun k => (spread_Sizes.f k s n).bind fun bt445 => ((sashref16_Sizes.f k s n).bind fun bt449 => (if (bt445.2 != bt449.2) = true then (sashlaw16_SpreadSizes.j1 k s n bt445.1 bt445.2 true) else ((sashref05_Ints.f k bt445.1 bt449.1).bind fun t453 => (sashlaw16_SpreadSizes.j1 k s n bt445.1 bt445.2 (!t453)))))) (fun k => ?_) (Ev.bind (sizes_no s n h) (Ev.bind (ref_no s n h) (Ev.ite_neg (by simp) (Ev.bind (a := true) (ints_ev [] [] (by simp) rfl) ?_))))
  · simp only [sashlaw16_SpreadSizes.j0]
    rw [if_neg (by simp)]
  · refine Ev.step (f := fun k => sashlaw16_SpreadSizes.l0 k s [] false (wrap64 (n - 1)) 0) (fun k => ?_) ?_
    · simp only [sashlaw16_SpreadSizes.j1]
      rw [if_neg (by simp)]
    · refine Ev.step (f := fun k => (sashlaw16_awake.f k).bind fun t => some t) (fun k => ?_) aw16
      simp only [sashlaw16_SpreadSizes.l0]
      rw [if_neg (by simp), if_neg (by simp)]
theorem law_ok (s n : Int) (h : Can s n) : Ev (fun k => sashlaw16_SpreadSizes.j0 k s n false) true := by
  refine Ev.step (f := fun k => (spread_Sizes.f k s n).bind fun bt445 => ((sashref16_Sizes.f k s n).bind fun bt449 => (if (bt445.2 != bt449.2) = true then (sashlaw16_SpreadSizes.j1 k s n bt445.1 bt445.2 true) else ((sashref05_Ints.f k bt445.1 bt449.1).bind fun t453 => (sashlaw16_SpreadSizes.j1 k s n bt445.1 bt445.2 (!t453)))))) (fun k => ?_) (Ev.bind (sizes_ok s n h) (Ev.bind (ref_ok s n h) (Ev.ite_neg (by simp) (Ev.bind (a := true) (ints_ev _ _ (by rw [moreL_length]; unfold Can at h; omega) rfl) ?_))))
  · simp only [sashlaw16_SpreadSizes.j0]
    rw [if_neg (by simp)]
  · obtain ⟨h1, h2, h3, h4⟩ := h
    generalize hbb : s - n + 1 = b
    obtain ⟨m, rfl⟩ : ∃ m : Nat, n = m := ⟨n.toNat, by omega⟩
    simp only [Int.toNat_natCast]
    have q0 : 1 ≤ b / (m : Int) := by rw [Int.le_ediv_iff_mul_le (by omega)]; omega
    have q1 : b / (m : Int) ≤ b := Int.ediv_le_self _ (by omega)
    have q2 := Int.emod_nonneg b (show (m : Int) ≠ 0 by omega)
    have hrd : ∀ i, i < m → rd (moreL b m) (i : Int) = moreAt b m (i : Nat) := fun i hi => by
      simp [rd, List.getD_eq_getElem?_getD, moreL, hi]
    have hlen := moreL_length b m
    have hr0 := hrd 0 (by omega)
    have htot : ∀ i, i ≤ m → total ((moreL b m).take i) = i * (b / m) + (if (i : Int) ≤ b % m then (i : Int) else b % m) := by
      intro i hi
      rw [← total_more b m q2 i]
      congr 1
      simp only [moreL]
      rw [← List.map_take, List.take_range, Nat.min_eq_left hi]
    have hbd : ∀ i, i ≤ m → 0 ≤ total ((moreL b m).take i) ∧ total ((moreL b m).take i) ≤ 50000000000000 := by
      intro i hi
      rw [htot i hi]
      have a1 : 0 ≤ (i : Int) * (b / m) := Int.mul_nonneg (by omega) (by omega)
      have a2 : (i : Int) * (b / m) ≤ 20000 * 2147483648 := Int.mul_le_mul (by omega) (by omega) (by omega) (by omega)
      rw [show (20000 : Int) * 2147483648 = 42949672960000 from rfl] at a2
      split <;> omega
    have key : ∀ d i, i + d = m → Ev (fun k => sashlaw16_SpreadSizes.l0 k s (moreL b m) true ((m : Int) - 1 + total ((moreL b m).take i)) (i : Nat)) true := by
      intro d
      induction d with
      | zero =>
        intro i hi
        refine Ev.step (f := fun k => (sashlaw16_awake.f k).bind fun t => some t) (fun k => ?_) aw16
        have ht : total ((moreL b m).take i) = b := by
          rw [List.take_of_length_le (by omega)]
          exact total_moreL b m (by omega) (by omega)
        simp only [sashlaw16_SpreadSizes.l0]
        rw [if_neg (by omega), if_pos trivial, ht, if_pos (by omega)]
      | succ d ih =>
        intro i hi
        refine Ev.step (fun k => ?_) (ih (i + 1) (by omega))
        have hri := hrd i (by omega)
        have b1 := hbd i (by omega)
        have b2 := hbd (i + 1) (by omega)
        have ht : total ((moreL b m).take (i + 1)) = total ((moreL b m).take i) + moreAt b m (i : Nat) := by
          rw [List.take_succ_eq_append_getElem (by omega), total_append]
          congr 1
          simp [total, moreL]
        have hat : moreAt b m (i : Nat) ≤ moreAt b m ((0 : Nat) : Int) ∧ moreAt b m ((0 : Nat) : Int) - 1 ≤ moreAt b m (i : Nat) ∧ b / (m : Int) ≤ moreAt b m (i : Nat) ∧ moreAt b m ((0 : Nat) : Int) ≤ b / (m : Int) + 1 := by
          clear b1 b2 ht htot ih hbd hri hr0 hlen hrd q1
          unfold moreAt
          split <;> split <;> omega
        have hr0' : rd (moreL b m) 0 = moreAt b m ((0 : Nat) : Int) := hr0
        have hsum : wrap64 ((m : Int) - 1 + total ((moreL b m).take i) + moreAt b m (i : Nat)) = (m : Int) - 1 + total ((moreL b m).take (i + 1)) := by
          rw [Int.add_assoc, ← ht]
          clear hat hri hr0 hr0' q0 q1 q2 ht htot ih hlen hrd hbd
          exact wp (by omega) (by omega)
        have HS := Aside0.mk hsum
        clear b1 b2 ht htot ih hbd hr0 hrd hsum
        have c0 : (i : Int) < ((moreL b m).length : Int) := by rw [hlen]; omega
        have c1 : (0 : Int) ≤ (i : Int) := by omega
        have c3 : (0 : Int) < ((moreL b m).length : Int) := by rw [hlen]; omega
        obtain ⟨t1, t2, t3, t4⟩ := hat
        have c2 : ¬ moreAt b m (i : Nat) < 1 := by omega
        have c4 : ¬ moreAt b m (i : Nat) > moreAt b m ((0 : Nat) : Int) := by omega
        have c5 : ¬ moreAt b m (i : Nat) < moreAt b m ((0 : Nat) : Int) - 1 := by omega
        have c6 : wrap64 (moreAt b m ((0 : Nat) : Int) - 1) = moreAt b m ((0 : Nat) : Int) - 1 := wp (by omega) (by omega)
        have hwi : wrap64 ((i : Int) + 1) = ((i + 1 : Nat) : Int) := (wp (by omega) (by omega)).trans (by omega)
        simp only [sashlaw16_SpreadSizes.l0]
        rw [if_pos c0, if_pos c1, hri, hr0', if_neg c2, if_pos c3, if_neg c4, c6, if_neg c5, hwi, HS.out]
    refine Ev.step (f := fun k => sashlaw16_SpreadSizes.l0 k s (moreL b m) true ((m : Int) - 1) 0) (fun k => ?_) ?_
    · simp only [sashlaw16_SpreadSizes.j1]
      rw [if_neg (by simp), wp (by omega) (by omega)]
    · have := key m 0 (by omega)
      simpa [total] using this
theorem SpreadSizes : sashlaw16_SpreadSizes.Pure := by
  intro s n _ _
  refine Ev.rounds (g := fun k => sashlaw16_SpreadSizes.f k s n) ?_
  have j : Ev (fun k => sashlaw16_SpreadSizes.j0 k s n false) true := by
    by_cases h : Can s n
    · exact law_ok s n h
    · exact law_no s n h
  unfold sashlaw16_SpreadSizes.f
  by_cases h1 : n > 2000
  · refine Ev.ite_pos h1 ?_
    by_cases h2 : n ≤ 20000
    · rw [decide_eq_true h2]
      refine Ev.step (f := fun k => (sashlaw16_awake.f k).bind fun t => some t) (fun k => ?_) aw16
      simp only [sashlaw16_SpreadSizes.j0]
      rw [if_pos trivial]
    · rw [decide_eq_false h2]; exact j
  · exact Ev.ite_neg h1 j
end Go.Proofs.Ytfdmfgaiblfbhaa.Pure
