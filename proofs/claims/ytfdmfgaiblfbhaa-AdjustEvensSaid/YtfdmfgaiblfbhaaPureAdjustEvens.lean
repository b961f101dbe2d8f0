/- AdjustEvens, the plain law: shares given differ by 1 at most; of shares taken none is below what its kid can give. No condition. -/
import Derived.Test.YtfdmfgaiblfbhaaYShares
import Derived.Test.YtfdmfgaiblfbhaaPF7
namespace Go.Proofs.Ytfdmfgaiblfbhaa.Pure
open Go.RowKit Go.Proofs.Ytfdmfgaiblfbhaa.P Go.Proofs.YtfdmfgaiblfbhaaW.PrintWords Go.Proofs.YtfdmfgaiblfbhaaW.PrintLast Go.Proofs.YtfdmfgaiblfbhaaW.PrintMore
/-- What the law asks of two kids. -/
def Pair (b : Int) (gs l : List Int) (i k : Nat) : Prop := (0 ≤ b → 0 ≤ rd l (i : Int) ∧ rd l (i : Int) ≤ rd l (k : Int) + 1) ∧ (b < 0 → rd l (i : Int) ≤ 0 ∧ (rd l (i : Int) > rd l (k : Int) + 1 → rd l (i : Int) = -rd gs (i : Int)))
theorem evens_l1 (b : Int) (gs l : List Int) (hgl : gs.length = l.length) (hn : l.length ≤ 50) (hP : ∀ i k, i < l.length → k < l.length → Pair b gs l i k) (hb : ∀ i, i < l.length → -2147483647 ≤ rd l (i : Int) ∧ rd l (i : Int) ≤ 2147483646)
    (hg : ∀ i, i < l.length → 0 ≤ rd gs (i : Int) ∧ rd gs (i : Int) ≤ 2147483647) (hB : ∀ i, i < l.length → rd l (i : Int) < 0 → -rd l (i : Int) ≤ rd gs (i : Int)) (s : Int) (i : Nat) (hi : i < l.length)
    (h : Ev (fun k => sashlaw09_AdjustEvens.l0 k b gs l s ((i + 1 : Nat) : Int)) true) : ∀ d j, j + d = l.length → Ev (fun k => sashlaw09_AdjustEvens.l1 k b gs l s (i : Int) (j : Nat)) true := by
  have hi1 : (i : Int) < (l.length : Int) := by omega
  have hi2 : (0 : Int) ≤ (i : Int) := by omega
  have hig : (i : Int) < (gs.length : Int) := by omega
  have hwi : wrap64 ((i : Int) + 1) = ((i + 1 : Nat) : Int) := by rw [wp (by omega) (by omega)]; omega
  have hgi := hg i hi
  have hbi := hb i hi
  intro d
  induction d with
  | zero =>
    intro j hj
    refine Ev.step (fun k => ?_) h
    have hj1 : ¬ (j : Int) < (l.length : Int) := by omega
    simp only [sashlaw09_AdjustEvens.l1]
    rw [if_neg hj1, if_pos hi2, if_pos hi1]
    by_cases hn0 : rd l (i : Int) < 0
    · have := hB i hi hn0
      rw [if_pos hn0, if_pos hig, wp (by omega) (by omega), if_neg (by omega), hwi]
    · rw [if_neg hn0, hwi]
  | succ d ih =>
    intro j hj
    refine Ev.step (fun k => ?_) (ih (j + 1) (by omega))
    have hj1 : (j : Int) < (l.length : Int) := by omega
    have hj2 : (0 : Int) ≤ (j : Int) := by omega
    have hwj : wrap64 ((j : Int) + 1) = ((j + 1 : Nat) : Int) := by rw [wp (by omega) (by omega)]; omega
    have hbj := hb j (by omega)
    have hp := hP i j hi (by omega)
    have hw1 : wrap64 (rd l (j : Int) + 1) = rd l (j : Int) + 1 := wp (by omega) (by omega)
    have hw2 : wrap64 (-rd gs (i : Int)) = -rd gs (i : Int) := wp (by omega) (by omega)
    simp only [sashlaw09_AdjustEvens.l1]
    rw [if_pos hj1]
    simp only [if_pos hi1, if_pos hi2, if_pos hj2, if_pos hig, hw1, hw2, hwj]
    by_cases h0 : b ≥ 0
    · obtain ⟨p1, p2⟩ := hp.1 h0
      rw [if_pos h0, if_neg (by omega), if_neg (by omega), if_neg (show ¬ b < 0 by omega)]
    · obtain ⟨p1, p2⟩ := hp.2 (by omega)
      rw [if_neg h0, if_pos (show b < 0 by omega), if_neg (by omega)]
      by_cases h3 : rd l (i : Int) > rd l (j : Int) + 1
      · rw [if_pos h3, if_pos (p2 h3)]
      · rw [if_neg h3]
theorem rd_at (l : List Int) (i : Nat) (h : i < l.length) : rd l (i : Int) = l[i] := by simp [rd, List.getD_eq_getElem?_getD, h]
theorem total_take (l : List Int) (i : Nat) (h : i < l.length) : total (l.take (i + 1)) = total (l.take i) + rd l (i : Int) := by
  rw [List.take_succ_eq_append_getElem h, total_append, rd_at l i h]
  simp [total]
theorem evens_l0 (b : Int) (gs l : List Int) (hgl : gs.length = l.length) (hn : l.length ≤ 50) (hP : ∀ i k, i < l.length → k < l.length → Pair b gs l i k) (hb : ∀ i, i < l.length → -2147483647 ≤ rd l (i : Int) ∧ rd l (i : Int) ≤ 2147483646)
    (hg : ∀ i, i < l.length → 0 ≤ rd gs (i : Int) ∧ rd gs (i : Int) ≤ 2147483647) (hB : ∀ i, i < l.length → rd l (i : Int) < 0 → -rd l (i : Int) ≤ rd gs (i : Int)) (hs : ∀ i, i ≤ l.length → -1000000000000 ≤ total (l.take i) ∧ total (l.take i) ≤ 1000000000000) (ht : total l = b) :
    ∀ d i, i + d = l.length → Ev (fun k => sashlaw09_AdjustEvens.l0 k b gs l (total (l.take i)) (i : Nat)) true := by
  intro d
  induction d with
  | zero =>
    intro i hi
    refine Ev.step (f := fun k => (sashlaw09_awake.f k).bind fun t => some t) (fun k => ?_) (Ev.bind awake09 (Ev.now _))
    simp only [sashlaw09_AdjustEvens.l0]
    rw [if_neg (by omega), List.take_of_length_le (by omega), if_pos ht]
  | succ d ih =>
    intro i hi
    have h2 := hs (i + 1) (by omega)
    have h3 := total_take l i (by omega)
    refine Ev.step (f := fun k => sashlaw09_AdjustEvens.l1 k b gs l (total (l.take (i + 1))) (i : Nat) ((0 : Nat) : Int)) (fun k => ?_) (evens_l1 b gs l hgl hn hP hb hg hB _ i (by omega) (ih (i + 1) (by omega)) l.length 0 (by omega))
    simp only [sashlaw09_AdjustEvens.l0]
    rw [if_pos (by omega), if_pos (by omega), wp (by omega) (by omega), h3]
    rfl
theorem total_bounds (l : List Int) (m : Int) (_hm : 0 ≤ m) (h : ∀ x, x ∈ l → -m ≤ x ∧ x ≤ m) : -(l.length * m) ≤ total l ∧ total l ≤ l.length * m := by
  induction l with
  | nil => simp [total]
  | cons x l ih =>
    have h1 := h x (by simp)
    have h2 := ih fun y hy => h y (by simp [hy])
    simp only [total, List.length_cons]
    rw [show ((l.length + 1 : Nat) : Int) = (l.length : Int) + 1 by omega, Int.add_mul, Int.one_mul]
    omega

theorem AdjustEvens : sashlaw09_AdjustEvens.Pure := by
  intro b gs _ _ _ hw
  have aw : Ev (fun k => (sashlaw09_awake.f k).bind fun t => some t) true := Ev.bind awake09 (Ev.now _)
  have j0t : Ev (fun k => sashlaw09_AdjustEvens.j0 k b gs true) true := by
    refine Ev.step (f := fun k => (sashlaw09_awake.f k).bind fun t => some t) (fun k => ?_) aw
    simp only [sashlaw09_AdjustEvens.j0]
    rw [if_pos trivial]
  refine Ev.rounds (g := fun k => sashlaw09_AdjustEvens.f k b gs) ?_
  unfold sashlaw09_AdjustEvens.f
  by_cases h1 : (gs.length : Int) > 50
  · exact Ev.ite_pos h1 j0t
  · refine Ev.ite_neg h1 ?_
    by_cases h2 : b > 3000
    · exact Ev.ite_pos h2 j0t
    · refine Ev.ite_neg h2 ?_
      by_cases h3 : b < -3000
      · rw [decide_eq_true h3]; exact j0t
      · rw [decide_eq_false h3]
        obtain ⟨r, hr, hE⟩ := shares_is b gs (by omega) (by omega) (by omega)
        refine Ev.step (f := fun k => (adjust_Shares.f k b gs).bind fun bt391 => (if bt391.2 = true then (if (bt391.1.length : Int) = (gs.length : Int) then (sashlaw09_AdjustEvens.l0 k b gs bt391.1 0 0) else (some false)) else ((sashlaw09_awake.f k).bind fun t395 => (some t395)))) (fun k => ?_) (Ev.bind hE ?_)
        · simp only [sashlaw09_AdjustEvens.j0]
          rw [if_neg (by simp)]
        · have go : ∀ l : List Int, l.length = gs.length → (∀ i k, i < l.length → k < l.length → Pair b gs l i k) → (∀ i, i < l.length → -2147483647 ≤ rd l (i : Int) ∧ rd l (i : Int) ≤ 2147483646) → (∀ i, i < l.length → 0 ≤ rd gs (i : Int) ∧ rd gs (i : Int) ≤ 2147483647) →
              (∀ i, i < l.length → rd l (i : Int) < 0 → -rd l (i : Int) ≤ rd gs (i : Int)) → total l = b → Ev (fun k => if ((l.length : Int) = (gs.length : Int)) then (sashlaw09_AdjustEvens.l0 k b gs l 0 0) else (some false)) true := by
            intro l e1 e2 e3 e4 e5 e6
            refine Ev.ite_pos (by omega) ?_
            have hs : ∀ i, i ≤ l.length → -1000000000000 ≤ total (l.take i) ∧ total (l.take i) ≤ 1000000000000 := by
              intro i hi
              have hb := total_bounds (l.take i) 2147483647 (by omega) (fun x hx => by
                obtain ⟨j, hj, rfl⟩ := List.getElem_of_mem (List.mem_of_mem_take hx)
                have := e3 j hj
                rw [rd_at l j hj] at this
                omega)
              have hl : ((l.take i).length : Int) ≤ 50 := by simp; omega
              have h0 : (0 : Int) ≤ (l.take i).length := by omega
              generalize ((l.take i).length : Int) = m at hb hl h0
              omega
            exact evens_l0 b gs l e1.symm (by omega) e2 e3 e4 e5 hs e6 l.length 0 (by omega)
          rcases hr with ⟨rfl, _⟩ | ⟨rfl, hne, hg, hb⟩ | ⟨qs, rfl, hg, hb, hf, hq, he, ho, _⟩
          · exact Ev.ite_neg (by simp) aw
          · refine Ev.ite_pos rfl ?_
            have hpos : 0 < gs.length := List.length_pos_iff.2 hne
            have hrd : ∀ i, i < gs.length → rd (moreL b gs.length) (i : Int) = moreAt b gs.length (i : Nat) := fun i hi => by
              rw [rd_at _ _ (by rw [moreL_length]; exact hi)]
              simp [moreL]
            have q0 : 0 ≤ b / (gs.length : Int) := Int.ediv_nonneg hb (by omega)
            have q1 : b / (gs.length : Int) ≤ b := Int.ediv_le_self _ hb
            have hat : ∀ i : Nat, b / (gs.length : Int) ≤ moreAt b gs.length (i : Nat) ∧ moreAt b gs.length (i : Nat) ≤ b / (gs.length : Int) + 1 := fun i => by unfold moreAt; split <;> omega
            have hgm : ∀ i, i < gs.length → 0 ≤ rd gs (i : Int) ∧ rd gs (i : Int) ≤ 2147483647 := fun i hi => by rw [rd_at gs i hi]; exact hg _ (List.getElem_mem hi)
            refine go (moreL b gs.length) (moreL_length _ _) ?_ ?_ ?_ ?_ (total_moreL b gs.length hb hpos)
            · intro i k hi hk
              rw [moreL_length] at hi hk
              have a1 := hat i
              have a2 := hat k
              unfold Pair
              rw [hrd i hi, hrd k hk]
              exact ⟨fun _ => by omega, fun _ => by omega⟩
            · intro i hi
              rw [moreL_length] at hi
              have a1 := hat i
              rw [hrd i hi]
              omega
            · intro i hi
              rw [moreL_length] at hi
              exact hgm i hi
            · intro i hi
              rw [moreL_length] at hi
              have a1 := hat i
              rw [hrd i hi]
              omega
          · refine Ev.ite_pos rfl ?_
            have hl : (qs.map Prod.snd).length = gs.length := by rw [← hf]; simp
            have hmem : ∀ i, i < gs.length → ∃ p, p ∈ qs ∧ rd (qs.map Prod.snd) (i : Int) = p.2 ∧ rd gs (i : Int) = p.1 := by
              intro i hi
              have hi' : i < qs.length := by rw [← hf] at hi; simpa using hi
              refine ⟨qs[i], List.getElem_mem hi', ?_, ?_⟩
              · rw [rd_at _ _ (by simpa using hi')]; simp
              · rw [rd_at gs i hi]
                have : gs[i] = (qs.map Prod.fst)[i]'(by simpa using hi') := by simp only [hf]
                rw [this]; simp
            refine go (qs.map Prod.snd) hl ?_ ?_ ?_ ?_ (by rw [← outs_total]; exact ho)
            · intro i k hi hk
              obtain ⟨p, hp, p1, p2⟩ := hmem i (by omega)
              obtain ⟨q, hq', q1, q2⟩ := hmem k (by omega)
              have a1 := hq p hp
              have a2 := hq q hq'
              have a3 := he p hp q hq'
              unfold Pair
              rw [p1, p2, q1]
              exact ⟨fun _ => by omega, fun _ => ⟨by omega, a3⟩⟩
            · intro i hi
              obtain ⟨p, hp, p1, p2⟩ := hmem i (by omega)
              have a1 := hq p hp
              rw [p1]
              omega
            · intro i hi
              obtain ⟨p, hp, p1, p2⟩ := hmem i (by omega)
              have a1 := hq p hp
              rw [p2]
              omega
            · intro i hi _
              obtain ⟨p, hp, p1, p2⟩ := hmem i (by omega)
              have a1 := hq p hp
              rw [p1, p2]
              omega
end Go.Proofs.Ytfdmfgaiblfbhaa.Pure
