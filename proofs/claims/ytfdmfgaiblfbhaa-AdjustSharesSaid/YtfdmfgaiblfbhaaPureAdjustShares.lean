/- AdjustShares, the plain law: what kids come to, round by round, is the reference's. No condition. -/
import Derived.Test.YtfdmfgaiblfbhaaYShares
import Derived.Test.YtfdmfgaiblfbhaaPF6
namespace Go.Proofs.Ytfdmfgaiblfbhaa.Pure
open Go.RowKit Go.Proofs.Ytfdmfgaiblfbhaa.P Go.Proofs.YtfdmfgaiblfbhaaW.PrintWords Go.Proofs.YtfdmfgaiblfbhaaW.PrintLast Go.Proofs.YtfdmfgaiblfbhaaW.PrintMore
theorem is_bound {b : Int} {gs : List Int} {r : List Int × Bool} (h : SharesIs b gs r) : r.2 = false → r.1 = [] := by
  rcases h with ⟨rfl, _⟩ | ⟨rfl, _⟩ | ⟨qs, rfl, _⟩ <;> simp
/-- What Shares answers, beside the reference's. -/
theorem ref_is (b : Int) (gs : List Int) (hl : gs.length ≤ 100000) (h0 : -100000 ≤ b) (h1 : b ≤ 100000) (r : List Int × Bool) (h : SharesIs b gs r) : Ev (fun k => sashref09_Shares.f k b gs) r := by
  unfold sashref09_Shares.f
  refine Ev.ite_pos ⟨h0, h1, hl⟩ ?_
  rcases h with ⟨rfl, h⟩ | ⟨rfl, hne, hg, hb⟩ | ⟨qs, rfl, hg, hb, hf, hq, he, ho, hr⟩
  · rcases h with h | h | ⟨h, h2⟩
    · exact Ev.ite_pos h (Ev.now _)
    · refine Ev.ite_neg ?_ (Ev.ite_neg h (Ev.now _))
      rintro rfl
      exact h fun g hg => by cases hg
    · by_cases hne : gs = []
      · exact Ev.ite_pos hne (Ev.now _)
      · refine Ev.ite_neg hne (Ev.ite_pos h ?_)
        have ht := total_nonneg gs fun g hg => (h g hg).1
        have := ref_stuck (-b).toNat (-b) (gs.map fun g => (g, 0)) rfl (zeros_good h) (by rw [total_avail]; omega) (by omega)
        rw [Int.neg_neg] at this
        exact this
  · exact Ev.ite_neg hne (Ev.ite_pos hg (ref_more b gs hb hne))
  · refine Ev.ite_neg ?_ (Ev.ite_pos hg hr)
    rintro rfl
    have : qs = [] := List.map_eq_nil_iff.1 hf
    subst this
    simp [outs] at ho
    omega
theorem is_len {b : Int} {gs : List Int} {r : List Int × Bool} (h : SharesIs b gs r) : r.2 = true → r.1.length = gs.length := by
  rcases h with ⟨rfl, h⟩ | ⟨rfl, hne, hg, hb⟩ | ⟨qs, rfl, hg, hb, hf, _⟩
  · simp
  · intro _; exact moreL_length _ _
  · intro _; rw [← hf]; simp

theorem law_shares_go (b : Int) (gs : List Int) (hl : gs.length ≤ 50) (h0 : -3000 ≤ b) (h1 : b ≤ 3000) :
    Ev (fun k => (adjust_Shares.f k b gs).bind fun bt379 => ((sashref09_Shares.f k b gs).bind fun bt383 => (if (bt379.2 != bt383.2) = true then (some false) else (if bt379.2 = true then ((sashref05_Ints.f k bt379.1 bt383.1).bind fun t387 => (if t387 = true then ((sashlaw09_awake.f k).bind fun t388 => (some t388)) else (some false))) else (if (bt379.1.length : Int) = 0 then ((sashlaw09_awake.f k).bind fun t389 => (some t389)) else (some false)))))) true := by
  obtain ⟨r, hr, hE⟩ := shares_is b gs (by omega) (by omega) (by omega)
  refine Ev.bind hE (Ev.bind (ref_is b gs (by omega) (by omega) (by omega) r hr) ?_)
  refine Ev.ite_neg (by simp) ?_
  have aw : Ev (fun k => (sashlaw09_awake.f k).bind fun t => some t) true := Ev.bind awake09 (Ev.now _)
  cases hb : r.2 with
  | true =>
    refine Ev.ite_pos rfl (Ev.bind (a := true) (ints_ev _ _ (by rw [is_len hr hb]; omega) rfl) (Ev.ite_pos rfl aw))
  | false =>
    refine Ev.ite_neg (by simp) (Ev.ite_pos ?_ aw)
    rw [is_bound hr hb]; rfl
theorem AdjustShares : sashlaw09_AdjustShares.Pure := by
  intro b gs _ _ _ hw
  have aw : Ev (fun k => (sashlaw09_awake.f k).bind fun t => some t) true := Ev.bind awake09 (Ev.now _)
  have j0t : Ev (fun k => sashlaw09_AdjustShares.j0 k b gs true) true := by
    refine Ev.step (f := fun k => (sashlaw09_awake.f k).bind fun t => some t) (fun k => ?_) aw
    simp only [sashlaw09_AdjustShares.j0]
    rw [if_pos trivial]
  refine Ev.rounds (g := fun k => sashlaw09_AdjustShares.f k b gs) ?_
  unfold sashlaw09_AdjustShares.f
  by_cases h1 : (gs.length : Int) > 50
  · exact Ev.ite_pos h1 j0t
  · refine Ev.ite_neg h1 ?_
    by_cases h2 : b > 3000
    · exact Ev.ite_pos h2 j0t
    · refine Ev.ite_neg h2 ?_
      by_cases h3 : b < -3000
      · rw [decide_eq_true h3]; exact j0t
      · rw [decide_eq_false h3]
        refine Ev.step (f := fun k => sashlaw09_AdjustShares.l0 k b gs 0) (fun k => ?_) ?_
        · simp only [sashlaw09_AdjustShares.j0]
          rw [if_neg (by simp)]
        · have key : ∀ (rest pre : List Int), pre ++ rest = gs → Ev (fun k => sashlaw09_AdjustShares.l0 k b gs (pre.length : Int)) true := by
            intro rest
            induction rest with
            | nil =>
              intro pre e
              refine Ev.step (fun k => ?_) (law_shares_go b gs (by omega) (by omega) (by omega))
              simp only [sashlaw09_AdjustShares.l0]
              rw [if_neg (by rw [← e]; simp)]
            | cons g rest ih =>
              intro pre e
              have hlen : gs.length = pre.length + (rest.length + 1) := by rw [← e]; simp
              have hrd : rd gs (pre.length : Int) = g := by rw [← e]; exact rd_pre' pre g rest
              by_cases hg : g > 3000
              · refine Ev.step (f := fun k => (sashlaw09_awake.f k).bind fun t => some t) (fun k => ?_) aw
                simp only [sashlaw09_AdjustShares.l0]
                rw [if_pos (by omega), if_pos (by omega), hrd, if_pos hg]
              · refine Ev.step (fun k => ?_) (ih (pre ++ [g]) (by simp [e]))
                simp only [sashlaw09_AdjustShares.l0]
                rw [if_pos (by omega), if_pos (by omega), hrd, if_neg hg, wp (by omega) (by omega)]
                simp
          exact key gs [] rfl
end Go.Proofs.Ytfdmfgaiblfbhaa.Pure
