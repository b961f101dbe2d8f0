/- FlatChanges, the plain law: those panes that are new, or of another size than among others, are the reference's. No condition. -/
import Derived.Test.YtfdmfgaiblfbhaaYChanged
import Derived.Test.YtfdmfgaiblfbhaaRead
import Derived.Test.YtfdmfgaiblfbhaaPF9
namespace Go.Proofs.Ytfdmfgaiblfbhaa.Pure
open Go.RowKit Go.Proofs.Ytfdmfgaiblfbhaa.P Go.Proofs.YtfdmfgaiblfbhaaW.PrintWords Go.Proofs.YtfdmfgaiblfbhaaW.PrintLast Go.Proofs.YtfdmfgaiblfbhaaW.PrintMore
theorem FlatChanges : ∀ (a0 : List S35) (a1 : List S35), a0.length ≤ 9223372036854775807 → (∀ x, x ∈ a0 → wf35 x) → a1.length ≤ 9223372036854775807 → (∀ x, x ∈ a1 → wf35 x) → ∃ k, sashlaw07_FlatChanges.f k a0 a1 = some true := by
  intro a l _ _ _ _
  refine Ev.rounds (g := fun k => sashlaw07_FlatChanges.f k a l) ?_
  unfold sashlaw07_FlatChanges.f
  have aw : Ev (fun k => (sashlaw07_awake.f k).bind fun t => some t) true := Ev.bind awake07 (Ev.now _)
  have jt : Ev (fun k => sashlaw07_FlatChanges.j0 k a l true) true := by
    refine Ev.step (fun k => ?_) aw
    simp only [sashlaw07_FlatChanges.j0]
    rw [if_pos trivial]
  by_cases ha : (a.length : Int) > 100
  · exact ev_pos ha jt
  refine ev_neg ha ?_
  by_cases hl : (l.length : Int) > 100
  · rw [decide_eq_true hl]
    exact jt
  rw [decide_eq_false hl]
  have e1 := keepL_len a l
  refine Ev.step (f := fun k => (flat_Changed.f a l).bind fun t494 => ((sashref07_Changed.f k a l).bind fun t497 => ((sashref07_Same.f k t494 t497).bind fun t500 => (if t500 = true then ((flat_Changed.f (([] : List (S35))) l).bind fun t504 => ((sashref07_Same.f k t504 l).bind fun t507 => (if t507 = true then ((sashlaw07_awake.f k).bind fun t508 => (some t508)) else (some false)))) else (some false))))) (fun k => ?_) ?_
  · simp only [sashlaw07_FlatChanges.j0]
    rw [if_neg (by simp)]
  · refine Ev.bind (a := keepL a l) (ev_some fun k => changed_some a l (by omega)) (Ev.bind (refchanged_ev a l (by omega) (by omega)) (Ev.bind (same35_ev _ (by omega)) (ev_pos rfl (Ev.bind (a := keepL [] l) (ev_some fun k => changed_some [] l (by omega)) ?_))))
    rw [keepL_none]
    exact Ev.bind (same35_ev l (by omega)) (ev_pos rfl aw)
end Go.Proofs.Ytfdmfgaiblfbhaa.Pure
