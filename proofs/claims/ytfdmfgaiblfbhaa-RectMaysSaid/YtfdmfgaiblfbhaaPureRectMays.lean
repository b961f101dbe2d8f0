/- RectMays, the plain law: whether any rectangles may be, are apart, and how many cells they have, is the reference's. No condition. -/
import Derived.Test.YtfdmfgaiblfbhaaYRect3
import Derived.Test.YtfdmfgaiblfbhaaPF14
namespace Go.Proofs.Ytfdmfgaiblfbhaa.Pure
open Go.RowKit Go.Proofs.Ytfdmfgaiblfbhaa.P Go.Proofs.YtfdmfgaiblfbhaaW.PrintWords Go.Proofs.YtfdmfgaiblfbhaaW.PrintLast Go.Proofs.YtfdmfgaiblfbhaaW.PrintMore
theorem RectMays : ∀ (a0 : List S23), a0.length ≤ 9223372036854775807 → (∀ x, x ∈ a0 → wf23 x) → ∃ k, sashlaw04_RectMays.f k a0 = some true := by
  intro l hl _
  refine Ev.rounds (g := fun k => sashlaw04_RectMays.f k l) ?_
  unfold sashlaw04_RectMays.f
  by_cases h : (l.length : Int) > 40
  · exact ev_pos h aw04
  · refine ev_neg h ?_
    obtain ⟨t, t1, t2⟩ := area_ev l hl l.length 0 0 (by omega)
    refine Ev.bind (a := l.all mayR) (ev_some fun k => rfl) (Ev.bind (all_ev l hl) (ev_pos (by simp) ?_))
    refine Ev.bind (a := l.all mayR && apartL [] l) (ev_some fun k => rfl) (Ev.bind (apartments_ev l hl) (ev_pos (by simp) ?_))
    exact Ev.bind t1 (Ev.bind t2 (ev_pos rfl aw04))
end Go.Proofs.Ytfdmfgaiblfbhaa.Pure
