/- RectCuts, the plain law: what any rectangle is cut into, or that it can't be, is the reference's. No condition. -/
import Derived.Test.YtfdmfgaiblfbhaaYRect
import Derived.Test.YtfdmfgaiblfbhaaPF5
namespace Go.Proofs.Ytfdmfgaiblfbhaa.Pure
open Go.RowKit Go.Proofs.Ytfdmfgaiblfbhaa.P Go.Proofs.YtfdmfgaiblfbhaaW.PrintWords Go.Proofs.YtfdmfgaiblfbhaaW.PrintLast Go.Proofs.YtfdmfgaiblfbhaaW.PrintMore

/-- Both answer alike; the rows are no longer than the sizes are many. -/
theorem cut_alike (X Y W H ax : Int) (hax : U8 ax) (sizes : List Int) (hl : sizes.length ≤ 20000) : ∃ t : List S23 × List S23 × Bool, (t.1.length ≤ sizes.length ∧ t.2.1.length ≤ sizes.length) ∧ Ev (fun k => rect_Cut.f k X Y W H ax sizes) t ∧ Ev (fun k => sashref04_Cut.f k X Y W H ax sizes) t := by
  have no1 : ∀ x y z u : Int, Ev (fun k => rect_Cut.j0 k ax sizes true x y z u) ([], [], false) := fun x y z u => by
    refine Ev.step (fun k => ?_) (Ev.now _)
    simp only [rect_Cut.j0]
    rw [if_pos trivial]
  have no2 : Ev (fun k => sashref04_Cut.j0 k ax sizes [] true X Y W H) ([], [], false) := by
    refine Ev.step (fun k => ?_) (Ev.now _)
    simp only [sashref04_Cut.j0]
    rw [if_pos trivial]
  have e2 : ∀ r, Ev (fun k => if mayB X Y W H = true then (if ax < 1 then (sashref04_Cut.j0 k ax sizes [] true X Y W H) else (if ax > 2 then (sashref04_Cut.j0 k ax sizes [] true X Y W H) else (sashref04_Cut.j0 k ax sizes [] ((sizes.length : Int) == 0) X Y W H))) else (sashref04_Cut.j0 k ax sizes [] true X Y W H)) r → Ev (fun k => sashref04_Cut.f k X Y W H ax sizes) r := fun r h => by
    refine Ev.congr (fun k => ?_) h
    unfold sashref04_Cut.f
    rw [refmay_some]
    rfl
  unfold U8 at hax
  by_cases ha : ax = 1 ∨ ax = 2
  · have e1 : ∀ r, Ev (fun k => if mayB X Y W H = true then (rect_Cut.j0 k ax sizes ((sizes.length : Int) == 0) (tX ax X Y) (tX ax Y X) (tX ax W H) (tX ax H W)) else (rect_Cut.j0 k ax sizes true (tX ax X Y) (tX ax Y X) (tX ax W H) (tX ax H W))) r → Ev (fun k => rect_Cut.f k X Y W H ax sizes) r := fun r h => by
      refine Ev.congr (fun k => ?_) h
      unfold rect_Cut.f
      rw [turned_some ha]
      simp only [Option.bind_some]
      rw [if_pos trivial, may_some]
      rfl
    by_cases hm : mayB X Y W H = true
    · by_cases hs : sizes = []
      · subst hs
        exact ⟨_, ⟨by simp, by simp⟩, e1 _ (ev_pos hm (no1 _ _ _ _)), e2 _ (ev_pos hm (ev_neg (by omega) (ev_neg (by omega) no2)))⟩
      · have hpos : 0 < sizes.length := List.length_pos_iff.2 hs
        have hz : ((sizes.length : Int) == 0) = false := by simp; exact hs
        obtain ⟨t, t0, t1, t2⟩ := cut_both ax X Y W H ha hm sizes hl sizes [] 0 [] [] rfl (by omega) (by omega) (by simp) (by simp) (by simp) (by simp)
        refine ⟨t, t0, e1 _ (ev_pos hm ?_), e2 _ (ev_pos hm (ev_neg (by omega) (ev_neg (by omega) ?_)))⟩
        · rw [hz]
          refine Ev.step (fun k => ?_) t1
          simp only [rect_Cut.j0]
          rw [if_neg (by simp), Int.add_zero]
          rfl
        · rw [hz]
          refine Ev.step (f := fun k => sashref04_Cut.j1 k ax sizes [] (tX ax W H) X Y W H) (fun k => ?_) (Ev.step (fun k => ?_) t2)
          · simp only [sashref04_Cut.j0]
            rw [if_neg (by simp)]
            rcases ha with rfl | rfl
            · rw [if_neg (by omega)]; rfl
            · rw [if_pos rfl]; rfl
          · simp only [sashref04_Cut.j1]
            rfl
    · exact ⟨_, ⟨by simp, by simp⟩, e1 _ (ev_neg hm (no1 _ _ _ _)), e2 _ (ev_neg hm no2)⟩
  · refine ⟨([], [], false), ⟨by simp, by simp⟩, Ev.congr (f := fun k => rect_Cut.j0 k ax sizes true 0 0 0 0) (fun k => ?_) (no1 _ _ _ _), e2 _ ?_⟩
    · unfold rect_Cut.f rect_turned.f
      rw [if_neg (by omega), if_neg (by omega)]
      rfl
    · by_cases hm : mayB X Y W H = true
      · refine ev_pos hm ?_
        by_cases h1 : ax < 1
        · exact ev_pos h1 no2
        · exact ev_neg h1 (ev_pos (by omega) no2)
      · exact ev_neg hm no2
theorem RectCuts : ∀ (a0 : S23) (a1 : Int) (a2 : List Int), wf23 a0 → U8 a1 → a2.length ≤ 9223372036854775807 → (∀ x, x ∈ a2 → I64 x) → ∃ k, sashlaw04_RectCuts.f k a0.f0 a0.f1 a0.f2 a0.f3 a1 a2 = some true := by
  intro r ax sizes _ hax _ _
  refine Ev.rounds (g := fun k => sashlaw04_RectCuts.f k r.f0 r.f1 r.f2 r.f3 ax sizes) ?_
  have aw : Ev (fun k => (sashlaw04_awake.f k).bind fun t => some t) true := Ev.bind awake04 (Ev.now _)
  unfold sashlaw04_RectCuts.f
  by_cases h : (sizes.length : Int) > 100
  · exact ev_pos h aw
  · refine ev_neg h ?_
    obtain ⟨t, ⟨l1, l2⟩, t1, t2⟩ := cut_alike r.f0 r.f1 r.f2 r.f3 ax hax sizes (by omega)
    refine Ev.bind t1 (Ev.bind t2 (ev_pos (by simp) ?_))
    exact Ev.bind (same_ev _ (by omega)) (ev_pos rfl (Ev.bind (same_ev _ (by omega)) (ev_pos rfl aw)))
end Go.Proofs.Ytfdmfgaiblfbhaa.Pure
