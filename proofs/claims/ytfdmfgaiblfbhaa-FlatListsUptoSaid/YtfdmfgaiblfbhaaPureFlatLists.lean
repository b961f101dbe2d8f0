/- FlatLists, the plain law: the panes of a tree, and that with any number, are the reference's. Condition: the tree has at most 1048576 cells. -/
import Derived.Test.YtfdmfgaiblfbhaaYFlat
import Derived.Test.YtfdmfgaiblfbhaaRead
import Derived.Test.YtfdmfgaiblfbhaaPF4
namespace Go.Proofs.Ytfdmfgaiblfbhaa.Pure
open Go.RowKit Go.Proofs.Ytfdmfgaiblfbhaa.P Go.Proofs.YtfdmfgaiblfbhaaW.PrintWords Go.Proofs.YtfdmfgaiblfbhaaW.PrintLast Go.Proofs.YtfdmfgaiblfbhaaW.PrintMore
theorem same_refl (l : List S35) (h : l.length ≤ 1048576) : Ev (fun k => sashref07_Same.f k l l) true := by
  unfold sashref07_Same.f
  refine ev_pos rfl ?_
  have key : ∀ (rest pre : List S35), pre ++ rest = l → Ev (fun k => sashref07_Same.l0 k l l (l.length : Int) (pre.length : Int)) true := by
    intro rest
    induction rest with
    | nil =>
      intro pre hp
      rw [List.append_nil] at hp
      refine Ev.step (f := fun _ => some true) (fun k => ?_) (Ev.now _)
      simp only [sashref07_Same.l0]
      rw [if_neg (by rw [hp]; omega)]
    | cons x xs ihr =>
      intro pre hp
      have hl : (pre.length : Int) < (l.length : Int) := by rw [← hp, List.length_append, List.length_cons]; omega
      have e2 := ihr (pre ++ [x]) (by rw [List.append_assoc]; exact hp)
      have hu : wrap64 ((pre.length : Int) + 1) = ((pre ++ [x]).length : Int) := up_in pre x xs (by rw [hp]; omega)
      refine Ev.step (fun k => ?_) e2
      simp only [sashref07_Same.l0]
      rw [if_pos hl, if_pos (by omega), if_pos hl, if_pos hl, if_neg (by simp), hu]
  exact key l [] rfl
theorem FlatLists : ∀ (a0 : S26) (a1 : Int), wf26 a0 → sz a0 ≤ 1048576 → I64 a1 → ∃ k, sashlaw07_FlatLists.f k a0.f0 a0.f1.f0 a0.f1.f1 a0.f1.f2 a0.f1.f3 a0.f2 a0.f3 a1 = some true := by
  intro c id _ hz _
  refine Ev.rounds (g := fun k => sashlaw07_FlatLists.f k c.f0 c.f1.f0 c.f1.f1 c.f1.f2 c.f1.f3 c.f2 c.f3 id) ?_
  unfold sashlaw07_FlatLists.f
  obtain ⟨b, eb, hb⟩ := great_ev c hz
  have aw : Ev (fun k => (sashlaw07_awake.f k).bind fun t => some t) true := Ev.bind awake07 (Ev.now _)
  refine Ev.bind eb ?_
  cases b with
  | true => exact ev_pos rfl aw
  | false =>
    refine ev_neg (by simp) (Ev.bind (reflist_ev c hz) ?_)
    have hlen : (panes c).length ≤ 1048576 := by have := panes_len c; omega
    have hr := findP_range id (panes c) 0 (by omega)
    have hl := list_ev _ c hz (Nat.le_refl _)
    by_cases hi : findP id 0 (panes c) < 0
    · have ep : Ev (fun k => flat_Pane.f k c.f0 c.f1.f0 c.f1.f1 c.f1.f2 c.f1.f3 c.f2 c.f3 id) (0, 0, 0, 0, 0, false) := by
        unfold flat_Pane.f
        refine Ev.bind hl (Ev.bind (a := findP id 0 (panes c)) (Ev.now _) (ev_pos hi (Ev.now _)))
      refine Ev.bind ep (Ev.bind (reffind_ev (panes c) id hlen) (ev_pos hi (Ev.bind hl (Ev.bind (same_refl _ hlen) (ev_pos rfl (ev_neg (by simp) (ev_pos (by simp) aw)))))))
    · have h0 : 0 ≤ findP id 0 (panes c) := by omega
      have h1 : findP id 0 (panes c) < ((panes c).length : Int) := by omega
      have ep : Ev (fun k => flat_Pane.f k c.f0 c.f1.f0 c.f1.f1 c.f1.f2 c.f1.f3 c.f2 c.f3 id) ((rd_T35 (panes c) (findP id 0 (panes c))).f0, (rd_T35 (panes c) (findP id 0 (panes c))).f1.f0, (rd_T35 (panes c) (findP id 0 (panes c))).f1.f1, (rd_T35 (panes c) (findP id 0 (panes c))).f1.f2, (rd_T35 (panes c) (findP id 0 (panes c))).f1.f3, true) := by
        unfold flat_Pane.f
        refine Ev.bind hl (Ev.bind (a := findP id 0 (panes c)) (Ev.now _) (ev_neg hi (ev_pos h0 (ev_pos h1 (Ev.now _)))))
      refine Ev.bind ep (Ev.bind (reffind_ev (panes c) id hlen) (ev_neg hi (Ev.bind hl (Ev.bind (same_refl _ hlen) (ev_pos rfl (ev_pos rfl (ev_pos h0 (ev_pos h1 (ev_pos (by simp) aw)))))))))
end Go.Proofs.Ytfdmfgaiblfbhaa.Pure
