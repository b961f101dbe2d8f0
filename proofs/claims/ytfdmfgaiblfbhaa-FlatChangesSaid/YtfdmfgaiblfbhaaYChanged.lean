/- The reference's changed panes, and rows of panes that are the same: plain data. -/
import Derived.Test.YtfdmfgaiblfbhaaYFlat
import Derived.Test.YtfdmfgaiblfbhaaX55
import Derived.Test.YtfdmfgaiblfbhaaPF42
import Derived.Test.YtfdmfgaiblfbhaaPF56
namespace Go.Proofs.Ytfdmfgaiblfbhaa.P
open Go.RowKit Go.Proofs.YtfdmfgaiblfbhaaW.PrintWords Go.Proofs.YtfdmfgaiblfbhaaW.PrintLast Go.Proofs.YtfdmfgaiblfbhaaW.PrintMore

theorem same35_ev (l : List S35) (h : l.length ≤ 1048576) : Ev (fun k => sashref07_Same.f k l l) true := by
  unfold sashref07_Same.f
  refine ev_pos rfl ?_
  have key : ∀ (rest pre : List S35), pre ++ rest = l → Ev (fun k => sashref07_Same.l0 k l l (l.length : Int) (pre.length : Int)) true := by
    intro rest
    induction rest with
    | nil =>
      intro pre hp
      rw [List.append_nil] at hp
      refine Ev.step (f := fun _ => some true) (fun k => ?_) (Ev.now _)
      simp only [sashref07_Same.l0]
      rw [if_neg (by rw [hp]; omega)]
    | cons x xs ihr =>
      intro pre hp
      have hl : (pre.length : Int) < (l.length : Int) := by rw [← hp, List.length_append, List.length_cons]; omega
      have e2 := ihr (pre ++ [x]) (by rw [List.append_assoc]; exact hp)
      have hu : wrap64 ((pre.length : Int) + 1) = ((pre ++ [x]).length : Int) := up_in pre x xs (by rw [hp]; omega)
      refine Ev.step (fun k => ?_) e2
      simp only [sashref07_Same.l0]
      rw [if_pos hl, if_pos (by omega), if_pos hl, if_pos hl, if_neg (by simp), hu]
  exact key l [] rfl
theorem eta35 (p : S35) : (⟨p.f0, ⟨p.f1.f0, p.f1.f1, p.f1.f2, p.f1.f3⟩⟩ : S35) = p := rfl
theorem refchanged_ev (a l : List S35) (ha : a.length ≤ 1048576) (h : l.length ≤ 1048576) : Ev (fun k => sashref07_Changed.f k a l) (keepL a l) := by
  unfold sashref07_Changed.f
  have key : ∀ (rest pre : List S35), pre ++ rest = l → Ev (fun k => sashref07_Changed.l0 k a l (keepL a pre) (l.length : Int) (pre.length : Int)) (keepL a l) := by
    intro rest
    induction rest with
    | nil =>
      intro pre hp
      rw [List.append_nil] at hp
      refine Ev.step (f := fun _ => some (keepL a l)) (fun k => ?_) (Ev.now _)
      simp only [sashref07_Changed.l0]
      rw [if_neg (by rw [hp]; omega), hp]
    | cons x xs ihr =>
      intro pre hp
      have hl : (pre.length : Int) < (l.length : Int) := by rw [← hp, List.length_append, List.length_cons]; omega
      have e2 := ihr (pre ++ [x]) (by rw [List.append_assoc]; exact hp)
      have hr : rd_T35 l (pre.length : Int) = x := by rw [← hp]; exact rd35_in pre x xs
      have hu : wrap64 ((pre.length : Int) + 1) = ((pre ++ [x]).length : Int) := up_in pre x xs (by rw [hp]; omega)
      have hk : (keepL a pre).length < 3518437208883 := by
        have : (keepL a pre).length ≤ pre.length := List.length_filter_le _ _
        omega
      have hrg := findP_range x.f0 a 0 (by omega)
      rw [keepL_app] at e2
      refine Ev.step (f := fun k => (sashref07_Find.f k a x.f0).bind fun t476 => (if t476 < 0 then (if (keepL a pre).length < 3518437208883 then (sashref07_Changed.l0 k a l (keepL a pre ++ [x]) (l.length : Int) ((pre ++ [x]).length : Int)) else (none)) else (if 0 ≤ t476 then (if t476 < (a.length : Int) then (if ((rd_T35 a t476).f1.f2) = (x.f1.f2) then (if ((rd_T35 a t476).f1.f3) = (x.f1.f3) then (sashref07_Changed.l0 k a l (keepL a pre) (l.length : Int) ((pre ++ [x]).length : Int)) else (if (keepL a pre).length < 3518437208883 then (sashref07_Changed.l0 k a l (keepL a pre ++ [x]) (l.length : Int) ((pre ++ [x]).length : Int)) else (none))) else (if (keepL a pre).length < 3518437208883 then (sashref07_Changed.l0 k a l (keepL a pre ++ [x]) (l.length : Int) ((pre ++ [x]).length : Int)) else (none))) else (none)) else (none)))) (fun k => ?_) (Ev.bind (reffind_ev a x.f0 ha) ?_)
      · simp only [sashref07_Changed.l0]
        rw [if_pos hl, if_pos (by omega), if_pos hl, hr, hu]
      · have kt : delB a x = true → keepL a [x] = [] := fun hx => by simp [keepL, hx]
        have kf : delB a x = false → keepL a [x] = [x] := fun hx => by simp [keepL, hx]
        by_cases hi : findP x.f0 0 a < 0
        · rw [kf (by unfold delB; rw [decide_eq_false (by omega), Bool.false_and])] at e2
          exact ev_pos hi (ev_pos hk e2)
        · have h0 : 0 ≤ findP x.f0 0 a := by omega
          have hd : delB a x = ((rd_T35 a (findP x.f0 0 a)).f1.f2 == x.f1.f2 && (rd_T35 a (findP x.f0 0 a)).f1.f3 == x.f1.f3) := by unfold delB; rw [decide_eq_true h0, Bool.true_and]
          refine ev_neg hi (ev_pos h0 (ev_pos (by omega) ?_))
          by_cases c2 : (rd_T35 a (findP x.f0 0 a)).f1.f2 = x.f1.f2
          · by_cases c3 : (rd_T35 a (findP x.f0 0 a)).f1.f3 = x.f1.f3
            · rw [kt (by rw [hd, c2, c3]; simp), List.append_nil] at e2
              exact ev_pos c2 (ev_pos c3 e2)
            · rw [kf (by rw [hd, beq_eq_false_iff_ne.2 c3, Bool.and_false])] at e2
              exact ev_pos c2 (ev_neg c3 (ev_pos hk e2))
          · rw [kf (by rw [hd, beq_eq_false_iff_ne.2 c2, Bool.false_and])] at e2
            exact ev_neg c2 (ev_pos hk e2)
  exact key l [] rfl
theorem changed_some (a l : List S35) (h : l.length ≤ 1000000) : flat_Changed.f a l = some (keepL a l) := if_pos h
theorem keepL_len (a l : List S35) : (keepL a l).length ≤ l.length := List.length_filter_le _ _
theorem keepL_none (l : List S35) : keepL [] l = l := by
  unfold keepL
  rw [List.filter_eq_self]
  intro x _
  unfold delB
  simp [findP]
end Go.Proofs.Ytfdmfgaiblfbhaa.P
