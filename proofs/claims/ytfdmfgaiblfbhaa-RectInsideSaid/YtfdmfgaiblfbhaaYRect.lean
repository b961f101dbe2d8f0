/- Plain words on rectangles: whether one may be, what it is cut into: the code's and the reference's alike. -/
import Derived.Test.YtfdmfgaiblfbhaaPF44
import Derived.Test.YtfdmfgaiblfbhaaYMay
import Derived.Test.YtfdmfgaiblfbhaaPF46
import Derived.Test.YtfdmfgaiblfbhaaPF47
import Derived.Test.YtfdmfgaiblfbhaaRead
namespace Go.Proofs.Ytfdmfgaiblfbhaa.P
open Go.RowKit Go.Proofs.YtfdmfgaiblfbhaaW.PrintWords Go.Proofs.YtfdmfgaiblfbhaaW.PrintLast Go.Proofs.YtfdmfgaiblfbhaaW.PrintMore

/-- A rectangle's axes, turned where it is cut down. -/
def tX (ax X Y : Int) : Int := if ax = 2 then Y else X
theorem turned_some {ax : Int} (h : ax = 1 ∨ ax = 2) (X Y W H : Int) : rect_turned.f X Y W H ax = some (tX ax X Y, tX ax Y X, tX ax W H, tX ax H W, true) := by
  unfold rect_turned.f tX
  rcases h with rfl | rfl
  · rfl
  · rfl

theorem cut_both (ax X Y W H : Int) (hax : ax = 1 ∨ ax = 2) (hm : mayB X Y W H = true) (sizes : List Int) (hl : sizes.length ≤ 20000) :
    ∀ (rest pre : List Int) (off : Int) (parts lines : List S23), pre ++ rest = sizes → 0 ≤ off → off ≤ 10000 → parts.length ≤ 20000 → lines.length ≤ 20000 → parts.length ≤ pre.length → lines.length ≤ pre.length →
    ∃ t : List S23 × List S23 × Bool, (t.1.length ≤ sizes.length ∧ t.2.1.length ≤ sizes.length) ∧ Ev (fun k => rect_Cut.l0 k ax parts lines (tX ax X Y + off) sizes (sizes.length : Int) (pre.length : Int) (tX ax X Y) (tX ax Y X) (tX ax W H) (tX ax H W)) t ∧
      Ev (fun k => sashref04_Cut.l0 k ax sizes [] (tX ax W H) parts lines off (sizes.length : Int) (pre.length : Int) X Y W H) t := by
  replace hm := may_iff.1 hm
  have hb : 0 ≤ tX ax X Y ∧ 1 ≤ tX ax W H ∧ tX ax W H ≤ 10000 ∧ tX ax X Y + tX ax W H ≤ 10000 ∧ tX ax X Y ≤ 10000 := by
    unfold tX
    rcases hax with rfl | rfl
    · rw [if_neg (by omega), if_neg (by omega)]; omega
    · rw [if_pos rfl, if_pos rfl]; omega
  obtain ⟨b1, b2, b3, b4, b5⟩ := hb
  intro rest
  induction rest with
  | nil =>
    intro pre off parts lines he h0 h1 hp hq hp2 hq2
    have e : pre = sizes := by simpa using he
    rw [e] at hp2 hq2
    by_cases ho : off = tX ax W H
    · refine ⟨(parts, lines, true), ⟨hp2, hq2⟩, Ev.step (fun k => ?_) (Ev.now _), Ev.step (fun k => ?_) (Ev.now _)⟩
      · simp only [rect_Cut.l0]
        rw [if_neg (by rw [e]; omega), wq (by omega) (by omega), if_pos (by omega)]
      · simp only [sashref04_Cut.l0]
        rw [if_neg (by rw [e]; omega), if_pos ho]
    · refine ⟨([], [], false), ⟨by simp, by simp⟩, Ev.step (fun k => ?_) (Ev.now _), Ev.step (fun k => ?_) (Ev.now _)⟩
      · simp only [rect_Cut.l0]
        rw [if_neg (by rw [e]; omega), wq (by omega) (by omega), if_neg (by omega)]
      · simp only [sashref04_Cut.l0]
        rw [if_neg (by rw [e]; omega), if_neg ho]
  | cons n rest ih =>
    intro pre off parts lines he h0 h1 hp hq hp2 hq2
    have hlen : sizes.length = pre.length + (rest.length + 1) := by rw [← he]; simp
    have hrd : rd sizes (pre.length : Int) = n := by rw [← he]; exact rd_in pre n rest
    have hi : (pre.length : Int) < (sizes.length : Int) := by omega
    have hi0 : (0 : Int) ≤ (pre.length : Int) := by omega
    have hpl : parts.length < 4398046511104 := Nat.lt_of_le_of_lt hp (by decide)
    have hql : lines.length < 4398046511104 := Nat.lt_of_le_of_lt hq (by decide)
    -- behind the line ahead of this part: off', lines'
    have body : ∀ (off' : Int) (lines' : List S23), 0 ≤ off' → off' ≤ 10001 → lines'.length ≤ pre.length + 1 →
        ∃ t : List S23 × List S23 × Bool, (t.1.length ≤ sizes.length ∧ t.2.1.length ≤ sizes.length) ∧ Ev (fun k => if n < 1 then (some (([] : List S23), ([] : List S23), false)) else (if n > tX ax W H - off' then (some (([] : List S23), ([] : List S23), false)) else
              (rect_Cut.l0 k ax (parts ++ [(⟨tX ax (tX ax X Y + off') (tX ax Y X), tX ax (tX ax Y X) (tX ax X Y + off'), tX ax n (tX ax H W), tX ax (tX ax H W) n⟩ : S23)]) lines' (tX ax X Y + (off' + n)) sizes (sizes.length : Int) ((pre ++ [n]).length : Int) (tX ax X Y) (tX ax Y X) (tX ax W H) (tX ax H W)))) t ∧
          Ev (fun k => sashref04_Cut.j3 k ax sizes [] (tX ax W H) parts lines' off' (pre.length : Int) (sizes.length : Int) (pre.length : Int) X Y W H) t := by
      intro off' lines' g0 g1 g2
      by_cases hn : n < 1
      · refine ⟨([], [], false), ⟨by simp, by simp⟩, ev_pos hn (Ev.now _), Ev.step (f := fun k => sashref04_Cut.j4 k ax sizes [] (tX ax W H) parts lines' off' (pre.length : Int) (sizes.length : Int) (pre.length : Int) true X Y W H) (fun k => ?_) (Ev.step (fun k => ?_) (Ev.now _))⟩
        · simp only [sashref04_Cut.j3]
          rw [if_pos hi0, if_pos hi, hrd, if_pos hn]
        · simp only [sashref04_Cut.j4]
          rw [if_pos trivial]
      · by_cases hn2 : n > tX ax W H - off'
        · refine ⟨([], [], false), ⟨by simp, by simp⟩, ev_neg hn (ev_pos hn2 (Ev.now _)), Ev.step (f := fun k => sashref04_Cut.j4 k ax sizes [] (tX ax W H) parts lines' off' (pre.length : Int) (sizes.length : Int) (pre.length : Int) true X Y W H) (fun k => ?_) (Ev.step (fun k => ?_) (Ev.now _))⟩
          · simp only [sashref04_Cut.j3]
            rw [if_pos hi0, if_pos hi, hrd, if_neg hn]
            by_cases hn3 : n > tX ax W H
            · rw [if_pos hn3]
            · rw [if_neg hn3, wq (by omega) (by omega), decide_eq_true (by omega)]
          · simp only [sashref04_Cut.j4]
            rw [if_pos trivial]
        · obtain ⟨t, t0, t1, t2⟩ := ih (pre ++ [n]) (off' + n) (parts ++ [(⟨tX ax (tX ax X Y + off') (tX ax Y X), tX ax (tX ax Y X) (tX ax X Y + off'), tX ax n (tX ax H W), tX ax (tX ax H W) n⟩ : S23)]) lines' (by simp [← he]) (by omega) (by omega) (by simp; omega) (by omega) (by simp; omega) (by simp; omega)
          refine ⟨t, t0, ev_neg hn (ev_neg hn2 t1), Ev.step (f := fun k => sashref04_Cut.j4 k ax sizes [] (tX ax W H) parts lines' off' (pre.length : Int) (sizes.length : Int) (pre.length : Int) false X Y W H) (fun k => ?_) (Ev.step (fun k => ?_) t2)⟩
          · simp only [sashref04_Cut.j3]
            rw [if_pos hi0, if_pos hi, hrd, if_neg hn, if_neg (by omega), wq (by omega) (by omega), decide_eq_false (by omega)]
          · have hi1 : wrap64 ((pre.length : Int) + 1) = ((pre ++ [n]).length : Int) := by rw [wq (by omega) (by omega)]; simp
            have ho1 : wrap64 (off' + n) = off' + n := wq (by omega) (by omega)
            simp only [sashref04_Cut.j4]
            rw [if_neg (by simp)]
            simp only [if_pos hi0, if_pos hi, if_pos hpl, hrd, hi1, ho1]
            rcases hax with rfl | rfl
            · rw [if_pos rfl, wq (by omega) (by omega)]
              simp [tX]
            · rw [if_neg (by omega), wq (by omega) (by omega)]
              simp [tX]
    by_cases hz : (pre.length : Int) > 0
    · obtain ⟨t, t0, t1, t2⟩ := body (off + 1) (lines ++ [(⟨tX ax (tX ax X Y + off) (tX ax Y X), tX ax (tX ax Y X) (tX ax X Y + off), tX ax 1 (tX ax H W), tX ax (tX ax H W) 1⟩ : S23)]) (by omega) (by omega) (by simp; omega)
      have ho1 : wrap64 (tX ax X Y + off + 1) = tX ax X Y + (off + 1) := by rw [wq (by omega) (by omega)]; omega
      have ho2 : wrap64 (tX ax X Y + tX ax W H) = tX ax X Y + tX ax W H := wq (by omega) (by omega)
      have ho3 : wrap64 (tX ax X Y + tX ax W H - (tX ax X Y + (off + 1))) = tX ax W H - (off + 1) := by rw [wq (by omega) (by omega)]; omega
      have ho4 : wrap64 (off + 1) = off + 1 := wq (by omega) (by omega)
      refine ⟨t, t0, Ev.step (fun k => ?_) t1, Ev.step (fun k => ?_) t2⟩
      · simp only [rect_Cut.l0]
        rw [if_pos hi, if_pos hi0, if_pos hi, if_pos hz, turned_some hax]
        simp only [Option.bind_some]
        rw [if_pos hql, hrd, ho1, ho2, ho3]
        by_cases hn : n < 1
        · rw [if_pos hn, if_pos hn]
        · rw [if_neg hn, if_neg hn]
          by_cases hn2 : n > tX ax W H - (off + 1)
          · rw [if_pos hn2, if_pos hn2]
          · have hi1 : wrap64 ((pre.length : Int) + 1) = ((pre ++ [n]).length : Int) := by rw [wq (by omega) (by omega)]; simp
            have ho5 : wrap64 (tX ax X Y + (off + 1) + n) = tX ax X Y + (off + 1 + n) := by rw [wq (by omega) (by omega)]; omega
            rw [if_neg hn2, if_neg hn2, turned_some hax]
            simp only [Option.bind_some]
            rw [if_pos hpl, hi1, ho5]
      · simp only [sashref04_Cut.l0]
        rw [if_pos hi, if_pos hz, ho4]
        rcases hax with rfl | rfl
        · rw [if_pos rfl, if_pos hql, wq (by omega) (by omega)]
          simp [tX]
        · rw [if_neg (by omega), if_pos hql, wq (by omega) (by omega)]
          simp [tX]
    · obtain ⟨t, t0, t1, t2⟩ := body off lines h0 (by omega) (by omega)
      have ho2 : wrap64 (tX ax X Y + tX ax W H) = tX ax X Y + tX ax W H := wq (by omega) (by omega)
      have ho3 : wrap64 (tX ax X Y + tX ax W H - (tX ax X Y + off)) = tX ax W H - off := by rw [wq (by omega) (by omega)]; omega
      refine ⟨t, t0, Ev.step (fun k => ?_) t1, Ev.step (fun k => ?_) t2⟩
      · simp only [rect_Cut.l0]
        rw [if_pos hi, if_pos hi0, if_pos hi, if_neg hz, hrd, ho2, ho3]
        by_cases hn : n < 1
        · rw [if_pos hn, if_pos hn]
        · rw [if_neg hn, if_neg hn]
          by_cases hn2 : n > tX ax W H - off
          · rw [if_pos hn2, if_pos hn2]
          · have hi1 : wrap64 ((pre.length : Int) + 1) = ((pre ++ [n]).length : Int) := by rw [wq (by omega) (by omega)]; simp
            have ho5 : wrap64 (tX ax X Y + off + n) = tX ax X Y + (off + n) := by rw [wq (by omega) (by omega)]; omega
            rw [if_neg hn2, if_neg hn2, turned_some hax]
            simp only [Option.bind_some]
            rw [if_pos hpl, hi1, ho5]
      · simp only [sashref04_Cut.l0]
        rw [if_pos hi, if_neg hz]

/-- Two rows of rectangles, held against each other. -/
theorem same_ev (xs : List S23) (hl : xs.length ≤ 9223372036854775807) : Ev (fun k => sashref04_Same.f k xs xs) true := by
  have key : ∀ (d i : Nat), i + d = xs.length → Ev (fun k => sashref04_Same.l0 k xs xs (xs.length : Int) (i : Int)) true := by
    intro d
    induction d with
    | zero =>
      intro i hi
      refine Ev.step (fun k => ?_) (Ev.now _)
      simp only [sashref04_Same.l0]
      rw [if_neg (by omega)]
    | succ d ih =>
      intro i hi
      have c1 : (i : Int) < (xs.length : Int) := by omega
      have c2 : (0 : Int) ≤ (i : Int) := by omega
      have c3 : wrap64 ((i : Int) + 1) = ((i + 1 : Nat) : Int) := by rw [wq (by omega) (by omega)]; omega
      refine Ev.step (fun k => ?_) (ih (i + 1) (by omega))
      simp only [sashref04_Same.l0]
      simp only [if_pos c1, if_pos c2, c3]
      rw [if_neg (by simp)]
  refine Ev.congr (fun k => ?_) (key xs.length 0 (by omega))
  unfold sashref04_Same.f
  rw [if_pos rfl]
  rfl
theorem awake04 : Ev (fun k => sashlaw04_awake.f k) true := Ev.of (k := 30) (fun k => sashlaw04_awake.mono k) (by decide +kernel)
end Go.Proofs.Ytfdmfgaiblfbhaa.P
