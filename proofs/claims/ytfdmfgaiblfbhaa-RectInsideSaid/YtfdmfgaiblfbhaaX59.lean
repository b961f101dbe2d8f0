/- The contract of rect.Inside: whether all of some rectangles are inside another one. -/
import Derived.Test.YtfdmfgaiblfbhaaX68
import Derived.Test.YtfdmfgaiblfbhaaPF60
namespace Go.Proofs.Ytfdmfgaiblfbhaa.P
open Go.RowKit Go.Proofs.YtfdmfgaiblfbhaaW.PrintWords Go.Proofs.YtfdmfgaiblfbhaaW.PrintLast Go.Proofs.YtfdmfgaiblfbhaaW.PrintMore

/-- Is a cell a rectangle's? -/
def hasB (r : S23) (x y : Int) : Bool := mayR r && decide (r.f0 ≤ x ∧ x < r.f0 + r.f2 ∧ r.f1 ≤ y ∧ y < r.f1 + r.f3)
theorem has_some (r : S23) (x y : Int) : rect_Has.f r.f0 r.f1 r.f2 r.f3 x y = some (hasB r x y) := by
  unfold rect_Has.f hasB
  rw [may_some, Option.bind_some]
  show (if mayR r = true then _ else _) = _
  by_cases hm : mayR r = true
  · have hb := may_iff.1 hm
    rw [if_pos hm, hm, Bool.true_and, wq (x := r.f0 + r.f2) (by omega) (by omega), wq (x := r.f1 + r.f3) (by omega) (by omega)]
    by_cases h1 : x ≥ r.f0
    · by_cases h2 : x < r.f0 + r.f2
      · by_cases h3 : y ≥ r.f1
        · rw [if_pos h1, if_pos h2, if_pos h3]
          congr 1
          rw [decide_eq_decide]
          omega
        · rw [if_pos h1, if_pos h2, if_neg h3, decide_eq_false (by omega)]
      · rw [if_pos h1, if_neg h2, decide_eq_false (by omega)]
    · rw [if_neg h1, decide_eq_false (by omega)]
  · rw [if_neg hm, Bool.eq_false_iff.2 hm, Bool.false_and]
/-- Both far corners. -/
def cornersB (o r : S23) : Bool := hasB o r.f0 r.f1 && hasB o (r.f0 + r.f2 - 1) (r.f1 + r.f3 - 1)

set_option maxHeartbeats 2000000 in
theorem inside1 (o x : S23) (g : Nat) (w : World) (hx : mayR x = true) (ho : w.heap[g]? = some (.cells #[.int .i64 o.f0, .int .i64 o.f1, .int .i64 o.f2, .int .i64 o.f3] 23 (0, 0))) :
    Calls Try.prog 135 #[.agg #[.int .i64 x.f0, .int .i64 x.f1, .int .i64 x.f2, .int .i64 x.f3], .pointer (some ⟨g, 0, none⟩)] w fun e w' => e = .returned (.bool (!cornersB o x)) ∧ Below w.heap.size w w' := by
  have hb := may_iff.1 hx
  obtain ⟨b1, b2, b3, b4, b5, b6, b7, b8⟩ := hb
  have hlt : g < w.heap.size := (Array.getElem?_eq_some_iff.1 ho).1
  have hc0 : w.cell? ⟨g, 0, none⟩ = some (.int .i64 o.f0) := (blk_cell ho 0).trans rfl
  have hc1 : w.cell? ⟨g, 1, none⟩ = some (.int .i64 o.f1) := (blk_cell ho 1).trans rfl
  have hc2 : w.cell? ⟨g, 2, none⟩ = some (.int .i64 o.f2) := (blk_cell ho 2).trans rfl
  have hc3 : w.cell? ⟨g, 3, none⟩ = some (.int .i64 o.f3) := (blk_cell ho 3).trans rfl
  have HC := Aside0.mk fun (a b : Int) W => rect_Has.calls o.f0 o.f1 o.f2 o.f3 a b (hasB o a b) W (has_some o a b)
  have HO := Aside0.mk ho
  clear ho hx
  have HS1 := Aside0.mk (wq (x := x.f0 + x.f2 - 1) (by omega) (by omega))
  cases h1 : hasB o x.f0 x.f1 with
  | false =>
    have HC1 := Aside0.mk (HC.out x.f0 x.f1 (w.alloc (.cells #[.int .i64 x.f0, .int .i64 x.f1, .int .i64 x.f2, .int .i64 x.f3] 23)))
    simp only [h1] at HC1
    have e1 : (!cornersB o x) = true := by unfold cornersB; rw [h1]; rfl
    rw [e1]
    clear h1 e1
    go_enter Try.func135, Try.ntmps135
    go_wp2_with fail
    refine HC1.out.mono ?_
    rintro e w' ⟨rfl, hb⟩
    have HB := Aside0.mk hb
    clear hb
    go_wp2
    go_ret
    exact ⟨rfl, below_then (below_alloc (Below.refl _ _) _) (by simp) HB.out⟩
  | true =>
    have HC1 := Aside0.mk (HC.out x.f0 x.f1 (w.alloc (.cells #[.int .i64 x.f0, .int .i64 x.f1, .int .i64 x.f2, .int .i64 x.f3] 23)))
    simp only [h1] at HC1
    have HC2 := Aside0.mk fun W => (HC.out (x.f0 + x.f2 - 1) (x.f1 + x.f3 - 1) W)
    have e1 : (!cornersB o x) = !(hasB o (x.f0 + x.f2 - 1) (x.f1 + x.f3 - 1)) := by unfold cornersB; rw [h1]; rfl
    rw [e1]
    clear h1 e1
    generalize hasB o (x.f0 + x.f2 - 1) (x.f1 + x.f3 - 1) = b2 at HC2
    go_enter Try.func135, Try.ntmps135
    go_wp2_with fail
    refine HC1.out.mono ?_
    rintro e w' ⟨rfl, hb⟩
    have ho2 := blk_below (blk_alloc HO.out (.cells #[.int .i64 x.f0, .int .i64 x.f1, .int .i64 x.f2, .int .i64 x.f3] 23)) hb
    have hx2 := blk_below (heap_alloc_new w (.cells #[.int .i64 x.f0, .int .i64 x.f1, .int .i64 x.f2, .int .i64 x.f3] 23)) hb
    have HB := Aside0.mk hb
    clear hb hc0 hc1 hc2 hc3
    have hc0 : w'.cell? ⟨g, 0, none⟩ = some (.int .i64 o.f0) := (blk_cell ho2 0).trans rfl
    have hc1 : w'.cell? ⟨g, 1, none⟩ = some (.int .i64 o.f1) := (blk_cell ho2 1).trans rfl
    have hc2 : w'.cell? ⟨g, 2, none⟩ = some (.int .i64 o.f2) := (blk_cell ho2 2).trans rfl
    have hc3 : w'.cell? ⟨g, 3, none⟩ = some (.int .i64 o.f3) := (blk_cell ho2 3).trans rfl
    have hx0 : w'.cell? ⟨w.heap.size, 0, none⟩ = some (.int .i64 x.f0) := (blk_cell hx2 0).trans rfl
    have hx1 : w'.cell? ⟨w.heap.size, 1, none⟩ = some (.int .i64 x.f1) := (blk_cell hx2 1).trans rfl
    have hx3 : w'.cell? ⟨w.heap.size, 2, none⟩ = some (.int .i64 x.f2) := (blk_cell hx2 2).trans rfl
    have hx4 : w'.cell? ⟨w.heap.size, 3, none⟩ = some (.int .i64 x.f3) := (blk_cell hx2 3).trans rfl
    clear ho2 hx2
    go_wp2_with fail
    refine (HC2.out _).mono ?_
    rintro e w2 ⟨rfl, hb⟩
    have HB2 := Aside0.mk hb
    clear hb
    go_wp2
    go_ret
    exact ⟨rfl, below_then (below_then (below_alloc (Below.refl _ _) _) (by simp) HB.out) (by have := HB.out.size; simp at this; omega) HB2.out⟩

theorem any_not {α : Type} (p : α → Bool) (l : List α) : (!(l.any fun x => !p x)) = l.all p := by
  induction l with
  | nil => rfl
  | cons x xs ih => simp only [List.all_cons, List.any_cons, Bool.not_or, Bool.not_not, ih]
theorem any_not' {α : Type} (p : α → Bool) (l : List α) : (l.any fun x => !p x) = !l.all p := by rw [← any_not, Bool.not_not]
def rect_Inside.f (a0_0 a0_1 a0_2 a0_3 : Int) (l1 : List (S23)) : Option Bool := some (mayB a0_0 a0_1 a0_2 a0_3 && (l1.all mayR && l1.all (cornersB ⟨a0_0, a0_1, a0_2, a0_3⟩)))
set_option maxHeartbeats 2000000 in
theorem inside_any (o : S23) (A1 : Option Addr) (c1 : Nat) (l1 : List (S23)) (w : World) (hr1 : Kd.C k23 w A1 l1.length l1) (hc1 : l1.length ≤ c1) :
    Calls Try.prog 59 #[.agg #[.int .i64 o.f0, .int .i64 o.f1, .int .i64 o.f2, .int .i64 o.f3], .slice A1 l1.length c1] w fun e w' => e = .returned (.bool (mayR o && (l1.all mayR && l1.all (cornersB o)))) ∧ Below w.heap.size w w' := by
  have HM := Aside0.mk (rect_may.calls o.f0 o.f1 o.f2 o.f3 (mayR o) (w.alloc (.cells #[.int .i64 o.f0, .int .i64 o.f1, .int .i64 o.f2, .int .i64 o.f3] 23)) (may_some _ _ _ _))
  have HR := Aside0.mk hr1
  have HN := Aside0.mk (heap_alloc_new w (.cells #[.int .i64 o.f0, .int .i64 o.f1, .int .i64 o.f2, .int .i64 o.f3] 23))
  clear hr1
  cases h1 : mayR o with
  | false =>
    rw [h1] at HM
    rw [Bool.false_and]
    clear h1
    go_enter Try.func59, Try.ntmps59
    go_wp2_with fail
    refine HM.out.mono ?_
    rintro e w' ⟨rfl, hb⟩
    have HB := Aside0.mk hb
    clear hb
    go_wp2
    go_ret
    exact ⟨rfl, below_then (below_alloc (Below.refl _ _) _) (by simp) HB.out⟩
  | true =>
    rw [h1] at HM
    rw [Bool.true_and]
    clear h1
    cases h2 : l1.all mayR with
    | false =>
      have HX := Aside0.mk fun W hr => rect_May.calls A1 c1 l1 false W hr hc1 (by unfold rect_May.f; rw [h2])
      rw [Bool.false_and]
      clear h2
      go_enter Try.func59, Try.ntmps59
      go_wp2_with fail
      refine HM.out.mono ?_
      rintro e w' ⟨rfl, hb⟩
      have HB := Aside0.mk (below_then (below_alloc (Below.refl w.heap.size w) _) (by simp) hb)
      clear hb
      go_wp2_with fail
      refine (HX.out _ (Kd.C_below HR.out HB.out)).mono ?_
      rintro e w2 ⟨rfl, hb⟩
      have HB2 := Aside0.mk (below_then HB.out HB.out.size hb)
      clear hb
      go_wp2
      go_ret
      exact ⟨rfl, HB2.out⟩
    | true =>
      have HX := Aside0.mk fun W hr => rect_May.calls A1 c1 l1 true W hr hc1 (by unfold rect_May.f; rw [h2])
      have HA := Aside0.mk (List.all_eq_true.1 h2)
      rw [Bool.true_and]
      clear h2
      have HCon := Aside0.mk fun (W0 : World) (hbl : Below w.heap.size w W0) (hbk : W0.heap[w.heap.size]? = some (.cells #[.int .i64 o.f0, .int .i64 o.f1, .int .i64 o.f2, .int .i64 o.f3] 23 (0, 0))) =>
        con134 (fun (_ : Unit) W => Below W0.heap.size W0 W) (fun _ x => (!cornersB o x, ())) 135 #[.pointer (some ⟨w.heap.size, 0, none⟩)] (enters_fn Try.func135 (by decide +kernel) (by kernel_rfl)) l1 A1 c1 (fun _ W hW => Kd.C_below HR.out (below_then hbl hbl.size hW)) (fun _ W n hW => pw_below_drewN hW n)
          (fun _ W x hx hW => (inside1 o x w.heap.size W (HA.out x hx) (blk_below hbk hW)).mono fun e w' ⟨he, hb⟩ => ⟨he, below_then hW hW.size hb⟩) () W0 (Below.refl _ _) HR.out.2.1
      simp only [scanB_any, any_not'] at HCon
      generalize l1.all (cornersB o) = b at HCon
      go_enter Try.func59, Try.ntmps59
      go_wp2_with fail
      refine HM.out.mono ?_
      rintro e w' ⟨rfl, hb⟩
      have HN1 := Aside0.mk (blk_below HN.out hb)
      have HB := Aside0.mk (below_then (below_alloc (Below.refl w.heap.size w) _) (by simp) hb)
      clear hb
      go_wp2_with fail
      refine (HX.out _ (Kd.C_below HR.out HB.out)).mono ?_
      rintro e w2 ⟨rfl, hb⟩
      have HN2 := Aside0.mk (blk_below HN1.out hb)
      have HB2 := Aside0.mk (below_then HB.out HB.out.size hb)
      clear hb
      go_wp2_with fail
      refine (HCon.out _ HB2.out HN2.out).mono ?_
      rintro e w3 ⟨rfl, hb⟩
      have HB3 := Aside0.mk (below_then HB2.out HB2.out.size hb)
      clear hb
      go_wp2
      go_ret
      exact ⟨by simp, HB3.out⟩
theorem rect_Inside.calls (a0_0 : Int) (a0_1 : Int) (a0_2 : Int) (a0_3 : Int) (A1 : Option Addr) (c1 : Nat) (l1 : List (S23)) (r : Bool) (w : World) (hr1 : Kd.C k23 w A1 l1.length l1) (hc1 : l1.length ≤ c1) (h : rect_Inside.f a0_0 a0_1 a0_2 a0_3 l1 = some r) :
    Calls Try.prog 59 #[.agg #[.int .i64 a0_0, .int .i64 a0_1, .int .i64 a0_2, .int .i64 a0_3], .slice A1 l1.length c1] w fun e w' => e = .returned (.bool r) ∧ Below w.heap.size w w' := by
  unfold rect_Inside.f at h
  injection h with h
  subst h
  exact inside_any ⟨a0_0, a0_1, a0_2, a0_3⟩ A1 c1 l1 w hr1 hc1
end Go.Proofs.Ytfdmfgaiblfbhaa.P
