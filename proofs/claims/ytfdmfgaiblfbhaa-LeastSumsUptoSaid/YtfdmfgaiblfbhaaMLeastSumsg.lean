/- The row of the law LeastSums, second form (what it reads is of bulk at most 1048576), out of its plain law and its walk. -/
import Derived.Test.YtfdmfgaiblfbhaaMLeastSumsf
import Derived.Test.YtfdmfgaiblfbhaaMLeastSumse
import Derived.Test.YtfdmfgaiblfbhaaRows
import Derived.ProofKit
import Derived.WalkKit
import Derived.OpenShut
import Derived.ShutString
import Derived.ChangeOld
import Derived.Below
import Derived.SizedLaws
import Derived.JoinedCond
/- The sizes of a tree that tiles: plain data. -/
namespace Go.Proofs.Ytfdmfgaiblfbhaa.P
open Go.RowKit Go.Proofs.YtfdmfgaiblfbhaaW.PrintWords Go.Proofs.YtfdmfgaiblfbhaaW.PrintLast Go.Proofs.YtfdmfgaiblfbhaaW.PrintMore
theorem sz_kid {l : List S26} {k : S26} (h : k ∈ l) : sz k ≤ szL l := by
  obtain ⟨p, q, e⟩ := List.append_of_mem h
  rw [e, szL_app, szL_cons]
  omega
theorem rectB_iff {a b : S23} : rectB a b = true ↔ a.f0 = b.f0 ∧ a.f1 = b.f1 ∧ a.f2 = b.f2 ∧ a.f3 = b.f3 := by
  unfold rectB
  simp
theorem parts_other (ax X Y W H : Int) (hax : ax = 1 ∨ ax = 2) : ∀ (kids : List S26) (ns : List Int) (off : Int), kids.length = ns.length → eqL (fun k r => rectB k.f1 r) kids (cutP ax X Y W H off ns) = true → ∀ x, x ∈ kids → sizeR (3 - ax) x.f1 = tX ax H W := by
  intro kids
  induction kids with
  | nil => intro _ _ _ _ x hx; cases hx
  | cons k ks ih =>
    intro ns off hl he x hx
    cases ns with
    | nil => simp at hl
    | cons n ns =>
      simp only [cutP, eqL, Bool.and_eq_true] at he
      rcases List.mem_cons.1 hx with rfl | hx
      · obtain ⟨_, _, h2, h3⟩ := rectB_iff.1 he.1
        simp only [] at h2 h3
        rcases hax with rfl | rfl
        · unfold sizeR tX at *
          simp at h3 ⊢
          exact h3
        · unfold sizeR tX at *
          simp at h2 ⊢
          exact h2
      · exact ih ns (off + n + 1) (by simpa using hl) he.2 x hx
/-- What tiles, is ok, has kids: their sizes. -/
theorem kids_geo {c : S26} (h1 : oneB c = true) (hk : c.f0 = 2 ∨ c.f0 = 3) (hl : c.f3.length ≤ 20000) :
    (c.f3.map (fun k => sizeR (c.f0 - 1) k.f1)).sum + (c.f3.length : Int) - 1 = sizeR (c.f0 - 1) c.f1 ∧ ∀ x, x ∈ c.f3 → sizeR (3 - (c.f0 - 1)) x.f1 = sizeR (3 - (c.f0 - 1)) c.f1 := by
  unfold oneB oneT at h1
  rw [show (c.f0 == 1) = false from by simp; omega, Bool.false_or] at h1
  simp only [Bool.and_eq_true] at h1
  obtain ⟨ht, hlen, hE⟩ := h1
  obtain ⟨_, hg, _, _⟩ := cutT_spec c hl
  obtain ⟨hax, gp, gs, _⟩ := hg ht
  have e1 : axC c.f0 = c.f0 - 1 := by unfold axC; omega
  rw [e1] at hax gp gs
  have e2 : sizesC c = c.f3.map (fun k => sizeR (c.f0 - 1) k.f1) := by
    unfold sizesC
    apply List.map_congr_left
    intro k _
    unfold szK sizeR
    rcases hk with h | h
    · rw [if_pos h, if_pos (by omega)]
    · rw [if_neg (by omega), if_neg (by omega), if_pos (by omega)]
  have e3 : ∀ r : S23, tX (c.f0 - 1) r.f2 r.f3 = sizeR (c.f0 - 1) r ∧ tX (c.f0 - 1) r.f3 r.f2 = sizeR (3 - (c.f0 - 1)) r := by
    intro r
    rcases hk with h | h <;> simp [tX, sizeR, h]
  refine ⟨?_, fun x hx => ?_⟩
  · rw [← e2, ← (e3 c.f1).1, ← gs]
    simp [sizesC]
  · rw [gp] at hE
    rw [← (e3 c.f1).2]
    exact parts_other (c.f0 - 1) _ _ _ _ hax c.f3 (sizesC c) 0 (by simp [sizesC]) hE x hx
theorem ok_rect {c : S26} (h : okC c = true) : mayR c.f1 = true := by
  unfold okC at h
  simp only [Bool.and_eq_true] at h
  exact h.1.1.1
theorem rect_size {r : S23} (h : mayR r = true) {ax : Int} (hax : ax = 1 ∨ ax = 2) : 1 ≤ sizeR ax r ∧ sizeR ax r ≤ 10000 := by
  have := may_iff.1 h
  unfold sizeR
  rcases hax with rfl | rfl
  · rw [if_pos rfl]; omega
  · rw [if_neg (by omega), if_pos rfl]; omega
theorem tilesB_kids {c x : S26} (h : tilesB c = true) (hx : x ∈ c.f3) : tilesB x = true := by
  rw [tilesB_eq, Bool.and_eq_true] at h
  exact List.all_eq_true.1 h.2 x hx
theorem mostL_le {ax u : Int} : ∀ {l : List S26} {m : Int}, m ≤ u → (∀ x, x ∈ l → leastC ax x ≤ u) → mostL ax m l ≤ u := by
  intro l
  induction l with
  | nil => intro m h _; rw [mostL_nil]; exact h
  | cons x xs ih =>
    intro m h hx
    rw [mostL_cons]
    exact ih (mx_le h (hx x (by simp))) (fun y hy => hx y (by simp [hy]))
theorem mostL_ge {ax : Int} : ∀ {l : List S26} {m : Int}, m ≤ mostL ax m l := by
  intro l
  induction l with
  | nil => intro m; rw [mostL_nil]; exact Int.le_refl _
  | cons x xs ih =>
    intro m
    rw [mostL_cons]
    exact Int.le_trans (le_mx1 m (leastC ax x)) ih
theorem sumL_le {ax : Int} : ∀ {l : List S26}, (∀ x, x ∈ l → leastC ax x ≤ sizeR ax x.f1) → sumL ax l ≤ (l.map (fun k => sizeR ax k.f1)).sum := by
  intro l
  induction l with
  | nil => intro _; rw [sumL_nil]; exact Int.le_refl _
  | cons x xs ih =>
    intro hx
    rw [sumL_cons, List.map_cons, List.sum_cons]
    have h1 := hx x (by simp)
    have h2 := ih (fun y hy => hx y (by simp [hy]))
    omega
/-- The least size is at least 1; of a tree that tiles, no greater than its size. -/
theorem least_fits {ax : Int} (hax : ax = 1 ∨ ax = 2) : ∀ (N : Nat) (c : S26), sz c ≤ N → N ≤ 20000 → (allC c).all okC = true → 1 ≤ leastC ax c ∧ (tilesB c = true → leastC ax c ≤ sizeR ax c.f1) := by
  intro N
  induction N with
  | zero => intro c h; rw [sz_eq] at h; omega
  | succ N ih =>
    intro c hc hN hok
    have hs := sz_eq c
    have hlen := szL_len c.f3
    have hk : ∀ x, x ∈ c.f3 → 1 ≤ leastC ax x ∧ (tilesB x = true → leastC ax x ≤ sizeR ax x.f1) := fun x hx => by
      refine ih x ?_ (by omega) (ok_kids hok hx)
      have := sz_kid hx
      omega
    rw [leastC_eq]
    rcases ok_kinds (ok_head hok) with ⟨h1, h2⟩ | ⟨h1, h2⟩
    · rw [if_pos h1]
      exact ⟨Int.le_refl _, fun _ => (rect_size (ok_rect (ok_head hok)) hax).1⟩
    · rw [if_neg (by omega)]
      have hsum : ∀ l : List S26, (∀ x, x ∈ l → 1 ≤ leastC ax x) → (l.length : Int) ≤ sumL ax l := by
        intro l
        induction l with
        | nil => intro _; rw [sumL_nil]; simp
        | cons x xs ihl =>
          intro h
          have a1 := h x (by simp)
          have a2 := ihl (fun y hy => h y (by simp [hy]))
          rw [sumL_cons, List.length_cons]
          omega
      have hgeo := fun (ht : tilesB c = true) => kids_geo (c := c) (by rw [tilesB_eq, Bool.and_eq_true] at ht; exact ht.1) h1 (by omega)
      cases ha : alongK ax c.f0 with
      | true =>
        have e : c.f0 - 1 = ax := by
          unfold alongK at ha
          simp at ha
          omega
        simp only [if_true]
        refine ⟨by have := hsum c.f3 (fun x hx => (hk x hx).1); omega, fun ht => ?_⟩
        obtain ⟨g1, _⟩ := hgeo ht
        rw [e] at g1
        have := sumL_le (ax := ax) (l := c.f3) (fun x hx => (hk x hx).2 (tilesB_kids ht hx))
        omega
      | false =>
        have e : 3 - (c.f0 - 1) = ax := by
          unfold alongK at ha
          simp at ha
          omega
        simp only [Bool.false_eq_true, if_false]
        refine ⟨?_, fun ht => ?_⟩
        · cases hl : c.f3 with
          | nil => rw [hl] at h2; simp at h2
          | cons x xs =>
            have := (hk x (by rw [hl]; simp)).1
            rw [mostL_cons]
            exact Int.le_trans this (Int.le_trans (le_mx2 0 _) mostL_ge)
        · obtain ⟨_, g2⟩ := hgeo ht
          rw [e] at g2
          have := rect_size (ok_rect (ok_head hok)) hax
          exact mostL_le (by omega) (fun x hx => by
            have := (hk x hx).2 (tilesB_kids ht hx)
            rw [g2 x hx] at this
            exact this)
end Go.Proofs.Ytfdmfgaiblfbhaa.P
/- LeastSums, the plain law: what a tree that tiles can give is what its kids can give together, along their own axis; along the other one what that one can that can least. Condition: at most 1048576 cells. -/
namespace Go.Proofs.Ytfdmfgaiblfbhaa.Pure
open Go.RowKit Go.Proofs.Ytfdmfgaiblfbhaa.P Go.Proofs.YtfdmfgaiblfbhaaW.PrintWords Go.Proofs.YtfdmfgaiblfbhaaW.PrintLast Go.Proofs.YtfdmfgaiblfbhaaW.PrintMore
theorem distinct_drop : ∀ (a b : List S26), distinctC (a ++ b) = true → distinctC b = true := by
  intro a
  induction a with
  | nil => intro b h; exact h
  | cons x xs ih =>
    intro b h
    rw [List.cons_append] at h
    simp only [distinctC, Bool.and_eq_true] at h
    exact ih b h.2
theorem distinct_take (a b : List S26) (h : distinctC (a ++ b) = true) : distinctC a = true := by
  cases ha : distinctC a with
  | true => rfl
  | false => rw [distinctC_pre a b ha] at h; cases h
theorem may_kid {c x : S26} (h : mayC c = true) (hx : x ∈ c.f3) : mayC x = true := by
  have hs := may_small h
  have hok := may_ok h
  have h1 := sz_kid hx
  have h2 := sz_eq c
  have hd : distinctC (leavesC c) = true := by
    unfold mayC at h
    simp only [Bool.and_eq_true] at h
    exact h.2.2
  unfold mayC
  rw [decide_eq_true (by omega), ok_kids hok hx, Bool.true_and, Bool.true_and]
  obtain ⟨p, q, e⟩ := List.append_of_mem hx
  have e2 : allC c = (c :: allL p) ++ (allC x ++ allL q) := by rw [allC_eq, e, allL_app, allL_cons]; rfl
  unfold leavesC at hd ⊢
  rw [e2, List.filter_append, List.filter_append] at hd
  exact distinct_take _ _ (distinct_drop _ _ hd)
theorem tiles_kid {c x : S26} (h : tilesC c = true) (hx : x ∈ c.f3) : tilesC x = true := by
  have hm := tiles_may h
  unfold tilesC at h ⊢
  simp only [Bool.and_eq_true] at h
  rw [may_kid hm hx, tilesB_kids h.2 hx]
  rfl
theorem gives_val {ax : Int} (hax : ax = 1 ∨ ax = 2) {c : S26} (h : tilesC c = true) : givesC ax c = sizeR ax c.f1 - leastC ax c ∧ 0 ≤ sizeR ax c.f1 - leastC ax c ∧ 1 ≤ leastC ax c ∧ sizeR ax c.f1 ≤ 10000 := by
  have hm := tiles_may h
  have hB : tilesB c = true := by
    unfold tilesC at h
    simp only [Bool.and_eq_true] at h
    exact h.2
  have f := least_fits hax (sz c) c (Nat.le_refl _) (may_small hm) (may_ok hm)
  have g := f.2 hB
  have r := rect_size (ok_rect (ok_head (may_ok hm))) hax
  unfold givesC
  rw [if_pos ⟨hax, h⟩, wq (by omega) (by omega)]
  omega
theorem sum_gives {ax : Int} : ∀ {l : List S26}, (∀ x, x ∈ l → givesC ax x = sizeR ax x.f1 - leastC ax x) → (l.map (givesC ax)).sum = (l.map (fun k => sizeR ax k.f1)).sum - sumL ax l := by
  intro l
  induction l with
  | nil => intro _; rw [sumL_nil]; rfl
  | cons x xs ih =>
    intro h
    have h1 := h x (by simp)
    have h2 := ih (fun y hy => h y (by simp [hy]))
    rw [List.map_cons, List.sum_cons, List.map_cons, List.sum_cons, sumL_cons, h1, h2]
    omega
noncomputable def leastL (ax : Int) : Int → List S26 → Int
  | m, [] => m
  | m, k :: ks => leastL ax (mn m (givesC ax k)) ks
theorem least_gives {ax S : Int} : ∀ (l : List S26) (m mm : Int), (∀ x, x ∈ l → givesC ax x = S - leastC ax x) → m = S - mm → leastL ax m l = S - mostL ax mm l := by
  intro l
  induction l with
  | nil => intro m mm _ h; rw [mostL_nil]; exact h
  | cons x xs ih =>
    intro m mm h hm
    have h1 := h x (by simp)
    simp only [leastL]
    rw [mostL_cons]
    refine ih _ _ (fun y hy => h y (by simp [hy])) ?_
    rw [h1, hm]
    unfold mn mx
    split <;> split <;> omega
theorem LeastSums : ∀ (a0 : S26) (a1 : Int), wf26 a0 → sz a0 ≤ 1048576 → U8 a1 → ∃ k, sashlaw08_LeastSums.f k a0.f0 a0.f1.f0 a0.f1.f1 a0.f1.f2 a0.f1.f3 a0.f2 a0.f3 a1 = some true := by
  intro c ax _ hz _
  refine Ev.rounds (g := fun k => sashlaw08_LeastSums.f k c.f0 c.f1.f0 c.f1.f1 c.f1.f2 c.f1.f3 c.f2 c.f3 ax) ?_
  unfold sashlaw08_LeastSums.f
  have aw : Ev (fun _ => (sashlaw08_awake.f).bind fun t => some t) true := Ev.now _
  have big : Ev (fun k => sashlaw08_LeastSums.j0 k ax true c.f0 c.f1.f0 c.f1.f1 c.f1.f2 c.f1.f3 c.f2 c.f3) true := by
    refine Ev.step (fun k => ?_) aw
    simp only [sashlaw08_LeastSums.j0]
    rw [if_pos trivial]
  obtain ⟨g, eg, _⟩ := great_ev c hz
  refine Ev.bind eg ?_
  cases g with
  | true => exact ev_pos rfl big
  | false =>
    refine ev_neg (by simp) (Ev.bind (ref_tiles_ev c hz) ?_)
    cases ht : tilesC c with
    | false => exact ev_neg (by simp) big
    | true =>
      refine ev_pos rfl ?_
      by_cases a1 : ax < 1
      · exact ev_pos a1 big
      · refine ev_neg a1 ?_
        by_cases a2 : ax > 2
        · rw [decide_eq_true a2]
          exact big
        · rw [decide_eq_false a2]
          have hax : ax = 1 ∨ ax = 2 := by omega
          have hm := tiles_may ht
          have hok := may_ok hm
          have hs := may_small hm
          have hsz := sz_eq c
          have hlen := szL_len c.f3
          obtain ⟨gv, g0, g1, g2⟩ := gives_val hax ht
          have eg := gives_ev c hz ax
          have hB : oneB c = true := by
            have h := ht
            unfold tilesC at h
            rw [tilesB_eq] at h
            simp only [Bool.and_eq_true] at h
            exact h.2.1
          rcases ok_kinds (ok_head hok) with ⟨k1, k2⟩ | ⟨k1, k2⟩
          · have hl1 : leastC ax c = 1 := by rw [leastC_eq, if_pos k1]
            refine Ev.step (f := fun k => (least_Gives.f k c.f0 c.f1.f0 c.f1.f1 c.f1.f2 c.f1.f3 c.f2 c.f3 ax).bind fun t1 => (if t1 = (wrap64 (sizeR ax c.f1 - 1)) then ((sashlaw08_awake.f).bind fun t => (some t)) else (some false))) (fun k => ?_) (Ev.bind eg (ev_pos ?_ aw))
            · simp only [sashlaw08_LeastSums.j0]
              rw [if_neg (by simp), if_pos k1, rsize_some c.f1 ax]
              rfl
            · rw [gv, hl1, wq (by omega) (by omega)]
          · obtain ⟨geo1, geo2⟩ := kids_geo hB k1 (by omega)
            have hk : ∀ x, x ∈ c.f3 → givesC ax x = sizeR ax x.f1 - leastC ax x ∧ 0 ≤ sizeR ax x.f1 - leastC ax x ∧ 1 ≤ leastC ax x ∧ sizeR ax x.f1 ≤ 10000 := fun x hx => gives_val hax (tiles_kid ht hx)
            have fin : (alongK ax c.f0 = true → givesC ax c = (c.f3.map (givesC ax)).sum) ∧ (alongK ax c.f0 = false → givesC ax c = leastL ax 10000 c.f3) := by
              refine ⟨fun ha => ?_, fun ha => ?_⟩
              · have e : c.f0 - 1 = ax := by
                  unfold alongK at ha
                  simp at ha
                  omega
                rw [e] at geo1
                rw [gv, sum_gives (fun x hx => (hk x hx).1), leastC_eq, if_neg (by omega), if_pos ha]
                omega
              · have e : 3 - (c.f0 - 1) = ax := by
                  unfold alongK at ha
                  simp at ha
                  omega
                rw [e] at geo2
                rw [gv, leastC_eq, if_neg (by omega), ha]
                simp only [Bool.false_eq_true, if_false]
                cases hl : c.f3 with
                | nil => rw [hl] at k2; simp at k2
                | cons x xs =>
                  rw [hl] at hk geo2
                  have hx := hk x (by simp)
                  have hx2 := geo2 x (by simp)
                  simp only [leastL]
                  rw [mostL_cons]
                  refine (least_gives xs _ _ (fun y hy => ?_) ?_).symm
                  · rw [(hk y (by simp [hy])).1, geo2 y (by simp [hy])]
                  · rw [hx.1, hx2]
                    unfold mn mx
                    rw [if_pos (by omega), if_pos (by omega)]
            have key : ∀ (rest pre : List S26), pre ++ rest = c.f3 → ∀ m : Int, leastL ax 10000 c.f3 = leastL ax m rest → 0 ≤ (pre.map (givesC ax)).sum → (pre.map (givesC ax)).sum ≤ 10000 * (pre.length : Int) →
                Ev (fun k => sashlaw08_LeastSums.l0 k ax (pre.map (givesC ax)).sum m (pre.length : Int) c.f0 c.f1.f0 c.f1.f1 c.f1.f2 c.f1.f3 c.f2 c.f3) true := by
              intro rest
              induction rest with
              | nil =>
                intro pre hp m hm2 b0 b1
                rw [List.append_nil] at hp
                subst hp
                rw [show leastL ax m [] = m from rfl] at hm2
                cases ha : alongK ax c.f0 with
                | true =>
                  have e := fin.1 ha
                  refine Ev.step (f := fun k => (least_Gives.f k c.f0 c.f1.f0 c.f1.f1 c.f1.f2 c.f1.f3 c.f2 c.f3 ax).bind fun t1 => (if t1 = (c.f3.map (givesC ax)).sum then ((sashlaw08_awake.f).bind fun t => (some t)) else (some false))) (fun k => ?_) (Ev.bind eg (ev_pos e aw))
                  simp only [sashlaw08_LeastSums.l0]
                  rw [if_neg (by omega), ralong_some, ha]
                  simp only [Option.bind_some, if_true]
                | false =>
                  have e := fin.2 ha
                  refine Ev.step (f := fun k => (least_Gives.f k c.f0 c.f1.f0 c.f1.f1 c.f1.f2 c.f1.f3 c.f2 c.f3 ax).bind fun t1 => (if t1 = m then ((sashlaw08_awake.f).bind fun t => (some t)) else (some false))) (fun k => ?_) (Ev.bind eg (ev_pos (e.trans hm2) aw))
                  simp only [sashlaw08_LeastSums.l0]
                  rw [if_neg (by omega), ralong_some, ha]
                  simp only [Option.bind_some, Bool.false_eq_true, if_false]
              | cons x xs ih =>
                intro pre hp m hm2 b0 b1
                have hl : (pre.length : Int) < (c.f3.length : Int) := by rw [← hp, List.length_append, List.length_cons]; omega
                have hr : rd_T26 c.f3 (pre.length : Int) = x := by rw [← hp]; exact rd26_in pre x xs
                have hu : wrap64 ((pre.length : Int) + 1) = ((pre ++ [x]).length : Int) := up_in pre x xs (by rw [hp]; omega)
                have hx : x ∈ c.f3 := by rw [← hp]; simp
                have hv := hk x hx
                have hxz : sz x ≤ 1048576 := by have := sz_kid hx; omega
                have hsum : ((pre ++ [x]).map (givesC ax)).sum = (pre.map (givesC ax)).sum + givesC ax x := by simp
                have hpl : ((pre ++ [x]).length : Int) = (pre.length : Int) + 1 := by simp
                have e2 := ih (pre ++ [x]) (by rw [List.append_assoc]; exact hp) (mn m (givesC ax x)) hm2 (by rw [hsum]; omega) (by rw [hsum, hpl]; omega)
                rw [hsum] at e2
                refine Ev.step (f := fun k => (least_Gives.f k x.f0 x.f1.f0 x.f1.f1 x.f1.f2 x.f1.f3 x.f2 x.f3 ax).bind fun t => sashlaw08_LeastSums.l0 k ax (wrap64 ((pre.map (givesC ax)).sum + t)) (mn m t) (wrap64 ((pre.length : Int) + 1)) c.f0 c.f1.f0 c.f1.f1 c.f1.f2 c.f1.f3 c.f2 c.f3) (fun k => ?_) (Ev.bind (gives_ev x hxz ax) ?_)
                · simp only [sashlaw08_LeastSums.l0]
                  rw [if_pos hl, if_pos (by omega), hr]
                · rw [hu, wq (by omega) (by omega)]
                  exact e2
            have e := key c.f3 [] rfl 10000 rfl (by simp) (by simp)
            refine Ev.step (fun k => ?_) e
            simp only [sashlaw08_LeastSums.j0]
            rw [if_neg (by simp), if_neg (by omega)]
            rfl
end Go.Proofs.Ytfdmfgaiblfbhaa.Pure
/- Facts on the program's head, each once: the head's text as a row of signs, its words; what follows of them. -/
namespace Go.Proofs.Ytfdmfgaiblfbhaa.P
open Go.RowKit
def headSigns : List Char := [104, 97, 114, 110, 101, 115, 115, 32, 57, 48, 98, 52, 50, 100, 98, 100, 99, 50, 52, 54, 55, 51, 50, 51, 56, 57, 50, 48, 100, 50, 50, 98, 56, 57, 53, 102, 48, 48, 55, 48, 53, 101, 102, 48, 53, 53, 102, 54, 54, 55, 97, 57, 54, 56, 100, 50, 56, 97, 57, 52, 55, 52, 56, 57, 49, 49, 48, 97, 48, 101, 53, 55, 32, 99, 117, 116, 32, 97, 116, 32, 115, 97, 115, 104, 47, 115, 97, 115, 104, 108, 97, 119, 48, 55, 46, 70, 108, 97, 116, 78, 101, 120, 116, 115, 32, 115, 97, 115, 104, 47, 115, 97, 115, 104, 108, 97, 119, 48, 55, 46, 70, 108, 97, 116, 76, 105, 115, 116, 115, 32, 115, 97, 115, 104, 47, 115, 97, 115, 104, 108, 97, 119, 48, 52, 46, 82, 101, 99, 116, 67, 117, 116, 115, 32, 115, 97, 115, 104, 47, 115, 97, 115, 104, 108, 97, 119, 48, 57, 46, 65, 100, 106, 117, 115, 116, 83, 104, 97, 114, 101, 115, 32, 115, 97, 115, 104, 47, 115, 97, 115, 104, 108, 97, 119, 48, 57, 46, 65, 100, 106, 117, 115, 116, 69, 118, 101, 110, 115, 32, 115, 97, 115, 104, 47, 115, 97, 115, 104, 108, 97, 119, 49, 54, 46, 83, 112, 114, 101, 97, 100, 83, 105, 122, 101, 115, 32, 115, 97, 115, 104, 47, 115, 97, 115, 104, 108, 97, 119, 48, 55, 46, 70, 108, 97, 116, 67, 104, 97, 110, 103, 101, 115, 32, 115, 97, 115, 104, 47, 115, 97, 115, 104, 108, 97, 119, 48, 52, 46, 82, 101, 99, 116, 73, 110, 115, 105, 100, 101, 32, 115, 97, 115, 104, 47, 115, 97, 115, 104, 108, 97, 119, 48, 55, 46, 70, 108, 97, 116, 78, 97, 109, 101, 115, 32, 115, 97, 115, 104, 47, 115, 97, 115, 104, 108, 97, 119, 48, 57, 46, 65, 100, 106, 117, 115, 116, 83, 101, 116, 115, 32, 115, 97, 115, 104, 47, 115, 97, 115, 104, 108, 97, 119, 48, 52, 46, 82, 101, 99, 116, 77, 101, 101, 116, 115, 32, 115, 97, 115, 104, 47, 115, 97, 115, 104, 108, 97, 119, 48, 52, 46, 82, 101, 99, 116, 77, 97, 121, 115, 32, 115, 97, 115, 104, 47, 115, 97, 115, 104, 108, 97, 119, 48, 55, 46, 70, 108, 97, 116, 83, 116, 105, 108, 108, 32, 115, 97, 115, 104, 47, 115, 97, 115, 104, 108, 97, 119, 48, 53, 46, 67, 101, 108, 108, 77, 97, 121, 115, 32, 115, 97, 115, 104, 47, 115, 97, 115, 104, 108, 97, 119, 48, 53, 46, 67, 101, 108, 108, 83, 97, 109, 101, 32, 115, 97, 115, 104, 47, 115, 97, 115, 104, 108, 97, 119, 48, 53, 46, 67, 101, 108, 108, 67, 111, 117, 110, 116, 115, 32, 115, 97, 115, 104, 47, 115, 97, 115, 104, 108, 97, 119, 48, 56, 46, 76, 101, 97, 115, 116, 83, 117, 109, 115, 32, 115, 97, 115, 104, 47, 115, 97, 115, 104, 108, 97, 119, 48, 53, 46, 67, 101, 108, 108, 70, 105, 110, 100, 115, 32, 115, 97, 115, 104, 47, 115, 97, 115, 104, 108, 97, 119, 48, 56, 46, 76, 101, 97, 115, 116, 73, 115, 32, 115, 97, 115, 104, 47, 115, 97, 115, 104, 108, 97, 119, 48, 56, 46, 76, 101, 97, 115, 116, 70, 105, 116, 115, 32, 115, 97, 115, 104, 47, 115, 97, 115, 104, 108, 97, 119, 48, 56, 46, 76, 101, 97, 115, 116, 80, 97, 116, 104, 115, 32, 115, 97, 115, 104, 47, 115, 97, 115, 104, 108, 97, 119, 48, 53, 46, 67, 101, 108, 108, 80, 117, 116, 115, 32, 115, 97, 115, 104, 47, 115, 97, 115, 104, 108, 97, 119, 49, 50, 46, 83, 112, 108, 105, 116, 83, 105, 122, 101, 115, 32, 115, 97, 115, 104, 47, 115, 97, 115, 104, 108, 97, 119, 49, 54, 46, 83, 112, 114, 101, 97, 100, 65, 108, 108, 32, 115, 97, 115, 104, 47, 115, 97, 115, 104, 108, 97, 119, 49, 54, 46, 83, 112, 114, 101, 97, 100, 65, 116, 32, 115, 97, 115, 104, 47, 115, 97, 115, 104, 108, 97, 119, 49, 52, 46, 80, 117, 115, 104, 73, 115, 32, 115, 97, 115, 104, 47, 115, 97, 115, 104, 108, 97, 119, 49, 52, 46, 80, 117, 115, 104, 79, 110, 101, 32, 115, 97, 115, 104, 47, 115, 97, 115, 104, 108, 97, 119, 49, 52, 46, 80, 117, 115, 104, 70, 114, 97, 109, 101, 115, 32, 115, 97, 115, 104, 47, 115, 97, 115, 104, 108, 97, 119, 49, 52, 46, 80, 117, 115, 104, 67, 97, 110, 32, 115, 97, 115, 104, 47, 115, 97, 115, 104, 108, 97, 119, 49, 50, 46, 83, 112, 108, 105, 116, 73, 115, 32, 115, 97, 115, 104, 47, 115, 97, 115, 104, 108, 97, 119, 49, 50, 46, 83, 112, 108, 105, 116, 67, 97, 110].map Char.ofNat
def headWords : List (List Char) := [[104, 97, 114, 110, 101, 115, 115].map Char.ofNat,
  [57, 48, 98, 52, 50, 100, 98, 100, 99, 50, 52, 54, 55, 51, 50, 51, 56, 57, 50, 48, 100, 50, 50, 98, 56, 57, 53, 102, 48, 48, 55, 48, 53, 101, 102, 48, 53, 53, 102, 54, 54, 55, 97, 57, 54, 56, 100, 50, 56, 97, 57, 52, 55, 52, 56, 57, 49, 49, 48, 97, 48, 101, 53, 55].map Char.ofNat,
  [99, 117, 116].map Char.ofNat,
  [97, 116].map Char.ofNat,
  [115, 97, 115, 104, 47, 115, 97, 115, 104, 108, 97, 119, 48, 55, 46, 70, 108, 97, 116, 78, 101, 120, 116, 115].map Char.ofNat,
  [115, 97, 115, 104, 47, 115, 97, 115, 104, 108, 97, 119, 48, 55, 46, 70, 108, 97, 116, 76, 105, 115, 116, 115].map Char.ofNat,
  [115, 97, 115, 104, 47, 115, 97, 115, 104, 108, 97, 119, 48, 52, 46, 82, 101, 99, 116, 67, 117, 116, 115].map Char.ofNat,
  [115, 97, 115, 104, 47, 115, 97, 115, 104, 108, 97, 119, 48, 57, 46, 65, 100, 106, 117, 115, 116, 83, 104, 97, 114, 101, 115].map Char.ofNat,
  [115, 97, 115, 104, 47, 115, 97, 115, 104, 108, 97, 119, 48, 57, 46, 65, 100, 106, 117, 115, 116, 69, 118, 101, 110, 115].map Char.ofNat,
  [115, 97, 115, 104, 47, 115, 97, 115, 104, 108, 97, 119, 49, 54, 46, 83, 112, 114, 101, 97, 100, 83, 105, 122, 101, 115].map Char.ofNat,
  [115, 97, 115, 104, 47, 115, 97, 115, 104, 108, 97, 119, 48, 55, 46, 70, 108, 97, 116, 67, 104, 97, 110, 103, 101, 115].map Char.ofNat,
  [115, 97, 115, 104, 47, 115, 97, 115, 104, 108, 97, 119, 48, 52, 46, 82, 101, 99, 116, 73, 110, 115, 105, 100, 101].map Char.ofNat,
  [115, 97, 115, 104, 47, 115, 97, 115, 104, 108, 97, 119, 48, 55, 46, 70, 108, 97, 116, 78, 97, 109, 101, 115].map Char.ofNat,
  [115, 97, 115, 104, 47, 115, 97, 115, 104, 108, 97, 119, 48, 57, 46, 65, 100, 106, 117, 115, 116, 83, 101, 116, 115].map Char.ofNat,
  [115, 97, 115, 104, 47, 115, 97, 115, 104, 108, 97, 119, 48, 52, 46, 82, 101, 99, 116, 77, 101, 101, 116, 115].map Char.ofNat,
  [115, 97, 115, 104, 47, 115, 97, 115, 104, 108, 97, 119, 48, 52, 46, 82, 101, 99, 116, 77, 97, 121, 115].map Char.ofNat,
  [115, 97, 115, 104, 47, 115, 97, 115, 104, 108, 97, 119, 48, 55, 46, 70, 108, 97, 116, 83, 116, 105, 108, 108].map Char.ofNat,
  [115, 97, 115, 104, 47, 115, 97, 115, 104, 108, 97, 119, 48, 53, 46, 67, 101, 108, 108, 77, 97, 121, 115].map Char.ofNat,
  [115, 97, 115, 104, 47, 115, 97, 115, 104, 108, 97, 119, 48, 53, 46, 67, 101, 108, 108, 83, 97, 109, 101].map Char.ofNat,
  [115, 97, 115, 104, 47, 115, 97, 115, 104, 108, 97, 119, 48, 53, 46, 67, 101, 108, 108, 67, 111, 117, 110, 116, 115].map Char.ofNat,
  [115, 97, 115, 104, 47, 115, 97, 115, 104, 108, 97, 119, 48, 56, 46, 76, 101, 97, 115, 116, 83, 117, 109, 115].map Char.ofNat,
  [115, 97, 115, 104, 47, 115, 97, 115, 104, 108, 97, 119, 48, 53, 46, 67, 101, 108, 108, 70, 105, 110, 100, 115].map Char.ofNat,
  [115, 97, 115, 104, 47, 115, 97, 115, 104, 108, 97, 119, 48, 56, 46, 76, 101, 97, 115, 116, 73, 115].map Char.ofNat,
  [115, 97, 115, 104, 47, 115, 97, 115, 104, 108, 97, 119, 48, 56, 46, 76, 101, 97, 115, 116, 70, 105, 116, 115].map Char.ofNat,
  [115, 97, 115, 104, 47, 115, 97, 115, 104, 108, 97, 119, 48, 56, 46, 76, 101, 97, 115, 116, 80, 97, 116, 104, 115].map Char.ofNat,
  [115, 97, 115, 104, 47, 115, 97, 115, 104, 108, 97, 119, 48, 53, 46, 67, 101, 108, 108, 80, 117, 116, 115].map Char.ofNat,
  [115, 97, 115, 104, 47, 115, 97, 115, 104, 108, 97, 119, 49, 50, 46, 83, 112, 108, 105, 116, 83, 105, 122, 101, 115].map Char.ofNat,
  [115, 97, 115, 104, 47, 115, 97, 115, 104, 108, 97, 119, 49, 54, 46, 83, 112, 114, 101, 97, 100, 65, 108, 108].map Char.ofNat,
  [115, 97, 115, 104, 47, 115, 97, 115, 104, 108, 97, 119, 49, 54, 46, 83, 112, 114, 101, 97, 100, 65, 116].map Char.ofNat,
  [115, 97, 115, 104, 47, 115, 97, 115, 104, 108, 97, 119, 49, 52, 46, 80, 117, 115, 104, 73, 115].map Char.ofNat,
  [115, 97, 115, 104, 47, 115, 97, 115, 104, 108, 97, 119, 49, 52, 46, 80, 117, 115, 104, 79, 110, 101].map Char.ofNat,
  [115, 97, 115, 104, 47, 115, 97, 115, 104, 108, 97, 119, 49, 52, 46, 80, 117, 115, 104, 70, 114, 97, 109, 101, 115].map Char.ofNat,
  [115, 97, 115, 104, 47, 115, 97, 115, 104, 108, 97, 119, 49, 52, 46, 80, 117, 115, 104, 67, 97, 110].map Char.ofNat,
  [115, 97, 115, 104, 47, 115, 97, 115, 104, 108, 97, 119, 49, 50, 46, 83, 112, 108, 105, 116, 73, 115].map Char.ofNat,
  [115, 97, 115, 104, 47, 115, 97, 115, 104, 108, 97, 119, 49, 50, 46, 83, 112, 108, 105, 116, 67, 97, 110].map Char.ofNat]
theorem head_list : Try.prog.initOrder.toList = headSigns := by
  have e : Try.prog.initOrder = String.ofList headSigns := by kernel_rfl
  rw [e, String.toList_ofList]
theorem head_words : wordsSigns Try.prog.initOrder.toList = headWords := by
  rw [head_list]
  kernel_rfl
def headRest : List (List Char) := headWords.drop 3
theorem head_behind : behindMainWord (wordsSigns Try.prog.initOrder.toList) = ([99, 117, 116].map Char.ofNat) :: headRest := by
  rw [head_words]
  kernel_rfl
theorem cut_eq : ([99, 117, 116].map Char.ofNat : List Char) = "cut".toList := by decide +kernel
theorem head_behind' : behindMainWord (wordsSigns Try.prog.initOrder.toList) = "cut".toList :: headRest := head_behind.trans (congrArg (fun c => c :: headRest) cut_eq)
theorem strip_none (rest : List (List Char)) : stripLifts liftWords ("cut".toList :: rest) = ([], "cut".toList :: rest) := by
  have key : ∀ (l : List String), (l.all fun o => !("cut".toList == o.toList)) = true → stripLifts l ("cut".toList :: rest) = ([], "cut".toList :: rest) := by
    intro l
    induction l with
    | nil => intro _; rfl
    | cons o l ih =>
      intro h
      simp only [List.all_cons, Bool.and_eq_true] at h
      unfold stripLifts
      rw [if_neg (by simpa using h.1)]
      exact ih h.2
  exact key _ (by decide +kernel)
theorem make_of (P : Program) (rest : List (List Char)) (h : behindMainWord (wordsSigns P.initOrder.toList) = "cut".toList :: rest) : P.make = some .cut := by
  unfold Program.make
  rw [h]
  simp only
  have h1 : ("cut".toList == "gc".toList) = false := by decide +kernel
  have h2 : ("cut".toList == "spec".toList) = false := by decide +kernel
  rw [h1, h2, if_neg (by simp), if_pos (by simp)]
theorem lifts_of (P : Program) (rest : List (List Char)) (h : behindMainWord (wordsSigns P.initOrder.toList) = "cut".toList :: rest) : P.headLifts = [] := by
  unfold Program.headLifts
  simp only [h, strip_none]
  simp
theorem final_of (P : Program) (rest : List (List Char)) (h : behindMainWord (wordsSigns P.initOrder.toList) = "cut".toList :: rest) : P.liftsFinal = false := by
  have h1 : (some "cut".toList == some "carried".toList) = false := by decide +kernel
  unfold Program.liftsFinal
  simp only [h, lifts_of P rest h, List.head?_cons, h1, Bool.false_and, List.contains_nil, Bool.or_false]
theorem enter_of (P : Program) (rest : List (List Char)) (h : behindMainWord (wordsSigns P.initOrder.toList) = "cut".toList :: rest) (h1 : P.laysLater = false) (h2 : P.bearsReflect = false) (h3 : P.doorFits [] = true) : P.mayEnter = true := by
  unfold Program.mayEnter
  rw [h]
  simp only [strip_none]
  rw [h1, h2, h3]
  simp
theorem head_make : Try.prog.make = some .cut := make_of Try.prog headRest head_behind'
theorem head_final : Try.prog.liftsFinal = false := final_of Try.prog headRest head_behind'
theorem head_later : Try.prog.laysLater = false := by kernel_rfl
theorem head_reflect : Try.prog.bearsReflect = false := by kernel_rfl
theorem head_door : Try.prog.doorFits [] = true := by kernel_rfl
theorem head_enter : Try.prog.mayEnter = true := enter_of Try.prog headRest head_behind' head_later head_reflect head_door
theorem head_keys : (true == Try.prog.plainKeys) = true := by kernel_rfl
theorem head_heard : Try.prog.stopsHeard = true := by kernel_rfl
end Go.Proofs.Ytfdmfgaiblfbhaa.P
/- joinedFacts out of its parts, over any program. -/
namespace Go.Proofs.Ytfdmfgaiblfbhaa.P
open Go.RowKit
theorem joined_mk {P : Program} {f : FuncId} {fn : Func} {s : ChangeSpec} {c : OpenClaim}
    (h0 : (c.wf (OpenSpec.ofChange s)) = true)
    (h1 : (laidOutB P) = true)
    (h2 : (mapsRowed P) = true)
    (h3 : (fn.params.all (P.readableRec ·)) = true)
    (h4 : (namedTie P c.named s.vars) = true)
    (h5 : ((c.stops == [])) = true)
    (h6 : ((P.stops == [])) = true)
    (h7 : ((c.knobs == [])) = true)
    (h8 : ((P.stopKnobs == [])) = true)
    (h9 : ((c.inPlace == P.inPlace f)) = true)
    (h10 : ((c.unfollowed == P.unfollowed f)) = true)
    (h11 : ((c.recurses == P.recurses f)) = true)
    (h12 : ((c.named == P.varsNamed f)) = true)
    (h13 : ((c.maps == (fn.params.toList ++ s.plain.varTypes P).any (P.mapsRec ·))) = true)
    (h14 : ((c.ifaces == (fn.params.toList ++ s.plain.varTypes P).any (P.ifacesRec ·))) = true)
    (h15 : ((c.mapsOut == P.mapsAmong fn.resultTypes.toList)) = true)
    (h16 : ((c.loops == (fn.params.toList ++ s.plain.varTypes P).any (P.loopsFrom ·))) = true)
    (h17 : ((c.wideKeys == (fn.params.toList ++ s.plain.varTypes P ++ fn.resultTypes.toList).any (P.wideKeysFrom ·))) = true)
    (h18 : (s.vars.all (P.varReadable ·)) = true)
    (h19 : (fn.resultTypes.all (fun t => P.readableRec t && decide (t < P.types.size))) = true)
    (h20 : ((c.ifacesOut == fn.resultTypes.toList.any (P.ifacesRec ·))) = true)
    (h21 : ((c.loopsOut == fn.resultTypes.toList.any (P.loopsFrom ·))) = true)
    (h22 : ((c.plainKeys == P.plainKeys)) = true)
    (h23 : (c.shortTexts.isNone) = true)
    (h24 : (P.stopsHeard) = true)
    (h25 : (P.mayEnter) = true)
    (h26 : ((c.lifted == P.liftsFinal)) = true)
    (h27 : ((P.make == some c.make)) = true)
    (hd : c.domain.isEmpty = true) (hk : c.kinds = [])
    (h29 : ((c.pinned == c.pinnedBy)) = true)
    (h30 : ((c.veiled == (fn.params.toList ++ s.plain.varTypes P ++ fn.resultTypes.toList).any (P.veiledRec ·))) = true)
    (h31 : (c.veiledFits P fn.params.toList (fn.params.toList ++ s.plain.varTypes P ++ fn.resultTypes.toList)) = true)
    : joinedFacts P f fn s c = true := by
  unfold joinedFacts
  rw [h0, h1, h2, h3, h4, h5, h6, h7, h8, h9, h10, h11, h12, h13, h14, h15, h16, h17, h18, h19, h20, h21, h22, h23, h24, h25, h26, h27, if_pos hd, hk, h29, h30, h31]
  rfl
end Go.Proofs.Ytfdmfgaiblfbhaa.P
/- How a law's arguments read, with their bulk: a tree has no more cells than its reading has bulk. -/
namespace Go.Proofs.Ytfdmfgaiblfbhaa.P
open Go.RowKit Go.Proofs.YtfdmfgaiblfbhaaW.PrintWords Go.Proofs.YtfdmfgaiblfbhaaW.PrintLast Go.Proofs.YtfdmfgaiblfbhaaW.PrintMore
open Go.ChangeShapes Go.WideShapes Go.ChangeAt Go.Joins Go.Deep

section
variable {H : Type} {enc : TypeId × Value → H} {P : Program} {w : World} {base : Nat} {spare : Nat → Bool} {held : Bool}
theorem bulk_pos (d : DataW H) : 1 ≤ Rows.uptoBulk d := by
  cases d with
  | lit l => cases l <;> simp [Rows.uptoBulk]
  | _ => simp [Rows.uptoBulk]
theorem bulk_len (l : List (DataW H)) : l.length ≤ Rows.uptoBulkAll l := by
  induction l with
  | nil => simp
  | cons x xs ih =>
    have := bulk_pos x
    simp only [Rows.uptoBulkAll, List.length_cons]
    omega
theorem bulk_sum {α : Type} (m : α → Nat) : ∀ (l : List α) (es : List (DataW H)), l.length = es.length → (∀ (i : Nat) (p : α) (e : DataW H), l[i]? = some p → es[i]? = some e → m p ≤ Rows.uptoBulk e) → (l.map m).sum ≤ Rows.uptoBulkAll es := by
  intro l
  induction l with
  | nil => intro es _ _; simp
  | cons x xs ih =>
    intro es hl h
    cases es with
    | nil => simp at hl
    | cons e es =>
      have h0 := h 0 x e rfl rfl
      have h1 := ih es (by simpa using hl) (fun i p e hp he => h (i + 1) p e (by simpa using hp) (by simpa using he))
      simp only [List.map_cons, List.sum_cons, Rows.uptoBulkAll]
      omega
theorem trod_struct4z {t : TypeId} {f0 f1 f2 f3 : Field} {fuel : Nat} {cs : List Value} {x : DataW H × List MemPlace} (ht : P.underlying t = some (.struct #[f0, f1, f2, f3])) (h : DataW.trod enc P w base spare held fuel t cs = some x) :
    ∃ y0 y1 y2 y3 n, fuel = n + 1 ∧ x.1 = .agg [y0.1, y1.1, y2.1, y3.1] ∧ cs.length = P.cellsOf t ∧ DataW.trod enc P w base spare held n f0.type ((cs.drop f0.offset).take (P.cellsOf f0.type)) = some y0 ∧
      DataW.trod enc P w base spare held n f1.type ((cs.drop f1.offset).take (P.cellsOf f1.type)) = some y1 ∧ DataW.trod enc P w base spare held n f2.type ((cs.drop f2.offset).take (P.cellsOf f2.type)) = some y2 ∧
      DataW.trod enc P w base spare held n f3.type ((cs.drop f3.offset).take (P.cellsOf f3.type)) = some y3 := by
  obtain ⟨xs, n, hn, rfl, hl, hlen, hf⟩ := DataW.trod_struct ht h
  match xs, hlen with
  | [y0, y1, y2, y3], _ => exact ⟨y0, y1, y2, y3, n, hn, rfl, hl, by simpa using hf 0 f0 rfl, by simpa using hf 1 f1 rfl, by simpa using hf 2 f2 rfl, by simpa using hf 3 f3 rfl⟩
/-- A row whose elements read: so many, and of such a bulk. -/
theorem open_rowz {α : Type} {k : Kd α} {ok : α → Prop} (m : α → Nat) {t e : TypeId} {fuel : Nat} {cs : List Value} {x : DataW H × List MemPlace} (ht : P.underlying t = some (.slice e)) (hs : k.sz = P.cellsOf e)
    (hE : ∀ n, n < fuel → ∀ cs y, DataW.trod enc P w base spare held n e cs = some y → ∃ p, k.K w p cs ∧ ok p ∧ m p ≤ Rows.uptoBulk y.1) (h : DataW.trod enc P w base spare held fuel t cs = some x) :
    ∃ A c l, cs = [.slice A (l : List α).length c] ∧ l.length ≤ c ∧ k.C w A l.length l ∧ (∀ p, p ∈ l → ok p) ∧ (l.map m).sum < Rows.uptoBulk x.1 ∧ l.length < Rows.uptoBulk x.1 := by
  rcases DataW.trod_slice ht h with ⟨rfl, rfl⟩ | ⟨a, len, cap, elems, rest, n, hn, rfl, rfl, hb, hl, hm, hlen, hel, hsp, hns⟩
  · exact ⟨none, 0, [], rfl, Nat.le_refl _, ⟨rfl, by simp, fun h => absurd h (by simp)⟩, (fun p hp => by cases hp), (by simp [Rows.uptoBulk]), (by simp [Rows.uptoBulk])⟩
  · obtain ⟨l, hl2, hq⟩ := row_of (α := α) (Q := fun i p => ok p ∧ (∃ c, c.length = k.sz ∧ k.K w p c ∧ ∀ j u, c[j]? = some u → w.cell? (a.add (i * k.sz + j)) = some u) ∧ ∀ e, elems[i]? = some e → m p ≤ Rows.uptoBulk e.1) len (fun i hi => by
      have key := hel i hi
      rw [List.getElem?_eq_getElem (by omega)] at key
      obtain ⟨cs', h1, h2⟩ := Option.bind_eq_some_iff.1 key
      obtain ⟨p, hp, hok, hm⟩ := hE n (by omega) cs' _ h2
      obtain ⟨h3, h4⟩ := cells_at h1
      refine ⟨p, hok, ⟨cs', by rw [h3, hs], hp, fun j u hj => ?_⟩, fun e he => ?_⟩
      · rw [hs, ← Deep.add_add]
        exact h4 j u hj
      · rw [List.getElem?_eq_getElem (by omega)] at he
        cases he
        exact hm)
    subst hl2
    refine ⟨some a, cap, l, rfl, hl, ⟨rfl, by unfold maxLen at hm; omega, fun _ => ⟨a, rfl, fun j p hj => ?_⟩⟩, fun p hp => ?_, ?_, ?_⟩
    · obtain ⟨_, ⟨c, h1, h2, h3⟩, _⟩ := hq j p hj
      exact ⟨c, h1, h2, h3⟩
    · obtain ⟨i, hi, rfl⟩ := List.getElem_of_mem hp
      exact (hq i _ (List.getElem?_eq_getElem hi)).1
    · have := bulk_sum m l (elems.map (·.1)) (by simp [hlen]) (fun i p e hp he => by
        rw [List.getElem?_map] at he
        obtain ⟨e', he', rfl⟩ := Option.map_eq_some_iff.1 he
        exact (hq i p hp).2.2 e' he')
      simp only [Rows.uptoBulk]
      omega
    · have := bulk_len (elems.map (·.1))
      simp only [List.length_map] at this
      simp only [Rows.uptoBulk]
      omega
end
section
variable {H : Type} {enc : TypeId × Value → H} {w : World} {base : Nat} {spare : Nat → Bool} {held : Bool}
set_option maxRecDepth 100000 in
theorem read26nz : ∀ (fuel : Nat) {cs : List Value} {x : DataW H × List MemPlace} (_ : DataW.trod enc Try.prog w base spare held fuel 26 cs = some x), ∃ r : S26, (Kd.upto F26 7 [26] fuel).K w r cs ∧ wfn26 fuel r ∧ sz r ≤ Rows.uptoBulk x.1 := by
  intro fuel
  induction fuel using Nat.strongRecOn with
  | _ fuel ih =>
  intro cs x h
  cases fuel with
  | zero => simp [DataW.trod] at h
  | succ fuel =>
    obtain ⟨y0, y1, y2, y3, m, hm, hx, hl, h0, h1, h2, h3⟩ := trod_struct4z Try.underlying26 h
    obtain rfl : fuel = m := by omega
    rw [cells26] at hl
    match cs, hl with
    | [c0, c1, c2, c3, c4, c5, c6], _ =>
        simp only [cells3, cells5, cells23, cells24, List.drop_zero, List.take_succ_cons, List.take_zero, List.drop_succ_cons] at h0 h1 h2 h3
        obtain ⟨n0, e0, _, w0⟩ := DataW.trod_int Try.underlying5 h0
        obtain ⟨n2, e2, _, w2⟩ := DataW.trod_int Try.underlying3 h2
        simp only [List.cons.injEq, and_true] at e0 e2
        subst e0 e2
        obtain ⟨r, hr, hw⟩ := read23 h1
        obtain e1 := k23_open hr
        simp only [List.cons.injEq, and_true] at e1
        obtain ⟨rfl, rfl, rfl, rfl⟩ := e1
        obtain ⟨A, c, l, e3, hlc, hC, hok, hsum, _⟩ := open_rowz (k := Kd.upto F26 7 [26] fuel) (ok := wfn26 fuel) sz Try.underlying24 (by rw [sz26, cells26]) (fun n hn cs y hy => by
          obtain ⟨p, hp, hok, hz⟩ := ih n (by omega) hy
          exact ⟨p, Kd.upto_K_le mono26 sz26 (by omega) hp, wfn26_le (by omega) hok, hz⟩) h3
        simp only [List.cons.injEq, and_true] at e3
        subst e3
        have hlen9 : l.length ≤ 9223372036854775807 := hC.2.1
        refine ⟨⟨n0, r, n2, l⟩, ?_, ⟨u8_of w0, hw, i64_of w2, hlen9, hok⟩, ?_⟩
        · exact ⟨[.int .u8 n0], [.int .i64 r.f0, .int .i64 r.f1, .int .i64 r.f2, .int .i64 r.f3, .int .i64 n2, .slice A l.length c], rfl, rfl, [.int .i64 r.f0, .int .i64 r.f1, .int .i64 r.f2, .int .i64 r.f3], [.int .i64 n2, .slice A l.length c], rfl, k23_mk w r, [.int .i64 n2], [.slice A l.length c], rfl, rfl, A, c, rfl, hlc, hC⟩
        · rw [hx, sz_eq]
          have := szL_sum l
          simp only [Rows.uptoBulk, Rows.uptoBulkAll]
          have h3 := bulk_pos y0.1
          omega
theorem read26z {fuel : Nat} {cs : List Value} {x : DataW H × List MemPlace} (h : DataW.trod enc Try.prog w base spare held fuel 26 cs = some x) : ∃ r : S26, k26.K w r cs ∧ wf26 r ∧ sz r ≤ Rows.uptoBulk x.1 := by
  obtain ⟨r, hr, hw, hz⟩ := read26nz fuel h
  exact ⟨r, ⟨fuel, hr⟩, ⟨fuel, hw⟩, hz⟩
end
end Go.Proofs.Ytfdmfgaiblfbhaa.P
/- The row of the law LeastSums, second form (what it reads is of bulk at most 1048576), out of its plain law and its walk. -/
namespace Go.Proofs.Ytfdmfgaiblfbhaa.leastSumsUpto
open Go.ChangeShapes Go.WideShapes Go.ChangeAt Go.RowKit Go.Proofs.Ytfdmfgaiblfbhaa.P Go.Proofs.YtfdmfgaiblfbhaaW.PrintWords
open Go.ChangeMaps (open_string shut_string)
theorem own : ownKnob Try.prog.godebug = none := by kernel_rfl
theorem laidOut : laidOutB Try.prog = true := by kernel_rfl
set_option maxRecDepth 100000 in
theorem lifted (os : Os) (started : os.Started) (H : Type) (enc : TypeId × Value → H) (F : Stop.Interp) :
  ReturnsInHanded {} Try.checked os 19 .any ((Rows.OpenSpec.upto Rows.leastSumsSpec).pre6 enc Try.prog Try.f19 Rows.leastSumsUptoRow.domain false) (((Rows.OpenSpec.upto Rows.leastSumsSpec).at F).post enc Try.prog Try.f19 false true false false) := by
 refine returnsInHanded_of_cond (C := Try.checked) (s := Rows.OpenSpec.upto Rows.leastSumsSpec) (k := Rows.uptoSmall) rfl own started (by kernel_rfl) Try.func19
  (OpenSpec.witness (enc := enc) (C := Try.checked) (s := Rows.OpenSpec.upto Rows.leastSumsSpec) (k := Rows.uptoSmall) rfl false ⟨#[], #[.agg #[.int .u8 0, .int .i64 0, .int .i64 0, .int .i64 0, .int .i64 0, .int .i64 0, .slice none 0 0], .int .u8 0], []⟩ 8 (by kernel_rfl) (by kernel_rfl) (by kernel_rfl)
   (x := ([.agg [.lit (.int .u8 0), .agg [.lit (.int .i64 0), .lit (.int .i64 0), .lit (.int .i64 0), .lit (.int .i64 0)], .lit (.int .i64 0), .nil], .lit (.int .u8 0)], [], [])) (by kernel_rfl) rfl (by kernel_rfl)) ?_
 intro W base args ds gs before hval0 hW hcnd hk0 _
 have hval : ∀ (j : Nat) t v, Try.f19.params[j]? = some t → args[j]? = some v → Value.okWide Try.prog W .any base t v := hval0
 have hW' := hW
 obtain ⟨p, q, hA0, hV, rfl, hfz, hnd⟩ := hW
 have hA : DataW.TrodAll enc Try.prog W 0 (fun _ => true) true Try.f19.params.toList args.toList ds p := hA0
 rw [Try.params19] at hA hval
 obtain ⟨v0, vs0, d0, ds0, p0, q0, hargs, rfl, rfl, h0, r0⟩ := trodAll_cons hA
 obtain ⟨v1, vs1, d1, ds1, p1, q1, rfl, rfl, rfl, h1, r1⟩ := trodAll_cons r0
 obtain ⟨rfl, rfl, rfl⟩ := trodAll_nil r1
 obtain rfl : args = #[v0, v1] := by cases args; simp_all
 obtain ⟨rfl, rfl⟩ := trodVars_none hV
 have hB := of_decide_eq_true hk0
 simp only [List.cons_append, List.nil_append, List.append_nil, Rows.uptoBulkAll] at hB
 have z0 : Rows.uptoBulk d0 ≤ 1048576 := by omega
 have k0 := h0
 have lt0 : ∀ x ∈ p0, x.block < W.heap.size := by obtain ⟨m, hm⟩ := k0; exact DataW.trod_lt m _ _ _ hm
 obtain ⟨fuel0, hf0⟩ := h0
 obtain ⟨cs0, rfl, _⟩ := okWide_struct Try.underlying26 (hval 0 26 v0 rfl rfl)
 obtain ⟨a0, b0, w0, y0⟩ := read26z hf0
 obtain ⟨A0, c0, e0, hc0, hr0⟩ := k26_open b0
 obtain rfl := agg_of e0
 obtain ⟨a1, rfl, rfl, rfl, w1⟩ := open_int Try.underlying5 (hval 1 5 v1 rfl rfl) h1
 obtain ⟨k, hP⟩ := Pure.LeastSums a0 a1 w0 (Nat.le_trans y0 z0) (u8_of w1)
 refine (sashlaw08_LeastSums.calls k a0.f0 a0.f1.f0 a0.f1.f1 a0.f1.f2 a0.f1.f3 a0.f2 _ _ a0.f3 a1 true W hr0 hc0 hP).mono fun e W' ⟨he, bel0⟩ => ?_
 have bel : Below W.heap.size W W' := bel0
 subst he
 exact ⟨_, rfl, _, _, _, [], _, [], hW', trodAll_mk1 (shut_bool Try.underlying4 _), (trodAll_cons_mk (Below.trod laidOut (by kernel_rfl) (of_decide_eq_true (by kernel_rfl)) k0 bel lt0) (trodAll_cons_mk (shut_int Try.underlying5 w1) trodAll_mk0)), rfl, bel.frame _, fun h => by cases h⟩
theorem j0 : (Rows.leastSumsUptoRow.wf (OpenSpec.ofChange (Rows.OpenSpec.upto Rows.leastSumsSpec).bare)) = true := by kernel_rfl
theorem j1 : (laidOutB Try.prog) = true := by kernel_rfl
theorem j2 : (mapsRowed Try.prog) = true := by kernel_rfl
theorem j3 : (Try.f19.params.all (Try.prog.readableRec ·)) = true := by kernel_rfl
theorem j4 : (namedTie Try.prog Rows.leastSumsUptoRow.named (Rows.OpenSpec.upto Rows.leastSumsSpec).bare.vars) = true := by kernel_rfl
theorem j5 : ((Rows.leastSumsUptoRow.stops == [])) = true := by kernel_rfl
theorem j6 : ((Try.prog.stops == [])) = true := by kernel_rfl
theorem j7 : ((Rows.leastSumsUptoRow.knobs == [])) = true := by kernel_rfl
theorem j8 : ((Try.prog.stopKnobs == [])) = true := by kernel_rfl
theorem j9 : ((Rows.leastSumsUptoRow.inPlace == Try.prog.inPlace 19)) = true := by kernel_rfl
theorem j10 : ((Rows.leastSumsUptoRow.unfollowed == Try.prog.unfollowed 19)) = true := by kernel_rfl
theorem j11 : ((Rows.leastSumsUptoRow.recurses == Try.prog.recurses 19)) = true := by kernel_rfl
theorem j12 : ((Rows.leastSumsUptoRow.named == Try.prog.varsNamed 19)) = true := by kernel_rfl
theorem j13 : ((Rows.leastSumsUptoRow.maps == (Try.f19.params.toList ++ (Rows.OpenSpec.upto Rows.leastSumsSpec).bare.plain.varTypes Try.prog).any (Try.prog.mapsRec ·))) = true := by kernel_rfl
theorem j14 : ((Rows.leastSumsUptoRow.ifaces == (Try.f19.params.toList ++ (Rows.OpenSpec.upto Rows.leastSumsSpec).bare.plain.varTypes Try.prog).any (Try.prog.ifacesRec ·))) = true := by kernel_rfl
theorem j15 : ((Rows.leastSumsUptoRow.mapsOut == Try.prog.mapsAmong Try.f19.resultTypes.toList)) = true := by kernel_rfl
theorem j16 : ((Rows.leastSumsUptoRow.loops == (Try.f19.params.toList ++ (Rows.OpenSpec.upto Rows.leastSumsSpec).bare.plain.varTypes Try.prog).any (Try.prog.loopsFrom ·))) = true := by kernel_rfl
theorem j17 : ((Rows.leastSumsUptoRow.wideKeys == (Try.f19.params.toList ++ (Rows.OpenSpec.upto Rows.leastSumsSpec).bare.plain.varTypes Try.prog ++ Try.f19.resultTypes.toList).any (Try.prog.wideKeysFrom ·))) = true := by kernel_rfl
theorem j18 : ((Rows.OpenSpec.upto Rows.leastSumsSpec).bare.vars.all (Try.prog.varReadable ·)) = true := by kernel_rfl
theorem j19 : (Try.f19.resultTypes.all (fun t => Try.prog.readableRec t && decide (t < Try.prog.types.size))) = true := by kernel_rfl
theorem j20 : ((Rows.leastSumsUptoRow.ifacesOut == Try.f19.resultTypes.toList.any (Try.prog.ifacesRec ·))) = true := by kernel_rfl
theorem j21 : ((Rows.leastSumsUptoRow.loopsOut == Try.f19.resultTypes.toList.any (Try.prog.loopsFrom ·))) = true := by kernel_rfl
theorem j23 : (Rows.leastSumsUptoRow.shortTexts.isNone) = true := by kernel_rfl
theorem j29 : ((Rows.leastSumsUptoRow.pinned == Rows.leastSumsUptoRow.pinnedBy)) = true := by kernel_rfl
theorem j30 : ((Rows.leastSumsUptoRow.veiled == (Try.f19.params.toList ++ (Rows.OpenSpec.upto Rows.leastSumsSpec).bare.plain.varTypes Try.prog ++ Try.f19.resultTypes.toList).any (Try.prog.veiledRec ·))) = true := by kernel_rfl
theorem j31 : (Rows.leastSumsUptoRow.veiledFits Try.prog Try.f19.params.toList (Try.f19.params.toList ++ (Rows.OpenSpec.upto Rows.leastSumsSpec).bare.plain.varTypes Try.prog ++ Try.f19.resultTypes.toList)) = true := by kernel_rfl
theorem closed : joinedFacts Try.prog 19 Try.f19 (Rows.OpenSpec.upto Rows.leastSumsSpec).bare Rows.leastSumsUptoRow = true := P.joined_mk j0 j1 j2 j3 j4 j5 j6 j7 j8 j9 j10 j11 j12 j13 j14 j15 j16 j17 j18 j19 j20 j21 P.head_keys j23 P.head_heard P.head_enter (by rw [P.head_final]; rfl) (by rw [P.head_make]; rfl) rfl rfl j29 j30 j31
theorem over : Rows.leastSumsUptoRow.holds Try.pinned (Rows.OpenSpec.upto Rows.leastSumsSpec) :=
 OpenClaim.holds_of_cond 19 Try.f19 rfl rfl rfl rfl rfl rfl rfl ⟨rfl, rfl, rfl, rfl, rfl⟩ rfl rfl rfl rfl rfl (by kernel_rfl) Try.func19 closed
  (of_decide_eq_true (by kernel_rfl)) (by unfold Func.isWrapper; first | (rw [if_pos (by decide +kernel)]; kernel_rfl) | (rw [if_neg (by decide +kernel)]; exact ⟨rfl, rfl⟩))
  (fun os started H enc _ F => lifted os started H enc F)
theorem proved : Rows.LeastSumsUptoSaid := over
#print axioms proved
end Go.Proofs.Ytfdmfgaiblfbhaa.leastSumsUpto
namespace Go.Proofs.Ytfdmfgaiblfbhaa
/-- The row, under a short name, for the claim. -/
theorem leastSumsUpto_holds : Rows.LeastSumsUptoSaid := leastSumsUpto.proved
end Go.Proofs.Ytfdmfgaiblfbhaa
