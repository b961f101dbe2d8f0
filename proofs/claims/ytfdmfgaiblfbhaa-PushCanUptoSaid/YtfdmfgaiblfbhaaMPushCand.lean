/- PushCan: part 4 of 6 of this claim's texts, one behind the other, made small by a program: the words of the kit's printer cut down to those that are used, the claim's own names made short. -/
import Derived.Test.YtfdmfgaiblfbhaaMPushCanc
import Derived.WalkSpells
set_option maxHeartbeats 8000000
set_option maxRecDepth 100000
set_option linter.unusedVariables false
set_option linter.unusedSimpArgs false
namespace Go.Proofs.Ytfdmfgaiblfbhaa.P
open Go.RowKit Go.Proofs.ag.aK Go.Proofs.ag.bG Go.Proofs.ag.bV
theorem wp {x : Int} (h0 : -9223372036854775808 ≤ x) (h1 : x ≤ 9223372036854775807) : wrap64 x = x := by unfold wrap64; omega
def jE (m : Int) : Int → List (Int × Int) → Int × List (Int × Int)
 | b, [] => (b, [])
 | b, p :: ps => if p.1 + p.2 > 0 then (if b > 0 then ((jE m (b - mn m b) ps).1, (p.1, p.2 - mn m b) :: (jE m (b - mn m b) ps).2) else ((jE m b ps).1, p :: (jE m b ps).2)) else ((jE m b ps).1, p :: (jE m b ps).2)
def able : List (Int × Int) → Int
 | [] => 0
 | p :: ps => (if p.1 + p.2 > 0 then 1 else 0) + able ps
def lst : Int → List (Int × Int) → Int
 | m, [] => m
 | m, p :: ps => lst (if p.1 + p.2 > 0 then mn m (p.1 + p.2) else m) ps
def vS : List (Int × Int) → Int
 | [] => 0
 | p :: ps => (p.1 + p.2) + vS ps
def outs : List (Int × Int) → Int
 | [] => 0
 | p :: ps => p.2 + outs ps
def Good (ps : List (Int × Int)) : Prop := ∀ p, p ∈ ps → 0 ≤ p.1 ∧ p.1 ≤ 2147483647 ∧ -p.1 ≤ p.2 ∧ p.2 ≤ 0
def m_ (m : Int) (ps : List (Int × Int)) : List (Int × Int) := ps.map fun p => (p.1, p.2 - if p.1 + p.2 > 0 then m else 0)
def Em (ps : List (Int × Int)) : Prop := ∀ p, p ∈ ps → ∀ q, q ∈ ps → p.2 > q.2 → p.1 + p.2 = 0
def J7 (ps : List (Int × Int)) : Prop := ∀ p, p ∈ ps → ∀ q, q ∈ ps → p.2 > q.2 + 1 → p.2 = -p.1
theorem Good.tail {p : Int × Int} {ps : List (Int × Int)} (h : Good (p :: ps)) : Good ps := fun q hq => h q (List.mem_cons_of_mem _ hq)
theorem Good.head {p : Int × Int} {ps : List (Int × Int)} (h : Good (p :: ps)) : 0 ≤ p.1 ∧ p.1 ≤ 2147483647 ∧ -p.1 ≤ p.2 ∧ p.2 ≤ 0 := h p List.mem_cons_self
theorem yN (ps : List (Int × Int)) : 0 ≤ able ps ∧ able ps ≤ ps.length := by
 induction ps with
 | nil => simp [able]
 | cons p ps ih => simp only [able, List.length_cons]; split <;> omega
theorem Vs {ps : List (Int × Int)} (hg : Good ps) (h : 0 < vS ps) : 0 < able ps := by
 induction ps with
 | nil => simp [vS] at h
 | cons p ps ih =>
  have hr := yN ps
  simp only [vS] at h
  simp only [able]
  split
  ·omega
  ·rename_i hp
   have := ih hg.tail (by omega)
   omega
theorem Uu (ps : List (Int × Int)) : ∀ m, lst m ps ≤ m := by
 induction ps with
 | nil => intro m; simp [lst]
 | cons p ps ih =>
  intro m
  simp only [lst]
  have h1 := ih (if p.1 + p.2 > 0 then mn m (p.1 + p.2) else m)
  have h2 : (if p.1 + p.2 > 0 then mn m (p.1 + p.2) else m) ≤ m := by
   split
   ·unfold mn; split <;> omega
   ·exact Int.le_refl _
  omega
theorem aav (ps : List (Int × Int)) : ∀ m, ∀ p, p ∈ ps → p.1 + p.2 > 0 → lst m ps ≤ p.1 + p.2 := by
 induction ps with
 | nil => intro m p hp; cases hp
 | cons q ps ih =>
  intro m p hp h
  simp only [lst]
  rcases List.mem_cons.1 hp with rfl | hp
  ·rw [if_pos h]
   have h1 := Uu ps (mn m (p.1 + p.2))
   have h2 : mn m (p.1 + p.2) ≤ p.1 + p.2 := by unfold mn; split <;> omega
   omega
  ·exact ih _ p hp h
theorem aaw (ps : List (Int × Int)) : ∀ m, 0 < m → 0 < lst m ps := by
 induction ps with
 | nil => intro m h; simpa [lst] using h
 | cons q ps ih =>
  intro m h
  simp only [lst]
  apply ih
  unfold mn
  split
  ·split <;> omega
  ·exact h
theorem FH {m : Int} (hm : 0 < m) : ∀ (ps : List (Int × Int)) (b : Int), m * able ps ≤ b → jE m b ps = (b - m * able ps, m_ m ps) := by
 intro ps
 induction ps with
 | nil => intro b _; simp [jE, able, m_]
 | cons p ps ih =>
  intro b hb
  have hr := yN ps
  have hmn : 0 ≤ m * able ps := Int.mul_nonneg (by omega) hr.1
  simp only [able] at hb ⊢
  by_cases hp : p.1 + p.2 > 0
  ·simp only [if_pos hp] at hb ⊢
   rw [Int.mul_add, Int.mul_one] at hb ⊢
   have h1 : mn m b = m := by unfold mn; split <;> omega
   have h2 := ih (b - m) (by omega)
   simp only [jE]
   rw [if_pos hp, if_pos (by omega), h1, h2]
   simp only [m_, List.map_cons, if_pos hp, Prod.mk.injEq, and_true]
   omega
  ·simp only [if_neg hp] at hb ⊢
   rw [Int.zero_add] at hb ⊢
   simp only [jE]
   rw [if_neg hp, ih b hb]
   simp only [m_, List.map_cons, if_neg hp, Int.sub_zero]
theorem VC : ∀ (ps : List (Int × Int)) (b : Int), 0 ≤ b → b ≤ able ps → (jE 1 b ps).1 = 0 := by
 intro ps
 induction ps with
 | nil => intro b h0 h; simp only [able] at h; simp only [jE]; omega
 | cons p ps ih =>
  intro b h0 h
  simp only [able] at h
  simp only [jE]
  by_cases hp : p.1 + p.2 > 0
  ·rw [if_pos hp] at h ⊢
   by_cases hb : b > 0
   ·rw [if_pos hb]
    have h1 : mn 1 b = 1 := by unfold mn; split <;> omega
    rw [h1]
    exact ih (b - 1) (by omega) (by omega)
   ·rw [if_neg hb]
    exact ih b h0 (by have := yN ps; omega)
  ·rw [if_neg hp] at h ⊢
   exact ih b h0 (by omega)
theorem YJ (m : Int) : ∀ (ps : List (Int × Int)) (b : Int), (jE m b ps).2.map Prod.fst = ps.map Prod.fst := by
 intro ps
 induction ps with
 | nil => intro b; simp [jE]
 | cons p ps ih =>
  intro b
  simp only [jE]
  split
  ·split <;> simp [ih]
  ·simp [ih]
theorem Ie : ∀ (ps : List (Int × Int)) (b : Int) (q : Int × Int), q ∈ (jE 1 b ps).2 → ∃ p, p ∈ ps ∧ q.1 = p.1 ∧ (q.2 = p.2 ∨ (p.1 + p.2 > 0 ∧ q.2 = p.2 - 1)) := by
 intro ps
 induction ps with
 | nil => intro b q hq; simp [jE] at hq
 | cons p ps ih =>
  intro b q hq
  simp only [jE] at hq
  have key : ∀ b' , q ∈ (jE 1 b' ps).2 → ∃ PL, PL ∈ p :: ps ∧ q.1 = PL.1 ∧ (q.2 = PL.2 ∨ (PL.1 + PL.2 > 0 ∧ q.2 = PL.2 - 1)) := fun b' h => by
   obtain ⟨p', h1, h2⟩ := ih b' q h
   exact ⟨p', List.mem_cons_of_mem _ h1, h2⟩
  split at hq
  ·rename_i hp
   split at hq
   ·rename_i hb
    simp only [List.mem_cons] at hq
    rcases hq with rfl | hq
    ·refine ⟨p, List.mem_cons_self, rfl, .inr ⟨hp, ?_⟩⟩
     have h1 : mn 1 b = 1 := by unfold mn; split <;> omega
     simp only [h1]
    ·exact key _ hq
   ·simp only [List.mem_cons] at hq
    rcases hq with rfl | hq
    ·exact ⟨_, List.mem_cons_self, rfl, .inl rfl⟩
    ·exact key _ hq
  ·simp only [List.mem_cons] at hq
   rcases hq with rfl | hq
   ·exact ⟨_, List.mem_cons_self, rfl, .inl rfl⟩
   ·exact key _ hq
theorem LY (m : Int) : ∀ (ps : List (Int × Int)) (b : Int), outs (jE m b ps).2 - (jE m b ps).1 = outs ps - b := by
 intro ps
 induction ps with
 | nil => intro b; simp [jE]
 | cons p ps ih =>
  intro b
  simp only [jE]
  split
  ·split
   ·have := ih (b - mn m b); simp only [outs]; omega
   ·have := ih b; simp only [outs]; omega
  ·have := ih b; simp only [outs]; omega
theorem VS (m : Int) (ps : List (Int × Int)) : (m_ m ps).map Prod.fst = ps.map Prod.fst := by simp [m_, List.map_map, Function.comp_def]
theorem SY {m : Int} {ps : List (Int × Int)} (hm : 0 ≤ m) (hg : Good ps) (hl : ∀ p, p ∈ ps → p.1 + p.2 > 0 → m ≤ p.1 + p.2) : Good (m_ m ps) := by
 intro q hq
 obtain ⟨p, hp, rfl⟩ := List.mem_map.1 hq
 have h1 := hg p hp
 have h2 := hl p hp
 simp only
 split <;> omega
theorem Qv (m : Int) (ps : List (Int × Int)) : vS (m_ m ps) = vS ps - m * able ps := by
 induction ps with
 | nil => simp [m_, vS, able]
 | cons p ps ih =>
  have e : m_ m (p :: ps) = (p.1, p.2 - if p.1 + p.2 > 0 then m else 0) :: m_ m ps := rfl
  rw [e]
  simp only [vS, able, ih]
  rw [Int.mul_add]
  split
  ·rw [Int.mul_one]; omega
  ·rw [Int.mul_zero]; omega
theorem SX {m : Int} {ps : List (Int × Int)} (hg : Good ps) (he : Em ps) (hm : 0 ≤ m) : Em (m_ m ps) := by
 intro p' hp' q' hq' h
 obtain ⟨p, hp, rfl⟩ := List.mem_map.1 hp'
 obtain ⟨q, hq, rfl⟩ := List.mem_map.1 hq'
 have h1 := he p hp q hq
 have h2 := hg p hp
 have h3 := hg q hq
 simp only at h ⊢
 by_cases c1 : p.1 + p.2 > 0
 ·rw [if_pos c1] at h ⊢
  by_cases c2 : q.1 + q.2 > 0
  ·rw [if_pos c2] at h; omega
  ·rw [if_neg c2] at h; omega
 ·rw [if_neg c1] at h ⊢
  by_cases c2 : q.1 + q.2 > 0
  ·rw [if_pos c2] at h; omega
  ·rw [if_neg c2] at h; omega
theorem S9 {m : Int} {ps : List (Int × Int)} (hm : 0 < m) (hl : ∀ p, p ∈ ps → p.1 + p.2 > 0 → m + 1 ≤ p.1 + p.2) : m_ (m + 1) ps = m_ m (m_ 1 ps) ∧ able (m_ 1 ps) = able ps := by
 constructor
 ·simp only [m_, List.map_map]
  apply List.map_congr_left
  intro p hp
  have := hl p hp
  simp only [Function.comp_def, Prod.mk.injEq, true_and]
  by_cases h : p.1 + p.2 > 0
  ·rw [if_pos h, if_pos h, if_pos (by omega)]; omega
  ·rw [if_neg h, if_neg h, if_neg (by omega)]; omega
 ·induction ps with
  | nil => rfl
  | cons p ps ih =>
   have e : m_ 1 (p :: ps) = (p.1, p.2 - if p.1 + p.2 > 0 then 1 else 0) :: m_ 1 ps := rfl
   rw [e]
   simp only [able]
   rw [ih fun q hq => hl q (List.mem_cons_of_mem _ hq)]
   have := hl p List.mem_cons_self
   by_cases h : p.1 + p.2 > 0
   ·rw [if_pos h, if_pos (by omega)]
   ·rw [if_neg h, if_neg (by omega)]
theorem VA {ps : List (Int × Int)} {b : Int} (he : Em ps) : J7 (jE 1 b ps).2 := by
 intro p' hp' q' hq' h
 obtain ⟨p, hp, e1, e2⟩ := Ie ps b p' hp'
 obtain ⟨q, hq, e3, e4⟩ := Ie ps b q' hq'
 have h1 := he p hp q hq
 omega
theorem acR {ps : List (Int × Int)} (he : Em ps) : J7 ps := by
 intro p hp q hq h
 have := he p hp q hq
 omega
theorem VB {ps : List (Int × Int)} {b : Int} (hg : Good ps) : Good (jE 1 b ps).2 := by
 intro p' hp'
 obtain ⟨p, hp, e1, e2⟩ := Ie ps b p' hp'
 have := hg p hp
 omega
theorem Ev.Bg {α : Type} {c : Prop} [Decidable c] {g f : Nat → Option α} {r : α} (hc : c) (h : Ev g r) : Ev (fun k => if c then g k else f k) r := by simp only [if_pos hc]; exact h
theorem Ev.Bf {α : Type} {c : Prop} [Decidable c] {g f : Nat → Option α} {r : α} (hc : ¬c) (h : Ev f r) : Ev (fun k => if c then g k else f k) r := by simp only [if_neg hc]; exact h
theorem Ht {α : Type} (f : α → Int) (pre : List α) (p : α) (rest : List α) : rd ((pre ++ p :: rest).map f) (pre.length : Int) = f p := by
 simp [rd, List.getD_eq_getElem?_getD]
theorem I7 (pre : List Int) (p : Int) (rest : List Int) : rd (pre ++ p :: rest) (pre.length : Int) = p := by
 simp [rd, List.getD_eq_getElem?_getD]
theorem aas (b : Int) (q : Int) (r : List Int) (hb0 : 0 < b) (hb1 : b ≤ 2147483647) : ∀ (rest pre : List (Int × Int)) (A L : Int), Good (pre ++ rest) → (pre ++ rest).length ≤ 100000 → 0 ≤ A → A ≤ pre.length →
  A + able rest ≠ 0 → q = mx 1 (mn (lst L rest) (b / (A + able rest))) →
  Ev (fun k => bf.l2 k b ((pre ++ rest).map Prod.fst) ((pre ++ rest).map Prod.snd) q ((pre ++ rest).map Prod.fst) ((pre ++ rest).length : Int) 0) r →
  Ev (fun k => bf.l1 k b ((pre ++ rest).map Prod.fst) ((pre ++ rest).map Prod.snd) A L ((pre ++ rest).map Prod.fst) ((pre ++ rest).length : Int) (pre.length : Int)) r := by
 intro rest
 induction rest with
 | nil =>
  intro pre A L hg hl h0 h1 hne hq h
  refine Ev.step (f := fun k => bf.l2 k b ((pre ++ []).map Prod.fst) ((pre ++ []).map Prod.snd) q ((pre ++ []).map Prod.fst) ((pre ++ []).length : Int) 0) (fun k => ?_) h
  simp only [bf.l1]
  simp only [able, Int.add_zero, lst] at hne hq
  have hdiv : wrap64 (Int.tdiv b A) = b / A := by
   rw [Int.tdiv_eq_ediv_of_nonneg (by omega)]
   have h2 : 0 ≤ b / A := Int.ediv_nonneg (by omega) h0
   have h3 : b / A ≤ b := Int.ediv_le_self _ (by omega)
   exact wp (by omega) (by omega)
  rw [if_neg (by simp), if_neg hne, hdiv, ← hq]
  simp
 | cons p rest ih =>
  intro pre A L hg hl h0 h1 hne hq h
  have hp := hg p (by simp)
  have hlen : ((pre ++ p :: rest).length : Int) = pre.length + (rest.length + 1) := by simp
  have hl' : (pre.length : Int) + (rest.length + 1) ≤ 100000 := by omega
  have hw : wrap64 ((pre.length : Int) + 1) = ((pre ++ [p]).length : Int) := by rw [wp (by omega) (by omega)]; simp
  have e : pre ++ p :: rest = (pre ++ [p]) ++ rest := by simp
  have hsum : wrap64 (p.1 + p.2) = p.1 + p.2 := wp (by omega) (by omega)
  refine Ev.step (f := fun k => bf.l1 k b (((pre ++ [p]) ++ rest).map Prod.fst) (((pre ++ [p]) ++ rest).map Prod.snd) (A + if p.1 + p.2 > 0 then 1 else 0) (if p.1 + p.2 > 0 then mn L (p.1 + p.2) else L) (((pre ++ [p]) ++ rest).map Prod.fst) (((pre ++ [p]) ++ rest).length : Int) ((pre ++ [p]).length : Int)) (fun k => ?_) (ih (pre ++ [p]) _ _ (by rw [← e]; exact hg) (by rw [← e]; exact hl) (by split <;> omega) (by simp; split <;> omega) (by simp only [able] at hne; omega) (by simp only [able, lst] at hq; rw [hq, Int.add_assoc]) (by rw [← e]; exact h))
  simp only [bf.l1]
  rw [Ht, Ht, hsum, if_pos (by omega), if_pos (by omega), if_pos (by simp; omega), if_pos (by simp; omega), hw, ← e]
  by_cases hc : p.1 + p.2 > 0
  ·rw [if_pos hc, if_pos hc, if_pos hc, wp (by omega) (by omega)]
  ·rw [if_neg hc, if_neg hc, if_neg hc, Int.add_zero]
theorem aat (m : Int) (r : List Int) (hm : 0 < m) : ∀ (rest pre : List (Int × Int)) (b : Int), 0 ≤ b → b ≤ 2147483647 → Good (pre ++ rest) → (∀ p, p ∈ rest → p.1 + p.2 > 0 → m ≤ p.1 + p.2) → (pre ++ rest).length ≤ 100000 →
  Ev (fun k => bf.l0 k (jE m b rest).1 ((pre ++ rest).map Prod.fst) ((pre ++ (jE m b rest).2).map Prod.snd)) r →
  Ev (fun k => bf.l2 k b ((pre ++ rest).map Prod.fst) ((pre ++ rest).map Prod.snd) m ((pre ++ rest).map Prod.fst) ((pre ++ rest).length : Int) (pre.length : Int)) r := by
 intro rest
 induction rest with
 | nil =>
  intro pre b h0 h1 hg hl hlen h
  simp only [jE] at h
  refine Ev.step (fun k => ?_) h
  simp only [bf.l2]
  rw [if_neg (by simp)]
 | cons p rest ih =>
  intro pre b h0 h1 hg hl hlen h
  have hp := hg p (by simp)
  have hlen' : ((pre ++ p :: rest).length : Int) = pre.length + (rest.length + 1) := by simp
  have hl' : (pre.length : Int) + (rest.length + 1) ≤ 100000 := by omega
  have hw : wrap64 ((pre.length : Int) + 1) = (pre.length : Int) + 1 := wp (by omega) (by omega)
  have hsum : wrap64 (p.1 + p.2) = p.1 + p.2 := wp (by omega) (by omega)
  have hmp := hl p (by simp)
  have hmn : 0 ≤ mn m b ∧ mn m b ≤ m ∧ mn m b ≤ b := by unfold mn; split <;> omega
  have step : ∀ (b' : Int) (p' : Int × Int), p'.1 = p.1 → -p'.1 ≤ p'.2 → p'.2 ≤ 0 → 0 ≤ b' → b' ≤ 2147483647 → jE m b (p :: rest) = ((jE m b' rest).1, p' :: (jE m b' rest).2) →
    Ev (fun k => bf.l2 k b' ((pre ++ p :: rest).map Prod.fst) ((pre ++ p' :: rest).map Prod.snd) m ((pre ++ p :: rest).map Prod.fst) ((pre ++ p :: rest).length : Int) ((pre.length : Int) + 1)) r := by
   intro b' p' e1 e2 e3 e4 e5 eb
   have f1 : (pre ++ p :: rest).map Prod.fst = ((pre ++ [p']) ++ rest).map Prod.fst := by simp [e1]
   have f2 : (pre ++ p' :: rest).map Prod.snd = ((pre ++ [p']) ++ rest).map Prod.snd := by simp
   have f3 : ((pre ++ p :: rest).length : Int) = (((pre ++ [p']) ++ rest).length : Int) := by simp
   have f4 : (pre.length : Int) + 1 = ((pre ++ [p']).length : Int) := by simp
   have hg' : Good ((pre ++ [p']) ++ rest) := by
    intro q hq
    simp only [List.append_assoc, List.mem_append, List.mem_cons, List.not_mem_nil, or_false] at hq
    rcases hq with hq | rfl | hq
    ·exact hg q (by simp [hq])
    ·omega
    ·exact hg q (by simp [hq])
   rw [f1, f2, f3, f4]
   refine ih (pre ++ [p']) b' e4 e5 hg' (fun q hq => hl q (by simp [hq])) (by simp; omega) ?_
   rw [eb] at h
   rw [← f1, List.append_assoc]
   exact h
  refine Ev.step (f := fun k => if p.1 + p.2 > 0 then (if b > 0 then bf.l2 k (b - mn m b) ((pre ++ p :: rest).map Prod.fst) ((pre ++ (p.1, p.2 - mn m b) :: rest).map Prod.snd) m ((pre ++ p :: rest).map Prod.fst) ((pre ++ p :: rest).length : Int) ((pre.length : Int) + 1) else bf.l2 k b ((pre ++ p :: rest).map Prod.fst) ((pre ++ p :: rest).map Prod.snd) m ((pre ++ p :: rest).map Prod.fst) ((pre ++ p :: rest).length : Int) ((pre.length : Int) + 1)) else bf.l2 k b ((pre ++ p :: rest).map Prod.fst) ((pre ++ p :: rest).map Prod.snd) m ((pre ++ p :: rest).map Prod.fst) ((pre ++ p :: rest).length : Int) ((pre.length : Int) + 1)) (fun k => ?_) ?_
  ·simp only [bf.l2]
   rw [Ht, Ht, hsum, if_pos (by omega), if_pos (by omega), if_pos (by simp; omega), if_pos (by simp; omega), hw]
   by_cases hc : p.1 + p.2 > 0
   ·rw [if_pos hc, if_pos hc]
    by_cases hb : b > 0
    ·rw [if_pos hb, if_pos hb, wp (by omega) (by omega), wp (by omega) (by omega)]
     congr 1
     simp
    ·rw [if_neg hb, if_neg hb]
   ·rw [if_neg hc, if_neg hc]
  ·by_cases hc : p.1 + p.2 > 0
   ·by_cases hb : b > 0
    ·refine Ev.Bg hc (Ev.Bg hb (step (b - mn m b) (p.1, p.2 - mn m b) rfl (by simp only; omega) (by simp only; omega) (by omega) (by omega) ?_))
     simp only [jE]
     rw [if_pos hc, if_pos hb]
    ·refine Ev.Bg hc (Ev.Bf hb (step b p rfl (by omega) (by omega) h0 h1 ?_))
     simp only [jE]
     rw [if_pos hc, if_neg hb]
   ·refine Ev.Bf hc (step b p rfl (by omega) (by omega) h0 h1 ?_)
    simp only [jE]
    rw [if_neg hc]
theorem YK (ps : List (Int × Int)) : ∀ b : Int, 0 ≤ b → xR (-b) ps = (-(jE 1 b ps).1, (jE 1 b ps).2) := by
 induction ps with
 | nil => intro b _; simp [xR, jE]
 | cons p ps ih =>
  intro b hb
  simp only [xR, jE]
  by_cases hp : p.1 + p.2 > 0
  ·rw [if_pos hp]
   by_cases h : b > 0
   ·rw [if_pos h]
    have h1 : mn 1 b = 1 := by unfold mn; split <;> omega
    have e : yQ (-b) p = (-(b - 1), (p.1, p.2 - 1)) := by
     unfold yQ
     rw [if_neg (by omega), if_pos ⟨by omega, hp⟩]
     congr 1
     omega
    rw [e, h1]
    simp only
    rw [ih (b - 1) (by omega)]
   ·rw [if_neg h]
    have e : yQ (-b) p = (-b, p) := by
     unfold yQ
     rw [if_neg (by omega), if_neg (by omega)]
    rw [e]
    simp only
    rw [ih b hb]
  ·rw [if_neg hp]
   have e : yQ (-b) p = (-b, p) := by
    unfold yQ
    rw [if_neg (by omega), if_neg (by omega)]
   rw [e]
   simp only
   rw [ih b hb]
theorem D8 {b : Int} {ps : List (Int × Int)} {r : List Int × Bool} (hb : 0 < b) (hne : (jE 1 b ps).1 ≠ b) (h : Ev (fun k => wH k (-(jE 1 b ps).1) (jE 1 b ps).2) r) : Ev (fun k => wH k (-b) ps) r := by
 refine Ev.step (fun k => ?_) h
 simp only [wH]
 rw [if_neg (by omega), YK ps b (by omega)]
 simp only
 rw [if_neg (by omega)]
theorem Rf {r : List Int × Bool} : ∀ (m : Nat) (b : Int) (ps : List (Int × Int)), 0 < able ps → ((m : Int) + 1) * able ps ≤ b → (∀ p, p ∈ ps → p.1 + p.2 > 0 → (m : Int) + 1 ≤ p.1 + p.2) →
  Ev (fun k => wH k (-(b - ((m : Int) + 1) * able ps)) (m_ ((m : Int) + 1) ps)) r → Ev (fun k => wH k (-b) ps) r := by
 intro m
 induction m with
 | zero =>
  intro b ps ha hb hl h
  have e := FH (m := 1) (by omega) ps b (by simpa using hb)
  have hb' : able ps ≤ b := by simpa using hb
  refine D8 (by omega) (by rw [e]; simp only; omega) ?_
  rw [e]
  simpa using h
 | succ m ih =>
  intro b ps ha hb hl h
  have hx : 0 ≤ ((m : Int) + 1) * able ps := Int.mul_nonneg (by omega) (by omega)
  have hm : (((m + 1 : Nat) : Int) + 1) * able ps = ((m : Int) + 1) * able ps + able ps := by rw [show (((m + 1 : Nat) : Int) + 1) = ((m : Int) + 1) + 1 by omega, Int.add_mul, Int.one_mul]
  rw [hm] at hb h
  have e := FH (m := 1) (by omega) ps b (by omega)
  obtain ⟨d1, d2⟩ := S9 (m := (m : Int) + 1) (ps := ps) (by omega) (fun p hp hc => by have := hl p hp hc; omega)
  refine D8 (by omega) (by rw [e]; simp only; omega) ?_
  rw [e]
  simp only [Int.one_mul]
  refine ih (b - able ps) (m_ 1 ps) (by omega) (by rw [d2]; omega) ?_ ?_
  ·intro q hq hc
   obtain ⟨p, hp, rfl⟩ := List.mem_map.1 hq
   have := hl p hp
   simp only at hc ⊢
   by_cases hc1 : p.1 + p.2 > 0
   ·rw [if_pos hc1] at hc ⊢
    have := this hc1
    omega
   ·rw [if_neg hc1] at hc
    omega
  ·rw [d2, ← d1]
   refine Ev.congr (fun k => ?_) h
   rw [show (((m + 1 : Nat) : Int) + 1) = ((m : Int) + 1) + 1 by omega]
   congr 2
   omega
theorem Ut : ∀ (n : Nat) (b : Int) (ps : List (Int × Int)), b.toNat = n → 0 ≤ b → b ≤ 2147483647 → Good ps → Em ps → ps.length ≤ 100000 → b ≤ vS ps →
  ∃ qs : List (Int × Int), Ev (fun k => bf.l0 k b (ps.map Prod.fst) (ps.map Prod.snd)) (qs.map Prod.snd) ∧ Ev (fun k => wH k (-b) ps) (qs.map Prod.snd, true) ∧
   qs.map Prod.fst = ps.map Prod.fst ∧ Good qs ∧ J7 qs ∧ outs qs = outs ps - b := by
 intro n
 induction n using Nat.strongRecOn with
 | _ n IH =>
 intro b ps hn h0 h1 hg he hl hav
 by_cases hb : b > 0
 ·have hab := Vs hg (by omega)
  have har := yN ps
  have akx := aaw ps b hb
  have akw := Uu ps b
  have hm1 : 1 ≤ mx 1 (mn (lst b ps) (b / able ps)) := by unfold mx; split <;> omega
  have Yg : ∀ (m : Int), m = mx 1 (mn (lst b ps) (b / able ps)) → (∀ p, p ∈ ps → p.1 + p.2 > 0 → m ≤ p.1 + p.2) → ∀ r, Ev (fun k => bf.l0 k (jE m b ps).1 (ps.map Prod.fst) ((jE m b ps).2.map Prod.snd)) r → Ev (fun k => bf.l0 k b (ps.map Prod.fst) (ps.map Prod.snd)) r := by
   intro m hm hml r h
   refine Ev.step (f := fun k => bf.l1 k b (ps.map Prod.fst) (ps.map Prod.snd) 0 b (ps.map Prod.fst) ((ps.map Prod.fst).length : Int) 0) (fun k => ?_) ?_
   ·simp only [bf.l0]; rw [if_pos hb]
   ·have l2 := aat m r (by omega) ps [] b h0 h1 (by simpa using hg) hml (by simpa using hl) (by simpa using h)
    have l1 := aas b m r hb h1 ps [] 0 b (by simpa using hg) (by simpa using hl) (by omega) (by simp) (by omega) (by rw [Int.zero_add]; exact hm) (by simpa using l2)
    simpa using l1
  by_cases hfull : able ps ≤ b
  ·
   have hq1 : 1 ≤ b / able ps := by rw [Int.le_ediv_iff_mul_le hab]; omega
   have hm : mx 1 (mn (lst b ps) (b / able ps)) = mn (lst b ps) (b / able ps) := by unfold mx mn; split <;> split at * <;> omega
   have ahb : 1 ≤ mn (lst b ps) (b / able ps) := by unfold mn; split <;> omega
   generalize hmm : mn (lst b ps) (b / able ps) = m at hm
   have hm0 : 1 ≤ m := by rw [← hmm]; exact ahb
   have ag' : m ≤ lst b ps := by rw [← hmm]; unfold mn; split <;> omega
   have aha : m ≤ b / able ps := by rw [← hmm]; unfold mn; split <;> omega
   have hall : ∀ p, p ∈ ps → p.1 + p.2 > 0 → m ≤ p.1 + p.2 := fun p hp hc => Int.le_trans ag' (aav ps b p hp hc)
   have hmb : m * able ps ≤ b := (Int.le_ediv_iff_mul_le hab).1 aha
   have hma : able ps ≤ m * able ps := by have := Int.mul_le_mul_of_nonneg_right hm0 (show 0 ≤ able ps by omega); omega
   have acL := FH (m := m) (by omega) ps b hmb
   obtain ⟨qs, q1, q2, q3, q4, q5, q6⟩ := IH (b - m * able ps).toNat (by omega) (b - m * able ps) (m_ m ps) rfl (by omega) (by omega) (SY (by omega) hg hall) (SX hg he (by omega)) (by simpa [m_] using hl) (by rw [Qv]; omega)
   rw [VS] at q1 q3
   have eo : outs (m_ m ps) = outs ps - m * able ps := by
    have := LY m ps b
    rw [acL] at this
    simp only at this
    omega
   refine ⟨qs, Yg m (by rw [hmm, hm]) hall _ (by rw [acL]; exact q1), ?_, q3, q4, q5, by omega⟩
   obtain ⟨m', rfl⟩ : ∃ m' : Nat, m = (m' : Int) + 1 := ⟨(m - 1).toNat, by omega⟩
   exact Rf m' b ps hab hmb hall q2
  ·
   have hq0 : b / able ps = 0 := Int.ediv_eq_zero_of_lt h0 (by omega)
   have hm : mx 1 (mn (lst b ps) (b / able ps)) = 1 := by rw [hq0]; unfold mx mn; split <;> split at * <;> omega
   have hz := VC ps b h0 (by omega)
   have eo := LY 1 ps b
   refine ⟨(jE 1 b ps).2, Yg 1 hm.symm (fun p _ hc => by omega) _ ?_, D8 hb (by omega) ?_, YJ 1 ps b, VB hg, VA he, by omega⟩
   ·rw [hz]
    refine Ev.step (fun k => ?_) (Ev.now _)
    simp only [bf.l0]
    rw [if_neg (by omega)]
   ·rw [hz]
    refine Ev.step (fun k => ?_) (Ev.now _)
    simp only [wH]
    rw [if_pos (by omega)]
 ·obtain rfl : b = 0 := by omega
  refine ⟨ps, ?_, ?_, rfl, hg, acR he, by omega⟩
  ·refine Ev.step (fun k => ?_) (Ev.now _)
   simp only [bf.l0]
   rw [if_neg hb]
  ·refine Ev.step (fun k => ?_) (Ev.now _)
   simp only [wH]
   rw [if_pos (by omega)]
def total : List Int → Int
 | [] => 0
 | g :: gs => g + total gs
theorem OD (gs : List Int) : vS (gs.map fun g => (g, (0 : Int))) = total gs := by
 induction gs with
 | nil => rfl
 | cons g gs ih => simp only [List.map_cons, vS, total, ih]; omega
theorem Ee (gs : List Int) (h : ∀ g, g ∈ gs → 0 ≤ g) : 0 ≤ total gs := by
 induction gs with
 | nil => simp [total]
 | cons g gs ih => have h1 := h g (by simp); have h2 := ih fun x hx => h x (by simp [hx]); simp only [total]; omega
def uq (m : Int) (gs : List Int) : Int := if m + total gs > 2147483647 then 2147483647 else m + total gs
theorem OB (b : Int) (r : List Int × Bool) : ∀ (rest pre : List Int) (s : Int), 0 ≤ s → s ≤ 2147483647 → (pre ++ rest).length ≤ 100000 →
  (∀ g, g ∈ rest → 0 ≤ g ∧ g ≤ 2147483647) →
  Ev (fun k => if ((pre ++ rest).length : Int) = 0 then (bF.j1 k b (pre ++ rest) true) else (if b < wrap64 (-(uq s rest)) then (bF.j1 k b (pre ++ rest) true) else (bF.j1 k b (pre ++ rest) (decide (b > 2147483647))))) r →
  Ev (fun k => bF.l0 k b (pre ++ rest) s (pre ++ rest) ((pre ++ rest).length : Int) (pre.length : Int)) r := by
 intro rest
 induction rest with
 | nil =>
  intro pre s h0 h1 hl hg h
  refine Ev.step (fun k => ?_) h
  simp only [bF.l0]
  rw [if_neg (by simp)]
  have : uq s [] = s := by unfold uq; simp only [total, Int.add_zero]; rw [if_neg (by omega)]
  rw [this]
 | cons g rest ih =>
  intro pre s h0 h1 hl hg h
  have hgg := hg g (by simp)
  have ht := Ee rest fun x hx => (hg x (by simp [hx])).1
  have hlen : ((pre ++ g :: rest).length : Int) = pre.length + (rest.length + 1) := by simp
  have e : pre ++ g :: rest = (pre ++ [g]) ++ rest := by simp
  have hc : uq (mn 2147483647 (s + g)) rest = uq s (g :: rest) := by unfold uq mn; simp only [total]; split <;> split <;> (try split) <;> omega
  refine Ev.step (fun k => ?_) (ih (pre ++ [g]) (mn 2147483647 (s + g)) (by unfold mn; split <;> omega) (by unfold mn; split <;> omega) (by rw [← e]; exact hl) (fun x hx => hg x (by simp [hx])) (by rw [hc, ← e]; exact h))
  simp only [bF.l0]
  rw [I7, if_pos (by omega), if_pos (by omega), if_pos (by omega), if_neg (by omega), if_neg (by omega), wp (x := s + g) (by omega) (by omega), wp (x := (pre.length : Int) + 1) (by omega) (by omega), ← e]
  simp
theorem Ri (b : Int) : ∀ (rest pre : List Int) (s : Int), 0 ≤ s → s ≤ 2147483647 → (pre ++ rest).length ≤ 100000 → ¬ (∀ g, g ∈ rest → 0 ≤ g ∧ g ≤ 2147483647) →
  Ev (fun k => bF.l0 k b (pre ++ rest) s (pre ++ rest) ((pre ++ rest).length : Int) (pre.length : Int)) ([], false) := by
 intro rest
 induction rest with
 | nil => intro pre s _ _ _ h; exact absurd (fun g hg => by cases hg) h
 | cons g rest ih =>
  intro pre s h0 h1 hl hg
  have hlen : ((pre ++ g :: rest).length : Int) = pre.length + (rest.length + 1) := by simp
  by_cases hgg : 0 ≤ g ∧ g ≤ 2147483647
  ·have e : pre ++ g :: rest = (pre ++ [g]) ++ rest := by simp
   refine Ev.step (fun k => ?_) (ih (pre ++ [g]) (mn 2147483647 (s + g)) (by unfold mn; split <;> omega) (by unfold mn; split <;> omega) (by rw [← e]; exact hl) (fun h => hg fun x hx => by
    rcases List.mem_cons.1 hx with rfl | hx
    ·exact hgg
    ·exact h x hx))
   simp only [bF.l0]
   rw [I7, if_pos (by omega), if_pos (by omega), if_pos (by omega), if_neg (by omega), if_neg (by omega), wp (x := s + g) (by omega) (by omega), wp (x := (pre.length : Int) + 1) (by omega) (by omega), ← e]
   simp
  ·refine Ev.step (fun k => ?_) (Ev.now _)
   simp only [bF.l0]
   rw [I7, if_pos (by omega), if_pos (by omega), if_pos (by omega)]
   by_cases h : g < 0
   ·rw [if_pos h]
   ·rw [if_neg h, if_pos (by omega)]
theorem Om (xs ys : List Int) : total (xs ++ ys) = total xs + total ys := by
 induction xs with
 | nil => simp [total]
 | cons x xs ih => simp only [List.cons_append, total, ih]; omega
theorem Rq (a : Int) (n : Int) (_h0 : 0 ≤ a % n) : ∀ m : Nat, total ((List.range m).map fun i => qN a n (i : Nat)) = m * (a / n) + (if (m : Int) ≤ a % n then (m : Int) else a % n) := by
 intro m
 induction m with
 | zero => simp [total]; omega
 | succ m ih =>
  rw [List.range_succ, List.map_append, Om, ih]
  simp only [List.map_cons, List.map_nil, total, qN]
  rw [show ((m + 1 : Nat) : Int) = (m : Int) + 1 by omega, Int.add_mul, Int.one_mul]
  split <;> split <;> split <;> omega
theorem OE (a : Int) (n : Nat) (h0 : 0 ≤ a) (hn : 0 < n) : total (moreL a n) = a := by
 have h1 := Int.emod_nonneg a (show (n : Int) ≠ 0 by omega)
 have h2 := Int.emod_lt_of_pos a (show (0 : Int) < n by omega)
 have h := Rq a n h1 n
 unfold moreL
 rw [h, if_neg (by omega)]
 have := Int.mul_ediv_add_emod a n
 omega
theorem Rx {gs : List Int} (h : ∀ g, g ∈ gs → 0 ≤ g ∧ g ≤ 2147483647) : Good (gs.map fun g => (g, (0 : Int))) := by
 intro p hp
 obtain ⟨g, hg, rfl⟩ := List.mem_map.1 hp
 have := h g hg
 simp only
 omega
theorem Rw (gs : List Int) : Em (gs.map fun g => (g, (0 : Int))) := by
 intro p hp q hq h
 obtain ⟨g, hg, rfl⟩ := List.mem_map.1 hp
 obtain ⟨g', hg', rfl⟩ := List.mem_map.1 hq
 simp at h
theorem Ry (gs : List Int) : outs (gs.map fun g => (g, (0 : Int))) = 0 := by
 induction gs with
 | nil => rfl
 | cons g gs ih => simp only [List.map_cons, outs, ih]; rfl
theorem QV (ps : List (Int × Int)) : outs ps = total (ps.map Prod.snd) := by
 induction ps with
 | nil => rfl
 | cons p ps ih => simp only [List.map_cons, outs, total, ih]
def Ll (b : Int) (gs : List Int) (r : List Int × Bool) : Prop :=
 (r = ([], false) ∧ (gs = [] ∨ (¬ ∀ g, g ∈ gs → 0 ≤ g ∧ g ≤ 2147483647) ∨ ((∀ g, g ∈ gs → 0 ≤ g ∧ g ≤ 2147483647) ∧ b < -total gs))) ∨
 (r = (moreL b gs.length, true) ∧ gs ≠ [] ∧ (∀ g, g ∈ gs → 0 ≤ g ∧ g ≤ 2147483647) ∧ 0 ≤ b) ∨
 (∃ qs : List (Int × Int), r = (qs.map Prod.snd, true) ∧ (∀ g, g ∈ gs → 0 ≤ g ∧ g ≤ 2147483647) ∧ b < 0 ∧ qs.map Prod.fst = gs ∧ Good qs ∧ J7 qs ∧ outs qs = b ∧ Ev (fun k => wH k b (gs.map fun g => (g, 0))) (qs.map Prod.snd, true))
theorem U1 (b : Int) (gs : List Int) (hl : gs.length ≤ 100000) (h0 : -2147483647 ≤ b) (h1 : b ≤ 2147483647) : ∃ r, Ll b gs r ∧ Ev (fun k => bF.f k b gs) r := by
 by_cases hg : ∀ g, g ∈ gs → 0 ≤ g ∧ g ≤ 2147483647
 ·have ht := Ee gs fun g h => (hg g h).1
  have look := fun r => OB b r gs [] 0 (by omega) (by omega) (by simpa using hl) hg
  have hcap : uq 0 gs = if total gs > 2147483647 then 2147483647 else total gs := by unfold uq; rw [Int.zero_add]
  have hw : wrap64 (-(uq 0 gs)) = -(uq 0 gs) := by rw [hcap]; apply wp <;> split <;> omega
  simp only [List.nil_append, List.length_nil] at look
  have j1t : Ev (fun k => bF.j1 k b gs true) ([], false) := by
   refine Ev.step (fun k => ?_) (Ev.now _)
   simp only [bF.j1]
   rw [if_pos trivial]
  by_cases hne : gs = []
  ·refine ⟨_, .inl ⟨rfl, .inl hne⟩, ?_⟩
   refine look _ ?_
   refine Ev.Bg (by simp [hne]) j1t
  ·have hpos : 0 < gs.length := List.length_pos_iff.2 hne
   by_cases hb : b < -total gs
   ·refine ⟨_, .inl ⟨rfl, .inr (.inr ⟨hg, hb⟩)⟩, look _ (Ev.Bf (by omega) (Ev.Bg ?_ j1t))⟩
    rw [hw, hcap]
    split <;> omega
   ·have hdec : decide (b > 2147483647) = false := by simp; omega
    have go : ∀ r, Ev (fun k => bF.j1 k b gs false) r → Ev (fun k => bF.f k b gs) r := fun r h => by
     refine look _ (Ev.Bf (by omega) (Ev.Bf ?_ ?_))
     ·rw [hw, hcap]; split <;> omega
     ·rw [hdec]; exact h
    by_cases hb0 : 0 ≤ b
    ·refine ⟨_, .inr (.inl ⟨rfl, hne, hg, hb0⟩), go _ (Ev.step (fun k => ?_) (Ev.now _))⟩
     simp only [bF.j1]
     rw [if_neg (by simp), if_pos (by omega)]
     unfold o_.f
     rw [if_pos ⟨hb0, by omega, by omega, by omega⟩]
     simp
    ·obtain ⟨qs, q1, q2, q3, q4, q5, q6⟩ := Ut (-b).toNat (-b) (gs.map fun g => (g, 0)) rfl (by omega) (by omega) (Rx hg) (Rw gs) (by simpa using hl) (by rw [OD]; omega)
     have e1 : (gs.map fun g => (g, (0 : Int))).map Prod.fst = gs := by simp [List.map_map, Function.comp_def]
     have e2 : (gs.map fun g => (g, (0 : Int))).map Prod.snd = List.replicate gs.length 0 := by simp [List.map_map, Function.comp_def, List.map_const']
     rw [e1] at q1 q3
     rw [e2] at q1
     rw [Ry] at q6
     rw [Int.neg_neg] at q2
     refine ⟨_, .inr (.inr ⟨qs, rfl, hg, by omega, q3, q4, q5, by omega, q2⟩), go _ (Ev.step (f := fun k => (bf.f k (-b) gs).bind fun t => some (t, true)) (fun k => ?_) (Ev.bind (a := qs.map Prod.snd) ?_ (Ev.now _)))⟩
     ·simp only [bF.j1]
      rw [if_neg (by simp), if_neg (by omega), wp (by omega) (by omega)]
     ·refine Ev.congr (fun k => ?_) q1
      unfold bf.f
      rw [if_pos (by omega), if_pos (by omega)]
      simp
 ·refine ⟨_, .inl ⟨rfl, .inr (.inl hg)⟩, ?_⟩
  have := Ri b gs [] 0 (by omega) (by omega) (by simpa using hl) hg
  simp only [List.nil_append, List.length_nil] at this
  exact this
section
variable {Pr : Program} {ops : Array Oper} {rest : List Oper} {op : Oper} {a : Act} {Q : Exit → Act → World → Prop} {w W : World} {P : Nat → Prop} {bs : List (Option Nat × Obj)} {ow : List (Value × List ai)} {ts : List (Value × List ai)} {ro : List (Addr × Value)}
theorem ig (N : Tmp) (_ : op.dst = some N) (h : wpList Pr ops Q (op :: rest) a W) : wpList Pr ops Q (op :: rest) a W := h
theorem aj' (t : TypeId) (p x : Operand) (_ : op.op = .store t p x) (h : wpList Pr ops Q (op :: rest) a W) : wpList Pr ops Q (op :: rest) a W := h
theorem boxS (N : Tmp) (cs : Array Value) (t : TypeId) (S : ae (St w P bs ow ts ro W))
  (h : ∀ g w1, ae (St w P ((some g, .cells cs t (0, 0)) :: bs) ow ts ro w1) → wpList Pr ops Q rest (a.put op.dst (.pointer (some ⟨g, 0, none⟩))) w1) (hd : op.dst = some N := by rfl) (hgd : op.guard = none := by rfl)
  (hr : (execOp a.eval op).run Pr W = .ok (.value (.pointer (some ⟨W.heap.size, 0, none⟩))) (W.alloc (.cells cs t (0, 0))) := by first | (go_simp; done) | (go_simp; rfl)) : wpList Pr ops Q (op :: rest) a W :=
 acj hd hgd cs t S.out hr (fun g w1 S1 => h g w1 ⟨S1⟩)
theorem Q5 (i : Nat) {g : Nat} {cs : Array Value} {t0 : TypeId} (hi : bs[i]? = some (some g, .cells cs t0 (0, 0))) (t : TypeId) (p x : Tmp) (cs' : Array Value) (j n : Nat) (S : ae (St w P bs ow ts ro W)) (h : ∀ w1, ae (St w P (bs.set i (some g, .cells cs' t0 (0, 0))) ow ts ro w1) → wpList Pr ops Q rest a w1)
  (ho : op.op = .store t (.tmp p) (.tmp x)) (ku : a.eval (.tmp p) = .pointer (some ⟨g, j, none⟩)) (hu : (a.eval (.tmp x)).cells.toList = (cs'.toList.drop j).take n) (ht : (Pr.info? t).map (·.size) = some n)
  (hn : ((cs'.toList.drop j).take n).length = n) (h1 : ((cs'.toList.drop j).take n).all Value.oneCell' = true) (hj : j + n ≤ cs.size) (he : cs.toList.take j ++ (cs'.toList.drop j).take n ++ cs.toList.drop (j + n) = cs'.toList) (hN : op.dst = none) (hgd : op.guard = none) : wpList Pr ops Q (op :: rest) a W :=
 aee i hi t (.tmp p) (.tmp x) ho cs' S.out ku rfl hu (by rw [hn]; exact ht) (fun q hq => List.all_eq_true.1 h1 q hq) (by rw [hn]; exact hj) (by rw [hn]; exact he) hN hgd (fun w1 S1 => h w1 ⟨S1⟩)
variable {g : Nat} {cs : Array Value} {t0 : TypeId} {b0 b1 b2 b3 b4 : Option Nat × Obj}
theorem gX (t : TypeId) (p x : Tmp) (cs' : Array Value) (j n : Nat) (S : ae (St w P ((some g, .cells cs t0 (0, 0)) :: bs) ow ts ro W)) (h : ∀ w1, ae (St w P ((some g, .cells cs' t0 (0, 0)) :: bs) ow ts ro w1) → wpList Pr ops Q rest a w1)
  (ho : op.op = .store t (.tmp p) (.tmp x) := by rfl) (ku : a.eval (.tmp p) = .pointer (some ⟨g, j, none⟩) := by rfl) (hu : (a.eval (.tmp x)).cells.toList = (cs'.toList.drop j).take n := by rfl) (ht : (Pr.info? t).map (·.size) = some n := by kernel_rfl)
  (hn : ((cs'.toList.drop j).take n).length = n := by rfl) (h1 : ((cs'.toList.drop j).take n).all Value.oneCell' = true := by rfl) (hj : j + n ≤ cs.size := by first | decide | simp) (he : cs.toList.take j ++ (cs'.toList.drop j).take n ++ cs.toList.drop (j + n) = cs'.toList := by rfl) (hN : op.dst = none := by rfl) (hgd : op.guard = none := by rfl) : wpList Pr ops Q (op :: rest) a W :=
 Q5 0 rfl t p x cs' j n S h ho ku hu ht hn h1 hj he hN hgd
theorem Aw (t : TypeId) (p x : Tmp) (cs' : Array Value) (j n : Nat) (S : ae (St w P (b0 :: (some g, .cells cs t0 (0, 0)) :: bs) ow ts ro W)) (h : ∀ w1, ae (St w P (b0 :: (some g, .cells cs' t0 (0, 0)) :: bs) ow ts ro w1) → wpList Pr ops Q rest a w1)
  (ho : op.op = .store t (.tmp p) (.tmp x) := by rfl) (ku : a.eval (.tmp p) = .pointer (some ⟨g, j, none⟩) := by rfl) (hu : (a.eval (.tmp x)).cells.toList = (cs'.toList.drop j).take n := by rfl) (ht : (Pr.info? t).map (·.size) = some n := by kernel_rfl)
  (hn : ((cs'.toList.drop j).take n).length = n := by rfl) (h1 : ((cs'.toList.drop j).take n).all Value.oneCell' = true := by rfl) (hj : j + n ≤ cs.size := by first | decide | simp) (he : cs.toList.take j ++ (cs'.toList.drop j).take n ++ cs.toList.drop (j + n) = cs'.toList := by rfl) (hN : op.dst = none := by rfl) (hgd : op.guard = none := by rfl) : wpList Pr ops Q (op :: rest) a W :=
 Q5 1 rfl t p x cs' j n S h ho ku hu ht hn h1 hj he hN hgd
theorem Q4 (t : TypeId) (p x : Tmp) (cs' : Array Value) (j n : Nat) (S : ae (St w P (b0 :: b1 :: (some g, .cells cs t0 (0, 0)) :: bs) ow ts ro W)) (h : ∀ w1, ae (St w P (b0 :: b1 :: (some g, .cells cs' t0 (0, 0)) :: bs) ow ts ro w1) → wpList Pr ops Q rest a w1)
  (ho : op.op = .store t (.tmp p) (.tmp x) := by rfl) (ku : a.eval (.tmp p) = .pointer (some ⟨g, j, none⟩) := by rfl) (hu : (a.eval (.tmp x)).cells.toList = (cs'.toList.drop j).take n := by rfl) (ht : (Pr.info? t).map (·.size) = some n := by kernel_rfl)
  (hn : ((cs'.toList.drop j).take n).length = n := by rfl) (h1 : ((cs'.toList.drop j).take n).all Value.oneCell' = true := by rfl) (hj : j + n ≤ cs.size := by first | decide | simp) (he : cs.toList.take j ++ (cs'.toList.drop j).take n ++ cs.toList.drop (j + n) = cs'.toList := by rfl) (hN : op.dst = none := by rfl) (hgd : op.guard = none := by rfl) : wpList Pr ops Q (op :: rest) a W :=
 Q5 2 rfl t p x cs' j n S h ho ku hu ht hn h1 hj he hN hgd
theorem Xa (t : TypeId) (p x : Tmp) (cs' : Array Value) (j n : Nat) (S : ae (St w P (b0 :: b1 :: b2 :: (some g, .cells cs t0 (0, 0)) :: bs) ow ts ro W)) (h : ∀ w1, ae (St w P (b0 :: b1 :: b2 :: (some g, .cells cs' t0 (0, 0)) :: bs) ow ts ro w1) → wpList Pr ops Q rest a w1)
  (ho : op.op = .store t (.tmp p) (.tmp x) := by rfl) (ku : a.eval (.tmp p) = .pointer (some ⟨g, j, none⟩) := by rfl) (hu : (a.eval (.tmp x)).cells.toList = (cs'.toList.drop j).take n := by rfl) (ht : (Pr.info? t).map (·.size) = some n := by kernel_rfl)
  (hn : ((cs'.toList.drop j).take n).length = n := by rfl) (h1 : ((cs'.toList.drop j).take n).all Value.oneCell' = true := by rfl) (hj : j + n ≤ cs.size := by first | decide | simp) (he : cs.toList.take j ++ (cs'.toList.drop j).take n ++ cs.toList.drop (j + n) = cs'.toList := by rfl) (hN : op.dst = none := by rfl) (hgd : op.guard = none := by rfl) : wpList Pr ops Q (op :: rest) a W :=
 Q5 3 rfl t p x cs' j n S h ho ku hu ht hn h1 hj he hN hgd
theorem iF (N : Option Tmp) {f : FuncId} {fn : Func} (hf : Pr.funcs[f]? = some fn) {ar : Array Operand} {Eh : Array TypeId} {args : Array Value} {post : Ending → World → Prop} (hc : Calls Pr f args W post)
  (h : ∀ e w1, post e w1 → ∃ v, e = .returned v ∧ wpList Pr ops Q rest (a.put N v) w1) (hd : op.dst = N := by rfl) (hg : op.guard = none := by rfl) (hop : op.op = .call { callee := .value (.func f), args := ar, argTypes := Eh } := by rfl)
  (hname : (fn.name == "runtime.NumGoroutine") = false := by kernel_rfl) (hb : fn.body.isSome = true := by rfl) (hargs : ar.map a.eval = args := by ((try simp only [List.map_toArray, List.map_cons, List.map_nil]); first | done | rfl)) : wpList Pr ops Q (op :: rest) a W :=
 mM N hd hg hf hname hb args hop hargs (hc.mono h)
theorem bH (N : Option Tmp) {f : FuncId} {fn : Func} (hf : Pr.funcs[f]? = some fn) {ar : Array Operand} {Eh : Array TypeId} {args : Array Value} {v : Value} (S : ae (St w P bs ow ts ro W)) (hc : Calls Pr f args W fun e w' => e = .returned v ∧ Below W.heap.size W w')
  (h : ∀ w1, ae (St w P bs ow ts ro w1) → wpList Pr ops Q rest (a.put N v) w1) (hd : op.dst = N := by rfl) (hg : op.guard = none := by rfl) (hop : op.op = .call { callee := .value (.func f), args := ar, argTypes := Eh } := by rfl)
  (hname : (fn.name == "runtime.NumGoroutine") = false := by kernel_rfl) (hb : fn.body.isSome = true := by rfl) (hargs : ar.map a.eval = args := by ((try simp only [List.map_toArray, List.map_cons, List.map_nil]); first | done | rfl)) : wpList Pr ops Q (op :: rest) a W :=
 mM N hd hg hf hname hb args hop hargs (hc.mono fun e w1 ⟨he, hb⟩ => ⟨v, he, h w1 ⟨S.out.call hb⟩⟩)
theorem Ez (N : Option Tmp) {f : FuncId} {fn : Func} (hf : Pr.funcs[f]? = some fn) {ar : Array Operand} {Eh : Array TypeId} {args : Array Value} {l : List ai} {F : Option Addr → Nat → Value} (S : ae (St w P bs ow ts ro W))
  (hc : Calls Pr f args W fun e w' => ∃ A c, e = .returned (F A c) ∧ Kd.N k26 26 w' W.heap.size (fun k => Ok w P (keys bs ow) k ∨ W.heap.size ≤ k) (.slice A l.length c) l ∧ Below W.heap.size W w')
  (h : ∀ A c w1, ae (St w P bs ow ((.slice A l.length c, l) :: ts) ro w1) → wpList Pr ops Q rest (a.put N (F A c)) w1) (hd : op.dst = N := by rfl) (hg : op.guard = none := by rfl) (hop : op.op = .call { callee := .value (.func f), args := ar, argTypes := Eh } := by rfl)
  (hname : (fn.name == "runtime.NumGoroutine") = false := by kernel_rfl) (hb : fn.body.isSome = true := by rfl) (hargs : ar.map a.eval = args := by ((try simp only [List.map_toArray, List.map_cons, List.map_nil]); first | done | rfl)) : wpList Pr ops Q (op :: rest) a W :=
 mM N hd hg hf hname hb args hop hargs (hc.mono fun e w1 ⟨A, c, he, h1, hb⟩ => ⟨_, he, h A c w1 ⟨S.out.res (Kd.qL (base' := 0) h1) hb⟩⟩)
theorem afs (N : Option Tmp) {f : FuncId} {fn : Func} (hf : Pr.funcs[f]? = some fn) {ar : Array Operand} {Eh : Array TypeId} {args : Array Value} {l : List ai} {F : Option Addr → Nat → Value} (S : ae (St w P bs ow ts ro W))
  (hc : Calls Pr f args W fun e w' => ∃ A c, e = .returned (F A c) ∧ Kd.V k26 26 w' W.heap.size (fun k => Ok w P (keys bs ow) k ∨ W.heap.size ≤ k) (.slice A l.length c) l ∧ Below W.heap.size W w')
  (h : ∀ A c w1, ae (St w P bs ow ((.slice A l.length c, l) :: ts) ro w1) → wpList Pr ops Q rest (a.put N (F A c)) w1) (hd : op.dst = N := by rfl) (hg : op.guard = none := by rfl) (hop : op.op = .call { callee := .value (.func f), args := ar, argTypes := Eh } := by rfl)
  (hname : (fn.name == "runtime.NumGoroutine") = false := by kernel_rfl) (hb : fn.body.isSome = true := by rfl) (hargs : ar.map a.eval = args := by ((try simp only [List.map_toArray, List.map_cons, List.map_nil]); first | done | rfl)) : wpList Pr ops Q (op :: rest) a W :=
 mM N hd hg hf hname hb args hop hargs (hc.mono fun e w1 ⟨A, c, he, h1, hb⟩ => ⟨_, he, h A c w1 ⟨S.out.res h1 hb⟩⟩)
theorem QC (N : Option Tmp) {f : FuncId} {fn : Func} (hf : Pr.funcs[f]? = some fn) {ar : Array Operand} {Eh : Array TypeId} {args : Array Value} {l : List ai} {F : Option Addr → Nat → Value} (S : ae (St w P bs [] ts ro W))
  (hc : Calls Pr f args W fun e w' => ∃ A c, e = .returned (F A c) ∧ Kd.N k26 26 w' W.heap.size (fun k => Ok w P (keys bs []) k ∨ W.heap.size ≤ k) (.slice A l.length c) l ∧ Below W.heap.size W w')
  (h : ∀ A c w1, ae (St w P bs [(.slice A l.length c, l)] ts ro w1) → wpList Pr ops Q rest (a.put N (F A c)) w1) (hd : op.dst = N := by rfl) (hg : op.guard = none := by rfl) (hop : op.op = .call { callee := .value (.func f), args := ar, argTypes := Eh } := by rfl)
  (hname : (fn.name == "runtime.NumGoroutine") = false := by kernel_rfl) (hb : fn.body.isSome = true := by rfl) (hargs : ar.map a.eval = args := by ((try simp only [List.map_toArray, List.map_cons, List.map_nil]); first | done | rfl)) : wpList Pr ops Q (op :: rest) a W :=
 mM N hd hg hf hname hb args hop hargs (hc.mono fun e w1 ⟨A, c, he, h1, hb⟩ => ⟨_, he, h A c w1 ⟨S.out.yC h1 hb⟩⟩)
end
section
variable {w W : World} {P : Nat → Prop} {bs : List (Option Nat × Obj)} {ow : List (Value × List ai)} {ts : List (Value × List ai)} {ro : List (Addr × Value)} {g : Nat} {t : TypeId} {v0 v1 v2 v3 v4 v5 v6 : Value} {a0 a1 a2 a3 a4 a5 a6 : Addr}
theorem St.ed (S : ae (St w P bs ow ts ro W)) (hm : (some g, .cells #[v0, v1, v2, v3, v4, v5, v6] t (0, 0)) ∈ bs) :
  W.cell? ⟨g, 0, none⟩ = some v0 ∧ W.cell? ⟨g, 1, none⟩ = some v1 ∧ W.cell? ⟨g, 2, none⟩ = some v2 ∧ W.cell? ⟨g, 3, none⟩ = some v3 ∧ W.cell? ⟨g, 4, none⟩ = some v4 ∧ W.cell? ⟨g, 5, none⟩ = some v5 ∧ W.cell? ⟨g, 6, none⟩ = some v6 :=
 ⟨S.out.at hm 0, S.out.at hm 1, S.out.at hm 2, S.out.at hm 3, S.out.at hm 4, S.out.at hm 5, S.out.at hm 6⟩
theorem St.at4 (S : ae (St w P bs ow ts ro W)) (hm : (some g, .cells #[v0, v1, v2, v3] t (0, 0)) ∈ bs) :
  W.cell? ⟨g, 0, none⟩ = some v0 ∧ W.cell? ⟨g, 1, none⟩ = some v1 ∧ W.cell? ⟨g, 2, none⟩ = some v2 ∧ W.cell? ⟨g, 3, none⟩ = some v3 :=
 ⟨S.out.at hm 0, S.out.at hm 1, S.out.at hm 2, S.out.at hm 3⟩
theorem St.CJ (S : ae (St w P bs ow ts ((a0, v0) :: (a1, v1) :: (a2, v2) :: (a3, v3) :: (a4, v4) :: (a5, v5) :: (a6, v6) :: ro) W)) :
  W.cell? a0 = some v0 ∧ W.cell? a1 = some v1 ∧ W.cell? a2 = some v2 ∧ W.cell? a3 = some v3 ∧ W.cell? a4 = some v4 ∧ W.cell? a5 = some v5 ∧ W.cell? a6 = some v6 :=
 ⟨(S.out.cell _ (.head _)).1, (S.out.cell _ bI).1, (S.out.cell _ dQ).1, (S.out.cell _ kW).1, (S.out.cell _ qj).1, (S.out.cell _ Bh).1, (S.out.cell _ Bi).1⟩
end
section
variable {Pr : Program} {md : Region.Mode} {ops : Array Oper} {Q : Exit → Act → World → Prop} {S : World → Prop} {ds : List Nat}
theorem d_ (N : Tmp) {fuel : Nat} {l : Array Bool} {b a' : Act} {v : Value} {w : World} (h : bQ Pr md ops Q S ds fuel l a' w) (ha : Act.put b (some N) v = a' := by simp only [Act.put, List.setIfInBounds_toArray, List.set_cons_zero, List.set_cons_succ, jM, jL]; rfl) : bQ Pr md ops Q S ds fuel l (Act.put b (some N) v) w := l_ ha h
end
theorem zW {Pr : Program} {ops : Array Oper} {Q : Exit → Act → World → Prop} {oi : Oper} {N : Option Tmp} {a : Act} {w : World} {K : Act → World → Prop} {f : FuncId} {fn : Func} {ar : Array Operand} {ts : Array TypeId} (hf : Pr.funcs[f]? = some fn) (args : Array Value) (h : Calls Pr f args w fun e w' => ∃ v, e = .returned v ∧ K (a.put N v) w')
  (hname : (fn.name == "runtime.NumGoroutine") = false := by kernel_rfl) (hb : fn.body.isSome = true := by rfl) (hw : Region.wanted oi (yielded ops a.tmps) = true := by rfl) (hN : oi.dst = N := by rfl) (hop : oi.op = .call { callee := .value (.func f), args := ar, argTypes := ts } := by rfl) (hargs : ar.map a.eval = args := by ((try simp only [List.map_toArray, List.map_cons, List.map_nil]); first | done | rfl)) : if Region.wanted oi (yielded ops a.tmps) = true then Oper.wp Pr oi a w K Q else K (a.put N undef) w :=
 jD hf hname hb args hw hN hop hargs h
theorem jH {Pr : Program} {ops : Array Oper} {md : Region.Mode} {Q : Exit → Act → World → Prop} {S : World → Prop} {ds : List Nat} {T : Bool × List (List Nat × List Nat)} {fuel : Nat} {l : Array Bool} {a : Act} {w : World} {oi : Oper} (i : Nat) (N : Option Tmp) (l' : Array Bool) (HT : ae (g_ md ops = T)) (h : ∀ K : Act → World → Prop, Shut (∀ a' w', S w' → (S w' → bQ Pr md ops Q S ds fuel l' a' w') → K a' w') → if Region.wanted oi (yielded ops a.tmps) = true then Oper.wp Pr oi a w K Q else K (a.put N undef) w)
  (hi : ops[i]? = some oi := by rfl) (hN : oi.dst = N := by rfl) (hc : (xQ T.2 l.toList == [i] && l.toList.set i true == l'.toList) = true := by kernel_rfl) (hd : i ∉ ds := by decide) : bQ Pr md ops Q S ds (fuel + 1) l a w :=
 NV l' hi hN (xO HT.out hc) hd h
theorem oP {Pr : Program} {ops : Array Oper} {md : Region.Mode} {Q : Exit → Act → World → Prop} {S : World → Prop} {ds : List Nat} {T : Bool × List (List Nat × List Nat)} {fuel : Nat} {l : Array Bool} {a : Act} {w : World} {oi : Oper} (i : Nat) (N : Option Tmp) (l' : Array Bool) (HT : ae (g_ md ops = T)) (h : ∀ K : Act → World → Prop, Shut (∀ a' w', bQ Pr md ops Q S ds fuel l' a' w' → K a' w') → if Region.wanted oi (yielded ops a.tmps) = true then Oper.wp Pr oi a w K Q else K (a.put N undef) w)
  (hi : ops[i]? = some oi := by rfl) (hN : oi.dst = N := by rfl) (hc : (xQ T.2 l.toList == [i] && l.toList.set i true == l'.toList) = true := by kernel_rfl) (hd : i ∈ ds := by decide) : bQ Pr md ops Q S ds (fuel + 1) l a w :=
 QR l' hi hN (xO HT.out hc) hd h
section
variable {α : Type} {d : Kd α} {e : TypeId} {w : World} {P : Nat → Prop} {bs bs' : List (Option Nat × Obj)} {ow : List (Value × List ai)} {ts : List (Value × List ai)} {ro : List (Addr × Value)} {W W1 : World} {b0 : Nat} {o o1 : Obj} {v v1 : Value} {xs : List α} {ok : Nat → Prop}
def KR (d : Kd α) (e : TypeId) (base : Nat) (v : Value) (xs : List α) (o : Obj) : Prop := ∀ W : World, (∀ g, v.ownBlock = some g → W.heap[g]? = some o) → d.R e W base (fun k => some k = v.ownBlock) v xs
theorem J_ {b' : Nat} (hE : d.E = []) (h : d.R e W1 b0 ok v xs) (hb : b' ≤ b0) : ∃ o, (∀ g, v.ownBlock = some g → W1.heap[g]? = some o) ∧ KR d e b' v xs o := by
 have ht := Kd.pU (Kd.Eo hE h) hb
 cases hv : v.ownBlock with
 | none => exact ⟨.cells #[] 0 (0, 0), fun g hg => (by cases hg), fun W hW => Kd.y7 ht (fun k hk => (by rw [hv] at hk; cases hk))⟩
 | some g =>
  obtain ⟨cells, hc⟩ := Kd.Ia h g hv
  refine ⟨_, fun g' hg => (by injection hg with hg; rw [← hg]; exact hc), fun W hW => Kd.y7 ht (fun k hk _ => ?_)⟩
  rw [hv] at hk
  injection hk with hk
  rw [hk, hc]
  exact hW g hv
theorem St.F8 (hE : d.E = []) (S : St w P bs ow ts ro W) (h : d.R e W1 W.heap.size ok v xs) (hb : Below W.heap.size W W1) : ∃ o, St w P ((v.ownBlock, o) :: bs) ow ts ro W1 ∧ KR d e w.heap.size v xs o := by
 obtain ⟨o, h1, h2⟩ := J_ hE h S.below.size
 exact ⟨o, S.Qo v.ownBlock (fun g hg => ⟨Kd.Lj h g hg, h1 g hg⟩) hb, h2⟩
theorem KZ (d : Kd α) (e : TypeId) (base : Nat) : KR d e base (.slice none 0 0) [] (.cells #[] 0 (0, 0)) := fun _ _ => Kd.uM _ _ _ _ _
theorem St.noK (S : St w P bs ow ts ro W) : St w P (((Value.slice none 0 0).ownBlock, .cells #[] 0 (0, 0)) :: bs) ow ts ro W := S.Qo none (fun _ h => by cases h) (Below.refl _ _)
theorem KY {base : Nat} (HI : KR d e base v xs o) (S : St w P bs ow ts ro W) (hm : (v.ownBlock, o) ∈ bs) : d.R e W base (fun k => some k = v.ownBlock) v xs := HI W (S.blk _ hm)
theorem Vo {base : Nat} {A : Option Addr} {c : Nat} (HI : KR d e base (.slice A xs.length c) xs o) (S : St w P bs ow ts ro W) (hm : ((Value.slice A xs.length c).ownBlock, o) ∈ bs) : d.C W A xs.length xs ∧ xs.length ≤ c :=
 have h := Kd.dO (KY HI S hm)
 ⟨h.2.2, h.2.1⟩
theorem St.perm (hp : bs.Perm bs') (S : St w P bs ow ts ro W) : St w P bs' ow ts ro W := by
 have hk : (keys bs ow).Perm (keys bs' ow) := (hp.filterMap _).append_right _
 have hm : ∀ k, k ∈ keys bs' ow ↔ k ∈ keys bs ow := fun k => hk.symm.mem_iff
 have hO : ∀ k, Ok w P (keys bs ow) k → Ok w P (keys bs' ow) k := fun k h => ⟨h.1, fun h2 => h.2 ((hm k).1 h2)⟩
 exact ⟨S.below, fun x hx => S.blk x (hp.symm.mem_iff.1 hx), fun k hk => S.new k ((hm k).1 hk), hk.nodup_iff.1 S.nd, fun t ht => Kd.gu (S.tree t ht) hO, fun r hr => Kd.iH (S.own r hr) (fun k h => h.imp (hO k) id), fun c hc => ⟨(S.cell c hc).1, fun h => (S.cell c hc).2 ((hm _).1 h)⟩⟩
variable {x b1 b2 b3 b4 b5 b6 : Option Nat × Obj}
theorem St.t_ (S : St w P (b1 :: x :: bs) ow ts ro W) : St w P (x :: b1 :: bs) ow ts ro W := S.perm (List.perm_middle (l₁ := [b1]))
theorem St.vk (S : St w P (b1 :: b2 :: x :: bs) ow ts ro W) : St w P (x :: b1 :: b2 :: bs) ow ts ro W := S.perm (List.perm_middle (l₁ := [b1, b2]))
theorem St.rC (S : St w P (b1 :: b2 :: b3 :: x :: bs) ow ts ro W) : St w P (x :: b1 :: b2 :: b3 :: bs) ow ts ro W := S.perm (List.perm_middle (l₁ := [b1, b2, b3]))
end
section
variable {α : Type} {d : Kd α} {e : TypeId} {Pr : Program} {ops : Array Oper} {rest : List Oper} {op : Oper} {a : Act} {Q : Exit → Act → World → Prop} {Kc : Act → World → Prop} {w W : World} {P : Nat → Prop} {bs : List (Option Nat × Obj)} {ow : List (Value × List ai)} {ts : List (Value × List ai)} {ro : List (Addr × Value)} {v : Value} {xs : List α} {o : Obj}
theorem lU (d : Kd α) (e : TypeId) (hE : d.E = []) (N : Tmp) (S : ae (St w P bs ow ts ro W)) (h : ∀ A c o w1, ae (St w P (((Value.slice A 0 c).ownBlock, o) :: bs) ow ts ro w1) → ae (KR d e w.heap.size (.slice A 0 c) [] o) → wpList Pr ops Q rest (a.put op.dst (.slice A 0 c)) w1)
  (hd : op.dst = some N := by rfl) (hgd : op.guard = none := by rfl) (hrun : (execOp a.eval op).run Pr W = .ok (.value (.slice (some ⟨W.heap.size, 0, none⟩) 0 0)) (W.alloc (.cells #[] e)) := by first | (go_simp; done) | (go_simp; rfl)) : wpList Pr ops Q (op :: rest) a W :=
 Kd.vO d (w0 := W) W.heap.size e hgd hd (xs := ([] : List α)) (inner := []) (ok := fun _ => True) (fD := fun _ => True) hrun (bW.none _ _) (fun _ hk => hk) trivial (Below.refl _ _) (Nat.le_refl _) (by simp) (fun v1 w1 hR hb hg _ => by
  obtain ⟨A, c, rfl⟩ := Kd.gJ hR
  obtain ⟨o, S1, HI⟩ := S.out.F8 hE hR (wC hg)
  exact h A c o w1 ⟨S1⟩ ⟨HI⟩)
theorem u_ (d : Kd α) (e : TypeId) (hE : d.E = []) (s x : Tmp) (t : TypeId) (z : Value) (bytes : Nat) (ht : Pr.underlying t = some (.slice e)) (hinfo : (Pr.info? e).map (fun i => (i.zero, i.size, i.bytes)) = some (some z, d.sz, bytes)) (hz : z.cells.size = d.sz) (hs0 : 0 < d.sz) (hb0 : 0 < bytes) (hbb : bytes ≤ 1000)
  (S : ae (St w P ((v.ownBlock, o) :: bs) ow ts ro W)) (hI : ae (KR d e w.heap.size v xs o)) (y : α) (cs : List Value) (hM : ∀ W b ok, d.M W b ok y cs) (hl : xs.length ≤ 10000000)
  (h : ∀ A1 c1 o1 w1, ae (St w P (((Value.slice A1 (xs ++ [y]).length c1).ownBlock, o1) :: bs) ow ts ro w1) → ae (KR d e w.heap.size (.slice A1 (xs ++ [y]).length c1) (xs ++ [y]) o1) → wpList Pr ops Q rest (a.put op.dst (.slice A1 (xs ++ [y]).length c1)) w1)
  (hgd : op.guard = none := by rfl) (ho : op.op = .call { callee := .builtin .append, args := #[.tmp s, .tmp x], argTypes := #[t, t] } := by rfl) (hs : a.eval (.tmp s) = v := by rfl) (hx : a.eval (.tmp x) = .slice (some ⟨W.heap.size, 0, none⟩) 1 1 := by first | rfl | (go_simp; rfl)) :
  wpList Pr ops Q (op :: rest) a (W.alloc (.cells cs.toArray e)) := by
 have hR := hI.out W (S.out.blk _ List.mem_cons_self)
 refine Kd.FB d (w0 := w) w.heap.size hgd (.tmp s) (.tmp x) t e z bytes ho ht hinfo hz hs0 hb0 v xs y cs (fun _ => True) (fun _ => False) hs hx (hM _ _ _) (fun _ hk => hk.elim) (fun _ _ => trivial) (Kd.vP hR (fun _ _ => trivial)) S.out.below S.out.below.size
  (Nat.le_trans (Nat.mul_le_mul (show xs.length + 1 ≤ 10000001 by omega) hbb) (by decide)) ?_
 intro v1 w1 hr hb hg hat
 obtain ⟨A1, c1, rfl⟩ := Kd.gJ hr
 obtain ⟨o1, h1, h2⟩ := J_ hE hr (Nat.le_refl _)
 exact h A1 c1 o1 w1 ⟨S.out.EG hb hg hat h1⟩ ⟨h2⟩
theorem LV (d : Kd α) (e : TypeId) (hE : d.E = []) (s x : Tmp) (t : TypeId) (z : Value) (bytes : Nat) (ht : Pr.underlying t = some (.slice e)) (hinfo : (Pr.info? e).map (fun i => (i.zero, i.size, i.bytes)) = some (some z, d.sz, bytes)) (hz : z.cells.size = d.sz) (hs0 : 0 < d.sz) (hb0 : 0 < bytes) (hbb : bytes ≤ 1000)
  (S : ae (St w P ((v.ownBlock, o) :: bs) ow ts ro W)) (hI : ae (KR d e w.heap.size v xs o)) (y : α) (cs : List Value) (hM : ∀ W b ok, d.M W b ok y cs) (hl : xs.length ≤ 10000000)
  (h : ∀ A1 c1 o1 w1, ae (St w P (((Value.slice A1 (xs ++ [y]).length c1).ownBlock, o1) :: bs) ow ts ro w1) → ae (KR d e w.heap.size (.slice A1 (xs ++ [y]).length c1) (xs ++ [y]) o1) → Kc (a.put op.dst (.slice A1 (xs ++ [y]).length c1)) w1)
  (hw : Region.wanted op (yielded ops a.tmps) = true := by rfl) (ho : op.op = .call { callee := .builtin .append, args := #[.tmp s, .tmp x], argTypes := #[t, t] } := by rfl) (hs : a.eval (.tmp s) = v := by rfl) (hx : a.eval (.tmp x) = .slice (some ⟨W.heap.size, 0, none⟩) 1 1 := by first | rfl | (go_simp; rfl)) :
  if Region.wanted op (yielded ops a.tmps) = true then Oper.wp Pr op a (W.alloc (.cells cs.toArray e)) Kc Q else Kc (a.put op.dst undef) (W.alloc (.cells cs.toArray e)) := by
 have hR := hI.out W (S.out.blk _ List.mem_cons_self)
 refine Kd.JX d (w0 := w) w.heap.size hw (.tmp s) (.tmp x) t e z bytes ho ht hinfo hz hs0 hb0 v xs y cs (fun _ => True) (fun _ => False) hs hx (hM _ _ _) (fun _ hk => hk.elim) (fun _ _ => trivial) (Kd.vP hR (fun _ _ => trivial)) S.out.below S.out.below.size
  (Nat.le_trans (Nat.mul_le_mul (show xs.length + 1 ≤ 10000001 by omega) hbb) (by decide)) ?_
 intro v1 w1 hr hb hg hat
 obtain ⟨A1, c1, rfl⟩ := Kd.gJ hr
 obtain ⟨o1, h1, h2⟩ := J_ hE hr (Nat.le_refl _)
 exact h A1 c1 o1 w1 ⟨S.out.EG hb hg hat h1⟩ ⟨h2⟩
theorem LW (d : Kd α) (e : TypeId) (hE : d.E = []) (s x : Tmp) (t : TypeId) (z : Value) (bytes : Nat) (ht : Pr.underlying t = some (.slice e)) (hinfo : (Pr.info? e).map (fun i => (i.zero, i.size, i.bytes)) = some (some z, d.sz, bytes)) (hz : z.cells.size = d.sz) (hs0 : 0 < d.sz) (hb0 : 0 < bytes) (hbb : bytes ≤ 1000)
  (S : ae (St w P ((v.ownBlock, o) :: bs) ow ts ro W)) (hI : ae (KR d e w.heap.size v xs o)) {A : Option Addr} {c : Nat} (ys : List α) (hC : d.C W A ys.length ys) (hK : ∀ W b ok y cs, d.K W y cs → d.M W b ok y cs) (hl : xs.length + ys.length ≤ 1000000000)
  (h : ∀ A1 c1 o1 w1, ae (St w P (((Value.slice A1 (xs ++ ys).length c1).ownBlock, o1) :: bs) ow ts ro w1) → ae (KR d e w.heap.size (.slice A1 (xs ++ ys).length c1) (xs ++ ys) o1) → wpList Pr ops Q rest (a.put op.dst (.slice A1 (xs ++ ys).length c1)) w1)
  (hgd : op.guard = none := by rfl) (ho : op.op = .call { callee := .builtin .append, args := #[.tmp s, .tmp x], argTypes := #[t, t] } := by rfl) (hs : a.eval (.tmp s) = v := by rfl) (hx : a.eval (.tmp x) = .slice A ys.length c := by rfl) :
  wpList Pr ops Q (op :: rest) a W := by
 have hR := hI.out W (S.out.blk _ List.mem_cons_self)
 refine Kd.yj d (Rr := d.K W) (w0 := w) w.heap.size hgd (.tmp s) (.tmp x) t e z bytes ho ht hinfo hz hs0 hb0 v xs ys A ys.length c (fun _ => True) (fun _ => False) hs hx (Kd.vP hR (fun _ _ => trivial)) hC (fun y cs h => hK _ _ _ y cs h) (fun _ hk => hk.elim) (fun _ _ => trivial) S.out.below S.out.below.size
  (Nat.le_trans (Nat.mul_le_mul hl hbb) (by decide)) ?_
 intro v1 w1 hr hb hg hat
 obtain ⟨A1, c1, rfl⟩ := Kd.gJ hr
 obtain ⟨o1, h1, h2⟩ := J_ hE hr (Nat.le_refl _)
 exact h A1 c1 o1 w1 ⟨S.out.EG hb hg hat h1⟩ ⟨h2⟩
end
section
variable {w W W1 : World} {P : Nat → Prop} {bs : List (Option Nat × Obj)} {ow : List (Value × List ai)} {ts : List (Value × List ai)} {ro : List (Addr × Value)}
theorem St.ae8 (new : List (Option Nat × Obj)) (S : St w P bs ow ts ro W) (hk : ∀ p, p ∈ new → ∀ g, p.1 = some g → W.heap.size ≤ g ∧ W1.heap[g]? = some p.2) (hnd : (new.filterMap (·.1)).Nodup) (hb : Below W.heap.size W W1) : St w P (new ++ bs) ow ts ro W1 := by
 have ke : keys (new ++ bs) ow = new.filterMap (·.1) ++ keys bs ow := by unfold keys; rw [List.filterMap_append, List.append_assoc]
 have hn : ∀ k, k ∈ new.filterMap (·.1) → W.heap.size ≤ k ∧ k < W1.heap.size := fun k h => by
  obtain ⟨p, hp, he⟩ := List.mem_filterMap.1 h
  exact ⟨(hk p hp k he).1, fA (hk p hp k he).2⟩
 have hnot : ∀ k, k < W.heap.size → k ∉ keys bs ow → k ∉ keys (new ++ bs) ow := fun k h1 h2 h3 => by
  rw [ke] at h3
  rcases List.mem_append.1 h3 with h | h
  ·have := (hn k h).1; omega
  ·exact h2 h
 refine ⟨ak S.below hb, fun p hp g hg => ?_, fun k h => ?_, ?_, fun t ht => ?_, fun r hr => ?_, fun c hc => ?_⟩
 ·rcases List.mem_append.1 hp with h | h
  ·exact (hk p h g hg).2
  ·exact aJ (S.blk p h g hg) hb
 ·rw [ke] at h
  rcases List.mem_append.1 h with h | h
  ·exact ⟨Nat.le_trans S.below.size (hn k h).1, (hn k h).2⟩
  ·exact ⟨(S.new k h).1, Nat.lt_of_lt_of_le (S.new k h).2 hb.size⟩
 ·rw [ke]
  refine List.nodup_append.2 ⟨hnd, S.nd, fun x hx y hy => ?_⟩
  rintro rfl
  have := (hn x hx).1
  have := S.lt hy
  omega
 ·exact Kd.gu (Kd.ja (Kd.Ep (S.tree t ht)) hb) (fun k h => ⟨h.1.1, hnot k h.2 h.1.2⟩)
 ·exact Kd.iH (Kd.pO (Kd.AV (S.own r hr)) hb) (fun k h => h.1.imp (fun h1 => ⟨h1.1, hnot k h.2 h1.2⟩) id)
 ·exact ⟨(hb.cell (World.block_lt_of_cell? W _ (S.cell c hc).1)).trans (S.cell c hc).1, hnot _ (World.block_lt_of_cell? W _ (S.cell c hc).1) (S.cell c hc).2⟩
structure Two {α β : Type} (d : Kd α) (e : TypeId) (d' : Kd β) (e' : TypeId) (w w' : World) (v : Value) (l : List α) (v' : Value) (l' : List β) (o o' : Obj) : Prop where
 one : KR d e w.heap.size v l o
 two : KR d' e' w.heap.size v' l' o'
 at1 : ∀ g, v.ownBlock = some g → w.heap.size ≤ g ∧ w'.heap[g]? = some o
 at2 : ∀ g, v'.ownBlock = some g → w.heap.size ≤ g ∧ w'.heap[g]? = some o'
 ne : ∀ g, v.ownBlock = some g → v'.ownBlock ≠ some g
theorem BB {α : Type} {d : Kd α} {e : TypeId} {b b' : Nat} {v : Value} {l : List α} {o : Obj} (h : KR d e b v l o) (hb : b' ≤ b) : KR d e b' v l o := fun W hW => Kd.pU (h W hW) hb
theorem St.two {α β : Type} {d : Kd α} {e : TypeId} {d' : Kd β} {e' : TypeId} {v v' : Value} {l : List α} {l' : List β} {o o' : Obj} (S : St w P bs ow ts ro W) (h : Two d e d' e' W W1 v l v' l' o o') (hb : Below W.heap.size W W1) :
  St w P ((v.ownBlock, o) :: (v'.ownBlock, o') :: bs) ow ts ro W1 ∧ KR d e w.heap.size v l o ∧ KR d' e' w.heap.size v' l' o' := by
 refine ⟨S.ae8 [(v.ownBlock, o), (v'.ownBlock, o')] (fun p hp g hg => ?_) ?_ hb, BB h.one S.below.size, BB h.two S.below.size⟩
 ·simp only [List.mem_cons, List.not_mem_nil, or_false] at hp
  rcases hp with rfl | rfl
  ·exact h.at1 g hg
  ·exact h.at2 g hg
 ·cases h1 : v.ownBlock with
  | none => cases h2 : v'.ownBlock <;> simp
  | some g =>
   have hn := h.ne g h1
   cases h2 : v'.ownBlock with
   | none => simp
   | some g' =>
    rw [h2] at hn
    simp
    intro he
    exact hn (by rw [he])
theorem St.UI {α β : Type} {d : Kd α} {e : TypeId} {d' : Kd β} {e' : TypeId} {v v' : Value} {l : List α} {l' : List β} {o o' : Obj} (S : St w P ((v.ownBlock, o) :: (v'.ownBlock, o') :: bs) ow ts ro W) (h1 : KR d e w.heap.size v l o) (h2 : KR d' e' w.heap.size v' l' o') : Two d e d' e' w W v l v' l' o o' := by
 refine ⟨h1, h2, fun g hg => ⟨(S.new g (mem_keys (List.mem_cons_self) hg)).1, S.blk _ List.mem_cons_self g hg⟩, fun g hg => ⟨(S.new g (mem_keys (List.mem_cons_of_mem _ List.mem_cons_self) hg)).1, S.blk _ (List.mem_cons_of_mem _ List.mem_cons_self) g hg⟩, fun g hg hg2 => ?_⟩
 have hnd := S.nd
 unfold keys at hnd
 rw [List.filterMap_cons, List.filterMap_cons, hg, hg2] at hnd
 exact (List.nodup_cons.1 hnd).1 (by simp)
theorem St.FY {α : Type} {d : Kd α} {e : TypeId} {v : Value} {l : List α} {o : Obj} (S : St w P bs ow ts ro W) (h : KR d e w.heap.size v l o) (hm : (v.ownBlock, o) ∈ bs) : d.R e W w.heap.size (fun _ => True) v l := Kd.vP (KY h S hm) (fun _ _ => trivial)
end
def tX (ax X Y : Int) : Int := if ax = 2 then Y else X
def yw (ax X Y W H : Int) : Int → List Int → List dD
 | _, [] => []
 | off, n :: ns => (⟨tX ax (tX ax X Y + off) (tX ax Y X), tX ax (tX ax Y X) (tX ax X Y + off), tX ax n (tX ax H W), tX ax (tX ax H W) n⟩ : dD) :: yw ax X Y W H (off + n + 1) ns
theorem MK (ax X Y W H : Int) : ∀ (ns : List Int) (off : Int), (yw ax X Y W H off ns).length = ns.length := by
 intro ns
 induction ns with
 | nil => intro off; rfl
 | cons n ns ih => intro off; simp [yw, ih]
def nP (ax s t e n : Int) : dD := ⟨tX ax s t, tX ax t s, tX ax n e, tX ax e n⟩
def nM (ax s t d e : Int) : Int → Bool → List dD → List dD → List Int → List dD × List dD × Bool
 | off, _, ps, ls, [] => if off = d then (ps, ls, true) else ([], [], false)
 | off, fst, ps, ls, n :: ns => if n < 1 ∨ d < (if fst then off else off + 1) + n then ([], [], false) else
  nM ax s t d e ((if fst then off else off + 1) + n) false (ps ++ [nP ax (s + (if fst then off else off + 1)) t e n]) (if fst then ls else ls ++ [nP ax (s + off) t e 1]) ns
def qA (X Y W H ax : Int) (sizes : List Int) : List dD × List dD × Bool :=
 if (ax = 1 ∨ ax = 2) ∧ pz X Y W H = true ∧ sizes ≠ [] then nM ax (tX ax X Y) (tX ax Y X) (tX ax W H) (tX ax H W) 0 true [] [] sizes else ([], [], false)
theorem VR (ax s t d e : Int) : ∀ (ns : List Int) (off : Int) (f : Bool) (ps ls : List dD), (nM ax s t d e off f ps ls ns).1.length ≤ ps.length + ns.length ∧ (nM ax s t d e off f ps ls ns).2.1.length ≤ ls.length + ns.length := by
 intro ns
 induction ns with
 | nil => intro off f ps ls; unfold nM; split <;> simp
 | cons n ns ih =>
  intro off f ps ls
  unfold nM
  have hl : (if f then ls else ls ++ [nP ax (s + off) t e 1]).length ≤ ls.length + 1 := by cases f <;> simp
  generalize (if f then ls else ls ++ [nP ax (s + off) t e 1]) = ls' at hl ⊢
  generalize (if f then off else off + 1) = o
  by_cases hc : n < 1 ∨ d < o + n
  ·rw [if_pos hc]; simp
  ·rw [if_neg hc]
   have h := ih (o + n) false (ps ++ [nP ax (s + o) t e n]) ls'
   rw [List.length_append, List.length_singleton] at h
   rw [List.length_cons]
   omega
theorem SS (ax X Y W H : Int) : ∀ (ns : List Int) (off : Int) (f : Bool) (ps ls : List dD), (nM ax (tX ax X Y) (tX ax Y X) (tX ax W H) (tX ax H W) off f ps ls ns).2.2 = true →
  (nM ax (tX ax X Y) (tX ax Y X) (tX ax W H) (tX ax H W) off f ps ls ns).1 = ps ++ yw ax X Y W H (if f then off else off + 1) ns ∧ off + ns.sum + (ns.length : Int) - (if f ∧ ns ≠ [] then 1 else 0) = tX ax W H ∧ ∀ m, m ∈ ns → 1 ≤ m := by
 intro ns
 induction ns with
 | nil =>
  intro off f ps ls h
  unfold nM at h ⊢
  split at h
  ·rename_i ho
   rw [if_pos ho]
   exact ⟨by simp [yw], by simp [ho], fun m hm => by cases hm⟩
  ·cases h
 | cons n ns ih =>
  intro off f ps ls h
  unfold nM at h ⊢
  by_cases hn : n < 1 ∨ tX ax W H < (if f then off else off + 1) + n
  ·rw [if_pos hn] at h; cases h
  ·rw [if_neg hn] at h ⊢
   obtain ⟨h1, h2, h3⟩ := ih _ _ _ _ h
   refine ⟨?_, ?_, fun m hm => ?_⟩
   ·rw [h1, List.append_assoc]
    cases f <;> rfl
   ·rw [List.sum_cons, List.length_cons]
    cases f with
    | false => simp only [Bool.false_eq_true, if_false, false_and] at h2 ⊢; omega
    | true => simp only [Bool.false_eq_true, if_false, if_true, false_and] at h2 ⊢; rw [if_pos (by simp)]; omega
   ·rcases List.mem_cons.1 hm with rfl | hm
    ·omega
    ·exact h3 m hm
theorem I8 : ∀ (l : List Int), (∀ m, m ∈ l → 1 ≤ m) → (l.length : Int) ≤ l.sum := by
 intro l
 induction l with
 | nil => intro _; simp
 | cons x xs ih =>
  intro h
  have h1 := h x (by simp)
  have h2 := ih (fun m hm => h m (by simp [hm]))
  rw [List.sum_cons, List.length_cons]
  omega
theorem YN (ax s t d e : Int) : ∀ (ns : List Int) (off : Int) (f : Bool) (ps ls : List dD), off + ns.sum + (ns.length : Int) - (if f ∧ ns ≠ [] then 1 else 0) = d → (∀ m, m ∈ ns → 1 ≤ m) → (nM ax s t d e off f ps ls ns).2.2 = true := by
 intro ns
 induction ns with
 | nil =>
  intro off f ps ls h _
  unfold nM
  simp at h
  rw [if_pos h]
 | cons n ns ih =>
  intro off f ps ls h hp
  have hn := hp n (by simp)
  have hr := I8 ns (fun m hm => hp m (by simp [hm]))
  unfold nM
  rw [List.sum_cons, List.length_cons] at h
  rw [if_neg (by
   cases f with
   | false => simp only [Bool.false_eq_true, if_false, false_and] at h ⊢; omega
   | true => simp only [if_true] at h ⊢; rw [if_pos (by simp)] at h; omega)]
  refine ih _ _ _ _ ?_ (fun m hm => hp m (by simp [hm]))
  cases f with
  | false => simp only [Bool.false_eq_true, if_false, false_and] at h ⊢; omega
  | true => simp only [Bool.false_eq_true, if_false, if_true, false_and] at h ⊢; rw [if_pos (by simp)] at h; omega
theorem VQ (X Y W H ax : Int) (sizes : List Int) : (qA X Y W H ax sizes).1.length ≤ sizes.length ∧ (qA X Y W H ax sizes).2.1.length ≤ sizes.length := by
 unfold qA
 split
 ·have := VR ax (tX ax X Y) (tX ax Y X) (tX ax W H) (tX ax H W) sizes 0 true [] []
  simpa using this
 ·simp
theorem SQ {X Y W H ax : Int} {sizes : List Int} (h : (qA X Y W H ax sizes).2.2 = true) : (ax = 1 ∨ ax = 2) ∧ (qA X Y W H ax sizes).1 = yw ax X Y W H 0 sizes ∧ sizes.sum + (sizes.length : Int) - 1 = tX ax W H ∧ ∀ m, m ∈ sizes → 1 ≤ m := by
 unfold qA at h ⊢
 split at h
 ·rename_i hc
  rw [if_pos hc]
  obtain ⟨h1, h2, h3⟩ := SS ax X Y W H sizes 0 true [] [] h
  rw [if_pos ⟨rfl, hc.2.2⟩] at h2
  exact ⟨hc.1, by simpa using h1, by omega, h3⟩
 ·cases h
theorem YM {X Y W H ax : Int} {sizes : List Int} (hax : ax = 1 ∨ ax = 2) (hm : pz X Y W H = true) (hne : sizes ≠ []) (hs : sizes.sum + (sizes.length : Int) - 1 = tX ax W H) (hp : ∀ m, m ∈ sizes → 1 ≤ m) : (qA X Y W H ax sizes).2.2 = true := by
 unfold qA
 rw [if_pos ⟨hax, hm, hne⟩]
 exact YN _ _ _ _ _ _ _ _ _ _ (by rw [if_pos ⟨rfl, hne⟩]; omega) hp
end Go.Proofs.Ytfdmfgaiblfbhaa.P
namespace Go.Proofs.Ytfdmfgaiblfbhaa.P
open Go.RowKit Go.Proofs.ag.aK Go.Proofs.ag.bG Go.Proofs.ag.bV
attribute [local go_sem] jm jB jR kF jO jP kT kV
def pF.f (au : Int) (aI : Int) (aC : Int) (aH : Int) (a1 : Int) : Option (Int × Int × Int × Int × Bool) := if a1 = 2 then (some (aI, au, aH, aC, true)) else (if a1 = 1 then (some (au, aI, aC, aH, true)) else (some (0, 0, 0, 0, false)))
theorem pF.calls (au : Int) (aI : Int) (aC : Int) (aH : Int) (a1 : Int) (r1 : Int) (r2 : Int) (r3 : Int) (r4 : Int) (r5 : Bool) (w : World) (h : pF.f au aI aC aH a1 = some (r1, r2, r3, r4, r5)) :
  Calls Try.prog 127 #[.agg #[.int .i64 au, .int .i64 aI, .int .i64 aC, .int .i64 aH], .int .u8 a1] w fun e w' => e = .returned (.tuple #[.agg #[.int .i64 r1, .int .i64 r2, .int .i64 r3, .int .i64 r4], .bool r5]) ∧ Below w.heap.size w w' := by
 have NH := Try.underlying23
 have HB := ae.mk (Below.refl w.heap.size w)
 have H : (if a1 = 2 then (some (aI, au, aH, aC, true)) else (if a1 = 1 then (some (au, aI, aC, aH, true)) else (some (0, 0, 0, 0, false)))) = some (r1, r2, r3, r4, r5) := h
 clear h
 by_cases c3 : a1 = 2
 ·rw [if_pos c3] at H
  have uh : (a1 == 2) = true := beq_iff_eq.mpr c3
  have y9 : (a1 != 2) = false := bne_eq_false_iff_eq.mpr c3
  clear c3
  simp only [Option.some.injEq, Prod.mk.injEq] at H
  obtain ⟨rfl, rfl, rfl, rfl, rfl⟩ := H
  go_enter Try.func127, Try.ntmps127
  go_wp2_with (first | ((with_reducible refine aG (N := 2) rfl ?_); refine aT ?hg (N := 2) ?hd (cs := #[.int .i64 au, .int .i64 aI, .int .i64 aC, .int .i64 aH]) (t := 23) ?hr ?_; (case hd => rfl); (case hg => rfl); (case hr => (go_simp; done)); intro ng hg w4 hbox hb; have jg := ae.mk (hbox); have Qa := ae.mk ((by rw [hg]; exact (dR (by repeat ((with_reducible exact HB.out)))) : w.heap.size ≤ ng)); replace HB := ae.mk (ak (by repeat ((with_reducible exact HB.out))) hb); clear hb hbox hg) | ((with_reducible refine aG (N := 4) rfl ?_); refine aT ?hg (N := 4) ?hd (cs := #[.int .i64 0, .int .i64 0, .int .i64 0, .int .i64 0]) (t := 23) ?hr ?_; (case hd => rfl); (case hg => rfl); (case hr => (go_simp; done)); intro jK hg w5 hbox hb; have jq := ae.mk (hbox); have Gn := ae.mk ((by rw [hg]; exact (dR (by repeat ((with_reducible exact HB.out)))) : w.heap.size ≤ jK)); have xH := ae.mk ((by rw [hg]; exact Nat.ne_of_lt (fA jg.out) : ng ≠ jK)); have oK := ae.mk ((by rw [hg]; exact Nat.ne_of_gt (fA jg.out) : jK ≠ ng)); replace jg := ae.mk (aJ jg.out hb); replace HB := ae.mk (ak (by repeat ((with_reducible exact HB.out))) hb); clear hb hbox hg; have aky := xH.out; have akz := oK.out; have adn : w5.cell? ⟨ng, 0, none⟩ = some (.int .i64 au) := (af jg.out 0).trans rfl; have ado : w5.cell? ⟨ng, 1, none⟩ = some (.int .i64 aI) := (af jg.out 1).trans rfl; have adr : w5.cell? ⟨ng, 2, none⟩ = some (.int .i64 aC) := (af jg.out 2).trans rfl; have adt : w5.cell? ⟨ng, 3, none⟩ = some (.int .i64 aH) := (af jg.out 3).trans rfl; have adI := ah jg.out 0; have adJ := ah jg.out 1; have adK := ah jg.out 2; have adL := ah jg.out 3; have TB : w5.cell? ⟨jK, 0, none⟩ = some (.int .i64 0) := (af jq.out 0).trans rfl; have TC : w5.cell? ⟨jK, 1, none⟩ = some (.int .i64 0) := (af jq.out 1).trans rfl; have TD : w5.cell? ⟨jK, 2, none⟩ = some (.int .i64 0) := (af jq.out 2).trans rfl; have TE : w5.cell? ⟨jK, 3, none⟩ = some (.int .i64 0) := (af jq.out 3).trans rfl; have TV := ah jq.out 0; have TW := ah jq.out 1; have TY := ah jq.out 2; have TZ := ah jq.out 3))
  refine bodyPost_ret (fB rfl _ _ jK 23 _ (0, 0) _ rfl (by refine jy (cs := #[.int .i64 aI, .int .i64 au, .int .i64 aH, .int .i64 aC]) ?_ 3 _ rfl; refine jy (cs := #[.int .i64 aI, .int .i64 au, .int .i64 aH, .int .i64 aC]) ?_ 2 _ rfl; refine jy (cs := #[.int .i64 aI, .int .i64 au, .int .i64 aH, .int .i64 aC]) ?_ 1 _ rfl; refine jy (cs := #[.int .i64 aI, .int .i64 au, .int .i64 aH, .int .i64 aC]) ?_ 0 _ rfl; refine jy (cs := #[.int .i64 aI, .int .i64 au, .int .i64 aH, .int .i64 0]) ?_ 3 _ rfl; refine jy (cs := #[.int .i64 aI, .int .i64 au, .int .i64 0, .int .i64 0]) ?_ 2 _ rfl; refine jy (cs := #[.int .i64 aI, .int .i64 0, .int .i64 0, .int .i64 0]) ?_ 1 _ rfl; refine jy (cs := #[.int .i64 0, .int .i64 0, .int .i64 0, .int .i64 0]) ?_ 0 _ rfl; refine Et ?_ oK.out _; refine Et ?_ oK.out _; refine Et ?_ oK.out _; refine Et ?_ oK.out _; exact jq.out) Try.underlying23 rfl (by kernel_rfl)) rfl ?_
  exact ⟨by rfl, by repeat ((with_reducible first | exact HB.out | refine oM ?_ Qa.out | refine oM ?_ Gn.out))⟩
 ·rw [if_neg c3] at H
  have uh : (a1 == 2) = false := beq_eq_false_iff_ne.mpr c3
  have y9 : (a1 != 2) = true := bne_iff_ne.mpr c3
  by_cases c9 : a1 = 1
  ·rw [if_pos c9] at H
   have L9 : (a1 == 1) = true := beq_iff_eq.mpr c9
   have agQ : (a1 != 1) = false := bne_eq_false_iff_eq.mpr c9
   clear c9
   simp only [Option.some.injEq, Prod.mk.injEq] at H
   obtain ⟨rfl, rfl, rfl, rfl, rfl⟩ := H
   go_enter Try.func127, Try.ntmps127
   go_wp2_with (first | ((with_reducible refine aG (N := 2) rfl ?_); refine aT ?hg (N := 2) ?hd (cs := #[.int .i64 au, .int .i64 aI, .int .i64 aC, .int .i64 aH]) (t := 23) ?hr ?_; (case hd => rfl); (case hg => rfl); (case hr => (go_simp; done)); intro ng hg w10 hbox hb; have jg := ae.mk (hbox); have Qa := ae.mk ((by rw [hg]; exact (dR (by repeat ((with_reducible exact HB.out)))) : w.heap.size ≤ ng)); replace HB := ae.mk (ak (by repeat ((with_reducible exact HB.out))) hb); clear hb hbox hg) | ((with_reducible refine aG (N := 4) rfl ?_); refine aT ?hg (N := 4) ?hd (cs := #[.int .i64 0, .int .i64 0, .int .i64 0, .int .i64 0]) (t := 23) ?hr ?_; (case hd => rfl); (case hg => rfl); (case hr => (go_simp; done)); intro jK hg Ah hbox hb; have jq := ae.mk (hbox); have Gn := ae.mk ((by rw [hg]; exact (dR (by repeat ((with_reducible exact HB.out)))) : w.heap.size ≤ jK)); have xH := ae.mk ((by rw [hg]; exact Nat.ne_of_lt (fA jg.out) : ng ≠ jK)); have oK := ae.mk ((by rw [hg]; exact Nat.ne_of_gt (fA jg.out) : jK ≠ ng)); replace jg := ae.mk (aJ jg.out hb); replace HB := ae.mk (ak (by repeat ((with_reducible exact HB.out))) hb); clear hb hbox hg; have akb := xH.out; have akd := oK.out; have Y4 : Ah.cell? ⟨ng, 0, none⟩ = some (.int .i64 au) := (af jg.out 0).trans rfl; have Y5 : Ah.cell? ⟨ng, 1, none⟩ = some (.int .i64 aI) := (af jg.out 1).trans rfl; have Y6 : Ah.cell? ⟨ng, 2, none⟩ = some (.int .i64 aC) := (af jg.out 2).trans rfl; have Y7 : Ah.cell? ⟨ng, 3, none⟩ = some (.int .i64 aH) := (af jg.out 3).trans rfl; have ZH := ah jg.out 0; have ZI := ah jg.out 1; have ZJ := ah jg.out 2; have ZK := ah jg.out 3; have Iw : Ah.cell? ⟨jK, 0, none⟩ = some (.int .i64 0) := (af jq.out 0).trans rfl; have Iy : Ah.cell? ⟨jK, 1, none⟩ = some (.int .i64 0) := (af jq.out 1).trans rfl; have Iz : Ah.cell? ⟨jK, 2, none⟩ = some (.int .i64 0) := (af jq.out 2).trans rfl; have IA : Ah.cell? ⟨jK, 3, none⟩ = some (.int .i64 0) := (af jq.out 3).trans rfl; have IB := ah jq.out 0; have IC := ah jq.out 1; have IE := ah jq.out 2; have IG := ah jq.out 3))
   refine bodyPost_ret (fB rfl _ _ jK 23 _ (0, 0) _ rfl (by refine jy (cs := #[.int .i64 au, .int .i64 aI, .int .i64 aC, .int .i64 aH]) ?_ 3 _ rfl; refine jy (cs := #[.int .i64 au, .int .i64 aI, .int .i64 aC, .int .i64 aH]) ?_ 2 _ rfl; refine jy (cs := #[.int .i64 au, .int .i64 aI, .int .i64 aC, .int .i64 aH]) ?_ 1 _ rfl; refine jy (cs := #[.int .i64 au, .int .i64 aI, .int .i64 aC, .int .i64 aH]) ?_ 0 _ rfl; refine jy (cs := #[.int .i64 au, .int .i64 aI, .int .i64 aC, .int .i64 0]) ?_ 3 _ rfl; refine jy (cs := #[.int .i64 au, .int .i64 aI, .int .i64 0, .int .i64 0]) ?_ 2 _ rfl; refine jy (cs := #[.int .i64 au, .int .i64 0, .int .i64 0, .int .i64 0]) ?_ 1 _ rfl; refine jy (cs := #[.int .i64 0, .int .i64 0, .int .i64 0, .int .i64 0]) ?_ 0 _ rfl; exact jq.out) Try.underlying23 rfl (by kernel_rfl)) rfl ?_
   exact ⟨by rfl, by repeat ((with_reducible first | exact HB.out | refine oM ?_ Gn.out))⟩
  ·rw [if_neg c9] at H
   have L9 : (a1 == 1) = false := beq_eq_false_iff_ne.mpr c9
   have agQ : (a1 != 1) = true := bne_iff_ne.mpr c9
   simp only [Option.some.injEq, Prod.mk.injEq] at H
   obtain ⟨rfl, rfl, rfl, rfl, rfl⟩ := H
   go_enter Try.func127, Try.ntmps127
   go_wp2_with (first | ((with_reducible refine aG (N := 2) rfl ?_); refine aT ?hg (N := 2) ?hd (cs := #[.int .i64 au, .int .i64 aI, .int .i64 aC, .int .i64 aH]) (t := 23) ?hr ?_; (case hd => rfl); (case hg => rfl); (case hr => (go_simp; done)); intro ng hg ug hbox hb; have jg := ae.mk (hbox); have Qa := ae.mk ((by rw [hg]; exact (dR (by repeat ((with_reducible exact HB.out)))) : w.heap.size ≤ ng)); replace HB := ae.mk (ak (by repeat ((with_reducible exact HB.out))) hb); clear hb hbox hg) | ((with_reducible refine aG (N := 4) rfl ?_); refine aT ?hg (N := 4) ?hd (cs := #[.int .i64 0, .int .i64 0, .int .i64 0, .int .i64 0]) (t := 23) ?hr ?_; (case hd => rfl); (case hg => rfl); (case hr => (go_simp; done)); intro jK hg w16 hbox hb; have jq := ae.mk (hbox); have Gn := ae.mk ((by rw [hg]; exact (dR (by repeat ((with_reducible exact HB.out)))) : w.heap.size ≤ jK)); have xH := ae.mk ((by rw [hg]; exact Nat.ne_of_lt (fA jg.out) : ng ≠ jK)); have oK := ae.mk ((by rw [hg]; exact Nat.ne_of_gt (fA jg.out) : jK ≠ ng)); replace jg := ae.mk (aJ jg.out hb); replace HB := ae.mk (ak (by repeat ((with_reducible exact HB.out))) hb); clear hb hbox hg; have akc := oK.out; have ake := xH.out; have Zd : w16.cell? ⟨jK, 0, none⟩ = some (.int .i64 0) := (af jq.out 0).trans rfl; have Ze : w16.cell? ⟨jK, 1, none⟩ = some (.int .i64 0) := (af jq.out 1).trans rfl; have Zf : w16.cell? ⟨jK, 2, none⟩ = some (.int .i64 0) := (af jq.out 2).trans rfl; have Zg : w16.cell? ⟨jK, 3, none⟩ = some (.int .i64 0) := (af jq.out 3).trans rfl; have ZR := ah jq.out 0; have ZT := ah jq.out 1; have ZU := ah jq.out 2; have ZV := ah jq.out 3))
   refine bodyPost_ret (fB rfl _ _ jK 23 _ (0, 0) _ rfl (by refine jy (cs := #[.int .i64 0, .int .i64 0, .int .i64 0, .int .i64 0]) ?_ 3 _ rfl; refine jy (cs := #[.int .i64 0, .int .i64 0, .int .i64 0, .int .i64 0]) ?_ 2 _ rfl; refine jy (cs := #[.int .i64 0, .int .i64 0, .int .i64 0, .int .i64 0]) ?_ 1 _ rfl; refine jy (cs := #[.int .i64 0, .int .i64 0, .int .i64 0, .int .i64 0]) ?_ 0 _ rfl; exact jq.out) Try.underlying23 rfl (by kernel_rfl)) rfl ?_
   exact ⟨by rfl, by repeat ((with_reducible first | exact HB.out | refine oM ?_ Gn.out))⟩
end Go.Proofs.Ytfdmfgaiblfbhaa.P
namespace Go.Proofs.Ytfdmfgaiblfbhaa.P
open Go.RowKit Go.Proofs.ag.aK Go.Proofs.ag.bG Go.Proofs.ag.bV
section
variable {W : World}
theorem OG {ax : Int} (h : ax = 1 ∨ ax = 2) (X Y W H : Int) : pF.f X Y W H ax = some (tX ax X Y, tX ax Y X, tX ax W H, tX ax H W, true) := by
 unfold pF.f tX
 rcases h with rfl | rfl
 ·rfl
 ·rfl
theorem Gi {ax : Int} (h : ax = 1 ∨ ax = 2) (x y u v : Int) : Calls Try.prog 127 #[.agg #[.int .i64 x, .int .i64 y, .int .i64 u, .int .i64 v], .int .u8 ax] W fun e w' => e = .returned (.tuple #[.agg #[.int .i64 (tX ax x y), .int .i64 (tX ax y x), .int .i64 (tX ax u v), .int .i64 (tX ax v u)], .bool true]) ∧ Below W.heap.size W w' :=
 pF.calls _ _ _ _ _ _ _ _ _ _ W (OG h x y u v)
theorem U6 {ax : Int} (h : ¬ (ax = 1 ∨ ax = 2)) (x y u v : Int) : Calls Try.prog 127 #[.agg #[.int .i64 x, .int .i64 y, .int .i64 u, .int .i64 v], .int .u8 ax] W fun e w' => e = .returned (.tuple #[.agg #[.int .i64 0, .int .i64 0, .int .i64 0, .int .i64 0], .bool false]) ∧ Below W.heap.size W w' :=
 pF.calls _ _ _ _ _ _ _ _ _ _ W (by unfold pF.f; rw [if_neg (fun e => h (.inr e)), if_neg (fun e => h (.inl e))])
theorem NZ {x y u v : Int} {b : Bool} (h : pz x y u v = b) : Calls Try.prog 128 #[.agg #[.int .i64 x, .int .i64 y, .int .i64 u, .int .i64 v]] W fun e w' => e = .returned (.bool b) ∧ Below W.heap.size W w' :=
 xg.calls _ _ _ _ _ W ((NR _ _ _ _).trans (congrArg some h))
theorem D9 {x y u v : Int} {b : Bool} (h : pz x y u v = b) : Calls Try.prog 57 #[.agg #[.int .i64 x, .int .i64 y, .int .i64 u, .int .i64 v]] W fun e w' => e = .returned (.bool b) ∧ Below W.heap.size W w' :=
 oG.calls _ _ _ _ _ W ((EW _ _ _ _).trans (congrArg some h))
end
abbrev KC (w : World) (t : List dD × List dD × Bool) (e : Ending) (w' : World) : Prop := ∃ A c A' c' o o', e = .returned (.tuple #[.slice A t.1.length c, .slice A' t.2.1.length c', .bool t.2.2]) ∧ (t.2.2 = true → Two k23 23 k23 23 w w' (.slice A t.1.length c) t.1 (.slice A' t.2.1.length c') t.2.1 o o') ∧ Below w.heap.size w w'
theorem zn {X Y W H ax : Int} {sizes : List Int} (h : ¬ (ax = 1 ∨ ax = 2) ∨ pz X Y W H = false ∨ sizes.length = 0) : qA X Y W H ax sizes = ([], [], false) := by
 unfold qA
 refine if_neg (fun hc => ?_)
 rcases h with h | h | h
 ·exact h hc.1
 ·rw [hc.2.1] at h; cases h
 ·exact hc.2.2 (List.eq_nil_of_length_eq_zero h)
theorem SV {X Y W H ax : Int} {sizes : List Int} (h1 : ax = 1 ∨ ax = 2) (h2 : pz X Y W H = true) (h3 : sizes.length ≠ 0) : qA X Y W H ax sizes = nM ax (tX ax X Y) (tX ax Y X) (tX ax W H) (tX ax H W) 0 true [] [] sizes := by
 unfold qA
 exact if_pos ⟨h1, h2, fun h => h3 (by rw [h]; rfl)⟩
theorem MJ {ax s t d e off : Int} {f : Bool} {ps ls : List dD} {R : List dD × List dD × Bool} (h : nM ax s t d e off f ps ls [] = R) : R = if off = d then (ps, ls, true) else ([], [], false) := h.symm
def Ai (ax s t d e o : Int) (ps ls : List dD) (n : Int) (ns : List Int) : List dD × List dD × Bool := if n < 1 ∨ d < o + n then ([], [], false) else nM ax s t d e (o + n) false (ps ++ [nP ax (s + o) t e n]) ls ns
theorem A8 {ax s t d e o : Int} {ps ls : List dD} {n : Int} {ns : List Int} (h : n < 1 ∨ d < o + n) : Ai ax s t d e o ps ls n ns = ([], [], false) := if_pos h
theorem OX {ax s t d e o : Int} {ps ls : List dD} {n : Int} {ns : List Int} (h : ¬ (n < 1 ∨ d < o + n)) : Ai ax s t d e o ps ls n ns = nM ax s t d e (o + n) false (ps ++ [nP ax (s + o) t e n]) ls ns := if_neg h
theorem U5 {X Y W H ax : Int} (h1 : ax = 1 ∨ ax = 2) (h2 : pz X Y W H = true) : 0 ≤ tX ax X Y ∧ 1 ≤ tX ax W H ∧ tX ax X Y + tX ax W H ≤ 10000 := by
 have hm := vz.1 h2
 unfold tX
 rcases h1 with rfl | rfl
 ·rw [if_neg (by omega), if_neg (by omega)]; omega
 ·rw [if_pos rfl, if_pos rfl]; omega
end Go.Proofs.Ytfdmfgaiblfbhaa.P
namespace Go.Proofs.Ytfdmfgaiblfbhaa.P
open Go.RowKit Go.Proofs.ag.aK Go.Proofs.ag.bG Go.Proofs.ag.bV
attribute [local go_sem] jm jB jR kF jO jP kT kV
theorem afq (d : Nat) (w : World) (x0 y0 : Int) (x1 y1 : Int) (x2 y2 : Int) (x3 y3 : Int) :
  (Op.equalIn (d + 2) 23 (.agg #[.int .i64 x0, .int .i64 x1, .int .i64 x2, .int .i64 x3]) (.agg #[.int .i64 y0, .int .i64 y1, .int .i64 y2, .int .i64 y3])).run Try.prog w = .ok (x0 == y0 && (x1 == y1 && (x2 == y2 && (x3 == y3)))) w := by
 refine acM Try.underlying23 (by kernel_rfl) ?_
 refine FO (by rfl) (by go_simp; rfl) (by go_simp; rfl) (by go_simp) ?_
 refine FO (by rfl) (by go_simp; rfl) (by go_simp; rfl) (by go_simp) ?_
 refine FO (by rfl) (by go_simp; rfl) (by go_simp; rfl) (by go_simp) ?_
 exact VZ (by rfl) (by go_simp; rfl) (by go_simp; rfl) (by go_simp)
end Go.Proofs.Ytfdmfgaiblfbhaa.P
namespace Go.Proofs.Ytfdmfgaiblfbhaa.P
open Go.RowKit Go.Proofs.ag.aK Go.Proofs.ag.bG Go.Proofs.ag.bV
attribute [local go_sem] jm jB jR kF jO jP kT kV
attribute [local go_sem high] afq
mutual
def iM.j0 : Nat → Bool → Int → Int → Int → Int → Int → Int → List (ai) → Int → Int → Int → Int → Int → Int → List (ai) → Option (Bool)
 | 0, _, _, _, _, _, _, _, _, _, _, _, _, _, _, _ => none
 | k + 1, x33, Jh, Ji, Jj, Jk, Jl, Jm, oH, Jn, Jo, Jp, Jq, Jr, Js, qh => if x33 = true then (some false) else (iM.l0 k (oH.length : Int) 0 Jh Ji Jj Jk Jl Jm oH Jn Jo Jp Jq Jr Js qh)
def iM.l0 : Nat → Int → Int → Int → Int → Int → Int → Int → Int → List (ai) → Int → Int → Int → Int → Int → Int → List (ai) → Option (Bool)
 | 0, _, _, _, _, _, _, _, _, _, _, _, _, _, _, _, _ => none
 | k + 1, x36, wJ, Jh, Ji, Jj, Jk, Jl, Jm, oH, Jn, Jo, Jp, Jq, Jr, Js, qh => if wJ < x36 then (if 0 ≤ wJ then (if wJ < (oH.length : Int) then (if wJ < (qh.length : Int) then ((iM.f k ((aA oH wJ).f0) ((aA oH wJ).f1.f0) ((aA oH wJ).f1.f1) ((aA oH wJ).f1.f2) ((aA oH wJ).f1.f3) ((aA oH wJ).f2) ((aA oH wJ).f3) ((aA qh wJ).f0) ((aA qh wJ).f1.f0) ((aA qh wJ).f1.f1) ((aA qh wJ).f1.f2) ((aA qh wJ).f1.f3) ((aA qh wJ).f2) ((aA qh wJ).f3)).bind fun ahj => (if ahj = true then (iM.l0 k x36 (wrap64 (wJ + 1)) Jh Ji Jj Jk Jl Jm oH Jn Jo Jp Jq Jr Js qh) else (some false))) else (none)) else (none)) else (none)) else (some true)
def iM.f : Nat → Int → Int → Int → Int → Int → Int → List (ai) → Int → Int → Int → Int → Int → Int → List (ai) → Option (Bool)
 | 0, _, _, _, _, _, _, _, _, _, _, _, _, _, _ => none
 | k + 1, au, aI, aC, aH, bz, bD, aQ, Lu, LC, LD, LG, LH, LJ, NP => if au = Lu then (if (!(aI == LC) || (!(aC == LD) || (!(aH == LG) || (!(bz == LH))))) = true then (iM.j0 k true au aI aC aH bz bD aQ Lu LC LD LG LH LJ NP) else (if bD = LJ then (iM.j0 k ((aQ.length : Int) != (NP.length : Int)) au aI aC aH bz bD aQ Lu LC LD LG LH LJ NP) else (iM.j0 k true au aI aC aH bz bD aQ Lu LC LD LG LH LJ NP))) else (iM.j0 k true au aI aC aH bz bD aQ Lu LC LD LG LH LJ NP)
end
def iM.T6 : Bool × List (List Nat × List Nat) := (true, [([], []), ([0], [0]), ([], []), ([1, 2], [1, 2]), ([3], [3]), ([], []), ([5], [5]), ([], []), ([6, 7], [6, 7]), ([8], [8]), ([4, 9], [4, 9]), ([10], [10])])
def iM.B6 : List Nat := [0, 1, 0, 7, 15, 0, 32, 0, 224, 480, 1023, 2047]
end Go.Proofs.Ytfdmfgaiblfbhaa.P
namespace Go.Proofs.Ytfdmfgaiblfbhaa.P
open Go.RowKit Go.Proofs.ag.aK Go.Proofs.ag.bG Go.Proofs.ag.bV
def qG (a b : dD) : Bool := a.f0 == b.f0 && (a.f1 == b.f1 && (a.f2 == b.f2 && a.f3 == b.f3))
mutual
def afJ : ai → ai → Bool
 | ⟨a, r, d, l⟩, ⟨a', r', d', l'⟩ => a == a' && (qG r r' && (d == d' && (l.length == l'.length && Yb l l')))
def Yb : List ai → List ai → Bool
 | [], _ => true
 | _ :: _, [] => true
 | c :: cs, e :: es => afJ c e && Yb cs es
end
def su {α β : Type} (r : α → β → Bool) : List α → List β → Bool
 | a :: ta, b :: tb => r a b && su r ta tb
 | [], _ => true
 | _ :: _, [] => true
theorem acN {α β : Type} (r : α → β → Bool) (za : α) (zb : β) (la : List α) (lb : List β) (k : Nat) (ha : k < la.length) (hb : k < lb.length) :
  su r (la.drop k) (lb.drop k) = (r (la.getD (k : Int).toNat za) (lb.getD (k : Int).toNat zb) && su r (la.drop (k + 1)) (lb.drop (k + 1))) := by
 rw [List.drop_eq_getElem_cons ha, List.drop_eq_getElem_cons hb]
 simp only [su, Int.toNat_natCast, List.getD_eq_getElem?_getD, List.getElem?_eq_getElem ha, List.getElem?_eq_getElem hb, Option.getD_some]
theorem Il {α β : Type} (r : α → β → Bool) (lb : List β) : su r ([] : List α) lb = true := by cases lb <;> rfl
def yG (k : Int) : Int := (((k - 2) % 256) + 1) % 256
def qo (f0 : Int) (k : ai) : Int := if f0 = 2 then k.f1.f2 else k.f1.f3
def szK (c k : ai) : Int := qo c.f0 k
def je (c : ai) : List Int := c.f3.map (szK c)
def yx (c : ai) : List dD × List dD × Bool := qA c.f1.f0 c.f1.f1 c.f1.f2 c.f1.f3 (yG c.f0) (je c)
theorem ML (c : ai) : (yx c).1.length ≤ c.f3.length ∧ (yx c).2.1.length ≤ c.f3.length := by
 have h := VQ c.f1.f0 c.f1.f1 c.f1.f2 c.f1.f3 (yG c.f0) (je c)
 rwa [show (je c).length = c.f3.length from List.length_map _] at h
theorem Dk {c : ai} (h : (yx c).2.2 = true) : (yG c.f0 = 1 ∨ yG c.f0 = 2) ∧ (yx c).1 = yw (yG c.f0) c.f1.f0 c.f1.f1 c.f1.f2 c.f1.f3 0 (je c) ∧ (je c).sum + ((je c).length : Int) - 1 = tX (yG c.f0) c.f1.f2 c.f1.f3 ∧ ∀ m, m ∈ je c → 1 ≤ m := SQ h
def B_ (c : ai) (t : List dD × List dD × Bool) : Bool := c.f0 == 1 || (t.2.2 && (c.f3.length == t.1.length && su (fun k r => qG k.f1 r) c.f3 t.1))
def mF (c : ai) : Bool := B_ c (yx c)
def kG (c : ai) : Bool := (fG c).all mF
theorem sS (c : ai) : kG c = (mF c && c.f3.all kG) := by
 unfold kG
 rw [pV, List.all_cons]
 congr 1
 generalize c.f3 = l
 induction l with
 | nil => rw [pg]; rfl
 | cons x xs ih => rw [lF, List.all_append, List.all_cons, ih]
theorem OY {W : World} {f : FuncId} {args : Array Value} {t1 t2 : List dD} (h : Calls Try.prog f args W (KC W (t1, t2, true))) :
  Calls Try.prog f args W fun e w' => ∃ A c A' c' o o', e = .returned (.tuple #[.slice A t1.length c, .slice A' t2.length c', .bool true]) ∧ Two k23 23 k23 23 W w' (.slice A t1.length c) t1 (.slice A' t2.length c') t2 o o' ∧ Below W.heap.size W w' :=
 h.mono (fun _ _ ⟨A, c, A', c', o, o', h1, h2, h3⟩ => ⟨A, c, A', c', o, o', h1, h2 rfl, h3⟩)
theorem MM {W : World} {f : FuncId} {args : Array Value} {t1 t2 : List dD} (h : Calls Try.prog f args W (KC W (t1, t2, false))) :
  Calls Try.prog f args W fun e w' => ∃ A n c A' n' c', e = .returned (.tuple #[.slice A n c, .slice A' n' c', .bool false]) ∧ Below W.heap.size W w' :=
 h.mono (fun _ _ ⟨A, c, A', c', _, _, h1, _, h3⟩ => ⟨A, _, c, A', _, c', h1, h3⟩)
abbrev Qj (w : World) (c : ai) (e : Ending) (w' : World) : Prop := ∃ A n cc, e = .returned (.tuple #[.slice A n cc, .bool (mF c)]) ∧ (mF c = true → ∃ ls : List dD, n = ls.length ∧ ls.length ≤ c.f3.length ∧ k23.R 23 w' w.heap.size (fun _ => True) (.slice A ls.length cc) ls) ∧ Below w.heap.size w w'
theorem YI (k : Int) : (k - 1) % 256 = yG k := by unfold yG; omega
theorem O0 {α β : Type} {r : α → β → Bool} : ∀ {a b : List α} {a' b' : List β}, a.length = a'.length → su r (a ++ b) (a' ++ b') = (su r a a' && su r b b') := by
 intro a
 induction a with
 | nil => intro b a' b' h; cases a' with
  | nil => rw [Il]; rfl
  | cons y ys => simp at h
 | cons x xs ih =>
  intro b a' b' h
  cases a' with
  | nil => simp at h
  | cons y ys =>
   simp only [List.cons_append, su]
   rw [ih (by simpa using h), Bool.and_assoc]
theorem ad8 {α : Type} {r k : dD} (h : qG k r = false) (x y : α) : (if r.f0 = k.f0 then if r.f1 = k.f1 then if r.f2 = k.f2 then if r.f3 = k.f3 then x else y else y else y else y) = y := by
 unfold qG at h
 repeat' split
 all_goals first | rfl | (simp_all; done)
theorem abX {base n c : Nat} {A : Option Addr} {l : List dD} {o : Obj} (h : KR k23 23 base (.slice A n c) l o) {W : World} (hm : ∀ g, (Value.slice A n c).ownBlock = some g → W.heap[g]? = some o) (pre rest : List dD) (r : dD) (hl : pre ++ r :: rest = l) :
  ∃ ad, A = some ad ∧ ∀ W : World, (∀ g, (Value.slice A n c).ownBlock = some g → W.heap[g]? = some o) → W.cell? (ad.add (pre.length * 4)) = some (.int .i64 r.f0) ∧ W.cell? ⟨(ad.add (pre.length * 4)).block, (ad.add (pre.length * 4)).off + 1, none⟩ = some (.int .i64 r.f1) ∧ W.cell? ⟨(ad.add (pre.length * 4)).block, (ad.add (pre.length * 4)).off + 2, none⟩ = some (.int .i64 r.f2) ∧ W.cell? ⟨(ad.add (pre.length * 4)).block, (ad.add (pre.length * 4)).off + 3, none⟩ = some (.int .i64 r.f3) := by
 have hi : (pre.length : Int) < l.length := by rw [← hl, List.length_append, List.length_cons]; omega
 have hr : qf l pre.length = r := by rw [← hl]; simp [qf, List.getD_eq_getElem?_getD]
 have key : ∀ W : World, (∀ g, (Value.slice A n c).ownBlock = some g → W.heap[g]? = some o) → ∃ ad, A = some ad ∧ W.cell? (ad.add (pre.length * 4)) = some (.int .i64 r.f0) ∧ W.cell? ⟨(ad.add (pre.length * 4)).block, (ad.add (pre.length * 4)).off + 1, none⟩ = some (.int .i64 r.f1) ∧ W.cell? ⟨(ad.add (pre.length * 4)).block, (ad.add (pre.length * 4)).off + 2, none⟩ = some (.int .i64 r.f2) ∧ W.cell? ⟨(ad.add (pre.length * 4)).block, (ad.add (pre.length * 4)).off + 3, none⟩ = some (.int .i64 r.f3) := fun W hW => by
  have hC := (Kd.dO (h W hW)).2.2
  have h2 := LX hC (pre.length : Int) (Int.natCast_nonneg _) hi
  rw [hr] at h2
  exact h2
 obtain ⟨ad, hA, _⟩ := key W hm
 refine ⟨ad, hA, fun W hW => ?_⟩
 obtain ⟨ad2, h1, h2⟩ := key W hW
 rw [hA] at h1
 injection h1 with h1
 rw [h1]
 exact h2
def x_.T20 : Bool × List (List Nat × List Nat) := (true, [([], []), ([], []), ([1], [1]), ([], []), ([2, 3], [2, 3]), ([], []), ([5], [5]), ([], []), ([], []), ([7, 8], [7, 8]), ([9], [9]), ([], []), ([11], [11]), ([4, 6, 10, 12], [4, 6, 10, 12]), ([13], [13]), ([0, 14], [0, 14]), ([15, 15, 0, 1, 2, 3, 4, 5, 6, 7, 8, 9, 10, 11, 12, 13, 14, 15], [0, 15])])
def x_.B20 : List Nat := [0, 0, 2, 0, 14, 0, 32, 0, 0, 384, 896, 0, 2048, 8190, 16382, 32767, 65535]
theorem x_.afQ : g_ .any (opsOf Try.f46 20) = x_.T20 := by kernel_rfl
theorem x_.ach : iO x_.T20.2 x_.B20 = true := by kernel_rfl
def yc.T21 : Bool × List (List Nat × List Nat) := (true, [([], []), ([], []), ([1], [1]), ([], []), ([3], [3]), ([], []), ([4, 5], [4, 5]), ([], []), ([7], [7]), ([], []), ([], []), ([9, 10], [9, 10]), ([11], [11]), ([2, 6, 8, 12], [2, 6, 8, 12]), ([13], [13]), ([0, 14], [0, 14]), ([15, 15, 0, 1, 2, 3, 4, 5, 6, 7, 8, 9, 10, 11, 12, 13, 14, 15], [0, 15])])
def yc.B21 : List Nat := [0, 0, 2, 0, 8, 0, 56, 0, 128, 0, 0, 1536, 3584, 8190, 16382, 32767, 65535]
theorem yc.afR : g_ .any (opsOf Try.f46 21) = yc.T21 := by kernel_rfl
theorem yc.aci : iO yc.T21.2 yc.B21 = true := by kernel_rfl
theorem piece1 (s t e n : Int) : nP 1 s t e n = ⟨s, t, n, e⟩ := rfl
theorem piece2 (s t e n : Int) : nP 2 s t e n = ⟨t, s, e, n⟩ := rfl
theorem aeg (X Y Wd H ax : Int) (sizes : List Int) (hl : sizes.length ≤ 1000000) (B : Option Addr) (cb : Nat) (w : World) (hi : Kd.C (Kd.int .i64) w B sizes.length sizes) :
  Calls Try.prog 46 #[.agg #[.int .i64 X, .int .i64 Y, .int .i64 Wd, .int .i64 H], .int .u8 ax, .slice B sizes.length cb] w (KC w (qA X Y Wd H ax sizes)) := by
 have S := ae.mk (St.start (ts := []) (b0 := w.heap.size) (w := w) (P := fun _ => True) (fun _ h => by cases h))
 have HI := ae.mk hi
 have gW := ae.mk hl
 clear hi hl
 by_cases hm : pz X Y Wd H = true
 case neg =>
  have HQ := ae.mk (zn (X := X) (Y := Y) (W := Wd) (H := H) (ax := ax) (sizes := sizes) (.inr (.inl (Bool.eq_false_iff.mpr hm))))
  have xG := ae.mk (Bool.eq_false_iff.mpr hm)
  clear hm
  go_enter Try.func46, Try.ntmps46
  go_wp2_with (first | (refine boxS 3 _ 23 S ?_; clear S; intro b3 dF S) | (refine ig 15 rfl ?_; refine lU k23 23 rfl 15 S ?_; clear S; intro An cn on dV S yE; obtain ⟨a_, aW, aY, aX⟩ := St.at4 S bI) | (refine bH (some 17) Try.func57 S (D9 xG.out) ?_; clear S; intro fV S; clear a_ aW aY aX))
  go_ret3
  rw [HQ.out]
  exact ⟨_, _, _, _, .cells #[] 0 (0, 0), .cells #[] 0 (0, 0), rfl, (fun h => by cases h), S.out.below⟩
 have xG := ae.mk hm
 by_cases h1 : ax < 1
 case pos =>
  have HQ := ae.mk (zn (X := X) (Y := Y) (W := Wd) (H := H) (ax := ax) (sizes := sizes) (.inl (by omega)))
  obtain ⟨h1a, h1b⟩ := mr (a := ax) (b := 1) (by omega)
  clear hm h1
  go_enter Try.func46, Try.ntmps46
  go_wp2_with (first | (refine boxS 3 _ 23 S ?_; clear S; intro b3 dF S) | (refine ig 15 rfl ?_; refine lU k23 23 rfl 15 S ?_; clear S; intro An cn on dV S yE; obtain ⟨a_, aW, aY, aX⟩ := St.at4 S bI) | (refine bH (some 17) Try.func57 S (D9 xG.out) ?_; clear S; intro fV S; clear a_ aW aY aX))
  go_ret3
  rw [HQ.out]
  exact ⟨_, _, _, _, .cells #[] 0 (0, 0), .cells #[] 0 (0, 0), rfl, (fun h => by cases h), S.out.below⟩
 obtain ⟨h1a, h1b⟩ := lG (a := ax) (b := 1) (by omega)
 by_cases h2 : 2 < ax
 case pos =>
  have HQ := ae.mk (zn (X := X) (Y := Y) (W := Wd) (H := H) (ax := ax) (sizes := sizes) (.inl (by omega)))
  obtain ⟨h2a, h2b⟩ := mr (a := 2) (b := ax) (by omega)
  clear hm h1 h2
  go_enter Try.func46, Try.ntmps46
  go_wp2_with (first | (refine boxS 3 _ 23 S ?_; clear S; intro b3 dF S) | (refine ig 15 rfl ?_; refine lU k23 23 rfl 15 S ?_; clear S; intro An cn on dV S yE; obtain ⟨a_, aW, aY, aX⟩ := St.at4 S bI) | (refine bH (some 17) Try.func57 S (D9 xG.out) ?_; clear S; intro fV S; clear a_ aW aY aX))
  go_ret3
  rw [HQ.out]
  exact ⟨_, _, _, _, .cells #[] 0 (0, 0), .cells #[] 0 (0, 0), rfl, (fun h => by cases h), S.out.below⟩
 obtain ⟨h2a, h2b⟩ := lG (a := 2) (b := ax) (by omega)
 by_cases h0 : sizes.length = 0
 case pos =>
  have HQ := ae.mk (zn (X := X) (Y := Y) (W := Wd) (H := H) (ax := ax) (sizes := sizes) (.inr (.inr h0)))
  obtain ⟨JA, wO, Tf⟩ := wM (a := (sizes.length : Int)) (b := 0) (by omega)
  have Ti : (sizes.length == 0) = true := beq_iff_eq.mpr (by omega)
  have Tj : decide (sizes.length = 0) = true := decide_eq_true (by omega)
  clear hm h1 h2 h0
  go_enter Try.func46, Try.ntmps46
  go_wp2_with (first | (refine boxS 3 _ 23 S ?_; clear S; intro b3 dF S) | (refine ig 15 rfl ?_; refine lU k23 23 rfl 15 S ?_; clear S; intro An cn on dV S yE; obtain ⟨a_, aW, aY, aX⟩ := St.at4 S bI) | (refine bH (some 17) Try.func57 S (D9 xG.out) ?_; clear S; intro fV S; clear a_ aW aY aX))
  go_ret3
  rw [HQ.out]
  exact ⟨_, _, _, _, .cells #[] 0 (0, 0), .cells #[] 0 (0, 0), rfl, (fun h => by cases h), S.out.below⟩
 have hax : ax = 1 ∨ ax = 2 := by omega
 have mG := ae.mk hax
 obtain ⟨S0, hS0⟩ : ∃ s, s = tX ax X Y := ⟨_, rfl⟩
 obtain ⟨T0, hT0⟩ : ∃ s, s = tX ax Y X := ⟨_, rfl⟩
 obtain ⟨D, hD⟩ : ∃ s, s = tX ax Wd H := ⟨_, rfl⟩
 obtain ⟨E, hE⟩ : ∃ s, s = tX ax H Wd := ⟨_, rfl⟩
 have HS1 := ae.mk (show ax = 1 → S0 = X ∧ T0 = Y ∧ D = Wd ∧ E = H from fun h => by subst h; exact ⟨hS0, hT0, hD, hE⟩)
 have HS2 := ae.mk (show ax = 2 → S0 = Y ∧ T0 = X ∧ D = H ∧ E = Wd from fun h => by subst h; exact ⟨hS0, hT0, hD, hE⟩)
 have hq := SV hax hm h0
 rw [← hS0, ← hT0, ← hD, ← hE] at hq
 have hb := U5 hax hm
 rw [← hS0, ← hD] at hb
 have HB := ae.mk hb
 rw [hq]
 obtain ⟨JA, wO, Tf⟩ := eqF (a := (sizes.length : Int)) (b := 0) (by omega)
 have Ti : (sizes.length == 0) = false := beq_eq_false_iff_ne.mpr (by omega)
 have Tj : decide (sizes.length = 0) = false := decide_eq_false (by omega)
 obtain ⟨R, hR⟩ : ∃ R, R = nM ax S0 T0 D E 0 true [] [] sizes := ⟨_, rfl⟩
 rw [← hR]
 have HR := ae.mk hR
 clear hq hb hm h0 h1 h2 hax hS0 hT0 hD hE hR
 go_enter Try.func46, Try.ntmps46
 go_upto_if 37 with (first | (refine boxS 3 _ 23 S ?_; clear S; intro b3 dF S) | (refine ig 15 rfl ?_; refine lU k23 23 rfl 15 S ?_; clear S; intro An cn on dV S yE; obtain ⟨a_, aW, aY, aX⟩ := St.at4 S bI) | (refine bH (some 17) Try.func57 S (D9 xG.out) ?_; clear S; intro fV S; clear a_ aW aY aX; have aY := (S.out.at bI 2).trans rfl))
 clear aY
 (skip)
 go_cut [10] (fun v10 wc => v10 = .int .i64 D ∧ ae (St w (fun _ => True) [((Value.slice An 0 cn).ownBlock, on), (some b3, .cells #[.int .i64 X, .int .i64 Y, .int .i64 Wd, .int .i64 H] 23 (0, 0))] [] [] [] wc))
 case first =>
  by_cases hx : ax = 2
  case pos =>
   have hd := (HS2.out hx).2.2.1
   obtain ⟨hxa, hxb, hxd⟩ := wM (a := ax) (b := 2) (by omega)
   have KG := ae.mk hd
   clear hx hd
   have aX := (S.out.at bI 3).trans rfl
   go_wp2
   clear aX
   go_meet
   case rel => exact ⟨by rw [KG.out], S⟩
  case neg =>
   have hd := (HS1.out (by have := mG.out; omega)).2.2.1
   obtain ⟨hxa, hxb, hxd⟩ := eqF (a := ax) (b := 2) (by omega)
   have KG := ae.mk hd
   clear hx hd
   go_wp2
   go_meet
   case rel => exact ⟨by rw [KG.out], S⟩
 case rest =>
  clear S
  obtain ⟨rfl, S⟩ := hcut
  rename World => wx
  go_wp2_with (first | (refine ig 40 rfl ?_; refine lU k23 23 rfl 40 S ?_; clear S; intro Ap cp op dF S iq) | (refine ig 41 rfl ?_; refine lU k23 23 rfl 41 S ?_; clear S; intro Aq cq oq dV S mi))
  clear JA wO Tf Ti Tj h1a h1b h2a h2b
  go_loopg [11, 12, 13, 44] sizes.length (fun gg v11 v12 v13 v44 wr => ∃ (pre rest : List Int) (off : Int) (ps ls : List dD) (Ap : Option Addr) (cp : Nat) (op : Obj) (Aq : Option Addr) (cq : Nat) (oq : Obj), v11 = .slice Ap ps.length cp ∧ v12 = .slice Aq ls.length cq ∧ v13 = .int .i64 off ∧ v44 = .int .i64 (pre.length : Int) ∧ ae (pre ++ rest = sizes) ∧ rest.length ≤ gg ∧ ae (0 ≤ off ∧ off ≤ D ∧ ps.length ≤ pre.length ∧ ls.length ≤ pre.length) ∧ ae (nM ax S0 T0 D E off (pre.length == 0) ps ls rest = R) ∧ ae (KR k23 23 w.heap.size (.slice Ap ps.length cp) ps op) ∧ ae (KR k23 23 w.heap.size (.slice Aq ls.length cq) ls oq) ∧ ae (St w (fun _ => True) [((Value.slice Ap ps.length cp).ownBlock, op), ((Value.slice Aq ls.length cq).ownBlock, oq), ((Value.slice An 0 cn).ownBlock, on), (some b3, .cells #[.int .i64 X, .int .i64 Y, .int .i64 Wd, .int .i64 H] 23 (0, 0))] [] [] [] wr))
  case atStart => exact ⟨[], sizes, 0, [], [], _, _, _, _, _, _, rfl, rfl, rfl, rfl, ⟨rfl⟩, Nat.le_refl _, ⟨by have := HB.out; simp; omega⟩, ⟨HR.out.symm⟩, iq, mi, ⟨S.out.rC.rC.vk.rC⟩⟩
  case round =>
   clear S HR iq mi
   obtain ⟨pre, rest, off, ps, ls, Ap, cp, op, Aq, cq, oq, rfl, rfl, rfl, rfl, HE, hgg, HO, HG, iq, mi, S⟩ := hrel
   cases rest with
   | nil =>
    have hE := HE.out
    rw [List.append_nil] at hE
    subst hE
    clear HE hgg
    have hlt : ¬ ((pre.length : Int) < (pre.length : Int)) := by omega
    have RJ := ae.mk (MJ HG.out)
    by_cases hod : off = D
    case pos =>
     obtain ⟨hza, hzb, hzd⟩ := wM (a := off) (b := D) (by omega)
     have KL := ae.mk hod
     clear hod
     go_wp2
     go_ret3
     rw [RJ.out, if_pos KL.out]
     exact ⟨Ap, cp, Aq, cq, op, oq, rfl, fun _ => S.out.UI iq.out mi.out, S.out.below⟩
    case neg =>
     obtain ⟨hza, hzb, hzd⟩ := eqF (a := off) (b := D) (by omega)
     have KL := ae.mk hod
     clear hod
     go_wp2
     have HQ := ae.mk (RJ.out.trans (if_neg KL.out))
     go_ret3
     rw [HQ.out]
     exact ⟨_, _, _, _, .cells #[] 0 (0, 0), .cells #[] 0 (0, 0), rfl, (fun h => by cases h), S.out.below⟩
   | cons n ns =>
    have hlt : (pre.length : Int) < (sizes.length : Int) := by rw [← HE.out, List.length_append, List.length_cons]; omega
    have hw1 : wrap64 ((pre.length : Int) + 1) = ((pre ++ [n]).length : Int) := by have := gW.out; rw [List.length_append, List.length_singleton]; unfold wrap64; omega
    have HW1 := ae.mk hw1
    have fF := ae.mk hgg
    have OO := ae.mk hlt
    have zN := ae.mk (show ps.length ≤ 1000000 ∧ ls.length ≤ 1000000 by have := HO.out; have := gW.out; omega)
    clear hgg hw1
    go_upto_if 48 with fail
    (skip)
    go_cut [12, 13] (fun v12 v13 wc => ∃ (o' : Int) (ls' : List dD) (Aq : Option Addr) (cq : Nat) (oq : Obj), v12 = .slice Aq ls'.length cq ∧ v13 = .int .i64 o' ∧ ae (0 ≤ o' ∧ o' ≤ D + 1 ∧ ls'.length ≤ pre.length + 1) ∧ ae (Ai ax S0 T0 D E o' ps ls' n ns = R) ∧ ae (KR k23 23 w.heap.size (.slice Aq ls'.length cq) ls' oq) ∧ ae (St w (fun _ => True) [((Value.slice Ap ps.length cp).ownBlock, op), ((Value.slice Aq ls'.length cq).ownBlock, oq), ((Value.slice An 0 cn).ownBlock, on), (some b3, .cells #[.int .i64 X, .int .i64 Y, .int .i64 Wd, .int .i64 H] 23 (0, 0))] [] [] [] wc))
    case first =>
     by_cases hp2 : pre.length = 0
     case pos =>
      have hp : (pre.length == 0) = true := beq_iff_eq.mpr hp2
      obtain ⟨hpa, hpb⟩ := lG (a := 0) (b := (pre.length : Int)) (by omega)
      have hpc : decide (0 < pre.length) = false := decide_eq_false (by omega)
      have hpe : ¬ (0 < pre.length) := by omega
      have HG2 := ae.mk (show Ai ax S0 T0 D E off ps ls n ns = R by have h := HG.out; rw [hp] at h; exact h)
      clear hp hp2
      go_wp2
      go_meet
      case rel => exact ⟨off, ls, _, _, _, rfl, rfl, ⟨by have := HO.out; omega⟩, HG2, mi, S⟩
     case neg =>
      have hp : (pre.length == 0) = false := beq_eq_false_iff_ne.mpr hp2
      obtain ⟨hpa, hpb⟩ := mr (a := 0) (b := (pre.length : Int)) (by omega)
      have hpc : decide (0 < pre.length) = true := decide_eq_true (by omega)
      have hpe : 0 < pre.length := by omega
      have RI := ae.mk (show Ai ax S0 T0 D E (off + 1) ps (ls ++ [nP ax (S0 + off) T0 E 1]) n ns = R by have h := HG.out; rw [hp] at h; exact h)
      have OQ := ae.mk (show wrap64 (off + 1) = off + 1 by have := HO.out; have := HB.out; unfold wrap64; omega)
      clear hp hp2
      by_cases hx : ax = 1
      case pos =>
       have HX := ae.mk hx
       obtain ⟨hxa, hxb, hxd⟩ := wM (a := ax) (b := 1) (by omega)
       clear hx
       have KN := ae.mk (show nP ax (S0 + off) T0 E 1 = (⟨wrap64 (X + off), Y, 1, H⟩ : dD) by have hb := HB.out; have ho := HO.out; have hs := HS1.out HX.out; rw [HX.out, piece1, hs.1, hs.2.1, hs.2.2.2, show wrap64 (X + off) = X + off by rw [hs.1] at hb; unfold wrap64; omega])
       have HG2 := ae.mk (show Ai ax S0 T0 D E (off + 1) ps (ls ++ [(⟨wrap64 (X + off), Y, 1, H⟩ : dD)]) n ns = R by rw [← KN.out]; exact RI.out)
       have a_ := (S.out.at kW 0).trans rfl
       have aW := (S.out.at kW 1).trans rfl
       have aX := (S.out.at kW 3).trans rfl
       go_wp2_with ((refine ig 62 rfl ?_; at_builtin; replace S := ae.mk S.out.t_; refine u_ k23 23 rfl 51 61 42 _ 32 Try.underlying42 info23 rfl (by decide) (by decide) (by decide) S mi ⟨wrap64 (X + off), Y, 1, H⟩ [.int .i64 (wrap64 (X + off)), .int .i64 Y, .int .i64 1, .int .i64 H] (fun _ _ _ => qR _ _ _ _) (by have := zN.out; omega) ?_; clear S mi; intro Aq2 cq2 oq2 dF S mi; clear a_ aW aX))
       go_meet
       case rel => exact ⟨off + 1, _, _, _, _, (by rw [List.length_append]; rfl), (by rw [OQ.out]), ⟨by have := HO.out; rw [List.length_append, List.length_singleton]; omega⟩, HG2, mi, ⟨S.out.rC.rC.vk.rC⟩⟩
      case neg =>
       have HX := ae.mk (show ax = 2 by have := mG.out; omega)
       obtain ⟨hxa, hxb, hxd⟩ := eqF (a := ax) (b := 1) (by omega)
       clear hx
       have KN := ae.mk (show nP ax (S0 + off) T0 E 1 = (⟨X, wrap64 (Y + off), Wd, 1⟩ : dD) by have hb := HB.out; have ho := HO.out; have hs := HS2.out HX.out; rw [HX.out, piece2, hs.1, hs.2.1, hs.2.2.2, show wrap64 (Y + off) = Y + off by rw [hs.1] at hb; unfold wrap64; omega])
       have HG2 := ae.mk (show Ai ax S0 T0 D E (off + 1) ps (ls ++ [(⟨X, wrap64 (Y + off), Wd, 1⟩ : dD)]) n ns = R by rw [← KN.out]; exact RI.out)
       have a_ := (S.out.at kW 0).trans rfl
       have aW := (S.out.at kW 1).trans rfl
       have aY := (S.out.at kW 2).trans rfl
       go_wp2_with ((refine ig 74 rfl ?_; at_builtin; replace S := ae.mk S.out.t_; refine u_ k23 23 rfl 63 73 42 _ 32 Try.underlying42 info23 rfl (by decide) (by decide) (by decide) S mi ⟨X, wrap64 (Y + off), Wd, 1⟩ [.int .i64 X, .int .i64 (wrap64 (Y + off)), .int .i64 Wd, .int .i64 1] (fun _ _ _ => qR _ _ _ _) (by have := zN.out; omega) ?_; clear S mi; intro Aq2 cq2 oq2 dF S mi; clear a_ aW aY))
       go_meet
       case rel => exact ⟨off + 1, _, _, _, _, (by rw [List.length_append]; rfl), (by rw [OQ.out]), ⟨by have := HO.out; rw [List.length_append, List.length_singleton]; omega⟩, HG2, mi, ⟨S.out.rC.rC.vk.rC⟩⟩
    case rest =>
     clear S mi HG
     obtain ⟨o', ls', Aq, cq, oq, rfl, rfl, qZ, HG, mi, S⟩ := hcut
     rename World => wy
     have zN := ae.mk (show ps.length ≤ 1000000 ∧ ls'.length ≤ 1000001 by have := HO.out; have := qZ.out; have := gW.out; omega)
     have hlt := OO.out
     have hrd : rd sizes (pre.length : Int) = n := by rw [← HE.out]; simp [rd, List.getD_eq_getElem?_getD]
     obtain ⟨XN, ek, xi⟩ := Kd.iR (Kd.gV HI.out S.out.below) (pre.length : Int) (Int.natCast_nonneg _) hlt
     subst ek
     rw [hrd] at xi
     simp only [Int.toNat_natCast] at xi
     have HXI := fun (W : World) (h : Below w.heap.size w W) => (show W.cell? (XN.add pre.length) = some (.int .i64 n) by have h2 := Kd.iR (Kd.gV HI.out h) (pre.length : Int) (Int.natCast_nonneg _) OO.out; obtain ⟨ad, e1, e2⟩ := h2; injection e1 with e1; subst e1; simp only [Int.toNat_natCast] at e2; rw [e2, ← HE.out]; simp [rd, List.getD_eq_getElem?_getD])
     have AQ := ae.mk HXI
     clear hrd xi HXI
     by_cases hn : n < 1
     case pos =>
      obtain ⟨hna, hnb⟩ := mr (a := n) (b := 1) (by omega)
      have HQ := ae.mk (HG.out.symm.trans (A8 (.inl hn)))
      have xi := AQ.out _ S.out.below
      go_wp2
      clear xi
      go_ret3
      rw [HQ.out]
      exact ⟨_, _, _, _, .cells #[] 0 (0, 0), .cells #[] 0 (0, 0), rfl, (fun h => by cases h), S.out.below⟩
     obtain ⟨hna, hnb⟩ := lG (a := n) (b := 1) (by omega)
     by_cases hd : D < n
     case pos =>
      obtain ⟨hda, hdb⟩ := mr (a := D) (b := n) (by omega)
      have HQ := ae.mk (HG.out.symm.trans (A8 (.inr (by have := qZ.out; omega))))
      have xi := AQ.out _ S.out.below
      go_wp2
      clear xi
      go_ret3
      rw [HQ.out]
      exact ⟨_, _, _, _, .cells #[] 0 (0, 0), .cells #[] 0 (0, 0), rfl, (fun h => by cases h), S.out.below⟩
     obtain ⟨hda, hdb⟩ := lG (a := D) (b := n) (by omega)
     have hg : wrap64 (o' + n) = o' + n := by have := HB.out; have := qZ.out; unfold wrap64; omega
     have HWG := ae.mk hg
     by_cases he : D < o' + n
     case pos =>
      obtain ⟨hea, heb⟩ := mr (a := D) (b := wrap64 (o' + n)) (by omega)
      obtain ⟨hfa, hfb⟩ := mr (a := D) (b := o' + n) (by omega)
      have HQ := ae.mk (HG.out.symm.trans (A8 (.inr he)))
      have xi := AQ.out _ S.out.below
      go_wp2
      clear xi
      go_ret3
      rw [HQ.out]
      exact ⟨_, _, _, _, .cells #[] 0 (0, 0), .cells #[] 0 (0, 0), rfl, (fun h => by cases h), S.out.below⟩
     obtain ⟨hea, heb⟩ := lG (a := D) (b := wrap64 (o' + n)) (by omega)
     obtain ⟨hfa, hfb⟩ := lG (a := D) (b := o' + n) (by omega)
     have RI := ae.mk ((OX (fun h => h.elim hn he)).symm.trans HG.out)
     have HN := ae.mk hn
     have HD2 := ae.mk he
     clear hn hd he hg
     by_cases hx : ax = 1
     case pos =>
      have HX := ae.mk hx
      obtain ⟨hxa, hxb, hxd⟩ := wM (a := ax) (b := 1) (by omega)
      clear hx
      have KN := ae.mk (show nP ax (S0 + o') T0 E n = (⟨wrap64 (X + o'), Y, n, H⟩ : dD) by have hb := HB.out; have ho := qZ.out; have hs := HS1.out HX.out; rw [HX.out, piece1, hs.1, hs.2.1, hs.2.2.2, show wrap64 (X + o') = X + o' by rw [hs.1] at hb; unfold wrap64; omega])
      have HG2 := ae.mk (show nM ax S0 T0 D E (o' + n) false (ps ++ [(⟨wrap64 (X + o'), Y, n, H⟩ : dD)]) ls' ns = R by rw [← KN.out]; exact RI.out)
      have xi := AQ.out _ S.out.below
      go_wp2
      clear xi
      go_wp2
      refine iU (n := 17) (S := fun w' => St w _ _ _ _ _ w') (ds := [15]) (bA 17 0) (by kernel_rfl) rfl rfl (S.out.dP.call (bJ (Below.refl _ _))) (fun hHeld => ?_); refine eU x_.afQ x_.ach (fun aj dY => ?_)
      replace S := ae.mk (S.out.call (bJ (Below.refl _ _)))
      generalize wy.drew = CS at S hHeld ⊢
      refine ay 0 104 (bA 17 1) aj ?_
      refine ay 1 105 (bA 17 3) aj ?_
      refine dN 2 106 (bA 17 7) aj dY hHeld ?_ (hv := by intro w' hs_; have a_ := (hs_.at dQ 0).trans rfl; go_simp; with_reducible rfl)
      refine ay 3 107 (bA 17 15) aj ?_
      refine ay 4 108 (bA 17 31) aj ?_
      refine ay 5 109 (bA 17 63) aj ?_
      refine dN 6 110 (bA 17 127) aj dY hHeld ?_ (hv := by intro w' hs_; have aW := (hs_.at dQ 1).trans rfl; go_simp; with_reducible rfl)
      refine ay 7 111 (bA 17 255) aj ?_
      refine ay 8 112 (bA 17 511) aj ?_
      refine ay 9 113 (bA 17 1023) aj ?_
      refine dN 10 114 (bA 17 2047) aj dY hHeld ?_ (hv := by intro w' hs_; have xi := AQ.out _ hs_.below; go_simp; with_reducible rfl)
      refine ay 11 115 (bA 17 4095) aj ?_
      refine dN 12 116 (bA 17 8191) aj dY hHeld ?_ (hv := by intro w' hs_; have aX := (hs_.at dQ 3).trans rfl; go_simp; with_reducible rfl)
      refine ay 13 117 (bA 17 16383) aj ?_
      refine jH 14 (some 118) (bA 17 32767) aj (fun K hK => ?_)
      refine Va (w1 := ?_) (v := ?_) (by rfl) rfl ?_ ?_
      rotate_left 2
      ·go_simp
       constructor
       ·rfl
       ·rfl
      refine hK.out _ _ (S.out.dP.call (jk (Below.refl _ _) _)) (fun hHeld => ?_)
      clear hK K
      refine d_ 118 ?_
      refine oP 15 (some 119) (bA 17 65535) aj (fun K hK => ?_)
      refine LV k23 23 rfl 104 118 42 _ 32 Try.underlying42 info23 rfl (by decide) (by decide) (by decide) S iq ⟨wrap64 (X + o'), Y, n, H⟩ [.int .i64 (wrap64 (X + o')), .int .i64 Y, .int .i64 n, .int .i64 H] (fun _ _ _ => qR _ _ _ _) (by have := zN.out; omega) ?_
      clear S iq
      intro Kz cp2 NW fV S iq
      refine hK.out _ _ ?_
      clear hK K
      refine d_ 119 ?_
      refine ay 16 11 (bA 17 131071) aj ?_
      refine jJ (gK aj.out (by kernel_rfl)) ?_
      clear hHeld
      have xi := AQ.out _ S.out.below
      go_wp2
      clear xi
      have hw1 := HW1.out
      go_wp2
      go_roundg ns.length
      case measure => exact Nat.lt_of_lt_of_le (Nat.lt_succ_self _) fF.out
      case rel => exact ⟨pre ++ [n], ns, o' + n, _, ls', _, _, _, _, _, _, (by rw [List.length_append]; rfl), rfl, (by rw [HWG.out]), (by rw [hw1]), ⟨by rw [List.append_assoc]; exact HE.out⟩, Nat.le_refl _, ⟨by have := HO.out; have := qZ.out; have := HN.out; have := HD2.out; simp only [List.length_append, List.length_singleton]; omega⟩, ⟨by rw [show ((pre ++ [n]).length == 0) = false by simp]; exact HG2.out⟩, iq, mi, ⟨S.out.rC.rC.rC.rC⟩⟩
     case neg =>
      have HX := ae.mk (show ax = 2 by have := mG.out; omega)
      obtain ⟨hxa, hxb, hxd⟩ := eqF (a := ax) (b := 1) (by omega)
      clear hx
      have KN := ae.mk (show nP ax (S0 + o') T0 E n = (⟨X, wrap64 (Y + o'), Wd, n⟩ : dD) by have hb := HB.out; have ho := qZ.out; have hs := HS2.out HX.out; rw [HX.out, piece2, hs.1, hs.2.1, hs.2.2.2, show wrap64 (Y + o') = Y + o' by rw [hs.1] at hb; unfold wrap64; omega])
      have HG2 := ae.mk (show nM ax S0 T0 D E (o' + n) false (ps ++ [(⟨X, wrap64 (Y + o'), Wd, n⟩ : dD)]) ls' ns = R by rw [← KN.out]; exact RI.out)
      have xi := AQ.out _ S.out.below
      go_wp2
      clear xi
      go_wp2
      refine iU (n := 17) (S := fun w' => St w _ _ _ _ _ w') (ds := [15]) (bA 17 0) (by kernel_rfl) rfl rfl (S.out.dP.call (bJ (Below.refl _ _))) (fun hHeld => ?_); refine eU yc.afR yc.aci (fun aj dY => ?_)
      replace S := ae.mk (S.out.call (bJ (Below.refl _ _)))
      generalize wy.drew = CS at S hHeld ⊢
      refine ay 0 120 (bA 17 1) aj ?_
      refine ay 1 121 (bA 17 3) aj ?_
      refine dN 2 122 (bA 17 7) aj dY hHeld ?_ (hv := by intro w' hs_; have a_ := (hs_.at dQ 0).trans rfl; go_simp; with_reducible rfl)
      refine ay 3 123 (bA 17 15) aj ?_
      refine dN 4 124 (bA 17 31) aj dY hHeld ?_ (hv := by intro w' hs_; have aW := (hs_.at dQ 1).trans rfl; go_simp; with_reducible rfl)
      refine ay 5 125 (bA 17 63) aj ?_
      refine ay 6 126 (bA 17 127) aj ?_
      refine ay 7 127 (bA 17 255) aj ?_
      refine dN 8 128 (bA 17 511) aj dY hHeld ?_ (hv := by intro w' hs_; have aY := (hs_.at dQ 2).trans rfl; go_simp; with_reducible rfl)
      refine ay 9 129 (bA 17 1023) aj ?_
      refine ay 10 130 (bA 17 2047) aj ?_
      refine ay 11 131 (bA 17 4095) aj ?_
      refine dN 12 132 (bA 17 8191) aj dY hHeld ?_ (hv := by intro w' hs_; have xi := AQ.out _ hs_.below; go_simp; with_reducible rfl)
      refine ay 13 133 (bA 17 16383) aj ?_
      refine jH 14 (some 134) (bA 17 32767) aj (fun K hK => ?_)
      refine Va (w1 := ?_) (v := ?_) (by rfl) rfl ?_ ?_
      rotate_left 2
      ·go_simp
       constructor
       ·rfl
       ·rfl
      refine hK.out _ _ (S.out.dP.call (jk (Below.refl _ _) _)) (fun hHeld => ?_)
      clear hK K
      refine d_ 134 ?_
      refine oP 15 (some 135) (bA 17 65535) aj (fun K hK => ?_)
      refine LV k23 23 rfl 120 134 42 _ 32 Try.underlying42 info23 rfl (by decide) (by decide) (by decide) S iq ⟨X, wrap64 (Y + o'), Wd, n⟩ [.int .i64 X, .int .i64 (wrap64 (Y + o')), .int .i64 Wd, .int .i64 n] (fun _ _ _ => qR _ _ _ _) (by have := zN.out; omega) ?_
      clear S iq
      intro Kz cp2 NW fV S iq
      refine hK.out _ _ ?_
      clear hK K
      refine d_ 135 ?_
      refine ay 16 11 (bA 17 131071) aj ?_
      refine jJ (gK aj.out (by kernel_rfl)) ?_
      clear hHeld
      have xi := AQ.out _ S.out.below
      go_wp2
      clear xi
      have hw1 := HW1.out
      go_wp2
      go_roundg ns.length
      case measure => exact Nat.lt_of_lt_of_le (Nat.lt_succ_self _) fF.out
      case rel => exact ⟨pre ++ [n], ns, o' + n, _, ls', _, _, _, _, _, _, (by rw [List.length_append]; rfl), rfl, (by rw [HWG.out]), (by rw [hw1]), ⟨by rw [List.append_assoc]; exact HE.out⟩, Nat.le_refl _, ⟨by have := HO.out; have := qZ.out; have := HN.out; have := HD2.out; simp only [List.length_append, List.length_singleton]; omega⟩, ⟨by rw [show ((pre ++ [n]).length == 0) = false by simp]; exact HG2.out⟩, iq, mi, ⟨S.out.rC.rC.rC.rC⟩⟩
theorem Xp (c : ai) (hl : c.f3.length ≤ 1000000) (b : Nat) (P : Nat → Prop) (A : Option Addr) (cc : Nat) (w : World) (hv : Kd.V k26 26 w b P (.slice A c.f3.length cc) c.f3) :
  Calls Try.prog 194 #[.agg #[.int .u8 c.f0, .int .i64 c.f1.f0, .int .i64 c.f1.f1, .int .i64 c.f1.f2, .int .i64 c.f1.f3, .int .i64 c.f2, .slice A c.f3.length cc]] w fun e w' => ∃ A' c', e = .returned (.slice A' (je c).length c') ∧ (Kd.int .i64).R 3 w' w.heap.size (fun _ => True) (.slice A' (je c).length c') (je c) ∧ Below w.heap.size w w' := by
 have S := ae.mk (St.start (ts := [(.slice A c.f3.length cc, c.f3)]) (b0 := w.heap.size) (w := w) (P := P) (fun t ht => by rw [List.mem_singleton.1 ht]; exact fK hv))
 have gW := ae.mk hl
 clear hl hv
 obtain ⟨ck, ⟨cx, cy, cw, ch⟩, aU, l⟩ := c
 simp only [] at S gW ⊢
 rw [show je ⟨ck, ⟨cx, cy, cw, ch⟩, aU, l⟩ = l.map (qo ck) from rfl]
 simp only [List.length_map]
 go_enter Try.func194, Try.ntmps194
 go_wp2_with (first
  | (refine boxS 1 _ 26 S ?_; clear S; intro b1 dF S)
  | (refine ig 5 rfl ?_; refine lU (Kd.int .i64) 3 rfl 5 S ?_; clear S; intro Ap cp op dV S iq; have iD := (S.out.at bI 6).trans rfl)
  | fail)
 clear iD
 go_loopg [3, 9] l.length (fun gg v3 v9 wr => ∃ (pre rest : List ai) (Ap : Option Addr) (cp : Nat) (op : Obj), v3 = .slice Ap pre.length cp ∧ v9 = .int .i64 (pre.length : Int) ∧ ae (pre ++ rest = l) ∧ rest.length ≤ gg ∧ ae (KR (Kd.int .i64) 3 w.heap.size (.slice Ap pre.length cp) (pre.map (qo ck)) op) ∧ ae (St w P [((Value.slice Ap pre.length cp).ownBlock, op), (some b1, .cells #[.int .u8 ck, .int .i64 cx, .int .i64 cy, .int .i64 cw, .int .i64 ch, .int .i64 aU, .slice A l.length cc] 26 (0, 0))] [] [(.slice A l.length cc, l)] [] wr))
 case atStart => exact ⟨[], l, _, _, _, rfl, rfl, ⟨rfl⟩, Nat.le_refl _, iq, S⟩
 case round =>
  clear S iq
  obtain ⟨pre, rest, Ap, cp, op, rfl, rfl, HE, hgg, iq, S⟩ := hrel
  cases rest with
  | nil =>
   have hE := HE.out
   rw [List.append_nil] at hE
   have hE2 := hE.symm
   subst hE2
   clear hE HE hgg
   have hlt : ¬ ((l.length : Int) < (l.length : Int)) := by omega
   go_wp2
   go_ret
   exact ⟨_, _, rfl, S.out.FY iq.out (.head _), S.out.below⟩
  | cons k rest =>
   have hk : k ∈ l := by rw [← HE.out]; simp
   have hlt : (pre.length : Int) < (l.length : Int) := by rw [← HE.out, List.length_append, List.length_cons]; omega
   have hw1 : wrap64 ((pre.length : Int) + 1) = ((pre ++ [k]).length : Int) := by have := gW.out; rw [List.length_append, List.length_singleton]; unfold wrap64; omega
   have HW1 := ae.mk hw1
   have fF := ae.mk hgg
   have HK := ae.mk hk
   have EO := ae.mk (show pre.length ≤ 1048576 by have := gW.out; omega)
   obtain ⟨jS, ua, uc, ek, S1⟩ := S.out.elem (.head _) (pre.length : Int) (Int.natCast_nonneg _) hlt
   subst ek
   have hrd : aA l (pre.length : Int) = k := by rw [← HE.out]; exact lu pre k rest
   rw [hrd] at S1
   simp only [Int.toNat_natCast] at S1
   replace S := ae.mk S1
   clear S1 hrd hk hgg hw1
   by_cases hk2 : ck = 2
   case pos =>
    have hka : (ck == 2) = true := beq_iff_eq.mpr hk2
    have hkb : decide (ck = 2) = true := decide_eq_true hk2
    have KT := ae.mk (show (pre ++ [k]).map (qo ck) = pre.map (qo ck) ++ [k.f1.f2] by rw [List.map_append]; exact congrArg (pre.map (qo ck) ++ [·]) (if_pos hk2))
    clear hk2
    have fM := (S.out.at bI 0).trans rfl
    have iD := (S.out.at bI 6).trans rfl
    have iV := (S.out.cell _ kW).1
    go_wp2_with (first
     | (refine ig 24 rfl ?_; at_builtin; refine u_ (Kd.int .i64) 3 rfl 15 23 41 (.int .i64 0) 8 Try.underlying41 info3 rfl (by decide) (by decide) (by decide) S iq k.f1.f2 [.int .i64 k.f1.f2] (fun _ _ _ => rfl) (by have := EO.out; simp only [List.length_map]; omega) ?_; clear S iq; intro Kz cp2 NW fV S iq; clear fM iD iV)
     | fail)
    have e2 : ((pre.map (qo ck)) ++ [k.f1.f2]).length = (pre ++ [k]).length := by simp
    rw [e2, ← KT.out] at iq
    rw [e2] at S
    have hw1 := HW1.out
    go_wp2
    go_roundg rest.length
    case measure => exact Nat.lt_of_lt_of_le (Nat.lt_succ_self _) fF.out
    case rel => exact ⟨pre ++ [k], rest, _, _, _, (by rw [List.length_append]; rfl), (by rw [hw1]), ⟨by rw [List.append_assoc]; exact HE.out⟩, Nat.le_refl _, iq, ⟨S.out.t_.t_.dE.bg.bg.bg.bg.bg.bg.bg⟩⟩
   case neg =>
    have hka : (ck == 2) = false := beq_eq_false_iff_ne.mpr hk2
    have hkb : decide (ck = 2) = false := decide_eq_false hk2
    have KT := ae.mk (show (pre ++ [k]).map (qo ck) = pre.map (qo ck) ++ [k.f1.f3] by rw [List.map_append]; exact congrArg (pre.map (qo ck) ++ [·]) (if_neg hk2))
    clear hk2
    have fM := (S.out.at bI 0).trans rfl
    have iD := (S.out.at bI 6).trans rfl
    have iW := (S.out.cell _ qj).1
    go_wp2_with (first
     | (refine ig 34 rfl ?_; at_builtin; refine u_ (Kd.int .i64) 3 rfl 25 33 41 (.int .i64 0) 8 Try.underlying41 info3 rfl (by decide) (by decide) (by decide) S iq k.f1.f3 [.int .i64 k.f1.f3] (fun _ _ _ => rfl) (by have := EO.out; simp only [List.length_map]; omega) ?_; clear S iq; intro Kz cp2 NW iQ S iq; clear fM iD iW)
     | fail)
    have e2 : ((pre.map (qo ck)) ++ [k.f1.f3]).length = (pre ++ [k]).length := by simp
    rw [e2, ← KT.out] at iq
    rw [e2] at S
    have hw1 := HW1.out
    go_wp2
    go_roundg rest.length
    case measure => exact Nat.lt_of_lt_of_le (Nat.lt_succ_self _) fF.out
    case rel => exact ⟨pre ++ [k], rest, _, _, _, (by rw [List.length_append]; rfl), (by rw [hw1]), ⟨by rw [List.append_assoc]; exact HE.out⟩, Nat.le_refl _, iq, ⟨S.out.t_.t_.dE.bg.bg.bg.bg.bg.bg.bg⟩⟩
def uJ.T3 : Bool × List (List Nat × List Nat) := (true, [([], []), ([0], [0]), ([], []), ([2], [2]), ([3], [3]), ([], []), ([5], [5]), ([1, 4, 6, 6], [1, 4, 6]), ([7], [7]), ([8], [8]), ([8], [8]), ([8], [8]), ([9, 7, 0, 1, 2, 3, 4, 5, 6, 7, 8, 9], [9]), ([10, 12, 0, 1, 2, 3, 4, 5, 6, 7, 8, 9, 10, 12], [10]), ([11, 13, 0, 1, 2, 3, 4, 5, 6, 7, 8, 9, 10, 11, 12, 13], [11])])
def uJ.B3 : List Nat := [0, 1, 0, 4, 12, 0, 32, 127, 255, 511, 511, 511, 1023, 6143, 16383]
theorem uJ.Rl : g_ .any (opsOf Try.f178 3) = uJ.T3 := by kernel_rfl
theorem uJ.Kr : iO uJ.T3.2 uJ.B3 = true := by kernel_rfl
def uK.T9 : Bool × List (List Nat × List Nat) := (true, [([], []), ([], []), ([0, 1], [0, 1]), ([2], [2]), ([], []), ([4], [4]), ([], []), ([5, 6], [5, 6]), ([7], [7]), ([8], [8]), ([3, 9], [3, 9])])
def uK.B9 : List Nat := [0, 0, 3, 7, 0, 16, 0, 112, 240, 496, 1023]
theorem uK.zK : g_ .any (opsOf Try.f178 9) = uK.T9 := by kernel_rfl
theorem uK.vU : iO uK.T9.2 uK.B9 = true := by kernel_rfl
theorem UG (c : ai) (hl : c.f3.length ≤ 1000000) (b : Nat) (P : Nat → Prop) (A : Option Addr) (cc : Nat) (w : World) (hv : Kd.V k26 26 w b P (.slice A c.f3.length cc) c.f3) :
  Calls Try.prog 178 #[.agg #[.int .u8 c.f0, .int .i64 c.f1.f0, .int .i64 c.f1.f1, .int .i64 c.f1.f2, .int .i64 c.f1.f3, .int .i64 c.f2, .slice A c.f3.length cc]] w (Qj w c) := by
 have S := ae.mk (St.start (ts := [(.slice A c.f3.length cc, c.f3)]) (b0 := w.heap.size) (w := w) (P := P) (fun t ht => by rw [List.mem_singleton.1 ht]; exact fK hv))
 have gW := ae.mk hl
 have hsz := fun b P A cc w hv => Xp c hl b P A cc w hv
 obtain ⟨T, hT⟩ : ∃ T, T = yx c := ⟨_, rfl⟩
 have hlen : T.2.2 = true → T.1.length = c.f3.length := fun h => by rw [hT] at h ⊢; rw [(Dk h).2.1, MK]; simp [je]
 have hl2 : T.2.1.length ≤ c.f3.length := by rw [hT]; exact (ML c).2
 have hcut := fun B cb w hi => aeg c.f1.f0 c.f1.f1 c.f1.f2 c.f1.f3 ((c.f0 - 1) % 256) (je c) (by simpa [je] using hl) B cb w hi
 rw [show qA c.f1.f0 c.f1.f1 c.f1.f2 c.f1.f3 ((c.f0 - 1) % 256) (je c) = T by rw [hT, YI]; rfl] at hcut
 have ho : mF c = B_ c T := by rw [hT]; rfl
 generalize je c = SL at hsz hcut
 unfold Qj
 generalize mF c = v at ho ⊢
 clear hT hl hv
 obtain ⟨ck, ⟨cx, cy, cw, ch⟩, aU, l⟩ := c
 obtain ⟨t1, t2, t3⟩ := T
 simp only [B_] at S gW hsz hlen hl2 hcut ho ⊢
 have HZC := ae.mk hsz
 have HL2 := ae.mk hl2
 clear hsz hl2
 by_cases h1 : ck = 1
 case pos =>
  have hv : v = true := by rw [ho, h1]; rfl
  have ha : (ck == 1) = true := beq_iff_eq.mpr h1
  have hb : decide (ck = 1) = true := decide_eq_true h1
  have HL := ae.mk hv
  clear hv h1 ho hcut hlen
  go_enter Try.func178, Try.ntmps178
  go_wp2_with (first | (refine boxS 1 _ 26 S ?_; clear S; intro b1 dF S; have fM := (S.out.at (.head _) 0).trans rfl) | (refine ig 11 rfl ?_; refine lU k23 23 rfl 11 S ?_; clear S; intro akf ako akA dV S yE; clear fM))
  go_ret2
  rw [HL.out]
  exact ⟨_, _, _, rfl, fun _ => ⟨[], rfl, Nat.zero_le _, S.out.FY yE.out (.head _)⟩, S.out.below⟩
 have ha : (ck == 1) = false := beq_eq_false_iff_ne.mpr h1
 have hd : decide (ck = 1) = false := decide_eq_false h1
 rw [ha, Bool.false_or] at ho
 clear h1
 cases t3 with
 | false =>
  rw [Bool.false_and] at ho
  have HL := ae.mk ho
  have Gq := ae.mk (fun B cb w hi => MM (hcut B cb w hi))
  clear hcut ho hlen
  go_enter Try.func178, Try.ntmps178
  go_wp2_with ((refine boxS 1 _ 26 S ?_; clear S; intro b1 dF S; have fM := (S.out.at (.head _) 0).trans rfl))
  clear fM
  refine iU (n := 15) (S := fun w' => St w _ _ _ _ _ w') (ds := []) (bA 15 0) (by kernel_rfl) rfl rfl (S.out.call (bJ (Below.refl _ _))) (fun hHeld => ?_); refine eU uJ.Rl uJ.Kr (fun aj dY => ?_)
  replace S := ae.mk (S.out.call (bJ (Below.refl _ _)))
  generalize dF.drew = wd2 at S hHeld ⊢
  refine ay 0 13 (bA 15 1) aj ?_
  refine dN 1 14 (bA 15 3) aj dY hHeld ?_ (hv := by intro w' hs_; have jV := (hs_.at (.head _) 1).trans rfl; have jW := (hs_.at (.head _) 2).trans rfl; have jX := (hs_.at (.head _) 3).trans rfl; have jY := (hs_.at (.head _) 4).trans rfl; go_simp; with_reducible rfl)
  refine ay 2 15 (bA 15 7) aj ?_
  refine dN 3 16 (bA 15 15) aj dY hHeld ?_ (hv := by intro w' hs_; have fM := (hs_.at (.head _) 0).trans rfl; go_simp; with_reducible rfl)
  refine ay 4 17 (bA 15 31) aj ?_
  refine dN 5 18 (bA 15 63) aj dY hHeld ?_ (hv := by intro w' hs_; have fM := (hs_.at (.head _) 0).trans rfl; have jV := (hs_.at (.head _) 1).trans rfl; have jW := (hs_.at (.head _) 2).trans rfl; have jX := (hs_.at (.head _) 3).trans rfl; have jY := (hs_.at (.head _) 4).trans rfl; have lZ := (hs_.at (.head _) 5).trans rfl; have iD := (hs_.at (.head _) 6).trans rfl; go_simp; with_reducible rfl)
  refine jH 6 (some 19) (bA 15 127) aj (fun K hK => ?_)
  refine jD Try.func194 (by kernel_rfl) rfl #[.agg #[.int .u8 ck, .int .i64 cx, .int .i64 cy, .int .i64 cw, .int .i64 ch, .int .i64 aU, .slice A l.length cc]] (by rfl) rfl rfl (by (try simp only [List.map_toArray, List.map_cons, List.map_nil]); rfl) ?_
  refine (HZC.out _ _ _ _ _ (S.out.tree _ (.head _))).mono ?_
  rintro e fV ⟨As, cs, rfl, h1, hb⟩
  refine ⟨_, rfl, ?_⟩
  obtain ⟨os, S1, hI⟩ := S.out.F8 (d := Kd.int .i64) (e := 3) rfl h1 hb
  replace S := ae.mk S1
  have HKs := ae.mk hI
  clear S1 hI h1 hb
  refine hK.out _ _ S.out.dP (fun hHeld => ?_)
  clear hK K
  refine d_ 19 ?_
  refine jH 7 (some 20) (bA 15 255) aj (fun K hK => ?_)
  refine jD Try.func46 (by kernel_rfl) rfl #[.agg #[.int .i64 cx, .int .i64 cy, .int .i64 cw, .int .i64 ch], .int .u8 ((ck - 1) % 256), .slice As SL.length cs] (by rfl) rfl rfl (by (try simp only [List.map_toArray, List.map_cons, List.map_nil]); rfl) ?_
  refine (Gq.out _ _ _ (Kd.dO (KY HKs.out S.out (.head _))).2.2).mono ?_
  rintro e iQ ⟨Ap, np, cp, Aq, nq, cq, rfl, hb⟩
  refine ⟨_, rfl, ?_⟩
  replace S := ae.mk (S.out.call hb)
  clear hb
  refine hK.out _ _ S.out.dP (fun hHeld => ?_)
  clear hK K
  refine d_ 20 ?_
  refine ay 8 12 (bA 15 511) aj ?_
  refine ay 9 21 (bA 15 1023) aj ?_
  refine ay 10 22 (bA 15 2047) aj ?_
  refine ay 11 23 (bA 15 4095) aj ?_
  refine ay 12 4 (bA 15 8191) aj ?_
  refine ay 13 5 (bA 15 16383) aj ?_
  refine ay 14 6 (bA 15 32767) aj ?_
  refine jJ (gK aj.out (by kernel_rfl)) ?_
  clear hHeld
  go_wp2
  go_ret2
  rw [HL.out]
  exact ⟨_, _, _, rfl, (fun h => by cases h), S.out.below⟩
 | true =>
  replace hlen := hlen rfl
  rw [Bool.true_and, show (l.length == t1.length) = true from beq_iff_eq.mpr hlen.symm, Bool.true_and] at ho
  have HL := ae.mk ho
  have zN := ae.mk hlen
  have Gq := ae.mk (fun B cb w hi => OY (hcut B cb w hi))
  clear hcut ho hlen
  go_enter Try.func178, Try.ntmps178
  go_wp2_with ((refine boxS 1 _ 26 S ?_; clear S; intro b1 dF S; have fM := (S.out.at (.head _) 0).trans rfl))
  clear fM
  refine iU (n := 15) (S := fun w' => St w _ _ _ _ _ w') (ds := []) (bA 15 0) (by kernel_rfl) rfl rfl (S.out.call (bJ (Below.refl _ _))) (fun hHeld => ?_); refine eU uJ.Rl uJ.Kr (fun aj dY => ?_)
  replace S := ae.mk (S.out.call (bJ (Below.refl _ _)))
  generalize dF.drew = wd2 at S hHeld ⊢
  refine ay 0 13 (bA 15 1) aj ?_
  refine dN 1 14 (bA 15 3) aj dY hHeld ?_ (hv := by intro w' hs_; have jV := (hs_.at (.head _) 1).trans rfl; have jW := (hs_.at (.head _) 2).trans rfl; have jX := (hs_.at (.head _) 3).trans rfl; have jY := (hs_.at (.head _) 4).trans rfl; go_simp; with_reducible rfl)
  refine ay 2 15 (bA 15 7) aj ?_
  refine dN 3 16 (bA 15 15) aj dY hHeld ?_ (hv := by intro w' hs_; have fM := (hs_.at (.head _) 0).trans rfl; go_simp; with_reducible rfl)
  refine ay 4 17 (bA 15 31) aj ?_
  refine dN 5 18 (bA 15 63) aj dY hHeld ?_ (hv := by intro w' hs_; have fM := (hs_.at (.head _) 0).trans rfl; have jV := (hs_.at (.head _) 1).trans rfl; have jW := (hs_.at (.head _) 2).trans rfl; have jX := (hs_.at (.head _) 3).trans rfl; have jY := (hs_.at (.head _) 4).trans rfl; have lZ := (hs_.at (.head _) 5).trans rfl; have iD := (hs_.at (.head _) 6).trans rfl; go_simp; with_reducible rfl)
  refine jH 6 (some 19) (bA 15 127) aj (fun K hK => ?_)
  refine jD Try.func194 (by kernel_rfl) rfl #[.agg #[.int .u8 ck, .int .i64 cx, .int .i64 cy, .int .i64 cw, .int .i64 ch, .int .i64 aU, .slice A l.length cc]] (by rfl) rfl rfl (by (try simp only [List.map_toArray, List.map_cons, List.map_nil]); rfl) ?_
  refine (HZC.out _ _ _ _ _ (S.out.tree _ (.head _))).mono ?_
  rintro e fV ⟨As, cs, rfl, h1, hb⟩
  refine ⟨_, rfl, ?_⟩
  obtain ⟨os, S1, hI⟩ := S.out.F8 (d := Kd.int .i64) (e := 3) rfl h1 hb
  replace S := ae.mk S1
  have HKs := ae.mk hI
  clear S1 hI h1 hb
  refine hK.out _ _ S.out.dP (fun hHeld => ?_)
  clear hK K
  refine d_ 19 ?_
  refine jH 7 (some 20) (bA 15 255) aj (fun K hK => ?_)
  refine jD Try.func46 (by kernel_rfl) rfl #[.agg #[.int .i64 cx, .int .i64 cy, .int .i64 cw, .int .i64 ch], .int .u8 ((ck - 1) % 256), .slice As SL.length cs] (by rfl) rfl rfl (by (try simp only [List.map_toArray, List.map_cons, List.map_nil]); rfl) ?_
  refine (Gq.out _ _ _ (Kd.dO (KY HKs.out S.out (.head _))).2.2).mono ?_
  rintro e iQ ⟨Ap, cp, Aq, cq, op, oq, rfl, h1, hb⟩
  refine ⟨_, rfl, ?_⟩
  obtain ⟨S1, hp, hq⟩ := S.out.two h1 hb
  replace S := ae.mk S1
  have iq := ae.mk hp
  have mi := ae.mk hq
  clear S1 hp hq h1 hb
  refine hK.out _ _ S.out.dP.dP.dP (fun hHeld => ?_)
  clear hK K
  refine d_ 20 ?_
  refine ay 8 12 (bA 15 511) aj ?_
  refine ay 9 21 (bA 15 1023) aj ?_
  refine ay 10 22 (bA 15 2047) aj ?_
  refine ay 11 23 (bA 15 4095) aj ?_
  refine ay 12 4 (bA 15 8191) aj ?_
  refine ay 13 5 (bA 15 16383) aj ?_
  refine ay 14 6 (bA 15 32767) aj ?_
  refine jJ (gK aj.out (by kernel_rfl)) ?_
  clear hHeld
  go_wp2
  clear ha hd
  go_loopg [29] t1.length (fun gg v29 wr => ∃ (pre rest : List dD) (pb rb : List ai), v29 = .int .i64 (pre.length : Int) ∧ ae (pre ++ rest = t1) ∧ ae (pb ++ rb = l) ∧ ae (pb.length = pre.length) ∧ ae (su (fun k r => qG k.f1 r) pb pre = true) ∧ rest.length ≤ gg ∧ ae (St w P [((Value.slice Ap t1.length cp).ownBlock, op), ((Value.slice Aq t2.length cq).ownBlock, oq), ((Value.slice As SL.length cs).ownBlock, os), (some b1, .cells #[.int .u8 ck, .int .i64 cx, .int .i64 cy, .int .i64 cw, .int .i64 ch, .int .i64 aU, .slice A l.length cc] 26 (0, 0))] [] [(.slice A l.length cc, l)] [] wr))
  case atStart => exact ⟨[], t1, [], l, rfl, ⟨rfl⟩, ⟨rfl⟩, ⟨rfl⟩, ⟨Il _ _⟩, Nat.le_refl _, S⟩
  case round =>
   clear S
   obtain ⟨pre, rest, pb, rb, rfl, HE, HE2, EN, HSM, hgg, S⟩ := hrel
   have hlr : rb.length = rest.length := by have h1 := congrArg List.length HE.out; have h2 := congrArg List.length HE2.out; rw [List.length_append] at h1 h2; have := EN.out; have := zN.out; omega
   cases rest with
   | nil =>
    have hrb := List.eq_nil_of_length_eq_zero hlr
    subst hrb
    have hE := HE.out
    rw [List.append_nil] at hE
    have hE3 := HE2.out
    rw [List.append_nil] at hE3
    have HV := ae.mk (show v = true by rw [HL.out, ← hE, ← hE3]; exact HSM.out)
    have hlt : ¬ ((pre.length : Int) < (t1.length : Int)) := by rw [hE]; omega
    have adP : ¬ (pre.length < t1.length) := by omega
    clear HE HE2 hgg hlr hE hE3
    go_wp2
    go_ret2
    rw [HV.out]
    exact ⟨_, _, _, rfl, fun _ => ⟨t2, rfl, HL2.out, S.out.FY mi.out bI⟩, S.out.below⟩
   | cons r rest =>
    cases rb with
    | nil => simp at hlr
    | cons k rb =>
     have hlt : (pre.length : Int) < (t1.length : Int) := by rw [← HE.out, List.length_append, List.length_cons]; omega
     have hlt2 : (pb.length : Int) < (l.length : Int) := by rw [← HE2.out, List.length_append, List.length_cons]; omega
     have hlt3 : pre.length < l.length := by have := EN.out; omega
     have adP : pre.length < t1.length := by omega
     have hlt4 : (pre.length : Int) < (l.length : Int) := by omega
     have hw1 : wrap64 ((pre.length : Int) + 1) = ((pre ++ [r]).length : Int) := by have := gW.out; have := zN.out; rw [List.length_append, List.length_singleton]; unfold wrap64; omega
     have HW1 := ae.mk hw1
     have fF := ae.mk hgg
     obtain ⟨jS, ua, uc, ek, S1⟩ := S.out.elem (.head _) (pb.length : Int) (Int.natCast_nonneg _) hlt2
     subst ek
     have hrd : aA l (pb.length : Int) = k := by rw [← HE2.out]; exact lu pb k rb
     rw [hrd] at S1
     simp only [Int.toNat_natCast] at S1
     rw [EN.out] at S1
     replace S := ae.mk S1
     obtain ⟨yF, ep, hel⟩ := abX iq.out (S.out.blk _ (.head _)) pre rest r HE.out
     subst ep
     have Gs := ae.mk hel
     clear S1 hrd hgg hw1 hlr hel hlt2
     cases hq : qG k.f1 r with
     | false =>
      have HQ := ae.mk hq
      have HV := ae.mk (show v = false by rw [HL.out, ← HE.out, ← HE2.out, O0 EN.out, HSM.out]; simp [su, hq])
      clear hq
      go_wp2
      refine iU (n := 11) (S := fun w' => St w _ _ _ _ _ w') (ds := []) (bA 11 0) (by kernel_rfl) rfl rfl (S.out.call (bJ (Below.refl _ _))) (fun hHeld => ?_); refine eU uK.zK uK.vU (fun aj dY => ?_)
      replace S := ae.mk (S.out.call (bJ (Below.refl _ _)))
      generalize wr.drew = CS at S hHeld ⊢
      refine ay 0 32 (bA 11 1) aj ?_
      refine ay 1 33 (bA 11 3) aj ?_
      refine ay 2 34 (bA 11 7) aj ?_
      refine dN 3 35 (bA 11 15) aj dY hHeld ?_ (hv := by intro w' hs_; have xp0 := (Gs.out _ (hs_.blk _ (.head _))).1; have xp1 := (Gs.out _ (hs_.blk _ (.head _))).2.1; have xp2 := (Gs.out _ (hs_.blk _ (.head _))).2.2.1; have xp3 := (Gs.out _ (hs_.blk _ (.head _))).2.2.2; go_simp; with_reducible rfl)
      refine ay 4 36 (bA 11 31) aj ?_
      refine dN 5 37 (bA 11 63) aj dY hHeld ?_ (hv := by intro w' hs_; have iD := (hs_.at kW 6).trans rfl; go_simp; with_reducible rfl)
      refine ay 6 38 (bA 11 127) aj ?_
      refine ay 7 39 (bA 11 255) aj ?_
      refine ay 8 40 (bA 11 511) aj ?_
      refine dN 9 41 (bA 11 1023) aj dY hHeld ?_ (hv := by intro w' hs_; have iw := (hs_.cell _ bI).1; have jf := (hs_.cell _ dQ).1; have iV := (hs_.cell _ kW).1; have iW := (hs_.cell _ qj).1; go_simp; with_reducible rfl)
      refine dN 10 42 (bA 11 2047) aj dY hHeld ?_ (hv := by intro w' hs_; go_simp; exact ad8 HQ.out _ _)
      refine jJ (gK aj.out (by kernel_rfl)) ?_
      clear hHeld
      go_wp2_with ((refine ig 43 rfl ?_; refine lU k23 23 rfl 43 S ?_; clear S; intro akg akp akB dV S yE))
      go_ret2
      rw [HV.out]
      exact ⟨_, _, _, rfl, (fun h => by cases h), S.out.below⟩
     | true =>
      have HEQ := ae.mk (show su (fun k r => qG k.f1 r) (pb ++ [k]) (pre ++ [r]) = true by rw [O0 EN.out, HSM.out]; simp [su, hq])
      obtain ⟨q0, q1, q2, q3⟩ := r
      unfold qG at hq
      simp only [Bool.and_eq_true, beq_iff_eq] at hq
      obtain ⟨e0, e1, e2, e3⟩ := hq
      subst e0 e1 e2 e3
      simp only [] at Gs
      go_wp2
      refine iU (n := 11) (S := fun w' => St w _ _ _ _ _ w') (ds := []) (bA 11 0) (by kernel_rfl) rfl rfl (S.out.call (bJ (Below.refl _ _))) (fun hHeld => ?_); refine eU uK.zK uK.vU (fun aj dY => ?_)
      replace S := ae.mk (S.out.call (bJ (Below.refl _ _)))
      generalize wr.drew = CS at S hHeld ⊢
      refine ay 0 32 (bA 11 1) aj ?_
      refine ay 1 33 (bA 11 3) aj ?_
      refine ay 2 34 (bA 11 7) aj ?_
      refine dN 3 35 (bA 11 15) aj dY hHeld ?_ (hv := by intro w' hs_; have xp0 := (Gs.out _ (hs_.blk _ (.head _))).1; have xp1 := (Gs.out _ (hs_.blk _ (.head _))).2.1; have xp2 := (Gs.out _ (hs_.blk _ (.head _))).2.2.1; have xp3 := (Gs.out _ (hs_.blk _ (.head _))).2.2.2; go_simp; with_reducible rfl)
      refine ay 4 36 (bA 11 31) aj ?_
      refine dN 5 37 (bA 11 63) aj dY hHeld ?_ (hv := by intro w' hs_; have iD := (hs_.at kW 6).trans rfl; go_simp; with_reducible rfl)
      refine ay 6 38 (bA 11 127) aj ?_
      refine ay 7 39 (bA 11 255) aj ?_
      refine ay 8 40 (bA 11 511) aj ?_
      refine dN 9 41 (bA 11 1023) aj dY hHeld ?_ (hv := by intro w' hs_; have iw := (hs_.cell _ bI).1; have jf := (hs_.cell _ dQ).1; have iV := (hs_.cell _ kW).1; have iW := (hs_.cell _ qj).1; go_simp; with_reducible rfl)
      refine ay 10 42 (bA 11 2047) aj ?_
      refine jJ (gK aj.out (by kernel_rfl)) ?_
      clear hHeld
      go_wp2
      have hw1 := HW1.out
      go_wp2
      go_roundg rest.length
      case measure => exact Nat.lt_of_lt_of_le (Nat.lt_succ_self _) fF.out
      case rel => exact ⟨pre ++ [_], rest, pb ++ [k], rb, (by rw [hw1]), ⟨by rw [List.append_assoc]; exact HE.out⟩, ⟨by rw [List.append_assoc]; exact HE2.out⟩, ⟨by rw [List.length_append, List.length_append, EN.out]; rfl⟩, HEQ, Nat.le_refl _, ⟨S.out.dE.bg.bg.bg.bg.bg.bg.bg⟩⟩
section
variable {W : World} {b : Nat} {P : Nat → Prop} {A : Option Addr} {cc : Nat}
theorem LQ (c : ai) (hz : sz c ≤ 1048576) (hV : Kd.V k26 26 W b P (.slice A c.f3.length cc) c.f3) :
  Calls Try.prog 79 #[.agg #[.int .u8 c.f0, .int .i64 c.f1.f0, .int .i64 c.f1.f1, .int .i64 c.f1.f2, .int .i64 c.f1.f3, .int .i64 c.f2, .slice A c.f3.length cc]] W fun e w' => ∃ A' c', e = .returned (.slice A' (fG c).length c') ∧ Kd.N k26 26 w' W.heap.size (fun k => P k ∨ W.heap.size ≤ k) (.slice A' (fG c).length c') (fG c) ∧ Below W.heap.size W w' := by
 obtain ⟨k, hk⟩ := (Jv (sz c) c (Nat.le_refl _) hz).rounds
 exact (dB.calls k _ _ _ _ _ _ P A cc c.f3 _ W (fK hV) hk).mono (fun e w' ⟨v, he, hN, hB⟩ => by
  obtain ⟨A', c', rfl⟩ := Kd.jw hN
  exact ⟨A', c', he, hN, hB⟩)
theorem WC (c : ai) (hz : sz c ≤ 1048576) (hV : Kd.V k26 26 W b P (.slice A c.f3.length cc) c.f3) :
  Calls Try.prog 126 #[.agg #[.int .u8 c.f0, .int .i64 c.f1.f0, .int .i64 c.f1.f1, .int .i64 c.f1.f2, .int .i64 c.f1.f3, .int .i64 c.f2, .slice A c.f3.length cc]] W fun e w' => ∃ A' c', e = .returned (.slice A' (lT c).length c') ∧ Kd.N k26 26 w' W.heap.size (fun k => P k ∨ W.heap.size ≤ k) (.slice A' (lT c).length c') (lT c) ∧ Below W.heap.size W w' := by
 obtain ⟨k, hk⟩ := (Us c hz).rounds
 exact (dJ.calls k _ _ _ _ _ _ P A cc c.f3 _ W (fK hV) hk).mono (fun e w' ⟨v, he, hN, hB⟩ => by
  obtain ⟨A', c', rfl⟩ := Kd.jw hN
  exact ⟨A', c', he, hN, hB⟩)
theorem uG {r : dD} {v : Bool} (h : jU r = v) : Calls Try.prog 57 #[.agg #[.int .i64 r.f0, .int .i64 r.f1, .int .i64 r.f2, .int .i64 r.f3]] W fun e w' => e = .returned (.bool v) ∧ Below W.heap.size W w' :=
 oG.calls _ _ _ _ _ W ((EW _ _ _ _).trans (congrArg some h))
end
def oW (L M : List ai) : Bool := decide (L.length ≤ 20000) && (L.all mf && eF M)
theorem sF {pre rest M : List ai} {k : ai} (h : mf k = false) : oW (pre ++ k :: rest) M = false := by
 unfold oW
 rw [List.all_append, List.all_cons, h, Bool.false_and, Bool.and_false, Bool.false_and, Bool.and_false]
theorem xN {k : ai} (h : jU k.f1 = false ∨ k.f0 < 1 ∨ 3 < k.f0 ∨ (k.f0 = 1 ∧ (0 < k.f3.length ∨ k.f2 < 0 ∨ 2147483647 < k.f2)) ∨ (1 < k.f0 ∧ (k.f3.length < 2 ∨ k.f2 ≠ 0))) : mf k = false := by
 cases hk : mf k with
 | false => rfl
 | true =>
  exfalso
  unfold mf at hk
  simp only [Bool.and_eq_true, decide_eq_true_eq] at hk
  obtain ⟨⟨⟨h1, h2⟩, h3⟩, h4⟩ := hk
  rcases h with h | h | h | h | h
  ·rw [h1] at h; cases h
  ·omega
  ·omega
  ·have := h3 h.1; omega
  ·have := h4 h.1; omega
theorem PK {k : ai} (h1 : jU k.f1 = true) (h2 : 1 ≤ k.f0 ∧ k.f0 ≤ 3) (h3 : k.f0 = 1 → k.f3.length = 0 ∧ 0 ≤ k.f2 ∧ k.f2 ≤ 2147483647) (h4 : k.f0 > 1 → 2 ≤ k.f3.length ∧ k.f2 = 0) : mf k = true := by
 unfold mf
 rw [h1, decide_eq_true h2, decide_eq_true h3, decide_eq_true h4]
 rfl
theorem Ov {pre rest : List ai} {k : ai} (h : oz pre k = false) : eF (pre ++ k :: rest) = false := by
 have h2 : eF (pre ++ [k]) = false := by rw [qM, h, Bool.and_false]
 have h3 := yz (pre ++ [k]) rest h2
 rwa [List.append_assoc] at h3
theorem afx (c : ai) (hz : sz c ≤ 1048576) (A : Option Addr) (cc : Nat) (w : World) (hr : Kd.C k26 w A c.f3.length c.f3) (hc : c.f3.length ≤ cc) :
  Calls Try.prog 38 #[.agg #[.int .u8 c.f0, .int .i64 c.f1.f0, .int .i64 c.f1.f1, .int .i64 c.f1.f2, .int .i64 c.f1.f3, .int .i64 c.f2, .slice A c.f3.length cc]] w fun e w' => e = .returned (.bool (kU c)) ∧ Below w.heap.size w w' := by
 have S := ae.mk (St.start (ts := [(.slice A c.f3.length cc, c.f3)]) (b0 := w.heap.size) (w := w) (P := fun k => k < w.heap.size) (fun t ht => by
  rw [List.mem_singleton.1 ht]; exact Kd.wU hc (Kd.Gj qE hr)))
 have HZ := ae.mk hz
 have HM := ae.mk (show kU c = oW (fG c) (lT c) from rfl)
 have HLZ := ae.mk (show (fG c).length ≤ 1048576 from hz)
 have XB := ae.mk (show (lT c).length ≤ 1048576 from Nat.le_trans (List.length_filter_le _ _) hz)
 clear hr hc hz
 obtain ⟨ck, ⟨cx, cy, cw, ch⟩, aU, l⟩ := c
 simp only [] at S HZ HM HLZ XB
 have We := fun W b P A cc hV => @LQ W b P A cc ⟨ck, ⟨cx, cy, cw, ch⟩, aU, l⟩ HZ.out hV
 have Wh := fun W b P A cc hV => @WC W b P A cc ⟨ck, ⟨cx, cy, cw, ch⟩, aU, l⟩ HZ.out hV
 rw [HM.out]
 generalize fG ⟨ck, ⟨cx, cy, cw, ch⟩, aU, l⟩ = L at HM HLZ We ⊢
 generalize lT ⟨ck, ⟨cx, cy, cw, ch⟩, aU, l⟩ = M at HM XB Wh ⊢
 have HA := ae.mk We
 have HLE := ae.mk Wh
 clear HM We Wh
 by_cases hl : 20000 < L.length
 case pos =>
  obtain ⟨hla, hlb⟩ := mr (a := 20000) (b := (L.length : Int)) (by omega)
  have hlc : decide (20000 < L.length) = true := decide_eq_true (by omega)
  have HB := ae.mk (show oW L M = false by unfold oW; rw [decide_eq_false (by omega), Bool.false_and])
  clear hl
  go_enter Try.func38, Try.ntmps38
  go_wp2_with (first
   | (refine boxS 1 _ 26 S ?_; clear S; intro b1 dF S; obtain ⟨fM, jV, jW, jX, jY, lZ, iD⟩ := St.ed S (.head _))
   | (refine Ez (some 9) Try.func79 S (HA.out _ _ _ _ _ (S.out.tree _ (.head _))) ?_; clear S; intro Aa ca dV S; clear fM jV jW jX jY lZ iD)
   | fail)
  go_ret
  refine ⟨?_, S.out.below⟩
  rw [HB.out]
  rfl
 obtain ⟨hla, hlb⟩ := lG (a := 20000) (b := (L.length : Int)) (by omega)
 have hlc : decide (20000 < L.length) = false := decide_eq_false (by omega)
 have HL := ae.mk hl
 clear hl
 go_enter Try.func38, Try.ntmps38
 go_wp2_with (first
  | (refine boxS 1 _ 26 S ?_; clear S; intro b1 fV S; obtain ⟨fM, jV, jW, jX, jY, lZ, iD⟩ := St.ed S (.head _))
  | (refine Ez (some 9) Try.func79 S (HA.out _ _ _ _ _ (S.out.tree _ (.head _))) ?_; clear S; intro Aa ca iQ S; clear fM jV jW jX jY lZ iD)
  | fail)
 clear hla hlb hlc
 go_loopg [15] L.length (fun gg v15 wr => ∃ (pre rest : List ai), v15 = .int .i64 (pre.length : Int) ∧ ae (pre ++ rest = L) ∧ rest.length ≤ gg ∧ ae (pre.all mf = true) ∧ ae (St w (fun k => k < w.heap.size) [(some b1, .cells #[.int .u8 ck, .int .i64 cx, .int .i64 cy, .int .i64 cw, .int .i64 ch, .int .i64 aU, .slice A l.length cc] 26 (0, 0))] [] [(.slice Aa L.length ca, L), (.slice A l.length cc, l)] [] wr))
 case atStart => exact ⟨[], L, rfl, ⟨rfl⟩, Nat.le_refl _, ⟨rfl⟩, ⟨S.out⟩⟩
 case round =>
  clear S
  obtain ⟨pre, rest, rfl, HE, hgg, RQ, S⟩ := hrel
  cases rest with
  | cons k rest =>
   have hlt : (pre.length : Int) < (L.length : Int) := by rw [← HE.out, List.length_append, List.length_cons]; omega
   have hw1 : wrap64 ((pre.length : Int) + 1) = ((pre ++ [k]).length : Int) := by have := HLZ.out; rw [List.length_append, List.length_singleton]; unfold wrap64; omega
   have HW1 := ae.mk hw1
   have fF := ae.mk hgg
   obtain ⟨jS, ua, uc, ek, S1⟩ := S.out.elem (.head _) (pre.length : Int) (Int.natCast_nonneg _) hlt
   subst ek
   have hrd : aA L (pre.length : Int) = k := by rw [← HE.out]; exact lu pre k rest
   rw [hrd] at S1
   simp only [Int.toNat_natCast] at S1
   replace S := ae.mk S1
   clear S1 hrd hgg hw1
   cases hmr : jU k.f1 with
   | false =>
    have zO := ae.mk hmr
    clear hmr
    have HB := ae.mk (show oW L M = false by rw [← HE.out]; exact sF (xN (.inl zO.out)))
    have iw := (S.out.cell _ bI).1
    have jf := (S.out.cell _ dQ).1
    have iV := (S.out.cell _ kW).1
    have iW := (S.out.cell _ qj).1
    go_wp2_with (first
     | (refine bH (some 23) Try.func57 S (uG zO.out) ?_; clear S; intro mO S; clear iw jf iV iW)
     | fail)
    go_ret
    refine ⟨?_, S.out.below⟩
    rw [HB.out]
    rfl
   | true =>
    have zO := ae.mk hmr
    clear hmr
    by_cases h1 : k.f0 < 1
    case pos =>
     obtain ⟨h1a, h1b⟩ := mr (a := k.f0) (b := 1) (by omega)
     have HB := ae.mk (show oW L M = false by rw [← HE.out]; exact sF (xN (.inr (.inl h1))))
     have iw := (S.out.cell _ bI).1
     have jf := (S.out.cell _ dQ).1
     have iV := (S.out.cell _ kW).1
     have iW := (S.out.cell _ qj).1
     go_wp2_with (first
      | (refine bH (some 23) Try.func57 S (uG zO.out) ?_; clear S; intro Bz S; clear iw jf iV iW; have fZ := (S.out.cell _ (.head _)).1)
      | fail)
     clear fZ
     go_ret
     refine ⟨?_, S.out.below⟩
     rw [HB.out]
     rfl
    obtain ⟨h1a, h1b⟩ := lG (a := k.f0) (b := 1) (by omega)
    by_cases h3 : 3 < k.f0
    case pos =>
     obtain ⟨h3a, h3b⟩ := mr (a := 3) (b := k.f0) (by omega)
     have HB := ae.mk (show oW L M = false by rw [← HE.out]; exact sF (xN (.inr (.inr (.inl h3)))))
     have iw := (S.out.cell _ bI).1
     have jf := (S.out.cell _ dQ).1
     have iV := (S.out.cell _ kW).1
     have iW := (S.out.cell _ qj).1
     go_wp2_with (first
      | (refine bH (some 23) Try.func57 S (uG zO.out) ?_; clear S; intro yH S; clear iw jf iV iW; have fZ := (S.out.cell _ (.head _)).1)
      | fail)
     clear fZ
     go_ret
     refine ⟨?_, S.out.below⟩
     rw [HB.out]
     rfl
    obtain ⟨h3a, h3b⟩ := lG (a := 3) (b := k.f0) (by omega)
    by_cases h4 : k.f0 = 1
    case pos =>
     have GX : (k.f0 == 1) = true := beq_iff_eq.mpr h4
     have h4d : decide (k.f0 = 1) = true := decide_eq_true h4
     by_cases h5 : 0 < k.f3.length
     case pos =>
      obtain ⟨h5a, MZ⟩ := mr (a := 0) (b := (k.f3.length : Int)) (by omega)
      have Tn : decide (0 < k.f3.length) = true := decide_eq_true (by omega)
      have HB := ae.mk (show oW L M = false by rw [← HE.out]; exact sF (xN (.inr (.inr (.inr (.inl ⟨h4, .inl h5⟩))))))
      have iw := (S.out.cell _ bI).1
      have jf := (S.out.cell _ dQ).1
      have iV := (S.out.cell _ kW).1
      have iW := (S.out.cell _ qj).1
      go_wp2_with (first
       | (refine bH (some 23) Try.func57 S (uG zO.out) ?_; clear S; intro zL S; clear iw jf iV iW; have fZ := (S.out.cell _ (.head _)).1; have kE := (S.out.cell _ Bi).1)
       | fail)
      clear fZ kE
      go_ret
      refine ⟨?_, S.out.below⟩
      rw [HB.out]
      rfl
     obtain ⟨h5a, MZ⟩ := lG (a := 0) (b := (k.f3.length : Int)) (by omega)
     have Tn : decide (0 < k.f3.length) = false := decide_eq_false (by omega)
     by_cases h6 : k.f2 < 0
     case pos =>
      obtain ⟨h6a, h6b⟩ := mr (a := k.f2) (b := 0) (by omega)
      have HB := ae.mk (show oW L M = false by rw [← HE.out]; exact sF (xN (.inr (.inr (.inr (.inl ⟨h4, .inr (.inl h6)⟩))))))
      have iw := (S.out.cell _ bI).1
      have jf := (S.out.cell _ dQ).1
      have iV := (S.out.cell _ kW).1
      have iW := (S.out.cell _ qj).1
      go_wp2_with (first
       | (refine bH (some 23) Try.func57 S (uG zO.out) ?_; clear S; intro Ot S; clear iw jf iV iW; have fZ := (S.out.cell _ (.head _)).1; have kE := (S.out.cell _ Bi).1; have kD := (S.out.cell _ Bh).1)
       | fail)
      clear fZ kE kD
      go_ret
      refine ⟨?_, S.out.below⟩
      rw [HB.out]
      rfl
     obtain ⟨h6a, h6b⟩ := lG (a := k.f2) (b := 0) (by omega)
     by_cases h7 : 2147483647 < k.f2
     case pos =>
      obtain ⟨h7a, h7b⟩ := mr (a := 2147483647) (b := k.f2) (by omega)
      have HB := ae.mk (show oW L M = false by rw [← HE.out]; exact sF (xN (.inr (.inr (.inr (.inl ⟨h4, .inr (.inr h7)⟩))))))
      have iw := (S.out.cell _ bI).1
      have jf := (S.out.cell _ dQ).1
      have iV := (S.out.cell _ kW).1
      have iW := (S.out.cell _ qj).1
      go_wp2_with (first
       | (refine bH (some 23) Try.func57 S (uG zO.out) ?_; clear S; intro AB S; clear iw jf iV iW; have fZ := (S.out.cell _ (.head _)).1; have kE := (S.out.cell _ Bi).1; have kD := (S.out.cell _ Bh).1)
       | fail)
      clear fZ kE kD
      go_ret
      refine ⟨?_, S.out.below⟩
      rw [HB.out]
      rfl
     obtain ⟨h7a, h7b⟩ := lG (a := 2147483647) (b := k.f2) (by omega)
     obtain ⟨h8a, h8b⟩ := lG (a := 1) (b := k.f0) (by omega)
     have HG := ae.mk (PK zO.out (by omega) (by omega) (by omega))
     have iw := (S.out.cell _ bI).1
     have jf := (S.out.cell _ dQ).1
     have iV := (S.out.cell _ kW).1
     have iW := (S.out.cell _ qj).1
     go_wp2_with (first
      | (refine bH (some 23) Try.func57 S (uG zO.out) ?_; clear S; intro Oq S; clear iw jf iV iW; have fZ := (S.out.cell _ (.head _)).1; have kE := (S.out.cell _ Bi).1; have kD := (S.out.cell _ Bh).1)
      | fail)
     clear fZ kE kD
     have hw1 := HW1.out
     go_wp2
     go_roundg rest.length
     case measure => exact Nat.lt_of_lt_of_le (Nat.lt_succ_self _) fF.out
     case rel => exact ⟨pre ++ [k], rest, (by rw [hw1]), ⟨by rw [List.append_assoc]; exact HE.out⟩, Nat.le_refl _, ⟨by rw [List.all_append, RQ.out, List.all_cons, HG.out]; rfl⟩, ⟨S.out.dE.bg.bg.bg.bg.bg.bg.bg⟩⟩
    have GX : (k.f0 == 1) = false := beq_eq_false_iff_ne.mpr h4
    have h4d : decide (k.f0 = 1) = false := decide_eq_false h4
    obtain ⟨h8a, h8b⟩ := mr (a := 1) (b := k.f0) (by omega)
    by_cases h5 : k.f3.length < 2
    case pos =>
     obtain ⟨h5a, MZ⟩ := mr (a := (k.f3.length : Int)) (b := 2) (by omega)
     have Tn : decide (k.f3.length < 2) = true := decide_eq_true (by omega)
     have HB := ae.mk (show oW L M = false by rw [← HE.out]; exact sF (xN (.inr (.inr (.inr (.inr ⟨by omega, .inl h5⟩))))))
     have iw := (S.out.cell _ bI).1
     have jf := (S.out.cell _ dQ).1
     have iV := (S.out.cell _ kW).1
     have iW := (S.out.cell _ qj).1
     go_wp2_with (first
      | (refine bH (some 23) Try.func57 S (uG zO.out) ?_; clear S; intro aev S; clear iw jf iV iW; have fZ := (S.out.cell _ (.head _)).1; have kE := (S.out.cell _ Bi).1)
      | fail)
     clear fZ kE
     go_ret
     refine ⟨?_, S.out.below⟩
     rw [HB.out]
     rfl
    obtain ⟨h5a, MZ⟩ := lG (a := (k.f3.length : Int)) (b := 2) (by omega)
    have Tn : decide (k.f3.length < 2) = false := decide_eq_false (by omega)
    by_cases h6 : k.f2 = 0
    case neg =>
     have h6b : (k.f2 != 0) = true := bne_iff_ne.mpr h6
     have h6c : (k.f2 == 0) = false := beq_eq_false_iff_ne.mpr h6
     have h6d : decide (k.f2 = 0) = false := decide_eq_false h6
     have HB := ae.mk (show oW L M = false by rw [← HE.out]; exact sF (xN (.inr (.inr (.inr (.inr ⟨by omega, .inr h6⟩))))))
     have iw := (S.out.cell _ bI).1
     have jf := (S.out.cell _ dQ).1
     have iV := (S.out.cell _ kW).1
     have iW := (S.out.cell _ qj).1
     go_wp2_with (first
      | (refine bH (some 23) Try.func57 S (uG zO.out) ?_; clear S; intro aew S; clear iw jf iV iW; have fZ := (S.out.cell _ (.head _)).1; have kE := (S.out.cell _ Bi).1; have kD := (S.out.cell _ Bh).1)
      | fail)
     clear fZ kE kD
     go_ret
     refine ⟨?_, S.out.below⟩
     rw [HB.out]
     rfl
    have h6b : (k.f2 != 0) = false := bne_eq_false_iff_eq.mpr h6
    have h6c : (k.f2 == 0) = true := beq_iff_eq.mpr h6
    have h6d : decide (k.f2 = 0) = true := decide_eq_true h6
    have HG := ae.mk (PK zO.out (by omega) (by omega) (by omega))
    have iw := (S.out.cell _ bI).1
    have jf := (S.out.cell _ dQ).1
    have iV := (S.out.cell _ kW).1
    have iW := (S.out.cell _ qj).1
    go_wp2_with (first
     | (refine bH (some 23) Try.func57 S (uG zO.out) ?_; clear S; intro aex S; clear iw jf iV iW; have fZ := (S.out.cell _ (.head _)).1; have kE := (S.out.cell _ Bi).1; have kD := (S.out.cell _ Bh).1)
     | fail)
    clear fZ kE kD
    have hw1 := HW1.out
    go_wp2
    go_roundg rest.length
    case measure => exact Nat.lt_of_lt_of_le (Nat.lt_succ_self _) fF.out
    case rel => exact ⟨pre ++ [k], rest, (by rw [hw1]), ⟨by rw [List.append_assoc]; exact HE.out⟩, Nat.le_refl _, ⟨by rw [List.all_append, RQ.out, List.all_cons, HG.out]; rfl⟩, ⟨S.out.dE.bg.bg.bg.bg.bg.bg.bg⟩⟩
  | nil =>
   have hE := HE.out
   rw [List.append_nil] at hE
   subst hE
   clear HE hgg
   have hlt : ¬ ((pre.length : Int) < (pre.length : Int)) := by omega
   obtain ⟨fM, jV, jW, jX, jY, lZ, iD⟩ := St.ed S (.head _)
   go_wp2_with (first
    | (refine Ez (some 99) Try.func126 S (HLE.out _ _ _ _ _ (S.out.tree _ bI)) ?_; clear S; intro Al cl ahn S; clear fM jV jW jX jY lZ iD)
    | fail)
   go_loopg [102] M.length (fun gg ahm wr => ∃ (pm rest : List ai), ahm = .int .i64 (pm.length : Int) ∧ ae (pm ++ rest = M) ∧ rest.length ≤ gg ∧ ae (eF pm = true) ∧ ae (St w (fun k => k < w.heap.size) [(some b1, .cells #[.int .u8 ck, .int .i64 cx, .int .i64 cy, .int .i64 cw, .int .i64 ch, .int .i64 aU, .slice A l.length cc] 26 (0, 0))] [] [(.slice Al M.length cl, M), (.slice Aa pre.length ca, pre), (.slice A l.length cc, l)] [] wr))
   case atStart => exact ⟨[], M, rfl, ⟨rfl⟩, Nat.le_refl _, ⟨rfl⟩, ⟨S.out⟩⟩
   case round =>
    clear S
    rename World => wz
    obtain ⟨pm, rest, rfl, HE, hgg, HD, S⟩ := hrel
    cases rest with
    | nil =>
     have hE := HE.out
     rw [List.append_nil] at hE
     subst hE
     have hlt : ¬ ((pm.length : Int) < (pm.length : Int)) := by omega
     have HB := ae.mk (show oW pre pm = true by unfold oW; rw [RQ.out, HD.out, decide_eq_true (by have := HL.out; omega)]; rfl)
     go_wp2
     go_ret
     refine ⟨?_, S.out.below⟩
     rw [HB.out]
     rfl
    | cons k rest =>
     have hlt : (pm.length : Int) < (M.length : Int) := by rw [← HE.out, List.length_append, List.length_cons]; omega
     have hw1 : wrap64 ((pm.length : Int) + 1) = ((pm ++ [k]).length : Int) := by have := XB.out; rw [List.length_append, List.length_singleton]; unfold wrap64; omega
     have HW1 := ae.mk hw1
     have fF := ae.mk hgg
     have HPM := ae.mk (show pm.length ≤ 1048576 by have := XB.out; omega)
     have OO := ae.mk hlt
     obtain ⟨jS, ua, uc, ek, S1⟩ := S.out.elem (.head _) (pm.length : Int) (Int.natCast_nonneg _) hlt
     subst ek
     have hrd : aA M (pm.length : Int) = k := by rw [← HE.out]; exact lu pm k rest
     rw [hrd] at S1
     simp only [Int.toNat_natCast] at S1
     replace S := ae.mk S1
     clear S1 hrd hgg hw1
     go_wp2
     have HK0 := ae.mk (show oz [] k = true from rfl)
     go_loopg [7] pm.length (fun gg v7 wr => ∃ (pa pb : List ai), v7 = .int .i64 (pa.length : Int) ∧ ae (pa ++ pb = pm) ∧ pb.length ≤ gg ∧ ae (oz pa k = true) ∧ ae (St w (fun k => k < w.heap.size) [(some b1, .cells #[.int .u8 ck, .int .i64 cx, .int .i64 cy, .int .i64 cw, .int .i64 ch, .int .i64 aU, .slice A l.length cc] 26 (0, 0))] [] [(.slice ua k.f3.length uc, k.f3), (.slice (some jS) M.length cl, M), (.slice Aa pre.length ca, pre), (.slice A l.length cc, l)] [((jS.add (pm.length * 7)), .int .u8 k.f0), (⟨(jS.add (pm.length * 7)).block, (jS.add (pm.length * 7)).off + 1, none⟩, .int .i64 k.f1.f0), (⟨(jS.add (pm.length * 7)).block, (jS.add (pm.length * 7)).off + 2, none⟩, .int .i64 k.f1.f1), (⟨(jS.add (pm.length * 7)).block, (jS.add (pm.length * 7)).off + 3, none⟩, .int .i64 k.f1.f2), (⟨(jS.add (pm.length * 7)).block, (jS.add (pm.length * 7)).off + 4, none⟩, .int .i64 k.f1.f3), (⟨(jS.add (pm.length * 7)).block, (jS.add (pm.length * 7)).off + 5, none⟩, .int .i64 k.f2), (⟨(jS.add (pm.length * 7)).block, (jS.add (pm.length * 7)).off + 6, none⟩, .slice ua k.f3.length uc)] wr))
     case atStart => exact ⟨[], pm, rfl, ⟨rfl⟩, Nat.le_refl _, ⟨rfl⟩, ⟨S.out⟩⟩
     case round =>
      clear S
      rename World => wy
      obtain ⟨pa, pb, rfl, HE2, hgg, HAP, S⟩ := hrel
      cases pb with
      | nil =>
       have hE := HE2.out
       rw [List.append_nil] at hE
       subst hE
       have hlt : ¬ ((pa.length : Int) < (pa.length : Int)) := by omega
       go_wp2
       have hw1 := HW1.out
       go_wp2
       go_roundg rest.length
       case measure => exact Nat.lt_of_lt_of_le (Nat.lt_succ_self _) fF.out
       case rel => exact ⟨pa ++ [k], rest, (by rw [hw1]), ⟨by rw [List.append_assoc]; exact HE.out⟩, Nat.le_refl _, ⟨by rw [qM, HD.out, HAP.out]; rfl⟩, ⟨S.out.dE.bg.bg.bg.bg.bg.bg.bg⟩⟩
      | cons q pb =>
       have hlt : (pa.length : Int) < (pm.length : Int) := by rw [← HE2.out, List.length_append, List.length_cons]; omega
       have hlt0 := OO.out
       have hlt2 : (pa.length : Int) < (M.length : Int) := by omega
       have hw1 : wrap64 ((pa.length : Int) + 1) = ((pa ++ [q]).length : Int) := by have := HPM.out; rw [List.length_append, List.length_singleton]; unfold wrap64; omega
       have HW2 := ae.mk hw1
       have agI := ae.mk hgg
       obtain ⟨adq, va, vc, eq_, S1⟩ := S.out.elem bI (pa.length : Int) (Int.natCast_nonneg _) hlt2
       injection eq_ with eq_
       subst eq_
       have hrd : aA M (pa.length : Int) = q := by rw [← HE.out, ← HE2.out, List.append_assoc]; exact lu pa q (pb ++ k :: rest)
       rw [hrd] at S1
       simp only [Int.toNat_natCast] at S1
       replace S := ae.mk S1
       clear S1 hrd hgg hw1
       by_cases hq : k.f2 = q.f2
       case pos =>
        have GZ : (k.f2 == q.f2) = true := beq_iff_eq.mpr hq
        have NG : decide (k.f2 = q.f2) = true := decide_eq_true hq
        have HQ := ae.mk hq
        clear hq
        have Xw := (S.out.cell _ (.tail _ (.tail _ (.tail _ mm9)))).1
        have kD := (S.out.cell _ Bh).1
        go_wp2
        go_quiet (fail)
        clear Xw kD
        replace S := ae.mk (S.out.call (eG (Below.refl _ _) nq))
        generalize wr.drewN nq = akN at S ⊢
        go_wp2
        have HB := ae.mk (show oW pre M = false by unfold oW; rw [← HE.out, Ov (by rw [← HE2.out]; unfold oz; rw [List.all_append, List.all_cons, decide_eq_false (by have := HQ.out; simpa using this), Bool.false_and, Bool.and_false]), Bool.and_false, Bool.and_false])
        go_ret
        refine ⟨?_, S.out.below⟩
        rw [HB.out]
        rfl
       case neg =>
        have GZ : (k.f2 == q.f2) = false := beq_eq_false_iff_ne.mpr hq
        have NG : decide (k.f2 = q.f2) = false := decide_eq_false hq
        have HQ := ae.mk hq
        clear hq
        have Xw := (S.out.cell _ (.tail _ (.tail _ (.tail _ mm9)))).1
        have kD := (S.out.cell _ Bh).1
        go_wp2
        go_quiet (fail)
        clear Xw kD
        replace S := ae.mk (S.out.call (eG (Below.refl _ _) nq))
        generalize wr.drewN nq = akO at S ⊢
        go_wp2
        have hw1 := HW2.out
        go_wp2
        go_roundg pb.length
        case measure => exact Nat.lt_of_lt_of_le (Nat.lt_succ_self _) agI.out
        case rel => exact ⟨pa ++ [q], pb, (by rw [hw1]), ⟨by rw [List.append_assoc]; exact HE2.out⟩, Nat.le_refl _, ⟨by unfold oz; rw [List.all_append, List.all_cons, decide_eq_true HQ.out]; rw [show (pa.all fun y => decide (k.f2 ≠ y.f2)) = true from HAP.out]; rfl⟩, ⟨S.out.dE.bg.bg.bg.bg.bg.bg.bg⟩⟩
def abe.f (_ : Nat) (a0 a1 a2 a3 a4 a5 : Int) (l : List ai) : Option Bool := if sz ⟨a0, ⟨a1, a2, a3, a4⟩, a5, l⟩ ≤ 1048576 then some (kU ⟨a0, ⟨a1, a2, a3, a4⟩, a5, l⟩) else none
def di (c : ai) : Bool := kU c && kG c
theorem ny {c : ai} (h : kU c = true) : sz c ≤ 20000 := by
 unfold kU at h
 simp only [Bool.and_eq_true, decide_eq_true_eq] at h
 omega
theorem acd : ∀ (N : Nat), (∀ c : ai, sz c ≤ N → ∀ d, d ∈ fG c → sz d ≤ sz c) ∧ (∀ l : List ai, dI l ≤ N → ∀ d, d ∈ allL l → sz d ≤ dI l) := by
 intro N
 induction N with
 | zero =>
  refine ⟨fun c h => ?_, fun l h => ?_⟩
  ·rw [cO] at h; omega
  ·cases l with
   | nil => intro d hd; rw [pg] at hd; cases hd
   | cons z zs => rw [bY, cO] at h; omega
 | succ N ih =>
  have hC : ∀ c : ai, sz c ≤ N + 1 → ∀ d, d ∈ fG c → sz d ≤ sz c := by
   intro c h d hd
   have hs := cO c
   rw [pV] at hd
   rcases List.mem_cons.1 hd with rfl | hd
   ·exact Nat.le_refl _
   ·have := ih.2 c.f3 (by omega) d hd
    omega
  refine ⟨hC, fun l => ?_⟩
  induction l with
  | nil => intro _ d hd; rw [pg] at hd; cases hd
  | cons x xs ihl =>
   intro h d hd
   rw [bY] at h ⊢
   rw [lF] at hd
   rcases List.mem_append.1 hd with hd | hd
   ·have := hC x (by omega) d hd
    omega
   ·have := ihl (by omega) d hd
    omega
theorem Vx {c d : ai} (h : d ∈ fG c) : d.f3.length + 1 ≤ sz c := by
 have h1 := (acd (sz c)).1 c (Nat.le_refl _) d h
 have h2 := cO d
 have h3 := ik d.f3
 omega
section
variable {W : World} {b : Nat} {P : Nat → Prop} {A : Option Addr} {cc : Nat}
theorem aea (c : ai) (h : mF c = false) (hl : c.f3.length ≤ 1000000) (hV : Kd.V k26 26 W b P (.slice A c.f3.length cc) c.f3) : Calls Try.prog 178 #[.agg #[.int .u8 c.f0, .int .i64 c.f1.f0, .int .i64 c.f1.f1, .int .i64 c.f1.f2, .int .i64 c.f1.f3, .int .i64 c.f2, .slice A c.f3.length cc]] W fun e w' => ∃ A n cc, e = .returned (.tuple #[.slice A n cc, .bool false]) ∧ Below W.heap.size W w' :=
 (UG c hl b P A cc W hV).mono (fun _ _ ⟨A, n, cc, h1, _, h3⟩ => ⟨A, n, cc, by rw [h1, h], h3⟩)
theorem aaA (c : ai) (h : mF c = true) (hl : c.f3.length ≤ 1000000) (hV : Kd.V k26 26 W b P (.slice A c.f3.length cc) c.f3) : Calls Try.prog 178 #[.agg #[.int .u8 c.f0, .int .i64 c.f1.f0, .int .i64 c.f1.f1, .int .i64 c.f1.f2, .int .i64 c.f1.f3, .int .i64 c.f2, .slice A c.f3.length cc]] W fun e w' => ∃ A cc ls, e = .returned (.tuple #[.slice A ls.length cc, .bool true]) ∧ ls.length ≤ c.f3.length ∧ k23.R 23 w' W.heap.size (fun _ => True) (.slice A ls.length cc) ls ∧ Below W.heap.size W w' :=
 (UG c hl b P A cc W hV).mono (fun _ _ ⟨A, n, cc, h1, h2, h3⟩ => by
  obtain ⟨ls, rfl, h4, h5⟩ := h2 h
  exact ⟨A, cc, ls, by rw [h1, h], h4, h5, h3⟩)
theorem X7 {c : ai} {v : Bool} (h : kU c = v) (hz : sz c ≤ 1048576) (b : Nat) (P : Nat → Prop) (A : Option Addr) (cc : Nat) (W : World) (hV : Kd.V k26 26 W b P (.slice A c.f3.length cc) c.f3) : Calls Try.prog 38 #[.agg #[.int .u8 c.f0, .int .i64 c.f1.f0, .int .i64 c.f1.f1, .int .i64 c.f1.f2, .int .i64 c.f1.f3, .int .i64 c.f2, .slice A c.f3.length cc]] W fun e w' => e = .returned (.bool v) ∧ Below W.heap.size W w' := by
 have h1 := Kd.kP hV
 have h2 := afx c hz A cc W h1.2.2 h1.2.1
 rwa [h] at h2
end
abbrev KA (w : World) (c : ai) (e : Ending) (w' : World) : Prop := ∃ A n cc n1 n2, e = .returned (.tuple #[.slice A n cc, .int .i64 n1, .int .i64 n2]) ∧ (n1 == 0) = di c ∧ Below w.heap.size w w'
theorem VJ (c : ai) (hz : sz c ≤ 1048576) (b : Nat) (P : Nat → Prop) (A : Option Addr) (cc : Nat) (w : World) (hv : Kd.V k26 26 w b P (.slice A c.f3.length cc) c.f3) :
  Calls Try.prog 146 #[.agg #[.int .u8 c.f0, .int .i64 c.f1.f0, .int .i64 c.f1.f1, .int .i64 c.f1.f2, .int .i64 c.f1.f3, .int .i64 c.f2, .slice A c.f3.length cc]] w (KA w c) := by
 have S := ae.mk (St.start (ts := [(.slice A c.f3.length cc, c.f3)]) (b0 := w.heap.size) (w := w) (P := P) (fun t ht => by rw [List.mem_singleton.1 ht]; exact fK hv))
 unfold KA
 cases hm : kU c with
 | false =>
  have xG := ae.mk (fun b P A cc W hV => X7 hm hz b P A cc W hV)
  rw [show di c = false by unfold di; rw [hm]; rfl]
  clear hm hv hz
  obtain ⟨ck, ⟨cx, cy, cw, ch⟩, aU, l⟩ := c
  simp only [] at S xG ⊢
  go_enter Try.func146, Try.ntmps146
  go_wp2_with (first
   | (refine boxS 1 _ 26 S ?_; clear S; intro b1 dF S)
   | (refine ig 11 rfl ?_; refine lU k23 23 rfl 11 S ?_; clear S; intro Ae ce oe dV S HKe; obtain ⟨fM, jV, jW, jX, jY, lZ, iD⟩ := St.ed S bI)
   | (refine bH (some 13) Try.func38 S (xG.out _ _ _ _ _ (S.out.tree _ (.head _))) ?_; clear S; intro fV S; clear fM jV jW jX jY lZ iD)
   | fail)
  go_ret3
  exact ⟨_, _, _, _, _, rfl, rfl, S.out.below⟩
 | true =>
  have xG := ae.mk (fun b P A cc W hV => X7 hm hz b P A cc W hV)
  have HAL := ae.mk (fun b P A cc W hV => @LQ W b P A cc c hz hV)
  have hs := ny hm
  have hk : ∀ k, k ∈ fG c → k.f3.length ≤ 20000 := fun k hk => by have := Vx hk; omega
  have hlen : (fG c).length ≤ 20000 := hs
  have ht : di c = (fG c).all mF := by unfold di; rw [hm, Bool.true_and]; rfl
  rw [ht]
  generalize fG c = L at HAL hk hlen ⊢
  have gW := ae.mk hlen
  have HKK := ae.mk hk
  clear hm hv hz ht hs hk hlen
  obtain ⟨ck, ⟨cx, cy, cw, ch⟩, aU, l⟩ := c
  simp only [] at S xG HAL ⊢
  go_enter Try.func146, Try.ntmps146
  go_wp2_with (first
   | (refine boxS 1 _ 26 S ?_; clear S; intro b1 dF S)
   | (refine ig 11 rfl ?_; refine lU k23 23 rfl 11 S ?_; clear S; intro Ae ce oe dV S HKe; obtain ⟨fM, jV, jW, jX, jY, lZ, iD⟩ := St.ed S bI)
   | (refine bH (some 13) Try.func38 S (xG.out _ _ _ _ _ (S.out.tree _ (.head _))) ?_; clear S; intro fV S; clear fM jV jW jX jY lZ iD; obtain ⟨fM, jV, jW, jX, jY, lZ, iD⟩ := St.ed S bI)
   | (refine Ez (some 17) Try.func79 S (HAL.out _ _ _ _ _ (S.out.tree _ (.head _))) ?_; clear S; intro Aa ca iQ S; clear fM jV jW jX jY lZ iD)
   | (refine ig 18 rfl ?_; refine lU k23 23 rfl 18 S ?_; clear S; intro Ap cp op mO S iq)
   | fail)
  go_loopg [7, 21] L.length (fun gg v7 v21 wr => ∃ (pre rest : List ai) (out : List dD) (Ap : Option Addr) (cp : Nat) (op : Obj), v7 = .slice Ap out.length cp ∧ v21 = .int .i64 (pre.length : Int) ∧ ae (pre ++ rest = L) ∧ ae (pre.all mF = true) ∧ ae (out.length ≤ 20000 * pre.length) ∧ rest.length ≤ gg ∧ ae (KR k23 23 w.heap.size (.slice Ap out.length cp) out op) ∧ ae (St w P [((Value.slice Ap out.length cp).ownBlock, op), ((Value.slice Ae 0 ce).ownBlock, oe), (some b1, .cells #[.int .u8 ck, .int .i64 cx, .int .i64 cy, .int .i64 cw, .int .i64 ch, .int .i64 aU, .slice A l.length cc] 26 (0, 0))] [] [(.slice Aa L.length ca, L), (.slice A l.length cc, l)] [] wr))
  case atStart => exact ⟨[], L, [], _, _, _, rfl, rfl, ⟨rfl⟩, ⟨rfl⟩, ⟨Nat.zero_le _⟩, Nat.le_refl _, iq, S⟩
  case round =>
   clear S iq
   obtain ⟨pre, rest, out, Ap, cp, op, rfl, rfl, HE, HA, HOL, hgg, iq, S⟩ := hrel
   cases rest with
   | nil =>
    have hE := HE.out
    rw [List.append_nil] at hE
    have hE2 := hE.symm
    subst hE2
    clear hE HE hgg
    have hlt : ¬ ((L.length : Int) < (L.length : Int)) := by omega
    go_wp2
    go_ret3
    exact ⟨_, _, _, _, ⟨_, rfl⟩, HA.out.symm, S.out.below⟩
   | cons k rest =>
    have Vl := ae.mk (HKK.out k (by rw [← HE.out]; simp))
    have EM := ae.mk (show k.f3.length ≤ 1000000 by have := Vl.out; omega)
    have agJ := ae.mk (show pre.length ≤ 20000 by have := gW.out; rw [← HE.out, List.length_append] at this; omega)
    have hk : k ∈ L := by rw [← HE.out]; simp
    have hlt : (pre.length : Int) < (L.length : Int) := by rw [← HE.out, List.length_append, List.length_cons]; omega
    have hw1 : wrap64 ((pre.length : Int) + 1) = ((pre ++ [k]).length : Int) := by have := gW.out; rw [List.length_append, List.length_singleton]; unfold wrap64; omega
    have HW1 := ae.mk hw1
    have fF := ae.mk hgg
    have HK := ae.mk hk
    have EO := ae.mk (show pre.length ≤ 1048576 by have := gW.out; omega)
    obtain ⟨jS, ua, uc, ek, S1⟩ := S.out.elem (.head _) (pre.length : Int) (Int.natCast_nonneg _) hlt
    subst ek
    have hrd : aA L (pre.length : Int) = k := by rw [← HE.out]; exact lu pre k rest
    rw [hrd] at S1
    simp only [Int.toNat_natCast] at S1
    replace S := ae.mk S1
    clear S1 hrd hk hgg hw1
    cases ho : mF k with
    | false =>
     have HO := ae.mk ho
     clear ho
     obtain ⟨fZ, iw, jf, iV, iW, kD, kE⟩ := St.CJ S
     go_wp2_with (first
      | (refine iF (some 29) Try.func178 (aea k HO.out EM.out (S.out.tree _ (.head _))) ?_; rintro e dF ⟨Ax, nx, XW, rfl, hb⟩; refine ⟨_, rfl, ?_⟩; replace S := ae.mk (S.out.call hb); clear hb; clear fZ iw jf iV iW kD kE)
      | fail)
     go_ret3
     exact ⟨_, _, _, _, _, rfl, (by rw [← HE.out, List.all_append, List.all_cons, HO.out, Bool.false_and, Bool.and_false]; rfl), S.out.below⟩
    | true =>
     have HO := ae.mk ho
     clear ho
     obtain ⟨fZ, iw, jf, iV, iW, kD, kE⟩ := St.CJ S
     go_wp2_with (first
      | (refine iF (some 29) Try.func178 (aaA k HO.out EM.out (S.out.tree _ (.head _))) ?_; rintro e dF ⟨Ax, XW, ls, rfl, h0, h1, hb⟩; refine ⟨_, rfl, ?_⟩; obtain ⟨ox, S1, hI⟩ := S.out.F8 (d := k23) (e := 23) rfl h1 hb; replace S := ae.mk S1; have HKx := ae.mk hI; have OM := ae.mk h0; clear S1 hI h0 h1 hb; clear fZ iw jf iV iW kD kE)
      | (refine ig 38 rfl ?_; at_builtin; replace S := ae.mk S.out.t_; refine LW k23 23 rfl 36 37 42 _ 32 Try.underlying42 info23 rfl (by decide) (by decide) (by decide) S iq ls (Vo HKx.out S.out bI).1 (fun _ _ _ _ _ h => h) (by have := HOL.out; have := OM.out; have := Vl.out; have := agJ.out; omega) ?_; clear S iq; intro Kz cp2 NW dV S iq)
      | fail)
     have hw1 := HW1.out
     go_wp2
     go_roundg rest.length
     case measure => exact Nat.lt_of_lt_of_le (Nat.lt_succ_self _) fF.out
     case rel => exact ⟨pre ++ [k], rest, out ++ ls, _, _, _, (by rw [List.length_append]), (by rw [hw1]), ⟨by rw [List.append_assoc]; exact HE.out⟩, ⟨by rw [List.all_append, HA.out, List.all_cons, HO.out]; rfl⟩, ⟨by have := HOL.out; have := OM.out; have := Vl.out; rw [List.length_append, List.length_append, List.length_singleton]; omega⟩, Nat.le_refl _, iq, ⟨S.out.t_.dP.vk.vk.vk.dE.bg.bg.bg.bg.bg.bg.bg⟩⟩
theorem xh (c : ai) (hz : sz c ≤ 1048576) (b : Nat) (P : Nat → Prop) (A : Option Addr) (cc : Nat) (w : World) (hv : Kd.V k26 26 w b P (.slice A c.f3.length cc) c.f3) :
  Calls Try.prog 84 #[.agg #[.int .u8 c.f0, .int .i64 c.f1.f0, .int .i64 c.f1.f1, .int .i64 c.f1.f2, .int .i64 c.f1.f3, .int .i64 c.f2, .slice A c.f3.length cc]] w fun e w' => e = .returned (.bool (di c)) ∧ Below w.heap.size w w' := by
 have S := ae.mk (St.start (ts := [(.slice A c.f3.length cc, c.f3)]) (b0 := w.heap.size) (w := w) (P := P) (fun t ht => by rw [List.mem_singleton.1 ht]; exact fK hv))
 have XA := ae.mk (fun b P A cc W hV => VJ c hz b P A cc W hV)
 unfold KA at XA
 generalize di c = v at XA ⊢
 clear hv hz
 obtain ⟨ck, ⟨cx, cy, cw, ch⟩, aU, l⟩ := c
 simp only [] at S XA ⊢
 go_enter Try.func84, Try.ntmps84
 go_wp2_with (first
  | (refine boxS 1 _ 26 S ?_; clear S; intro b1 dF S; obtain ⟨fM, jV, jW, jX, jY, lZ, iD⟩ := St.ed S (.head _))
  | (refine iF (some 8) Try.func146 (XA.out _ _ _ _ _ (S.out.tree _ (.head _))) ?_; rintro e dV ⟨Ax, nx, XW, n1, n2, rfl, hn, hb⟩; refine ⟨_, rfl, ?_⟩; have hn2 : decide (n1 = 0) = v := (by rw [← hn]; by_cases h : n1 = 0 <;> simp [h]); replace S := ae.mk (S.out.call hb); clear hb; clear fM jV jW jX jY lZ iD)
  | fail)
 go_ret
 exact ⟨rfl, S.out.below⟩
def Yf.f (_ : Nat) (a0 a1 a2 a3 a4 a5 : Int) (l : List ai) : Option Bool := if sz ⟨a0, ⟨a1, a2, a3, a4⟩, a5, l⟩ ≤ 1048576 then some (di ⟨a0, ⟨a1, a2, a3, a4⟩, a5, l⟩) else none
end Go.Proofs.Ytfdmfgaiblfbhaa.P
namespace Go.Proofs.Ytfdmfgaiblfbhaa.P
open Go.RowKit Go.Proofs.ag.aK Go.Proofs.ag.bG Go.Proofs.ag.bV
attribute [local go_sem] jm jB jR kF jO jP kT kV
def rG.f (au : Int) (aI : Int) (aC : Int) (aH : Int) (bz : Int) (bD : Int) (aQ : List (ai)) (a1 : Int) : Option (Bool) := if au = 2 then (if a1 = 1 then (some true) else (if au = 3 then (some (a1 == 2)) else (some false))) else (if au = 3 then (some (a1 == 2)) else (some false))
theorem rG.calls (au : Int) (aI : Int) (aC : Int) (aH : Int) (bz : Int) (bD : Int) (dG : Option Addr) (dH : Nat) (aQ : List (ai)) (a1 : Int) (r : Bool) (w : World) (rD : Kd.C k26 w dG aQ.length aQ) (tq : aQ.length ≤ dH) (h : rG.f au aI aC aH bz bD aQ a1 = some r) :
  Calls Try.prog 88 #[.agg #[.int .u8 au, .int .i64 aI, .int .i64 aC, .int .i64 aH, .int .i64 bz, .int .i64 bD, .slice dG aQ.length dH], .int .u8 a1] w fun e w' => e = .returned (.bool r) ∧ Below w.heap.size w w' := by
 have IL := Try.underlying26
 clear rD tq
 have HB := ae.mk (Below.refl w.heap.size w)
 have H : (if au = 2 then (if a1 = 1 then (some true) else (if au = 3 then (some (a1 == 2)) else (some false))) else (if au = 3 then (some (a1 == 2)) else (some false))) = some r := h
 clear h
 by_cases c3 : au = 2
 ·rw [if_pos c3] at H
  have uh : (au == 2) = true := beq_iff_eq.mpr c3
  have y9 : (au != 2) = false := bne_eq_false_iff_eq.mpr c3
  clear c3
  by_cases c4 : a1 = 1
  ·rw [if_pos c4] at H
   have Di : (a1 == 1) = true := beq_iff_eq.mpr c4
   have L8 : (a1 != 1) = false := bne_eq_false_iff_eq.mpr c4
   clear c4
   obtain rfl := Option.some.inj H
   go_enter Try.func88, Try.ntmps88
   go_wp2_with (((with_reducible refine aG (N := 2) rfl ?_); refine aT ?hg (N := 2) ?hd (cs := #[.int .u8 au, .int .i64 aI, .int .i64 aC, .int .i64 aH, .int .i64 bz, .int .i64 bD, .slice dG aQ.length dH]) (t := 26) ?hr ?_; (case hd => rfl); (case hg => rfl); (case hr => (go_simp; done)); intro gq hg w5 hbox hb; have dn := ae.mk (hbox); replace HB := ae.mk (ak (by repeat ((with_reducible exact HB.out))) hb); clear hb hbox hg; have Du : w5.cell? ⟨gq, 0, none⟩ = some (.int .u8 au) := (af dn.out 0).trans rfl; have Dv : w5.cell? ⟨gq, 1, none⟩ = some (.int .i64 aI) := (af dn.out 1).trans rfl; have Dw : w5.cell? ⟨gq, 2, none⟩ = some (.int .i64 aC) := (af dn.out 2).trans rfl; have Dx : w5.cell? ⟨gq, 3, none⟩ = some (.int .i64 aH) := (af dn.out 3).trans rfl; have Dy : w5.cell? ⟨gq, 4, none⟩ = some (.int .i64 bz) := (af dn.out 4).trans rfl; have Dz : w5.cell? ⟨gq, 5, none⟩ = some (.int .i64 bD) := (af dn.out 5).trans rfl; have DC : w5.cell? ⟨gq, 6, none⟩ = some (.slice dG aQ.length dH) := (af dn.out 6).trans rfl; have DD := ah dn.out 0; have DF := ah dn.out 1; have DI := ah dn.out 2; have DJ := ah dn.out 3; have DK := ah dn.out 4; have DL := ah dn.out 5; have DN := ah dn.out 6))
   go_ret
   exact ⟨by rfl, by repeat ((with_reducible exact HB.out))⟩
  ·rw [if_neg c4] at H
   have Di : (a1 == 1) = false := beq_eq_false_iff_ne.mpr c4
   have L8 : (a1 != 1) = true := bne_iff_ne.mpr c4
   by_cases c7 : au = 3
   ·rw [if_pos c7] at H
    have wV : (au == 3) = true := beq_iff_eq.mpr c7
    have VG : (au != 3) = false := bne_eq_false_iff_eq.mpr c7
    clear c7
    obtain rfl := Option.some.inj H
    go_enter Try.func88, Try.ntmps88
    go_wp2_with (((with_reducible refine aG (N := 2) rfl ?_); refine aT ?hg (N := 2) ?hd (cs := #[.int .u8 au, .int .i64 aI, .int .i64 aC, .int .i64 aH, .int .i64 bz, .int .i64 bD, .slice dG aQ.length dH]) (t := 26) ?hr ?_; (case hd => rfl); (case hg => rfl); (case hr => (go_simp; done)); intro gq hg w8 hbox hb; have dn := ae.mk (hbox); replace HB := ae.mk (ak (by repeat ((with_reducible exact HB.out))) hb); clear hb hbox hg; have TF : w8.cell? ⟨gq, 0, none⟩ = some (.int .u8 au) := (af dn.out 0).trans rfl; have TG : w8.cell? ⟨gq, 1, none⟩ = some (.int .i64 aI) := (af dn.out 1).trans rfl; have TI : w8.cell? ⟨gq, 2, none⟩ = some (.int .i64 aC) := (af dn.out 2).trans rfl; have TJ : w8.cell? ⟨gq, 3, none⟩ = some (.int .i64 aH) := (af dn.out 3).trans rfl; have TK : w8.cell? ⟨gq, 4, none⟩ = some (.int .i64 bz) := (af dn.out 4).trans rfl; have TL : w8.cell? ⟨gq, 5, none⟩ = some (.int .i64 bD) := (af dn.out 5).trans rfl; have TM : w8.cell? ⟨gq, 6, none⟩ = some (.slice dG aQ.length dH) := (af dn.out 6).trans rfl; have T_ := ah dn.out 0; have Ua := ah dn.out 1; have Ub := ah dn.out 2; have Uc := ah dn.out 3; have Ud := ah dn.out 4; have Ue := ah dn.out 5; have Uf := ah dn.out 6))
    go_ret
    exact ⟨by rfl, by repeat ((with_reducible exact HB.out))⟩
   ·rw [if_neg c7] at H
    have wV : (au == 3) = false := beq_eq_false_iff_ne.mpr c7
    have VG : (au != 3) = true := bne_iff_ne.mpr c7
    obtain rfl := Option.some.inj H
    go_enter Try.func88, Try.ntmps88
    go_wp2_with (((with_reducible refine aG (N := 2) rfl ?_); refine aT ?hg (N := 2) ?hd (cs := #[.int .u8 au, .int .i64 aI, .int .i64 aC, .int .i64 aH, .int .i64 bz, .int .i64 bD, .slice dG aQ.length dH]) (t := 26) ?hr ?_; (case hd => rfl); (case hg => rfl); (case hr => (go_simp; done)); intro gq hg w10 hbox hb; have dn := ae.mk (hbox); replace HB := ae.mk (ak (by repeat ((with_reducible exact HB.out))) hb); clear hb hbox hg; have YT : w10.cell? ⟨gq, 0, none⟩ = some (.int .u8 au) := (af dn.out 0).trans rfl; have YU : w10.cell? ⟨gq, 1, none⟩ = some (.int .i64 aI) := (af dn.out 1).trans rfl; have YV : w10.cell? ⟨gq, 2, none⟩ = some (.int .i64 aC) := (af dn.out 2).trans rfl; have YW : w10.cell? ⟨gq, 3, none⟩ = some (.int .i64 aH) := (af dn.out 3).trans rfl; have YX : w10.cell? ⟨gq, 4, none⟩ = some (.int .i64 bz) := (af dn.out 4).trans rfl; have YY : w10.cell? ⟨gq, 5, none⟩ = some (.int .i64 bD) := (af dn.out 5).trans rfl; have YZ : w10.cell? ⟨gq, 6, none⟩ = some (.slice dG aQ.length dH) := (af dn.out 6).trans rfl; have Zv := ah dn.out 0; have Zw := ah dn.out 1; have Zx := ah dn.out 2; have Zy := ah dn.out 3; have Zz := ah dn.out 4; have ZA := ah dn.out 5; have ZB := ah dn.out 6))
    go_ret
    exact ⟨by rfl, by repeat ((with_reducible exact HB.out))⟩
 ·rw [if_neg c3] at H
  have uh : (au == 2) = false := beq_eq_false_iff_ne.mpr c3
  have y9 : (au != 2) = true := bne_iff_ne.mpr c3
  by_cases c12 : au = 3
  ·rw [if_pos c12] at H
   have BJ : (au == 3) = true := beq_iff_eq.mpr c12
   have GI : (au != 3) = false := bne_eq_false_iff_eq.mpr c12
   clear c12
   obtain rfl := Option.some.inj H
   go_enter Try.func88, Try.ntmps88
   go_wp2_with (((with_reducible refine aG (N := 2) rfl ?_); refine aT ?hg (N := 2) ?hd (cs := #[.int .u8 au, .int .i64 aI, .int .i64 aC, .int .i64 aH, .int .i64 bz, .int .i64 bD, .slice dG aQ.length dH]) (t := 26) ?hr ?_; (case hd => rfl); (case hg => rfl); (case hr => (go_simp; done)); intro gq hg uf hbox hb; have dn := ae.mk (hbox); replace HB := ae.mk (ak (by repeat ((with_reducible exact HB.out))) hb); clear hb hbox hg; have Iw : uf.cell? ⟨gq, 0, none⟩ = some (.int .u8 au) := (af dn.out 0).trans rfl; have Iy : uf.cell? ⟨gq, 1, none⟩ = some (.int .i64 aI) := (af dn.out 1).trans rfl; have Iz : uf.cell? ⟨gq, 2, none⟩ = some (.int .i64 aC) := (af dn.out 2).trans rfl; have IA : uf.cell? ⟨gq, 3, none⟩ = some (.int .i64 aH) := (af dn.out 3).trans rfl; have Y8 : uf.cell? ⟨gq, 4, none⟩ = some (.int .i64 bz) := (af dn.out 4).trans rfl; have Y9 : uf.cell? ⟨gq, 5, none⟩ = some (.int .i64 bD) := (af dn.out 5).trans rfl; have Y_ : uf.cell? ⟨gq, 6, none⟩ = some (.slice dG aQ.length dH) := (af dn.out 6).trans rfl; have IB := ah dn.out 0; have IC := ah dn.out 1; have IE := ah dn.out 2; have IG := ah dn.out 3; have ZL := ah dn.out 4; have ZM := ah dn.out 5; have ZN := ah dn.out 6))
   go_ret
   exact ⟨by rfl, by repeat ((with_reducible exact HB.out))⟩
  ·rw [if_neg c12] at H
   have BJ : (au == 3) = false := beq_eq_false_iff_ne.mpr c12
   have GI : (au != 3) = true := bne_iff_ne.mpr c12
   obtain rfl := Option.some.inj H
   go_enter Try.func88, Try.ntmps88
   go_wp2_with (((with_reducible refine aG (N := 2) rfl ?_); refine aT ?hg (N := 2) ?hd (cs := #[.int .u8 au, .int .i64 aI, .int .i64 aC, .int .i64 aH, .int .i64 bz, .int .i64 bD, .slice dG aQ.length dH]) (t := 26) ?hr ?_; (case hd => rfl); (case hg => rfl); (case hr => (go_simp; done)); intro gq hg ug hbox hb; have dn := ae.mk (hbox); replace HB := ae.mk (ak (by repeat ((with_reducible exact HB.out))) hb); clear hb hbox hg; have O9 : ug.cell? ⟨gq, 0, none⟩ = some (.int .u8 au) := (af dn.out 0).trans rfl; have O_ : ug.cell? ⟨gq, 1, none⟩ = some (.int .i64 aI) := (af dn.out 1).trans rfl; have Pg : ug.cell? ⟨gq, 2, none⟩ = some (.int .i64 aC) := (af dn.out 2).trans rfl; have Ph : ug.cell? ⟨gq, 3, none⟩ = some (.int .i64 aH) := (af dn.out 3).trans rfl; have Za : ug.cell? ⟨gq, 4, none⟩ = some (.int .i64 bz) := (af dn.out 4).trans rfl; have Zb : ug.cell? ⟨gq, 5, none⟩ = some (.int .i64 bD) := (af dn.out 5).trans rfl; have Zc : ug.cell? ⟨gq, 6, none⟩ = some (.slice dG aQ.length dH) := (af dn.out 6).trans rfl; have Pq := ah dn.out 0; have Pv := ah dn.out 1; have Px := ah dn.out 2; have Py := ah dn.out 3; have ZO := ah dn.out 4; have ZP := ah dn.out 5; have ZQ := ah dn.out 6))
   go_ret
   exact ⟨by rfl, by repeat ((with_reducible exact HB.out))⟩
def qU.f (au : Int) (aI : Int) (aC : Int) (aH : Int) (bz : Int) (bD : Int) (aQ : List (ai)) (a1 : Int) : Option (Bool) := if au = 2 then (if a1 = 1 then (some true) else (if au = 3 then (some (a1 == 2)) else (some false))) else (if au = 3 then (some (a1 == 2)) else (some false))
theorem qU.calls (au : Int) (aI : Int) (aC : Int) (aH : Int) (bz : Int) (bD : Int) (dG : Option Addr) (dH : Nat) (aQ : List (ai)) (a1 : Int) (r : Bool) (w : World) (rD : Kd.C k26 w dG aQ.length aQ) (tq : aQ.length ≤ dH) (h : qU.f au aI aC aH bz bD aQ a1 = some r) :
  Calls Try.prog 99 #[.agg #[.int .u8 au, .int .i64 aI, .int .i64 aC, .int .i64 aH, .int .i64 bz, .int .i64 bD, .slice dG aQ.length dH], .int .u8 a1] w fun e w' => e = .returned (.bool r) ∧ Below w.heap.size w w' := by
 have IL := Try.underlying26
 clear rD tq
 have HB := ae.mk (Below.refl w.heap.size w)
 have H : (if au = 2 then (if a1 = 1 then (some true) else (if au = 3 then (some (a1 == 2)) else (some false))) else (if au = 3 then (some (a1 == 2)) else (some false))) = some r := h
 clear h
 by_cases c3 : au = 2
 ·rw [if_pos c3] at H
  have uh : (au == 2) = true := beq_iff_eq.mpr c3
  have y9 : (au != 2) = false := bne_eq_false_iff_eq.mpr c3
  clear c3
  by_cases c4 : a1 = 1
  ·rw [if_pos c4] at H
   have Di : (a1 == 1) = true := beq_iff_eq.mpr c4
   have L8 : (a1 != 1) = false := bne_eq_false_iff_eq.mpr c4
   clear c4
   obtain rfl := Option.some.inj H
   go_enter Try.func99, Try.ntmps99
   go_wp2_with (((with_reducible refine aG (N := 2) rfl ?_); refine aT ?hg (N := 2) ?hd (cs := #[.int .u8 au, .int .i64 aI, .int .i64 aC, .int .i64 aH, .int .i64 bz, .int .i64 bD, .slice dG aQ.length dH]) (t := 26) ?hr ?_; (case hd => rfl); (case hg => rfl); (case hr => (go_simp; done)); intro gm hg w5 hbox hb; have dm := ae.mk (hbox); replace HB := ae.mk (ak (by repeat ((with_reducible exact HB.out))) hb); clear hb hbox hg; have Du : w5.cell? ⟨gm, 0, none⟩ = some (.int .u8 au) := (af dm.out 0).trans rfl; have Dv : w5.cell? ⟨gm, 1, none⟩ = some (.int .i64 aI) := (af dm.out 1).trans rfl; have Dw : w5.cell? ⟨gm, 2, none⟩ = some (.int .i64 aC) := (af dm.out 2).trans rfl; have Dx : w5.cell? ⟨gm, 3, none⟩ = some (.int .i64 aH) := (af dm.out 3).trans rfl; have Dy : w5.cell? ⟨gm, 4, none⟩ = some (.int .i64 bz) := (af dm.out 4).trans rfl; have Dz : w5.cell? ⟨gm, 5, none⟩ = some (.int .i64 bD) := (af dm.out 5).trans rfl; have DC : w5.cell? ⟨gm, 6, none⟩ = some (.slice dG aQ.length dH) := (af dm.out 6).trans rfl; have DD := ah dm.out 0; have DF := ah dm.out 1; have DI := ah dm.out 2; have DJ := ah dm.out 3; have DK := ah dm.out 4; have DL := ah dm.out 5; have DN := ah dm.out 6))
   go_ret
   exact ⟨by rfl, by repeat ((with_reducible exact HB.out))⟩
  ·rw [if_neg c4] at H
   have Di : (a1 == 1) = false := beq_eq_false_iff_ne.mpr c4
   have L8 : (a1 != 1) = true := bne_iff_ne.mpr c4
   by_cases c7 : au = 3
   ·rw [if_pos c7] at H
    have wV : (au == 3) = true := beq_iff_eq.mpr c7
    have VG : (au != 3) = false := bne_eq_false_iff_eq.mpr c7
    clear c7
    obtain rfl := Option.some.inj H
    go_enter Try.func99, Try.ntmps99
    go_wp2_with (((with_reducible refine aG (N := 2) rfl ?_); refine aT ?hg (N := 2) ?hd (cs := #[.int .u8 au, .int .i64 aI, .int .i64 aC, .int .i64 aH, .int .i64 bz, .int .i64 bD, .slice dG aQ.length dH]) (t := 26) ?hr ?_; (case hd => rfl); (case hg => rfl); (case hr => (go_simp; done)); intro gm hg w8 hbox hb; have dm := ae.mk (hbox); replace HB := ae.mk (ak (by repeat ((with_reducible exact HB.out))) hb); clear hb hbox hg; have TF : w8.cell? ⟨gm, 0, none⟩ = some (.int .u8 au) := (af dm.out 0).trans rfl; have TG : w8.cell? ⟨gm, 1, none⟩ = some (.int .i64 aI) := (af dm.out 1).trans rfl; have TI : w8.cell? ⟨gm, 2, none⟩ = some (.int .i64 aC) := (af dm.out 2).trans rfl; have TJ : w8.cell? ⟨gm, 3, none⟩ = some (.int .i64 aH) := (af dm.out 3).trans rfl; have TK : w8.cell? ⟨gm, 4, none⟩ = some (.int .i64 bz) := (af dm.out 4).trans rfl; have TL : w8.cell? ⟨gm, 5, none⟩ = some (.int .i64 bD) := (af dm.out 5).trans rfl; have TM : w8.cell? ⟨gm, 6, none⟩ = some (.slice dG aQ.length dH) := (af dm.out 6).trans rfl; have T_ := ah dm.out 0; have Ua := ah dm.out 1; have Ub := ah dm.out 2; have Uc := ah dm.out 3; have Ud := ah dm.out 4; have Ue := ah dm.out 5; have Uf := ah dm.out 6))
    go_ret
    exact ⟨by rfl, by repeat ((with_reducible exact HB.out))⟩
   ·rw [if_neg c7] at H
    have wV : (au == 3) = false := beq_eq_false_iff_ne.mpr c7
    have VG : (au != 3) = true := bne_iff_ne.mpr c7
    obtain rfl := Option.some.inj H
    go_enter Try.func99, Try.ntmps99
    go_wp2_with (((with_reducible refine aG (N := 2) rfl ?_); refine aT ?hg (N := 2) ?hd (cs := #[.int .u8 au, .int .i64 aI, .int .i64 aC, .int .i64 aH, .int .i64 bz, .int .i64 bD, .slice dG aQ.length dH]) (t := 26) ?hr ?_; (case hd => rfl); (case hg => rfl); (case hr => (go_simp; done)); intro gm hg w10 hbox hb; have dm := ae.mk (hbox); replace HB := ae.mk (ak (by repeat ((with_reducible exact HB.out))) hb); clear hb hbox hg; have YT : w10.cell? ⟨gm, 0, none⟩ = some (.int .u8 au) := (af dm.out 0).trans rfl; have YU : w10.cell? ⟨gm, 1, none⟩ = some (.int .i64 aI) := (af dm.out 1).trans rfl; have YV : w10.cell? ⟨gm, 2, none⟩ = some (.int .i64 aC) := (af dm.out 2).trans rfl; have YW : w10.cell? ⟨gm, 3, none⟩ = some (.int .i64 aH) := (af dm.out 3).trans rfl; have YX : w10.cell? ⟨gm, 4, none⟩ = some (.int .i64 bz) := (af dm.out 4).trans rfl; have YY : w10.cell? ⟨gm, 5, none⟩ = some (.int .i64 bD) := (af dm.out 5).trans rfl; have YZ : w10.cell? ⟨gm, 6, none⟩ = some (.slice dG aQ.length dH) := (af dm.out 6).trans rfl; have Zv := ah dm.out 0; have Zw := ah dm.out 1; have Zx := ah dm.out 2; have Zy := ah dm.out 3; have Zz := ah dm.out 4; have ZA := ah dm.out 5; have ZB := ah dm.out 6))
    go_ret
    exact ⟨by rfl, by repeat ((with_reducible exact HB.out))⟩
 ·rw [if_neg c3] at H
  have uh : (au == 2) = false := beq_eq_false_iff_ne.mpr c3
  have y9 : (au != 2) = true := bne_iff_ne.mpr c3
  by_cases c12 : au = 3
  ·rw [if_pos c12] at H
   have BJ : (au == 3) = true := beq_iff_eq.mpr c12
   have GI : (au != 3) = false := bne_eq_false_iff_eq.mpr c12
   clear c12
   obtain rfl := Option.some.inj H
   go_enter Try.func99, Try.ntmps99
   go_wp2_with (((with_reducible refine aG (N := 2) rfl ?_); refine aT ?hg (N := 2) ?hd (cs := #[.int .u8 au, .int .i64 aI, .int .i64 aC, .int .i64 aH, .int .i64 bz, .int .i64 bD, .slice dG aQ.length dH]) (t := 26) ?hr ?_; (case hd => rfl); (case hg => rfl); (case hr => (go_simp; done)); intro gm hg uf hbox hb; have dm := ae.mk (hbox); replace HB := ae.mk (ak (by repeat ((with_reducible exact HB.out))) hb); clear hb hbox hg; have Iw : uf.cell? ⟨gm, 0, none⟩ = some (.int .u8 au) := (af dm.out 0).trans rfl; have Iy : uf.cell? ⟨gm, 1, none⟩ = some (.int .i64 aI) := (af dm.out 1).trans rfl; have Iz : uf.cell? ⟨gm, 2, none⟩ = some (.int .i64 aC) := (af dm.out 2).trans rfl; have IA : uf.cell? ⟨gm, 3, none⟩ = some (.int .i64 aH) := (af dm.out 3).trans rfl; have Y8 : uf.cell? ⟨gm, 4, none⟩ = some (.int .i64 bz) := (af dm.out 4).trans rfl; have Y9 : uf.cell? ⟨gm, 5, none⟩ = some (.int .i64 bD) := (af dm.out 5).trans rfl; have Y_ : uf.cell? ⟨gm, 6, none⟩ = some (.slice dG aQ.length dH) := (af dm.out 6).trans rfl; have IB := ah dm.out 0; have IC := ah dm.out 1; have IE := ah dm.out 2; have IG := ah dm.out 3; have ZL := ah dm.out 4; have ZM := ah dm.out 5; have ZN := ah dm.out 6))
   go_ret
   exact ⟨by rfl, by repeat ((with_reducible exact HB.out))⟩
  ·rw [if_neg c12] at H
   have BJ : (au == 3) = false := beq_eq_false_iff_ne.mpr c12
   have GI : (au != 3) = true := bne_iff_ne.mpr c12
   obtain rfl := Option.some.inj H
   go_enter Try.func99, Try.ntmps99
   go_wp2_with (((with_reducible refine aG (N := 2) rfl ?_); refine aT ?hg (N := 2) ?hd (cs := #[.int .u8 au, .int .i64 aI, .int .i64 aC, .int .i64 aH, .int .i64 bz, .int .i64 bD, .slice dG aQ.length dH]) (t := 26) ?hr ?_; (case hd => rfl); (case hg => rfl); (case hr => (go_simp; done)); intro gm hg ug hbox hb; have dm := ae.mk (hbox); replace HB := ae.mk (ak (by repeat ((with_reducible exact HB.out))) hb); clear hb hbox hg; have O9 : ug.cell? ⟨gm, 0, none⟩ = some (.int .u8 au) := (af dm.out 0).trans rfl; have O_ : ug.cell? ⟨gm, 1, none⟩ = some (.int .i64 aI) := (af dm.out 1).trans rfl; have Pg : ug.cell? ⟨gm, 2, none⟩ = some (.int .i64 aC) := (af dm.out 2).trans rfl; have Ph : ug.cell? ⟨gm, 3, none⟩ = some (.int .i64 aH) := (af dm.out 3).trans rfl; have Za : ug.cell? ⟨gm, 4, none⟩ = some (.int .i64 bz) := (af dm.out 4).trans rfl; have Zb : ug.cell? ⟨gm, 5, none⟩ = some (.int .i64 bD) := (af dm.out 5).trans rfl; have Zc : ug.cell? ⟨gm, 6, none⟩ = some (.slice dG aQ.length dH) := (af dm.out 6).trans rfl; have Pq := ah dm.out 0; have Pv := ah dm.out 1; have Px := ah dm.out 2; have Py := ah dm.out 3; have ZO := ah dm.out 4; have ZP := ah dm.out 5; have ZQ := ah dm.out 6))
   go_ret
   exact ⟨by rfl, by repeat ((with_reducible exact HB.out))⟩
end Go.Proofs.Ytfdmfgaiblfbhaa.P
namespace Go.Proofs.Ytfdmfgaiblfbhaa.P
open Go.RowKit Go.Proofs.ag.aK Go.Proofs.ag.bG Go.Proofs.ag.bV
def fC (ax k : Int) : Bool := (k == 2 && ax == 1) || (k == 3 && ax == 2)
theorem BI (c : ai) (ax : Int) : qU.f c.f0 c.f1.f0 c.f1.f1 c.f1.f2 c.f1.f3 c.f2 c.f3 ax = some (fC ax c.f0) := by
 unfold qU.f fC
 by_cases h2 : c.f0 = 2
 ·by_cases h1 : ax = 1
  ·rw [if_pos h2, if_pos h1]; simp [h2, h1]
  ·rw [if_pos h2, if_neg h1, if_neg (by omega)]; simp [h2, h1]
 ·rw [if_neg h2]
  by_cases h3 : c.f0 = 3
  ·rw [if_pos h3]; simp [h3]
  ·rw [if_neg h3]; simp [h2, h3]
theorem Oz (c : ai) (ax : Int) : rG.f c.f0 c.f1.f0 c.f1.f1 c.f1.f2 c.f1.f3 c.f2 c.f3 ax = some (fC ax c.f0) := BI c ax
mutual
def b_ (ax : Int) : ai → Int
 | ⟨a, _, _, l⟩ => if a = 1 then 1 else if fC ax a = true then ((l.length : Int) - 1) + lX ax l else lJ ax 0 l
def lX (ax : Int) : List ai → Int
 | [] => 0
 | k :: ks => b_ ax k + lX ax ks
def lJ (ax : Int) : Int → List ai → Int
 | m, [] => m
 | m, k :: ks => lJ ax (mx m (b_ ax k)) ks
end
theorem oQ (ax : Int) (c : ai) : b_ ax c = if c.f0 = 1 then 1 else if fC ax c.f0 = true then ((c.f3.length : Int) - 1) + lX ax c.f3 else lJ ax 0 c.f3 := by cases c; simp [b_]
theorem sQ (ax : Int) : lX ax [] = 0 := by simp [lX]
theorem o8 (ax : Int) (k : ai) (ks : List ai) : lX ax (k :: ks) = b_ ax k + lX ax ks := by simp [lX]
theorem Xq (ax : Int) (a b : List ai) : lX ax (a ++ b) = lX ax a + lX ax b := by
 induction a with
 | nil => rw [List.nil_append, sQ]; omega
 | cons x xs ih => rw [List.cons_append, o8, o8, ih]; omega
theorem ql (ax m : Int) : lJ ax m [] = m := by simp [lJ]
theorem kC (ax m : Int) (k : ai) (ks : List ai) : lJ ax m (k :: ks) = lJ ax (mx m (b_ ax k)) ks := by simp [lJ]
theorem X8 {a b c : Int} (h : a ≤ c) (k : b ≤ c) : mx a b ≤ c := by unfold mx; split <;> omega
theorem Uo (a b : Int) : a ≤ mx a b := by unfold mx; split <;> omega
theorem Ur (a b : Int) : b ≤ mx a b := by unfold mx; split <;> omega
theorem JG (ax : Int) : ∀ (N : Nat), (∀ c : ai, sz c ≤ N → -(sz c : Int) ≤ b_ ax c ∧ b_ ax c ≤ 2 * (sz c : Int) - 1) ∧
  (∀ l : List ai, dI l ≤ N → -(dI l : Int) ≤ lX ax l ∧ lX ax l ≤ 2 * (dI l : Int) - (l.length : Int)) ∧ (∀ l : List ai, dI l ≤ N → ∀ m : Int, m ≤ lJ ax m l ∧ ∀ u, m ≤ u → 2 * (dI l : Int) ≤ u → lJ ax m l ≤ u) := by
 intro N
 induction N with
 | zero =>
  refine ⟨fun c h => ?_, fun l h => ?_, fun l h => ?_⟩
  ·rw [cO] at h; omega
  ·cases l with
   | nil => rw [sQ, xk]; simp
   | cons z zs => rw [bY, cO] at h; omega
  ·cases l with
   | nil => intro m; rw [ql]; exact ⟨Int.le_refl _, fun u h _ => h⟩
   | cons z zs => rw [bY, cO] at h; omega
 | succ N ih =>
  have hC : ∀ c : ai, sz c ≤ N + 1 → -(sz c : Int) ≤ b_ ax c ∧ b_ ax c ≤ 2 * (sz c : Int) - 1 := by
   intro c h
   have hs := cO c
   have h1 := ih.2.1 c.f3 (by omega)
   have h2 := ih.2.2 c.f3 (by omega) 0
   have h3 := h2.2 (2 * (dI c.f3 : Int)) (by omega) (Int.le_refl _)
   rw [oQ]
   split
   ·omega
   ·split
    ·omega
    ·omega
  refine ⟨hC, fun l => ?_, fun l => ?_⟩
  ·induction l with
   | nil => intro _; rw [sQ, xk]; simp
   | cons x xs ihl =>
    intro h
    rw [bY] at h ⊢
    have h1 := hC x (by omega)
    have h2 := ihl (by omega)
    rw [o8, List.length_cons]
    omega
  ·induction l with
   | nil => intro _ m; rw [ql]; exact ⟨Int.le_refl _, fun u h _ => h⟩
   | cons x xs ihl =>
    intro h m
    rw [bY] at h ⊢
    have h1 := hC x (by omega)
    have h2 := ihl (by omega) (mx m (b_ ax x))
    rw [kC]
    refine ⟨Int.le_trans (Uo m (b_ ax x)) h2.1, fun u hu hu2 => h2.2 u (X8 hu (by omega)) (by omega)⟩
theorem I4 {c x : ai} (h : (fG c).all mf = true) (hx : x ∈ c.f3) : (fG x).all mf = true := by
 rw [pV, List.all_cons, Bool.and_eq_true] at h
 obtain ⟨p, q, e⟩ := List.append_of_mem hx
 have h2 := h.2
 rw [e, BH, lF, List.all_append, List.all_append] at h2
 simp only [Bool.and_eq_true] at h2
 exact h2.2.1
theorem nD {c : ai} (h : (fG c).all mf = true) : mf c = true := by
 rw [pV, List.all_cons, Bool.and_eq_true] at h
 exact h.1
theorem w_ {c : ai} (h : mf c = true) : (c.f0 = 1 ∧ c.f3.length = 0) ∨ ((c.f0 = 2 ∨ c.f0 = 3) ∧ 2 ≤ c.f3.length) := by
 unfold mf at h
 simp only [Bool.and_eq_true, decide_eq_true_eq] at h
 obtain ⟨⟨⟨_, h1⟩, h2⟩, h3⟩ := h
 by_cases e : c.f0 = 1
 ·exact .inl ⟨e, (h2 e).1⟩
 ·exact .inr ⟨by omega, (h3 (by omega)).1⟩
theorem BZ (ax m : Int) (l : List ai) (k : ai) : lJ ax m (l ++ [k]) = mx (lJ ax m l) (b_ ax k) := by
 induction l generalizing m with
 | nil => rw [List.nil_append, kC, ql, ql]
 | cons x xs ih => rw [List.cons_append, kC, kC, ih]
def wF (ax : Int) (a : Bool) (pre : List ai) : Int := if a = true then lX ax pre + (if pre.length = 0 then 0 else (pre.length : Int) - 1) else lJ ax 0 pre
theorem Ec (ax : Int) (pre : List ai) (k : ai) : lX ax (pre ++ [k]) = lX ax pre + b_ ax k := by rw [Xq, o8, sQ, Int.add_zero]
theorem Oj {ax : Int} {pre : List ai} {k : ai} (h : dI pre + sz k ≤ 1048576) : -2097152 ≤ lX ax pre ∧ lX ax pre ≤ 2097152 ∧ -2097152 ≤ b_ ax k ∧ b_ ax k ≤ 2097152 := by
 have b1 := (JG ax (sz k)).1 k (Nat.le_refl _)
 have b2 := (JG ax (dI pre)).2.1 pre (Nat.le_refl _)
 omega
theorem UE {ax : Int} {pre : List ai} {k : ai} (h : dI pre + sz k ≤ 1048576) (hp : pre.length = 0) : wrap64 (wF ax true pre + b_ ax k) = wF ax true (pre ++ [k]) := by
 have b := Oj (ax := ax) h
 unfold wF
 rw [if_pos rfl, if_pos rfl, if_pos hp, Ec, List.length_append, List.length_singleton, hp, if_neg (by omega), wq (by omega) (by omega)]
 omega
theorem WQ {ax : Int} {pre : List ai} {k : ai} (h : dI pre + sz k ≤ 1048576) (hp : 0 < pre.length) : wrap64 (wrap64 (wF ax true pre + b_ ax k) + 1) = wF ax true (pre ++ [k]) := by
 have b := Oj (ax := ax) h
 have hl := ik pre
 unfold wF
 rw [if_pos rfl, if_pos rfl, if_neg (by omega), Ec, List.length_append, List.length_singleton, if_neg (by omega), wq (x := lX ax pre + ((pre.length : Int) - 1) + b_ ax k) (by omega) (by omega), wq (by omega) (by omega)]
 omega
theorem ad_ {ax : Int} {pre : List ai} {k : ai} (h : wF ax false pre < b_ ax k) : b_ ax k = wF ax false (pre ++ [k]) := by
 unfold wF at h ⊢
 rw [if_neg (by simp)] at h ⊢
 rw [BZ]
 unfold mx
 split <;> omega
theorem WR {ax : Int} {pre : List ai} {k : ai} (h : ¬ wF ax false pre < b_ ax k) : wF ax false pre = wF ax false (pre ++ [k]) := by
 unfold wF at h ⊢
 rw [if_neg (by simp)] at h ⊢
 rw [if_neg (by simp), BZ]
 unfold mx
 split <;> omega
theorem PI {ax : Int} {c : ai} (h1 : ¬ c.f0 = 1) (h2 : c.f3.length ≠ 0) : wF ax (fC ax c.f0) c.f3 = b_ ax c := by
 rw [oQ, if_neg h1]
 unfold wF
 rw [if_neg h2]
 split <;> omega
theorem QS {ax : Int} {pre : List ai} {k : ai} {n : Int} (h : dI pre + sz k ≤ 1048576) (hn : -1 ≤ n ∧ n ≤ 1048576) : wrap64 (n + lX ax pre + b_ ax k) = n + lX ax (pre ++ [k]) := by
 have b := Oj (ax := ax) h
 rw [Ec, wq (by omega) (by omega)]
 omega
theorem Hr (l : List ai) (i : Int) (h0 : 0 ≤ i) (h1 : i < (l.length : Int)) : aA l i ∈ l := by
 unfold aA
 rw [List.getD_eq_getElem?_getD, List.getElem?_eq_getElem (by omega), Option.getD_some]
 exact List.getElem_mem _
theorem uI {l : List ai} {k : ai} (h : k ∈ l) : sz k ≤ dI l := by
 obtain ⟨p, q, e⟩ := List.append_of_mem h
 rw [e, nG, bY]
 omega
def n_ (c : ai) : List Int → Option ai
 | [] => some c
 | i :: is => if i < 0 ∨ i ≥ (c.f3.length : Int) then none else n_ (aA c.f3 i) is
end Go.Proofs.Ytfdmfgaiblfbhaa.P
namespace Go.Proofs.Ytfdmfgaiblfbhaa.P
open Go.RowKit Go.Proofs.ag.aK Go.Proofs.ag.bG Go.Proofs.ag.bV
attribute [local go_sem] jm jR
section
variable {W : World} {b : Nat} {P : Nat → Prop} {A : Option Addr} {cc : Nat}
theorem AX {c : ai} {ax : Int} {v : Bool} (h : fC ax c.f0 = v) (hV : Kd.V k26 26 W b P (.slice A c.f3.length cc) c.f3) :
  Calls Try.prog 99 #[.agg #[.int .u8 c.f0, .int .i64 c.f1.f0, .int .i64 c.f1.f1, .int .i64 c.f1.f2, .int .i64 c.f1.f3, .int .i64 c.f2, .slice A c.f3.length cc], .int .u8 ax] W fun e w' => e = .returned (.bool v) ∧ Below W.heap.size W w' :=
 have h2 := Kd.kP hV
 qU.calls _ _ _ _ _ _ A cc c.f3 ax _ W h2.2.2 h2.2.1 ((BI c ax).trans (congrArg some h))
end
theorem WA (ax : Int) : ∀ (N : Nat) (c : ai), sz c ≤ N → N ≤ 1048576 → ∀ (b : Nat) (P : Nat → Prop) (A : Option Addr) (cc : Nat) (w : World), Kd.V k26 26 w b P (.slice A c.f3.length cc) c.f3 →
  Calls Try.prog 149 #[.agg #[.int .u8 c.f0, .int .i64 c.f1.f0, .int .i64 c.f1.f1, .int .i64 c.f1.f2, .int .i64 c.f1.f3, .int .i64 c.f2, .slice A c.f3.length cc], .int .u8 ax] w fun e w' => e = .returned (.int .i64 (b_ ax c)) ∧ Below w.heap.size w w' := by
 intro N
 induction N with
 | zero => intro c h; rw [cO] at h; omega
 | succ N ih =>
  intro c hc hN b P A cc w hv
  have hsz := cO c
  have hlen := ik c.f3
  have S := ae.mk (St.start (ts := [(.slice A c.f3.length cc, c.f3)]) (b0 := w.heap.size) (w := w) (P := P) (fun t ht => by rw [List.mem_singleton.1 ht]; exact fK hv))
  have gW := ae.mk (show c.f3.length ≤ 1048576 by omega)
  have KQ := ae.mk (show dI c.f3 ≤ 1048576 by omega)
  have IH := ae.mk fun (k : ai) (hk : k ∈ c.f3) A cc w {b P} h => ih k (by have := uI hk; omega) (by omega) b P A cc w h
  have hE := fun h1 h2 => @PI ax c h1 h2
  have hL := oQ ax c
  generalize b_ ax c = R at hE hL ⊢
  obtain ⟨ck, ⟨cx, cy, cw, ch⟩, aU, l⟩ := c
  simp only [] at S gW KQ IH hE hL ⊢
  clear ih hc hN hv hsz hlen
  by_cases h1 : ck = 1
  case pos =>
   have HR := ae.mk (show R = 1 by rw [hL, if_pos h1])
   obtain ⟨h1a, h1b, h1d⟩ := wM (a := ck) (b := 1) (by omega)
   clear h1 hE hL
   go_enter Try.func149, Try.ntmps149
   go_wp2_with ((refine boxS 2 _ 26 S ?_; clear S; intro b2 dF S; have jZ := (S.out.at (.head _) 0).trans rfl))
   clear jZ
   go_ret
   rw [HR.out]
   exact ⟨rfl, S.out.below⟩
  rw [if_neg h1] at hL
  have HR := ae.mk hL
  obtain ⟨h1a, h1b, h1d⟩ := eqF (a := ck) (b := 1) (by omega)
  have HWL := ae.mk (show wrap64 ((l.length : Int) - 1) = (l.length : Int) - 1 by have := gW.out; unfold wrap64; omega)
  clear h1 hE hL
  go_enter Try.func149, Try.ntmps149
  go_wp2_with ((refine boxS 2 _ 26 S ?_; clear S; intro b2 dV S; have jZ := (S.out.at (.head _) 0).trans rfl; have eH := (S.out.at (.head _) 6).trans rfl))
  clear jZ eH
  go_loopg [5, 6, 20] l.length (fun gg v5 v6 v20 wr => ∃ (pre rest : List ai), v5 = .int .i64 ((l.length : Int) - 1 + lX ax pre) ∧ v6 = .int .i64 (lJ ax 0 pre) ∧ v20 = .int .i64 (pre.length : Int) ∧ ae (pre ++ rest = l) ∧ rest.length ≤ gg ∧ ae (St w P [(some b2, .cells #[.int .u8 ck, .int .i64 cx, .int .i64 cy, .int .i64 cw, .int .i64 ch, .int .i64 aU, .slice A l.length cc] 26 (0, 0))] [] [(.slice A l.length cc, l)] [] wr))
  case atStart => exact ⟨[], l, (by rw [sQ, Int.add_zero, HWL.out]), (by rw [ql]), rfl, ⟨rfl⟩, Nat.le_refl _, S⟩
  case round =>
   clear S
   obtain ⟨pre, rest, rfl, rfl, rfl, HE, hgg, S⟩ := hrel
   cases rest with
   | nil =>
    have hE := HE.out
    rw [List.append_nil] at hE
    have hE2 := hE.symm
    subst hE2
    clear hE HE hgg
    have hlt : ¬ ((l.length : Int) < (l.length : Int)) := by omega
    cases ha : fC ax ck with
    | true =>
     have HA := ae.mk ha
     rw [ha] at HR
     clear ha
     obtain ⟨jZ, mQ, mV, mW, mX, l7, eH⟩ := St.ed S (.head _)
     go_wp2_with ((refine bH (some 36) Try.func99 S (AX (c := ⟨ck, ⟨cx, cy, cw, ch⟩, aU, l⟩) HA.out (S.out.tree _ (.head _))) ?_; clear S; intro dF S; clear jZ mQ mV mW mX l7 eH))
     go_ret
     rw [HR.out]
     exact ⟨rfl, S.out.below⟩
    | false =>
     have HA := ae.mk ha
     rw [ha] at HR
     clear ha
     obtain ⟨jZ, mQ, mV, mW, mX, l7, eH⟩ := St.ed S (.head _)
     go_wp2_with ((refine bH (some 36) Try.func99 S (AX (c := ⟨ck, ⟨cx, cy, cw, ch⟩, aU, l⟩) HA.out (S.out.tree _ (.head _))) ?_; clear S; intro dF S; clear jZ mQ mV mW mX l7 eH))
     go_ret
     rw [HR.out]
     exact ⟨rfl, S.out.below⟩
   | cons k rest =>
    have hk : k ∈ l := by rw [← HE.out]; simp
    have hlt : (pre.length : Int) < (l.length : Int) := by rw [← HE.out, List.length_append, List.length_cons]; omega
    have hw1 : wrap64 ((pre.length : Int) + 1) = ((pre ++ [k]).length : Int) := by have := gW.out; rw [List.length_append, List.length_singleton]; unfold wrap64; omega
    have HW1 := ae.mk hw1
    have fF := ae.mk hgg
    have HK := ae.mk hk
    have XE := ae.mk (show dI pre + sz k ≤ 1048576 by have h := KQ.out; rw [← HE.out, nG, bY] at h; omega)
    obtain ⟨jS, ua, uc, ek, S1⟩ := S.out.elem (.head _) (pre.length : Int) (Int.natCast_nonneg _) hlt
    subst ek
    have hrd : aA l (pre.length : Int) = k := by rw [← HE.out]; exact lu pre k rest
    rw [hrd] at S1
    simp only [Int.toNat_natCast] at S1
    replace S := ae.mk S1
    clear S1 hrd hk hgg hw1
    obtain ⟨fZ, iw, jf, iV, iW, kD, kE⟩ := St.CJ S
    go_wp2_with (first | (refine boxS 8 _ 26 S ?_; clear S; intro b8 dF S; clear fZ iw jf iV iW kD kE) | (refine gX 26 8 23 #[.int .u8 k.f0, .int .i64 k.f1.f0, .int .i64 k.f1.f1, .int .i64 k.f1.f2, .int .i64 k.f1.f3, .int .i64 k.f2, .slice ua k.f3.length uc] 0 7 S ?_; clear S; intro dV S; obtain ⟨Qr, vW, GL, afl, afm, afn, Qs⟩ := St.ed S (.head _)) | (refine bH (some 26) Try.func149 S (IH.out k HK.out ua uc _ (S.out.tree _ (.head _))) ?_; clear S; intro fV S; clear Qr vW GL afl afm afn Qs))
    all_goals
     have hw1 := HW1.out
     go_wp2
     go_roundg rest.length
     case measure => exact Nat.lt_of_lt_of_le (Nat.lt_succ_self _) fF.out
     case rel => exact ⟨pre ++ [k], rest, (by rw [QS XE.out (by have := gW.out; omega)]), (by rw [BZ]; congr 1; unfold mx; split <;> omega), (by rw [hw1]), ⟨by rw [List.append_assoc]; exact HE.out⟩, Nat.le_refl _, ⟨S.out.dP.dE.bg.bg.bg.bg.bg.bg.bg⟩⟩
def kN.f (_ : Nat) (a0 a1 a2 a3 a4 a5 : Int) (l : List ai) (ax : Int) : Option Int := if sz ⟨a0, ⟨a1, a2, a3, a4⟩, a5, l⟩ ≤ 1048576 then some (b_ ax ⟨a0, ⟨a1, a2, a3, a4⟩, a5, l⟩) else none
theorem kN.calls (k : Nat) (au : Int) (aI : Int) (aC : Int) (aH : Int) (bz : Int) (bD : Int) (dG : Option Addr) (dH : Nat) (aQ : List (ai)) (a1 : Int) (r : Int) (w : World) (rD : Kd.C k26 w dG aQ.length aQ) (tq : aQ.length ≤ dH) (h : kN.f k au aI aC aH bz bD aQ a1 = some r) :
  Calls Try.prog 149 #[.agg #[.int .u8 au, .int .i64 aI, .int .i64 aC, .int .i64 aH, .int .i64 bz, .int .i64 bD, .slice dG aQ.length dH], .int .u8 a1] w fun e w' => e = .returned (.int .i64 r) ∧ Below w.heap.size w w' := by
 unfold kN.f at h
 split at h
 ·rename_i hz
  injection h with h
  subst h
  exact WA a1 _ ⟨au, ⟨aI, aC, aH, bz⟩, bD, aQ⟩ (Nat.le_refl _) hz w.heap.size (fun _ => True) dG dH w (Kd.wU tq (Kd.rM (Kd.Gj qE rD) (fun _ _ => trivial)))
 ·cases h
theorem WB (ax : Int) (N : Nat) (c : ai) (hc : sz c ≤ N) (hN : N ≤ 1048576) : Ev (fun k => kN.f k c.f0 c.f1.f0 c.f1.f1 c.f1.f2 c.f1.f3 c.f2 c.f3 ax) (b_ ax c) := by
 refine Ev.congr (f := fun _ => some (b_ ax c)) (fun k => ?_) (Ev.now _)
 unfold kN.f
 rw [GR, if_pos (Nat.le_trans hc hN)]
end Go.Proofs.Ytfdmfgaiblfbhaa.P
namespace Go.Proofs.Ytfdmfgaiblfbhaa.P
open Go.RowKit Go.Proofs.ag.aK Go.Proofs.ag.bG Go.Proofs.ag.bV
section
variable {W : World} {b : Nat} {P : Nat → Prop} {A : Option Addr} {cc : Nat}
theorem sN {c : ai} {ax : Int} {v : Bool} (h : fC ax c.f0 = v) (hV : Kd.V k26 26 W b P (.slice A c.f3.length cc) c.f3) :
  Calls Try.prog 88 #[.agg #[.int .u8 c.f0, .int .i64 c.f1.f0, .int .i64 c.f1.f1, .int .i64 c.f1.f2, .int .i64 c.f1.f3, .int .i64 c.f2, .slice A c.f3.length cc], .int .u8 ax] W fun e w' => e = .returned (.bool v) ∧ Below W.heap.size W w' :=
 have h2 := Kd.kP hV
 rG.calls _ _ _ _ _ _ A cc c.f3 ax _ W h2.2.2 h2.2.1 ((Oz c ax).trans (congrArg some h))
end
theorem afF (ax : Int) : ∀ (N : Nat) (c : ai), sz c ≤ N → N ≤ 1048576 → (fG c).all mf = true → ∀ (b : Nat) (P : Nat → Prop) (A : Option Addr) (cc : Nat) (w : World), Kd.V k26 26 w b P (.slice A c.f3.length cc) c.f3 →
  Calls Try.prog 152 #[.agg #[.int .u8 c.f0, .int .i64 c.f1.f0, .int .i64 c.f1.f1, .int .i64 c.f1.f2, .int .i64 c.f1.f3, .int .i64 c.f2, .slice A c.f3.length cc], .int .u8 ax] w fun e w' => e = .returned (.int .i64 (b_ ax c)) ∧ Below w.heap.size w w' := by
 intro N
 induction N with
 | zero => intro c h; rw [cO] at h; omega
 | succ N ih =>
  intro c hc hN hok b P A cc w hv
  have hsz := cO c
  have hlen := ik c.f3
  have S := ae.mk (St.start (ts := [(.slice A c.f3.length cc, c.f3)]) (b0 := w.heap.size) (w := w) (P := P) (fun t ht => by rw [List.mem_singleton.1 ht]; exact fK hv))
  have gW := ae.mk (show c.f3.length ≤ 1048576 by omega)
  have KQ := ae.mk (show dI c.f3 ≤ 1048576 by omega)
  have IH := ae.mk fun (k : ai) (hk : k ∈ c.f3) A cc w {b P} h => ih k (by have := uI hk; omega) (by omega) (I4 hok hk) b P A cc w h
  have hE := fun h1 h2 => @PI ax c h1 h2
  have hL := oQ ax c
  have hkd := w_ (nD hok)
  generalize b_ ax c = R at hE hL ⊢
  obtain ⟨ck, ⟨cx, cy, cw, ch⟩, aU, l⟩ := c
  simp only [] at S gW KQ IH hE hL ⊢
  clear ih hc hN hv hsz hlen
  simp only [] at hkd
  by_cases hz : l.length = 0
  case pos =>
   have HR := ae.mk (show R = 1 by rw [hL, if_pos (by omega)])
   obtain ⟨hza, hzb, hzd⟩ := wM (a := (l.length : Int)) (b := 0) (by omega)
   have hze : (l.length == 0) = true := beq_iff_eq.mpr (by omega)
   have hzf : decide (l.length = 0) = true := decide_eq_true (by omega)
   clear hkd hz hE hL
   go_enter Try.func152, Try.ntmps152
   go_wp2_with ((refine boxS 2 _ 26 S ?_; clear S; intro b2 dF S; have eH := (S.out.at (.head _) 6).trans rfl))
   clear eH
   go_ret
   rw [HR.out]
   exact ⟨rfl, S.out.below⟩
  have HR := ae.mk (hE (by omega) hz)
  obtain ⟨hza, hzb, hzd⟩ := eqF (a := (l.length : Int)) (b := 0) (by omega)
  have hze : (l.length == 0) = false := beq_eq_false_iff_ne.mpr (by omega)
  have hzf : decide (l.length = 0) = false := decide_eq_false (by omega)
  clear hkd hz hE hL
  generalize ha : fC ax ck = a at HR
  have HA := ae.mk ha
  clear ha
  go_enter Try.func152, Try.ntmps152
  go_wp2_with ((refine boxS 2 _ 26 S ?_; clear S; intro b2 dV S; have eH := (S.out.at (.head _) 6).trans rfl))
  clear eH
  go_loopg [5, 15] l.length (fun gg v5 v15 wr => ∃ (pre rest : List ai), v5 = .int .i64 (wF ax a pre) ∧ v15 = .int .i64 (pre.length : Int) ∧ ae (pre ++ rest = l) ∧ rest.length ≤ gg ∧ ae (St w P [(some b2, .cells #[.int .u8 ck, .int .i64 cx, .int .i64 cy, .int .i64 cw, .int .i64 ch, .int .i64 aU, .slice A l.length cc] 26 (0, 0))] [] [(.slice A l.length cc, l)] [] wr))
  case atStart => exact ⟨[], l, (by cases a <;> rfl), rfl, ⟨rfl⟩, Nat.le_refl _, S⟩
  case round =>
   clear S
   obtain ⟨pre, rest, rfl, rfl, HE, hgg, S⟩ := hrel
   cases rest with
   | nil =>
    have hE := HE.out
    rw [List.append_nil] at hE
    have hE2 := hE.symm
    subst hE2
    clear hE HE hgg
    have hlt : ¬ ((l.length : Int) < (l.length : Int)) := by omega
    go_wp2
    go_ret
    rw [← HR.out]
    exact ⟨rfl, S.out.below⟩
   | cons k rest =>
    have hk : k ∈ l := by rw [← HE.out]; simp
    have hlt : (pre.length : Int) < (l.length : Int) := by rw [← HE.out, List.length_append, List.length_cons]; omega
    have hw1 : wrap64 ((pre.length : Int) + 1) = ((pre ++ [k]).length : Int) := by have := gW.out; rw [List.length_append, List.length_singleton]; unfold wrap64; omega
    have HW1 := ae.mk hw1
    have fF := ae.mk hgg
    have HK := ae.mk hk
    have XE := ae.mk (show dI pre + sz k ≤ 1048576 by have h := KQ.out; rw [← HE.out, nG, bY] at h; omega)
    obtain ⟨jS, ua, uc, ek, S1⟩ := S.out.elem (.head _) (pre.length : Int) (Int.natCast_nonneg _) hlt
    subst ek
    have hrd : aA l (pre.length : Int) = k := by rw [← HE.out]; exact lu pre k rest
    rw [hrd] at S1
    simp only [Int.toNat_natCast] at S1
    replace S := ae.mk S1
    clear S1 hrd hk hgg hw1
    cases a with
    | true =>
     by_cases hp : pre.length = 0
     case pos =>
      have HP := ae.mk hp
      have hpn : ¬ (0 < pre.length) := by omega
      obtain ⟨hqa, GZ⟩ := lG (a := 0) (b := (pre.length : Int)) (by omega)
      have hqc : decide (0 < pre.length) = false := decide_eq_false (by omega)
      have hqe : ¬ (0 < pre.length) := by omega
      clear hp
      obtain ⟨fZ, iw, jf, iV, iW, kD, kE⟩ := St.CJ S
      have eH := (S.out.at (.head _) 6).trans rfl
      go_wp2_with (first | (refine bH (some 24) Try.func152 S (IH.out k HK.out ua uc _ (S.out.tree _ (.head _))) ?_; clear S; intro dF S; clear fZ iw jf iV iW kD kE eH; obtain ⟨jZ, mQ, mV, mW, mX, l7, eH⟩ := St.ed S (.head _)) | (refine bH (some 27) Try.func88 S (sN (c := ⟨ck, ⟨cx, cy, cw, ch⟩, aU, l⟩) HA.out (S.out.tree _ bI)) ?_; clear S; intro dV S; clear jZ mQ mV mW mX l7 eH))
      have hw1 := HW1.out
      go_wp2
      go_roundg rest.length
      case measure => exact Nat.lt_of_lt_of_le (Nat.lt_succ_self _) fF.out
      case rel => exact ⟨pre ++ [k], rest, (by rw [UE XE.out HP.out]), (by (rw [List.length_append]; rfl)), ⟨by rw [List.append_assoc]; exact HE.out⟩, Nat.le_refl _, ⟨S.out.dE.bg.bg.bg.bg.bg.bg.bg⟩⟩
     case neg =>
      have HP := ae.mk (show 0 < pre.length by omega)
      have hpn : 0 < pre.length := HP.out
      obtain ⟨hqa, GZ⟩ := mr (a := 0) (b := (pre.length : Int)) (by omega)
      have hqc : decide (0 < pre.length) = true := decide_eq_true (by omega)
      have hqe : 0 < pre.length := by omega
      clear hp
      obtain ⟨fZ, iw, jf, iV, iW, kD, kE⟩ := St.CJ S
      have eH := (S.out.at (.head _) 6).trans rfl
      go_wp2_with (first | (refine bH (some 24) Try.func152 S (IH.out k HK.out ua uc _ (S.out.tree _ (.head _))) ?_; clear S; intro dF S; clear fZ iw jf iV iW kD kE eH; obtain ⟨jZ, mQ, mV, mW, mX, l7, eH⟩ := St.ed S (.head _)) | (refine bH (some 27) Try.func88 S (sN (c := ⟨ck, ⟨cx, cy, cw, ch⟩, aU, l⟩) HA.out (S.out.tree _ bI)) ?_; clear S; intro dV S; clear jZ mQ mV mW mX l7 eH))
      have hw1 := HW1.out
      go_wp2
      go_roundg rest.length
      case measure => exact Nat.lt_of_lt_of_le (Nat.lt_succ_self _) fF.out
      case rel => exact ⟨pre ++ [k], rest, (by rw [WQ XE.out HP.out]), (by rw [hw1]), ⟨by rw [List.append_assoc]; exact HE.out⟩, Nat.le_refl _, ⟨S.out.dE.bg.bg.bg.bg.bg.bg.bg⟩⟩
    | false =>
     by_cases hp : wF ax false pre < b_ ax k
     case pos =>
      have HP := ae.mk hp
      obtain ⟨hpa, hpb⟩ := mr (a := wF ax false pre) (b := b_ ax k) (by omega)
      clear hp
      obtain ⟨fZ, iw, jf, iV, iW, kD, kE⟩ := St.CJ S
      have eH := (S.out.at (.head _) 6).trans rfl
      go_wp2_with (first | (refine bH (some 24) Try.func152 S (IH.out k HK.out ua uc _ (S.out.tree _ (.head _))) ?_; clear S; intro dF S; clear fZ iw jf iV iW kD kE eH; obtain ⟨jZ, mQ, mV, mW, mX, l7, eH⟩ := St.ed S (.head _)) | (refine bH (some 27) Try.func88 S (sN (c := ⟨ck, ⟨cx, cy, cw, ch⟩, aU, l⟩) HA.out (S.out.tree _ bI)) ?_; clear S; intro dV S; clear jZ mQ mV mW mX l7 eH))
      have hw1 := HW1.out
      go_wp2
      go_roundg rest.length
      case measure => exact Nat.lt_of_lt_of_le (Nat.lt_succ_self _) fF.out
      case rel => exact ⟨pre ++ [k], rest, (by rw [ad_ HP.out]), (by rw [hw1]), ⟨by rw [List.append_assoc]; exact HE.out⟩, Nat.le_refl _, ⟨S.out.dE.bg.bg.bg.bg.bg.bg.bg⟩⟩
     case neg =>
      have HP := ae.mk hp
      obtain ⟨hpa, hpb⟩ := lG (a := wF ax false pre) (b := b_ ax k) (by omega)
      clear hp
      obtain ⟨fZ, iw, jf, iV, iW, kD, kE⟩ := St.CJ S
      have eH := (S.out.at (.head _) 6).trans rfl
      go_wp2_with (first | (refine bH (some 24) Try.func152 S (IH.out k HK.out ua uc _ (S.out.tree _ (.head _))) ?_; clear S; intro dF S; clear fZ iw jf iV iW kD kE eH; obtain ⟨jZ, mQ, mV, mW, mX, l7, eH⟩ := St.ed S (.head _)) | (refine bH (some 27) Try.func88 S (sN (c := ⟨ck, ⟨cx, cy, cw, ch⟩, aU, l⟩) HA.out (S.out.tree _ bI)) ?_; clear S; intro dV S; clear jZ mQ mV mW mX l7 eH))
      have hw1 := HW1.out
      go_wp2
      go_roundg rest.length
      case measure => exact Nat.lt_of_lt_of_le (Nat.lt_succ_self _) fF.out
      case rel => exact ⟨pre ++ [k], rest, (by rw [WR (Int.not_lt.mpr HP.out)]), (by rw [hw1]), ⟨by rw [List.append_assoc]; exact HE.out⟩, Nat.le_refl _, ⟨S.out.dE.bg.bg.bg.bg.bg.bg.bg⟩⟩
def aei.f (_ : Nat) (a0 a1 a2 a3 a4 a5 : Int) (l : List ai) (ax : Int) : Option Int := if sz ⟨a0, ⟨a1, a2, a3, a4⟩, a5, l⟩ ≤ 1048576 ∧ (fG ⟨a0, ⟨a1, a2, a3, a4⟩, a5, l⟩).all mf = true then some (b_ ax ⟨a0, ⟨a1, a2, a3, a4⟩, a5, l⟩) else none
end Go.Proofs.Ytfdmfgaiblfbhaa.P

namespace Go.Proofs.Ytfdmfgaiblfbhaa.P
open Go.RowKit Go.Proofs.ag.aK Go.Proofs.ag.bG Go.Proofs.ag.bV
attribute [local go_sem] jm jB jR kF jO jP kT kV
def oU.f (au : Int) (aI : Int) (aC : Int) (aH : Int) (a1 : Int) : Option (Int) := if a1 = 2 then (some aH) else (if a1 = 1 then (some aC) else (some 0))
theorem oU.calls (au : Int) (aI : Int) (aC : Int) (aH : Int) (a1 : Int) (r : Int) (w : World) (h : oU.f au aI aC aH a1 = some r) :
  Calls Try.prog 98 #[.agg #[.int .i64 au, .int .i64 aI, .int .i64 aC, .int .i64 aH], .int .u8 a1] w fun e w' => e = .returned (.int .i64 r) ∧ Below w.heap.size w w' := by
 have NH := Try.underlying23
 have HB := ae.mk (Below.refl w.heap.size w)
 have H : (if a1 = 2 then (some aH) else (if a1 = 1 then (some aC) else (some 0))) = some r := h
 clear h
 by_cases c3 : a1 = 2
 ·rw [if_pos c3] at H
  have uh : (a1 == 2) = true := beq_iff_eq.mpr c3
  have y9 : (a1 != 2) = false := bne_eq_false_iff_eq.mpr c3
  clear c3
  obtain rfl := Option.some.inj H
  go_enter Try.func98, Try.ntmps98
  go_wp2_with (((with_reducible refine aG (N := 2) rfl ?_); refine aT ?hg (N := 2) ?hd (cs := #[.int .i64 au, .int .i64 aI, .int .i64 aC, .int .i64 aH]) (t := 23) ?hr ?_; (case hd => rfl); (case hg => rfl); (case hr => (go_simp; done)); intro sZ hg w4 hbox hb; have nU := ae.mk (hbox); have Qb := ae.mk ((by rw [hg]; exact (dR (by repeat ((with_reducible exact HB.out)))) : w.heap.size ≤ sZ)); replace HB := ae.mk (ak (by repeat ((with_reducible exact HB.out))) hb); clear hb hbox hg; have adg : w4.cell? ⟨sZ, 0, none⟩ = some (.int .i64 au) := (af nU.out 0).trans rfl; have adh : w4.cell? ⟨sZ, 1, none⟩ = some (.int .i64 aI) := (af nU.out 1).trans rfl; have adl : w4.cell? ⟨sZ, 2, none⟩ = some (.int .i64 aC) := (af nU.out 2).trans rfl; have adm : w4.cell? ⟨sZ, 3, none⟩ = some (.int .i64 aH) := (af nU.out 3).trans rfl; have adE := ah nU.out 0; have adF := ah nU.out 1; have adG := ah nU.out 2; have adH := ah nU.out 3))
  go_ret
  exact ⟨by rfl, by repeat ((with_reducible first | exact HB.out | refine oM ?_ Qb.out))⟩
 ·rw [if_neg c3] at H
  have uh : (a1 == 2) = false := beq_eq_false_iff_ne.mpr c3
  have y9 : (a1 != 2) = true := bne_iff_ne.mpr c3
  by_cases c6 : a1 = 1
  ·rw [if_pos c6] at H
   have BK : (a1 == 1) = true := beq_iff_eq.mpr c6
   have VF : (a1 != 1) = false := bne_eq_false_iff_eq.mpr c6
   clear c6
   obtain rfl := Option.some.inj H
   go_enter Try.func98, Try.ntmps98
   go_wp2_with (((with_reducible refine aG (N := 2) rfl ?_); refine aT ?hg (N := 2) ?hd (cs := #[.int .i64 au, .int .i64 aI, .int .i64 aC, .int .i64 aH]) (t := 23) ?hr ?_; (case hd => rfl); (case hg => rfl); (case hr => (go_simp; done)); intro sZ hg w7 hbox hb; have nU := ae.mk (hbox); have Qb := ae.mk ((by rw [hg]; exact (dR (by repeat ((with_reducible exact HB.out)))) : w.heap.size ≤ sZ)); replace HB := ae.mk (ak (by repeat ((with_reducible exact HB.out))) hb); clear hb hbox hg; have TB : w7.cell? ⟨sZ, 0, none⟩ = some (.int .i64 au) := (af nU.out 0).trans rfl; have TC : w7.cell? ⟨sZ, 1, none⟩ = some (.int .i64 aI) := (af nU.out 1).trans rfl; have TD : w7.cell? ⟨sZ, 2, none⟩ = some (.int .i64 aC) := (af nU.out 2).trans rfl; have TE : w7.cell? ⟨sZ, 3, none⟩ = some (.int .i64 aH) := (af nU.out 3).trans rfl; have TV := ah nU.out 0; have TW := ah nU.out 1; have TY := ah nU.out 2; have TZ := ah nU.out 3))
   go_ret
   exact ⟨by rfl, by repeat ((with_reducible exact HB.out))⟩
  ·rw [if_neg c6] at H
   have BK : (a1 == 1) = false := beq_eq_false_iff_ne.mpr c6
   have VF : (a1 != 1) = true := bne_iff_ne.mpr c6
   obtain rfl := Option.some.inj H
   go_enter Try.func98, Try.ntmps98
   go_wp2_with (((with_reducible refine aG (N := 2) rfl ?_); refine aT ?hg (N := 2) ?hd (cs := #[.int .i64 au, .int .i64 aI, .int .i64 aC, .int .i64 aH]) (t := 23) ?hr ?_; (case hd => rfl); (case hg => rfl); (case hr => (go_simp; done)); intro sZ hg w9 hbox hb; have nU := ae.mk (hbox); have Qb := ae.mk ((by rw [hg]; exact (dR (by repeat ((with_reducible exact HB.out)))) : w.heap.size ≤ sZ)); replace HB := ae.mk (ak (by repeat ((with_reducible exact HB.out))) hb); clear hb hbox hg))
   go_ret
   exact ⟨by rfl, by repeat ((with_reducible exact HB.out))⟩
end Go.Proofs.Ytfdmfgaiblfbhaa.P
namespace Go.Proofs.Ytfdmfgaiblfbhaa.P
open Go.RowKit Go.Proofs.ag.aK Go.Proofs.ag.bG Go.Proofs.ag.bV
def aV (ax : Int) (r : dD) : Int := if ax = 1 then r.f2 else if ax = 2 then r.f3 else 0
theorem JS (r : dD) (ax : Int) : oU.f r.f0 r.f1 r.f2 r.f3 ax = some (aV ax r) := by
 unfold oU.f aV
 by_cases h1 : ax = 1
 ·rw [if_neg (by omega), if_pos h1, if_pos h1]
 ·by_cases h2 : ax = 2
  ·rw [if_pos h2, if_neg h1, if_pos h2]
  ·rw [if_neg h2, if_neg h1, if_neg h1, if_neg h2]
end Go.Proofs.Ytfdmfgaiblfbhaa.P
namespace Go.Proofs.Ytfdmfgaiblfbhaa.P
open Go.RowKit Go.Proofs.ag.aK Go.Proofs.ag.bG Go.Proofs.ag.bV
attribute [local go_sem] jm jB jR kF jO jP kT kV
def kz.f (a0 : Int) : Option (Bool) := if a0 = 1 then (some true) else (some (a0 == 2))
theorem kz.acn (a0 : Int) (r : Bool) (w : World) (h : kz.f a0 = some r) :
  Calls Try.prog 147 #[.int .u8 a0] w fun e w' => e = .returned (.bool r) ∧ qK w w' := by
 have H : (if a0 = 1 then (some true) else (some (a0 == 2))) = some r := h
 clear h
 by_cases c2 : a0 = 1
 ·rw [if_pos c2] at H
  have L6 : (a0 == 1) = true := beq_iff_eq.mpr c2
  have agP : (a0 != 1) = false := bne_eq_false_iff_eq.mpr c2
  clear c2
  obtain rfl := Option.some.inj H
  go_enter Try.func147, Try.ntmps147
  go_wp2
  go_ret
  exact ⟨by rfl, by repeat (exact qK.refl _)⟩
 ·rw [if_neg c2] at H
  have L6 : (a0 == 1) = false := beq_eq_false_iff_ne.mpr c2
  have agP : (a0 != 1) = true := bne_iff_ne.mpr c2
  obtain rfl := Option.some.inj H
  go_enter Try.func147, Try.ntmps147
  go_wp2
  go_ret
  exact ⟨by rfl, by repeat (exact qK.refl _)⟩
theorem kz.calls (a0 : Int) (r : Bool) (w : World) (h : kz.f a0 = some r) :
  Calls Try.prog 147 #[.int .u8 a0] w fun e w' => e = .returned (.bool r) ∧ Below w.heap.size w w' := by
 refine (kz.acn a0 r w h).mono ?_
 rintro e w' ⟨he, n, rfl⟩
 exact ⟨he, eG (Below.refl _ _) n⟩
end Go.Proofs.Ytfdmfgaiblfbhaa.P
namespace Go.Proofs.Ytfdmfgaiblfbhaa.P
open Go.RowKit Go.Proofs.ag.aK Go.Proofs.ag.bG Go.Proofs.ag.bV
theorem aaq (Inv : List ai → World → Prop) (r : ai → Bool) (g : Nat) (lb : Array Value) (eg : ∀ args w, (callFunc g args).run Try.prog w = .ok (.enter g args) w) (l : List ai) (A : Option Addr) (c : Nat)
  (w0 : World) (hR : Kd.C k26 w0 A l.length l) (hW : ∀ s W, Inv s W → Below w0.heap.size w0 W) (hD : ∀ s W n, Inv s W → Inv s (W.drewN n))
  (hcall : ∀ (x : ai) (rest : List ai) (W : World) (B : Option Addr) (cb : Nat), x ∈ l → (∃ pre, pre ++ x :: rest = l) → Inv (x :: rest) W → Kd.C k26 w0 B x.f3.length x.f3 → x.f3.length ≤ cb → Calls Try.prog g (#[.agg #[.int .u8 x.f0, .int .i64 x.f1.f0, .int .i64 x.f1.f1, .int .i64 x.f1.f2, .int .i64 x.f1.f3, .int .i64 x.f2, .slice B x.f3.length cb]] ++ lb) W fun e w' => e = .returned (.bool (r x)) ∧ Inv (if r x = true then [] else rest) w')
  (w : World) (hI : Inv l w) (hl : l.length ≤ 9223372036854775807) :
  Calls Try.prog 192 #[.slice A l.length c, .func (.func g) #[] lb] w fun e w' => ∃ i : Int, e = .returned (.int .i64 i) ∧ decide (i ≥ 0) = l.any r ∧ Inv [] w' := by
 have HR := ae.mk hR
 have HW := ae.mk hW
 have HD := ae.mk hD
 have HI := ae.mk hI
 have yI := ae.mk hcall
 clear hR hW hcall hD hI
 go_enter Try.func192, Try.ntmps192
 go_wp2
 go_loopg [5, 8] l.length (fun gg _ v8 wr => ∃ (kk : Nat), kk ≤ l.length ∧ l.length - kk ≤ gg ∧ v8 = .int .i64 kk ∧ ae (Inv (l.drop kk) wr) ∧ ae (l.any r = (l.drop kk).any r))
 case atStart => exact ⟨0, Nat.zero_le _, by omega, rfl, ⟨by simpa using HI.out⟩, ⟨by simp⟩⟩
 case round =>
  clear HI
  obtain ⟨kk, hkk, hg, rfl, HI, HS⟩ := hrel
  by_cases hlt : kk < l.length
  ·have hltz : (kk : Int) < (l.length : Int) := by omega
   obtain ⟨ad, B, cb, rfl, hc0, hc1, hc2, hc3, hc4, hc5, hc6, hlb, hgb⟩ := rW HR.out (kk : Int) (by omega) (by omega)
   have hbw := HW.out _ wr HI.out
   replace hc0 := (hbw.cell (World.block_lt_of_cell? w0 _ hc0)).trans hc0
   replace hc1 := (hbw.cell (World.block_lt_of_cell? w0 _ hc1)).trans hc1
   replace hc2 := (hbw.cell (World.block_lt_of_cell? w0 _ hc2)).trans hc2
   replace hc3 := (hbw.cell (World.block_lt_of_cell? w0 _ hc3)).trans hc3
   replace hc4 := (hbw.cell (World.block_lt_of_cell? w0 _ hc4)).trans hc4
   replace hc5 := (hbw.cell (World.block_lt_of_cell? w0 _ hc5)).trans hc5
   replace hc6 := (hbw.cell (World.block_lt_of_cell? w0 _ hc6)).trans hc6
   clear hbw
   have hmem : (aA l (kk : Int)) ∈ l := Cf z26 l kk hlt
   have hdr : l.drop kk = aA l (kk : Int) :: l.drop (kk + 1) := by
    rw [List.drop_eq_getElem_cons hlt]
    simp only [aA, Int.toNat_natCast, List.getD_eq_getElem?_getD, List.getElem?_eq_getElem hlt, Option.getD_some]
   have HX : ae ((l.drop kk).any r = (r (aA l (kk : Int)) || (l.drop (kk + 1)).any r)) := ⟨by rw [hdr, List.any_cons]⟩
   have hcall := yI.out _ (l.drop (kk + 1)) wr B cb hmem ⟨l.take kk, by rw [← hdr]; exact List.take_append_drop kk l⟩ (by rw [← hdr]; exact HI.out) hgb hlb
   clear hmem hgb hlb hdr
   simp only [Int.toNat_natCast] at hc0 hc1 hc2 hc3 hc4 hc5 hc6
   generalize aA l (kk : Int) = x at hc0 hc1 hc2 hc3 hc4 hc5 hc6 HX hcall
   have HC := ae.mk hcall
   clear hcall
   cases hq : r x with
   | true =>
    have h := HC.out
    rw [hq, if_pos rfl] at h
    have HH := ae.mk h
    have HQ := ae.mk hq
    clear hq HC h
    go_wp2_with fail
    refine HH.out.mono ?_
    rintro e w' ⟨rfl, hb'⟩
    have HB := ae.mk hb'
    clear hb'
    go_wp2
    go_ret
    refine ⟨_, rfl, ?_, HB.out⟩
    rw [HS.out, HX.out, HQ.out, Bool.true_or]
    exact decide_eq_true (by omega)
   | false =>
    have h := HC.out
    rw [hq, if_neg (by simp)] at h
    have HH := ae.mk h
    have HQ := ae.mk hq
    clear hq HC h
    go_wp2_with fail
    refine HH.out.mono ?_
    rintro e w' ⟨rfl, hb'⟩
    have HB := ae.mk hb'
    clear hb'
    go_wp2
    go_roundg (l.length - (kk + 1))
    case measure => omega
    case rel =>
     refine ⟨kk + 1, by omega, by omega, by go_num, HB, ⟨?_⟩⟩
     rw [HS.out, HX.out, HQ.out, Bool.false_or]
  ·have hltz : ¬ (kk : Int) < (l.length : Int) := by omega
   have hd : l.drop kk = [] := List.drop_eq_nil_of_le (by omega)
   have HI2 := ae.mk (hd ▸ HI.out)
   have HS2 := ae.mk (hd ▸ HS.out)
   clear HI HS hd
   go_wp2
   go_ret
   refine ⟨_, rfl, ?_, HI2.out⟩
   rw [HS2.out]
   rfl
theorem OW (Inv : List ai → World → Prop) (r : ai → Bool) (g : Nat) (lb : Array Value) (eg : ∀ args w, (callFunc g args).run Try.prog w = .ok (.enter g args) w) (l : List ai) (A : Option Addr) (c : Nat)
  (w0 : World) (hR : Kd.C k26 w0 A l.length l) (hW : ∀ s W, Inv s W → Below w0.heap.size w0 W) (hD : ∀ s W n, Inv s W → Inv s (W.drewN n))
  (hcall : ∀ (x : ai) (rest : List ai) (W : World) (B : Option Addr) (cb : Nat), x ∈ l → (∃ pre, pre ++ x :: rest = l) → Inv (x :: rest) W → Kd.C k26 w0 B x.f3.length x.f3 → x.f3.length ≤ cb → Calls Try.prog g (#[.agg #[.int .u8 x.f0, .int .i64 x.f1.f0, .int .i64 x.f1.f1, .int .i64 x.f1.f2, .int .i64 x.f1.f3, .int .i64 x.f2, .slice B x.f3.length cb]] ++ lb) W fun e w' => e = .returned (.bool (r x)) ∧ Inv (if r x = true then [] else rest) w')
  (w : World) (hI : Inv l w) (hl : l.length ≤ 9223372036854775807) :
  Calls Try.prog 174 #[.slice A l.length c, .func (.func g) #[] lb] w fun e w' => e = .returned (.bool (l.any r)) ∧ Inv [] w' := by
 have hi := aaq Inv r g lb eg l A c w0 hR hW hD hcall w hI hl
 clear hR hW hD hcall hI
 have HI := ae.mk hi
 clear hi
 go_enter Try.func174, Try.ntmps174
 go_wp2_with fail
 refine HI.out.mono ?_
 rintro e w' ⟨i, rfl, hd, hb'⟩
 have HB := ae.mk hb'
 have HN := ae.mk hd
 clear hb' hd
 go_wp2
 go_ret
 exact ⟨by rw [← HN.out]; rfl, HB.out⟩
theorem acP (r : ai → dD → Bool) (g : Nat) (eg : ∀ args w, (callFunc g args).run Try.prog w = .ok (.enter g args) w) (la : List ai) (lb : List dD) (A B : Option Addr) (ca cb : Nat) (w : World) (hA : Kd.C k26 w A la.length la) (hB : Kd.C k23 w B lb.length lb)
  (hcall : ∀ W (x : ai) (X : Option Addr) (cx : Nat) (y : dD), x ∈ la → Below w.heap.size w W → Kd.C k26 w X x.f3.length x.f3 → x.f3.length ≤ cx → Calls Try.prog g #[.agg #[.int .u8 x.f0, .int .i64 x.f1.f0, .int .i64 x.f1.f1, .int .i64 x.f1.f2, .int .i64 x.f1.f3, .int .i64 x.f2, .slice X x.f3.length cx], .agg #[.int .i64 y.f0, .int .i64 y.f1, .int .i64 y.f2, .int .i64 y.f3]] W fun e w' => e = .returned (.bool (r x y)) ∧ Below W.heap.size W w') :
  Calls Try.prog 211 #[.slice A la.length ca, .slice B lb.length cb, .func (.func g) #[] #[]] w fun e w' => e = .returned (.bool (la.length == lb.length && su r la lb)) ∧ Below w.heap.size w w' := by
 have HA := ae.mk hA
 have HLB := ae.mk hB
 have HC := ae.mk hcall
 have HB := ae.mk (Below.refl w.heap.size w)
 have HL := ae.mk (show la.length ≤ 9223372036854775807 from hA.2.1)
 clear hA hB hcall
 by_cases hl : la.length = lb.length
 ·have hl1 : ((la.length : Int) != (lb.length : Int)) = false := by simp [hl]
  have hl2 : (la.length == lb.length) = true := by simp [hl]
  rw [hl2, Bool.true_and]
  have HE := ae.mk hl
  clear hl hl2
  go_enter Try.func211, Try.ntmps211
  go_wp2
  go_loopg [17] la.length (fun gg v17 wr => ∃ (kk : Nat), kk ≤ la.length ∧ la.length - kk ≤ gg ∧ v17 = .int .i64 kk ∧ ae (su r la lb = su r (la.drop kk) (lb.drop kk)) ∧ ae (Below w.heap.size w wr))
  case atStart => exact ⟨0, Nat.zero_le _, by omega, rfl, ⟨by simp⟩, HB⟩
  case round =>
   clear HB
   obtain ⟨kk, hkk, hgg, rfl, HS, HB⟩ := hrel
   by_cases hlt : kk < la.length
   ·have hltz : (kk : Int) < (la.length : Int) := by omega
    have ag_ : (kk : Int) < (lb.length : Int) := by have := HE.out; omega
    have hw : wrap64 ((kk : Int) + 1) = ((kk + 1 : Nat) : Int) := by unfold wrap64; have := HL.out; omega
    have HX := ae.mk (acN r z26 z23 la lb kk hlt (by omega))
    have hmem : aA la (kk : Int) ∈ la := Cf z26 la kk hlt
    obtain ⟨cd, X, cx, rfl, c0, c1, c2, c3, c4, c5, c6, cl, cg⟩ := rW HA.out (kk : Int) (by omega) hltz
    obtain ⟨dd, rfl, d0, d1, d2, d3⟩ := LX HLB.out (kk : Int) (by omega) ag_
    simp only [Int.toNat_natCast] at c0 c1 c2 c3 c4 c5 c6 d0 d1 d2 d3
    replace c0 := (HB.out.cell (World.block_lt_of_cell? w _ c0)).trans c0
    replace c1 := (HB.out.cell (World.block_lt_of_cell? w _ c1)).trans c1
    replace c2 := (HB.out.cell (World.block_lt_of_cell? w _ c2)).trans c2
    replace c3 := (HB.out.cell (World.block_lt_of_cell? w _ c3)).trans c3
    replace c4 := (HB.out.cell (World.block_lt_of_cell? w _ c4)).trans c4
    replace c5 := (HB.out.cell (World.block_lt_of_cell? w _ c5)).trans c5
    replace c6 := (HB.out.cell (World.block_lt_of_cell? w _ c6)).trans c6
    have D0 := ae.mk d0
    have D1 := ae.mk d1
    have D2 := ae.mk d2
    have D3 := ae.mk d3
    clear d0 d1 d2 d3
    have HX := ae.mk (show su r (la.drop kk) (lb.drop kk) = (r (aA la (kk : Int)) (qf lb (kk : Int)) && su r (la.drop (kk + 1)) (lb.drop (kk + 1))) from HX.out)
    have cG := ae.mk cg
    have cL := ae.mk cl
    clear cg cl
    have HM := ae.mk hmem
    clear hmem
    generalize aA la (kk : Int) = x at *
    generalize qf lb (kk : Int) = y at *
    have HCx := ae.mk (fun W hW => HC.out W x X cx y HM.out hW cG.out cL.out )
    have HW := ae.mk hw
    have HKK := ae.mk (show kk + 1 ≤ la.length from hlt)
    have fF := ae.mk hgg
    clear hw hlt hgg hkk HM
    go_wp2_with (first | ((with_reducible refine aG (N := 8) rfl ?_); refine aT ?hg (N := 8) ?hd (cs := #[.int .u8 0, .int .i64 0, .int .i64 0, .int .i64 0, .int .i64 0, .int .i64 0, .slice none 0 0]) (t := 26) ?hr ?_; (case hd => rfl); (case hg => rfl); (case hr => (go_simp; done)); intro b8 hg wb8 hbox hb; have K8 := ae.mk hbox; have G8 := ae.mk (show w.heap.size ≤ b8 by rw [hg]; exact HB.out.size); have q_ := ae.mk (ak HB.out hb); clear HB; have HB := q_; clear q_; clear hb hbox hg) | ((with_reducible refine lH (.store 26 (.tmp 8) (.tmp 21)) rfl ?_); go_loud (refine fQ (w0 := w) rfl rfl 26 (.tmp 8) (.tmp 21) rfl (g := b8) (j := 0) (base := w.heap.size) #[.int .u8 x.f0, .int .i64 x.f1.f0, .int .i64 x.f1.f1, .int .i64 x.f1.f2, .int .i64 x.f1.f3, .int .i64 x.f2, .slice X x.f3.length cx] (u := .agg #[.int .u8 x.f0, .int .i64 x.f1.f0, .int .i64 x.f1.f1, .int .i64 x.f1.f2, .int .i64 x.f1.f3, .int .i64 x.f2, .slice X x.f3.length cx]) (bK := [.int .u8 x.f0, .int .i64 x.f1.f0, .int .i64 x.f1.f1, .int .i64 x.f1.f2, .int .i64 x.f1.f3, .int .i64 x.f2, .slice X x.f3.length cx]) ?sA ?sX rfl ?sT ?s1 K8.out ?sJ rfl HB.out HB.out.size G8.out ?_; (case sA => rfl); (case sX => rfl); (case sT => rfl); (case s1 => (simp [Value.oneCell'])); (case sJ => (simp)); intro ws8 hbk hbb hgg; clear K8 HB; have K8 := ae.mk hbk; have HB := ae.mk hbb; clear hbk hbb hgg; clear c0 c1 c2 c3 c4 c5 c6; have d0 := (HB.out.cell (World.block_lt_of_cell? w _ D0.out)).trans D0.out; have d1 := (HB.out.cell (World.block_lt_of_cell? w _ D1.out)).trans D1.out; have d2 := (HB.out.cell (World.block_lt_of_cell? w _ D2.out)).trans D2.out; have d3 := (HB.out.cell (World.block_lt_of_cell? w _ D3.out)).trans D3.out)) | ((with_reducible refine aG (N := 9) rfl ?_); refine aT ?hg (N := 9) ?hd (cs := #[.int .i64 0, .int .i64 0, .int .i64 0, .int .i64 0]) (t := 23) ?hr ?_; (case hd => rfl); (case hg => rfl); (case hr => (go_simp; done)); intro b9 hg wb9 hbox hb; have K9 := ae.mk hbox; have G9 := ae.mk (show w.heap.size ≤ b9 by rw [hg]; exact HB.out.size); have NE := ae.mk (show b8 ≠ b9 by rw [hg]; exact Nat.ne_of_lt (fA K8.out)); have UQ := ae.mk (aJ K8.out hb); clear K8; have K8 := UQ; clear UQ; have q_ := ae.mk (ak HB.out hb); clear HB; have HB := q_; clear q_; clear hb hbox hg d0 d1 d2 d3) | ((with_reducible refine lH (.store 23 (.tmp 9) (.tmp 25)) rfl ?_); go_loud (refine fQ (w0 := w) rfl rfl 23 (.tmp 9) (.tmp 25) rfl (g := b9) (j := 0) (base := w.heap.size) #[.int .i64 y.f0, .int .i64 y.f1, .int .i64 y.f2, .int .i64 y.f3] (u := .agg #[.int .i64 y.f0, .int .i64 y.f1, .int .i64 y.f2, .int .i64 y.f3]) (bK := [.int .i64 y.f0, .int .i64 y.f1, .int .i64 y.f2, .int .i64 y.f3]) ?sA ?sX rfl ?sT ?s1 K9.out ?sJ rfl HB.out HB.out.size G9.out ?_; (case sA => rfl); (case sX => rfl); (case sT => rfl); (case s1 => (simp [Value.oneCell'])); (case sJ => (simp)); intro ws9 hbk hbb hgg; have UQ := ae.mk (df K8.out hgg (fun e_ => absurd (Option.some.inj e_) NE.out)); clear K8; have K8 := UQ; clear UQ; clear K9 HB; have K9 := ae.mk hbk; have HB := ae.mk hbb; clear hbk hbb hgg; have e0 := (af K8.out 0).trans rfl; have e1 := (af K8.out 1).trans rfl; have e2 := (af K8.out 2).trans rfl; have e3 := (af K8.out 3).trans rfl; have e4 := (af K8.out 4).trans rfl; have e5 := (af K8.out 5).trans rfl; have e6 := (af K8.out 6).trans rfl; have f0 := (af K9.out 0).trans rfl; have f1 := (af K9.out 1).trans rfl; have f2 := (af K9.out 2).trans rfl; have f3 := (af K9.out 3).trans rfl)))
    clear e0 e1 e2 e3 e4 e5 e6 f0 f1 f2 f3 K8 K9 NE G8 G9
    refine (HCx.out _ HB.out).mono ?_
    rintro e w' ⟨rfl, hb⟩
    have q_ := ae.mk (ak HB.out hb); clear HB; have HB := q_; clear q_
    clear hb
    cases hq : r x y with
    | true =>
     have HQ := ae.mk hq
     clear hq
     go_wp2
     go_roundg (la.length - (kk + 1))
     case measure => have h1 := fF.out; have h2 := HKK.out; omega
     case rel => exact ⟨kk + 1, HKK.out, Nat.le_refl _, (by rw [HW.out]), ⟨by rw [HS.out, HX.out, HQ.out, Bool.true_and]⟩, HB⟩
    | false =>
     have HQ := ae.mk hq
     clear hq
     go_wp2
     go_ret
     rw [HS.out, HX.out, HQ.out, Bool.false_and]
     exact ⟨rfl, HB.out⟩
   ·have hltz : ¬ (kk : Int) < (la.length : Int) := by omega
    go_wp2
    go_ret
    rw [HS.out, List.drop_eq_nil_of_le (by omega), Il]
    exact ⟨rfl, HB.out⟩
 ·have hl1 : ((la.length : Int) != (lb.length : Int)) = true := by simp; omega
  have hl2 : (la.length == lb.length) = false := by simp [hl]
  rw [hl2, Bool.false_and]
  clear hl hl2
  go_enter Try.func211, Try.ntmps211
  go_wp2
  go_ret
  exact ⟨rfl, HB.out⟩
theorem afp (X Y Wd H ax : Int) (sizes : List Int) (hl : sizes.length ≤ 1000000) (B : Option Addr) (cb : Nat) (w : World) (hi : Kd.C (Kd.int .i64) w B sizes.length sizes) :
  Calls Try.prog 45 #[.agg #[.int .i64 X, .int .i64 Y, .int .i64 Wd, .int .i64 H], .int .u8 ax, .slice B sizes.length cb] w (KC w (qA X Y Wd H ax sizes)) := by
 have S := ae.mk (St.start (ts := []) (b0 := w.heap.size) (w := w) (P := fun _ => True) (fun _ h => by cases h))
 have HI := ae.mk hi
 have gW := ae.mk hl
 clear hi hl
 by_cases hax : ax = 1 ∨ ax = 2
 case neg =>
  have HQ := ae.mk (zn (X := X) (Y := Y) (W := Wd) (H := H) (sizes := sizes) (.inl hax))
  have mG := ae.mk hax
  clear hax
  go_enter Try.func45, Try.ntmps45
  go_wp2_with (first | (refine boxS 3 _ 23 S ?_; clear S; intro b3 dF S; obtain ⟨a_, aW, aY, aX⟩ := St.at4 S (.head _)) | (refine bH (some 23) Try.func127 S (U6 mG.out _ _ _ _) ?_; clear S; intro dV S; clear a_ aW aY aX) | (refine boxS 9 _ 23 S ?_; clear S; intro b9 fV S) | (refine gX 23 9 24 #[.int .i64 0, .int .i64 0, .int .i64 0, .int .i64 0] 0 4 S ?_; clear S; intro iQ S))
  go_ret3
  rw [HQ.out]
  exact ⟨none, 0, none, 0, .cells #[] 0 (0, 0), .cells #[] 0 (0, 0), rfl, (fun h => by cases h), S.out.below⟩
 have mG := ae.mk hax
 obtain ⟨S0, hS0⟩ : ∃ s, s = tX ax X Y := ⟨_, rfl⟩
 obtain ⟨T0, hT0⟩ : ∃ s, s = tX ax Y X := ⟨_, rfl⟩
 obtain ⟨D, hD⟩ : ∃ s, s = tX ax Wd H := ⟨_, rfl⟩
 obtain ⟨E, hE⟩ : ∃ s, s = tX ax H Wd := ⟨_, rfl⟩
 have HTU := ae.mk (fun (W : World) => show Calls Try.prog 127 #[.agg #[.int .i64 X, .int .i64 Y, .int .i64 Wd, .int .i64 H], .int .u8 ax] W fun e w' => e = .returned (.tuple #[.agg #[.int .i64 S0, .int .i64 T0, .int .i64 D, .int .i64 E], .bool true]) ∧ Below W.heap.size W w' by rw [hS0, hT0, hD, hE]; exact Gi hax X Y Wd H)
 by_cases hm : pz X Y Wd H = true
 case neg =>
  have hm2 := Bool.eq_false_iff.mpr hm
  have HQ := ae.mk (zn (ax := ax) (sizes := sizes) (.inr (.inl hm2)))
  have xG := ae.mk hm2
  clear hm hm2 hax hS0 hT0 hD hE
  go_enter Try.func45, Try.ntmps45
  go_wp2_with (first | (refine boxS 3 _ 23 S ?_; clear S; intro b3 dF S; obtain ⟨a_, aW, aY, aX⟩ := St.at4 S (.head _)) | (refine bH (some 23) Try.func127 S (HTU.out _) ?_; clear S; intro dV S; clear a_ aW aY aX) | (refine boxS 9 _ 23 S ?_; clear S; intro b9 fV S) | (refine gX 23 9 24 #[.int .i64 S0, .int .i64 T0, .int .i64 D, .int .i64 E] 0 4 S ?_; clear S; intro iQ S; obtain ⟨a_, aW, aY, aX⟩ := St.at4 S bI) | (refine ig 30 rfl ?_; (refine iE (by rfl) ?_; dsimp only); refine bH (some 30) Try.func128 S (NZ xG.out) ?_; clear S; intro mO S; clear a_ aW aY aX))
  go_ret3
  rw [HQ.out]
  exact ⟨none, 0, none, 0, .cells #[] 0 (0, 0), .cells #[] 0 (0, 0), rfl, (fun h => by cases h), S.out.below⟩
 have xG := ae.mk hm
 by_cases h0 : sizes.length = 0
 case pos =>
  have HQ := ae.mk (zn (X := X) (Y := Y) (W := Wd) (H := H) (ax := ax) (.inr (.inr h0)))
  obtain ⟨JA, wO, Tf⟩ := wM (a := (sizes.length : Int)) (b := 0) (by omega)
  have Ti : (sizes.length == 0) = true := beq_iff_eq.mpr (by omega)
  have Tj : decide (sizes.length = 0) = true := decide_eq_true (by omega)
  clear hm h0 hax hS0 hT0 hD hE
  go_enter Try.func45, Try.ntmps45
  go_wp2_with (first | (refine boxS 3 _ 23 S ?_; clear S; intro b3 dF S; obtain ⟨a_, aW, aY, aX⟩ := St.at4 S (.head _)) | (refine bH (some 23) Try.func127 S (HTU.out _) ?_; clear S; intro dV S; clear a_ aW aY aX) | (refine boxS 9 _ 23 S ?_; clear S; intro b9 fV S) | (refine gX 23 9 24 #[.int .i64 S0, .int .i64 T0, .int .i64 D, .int .i64 E] 0 4 S ?_; clear S; intro iQ S; obtain ⟨a_, aW, aY, aX⟩ := St.at4 S bI) | (refine ig 30 rfl ?_; (refine iE (by rfl) ?_; dsimp only); refine bH (some 30) Try.func128 S (NZ xG.out) ?_; clear S; intro mO S; clear a_ aW aY aX))
  go_ret3
  rw [HQ.out]
  exact ⟨none, 0, none, 0, .cells #[] 0 (0, 0), .cells #[] 0 (0, 0), rfl, (fun h => by cases h), S.out.below⟩
 have hq := SV hax hm h0
 rw [← hS0, ← hT0, ← hD, ← hE] at hq
 have hb := U5 hax hm
 rw [← hS0, ← hD] at hb
 have HB := ae.mk hb
 rw [hq]
 obtain ⟨JA, wO, Tf⟩ := eqF (a := (sizes.length : Int)) (b := 0) (by omega)
 have Ti : (sizes.length == 0) = false := beq_eq_false_iff_ne.mpr (by omega)
 have Tj : decide (sizes.length = 0) = false := decide_eq_false (by omega)
 obtain ⟨R, hR⟩ : ∃ R, R = nM ax S0 T0 D E 0 true [] [] sizes := ⟨_, rfl⟩
 rw [← hR]
 have HR := ae.mk hR
 clear hq hb hm h0 hax hS0 hT0 hD hE hR
 go_enter Try.func45, Try.ntmps45
 go_wp2_with (first | (refine boxS 3 _ 23 S ?_; clear S; intro b3 dF S; obtain ⟨a_, aW, aY, aX⟩ := St.at4 S (.head _)) | (refine bH (some 23) Try.func127 S (HTU.out _) ?_; clear S; intro dV S; clear a_ aW aY aX) | (refine boxS 9 _ 23 S ?_; clear S; intro b9 fV S) | (refine gX 23 9 24 #[.int .i64 S0, .int .i64 T0, .int .i64 D, .int .i64 E] 0 4 S ?_; clear S; intro iQ S; obtain ⟨a_, aW, aY, aX⟩ := St.at4 S bI) | (refine ig 30 rfl ?_; (refine iE (by rfl) ?_; dsimp only); refine bH (some 30) Try.func128 S (NZ xG.out) ?_; clear S; intro mO S; clear a_ aW aY aX; have l9 := (S.out.at (.head _) 0).trans rfl))
 clear l9
 clear JA wO Tf Ti Tj
 go_loopg [11, 12, 13, 42] sizes.length (fun gg v11 v12 v13 v42 wr => ∃ (pre rest : List Int) (off : Int) (ps ls : List dD) (Ap : Option Addr) (cp : Nat) (op : Obj) (Aq : Option Addr) (cq : Nat) (oq : Obj), v11 = .slice Ap ps.length cp ∧ v12 = .slice Aq ls.length cq ∧ v13 = .int .i64 (S0 + off) ∧ v42 = .int .i64 (pre.length : Int) ∧ ae (pre ++ rest = sizes) ∧ rest.length ≤ gg ∧ ae (0 ≤ off ∧ off ≤ D ∧ ps.length ≤ pre.length ∧ ls.length ≤ pre.length) ∧ ae (nM ax S0 T0 D E off (pre.length == 0) ps ls rest = R) ∧ ae (KR k23 23 w.heap.size (.slice Ap ps.length cp) ps op) ∧ ae (KR k23 23 w.heap.size (.slice Aq ls.length cq) ls oq) ∧ ae (St w (fun _ => True) [((Value.slice Aq ls.length cq).ownBlock, oq), ((Value.slice Ap ps.length cp).ownBlock, op), (some b9, .cells #[.int .i64 S0, .int .i64 T0, .int .i64 D, .int .i64 E] 23 (0, 0)), (some b3, .cells #[.int .i64 X, .int .i64 Y, .int .i64 Wd, .int .i64 H] 23 (0, 0))] [] [] [] wr))
 case atStart => exact ⟨[], sizes, 0, [], [], none, 0, _, none, 0, _, rfl, rfl, by rw [Int.add_zero], rfl, ⟨rfl⟩, Nat.le_refl _, ⟨by have := HB.out; simp; omega⟩, ⟨HR.out.symm⟩, ⟨KZ _ _ _⟩, ⟨KZ _ _ _⟩, ⟨S.out.noK.noK⟩⟩
 case round =>
  clear S HR
  obtain ⟨pre, rest, off, ps, ls, Ap, cp, op, Aq, cq, oq, rfl, rfl, rfl, rfl, HE, hgg, HO, HG, iq, mi, S⟩ := hrel
  cases rest with
  | nil =>
   have hE := HE.out
   rw [List.append_nil] at hE
   subst hE
   clear HE hgg
   have hlt : ¬ ((pre.length : Int) < (pre.length : Int)) := by omega
   have hw : wrap64 (S0 + D) = S0 + D := by have := HB.out; unfold wrap64; omega
   have RJ := ae.mk (MJ HG.out)
   by_cases hod : off = D
   case pos =>
    obtain ⟨hza, hzb, hzd⟩ := wM (a := (S0 + off)) (b := wrap64 (S0 + D)) (by omega)
    obtain ⟨hya, hyb, hyd⟩ := wM (a := (S0 + off)) (b := (S0 + D)) (by omega)
    have KL := ae.mk hod
    clear hod hw
    have l9 := (S.out.at dQ 0).trans rfl
    have mY := (S.out.at dQ 2).trans rfl
    go_wp2
    clear l9 mY
    go_ret3
    rw [RJ.out, if_pos KL.out]
    have S2 := S.out.t_
    exact ⟨Ap, cp, Aq, cq, op, oq, rfl, fun _ => S2.UI iq.out mi.out, S.out.below⟩
   case neg =>
    obtain ⟨hza, hzb, hzd⟩ := eqF (a := (S0 + off)) (b := wrap64 (S0 + D)) (by omega)
    obtain ⟨hya, hyb, hyd⟩ := eqF (a := (S0 + off)) (b := (S0 + D)) (by omega)
    have KL := ae.mk hod
    clear hod hw
    have l9 := (S.out.at dQ 0).trans rfl
    have mY := (S.out.at dQ 2).trans rfl
    go_wp2
    clear l9 mY
    have HQ := ae.mk (RJ.out.trans (if_neg KL.out))
    go_ret3
    rw [HQ.out]
    exact ⟨none, 0, none, 0, .cells #[] 0 (0, 0), .cells #[] 0 (0, 0), rfl, (fun h => by cases h), S.out.below⟩
  | cons n ns =>
   have hlt : (pre.length : Int) < (sizes.length : Int) := by rw [← HE.out, List.length_append, List.length_cons]; omega
   have hw1 : wrap64 ((pre.length : Int) + 1) = ((pre ++ [n]).length : Int) := by have := gW.out; rw [List.length_append, List.length_singleton]; unfold wrap64; omega
   have HW1 := ae.mk hw1
   have fF := ae.mk hgg
   have zN := ae.mk (show ps.length ≤ 1000000 ∧ ls.length ≤ 1000000 by have := HO.out; have := gW.out; omega)
   have hrd : rd sizes (pre.length : Int) = n := by rw [← HE.out]; simp [rd, List.getD_eq_getElem?_getD]
   obtain ⟨XN, ek, xi⟩ := Kd.iR (Kd.gV HI.out S.out.below) (pre.length : Int) (Int.natCast_nonneg _) hlt
   subst ek
   rw [hrd] at xi
   simp only [Int.toNat_natCast] at xi
   clear hrd hgg hw1
   go_upto_if 48 with fail
   clear xi
   go_cut [12, 13] (fun v12 v13 wc => ∃ (o' : Int) (ls' : List dD) (Aq : Option Addr) (cq : Nat) (oq : Obj), v12 = .slice Aq ls'.length cq ∧ v13 = .int .i64 (S0 + o') ∧ ae (0 ≤ o' ∧ o' ≤ D + 1 ∧ ls'.length ≤ pre.length + 1) ∧ ae (Ai ax S0 T0 D E o' ps ls' n ns = R) ∧ ae (KR k23 23 w.heap.size (.slice Aq ls'.length cq) ls' oq) ∧ ae (St w (fun _ => True) [((Value.slice Aq ls'.length cq).ownBlock, oq), ((Value.slice Ap ps.length cp).ownBlock, op), (some b9, .cells #[.int .i64 S0, .int .i64 T0, .int .i64 D, .int .i64 E] 23 (0, 0)), (some b3, .cells #[.int .i64 X, .int .i64 Y, .int .i64 Wd, .int .i64 H] 23 (0, 0))] [] [] [] wc))
   case first =>
    by_cases hp2 : pre.length = 0
    case pos =>
     have hp : (pre.length == 0) = true := beq_iff_eq.mpr hp2
     obtain ⟨hpa, hpb⟩ := lG (a := 0) (b := (pre.length : Int)) (by omega)
     have hpc : decide (0 < pre.length) = false := decide_eq_false (by omega)
     have hpe : ¬ (0 < pre.length) := by omega
     have HG2 := ae.mk (show Ai ax S0 T0 D E off ps ls n ns = R by have h := HG.out; rw [hp] at h; exact h)
     clear hp hp2
     go_wp2
     go_meet
     case rel => exact ⟨off, ls, _, _, _, rfl, rfl, ⟨by have := HO.out; omega⟩, HG2, mi, S⟩
    case neg =>
     have hp : (pre.length == 0) = false := beq_eq_false_iff_ne.mpr hp2
     obtain ⟨hpa, hpb⟩ := mr (a := 0) (b := (pre.length : Int)) (by omega)
     have hpc : decide (0 < pre.length) = true := decide_eq_true (by omega)
     have hpe : 0 < pre.length := by omega
     have HG2 := ae.mk (show Ai ax S0 T0 D E (off + 1) ps (ls ++ [nP ax (S0 + off) T0 E 1]) n ns = R by have h := HG.out; rw [hp] at h; exact h)
     have OQ := ae.mk (show wrap64 ((S0 + off) + 1) = S0 + (off + 1) by have := HO.out; have := HB.out; unfold wrap64; omega)
     clear hp hp2
     have qx := (S.out.at dQ 1).trans rfl
     have qy := (S.out.at dQ 3).trans rfl
     go_wp2_with (first | (refine bH (some 57) Try.func127 S (Gi mG.out (S0 + off) T0 1 E) ?_; clear S; intro dF S; clear qx qy) | (refine boxS 16 _ 23 S ?_; clear S; intro b16 dV S) | (refine gX 23 16 58 #[.int .i64 (tX ax (S0 + off) T0), .int .i64 (tX ax T0 (S0 + off)), .int .i64 (tX ax 1 E), .int .i64 (tX ax E 1)] 0 4 S ?_; clear S; intro fV S; obtain ⟨acs, acu, acv, acw⟩ := St.at4 S (.head _)) | (refine ig 63 rfl ?_; at_builtin; replace S := ae.mk S.out.t_; refine u_ k23 23 rfl 60 62 42 _ 32 Try.underlying42 info23 rfl (by decide) (by decide) (by decide) S mi ⟨tX ax (S0 + off) T0, tX ax T0 (S0 + off), tX ax 1 E, tX ax E 1⟩ [.int .i64 (tX ax (S0 + off) T0), .int .i64 (tX ax T0 (S0 + off)), .int .i64 (tX ax 1 E), .int .i64 (tX ax E 1)] (fun _ _ _ => qR _ _ _ _) (by have := zN.out; omega) ?_; clear S mi; intro Aq2 cq2 oq2 iQ S mi; clear acs acu acv acw))
     go_meet
     case rel => exact ⟨off + 1, _, _, _, _, (by rw [List.length_append]; rfl), (by rw [OQ.out]), ⟨by have := HO.out; rw [List.length_append, List.length_singleton]; omega⟩, HG2, mi, ⟨S.out.t_.dP.rC.rC.rC.rC⟩⟩
   case rest =>
    clear S mi HG
    obtain ⟨o', ls', Aq, cq, oq, rfl, rfl, qZ, HG, mi, S⟩ := hcut
    rename World => wx
    have zN := ae.mk (show ps.length ≤ 1000000 ∧ ls'.length ≤ 1000001 by have := HO.out; have := qZ.out; have := gW.out; omega)
    have hg : wrap64 (wrap64 (S0 + D) - (S0 + o')) = D - o' := by have := HB.out; have := qZ.out; unfold wrap64; omega
    by_cases hn : n < 1
    case pos =>
     obtain ⟨hna, hnb⟩ := mr (a := n) (b := 1) (by omega)
     have HQ := ae.mk (HG.out.symm.trans (A8 (.inl hn)))
     go_wp2
     go_ret3
     rw [HQ.out]
     exact ⟨none, 0, none, 0, .cells #[] 0 (0, 0), .cells #[] 0 (0, 0), rfl, (fun h => by cases h), S.out.below⟩
    obtain ⟨hna, hnb⟩ := lG (a := n) (b := 1) (by omega)
    by_cases hd : D < o' + n
    case pos =>
     obtain ⟨hda, hdb⟩ := mr (a := wrap64 (wrap64 (S0 + D) - (S0 + o'))) (b := n) (by omega)
     obtain ⟨hea, heb⟩ := mr (a := D - o') (b := n) (by omega)
     have HQ := ae.mk (HG.out.symm.trans (A8 (.inr hd)))
     have l9 := (S.out.at dQ 0).trans rfl
     have mY := (S.out.at dQ 2).trans rfl
     go_wp2
     clear l9 mY
     go_ret3
     rw [HQ.out]
     exact ⟨none, 0, none, 0, .cells #[] 0 (0, 0), .cells #[] 0 (0, 0), rfl, (fun h => by cases h), S.out.below⟩
    obtain ⟨hda, hdb⟩ := lG (a := wrap64 (wrap64 (S0 + D) - (S0 + o'))) (b := n) (by omega)
    obtain ⟨hea, heb⟩ := lG (a := D - o') (b := n) (by omega)
    have HG2 := ae.mk ((OX (fun h => h.elim hn hd)).symm.trans HG.out)
    have HN := ae.mk hn
    have HD2 := ae.mk hd
    have OQ := ae.mk (show wrap64 ((S0 + o') + n) = S0 + (o' + n) by have := qZ.out; have := HB.out; unfold wrap64; omega)
    clear hn hd hg
    obtain ⟨l9, qx, mY, qy⟩ := St.at4 S dQ
    go_wp2_with (first | (refine bH (some 88) Try.func127 S (Gi mG.out (S0 + o') T0 n E) ?_; clear S; intro dF S; clear l9 qx mY qy) | (refine boxS 18 _ 23 S ?_; clear S; intro b18 dV S) | (refine gX 23 18 89 #[.int .i64 (tX ax (S0 + o') T0), .int .i64 (tX ax T0 (S0 + o')), .int .i64 (tX ax n E), .int .i64 (tX ax E n)] 0 4 S ?_; clear S; intro fV S; obtain ⟨acx, acy, acz, acA⟩ := St.at4 S (.head _)) | (refine ig 94 rfl ?_; at_builtin; replace S := ae.mk S.out.vk; refine u_ k23 23 rfl 91 93 42 _ 32 Try.underlying42 info23 rfl (by decide) (by decide) (by decide) S iq ⟨tX ax (S0 + o') T0, tX ax T0 (S0 + o'), tX ax n E, tX ax E n⟩ [.int .i64 (tX ax (S0 + o') T0), .int .i64 (tX ax T0 (S0 + o')), .int .i64 (tX ax n E), .int .i64 (tX ax E n)] (fun _ _ _ => qR _ _ _ _) (by have := zN.out; omega) ?_; clear S iq; intro Kz cp2 NW iQ S iq; clear acx acy acz acA))
    have hw1 := HW1.out
    go_wp2
    go_roundg ns.length
    case measure => exact Nat.lt_of_lt_of_le (Nat.lt_succ_self _) fF.out
    case rel => exact ⟨pre ++ [n], ns, o' + n, _, ls', _, _, _, _, _, _, (by rw [List.length_append]; rfl), rfl, (by rw [OQ.out]), (by rw [hw1]), ⟨by rw [List.append_assoc]; exact HE.out⟩, Nat.le_refl _, ⟨by have := HO.out; have := qZ.out; have := HN.out; have := HD2.out; simp only [List.length_append, List.length_singleton]; omega⟩, ⟨by rw [show ((pre ++ [n]).length == 0) = false by simp]; exact HG2.out⟩, iq, mi, ⟨S.out.t_.dP.rC.rC.vk.rC⟩⟩
def ahe.f (_ : Nat) (X Y Wd H ax : Int) (sizes : List Int) : Option (List dD × List dD × Bool) := if sizes.length ≤ 1000000 then some (qA X Y Wd H ax sizes) else none
theorem Two.lower {α β : Type} {d : Kd α} {e : TypeId} {d' : Kd β} {e' : TypeId} {w W W1 : World} {v v' : Value} {l : List α} {l' : List β} {o o' : Obj} (h : Two d e d' e' W W1 v l v' l' o o') (hs : w.heap.size ≤ W.heap.size) : Two d e d' e' w W1 v l v' l' o o' :=
 ⟨BB h.one hs, BB h.two hs, fun g hg => ⟨Nat.le_trans hs (h.at1 g hg).1, (h.at1 g hg).2⟩, fun g hg => ⟨Nat.le_trans hs (h.at2 g hg).1, (h.at2 g hg).2⟩, h.ne⟩
theorem acH (c : ai) (hl : c.f3.length ≤ 1000000) (b : Nat) (P : Nat → Prop) (A : Option Addr) (cc : Nat) (w : World) (hv : Kd.V k26 26 w b P (.slice A c.f3.length cc) c.f3) :
  Calls Try.prog 210 #[.agg #[.int .u8 c.f0, .int .i64 c.f1.f0, .int .i64 c.f1.f1, .int .i64 c.f1.f2, .int .i64 c.f1.f3, .int .i64 c.f2, .slice A c.f3.length cc]] w (KC w (yx c)) := by
 have S := ae.mk (St.start (ts := [(.slice A c.f3.length cc, c.f3)]) (b0 := w.heap.size) (w := w) (P := P) (fun t ht => by rw [List.mem_singleton.1 ht]; exact fK hv))
 have gW := ae.mk hl
 clear hl hv
 obtain ⟨ck, ⟨cx, cy, cw, ch⟩, aU, l⟩ := c
 simp only [] at S gW ⊢
 rw [show yx ⟨ck, ⟨cx, cy, cw, ch⟩, aU, l⟩ = qA cx cy cw ch (((ck - 2) % 256 + 1) % 256) (l.map (qo ck)) from rfl]
 obtain ⟨T, hT⟩ : ∃ T, T = qA cx cy cw ch (((ck - 2) % 256 + 1) % 256) (l.map (qo ck)) := ⟨_, rfl⟩
 rw [← hT]
 have HT := ae.mk hT
 clear hT
 go_enter Try.func210, Try.ntmps210
 go_wp2_with (first
  | (refine boxS 1 _ 26 S ?_; clear S; intro b1 dF S; have iD := (S.out.at (.head _) 6).trans rfl)
  | fail)
 clear iD
 go_loopg [5, 11] l.length (fun gg v3 v9 wr => ∃ (pre rest : List ai) (Ap : Option Addr) (cp : Nat) (op : Obj), v3 = .slice Ap pre.length cp ∧ v9 = .int .i64 (pre.length : Int) ∧ ae (pre ++ rest = l) ∧ rest.length ≤ gg ∧ ae (KR (Kd.int .i64) 3 w.heap.size (.slice Ap pre.length cp) (pre.map (qo ck)) op) ∧ ae (St w P [((Value.slice Ap pre.length cp).ownBlock, op), (some b1, .cells #[.int .u8 ck, .int .i64 cx, .int .i64 cy, .int .i64 cw, .int .i64 ch, .int .i64 aU, .slice A l.length cc] 26 (0, 0))] [] [(.slice A l.length cc, l)] [] wr))
 case atStart => exact ⟨[], l, _, _, _, rfl, rfl, ⟨rfl⟩, Nat.le_refl _, ⟨KZ _ _ _⟩, ⟨S.out.noK⟩⟩
 case round =>
  clear S
  obtain ⟨pre, rest, Ap, cp, op, rfl, rfl, HE, hgg, iq, S⟩ := hrel
  cases rest with
  | nil =>
   have hE := HE.out
   rw [List.append_nil] at hE
   have hE2 := hE.symm
   subst hE2
   clear hE HE hgg
   have hlt : ¬ ((l.length : Int) < (l.length : Int)) := by omega
   have hlm : (l.map (qo ck)).length = l.length := List.length_map _
   have hcut := fun W hi => afp cx cy cw ch (((ck - 2) % 256 + 1) % 256) (l.map (qo ck)) (by have := gW.out; simpa using this) Ap cp W hi
   rw [hlm, ← HT.out] at hcut
   have Gq := ae.mk hcut
   clear hcut hlm
   have jV := (S.out.at bI 1).trans rfl
   have jW := (S.out.at bI 2).trans rfl
   have jX := (S.out.at bI 3).trans rfl
   have jY := (S.out.at bI 4).trans rfl
   have fM := (S.out.at bI 0).trans rfl
   go_wp2_with (first
    | (refine iF (some 38) Try.func45 (Gq.out _ (by have h := (Kd.dO (KY iq.out S.out (.head _))).2.2; rw [List.length_map] at h; exact h)) ?_; rintro e dV ⟨A1, c1, A2, c2, o1, o2, rfl, h1, hb⟩; refine ⟨_, rfl, ?_⟩; have HCU := ae.mk (fun h => (h1 h).lower S.out.below.size); replace S := ae.mk (S.out.call hb); clear h1 hb; clear jV jW jX jY fM)
    | fail)
   go_ret3
   exact ⟨_, _, _, _, _, _, rfl, HCU.out, S.out.below⟩
  | cons k rest =>
   have hk : k ∈ l := by rw [← HE.out]; simp
   have hlt : (pre.length : Int) < (l.length : Int) := by rw [← HE.out, List.length_append, List.length_cons]; omega
   have hw1 : wrap64 ((pre.length : Int) + 1) = ((pre ++ [k]).length : Int) := by have := gW.out; rw [List.length_append, List.length_singleton]; unfold wrap64; omega
   have HW1 := ae.mk hw1
   have fF := ae.mk hgg
   have HK := ae.mk hk
   have EO := ae.mk (show pre.length ≤ 1048576 by have := gW.out; omega)
   obtain ⟨jS, ua, uc, ek, S1⟩ := S.out.elem (.head _) (pre.length : Int) (Int.natCast_nonneg _) hlt
   subst ek
   have hrd : aA l (pre.length : Int) = k := by rw [← HE.out]; exact lu pre k rest
   rw [hrd] at S1
   simp only [Int.toNat_natCast] at S1
   replace S := ae.mk S1
   clear S1 hrd hk hgg hw1
   by_cases hk2 : ck = 2
   case pos =>
    have hka : (ck == 2) = true := beq_iff_eq.mpr hk2
    have hkb : decide (ck = 2) = true := decide_eq_true hk2
    have KT := ae.mk (show (pre ++ [k]).map (qo ck) = pre.map (qo ck) ++ [k.f1.f2] by rw [List.map_append]; exact congrArg (pre.map (qo ck) ++ [·]) (if_pos hk2))
    clear hk2
    obtain ⟨fZ, iw, jf, iV, iW, kD, kE⟩ := St.CJ S
    go_wp2_with (first
     | (refine boxS 7 _ 26 S ?_; clear S; intro b7 fV S; clear fZ iw jf iV iW kD kE)
     | (refine gX 26 7 14 #[.int .u8 k.f0, .int .i64 k.f1.f0, .int .i64 k.f1.f1, .int .i64 k.f1.f2, .int .i64 k.f1.f3, .int .i64 k.f2, .slice ua k.f3.length uc] 0 7 S ?_; clear S; intro iQ S; have fM := (S.out.at dQ 0).trans rfl; have afj := (S.out.at (.head _) 3).trans rfl)
     | (refine ig 23 rfl ?_; at_builtin; replace S := ae.mk S.out.t_; refine u_ (Kd.int .i64) 3 rfl 18 22 41 (.int .i64 0) 8 Try.underlying41 info3 rfl (by decide) (by decide) (by decide) S iq k.f1.f2 [.int .i64 k.f1.f2] (fun _ _ _ => rfl) (by have := EO.out; simp only [List.length_map]; omega) ?_; clear S iq; intro Kz cp2 NW mO S iq; clear fM afj)
     | fail)
    have e2 : ((pre.map (qo ck)) ++ [k.f1.f2]).length = (pre ++ [k]).length := by simp
    rw [e2, ← KT.out] at iq
    rw [e2] at S
    have hw1 := HW1.out
    go_wp2
    go_roundg rest.length
    case measure => exact Nat.lt_of_lt_of_le (Nat.lt_succ_self _) fF.out
    case rel => exact ⟨pre ++ [k], rest, _, _, _, (by rw [List.length_append]; rfl), (by rw [hw1]), ⟨by rw [List.append_assoc]; exact HE.out⟩, Nat.le_refl _, iq, ⟨S.out.t_.dP.t_.t_.dE.bg.bg.bg.bg.bg.bg.bg⟩⟩
   case neg =>
    have hka : (ck == 2) = false := beq_eq_false_iff_ne.mpr hk2
    have hkb : decide (ck = 2) = false := decide_eq_false hk2
    have KT := ae.mk (show (pre ++ [k]).map (qo ck) = pre.map (qo ck) ++ [k.f1.f3] by rw [List.map_append]; exact congrArg (pre.map (qo ck) ++ [·]) (if_neg hk2))
    clear hk2
    obtain ⟨fZ, iw, jf, iV, iW, kD, kE⟩ := St.CJ S
    go_wp2_with (first
     | (refine boxS 7 _ 26 S ?_; clear S; intro b7 Bz S; clear fZ iw jf iV iW kD kE)
     | (refine gX 26 7 14 #[.int .u8 k.f0, .int .i64 k.f1.f0, .int .i64 k.f1.f1, .int .i64 k.f1.f2, .int .i64 k.f1.f3, .int .i64 k.f2, .slice ua k.f3.length uc] 0 7 S ?_; clear S; intro yH S; have fM := (S.out.at dQ 0).trans rfl; have afk := (S.out.at (.head _) 4).trans rfl)
     | (refine ig 29 rfl ?_; at_builtin; replace S := ae.mk S.out.t_; refine u_ (Kd.int .i64) 3 rfl 24 28 41 (.int .i64 0) 8 Try.underlying41 info3 rfl (by decide) (by decide) (by decide) S iq k.f1.f3 [.int .i64 k.f1.f3] (fun _ _ _ => rfl) (by have := EO.out; simp only [List.length_map]; omega) ?_; clear S iq; intro Kz cp2 NW zL S iq; clear fM afk)
     | fail)
    have e2 : ((pre.map (qo ck)) ++ [k.f1.f3]).length = (pre ++ [k]).length := by simp
    rw [e2, ← KT.out] at iq
    rw [e2] at S
    have hw1 := HW1.out
    go_wp2
    go_roundg rest.length
    case measure => exact Nat.lt_of_lt_of_le (Nat.lt_succ_self _) fF.out
    case rel => exact ⟨pre ++ [k], rest, _, _, _, (by rw [List.length_append]; rfl), (by rw [hw1]), ⟨by rw [List.append_assoc]; exact HE.out⟩, Nat.le_refl _, iq, ⟨S.out.t_.dP.t_.t_.dE.bg.bg.bg.bg.bg.bg.bg⟩⟩
theorem acE (k : ai) (r : dD) (A : Option Addr) (cc : Nat) (w : World) :
  Calls Try.prog 212 #[.agg #[.int .u8 k.f0, .int .i64 k.f1.f0, .int .i64 k.f1.f1, .int .i64 k.f1.f2, .int .i64 k.f1.f3, .int .i64 k.f2, .slice A k.f3.length cc], .agg #[.int .i64 r.f0, .int .i64 r.f1, .int .i64 r.f2, .int .i64 r.f3]] w fun e w' => e = .returned (.bool (qG k.f1 r)) ∧ Below w.heap.size w w' := by
 have S := ae.mk (St.start (ts := []) (b0 := w.heap.size) (w := w) (P := fun _ => True) (fun _ h => by cases h))
 go_enter Try.func212, Try.ntmps212
 go_wp2_with (first
  | (refine boxS 2 _ 26 S ?_; clear S; intro b2 dF S)
  | (refine boxS 3 _ 23 S ?_; clear S; intro b3 dV S; obtain ⟨a_, aW, aY, aX⟩ := St.at4 S (.head _); have mQ := (S.out.at bI 1).trans rfl; have mV := (S.out.at bI 2).trans rfl; have mW := (S.out.at bI 3).trans rfl; have mX := (S.out.at bI 4).trans rfl)
  | fail)
 clear a_ aW aY aX mQ mV mW mX
 all_goals (go_ret; refine ⟨?_, S.out.below⟩; clear S; simp [qG, *])
theorem WH (c : ai) (hl : c.f3.length ≤ 1000000) (b : Nat) (P : Nat → Prop) (A : Option Addr) (cc : Nat) (w : World) (hv : Kd.V k26 26 w b P (.slice A c.f3.length cc) c.f3) :
  Calls Try.prog 206 #[.agg #[.int .u8 c.f0, .int .i64 c.f1.f0, .int .i64 c.f1.f1, .int .i64 c.f1.f2, .int .i64 c.f1.f3, .int .i64 c.f2, .slice A c.f3.length cc]] w (Qj w c) := by
 have S := ae.mk (St.start (ts := [(.slice A c.f3.length cc, c.f3)]) (b0 := w.heap.size) (w := w) (P := P) (fun t ht => by rw [List.mem_singleton.1 ht]; exact fK hv))
 have hcut := fun b P A cc W hV => acH c hl b P A cc W hV
 have ho : mF c = B_ c (yx c) := rfl
 have hl2 := (ML c).2
 unfold Qj
 generalize mF c = v at ho ⊢
 generalize yx c = T at ho hl2 hcut
 clear hl hv
 obtain ⟨ck, ⟨cx, cy, cw, ch⟩, aU, l⟩ := c
 obtain ⟨t1, t2, t3⟩ := T
 simp only [B_] at S hl2 hcut ho ⊢
 have HL2 := ae.mk hl2
 clear hl2
 by_cases h1 : ck = 1
 case pos =>
  have hv : v = true := by rw [ho, h1]; rfl
  have ha : (ck == 1) = true := beq_iff_eq.mpr h1
  have hb : decide (ck = 1) = true := decide_eq_true h1
  have HL := ae.mk hv
  clear hv h1 ho hcut
  go_enter Try.func206, Try.ntmps206
  go_wp2_with (first
   | (refine boxS 1 _ 26 S ?_; clear S; intro b1 dF S; have fM := (S.out.at (.head _) 0).trans rfl)
   | fail)
  clear fM
  go_ret2
  rw [HL.out]
  exact ⟨_, _, _, rfl, fun _ => ⟨[], rfl, Nat.zero_le _, Kd.uM _ _ _ _ _⟩, S.out.below⟩
 have ha : (ck == 1) = false := beq_eq_false_iff_ne.mpr h1
 have hd : decide (ck = 1) = false := decide_eq_false h1
 rw [ha, Bool.false_or] at ho
 clear h1
 cases t3 with
 | false =>
  rw [Bool.false_and] at ho
  have HL := ae.mk ho
  have Gq := ae.mk (fun b P A cc W hV => MM (hcut b P A cc W hV))
  clear hcut ho
  go_enter Try.func206, Try.ntmps206
  go_wp2_with (first
   | (refine boxS 1 _ 26 S ?_; clear S; intro b1 dF S; obtain ⟨fM, jV, jW, jX, jY, lZ, iD⟩ := St.ed S (.head _))
   | (refine iF (some 12) Try.func210 (Gq.out _ _ _ _ _ (S.out.tree _ (.head _))) ?_; rintro e dV ⟨Ap, np, cp, Aq, nq, cq, rfl, hb⟩; refine ⟨_, rfl, ?_⟩; replace S := ae.mk (S.out.call hb); clear hb; clear fM jV jW jX jY lZ iD)
   | fail)
  go_ret2
  rw [HL.out]
  exact ⟨_, _, _, rfl, (fun h => by cases h), S.out.below⟩
 | true =>
  rw [Bool.true_and] at ho
  have Gq := ae.mk (fun b P A cc W hV => OY (hcut b P A cc W hV))
  have HEF := ae.mk (fun (A B : Option Addr) (ca cb : Nat) (W : World) (h1 : Kd.C k26 W A l.length l) (h2 : Kd.C k23 W B t1.length t1) => (show Calls Try.prog 211 #[.slice A l.length ca, .slice B t1.length cb, .func (.func 212) #[] #[]] W fun e w' => e = .returned (.bool v) ∧ Below W.heap.size W w' by rw [ho]; exact acP (fun k r => qG k.f1 r) 212 (r_ Try.func212 (by decide +kernel) (by kernel_rfl)) l t1 A B ca cb W h1 h2 (fun W x X cx y _ _ _ _ => acE x y X cx W)))
  clear hcut ho
  go_enter Try.func206, Try.ntmps206
  go_wp2_with (first
   | (refine boxS 1 _ 26 S ?_; clear S; intro b1 dF S; obtain ⟨fM, jV, jW, jX, jY, lZ, iD⟩ := St.ed S (.head _))
   | (refine iF (some 12) Try.func210 (Gq.out _ _ _ _ _ (S.out.tree _ (.head _))) ?_; rintro e dV ⟨Ap, cp, Aq, cq, op, oq, rfl, h1, hb⟩; refine ⟨_, rfl, ?_⟩; obtain ⟨S1, hp, hq⟩ := S.out.two h1 hb; replace S := ae.mk S1; have iq := ae.mk hp; have mi := ae.mk hq; clear S1 hp hq h1 hb; clear fM jV jW jX jY lZ iD; have iD := (S.out.at dQ 6).trans rfl)
   | (refine ig 22 rfl ?_; (refine iE (by rfl) ?_; dsimp only); refine bH (some 22) Try.func211 S (HEF.out _ _ _ _ _ (Kd.kP (S.out.tree _ (.head _))).2.2 (Vo iq.out S.out (.head _)).1) ?_; clear S; intro fV S; clear iD)
   | fail)
  go_ret2
  exact ⟨_, _, _, rfl, fun _ => ⟨t2, rfl, HL2.out, S.out.FY mi.out bI⟩, S.out.below⟩
def pJ (w0 : World) (gw j : Nat) (W : World) : Prop := Below w0.heap.size w0 W ∧ ∃ (n : Int) (v : Value) (ls : List dD), W.heap[gw]? = some (.cells #[.int .i64 n, v] 182 (0, 0)) ∧ Kd.R k23 23 W w0.heap.size (fun _ => True) v ls ∧ ls.length ≤ j
def Fr (gw : Nat) (W W' : World) : Prop := ∀ k cs t, k ≠ gw → t ≠ 23 → W.heap[k]? = some (.cells cs t (0, 0)) → W'.heap[k]? = some (.cells cs t (0, 0))
theorem Fr.refl (gw : Nat) (W : World) : Fr gw W W := fun _ _ _ _ _ h => h
theorem Fr.trans {gw : Nat} {W W1 W2 : World} (h : Fr gw W W1) (k : Fr gw W1 W2) : Fr gw W W2 := fun i cs t hi ht hb => k i cs t hi ht (h i cs t hi ht hb)
theorem Fr.below {gw : Nat} {W W1 : World} (h : Below W.heap.size W W1) : Fr gw W W1 := fun _ _ _ _ _ hb => aJ hb h
theorem Fr.store {gw : Nat} {W W1 : World} (h : W.grownBy W1 (some gw)) : Fr gw W W1 := fun _ _ _ hi _ hb => df hb h (fun e => absurd (Option.some.inj e) hi)
theorem Fr.append {gw base : Nat} {W W1 : World} {v : Value} {xs : List dD} {ok : Nat → Prop} (hv : Kd.R k23 23 W base ok v xs) (h : W.grownBy W1 v.ownBlock) : Fr gw W W1 := fun _ _ _ _ ht hb => df hb h (Kd.FD hv hb (fun e => ht e.symm))
theorem pJ.below {w0 W W1 : World} {gw j : Nat} (h : pJ w0 gw j W) (hb : Below W.heap.size W W1) : pJ w0 gw j W1 := by
 obtain ⟨h1, n, v, ls, h2, h3, h4⟩ := h
 exact ⟨ak h1 hb, n, v, ls, aJ h2 hb, Kd.pR h3 hb, h4⟩
theorem pJ.mono {w0 W : World} {gw j j' : Nat} (h : pJ w0 gw j W) (hj : j ≤ j') : pJ w0 gw j' W := by
 obtain ⟨h1, n, v, ls, h2, h3, h4⟩ := h
 exact ⟨h1, n, v, ls, h2, h3, Nat.le_trans h4 hj⟩
theorem acD (x : ai) (B : Option Addr) (cb b3 gw : Nat) (r : Bool) (R : World → Prop) (W : World) (hk : W.heap[b3]? = some (.cells #[.pointer (some ⟨gw, 0, none⟩)] 180 (0, 0)))
  (h : ∀ W1, Below W.heap.size W W1 → Calls Try.prog 197 #[.pointer (some ⟨gw, 0, none⟩), .agg #[.int .u8 x.f0, .int .i64 x.f1.f0, .int .i64 x.f1.f1, .int .i64 x.f1.f2, .int .i64 x.f1.f3, .int .i64 x.f2, .slice B x.f3.length cb]] W1 fun e w' => e = .returned (.bool r) ∧ R w') :
  Calls Try.prog 207 (#[.agg #[.int .u8 x.f0, .int .i64 x.f1.f0, .int .i64 x.f1.f1, .int .i64 x.f1.f2, .int .i64 x.f1.f3, .int .i64 x.f2, .slice B x.f3.length cb]] ++ #[.pointer (some ⟨b3, 0, none⟩)]) W fun e w' => e = .returned (.bool (!r)) ∧ R w' := by
 have HK := ae.mk hk
 have H := ae.mk h
 clear hk h
 simp only [List.append_toArray, List.cons_append, List.nil_append]
 cases r
 all_goals
  go_enter Try.func207, Try.ntmps207
  go_wp2_with (first
   | ((with_reducible refine aG (N := 2) rfl ?_); refine aT ?hg (N := 2) ?hd (cs := #[.int .u8 x.f0, .int .i64 x.f1.f0, .int .i64 x.f1.f1, .int .i64 x.f1.f2, .int .i64 x.f1.f3, .int .i64 x.f2, .slice B x.f3.length cb]) (t := 26) ?hr ?_; (case hd => rfl); (case hg => rfl); (case hr => first | (go_simp; done) | (go_simp; rfl)); intro b2 hg Yn hbox hb; have lY := ae.mk hbox; have HB := ae.mk hb; have K3 := ae.mk (aJ HK.out hb); have d0 := (af K3.out 0).trans rfl; have c0 := (af lY.out 0).trans rfl; have c1 := (af lY.out 1).trans rfl; have c2 := (af lY.out 2).trans rfl; have c3 := (af lY.out 3).trans rfl; have c4 := (af lY.out 4).trans rfl; have c5 := (af lY.out 5).trans rfl; have c6 := (af lY.out 6).trans rfl; clear hb hbox hg)
   | fail)
  clear c0 c1 c2 c3 c4 c5 c6 d0
  refine (H.out _ HB.out).mono ?_
  rintro e w' ⟨rfl, hR⟩
  have HR := ae.mk hR
  clear hR
  go_wp2
  go_ret
  exact ⟨rfl, HR.out⟩
def qp.T5 : Bool × List (List Nat × List Nat) := (true, [([], []), ([], []), ([1], [1]), ([2], [2]), ([3], [3]), ([], []), ([4, 5], [4, 5]), ([0, 0, 1, 2, 3, 4, 5, 6], [0]), ([7, 0, 1, 2, 3, 4, 5, 6], [7]), ([8, 6, 6, 0, 1, 2, 3, 4, 5, 6], [6, 8])])
def qp.B5 : List Nat := [0, 0, 2, 6, 14, 0, 62, 127, 255, 511]
theorem qp.Jb : g_ .any (opsOf Try.f197 5) = qp.T5 := by kernel_rfl
theorem qp.Es : iO qp.T5.2 qp.B5 = true := by kernel_rfl
theorem aaZ (w0 : World) (gw : Nat) (hgw : w0.heap.size ≤ gw) : ∀ (N : Nat) (c : ai), sz c ≤ N → N ≤ 20000 → ∀ (A : Option Addr) (cc : Nat), Kd.C k26 w0 A c.f3.length c.f3 → c.f3.length ≤ cc → ∀ (j : Nat) (W : World), j + dI c.f3 ≤ 1000000 → pJ w0 gw j W →
  Calls Try.prog 197 #[.pointer (some ⟨gw, 0, none⟩), .agg #[.int .u8 c.f0, .int .i64 c.f1.f0, .int .i64 c.f1.f1, .int .i64 c.f1.f2, .int .i64 c.f1.f3, .int .i64 c.f2, .slice A c.f3.length cc]] W fun e w' => e = .returned (.bool (kG c)) ∧ pJ w0 gw (j + dI c.f3) w' ∧ Fr gw W w' := by
 intro N
 induction N with
 | zero => intro c h; rw [cO] at h; omega
 | succ N ih =>
  intro c hc hN A cc hr hlc j W hj hI
  have hsz := cO c
  have hlen := ik c.f3
  have XX : ∀ (b2 j1 : Nat) (W1 : World), b2 ≠ gw → W1.heap[b2]? = some (.cells #[.pointer (some ⟨gw, 0, none⟩)] 180 (0, 0)) → pJ w0 gw j1 W1 → j1 ≤ j + c.f3.length →
    Calls Try.prog 174 #[.slice A c.f3.length cc, .func (.func 207) #[] #[.pointer (some ⟨b2, 0, none⟩)]] W1 fun e w' => e = .returned (.bool (!(c.f3.all kG))) ∧ pJ w0 gw (j + dI c.f3) w' ∧ Fr gw W1 w' := by
   intro b2 j1 W1 hne hk hi hj1
   have hcon := OW (fun rest w' => (∃ i, pJ w0 gw i w' ∧ i + dI rest ≤ (j + dI c.f3) + rest.length) ∧ Fr gw W1 w') (fun x => !kG x) 207 #[.pointer (some ⟨b2, 0, none⟩)] (r_ Try.func207 (by decide +kernel) (by kernel_rfl)) c.f3 A cc w0 hr
    (fun s w' h => by obtain ⟨⟨i, h1, _⟩, _⟩ := h; exact h1.1)
    (fun s w' n h => by obtain ⟨⟨i, h1, h2⟩, h3⟩ := h; exact ⟨⟨i, h1.below (eG (Below.refl _ _) n), h2⟩, h3.trans (Fr.below (eG (Below.refl _ _) n))⟩)
    (fun x rest w' B cb hx hp h hCx hlx => by
     obtain ⟨⟨i, h1, h2⟩, h3⟩ := h
     obtain ⟨pre, hp⟩ := hp
     have e1 : dI c.f3 = dI pre + (sz x + dI rest) := by rw [← hp, nG, bY]
     have e2 := cO x
     have e3 := ik rest
     have e4 := ik pre
     rw [bY, List.length_cons] at h2
     refine (acD x B cb b2 gw (kG x) (fun w'' => pJ w0 gw (i + dI x.f3) w'' ∧ Fr gw W1 w'') w' (h3 b2 _ 180 hne (by decide) hk) (fun W2 hb2 => ?_)).mono ?_
     ·refine (ih x (by omega) (by omega) B cb hCx hlx i W2 (by omega) (h1.below hb2)).mono ?_
      rintro e w'' ⟨he, hi2, hf⟩
      exact ⟨he, hi2, h3.trans ((Fr.below hb2).trans hf)⟩
     ·rintro e w'' ⟨he, hi2, hf⟩
      refine ⟨he, ⟨⟨i + dI x.f3, hi2, ?_⟩, hf⟩⟩
      split
      ·rw [xk]; show _ ≤ _ + 0; omega
      ·omega)
    W1 ⟨⟨j1, hi, by omega⟩, Fr.refl gw W1⟩ hr.2.1
   refine hcon.mono ?_
   rintro e w' ⟨he, ⟨i, h1, h2⟩, h3⟩
   rw [xk] at h2
   refine ⟨?_, h1.mono (by simpa using h2), h3⟩
   rw [he, List.not_all_eq_any_not]
  have hL : ∀ W1, Below w0.heap.size w0 W1 → Calls Try.prog 206 #[.agg #[.int .u8 c.f0, .int .i64 c.f1.f0, .int .i64 c.f1.f1, .int .i64 c.f1.f2, .int .i64 c.f1.f3, .int .i64 c.f2, .slice A c.f3.length cc]] W1 fun e w' => ∃ Au n cu, e = .returned (.tuple #[.slice Au n cu, .bool (mF c)]) ∧ (mF c = true → ∃ us : List dD, n = us.length ∧ us.length ≤ c.f3.length ∧ k23.R 23 w' W1.heap.size (fun _ => True) (.slice Au us.length cu) us) ∧ Below W1.heap.size W1 w' := fun W1 hb => WH c (by omega) W1.heap.size (fun _ => True) A cc W1 (Kd.wU hlc (Kd.rM (Kd.Gj qE (Kd.gV hr hb)) (fun _ _ => trivial)))
  rw [sS]
  obtain ⟨hB, n, v, ls, hK, hV, hls⟩ := hI
  obtain ⟨Av, cv, ev⟩ := Kd.gJ hV
  subst ev
  have HB := ae.mk hB
  have KW := ae.mk hK
  have RV := ae.mk hV
  have FR := ae.mk (Fr.refl gw W)
  have OJ := ae.mk hgw
  have Qd := ae.mk XX
  have HL := ae.mk hL
  have OM := ae.mk hls
  have HJ := ae.mk hj
  have HN := ae.mk hlen
  clear hB hK hV XX hL hls hj hlen hsz ih hr hlc hc hN
  obtain ⟨ck, ⟨cx, cy, cw, ch⟩, aU, l⟩ := c
  simp only [] at Qd HL HJ HN ⊢
  generalize mF ⟨ck, ⟨cx, cy, cw, ch⟩, aU, l⟩ = q at HL ⊢
  generalize l.all kG = p at Qd ⊢
  cases q with
  | false =>
   rw [Bool.false_and]
   go_enter Try.func197, Try.ntmps197
   go_wp2_with (first
    | ((with_reducible refine aG (N := 2) rfl ?_); refine aT ?hg (N := 2) ?hd (cs := #[.pointer (some ⟨gw, 0, none⟩)]) (t := 180) ?hr ?_; (case hd => rfl); (case hg => rfl); (case hr => first | (go_simp; done) | (go_simp; rfl)); intro b2 hg Yn hbox hb; have lY := ae.mk hbox; have XH := ae.mk (show b2 ≠ gw by rw [hg]; exact Nat.ne_of_gt (fA KW.out)); have dh := ae.mk (ak HB.out hb); have qc := ae.mk (aJ KW.out hb); have nS := ae.mk (Kd.pR RV.out hb); have nR := ae.mk (FR.out.trans (Fr.below hb)); clear HB KW RV FR; have HB := dh; have KW := qc; have RV := nS; have FR := nR; clear dh qc nS nR; clear hb hbox hg)
    | ((with_reducible refine aG (N := 3) rfl ?_); refine aT ?hg (N := 3) ?hd (cs := #[.int .u8 ck, .int .i64 cx, .int .i64 cy, .int .i64 cw, .int .i64 ch, .int .i64 aU, .slice A l.length cc]) (t := 26) ?hr ?_; (case hd => rfl); (case hg => rfl); (case hr => first | (go_simp; done) | (go_simp; rfl)); intro b3 hg Vd hbox hb; have cZ := ae.mk hbox; have NE3 := ae.mk (show b3 ≠ gw by rw [hg]; exact Nat.ne_of_gt (fA KW.out)); have dh := ae.mk (ak HB.out hb); have qc := ae.mk (aJ KW.out hb); have nS := ae.mk (Kd.pR RV.out hb); have nR := ae.mk (FR.out.trans (Fr.below hb)); have o6 := ae.mk (aJ lY.out hb); clear HB KW RV FR lY; have HB := dh; have KW := qc; have RV := nS; have FR := nR; have lY := o6; clear dh qc nS nR o6; have c0 := (af cZ.out 0).trans rfl; have c1 := (af cZ.out 1).trans rfl; have c2 := (af cZ.out 2).trans rfl; have c3 := (af cZ.out 3).trans rfl; have c4 := (af cZ.out 4).trans rfl; have c5 := (af cZ.out 5).trans rfl; have c6 := (af cZ.out 6).trans rfl; clear hb hbox hg)
    | fail)
   clear c0 c1 c2 c3 c4 c5 c6
   refine (HL.out _ HB.out).mono ?_
   rintro e w1 ⟨Au, nu, cu, rfl, _, hb⟩
   have dh := ae.mk (ak HB.out hb); have qc := ae.mk (aJ KW.out hb); have nS := ae.mk (Kd.pR RV.out hb); have nR := ae.mk (FR.out.trans (Fr.below hb)); have o6 := ae.mk (aJ lY.out hb); have wG := ae.mk (aJ cZ.out hb); clear HB KW RV FR lY cZ; have HB := dh; have KW := qc; have RV := nS; have FR := nR; have lY := o6; have cZ := wG; clear dh qc nS nR o6 wG
   clear hb
   go_wp2
   go_ret
   exact ⟨rfl, ⟨HB.out, n, _, ls, KW.out, RV.out, by have := OM.out; omega⟩, FR.out⟩
  | true =>
   rw [Bool.true_and]
   go_enter Try.func197, Try.ntmps197
   go_wp2_with (first
    | ((with_reducible refine aG (N := 2) rfl ?_); refine aT ?hg (N := 2) ?hd (cs := #[.pointer (some ⟨gw, 0, none⟩)]) (t := 180) ?hr ?_; (case hd => rfl); (case hg => rfl); (case hr => first | (go_simp; done) | (go_simp; rfl)); intro b2 hg Yn hbox hb; have lY := ae.mk hbox; have XH := ae.mk (show b2 ≠ gw by rw [hg]; exact Nat.ne_of_gt (fA KW.out)); have dh := ae.mk (ak HB.out hb); have qc := ae.mk (aJ KW.out hb); have nS := ae.mk (Kd.pR RV.out hb); have nR := ae.mk (FR.out.trans (Fr.below hb)); clear HB KW RV FR; have HB := dh; have KW := qc; have RV := nS; have FR := nR; clear dh qc nS nR; clear hb hbox hg)
    | ((with_reducible refine aG (N := 3) rfl ?_); refine aT ?hg (N := 3) ?hd (cs := #[.int .u8 ck, .int .i64 cx, .int .i64 cy, .int .i64 cw, .int .i64 ch, .int .i64 aU, .slice A l.length cc]) (t := 26) ?hr ?_; (case hd => rfl); (case hg => rfl); (case hr => first | (go_simp; done) | (go_simp; rfl)); intro b3 hg Vd hbox hb; have cZ := ae.mk hbox; have NE3 := ae.mk (show b3 ≠ gw by rw [hg]; exact Nat.ne_of_gt (fA KW.out)); have dh := ae.mk (ak HB.out hb); have qc := ae.mk (aJ KW.out hb); have nS := ae.mk (Kd.pR RV.out hb); have nR := ae.mk (FR.out.trans (Fr.below hb)); have o6 := ae.mk (aJ lY.out hb); clear HB KW RV FR lY; have HB := dh; have KW := qc; have RV := nS; have FR := nR; have lY := o6; clear dh qc nS nR o6; have c0 := (af cZ.out 0).trans rfl; have c1 := (af cZ.out 1).trans rfl; have c2 := (af cZ.out 2).trans rfl; have c3 := (af cZ.out 3).trans rfl; have c4 := (af cZ.out 4).trans rfl; have c5 := (af cZ.out 5).trans rfl; have c6 := (af cZ.out 6).trans rfl; clear hb hbox hg)
    | fail)
   clear c0 c1 c2 c3 c4 c5 c6
   refine (HL.out _ HB.out).mono ?_
   rintro e w1 ⟨Au, nu, cu, rfl, hu, hb⟩
   obtain ⟨us, eu, hul, hu2⟩ := hu trivial
   subst eu
   have gW := ae.mk hul
   have HU := ae.mk (Kd.pU hu2 HB.out.size)
   clear hul hu hu2
   have dh := ae.mk (ak HB.out hb); have qc := ae.mk (aJ KW.out hb); have nS := ae.mk (Kd.pR RV.out hb); have nR := ae.mk (FR.out.trans (Fr.below hb)); have o6 := ae.mk (aJ lY.out hb); have wG := ae.mk (aJ cZ.out hb); clear HB KW RV FR lY cZ; have HB := dh; have KW := qc; have RV := nS; have FR := nR; have lY := o6; have cZ := wG; clear dh qc nS nR o6 wG
   clear hb
   have d0 := (af lY.out 0).trans rfl
   have e0 := (af KW.out 0).trans rfl
   have e1 := (af KW.out 1).trans rfl
   go_wp2_with (first
    | ((with_reducible refine lH (.store 3 (.tmp 20) (.tmp 18)) rfl ?_); go_loud (refine fQ (w0 := w0) rfl rfl 3 (.tmp 20) (.tmp 18) rfl (g := gw) (j := 0) (base := w0.heap.size) #[.int .i64 (wrap64 (n + 1)), .slice Av ls.length cv] (u := .int .i64 (wrap64 (n + 1))) (bK := [.int .i64 (wrap64 (n + 1))]) ?sA ?sX rfl ?sT ?s1 KW.out ?sJ rfl HB.out HB.out.size OJ.out ?_; (case sA => rfl); (case sX => rfl); (case sT => rfl); (case s1 => (simp [Value.oneCell'])); (case sJ => (first | decide | simp)); intro ws hbk hbb hgg; have nS := ae.mk (Kd.FC RV.out rfl hgg (fun k_ hk => hk ▸ Kd.FD RV.out KW.out (by decide))); have Ob := ae.mk (Kd.FC HU.out rfl hgg (fun k_ hk => hk ▸ Kd.FD HU.out KW.out (by decide))); have nR := ae.mk (FR.out.trans (Fr.store hgg)); have o6 := ae.mk (df lY.out hgg (fun e_ => absurd (Option.some.inj e_) XH.out)); have wG := ae.mk (df cZ.out hgg (fun e_ => absurd (Option.some.inj e_) NE3.out)); clear RV HU FR lY cZ; have RV := nS; have HU := Ob; have FR := nR; have lY := o6; have cZ := wG; clear nS Ob nR o6 wG; clear KW HB d0 e0 e1; have KW := ae.mk hbk; have HB := ae.mk hbb; clear hbk hbb hgg))
    | fail)
   have hb : Below ws.heap.size ws ws.drew := bJ (Below.refl _ _)
   have dh := ae.mk (ak HB.out hb); have qc := ae.mk (aJ KW.out hb); have nS := ae.mk (Kd.pR RV.out hb); have nR := ae.mk (FR.out.trans (Fr.below hb)); have o6 := ae.mk (aJ lY.out hb); have wG := ae.mk (aJ cZ.out hb); have Ob := ae.mk (Kd.pR HU.out hb); clear HB KW RV FR lY cZ HU; have HB := dh; have KW := qc; have RV := nS; have FR := nR; have lY := o6; have cZ := wG; have HU := Ob; clear dh qc nS nR o6 wG Ob
   clear hb
   refine iU (n := 10) (S := fun w' => Below w0.heap.size w0 w' ∧ w'.heap[b2]? = some (.cells #[.pointer (some ⟨gw, 0, none⟩)] 180 (0, 0)) ∧ w'.heap[gw]? = some (.cells #[.int .i64 (wrap64 (n + 1)), .slice Av ls.length cv] 182 (0, 0))) (ds := [9]) (bA 10 0) (by kernel_rfl) rfl rfl ⟨HB.out, lY.out, KW.out⟩ (fun hHeld => ?_); refine eU qp.Jb qp.Es (fun aj dY => ?_)
   generalize ws.drew = wd at HB KW RV FR lY cZ HU hHeld ⊢
   refine dN 0 21 (bA 10 1) aj dY hHeld ?_ (hv := by intro w' hs_; have c := (af hs_.2.1 0).trans rfl; go_simp; with_reducible rfl)
   refine dN 1 22 (bA 10 3) aj dY hHeld ?_ (hv := by intro w' hs_; have c := (af hs_.2.1 0).trans rfl; go_simp; with_reducible rfl)
   refine ay 2 23 (bA 10 7) aj ?_
   refine ay 3 24 (bA 10 15) aj ?_
   refine dN 4 25 (bA 10 31) aj dY hHeld ?_ (hv := by intro w' hs_; have c := (af hs_.2.2 1).trans rfl; go_simp; with_reducible rfl)
   refine ay 5 26 (bA 10 63) aj ?_
   refine jH 6 (some 27) (bA 10 127) aj (fun K hK => ?_)
   refine Kd.C_ k23 (w0 := w0) w0.heap.size (by rfl) (.tmp 25) (.tmp 26) 42 23 (.agg #[(.int .i64 0), (.int .i64 0), (.int .i64 0), (.int .i64 0)]) 32 rfl Try.underlying42 info23 rfl (by decide) (by omega) (.slice Av ls.length cv) ls us Au us.length cu (fun _ => True) (fun _ => False) rfl rfl RV.out (Kd.dO HU.out).2.2 (fun _ _ h => h) (fun _ h => h.elim) (fun _ _ => trivial) HB.out HB.out.size (by have h1 := OM.out; have h2 := gW.out; have h3 := HJ.out; have h4 := HN.out; omega) ?_
   intro v1 wk ho hb hg hat
   have q1 := ae.mk (FR.out.trans (Fr.append RV.out hg))
   have q2 := ae.mk (df lY.out hg (Kd.FD RV.out lY.out (by decide)))
   have q3 := ae.mk (df cZ.out hg (Kd.FD RV.out cZ.out (by decide)))
   have q4 := ae.mk (df KW.out hg (Kd.FD RV.out KW.out (by decide)))
   clear FR lY cZ KW HB RV HU
   have FR := q1
   have lY := q2
   have cZ := q3
   have KW := q4
   have HB := ae.mk hb
   have RV := ae.mk ho
   clear q1 q2 q3 q4 hb ho hg hat
   obtain ⟨A1, c1, e1⟩ := Kd.gJ RV.out
   subst e1
   refine hK.out _ _ ⟨HB.out, lY.out, KW.out⟩ (fun hHeld => ?_)
   clear hK K
   refine d_ 27 ?_
   refine ay 7 28 (bA 10 255) aj ?_
   refine ay 8 29 (bA 10 511) aj ?_
   refine oP 9 none (bA 10 1023) aj (fun K hK => ?_)
   obtain ⟨w9, DT⟩ : ∃ w9, w9 = wk.setCells gw 1 [.slice A1 (ls ++ us).length c1] := ⟨_, rfl⟩
   have hst := qi (j := 1) (cs' := #[.int .i64 (wrap64 (n + 1)), .slice A1 (ls ++ us).length c1]) (bK := [.slice A1 (ls ++ us).length c1]) KW.out (by first | decide | simp) rfl
   rw [← DT] at hst
   refine Hy (w1 := w9) (by rfl) rfl ?_ ?_
   ·rw [DT]; exact Cm 42 (.tmp 29) (.tmp 27) rfl (cs := #[.int .i64 (wrap64 (n + 1)), .slice Av ls.length cv]) (t0 := 182) (bK := [.slice A1 (ls ++ us).length c1]) rfl rfl rfl (by kernel_rfl) (by simp [Value.oneCell']) KW.out (by first | decide | simp)
   have KF := ae.mk (grown_below HB.out hst.2 OJ.out HB.out.size)
   have RV9 := ae.mk (Kd.FC RV.out rfl hst.2 (fun k_ hk => hk ▸ Kd.FD RV.out KW.out (by decide)))
   have FR9 := ae.mk (FR.out.trans (Fr.store hst.2))
   have K29 := ae.mk (df lY.out hst.2 (fun e_ => absurd (Option.some.inj e_) XH.out))
   have K39 := ae.mk (df cZ.out hst.2 (fun e_ => absurd (Option.some.inj e_) NE3.out))
   have KW9 := ae.mk hst.1
   clear hst
   refine hK.out _ _ ?_
   clear hK K DT
   refine jJ (gK aj.out (by kernel_rfl)) ?_
   have c6 := (af K39.out 6).trans rfl
   cases p
   all_goals
    go_wp2_with fail
    refine (Qd.out b2 (j + us.length) _ XH.out K29.out ⟨KF.out, _, _, _, KW9.out, RV9.out, by have := OM.out; rw [List.length_append]; omega⟩ (by have := gW.out; omega)).mono ?_
    rintro e w2 ⟨rfl, hi, hf⟩
    have HI := ae.mk hi
    have HF := ae.mk (FR9.out.trans hf)
    clear hi hf
    go_wp2
    go_ret
    exact ⟨rfl, HI.out, HF.out⟩
theorem adX : (Try.prog.info? 9).map (fun i => (i.zero, i.size, i.bytes)) = some (some (.string ⟨#[]⟩), 1, 16) := by kernel_rfl
theorem UD (e at_ : Int) (he : e ≠ 0) (w : World) : Calls Try.prog 196 #[.int .i64 e, .int .i64 at_] w fun x w' => (∃ t v, x = .returned (.iface t v)) ∧ Below w.heap.size w w' := by
 have hb : (e == 0) = false := beq_eq_false_iff_ne.mpr he
 clear he
 go_enter Try.func196, Try.ntmps196
 go_wp2
 go_ret
 exact ⟨⟨_, _, rfl⟩, jk (Below.refl _ _) _⟩
theorem VM (ad : Addr) (c0 : Nat) (l0 : List ByteArray) (hl : l0.length ≤ 1000) (w : World) (hr0 : Kd.C Kd.string w (some ad) l0.length l0) (hc0 : l0.length ≤ c0) :
  Calls Try.prog 205 #[.slice (some ad) l0.length c0] w fun e w' => ∃ A n c, e = .returned (.slice A n c) ∧ Below w.heap.size w w' := by
 have heq : ∀ W : World, (binOp .eql 190 (.slice (some ad) l0.length c0) (.slice none 0 0)).run Try.prog W = .ok (.bool false) W := fun W => Lib.run_eql_slice_nil W 190 9 (some ad) l0.length c0 0 0 Try.underlying190
 have HR := ae.mk hr0
 have HL := ae.mk hl
 clear hl hr0
 go_enter Try.func205, Try.ntmps205
 go_wp2_with (first | ((with_reducible refine aG (N := 5) rfl ?_); refine Kd.vO Kd.string w.heap.size 9 ?hg (N := 5) ?hd (xs := ([] : List ByteArray)) (inner := []) (ok := fun _ => True) (fD := fun _ => True) ?hr ?hp (fun _ hk => hk) trivial (Below.refl _ _) (Nat.le_refl _) (by simp) ?_; (case hd => rfl); (case hg => rfl); (case hr => (go_simp; done)); (case hp => exact bW.none _ _); intro v5 w5 ho hb nO ji; clear nO ji; have HO := ae.mk ho; have HB := ae.mk hb; clear ho hb; obtain ⟨Ao, co, eo⟩ := Kd.gJ HO.out; subst eo) | ((with_reducible refine v_ (b := .append) (xs := #[.tmp 5, .tmp 6]) rfl ?_); at_builtin; refine Kd.yj (Rr := Kd.string.K w) Kd.string (w0 := w) w.heap.size rfl (.tmp 5) (.tmp 6) 190 9 (.string ⟨#[]⟩) 16 rfl Try.underlying190 adX rfl (by decide) (by omega) (.slice Ao ([] : List ByteArray).length co) ([] : List ByteArray) l0 _ _ _ (fun _ => True) (fun _ => False) rfl rfl HO.out ?aR (fun _ _ h => h) (fun _ h => h.elim) (fun _ _ => trivial) HB.out HB.out.size ?aL ?_; (case aR => exact Kd.gV HR.out HB.out); (case aL => have := HL.out; simp; omega); intro v7 w7 ho hb nO ag9; have HO7 := ae.mk ho; have HB7 := ae.mk hb; clear ho hb nO ag9))
 obtain ⟨A7, c7, e7⟩ := Kd.gJ HO7.out
 subst e7
 go_ret
 exact ⟨_, _, _, rfl, HB7.out⟩
theorem X5 (tv : TypeId) (v : Value) (ad : Addr) (c0 : Nat) (x : ByteArray) (w : World) (hr0 : Kd.C Kd.string w (some ad) 1 [x]) (hc0 : 1 ≤ c0) :
  Calls Try.prog 195 #[.iface tv v, .slice (some ad) 1 c0] w fun e w' => (∃ t u, e = .returned (.iface t u)) ∧ Below w.heap.size w w' := by
 have HCl := ae.mk (VM ad c0 [x] (by simp) w hr0 hc0)
 clear hr0
 go_enter Try.func195, Try.ntmps195
 go_wp2_with fail
 refine HCl.out.mono ?_
 rintro e w' ⟨A, n, c, rfl, hb⟩
 have HB := ae.mk hb
 clear hb
 go_wp2
 go_ret
 exact ⟨⟨_, _, rfl⟩, jk HB.out _⟩
end Go.Proofs.Ytfdmfgaiblfbhaa.P
