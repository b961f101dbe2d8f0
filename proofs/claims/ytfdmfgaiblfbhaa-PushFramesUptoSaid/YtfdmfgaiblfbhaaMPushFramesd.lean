/- PushFrames: part 4 of 6 of this claim's texts, one behind the other, made small by a program: the words of the kit's printer cut down to those that are used, the claim's own names made short. -/
import Derived.Test.YtfdmfgaiblfbhaaMPushFramesc
import Derived.WalkSpells
set_option maxHeartbeats 8000000
set_option maxRecDepth 100000
set_option linter.unusedVariables false
set_option linter.unusedSimpArgs false
namespace Go.Proofs.Ytfdmfgaiblfbhaa.P
open Go.RowKit Go.Proofs.ag.aT Go.Proofs.ag.bK Go.Proofs.ag.bY
theorem wp {x : Int} (h0 : -9223372036854775808 ≤ x) (h1 : x ≤ 9223372036854775807) : wrap64 x = x := by unfold wrap64; omega
def jG (m : Int) : Int → List (Int × Int) → Int × List (Int × Int)
 | b, [] => (b, [])
 | b, p :: ps => if p.1 + p.2 > 0 then (if b > 0 then ((jG m (b - mn m b) ps).1, (p.1, p.2 - mn m b) :: (jG m (b - mn m b) ps).2) else ((jG m b ps).1, p :: (jG m b ps).2)) else ((jG m b ps).1, p :: (jG m b ps).2)
def able : List (Int × Int) → Int
 | [] => 0
 | p :: ps => (if p.1 + p.2 > 0 then 1 else 0) + able ps
def lst : Int → List (Int × Int) → Int
 | m, [] => m
 | m, p :: ps => lst (if p.1 + p.2 > 0 then mn m (p.1 + p.2) else m) ps
def vG : List (Int × Int) → Int
 | [] => 0
 | p :: ps => (p.1 + p.2) + vG ps
def outs : List (Int × Int) → Int
 | [] => 0
 | p :: ps => p.2 + outs ps
def Good (ps : List (Int × Int)) : Prop := ∀ p, p ∈ ps → 0 ≤ p.1 ∧ p.1 ≤ 2147483647 ∧ -p.1 ≤ p.2 ∧ p.2 ≤ 0
def mO (m : Int) (ps : List (Int × Int)) : List (Int × Int) := ps.map fun p => (p.1, p.2 - if p.1 + p.2 > 0 then m else 0)
def DU (ps : List (Int × Int)) : Prop := ∀ p, p ∈ ps → ∀ q, q ∈ ps → p.2 > q.2 → p.1 + p.2 = 0
def JB (ps : List (Int × Int)) : Prop := ∀ p, p ∈ ps → ∀ q, q ∈ ps → p.2 > q.2 + 1 → p.2 = -p.1
theorem Good.tail {p : Int × Int} {ps : List (Int × Int)} (h : Good (p :: ps)) : Good ps := fun q hq => h q (List.mem_cons_of_mem _ hq)
theorem Good.head {p : Int × Int} {ps : List (Int × Int)} (h : Good (p :: ps)) : 0 ≤ p.1 ∧ p.1 ≤ 2147483647 ∧ -p.1 ≤ p.2 ∧ p.2 ≤ 0 := h p List.mem_cons_self
theorem yz (ps : List (Int × Int)) : 0 ≤ able ps ∧ able ps ≤ ps.length := by
 induction ps with
 | nil => simp [able]
 | cons p ps ih => simp only [able, List.length_cons]; split <;> omega
theorem UC {ps : List (Int × Int)} (hg : Good ps) (h : 0 < vG ps) : 0 < able ps := by
 induction ps with
 | nil => simp [vG] at h
 | cons p ps ih =>
  have hr := yz ps
  simp only [vG] at h
  simp only [able]
  split
  ·omega
  ·rename_i hp
   have := ih hg.tail (by omega)
   omega
theorem TB (ps : List (Int × Int)) : ∀ m, lst m ps ≤ m := by
 induction ps with
 | nil => intro m; simp [lst]
 | cons p ps ih =>
  intro m
  simp only [lst]
  have h1 := ih (if p.1 + p.2 > 0 then mn m (p.1 + p.2) else m)
  have h2 : (if p.1 + p.2 > 0 then mn m (p.1 + p.2) else m) ≤ m := by
   split
   ·unfold mn; split <;> omega
   ·exact Int.le_refl _
  omega
theorem Zy (ps : List (Int × Int)) : ∀ m, ∀ p, p ∈ ps → p.1 + p.2 > 0 → lst m ps ≤ p.1 + p.2 := by
 induction ps with
 | nil => intro m p hp; cases hp
 | cons q ps ih =>
  intro m p hp h
  simp only [lst]
  rcases List.mem_cons.1 hp with rfl | hp
  ·rw [if_pos h]
   have h1 := TB ps (mn m (p.1 + p.2))
   have h2 : mn m (p.1 + p.2) ≤ p.1 + p.2 := by unfold mn; split <;> omega
   omega
  ·exact ih _ p hp h
theorem Zz (ps : List (Int × Int)) : ∀ m, 0 < m → 0 < lst m ps := by
 induction ps with
 | nil => intro m h; simpa [lst] using h
 | cons q ps ih =>
  intro m h
  simp only [lst]
  apply ih
  unfold mn
  split
  ·split <;> omega
  ·exact h
theorem ES {m : Int} (hm : 0 < m) : ∀ (ps : List (Int × Int)) (b : Int), m * able ps ≤ b → jG m b ps = (b - m * able ps, mO m ps) := by
 intro ps
 induction ps with
 | nil => intro b _; simp [jG, able, mO]
 | cons p ps ih =>
  intro b hb
  have hr := yz ps
  have hmn : 0 ≤ m * able ps := Int.mul_nonneg (by omega) hr.1
  simp only [able] at hb ⊢
  by_cases hp : p.1 + p.2 > 0
  ·simp only [if_pos hp] at hb ⊢
   rw [Int.mul_add, Int.mul_one] at hb ⊢
   have h1 : mn m b = m := by unfold mn; split <;> omega
   have h2 := ih (b - m) (by omega)
   simp only [jG]
   rw [if_pos hp, if_pos (by omega), h1, h2]
   simp only [mO, List.map_cons, if_pos hp, Prod.mk.injEq, and_true]
   omega
  ·simp only [if_neg hp] at hb ⊢
   rw [Int.zero_add] at hb ⊢
   simp only [jG]
   rw [if_neg hp, ih b hb]
   simp only [mO, List.map_cons, if_neg hp, Int.sub_zero]
theorem UK : ∀ (ps : List (Int × Int)) (b : Int), 0 ≤ b → b ≤ able ps → (jG 1 b ps).1 = 0 := by
 intro ps
 induction ps with
 | nil => intro b h0 h; simp only [able] at h; simp only [jG]; omega
 | cons p ps ih =>
  intro b h0 h
  simp only [able] at h
  simp only [jG]
  by_cases hp : p.1 + p.2 > 0
  ·rw [if_pos hp] at h ⊢
   by_cases hb : b > 0
   ·rw [if_pos hb]
    have h1 : mn 1 b = 1 := by unfold mn; split <;> omega
    rw [h1]
    exact ih (b - 1) (by omega) (by omega)
   ·rw [if_neg hb]
    exact ih b h0 (by have := yz ps; omega)
  ·rw [if_neg hp] at h ⊢
   exact ih b h0 (by omega)
theorem XP (m : Int) : ∀ (ps : List (Int × Int)) (b : Int), (jG m b ps).2.map Prod.fst = ps.map Prod.fst := by
 intro ps
 induction ps with
 | nil => intro b; simp [jG]
 | cons p ps ih =>
  intro b
  simp only [jG]
  split
  ·split <;> simp [ih]
  ·simp [ih]
theorem GZ : ∀ (ps : List (Int × Int)) (b : Int) (q : Int × Int), q ∈ (jG 1 b ps).2 → ∃ p, p ∈ ps ∧ q.1 = p.1 ∧ (q.2 = p.2 ∨ (p.1 + p.2 > 0 ∧ q.2 = p.2 - 1)) := by
 intro ps
 induction ps with
 | nil => intro b q hq; simp [jG] at hq
 | cons p ps ih =>
  intro b q hq
  simp only [jG] at hq
  have key : ∀ b' , q ∈ (jG 1 b' ps).2 → ∃ OO, OO ∈ p :: ps ∧ q.1 = OO.1 ∧ (q.2 = OO.2 ∨ (OO.1 + OO.2 > 0 ∧ q.2 = OO.2 - 1)) := fun b' h => by
   obtain ⟨p', h1, h2⟩ := ih b' q h
   exact ⟨p', List.mem_cons_of_mem _ h1, h2⟩
  split at hq
  ·rename_i hp
   split at hq
   ·rename_i hb
    simp only [List.mem_cons] at hq
    rcases hq with rfl | hq
    ·refine ⟨p, List.mem_cons_self, rfl, .inr ⟨hp, ?_⟩⟩
     have h1 : mn 1 b = 1 := by unfold mn; split <;> omega
     simp only [h1]
    ·exact key _ hq
   ·simp only [List.mem_cons] at hq
    rcases hq with rfl | hq
    ·exact ⟨_, List.mem_cons_self, rfl, .inl rfl⟩
    ·exact key _ hq
  ·simp only [List.mem_cons] at hq
   rcases hq with rfl | hq
   ·exact ⟨_, List.mem_cons_self, rfl, .inl rfl⟩
   ·exact key _ hq
theorem KQ (m : Int) : ∀ (ps : List (Int × Int)) (b : Int), outs (jG m b ps).2 - (jG m b ps).1 = outs ps - b := by
 intro ps
 induction ps with
 | nil => intro b; simp [jG]
 | cons p ps ih =>
  intro b
  simp only [jG]
  split
  ·split
   ·have := ih (b - mn m b); simp only [outs]; omega
   ·have := ih b; simp only [outs]; omega
  ·have := ih b; simp only [outs]; omega
theorem U2 (m : Int) (ps : List (Int × Int)) : (mO m ps).map Prod.fst = ps.map Prod.fst := by simp [mO, List.map_map, Function.comp_def]
theorem RI {m : Int} {ps : List (Int × Int)} (hm : 0 ≤ m) (hg : Good ps) (hl : ∀ p, p ∈ ps → p.1 + p.2 > 0 → m ≤ p.1 + p.2) : Good (mO m ps) := by
 intro q hq
 obtain ⟨p, hp, rfl⟩ := List.mem_map.1 hq
 have h1 := hg p hp
 have h2 := hl p hp
 simp only
 split <;> omega
theorem PQ (m : Int) (ps : List (Int × Int)) : vG (mO m ps) = vG ps - m * able ps := by
 induction ps with
 | nil => simp [mO, vG, able]
 | cons p ps ih =>
  have e : mO m (p :: ps) = (p.1, p.2 - if p.1 + p.2 > 0 then m else 0) :: mO m ps := rfl
  rw [e]
  simp only [vG, able, ih]
  rw [Int.mul_add]
  split
  ·rw [Int.mul_one]; omega
  ·rw [Int.mul_zero]; omega
theorem RH {m : Int} {ps : List (Int × Int)} (hg : Good ps) (he : DU ps) (hm : 0 ≤ m) : DU (mO m ps) := by
 intro p' hp' q' hq' h
 obtain ⟨p, hp, rfl⟩ := List.mem_map.1 hp'
 obtain ⟨q, hq, rfl⟩ := List.mem_map.1 hq'
 have h1 := he p hp q hq
 have h2 := hg p hp
 have h3 := hg q hq
 simp only at h ⊢
 by_cases c1 : p.1 + p.2 > 0
 ·rw [if_pos c1] at h ⊢
  by_cases c2 : q.1 + q.2 > 0
  ·rw [if_pos c2] at h; omega
  ·rw [if_neg c2] at h; omega
 ·rw [if_neg c1] at h ⊢
  by_cases c2 : q.1 + q.2 > 0
  ·rw [if_pos c2] at h; omega
  ·rw [if_neg c2] at h; omega
theorem RJ {m : Int} {ps : List (Int × Int)} (hm : 0 < m) (hl : ∀ p, p ∈ ps → p.1 + p.2 > 0 → m + 1 ≤ p.1 + p.2) : mO (m + 1) ps = mO m (mO 1 ps) ∧ able (mO 1 ps) = able ps := by
 constructor
 ·simp only [mO, List.map_map]
  apply List.map_congr_left
  intro p hp
  have := hl p hp
  simp only [Function.comp_def, Prod.mk.injEq, true_and]
  by_cases h : p.1 + p.2 > 0
  ·rw [if_pos h, if_pos h, if_pos (by omega)]; omega
  ·rw [if_neg h, if_neg h, if_neg (by omega)]; omega
 ·induction ps with
  | nil => rfl
  | cons p ps ih =>
   have e : mO 1 (p :: ps) = (p.1, p.2 - if p.1 + p.2 > 0 then 1 else 0) :: mO 1 ps := rfl
   rw [e]
   simp only [able]
   rw [ih fun q hq => hl q (List.mem_cons_of_mem _ hq)]
   have := hl p List.mem_cons_self
   by_cases h : p.1 + p.2 > 0
   ·rw [if_pos h, if_pos (by omega)]
   ·rw [if_neg h, if_neg (by omega)]
theorem UI {ps : List (Int × Int)} {b : Int} (he : DU ps) : JB (jG 1 b ps).2 := by
 intro p' hp' q' hq' h
 obtain ⟨p, hp, e1, e2⟩ := GZ ps b p' hp'
 obtain ⟨q, hq, e3, e4⟩ := GZ ps b q' hq'
 have h1 := he p hp q hq
 omega
theorem abU {ps : List (Int × Int)} (he : DU ps) : JB ps := by
 intro p hp q hq h
 have := he p hp q hq
 omega
theorem UJ {ps : List (Int × Int)} {b : Int} (hg : Good ps) : Good (jG 1 b ps).2 := by
 intro p' hp'
 obtain ⟨p, hp, e1, e2⟩ := GZ ps b p' hp'
 have := hg p hp
 omega
theorem Ev.AP {α : Type} {c : Prop} [Decidable c] {g f : Nat → Option α} {r : α} (hc : c) (h : Ev g r) : Ev (fun k => if c then g k else f k) r := by simp only [if_pos hc]; exact h
theorem Ev.AO {α : Type} {c : Prop} [Decidable c] {g f : Nat → Option α} {r : α} (hc : ¬c) (h : Ev f r) : Ev (fun k => if c then g k else f k) r := by simp only [if_neg hc]; exact h
theorem Gw {α : Type} (f : α → Int) (pre : List α) (p : α) (rest : List α) : rd ((pre ++ p :: rest).map f) (pre.length : Int) = f p := by
 simp [rd, List.getD_eq_getElem?_getD]
theorem Il (pre : List Int) (p : Int) (rest : List Int) : rd (pre ++ p :: rest) (pre.length : Int) = p := by
 simp [rd, List.getD_eq_getElem?_getD]
theorem Zv (b : Int) (q : Int) (r : List Int) (hb0 : 0 < b) (hb1 : b ≤ 2147483647) : ∀ (rest pre : List (Int × Int)) (A L : Int), Good (pre ++ rest) → (pre ++ rest).length ≤ 100000 → 0 ≤ A → A ≤ pre.length →
  A + able rest ≠ 0 → q = mx 1 (mn (lst L rest) (b / (A + able rest))) →
  Ev (fun k => bf.l2 k b ((pre ++ rest).map Prod.fst) ((pre ++ rest).map Prod.snd) q ((pre ++ rest).map Prod.fst) ((pre ++ rest).length : Int) 0) r →
  Ev (fun k => bf.l1 k b ((pre ++ rest).map Prod.fst) ((pre ++ rest).map Prod.snd) A L ((pre ++ rest).map Prod.fst) ((pre ++ rest).length : Int) (pre.length : Int)) r := by
 intro rest
 induction rest with
 | nil =>
  intro pre A L hg hl h0 h1 hne hq h
  refine Ev.step (f := fun k => bf.l2 k b ((pre ++ []).map Prod.fst) ((pre ++ []).map Prod.snd) q ((pre ++ []).map Prod.fst) ((pre ++ []).length : Int) 0) (fun k => ?_) h
  simp only [bf.l1]
  simp only [able, Int.add_zero, lst] at hne hq
  have hdiv : wrap64 (Int.tdiv b A) = b / A := by
   rw [Int.tdiv_eq_ediv_of_nonneg (by omega)]
   have h2 : 0 ≤ b / A := Int.ediv_nonneg (by omega) h0
   have h3 : b / A ≤ b := Int.ediv_le_self _ (by omega)
   exact wp (by omega) (by omega)
  rw [if_neg (by simp), if_neg hne, hdiv, ← hq]
  simp
 | cons p rest ih =>
  intro pre A L hg hl h0 h1 hne hq h
  have hp := hg p (by simp)
  have hlen : ((pre ++ p :: rest).length : Int) = pre.length + (rest.length + 1) := by simp
  have hl' : (pre.length : Int) + (rest.length + 1) ≤ 100000 := by omega
  have hw : wrap64 ((pre.length : Int) + 1) = ((pre ++ [p]).length : Int) := by rw [wp (by omega) (by omega)]; simp
  have e : pre ++ p :: rest = (pre ++ [p]) ++ rest := by simp
  have hsum : wrap64 (p.1 + p.2) = p.1 + p.2 := wp (by omega) (by omega)
  refine Ev.step (f := fun k => bf.l1 k b (((pre ++ [p]) ++ rest).map Prod.fst) (((pre ++ [p]) ++ rest).map Prod.snd) (A + if p.1 + p.2 > 0 then 1 else 0) (if p.1 + p.2 > 0 then mn L (p.1 + p.2) else L) (((pre ++ [p]) ++ rest).map Prod.fst) (((pre ++ [p]) ++ rest).length : Int) ((pre ++ [p]).length : Int)) (fun k => ?_) (ih (pre ++ [p]) _ _ (by rw [← e]; exact hg) (by rw [← e]; exact hl) (by split <;> omega) (by simp; split <;> omega) (by simp only [able] at hne; omega) (by simp only [able, lst] at hq; rw [hq, Int.add_assoc]) (by rw [← e]; exact h))
  simp only [bf.l1]
  rw [Gw, Gw, hsum, if_pos (by omega), if_pos (by omega), if_pos (by simp; omega), if_pos (by simp; omega), hw, ← e]
  by_cases hc : p.1 + p.2 > 0
  ·rw [if_pos hc, if_pos hc, if_pos hc, wp (by omega) (by omega)]
  ·rw [if_neg hc, if_neg hc, if_neg hc, Int.add_zero]
theorem Zw (m : Int) (r : List Int) (hm : 0 < m) : ∀ (rest pre : List (Int × Int)) (b : Int), 0 ≤ b → b ≤ 2147483647 → Good (pre ++ rest) → (∀ p, p ∈ rest → p.1 + p.2 > 0 → m ≤ p.1 + p.2) → (pre ++ rest).length ≤ 100000 →
  Ev (fun k => bf.l0 k (jG m b rest).1 ((pre ++ rest).map Prod.fst) ((pre ++ (jG m b rest).2).map Prod.snd)) r →
  Ev (fun k => bf.l2 k b ((pre ++ rest).map Prod.fst) ((pre ++ rest).map Prod.snd) m ((pre ++ rest).map Prod.fst) ((pre ++ rest).length : Int) (pre.length : Int)) r := by
 intro rest
 induction rest with
 | nil =>
  intro pre b h0 h1 hg hl hlen h
  simp only [jG] at h
  refine Ev.step (fun k => ?_) h
  simp only [bf.l2]
  rw [if_neg (by simp)]
 | cons p rest ih =>
  intro pre b h0 h1 hg hl hlen h
  have hp := hg p (by simp)
  have hlen' : ((pre ++ p :: rest).length : Int) = pre.length + (rest.length + 1) := by simp
  have hl' : (pre.length : Int) + (rest.length + 1) ≤ 100000 := by omega
  have hw : wrap64 ((pre.length : Int) + 1) = (pre.length : Int) + 1 := wp (by omega) (by omega)
  have hsum : wrap64 (p.1 + p.2) = p.1 + p.2 := wp (by omega) (by omega)
  have hmp := hl p (by simp)
  have hmn : 0 ≤ mn m b ∧ mn m b ≤ m ∧ mn m b ≤ b := by unfold mn; split <;> omega
  have step : ∀ (b' : Int) (p' : Int × Int), p'.1 = p.1 → -p'.1 ≤ p'.2 → p'.2 ≤ 0 → 0 ≤ b' → b' ≤ 2147483647 → jG m b (p :: rest) = ((jG m b' rest).1, p' :: (jG m b' rest).2) →
    Ev (fun k => bf.l2 k b' ((pre ++ p :: rest).map Prod.fst) ((pre ++ p' :: rest).map Prod.snd) m ((pre ++ p :: rest).map Prod.fst) ((pre ++ p :: rest).length : Int) ((pre.length : Int) + 1)) r := by
   intro b' p' e1 e2 e3 e4 e5 eb
   have f1 : (pre ++ p :: rest).map Prod.fst = ((pre ++ [p']) ++ rest).map Prod.fst := by simp [e1]
   have f2 : (pre ++ p' :: rest).map Prod.snd = ((pre ++ [p']) ++ rest).map Prod.snd := by simp
   have f3 : ((pre ++ p :: rest).length : Int) = (((pre ++ [p']) ++ rest).length : Int) := by simp
   have f4 : (pre.length : Int) + 1 = ((pre ++ [p']).length : Int) := by simp
   have hg' : Good ((pre ++ [p']) ++ rest) := by
    intro q hq
    simp only [List.append_assoc, List.mem_append, List.mem_cons, List.not_mem_nil, or_false] at hq
    rcases hq with hq | rfl | hq
    ·exact hg q (by simp [hq])
    ·omega
    ·exact hg q (by simp [hq])
   rw [f1, f2, f3, f4]
   refine ih (pre ++ [p']) b' e4 e5 hg' (fun q hq => hl q (by simp [hq])) (by simp; omega) ?_
   rw [eb] at h
   rw [← f1, List.append_assoc]
   exact h
  refine Ev.step (f := fun k => if p.1 + p.2 > 0 then (if b > 0 then bf.l2 k (b - mn m b) ((pre ++ p :: rest).map Prod.fst) ((pre ++ (p.1, p.2 - mn m b) :: rest).map Prod.snd) m ((pre ++ p :: rest).map Prod.fst) ((pre ++ p :: rest).length : Int) ((pre.length : Int) + 1) else bf.l2 k b ((pre ++ p :: rest).map Prod.fst) ((pre ++ p :: rest).map Prod.snd) m ((pre ++ p :: rest).map Prod.fst) ((pre ++ p :: rest).length : Int) ((pre.length : Int) + 1)) else bf.l2 k b ((pre ++ p :: rest).map Prod.fst) ((pre ++ p :: rest).map Prod.snd) m ((pre ++ p :: rest).map Prod.fst) ((pre ++ p :: rest).length : Int) ((pre.length : Int) + 1)) (fun k => ?_) ?_
  ·simp only [bf.l2]
   rw [Gw, Gw, hsum, if_pos (by omega), if_pos (by omega), if_pos (by simp; omega), if_pos (by simp; omega), hw]
   by_cases hc : p.1 + p.2 > 0
   ·rw [if_pos hc, if_pos hc]
    by_cases hb : b > 0
    ·rw [if_pos hb, if_pos hb, wp (by omega) (by omega), wp (by omega) (by omega)]
     congr 1
     simp
    ·rw [if_neg hb, if_neg hb]
   ·rw [if_neg hc, if_neg hc]
  ·by_cases hc : p.1 + p.2 > 0
   ·by_cases hb : b > 0
    ·refine Ev.AP hc (Ev.AP hb (step (b - mn m b) (p.1, p.2 - mn m b) rfl (by simp only; omega) (by simp only; omega) (by omega) (by omega) ?_))
     simp only [jG]
     rw [if_pos hc, if_pos hb]
    ·refine Ev.AP hc (Ev.AO hb (step b p rfl (by omega) (by omega) h0 h1 ?_))
     simp only [jG]
     rw [if_pos hc, if_neg hb]
   ·refine Ev.AO hc (step b p rfl (by omega) (by omega) h0 h1 ?_)
    simp only [jG]
    rw [if_neg hc]
theorem XQ (ps : List (Int × Int)) : ∀ b : Int, 0 ≤ b → xA (-b) ps = (-(jG 1 b ps).1, (jG 1 b ps).2) := by
 induction ps with
 | nil => intro b _; simp [xA, jG]
 | cons p ps ih =>
  intro b hb
  simp only [xA, jG]
  by_cases hp : p.1 + p.2 > 0
  ·rw [if_pos hp]
   by_cases h : b > 0
   ·rw [if_pos h]
    have h1 : mn 1 b = 1 := by unfold mn; split <;> omega
    have e : yB (-b) p = (-(b - 1), (p.1, p.2 - 1)) := by
     unfold yB
     rw [if_neg (by omega), if_pos ⟨by omega, hp⟩]
     congr 1
     omega
    rw [e, h1]
    simp only
    rw [ih (b - 1) (by omega)]
   ·rw [if_neg h]
    have e : yB (-b) p = (-b, p) := by
     unfold yB
     rw [if_neg (by omega), if_neg (by omega)]
    rw [e]
    simp only
    rw [ih b hb]
  ·rw [if_neg hp]
   have e : yB (-b) p = (-b, p) := by
    unfold yB
    rw [if_neg (by omega), if_neg (by omega)]
   rw [e]
   simp only
   rw [ih b hb]
theorem Dz {b : Int} {ps : List (Int × Int)} {r : List Int × Bool} (hb : 0 < b) (hne : (jG 1 b ps).1 ≠ b) (h : Ev (fun k => vY k (-(jG 1 b ps).1) (jG 1 b ps).2) r) : Ev (fun k => vY k (-b) ps) r := by
 refine Ev.step (fun k => ?_) h
 simp only [vY]
 rw [if_neg (by omega), XQ ps b (by omega)]
 simp only
 rw [if_neg (by omega)]
theorem Qz {r : List Int × Bool} : ∀ (m : Nat) (b : Int) (ps : List (Int × Int)), 0 < able ps → ((m : Int) + 1) * able ps ≤ b → (∀ p, p ∈ ps → p.1 + p.2 > 0 → (m : Int) + 1 ≤ p.1 + p.2) →
  Ev (fun k => vY k (-(b - ((m : Int) + 1) * able ps)) (mO ((m : Int) + 1) ps)) r → Ev (fun k => vY k (-b) ps) r := by
 intro m
 induction m with
 | zero =>
  intro b ps ha hb hl h
  have e := ES (m := 1) (by omega) ps b (by simpa using hb)
  have hb' : able ps ≤ b := by simpa using hb
  refine Dz (by omega) (by rw [e]; simp only; omega) ?_
  rw [e]
  simpa using h
 | succ m ih =>
  intro b ps ha hb hl h
  have hx : 0 ≤ ((m : Int) + 1) * able ps := Int.mul_nonneg (by omega) (by omega)
  have hm : (((m + 1 : Nat) : Int) + 1) * able ps = ((m : Int) + 1) * able ps + able ps := by rw [show (((m + 1 : Nat) : Int) + 1) = ((m : Int) + 1) + 1 by omega, Int.add_mul, Int.one_mul]
  rw [hm] at hb h
  have e := ES (m := 1) (by omega) ps b (by omega)
  obtain ⟨d1, d2⟩ := RJ (m := (m : Int) + 1) (ps := ps) (by omega) (fun p hp hc => by have := hl p hp hc; omega)
  refine Dz (by omega) (by rw [e]; simp only; omega) ?_
  rw [e]
  simp only [Int.one_mul]
  refine ih (b - able ps) (mO 1 ps) (by omega) (by rw [d2]; omega) ?_ ?_
  ·intro q hq hc
   obtain ⟨p, hp, rfl⟩ := List.mem_map.1 hq
   have := hl p hp
   simp only at hc ⊢
   by_cases hc1 : p.1 + p.2 > 0
   ·rw [if_pos hc1] at hc ⊢
    have := this hc1
    omega
   ·rw [if_neg hc1] at hc
    omega
  ·rw [d2, ← d1]
   refine Ev.congr (fun k => ?_) h
   rw [show (((m + 1 : Nat) : Int) + 1) = ((m : Int) + 1) + 1 by omega]
   congr 2
   omega
theorem TA : ∀ (n : Nat) (b : Int) (ps : List (Int × Int)), b.toNat = n → 0 ≤ b → b ≤ 2147483647 → Good ps → DU ps → ps.length ≤ 100000 → b ≤ vG ps →
  ∃ qs : List (Int × Int), Ev (fun k => bf.l0 k b (ps.map Prod.fst) (ps.map Prod.snd)) (qs.map Prod.snd) ∧ Ev (fun k => vY k (-b) ps) (qs.map Prod.snd, true) ∧
   qs.map Prod.fst = ps.map Prod.fst ∧ Good qs ∧ JB qs ∧ outs qs = outs ps - b := by
 intro n
 induction n using Nat.strongRecOn with
 | _ n IH =>
 intro b ps hn h0 h1 hg he hl hav
 by_cases hb : b > 0
 ·have hab := UC hg (by omega)
  have har := yz ps
  have ajY := Zz ps b hb
  have ajX := TB ps b
  have hm1 : 1 ≤ mx 1 (mn (lst b ps) (b / able ps)) := by unfold mx; split <;> omega
  have Xm : ∀ (m : Int), m = mx 1 (mn (lst b ps) (b / able ps)) → (∀ p, p ∈ ps → p.1 + p.2 > 0 → m ≤ p.1 + p.2) → ∀ r, Ev (fun k => bf.l0 k (jG m b ps).1 (ps.map Prod.fst) ((jG m b ps).2.map Prod.snd)) r → Ev (fun k => bf.l0 k b (ps.map Prod.fst) (ps.map Prod.snd)) r := by
   intro m hm hml r h
   refine Ev.step (f := fun k => bf.l1 k b (ps.map Prod.fst) (ps.map Prod.snd) 0 b (ps.map Prod.fst) ((ps.map Prod.fst).length : Int) 0) (fun k => ?_) ?_
   ·simp only [bf.l0]; rw [if_pos hb]
   ·have l2 := Zw m r (by omega) ps [] b h0 h1 (by simpa using hg) hml (by simpa using hl) (by simpa using h)
    have l1 := Zv b m r hb h1 ps [] 0 b (by simpa using hg) (by simpa using hl) (by omega) (by simp) (by omega) (by rw [Int.zero_add]; exact hm) (by simpa using l2)
    simpa using l1
  by_cases hfull : able ps ≤ b
  ·
   have hq1 : 1 ≤ b / able ps := by rw [Int.le_ediv_iff_mul_le hab]; omega
   have hm : mx 1 (mn (lst b ps) (b / able ps)) = mn (lst b ps) (b / able ps) := by unfold mx mn; split <;> split at * <;> omega
   have agt : 1 ≤ mn (lst b ps) (b / able ps) := by unfold mn; split <;> omega
   generalize hmm : mn (lst b ps) (b / able ps) = m at hm
   have hm0 : 1 ≤ m := by rw [← hmm]; exact agt
   have agr : m ≤ lst b ps := by rw [← hmm]; unfold mn; split <;> omega
   have ags : m ≤ b / able ps := by rw [← hmm]; unfold mn; split <;> omega
   have hall : ∀ p, p ∈ ps → p.1 + p.2 > 0 → m ≤ p.1 + p.2 := fun p hp hc => Int.le_trans agr (Zy ps b p hp hc)
   have hmb : m * able ps ≤ b := (Int.le_ediv_iff_mul_le hab).1 ags
   have hma : able ps ≤ m * able ps := by have := Int.mul_le_mul_of_nonneg_right hm0 (show 0 ≤ able ps by omega); omega
   have abO := ES (m := m) (by omega) ps b hmb
   obtain ⟨qs, q1, q2, q3, q4, q5, q6⟩ := IH (b - m * able ps).toNat (by omega) (b - m * able ps) (mO m ps) rfl (by omega) (by omega) (RI (by omega) hg hall) (RH hg he (by omega)) (by simpa [mO] using hl) (by rw [PQ]; omega)
   rw [U2] at q1 q3
   have eo : outs (mO m ps) = outs ps - m * able ps := by
    have := KQ m ps b
    rw [abO] at this
    simp only at this
    omega
   refine ⟨qs, Xm m (by rw [hmm, hm]) hall _ (by rw [abO]; exact q1), ?_, q3, q4, q5, by omega⟩
   obtain ⟨m', rfl⟩ : ∃ m' : Nat, m = (m' : Int) + 1 := ⟨(m - 1).toNat, by omega⟩
   exact Qz m' b ps hab hmb hall q2
  ·
   have hq0 : b / able ps = 0 := Int.ediv_eq_zero_of_lt h0 (by omega)
   have hm : mx 1 (mn (lst b ps) (b / able ps)) = 1 := by rw [hq0]; unfold mx mn; split <;> split at * <;> omega
   have hz := UK ps b h0 (by omega)
   have eo := KQ 1 ps b
   refine ⟨(jG 1 b ps).2, Xm 1 hm.symm (fun p _ hc => by omega) _ ?_, Dz hb (by omega) ?_, XP 1 ps b, UJ hg, UI he, by omega⟩
   ·rw [hz]
    refine Ev.step (fun k => ?_) (Ev.now _)
    simp only [bf.l0]
    rw [if_neg (by omega)]
   ·rw [hz]
    refine Ev.step (fun k => ?_) (Ev.now _)
    simp only [vY]
    rw [if_pos (by omega)]
 ·obtain rfl : b = 0 := by omega
  refine ⟨ps, ?_, ?_, rfl, hg, abU he, by omega⟩
  ·refine Ev.step (fun k => ?_) (Ev.now _)
   simp only [bf.l0]
   rw [if_neg hb]
  ·refine Ev.step (fun k => ?_) (Ev.now _)
   simp only [vY]
   rw [if_pos (by omega)]
def total : List Int → Int
 | [] => 0
 | g :: gs => g + total gs
theorem NL (gs : List Int) : vG (gs.map fun g => (g, (0 : Int))) = total gs := by
 induction gs with
 | nil => rfl
 | cons g gs ih => simp only [List.map_cons, vG, total, ih]; omega
theorem DK (gs : List Int) (h : ∀ g, g ∈ gs → 0 ≤ g) : 0 ≤ total gs := by
 induction gs with
 | nil => simp [total]
 | cons g gs ih => have h1 := h g (by simp); have h2 := ih fun x hx => h x (by simp [hx]); simp only [total]; omega
def uf (m : Int) (gs : List Int) : Int := if m + total gs > 2147483647 then 2147483647 else m + total gs
theorem NJ (b : Int) (r : List Int × Bool) : ∀ (rest pre : List Int) (s : Int), 0 ≤ s → s ≤ 2147483647 → (pre ++ rest).length ≤ 100000 →
  (∀ g, g ∈ rest → 0 ≤ g ∧ g ≤ 2147483647) →
  Ev (fun k => if ((pre ++ rest).length : Int) = 0 then (bF.j1 k b (pre ++ rest) true) else (if b < wrap64 (-(uf s rest)) then (bF.j1 k b (pre ++ rest) true) else (bF.j1 k b (pre ++ rest) (decide (b > 2147483647))))) r →
  Ev (fun k => bF.l0 k b (pre ++ rest) s (pre ++ rest) ((pre ++ rest).length : Int) (pre.length : Int)) r := by
 intro rest
 induction rest with
 | nil =>
  intro pre s h0 h1 hl hg h
  refine Ev.step (fun k => ?_) h
  simp only [bF.l0]
  rw [if_neg (by simp)]
  have : uf s [] = s := by unfold uf; simp only [total, Int.add_zero]; rw [if_neg (by omega)]
  rw [this]
 | cons g rest ih =>
  intro pre s h0 h1 hl hg h
  have hgg := hg g (by simp)
  have ht := DK rest fun x hx => (hg x (by simp [hx])).1
  have hlen : ((pre ++ g :: rest).length : Int) = pre.length + (rest.length + 1) := by simp
  have e : pre ++ g :: rest = (pre ++ [g]) ++ rest := by simp
  have hc : uf (mn 2147483647 (s + g)) rest = uf s (g :: rest) := by unfold uf mn; simp only [total]; split <;> split <;> (try split) <;> omega
  refine Ev.step (fun k => ?_) (ih (pre ++ [g]) (mn 2147483647 (s + g)) (by unfold mn; split <;> omega) (by unfold mn; split <;> omega) (by rw [← e]; exact hl) (fun x hx => hg x (by simp [hx])) (by rw [hc, ← e]; exact h))
  simp only [bF.l0]
  rw [Il, if_pos (by omega), if_pos (by omega), if_pos (by omega), if_neg (by omega), if_neg (by omega), wp (x := s + g) (by omega) (by omega), wp (x := (pre.length : Int) + 1) (by omega) (by omega), ← e]
  simp
theorem QA (b : Int) : ∀ (rest pre : List Int) (s : Int), 0 ≤ s → s ≤ 2147483647 → (pre ++ rest).length ≤ 100000 → ¬ (∀ g, g ∈ rest → 0 ≤ g ∧ g ≤ 2147483647) →
  Ev (fun k => bF.l0 k b (pre ++ rest) s (pre ++ rest) ((pre ++ rest).length : Int) (pre.length : Int)) ([], false) := by
 intro rest
 induction rest with
 | nil => intro pre s _ _ _ h; exact absurd (fun g hg => by cases hg) h
 | cons g rest ih =>
  intro pre s h0 h1 hl hg
  have hlen : ((pre ++ g :: rest).length : Int) = pre.length + (rest.length + 1) := by simp
  by_cases hgg : 0 ≤ g ∧ g ≤ 2147483647
  ·have e : pre ++ g :: rest = (pre ++ [g]) ++ rest := by simp
   refine Ev.step (fun k => ?_) (ih (pre ++ [g]) (mn 2147483647 (s + g)) (by unfold mn; split <;> omega) (by unfold mn; split <;> omega) (by rw [← e]; exact hl) (fun h => hg fun x hx => by
    rcases List.mem_cons.1 hx with rfl | hx
    ·exact hgg
    ·exact h x hx))
   simp only [bF.l0]
   rw [Il, if_pos (by omega), if_pos (by omega), if_pos (by omega), if_neg (by omega), if_neg (by omega), wp (x := s + g) (by omega) (by omega), wp (x := (pre.length : Int) + 1) (by omega) (by omega), ← e]
   simp
  ·refine Ev.step (fun k => ?_) (Ev.now _)
   simp only [bF.l0]
   rw [Il, if_pos (by omega), if_pos (by omega), if_pos (by omega)]
   by_cases h : g < 0
   ·rw [if_pos h]
   ·rw [if_neg h, if_pos (by omega)]
theorem Nw (xs ys : List Int) : total (xs ++ ys) = total xs + total ys := by
 induction xs with
 | nil => simp [total]
 | cons x xs ih => simp only [List.cons_append, total, ih]; omega
theorem QH (a : Int) (n : Int) (_h0 : 0 ≤ a % n) : ∀ m : Nat, total ((List.range m).map fun i => qL a n (i : Nat)) = m * (a / n) + (if (m : Int) ≤ a % n then (m : Int) else a % n) := by
 intro m
 induction m with
 | zero => simp [total]; omega
 | succ m ih =>
  rw [List.range_succ, List.map_append, Nw, ih]
  simp only [List.map_cons, List.map_nil, total, qL]
  rw [show ((m + 1 : Nat) : Int) = (m : Int) + 1 by omega, Int.add_mul, Int.one_mul]
  split <;> split <;> split <;> omega
theorem NP (a : Int) (n : Nat) (h0 : 0 ≤ a) (hn : 0 < n) : total (moreL a n) = a := by
 have h1 := Int.emod_nonneg a (show (n : Int) ≠ 0 by omega)
 have h2 := Int.emod_lt_of_pos a (show (0 : Int) < n by omega)
 have h := QH a n h1 n
 unfold moreL
 rw [h, if_neg (by omega)]
 have := Int.mul_ediv_add_emod a n
 omega
theorem QM {gs : List Int} (h : ∀ g, g ∈ gs → 0 ≤ g ∧ g ≤ 2147483647) : Good (gs.map fun g => (g, (0 : Int))) := by
 intro p hp
 obtain ⟨g, hg, rfl⟩ := List.mem_map.1 hp
 have := h g hg
 simp only
 omega
theorem QL (gs : List Int) : DU (gs.map fun g => (g, (0 : Int))) := by
 intro p hp q hq h
 obtain ⟨g, hg, rfl⟩ := List.mem_map.1 hp
 obtain ⟨g', hg', rfl⟩ := List.mem_map.1 hq
 simp at h
theorem QN (gs : List Int) : outs (gs.map fun g => (g, (0 : Int))) = 0 := by
 induction gs with
 | nil => rfl
 | cons g gs ih => simp only [List.map_cons, outs, ih]; rfl
theorem Qn (ps : List (Int × Int)) : outs ps = total (ps.map Prod.snd) := by
 induction ps with
 | nil => rfl
 | cons p ps ih => simp only [List.map_cons, outs, total, ih]
def Ky (b : Int) (gs : List Int) (r : List Int × Bool) : Prop :=
 (r = ([], false) ∧ (gs = [] ∨ (¬ ∀ g, g ∈ gs → 0 ≤ g ∧ g ≤ 2147483647) ∨ ((∀ g, g ∈ gs → 0 ≤ g ∧ g ≤ 2147483647) ∧ b < -total gs))) ∨
 (r = (moreL b gs.length, true) ∧ gs ≠ [] ∧ (∀ g, g ∈ gs → 0 ≤ g ∧ g ≤ 2147483647) ∧ 0 ≤ b) ∨
 (∃ qs : List (Int × Int), r = (qs.map Prod.snd, true) ∧ (∀ g, g ∈ gs → 0 ≤ g ∧ g ≤ 2147483647) ∧ b < 0 ∧ qs.map Prod.fst = gs ∧ Good qs ∧ JB qs ∧ outs qs = b ∧ Ev (fun k => vY k b (gs.map fun g => (g, 0))) (qs.map Prod.snd, true))
theorem Ub (b : Int) (gs : List Int) (hl : gs.length ≤ 100000) (h0 : -2147483647 ≤ b) (h1 : b ≤ 2147483647) : ∃ r, Ky b gs r ∧ Ev (fun k => bF.f k b gs) r := by
 by_cases hg : ∀ g, g ∈ gs → 0 ≤ g ∧ g ≤ 2147483647
 ·have ht := DK gs fun g h => (hg g h).1
  have look := fun r => NJ b r gs [] 0 (by omega) (by omega) (by simpa using hl) hg
  have hcap : uf 0 gs = if total gs > 2147483647 then 2147483647 else total gs := by unfold uf; rw [Int.zero_add]
  have hw : wrap64 (-(uf 0 gs)) = -(uf 0 gs) := by rw [hcap]; apply wp <;> split <;> omega
  simp only [List.nil_append, List.length_nil] at look
  have j1t : Ev (fun k => bF.j1 k b gs true) ([], false) := by
   refine Ev.step (fun k => ?_) (Ev.now _)
   simp only [bF.j1]
   rw [if_pos trivial]
  by_cases hne : gs = []
  ·refine ⟨_, .inl ⟨rfl, .inl hne⟩, ?_⟩
   refine look _ ?_
   refine Ev.AP (by simp [hne]) j1t
  ·have hpos : 0 < gs.length := List.length_pos_iff.2 hne
   by_cases hb : b < -total gs
   ·refine ⟨_, .inl ⟨rfl, .inr (.inr ⟨hg, hb⟩)⟩, look _ (Ev.AO (by omega) (Ev.AP ?_ j1t))⟩
    rw [hw, hcap]
    split <;> omega
   ·have hdec : decide (b > 2147483647) = false := by simp; omega
    have go : ∀ r, Ev (fun k => bF.j1 k b gs false) r → Ev (fun k => bF.f k b gs) r := fun r h => by
     refine look _ (Ev.AO (by omega) (Ev.AO ?_ ?_))
     ·rw [hw, hcap]; split <;> omega
     ·rw [hdec]; exact h
    by_cases hb0 : 0 ≤ b
    ·refine ⟨_, .inr (.inl ⟨rfl, hne, hg, hb0⟩), go _ (Ev.step (fun k => ?_) (Ev.now _))⟩
     simp only [bF.j1]
     rw [if_neg (by simp), if_pos (by omega)]
     unfold oP.f
     rw [if_pos ⟨hb0, by omega, by omega, by omega⟩]
     simp
    ·obtain ⟨qs, q1, q2, q3, q4, q5, q6⟩ := TA (-b).toNat (-b) (gs.map fun g => (g, 0)) rfl (by omega) (by omega) (QM hg) (QL gs) (by simpa using hl) (by rw [NL]; omega)
     have e1 : (gs.map fun g => (g, (0 : Int))).map Prod.fst = gs := by simp [List.map_map, Function.comp_def]
     have e2 : (gs.map fun g => (g, (0 : Int))).map Prod.snd = List.replicate gs.length 0 := by simp [List.map_map, Function.comp_def, List.map_const']
     rw [e1] at q1 q3
     rw [e2] at q1
     rw [QN] at q6
     rw [Int.neg_neg] at q2
     refine ⟨_, .inr (.inr ⟨qs, rfl, hg, by omega, q3, q4, q5, by omega, q2⟩), go _ (Ev.step (f := fun k => (bf.f k (-b) gs).bind fun t => some (t, true)) (fun k => ?_) (Ev.bind (a := qs.map Prod.snd) ?_ (Ev.now _)))⟩
     ·simp only [bF.j1]
      rw [if_neg (by simp), if_neg (by omega), wp (by omega) (by omega)]
     ·refine Ev.congr (fun k => ?_) q1
      unfold bf.f
      rw [if_pos (by omega), if_pos (by omega)]
      simp
 ·refine ⟨_, .inl ⟨rfl, .inr (.inl hg)⟩, ?_⟩
  have := QA b gs [] 0 (by omega) (by omega) (by simpa using hl) hg
  simp only [List.nil_append, List.length_nil] at this
  exact this
section
variable {Pr : Program} {ops : Array Oper} {rest : List Oper} {op : Oper} {a : Act} {Q : Exit → Act → World → Prop} {w W : World} {P : Nat → Prop} {bs : List (Option Nat × Obj)} {ow : List (Value × List ai)} {ts : List (Value × List ai)} {ro : List (Addr × Value)}
theorem gm (N : Tmp) (_ : op.dst = some N) (h : wpList Pr ops Q (op :: rest) a W) : wpList Pr ops Q (op :: rest) a W := h
theorem ajA (t : TypeId) (p x : Operand) (_ : op.op = .store t p x) (h : wpList Pr ops Q (op :: rest) a W) : wpList Pr ops Q (op :: rest) a W := h
theorem boxS (N : Tmp) (cs : Array Value) (t : TypeId) (S : ae (St w P bs ow ts ro W))
  (h : ∀ g w1, ae (St w P ((some g, .cells cs t (0, 0)) :: bs) ow ts ro w1) → wpList Pr ops Q rest (a.put op.dst (.pointer (some ⟨g, 0, none⟩))) w1) (hd : op.dst = some N := by rfl) (hgd : op.guard = none := by rfl)
  (hr : (execOp a.eval op).run Pr W = .ok (.value (.pointer (some ⟨W.heap.size, 0, none⟩))) (W.alloc (.cells cs t (0, 0))) := by first | (go_simp; done) | (go_simp; rfl)) : wpList Pr ops Q (op :: rest) a W :=
 abn hd hgd cs t S.out hr (fun g w1 S1 => h g w1 ⟨S1⟩)
theorem Qu (i : Nat) {g : Nat} {cs : Array Value} {t0 : TypeId} (hi : bs[i]? = some (some g, .cells cs t0 (0, 0))) (t : TypeId) (p x : Tmp) (cs' : Array Value) (j n : Nat) (S : ae (St w P bs ow ts ro W)) (h : ∀ w1, ae (St w P (bs.set i (some g, .cells cs' t0 (0, 0))) ow ts ro w1) → wpList Pr ops Q rest a w1)
  (ho : op.op = .store t (.tmp p) (.tmp x)) (jW : a.eval (.tmp p) = .pointer (some ⟨g, j, none⟩)) (hu : (a.eval (.tmp x)).cells.toList = (cs'.toList.drop j).take n) (ht : (Pr.info? t).map (·.size) = some n)
  (hn : ((cs'.toList.drop j).take n).length = n) (h1 : ((cs'.toList.drop j).take n).all Value.oneCell' = true) (hj : j + n ≤ cs.size) (he : cs.toList.take j ++ (cs'.toList.drop j).take n ++ cs.toList.drop (j + n) = cs'.toList) (hN : op.dst = none) (hgd : op.guard = none) : wpList Pr ops Q (op :: rest) a W :=
 adm i hi t (.tmp p) (.tmp x) ho cs' S.out jW rfl hu (by rw [hn]; exact ht) (fun q hq => List.all_eq_true.1 h1 q hq) (by rw [hn]; exact hj) (by rw [hn]; exact he) hN hgd (fun w1 S1 => h w1 ⟨S1⟩)
variable {g : Nat} {cs : Array Value} {t0 : TypeId} {b0 b1 b2 b3 b4 : Option Nat × Obj}
theorem iT (t : TypeId) (p x : Tmp) (cs' : Array Value) (j n : Nat) (S : ae (St w P ((some g, .cells cs t0 (0, 0)) :: bs) ow ts ro W)) (h : ∀ w1, ae (St w P ((some g, .cells cs' t0 (0, 0)) :: bs) ow ts ro w1) → wpList Pr ops Q rest a w1)
  (ho : op.op = .store t (.tmp p) (.tmp x) := by rfl) (jW : a.eval (.tmp p) = .pointer (some ⟨g, j, none⟩) := by rfl) (hu : (a.eval (.tmp x)).cells.toList = (cs'.toList.drop j).take n := by rfl) (ht : (Pr.info? t).map (·.size) = some n := by kernel_rfl)
  (hn : ((cs'.toList.drop j).take n).length = n := by rfl) (h1 : ((cs'.toList.drop j).take n).all Value.oneCell' = true := by rfl) (hj : j + n ≤ cs.size := by first | decide | simp) (he : cs.toList.take j ++ (cs'.toList.drop j).take n ++ cs.toList.drop (j + n) = cs'.toList := by rfl) (hN : op.dst = none := by rfl) (hgd : op.guard = none := by rfl) : wpList Pr ops Q (op :: rest) a W :=
 Qu 0 rfl t p x cs' j n S h ho jW hu ht hn h1 hj he hN hgd
theorem zQ (t : TypeId) (p x : Tmp) (cs' : Array Value) (j n : Nat) (S : ae (St w P (b0 :: (some g, .cells cs t0 (0, 0)) :: bs) ow ts ro W)) (h : ∀ w1, ae (St w P (b0 :: (some g, .cells cs' t0 (0, 0)) :: bs) ow ts ro w1) → wpList Pr ops Q rest a w1)
  (ho : op.op = .store t (.tmp p) (.tmp x) := by rfl) (jW : a.eval (.tmp p) = .pointer (some ⟨g, j, none⟩) := by rfl) (hu : (a.eval (.tmp x)).cells.toList = (cs'.toList.drop j).take n := by rfl) (ht : (Pr.info? t).map (·.size) = some n := by kernel_rfl)
  (hn : ((cs'.toList.drop j).take n).length = n := by rfl) (h1 : ((cs'.toList.drop j).take n).all Value.oneCell' = true := by rfl) (hj : j + n ≤ cs.size := by first | decide | simp) (he : cs.toList.take j ++ (cs'.toList.drop j).take n ++ cs.toList.drop (j + n) = cs'.toList := by rfl) (hN : op.dst = none := by rfl) (hgd : op.guard = none := by rfl) : wpList Pr ops Q (op :: rest) a W :=
 Qu 1 rfl t p x cs' j n S h ho jW hu ht hn h1 hj he hN hgd
theorem Qs (t : TypeId) (p x : Tmp) (cs' : Array Value) (j n : Nat) (S : ae (St w P (b0 :: b1 :: (some g, .cells cs t0 (0, 0)) :: bs) ow ts ro W)) (h : ∀ w1, ae (St w P (b0 :: b1 :: (some g, .cells cs' t0 (0, 0)) :: bs) ow ts ro w1) → wpList Pr ops Q rest a w1)
  (ho : op.op = .store t (.tmp p) (.tmp x) := by rfl) (jW : a.eval (.tmp p) = .pointer (some ⟨g, j, none⟩) := by rfl) (hu : (a.eval (.tmp x)).cells.toList = (cs'.toList.drop j).take n := by rfl) (ht : (Pr.info? t).map (·.size) = some n := by kernel_rfl)
  (hn : ((cs'.toList.drop j).take n).length = n := by rfl) (h1 : ((cs'.toList.drop j).take n).all Value.oneCell' = true := by rfl) (hj : j + n ≤ cs.size := by first | decide | simp) (he : cs.toList.take j ++ (cs'.toList.drop j).take n ++ cs.toList.drop (j + n) = cs'.toList := by rfl) (hN : op.dst = none := by rfl) (hgd : op.guard = none := by rfl) : wpList Pr ops Q (op :: rest) a W :=
 Qu 2 rfl t p x cs' j n S h ho jW hu ht hn h1 hj he hN hgd
theorem VW (t : TypeId) (p x : Tmp) (cs' : Array Value) (j n : Nat) (S : ae (St w P (b0 :: b1 :: b2 :: (some g, .cells cs t0 (0, 0)) :: bs) ow ts ro W)) (h : ∀ w1, ae (St w P (b0 :: b1 :: b2 :: (some g, .cells cs' t0 (0, 0)) :: bs) ow ts ro w1) → wpList Pr ops Q rest a w1)
  (ho : op.op = .store t (.tmp p) (.tmp x) := by rfl) (jW : a.eval (.tmp p) = .pointer (some ⟨g, j, none⟩) := by rfl) (hu : (a.eval (.tmp x)).cells.toList = (cs'.toList.drop j).take n := by rfl) (ht : (Pr.info? t).map (·.size) = some n := by kernel_rfl)
  (hn : ((cs'.toList.drop j).take n).length = n := by rfl) (h1 : ((cs'.toList.drop j).take n).all Value.oneCell' = true := by rfl) (hj : j + n ≤ cs.size := by first | decide | simp) (he : cs.toList.take j ++ (cs'.toList.drop j).take n ++ cs.toList.drop (j + n) = cs'.toList := by rfl) (hN : op.dst = none := by rfl) (hgd : op.guard = none := by rfl) : wpList Pr ops Q (op :: rest) a W :=
 Qu 3 rfl t p x cs' j n S h ho jW hu ht hn h1 hj he hN hgd
theorem jb (N : Option Tmp) {f : FuncId} {fn : Func} (hf : Pr.funcs[f]? = some fn) {ar : Array Operand} {GI : Array TypeId} {args : Array Value} {post : Ending → World → Prop} (hc : Calls Pr f args W post)
  (h : ∀ e w1, post e w1 → ∃ v, e = .returned v ∧ wpList Pr ops Q rest (a.put N v) w1) (hd : op.dst = N := by rfl) (hg : op.guard = none := by rfl) (hop : op.op = .call { callee := .value (.func f), args := ar, argTypes := GI } := by rfl)
  (hname : (fn.name == "runtime.NumGoroutine") = false := by kernel_rfl) (hb : fn.body.isSome = true := by rfl) (hargs : ar.map a.eval = args := by ((try simp only [List.map_toArray, List.map_cons, List.map_nil]); first | done | rfl)) : wpList Pr ops Q (op :: rest) a W :=
 nC N hd hg hf hname hb args hop hargs (hc.mono h)
theorem bP (N : Option Tmp) {f : FuncId} {fn : Func} (hf : Pr.funcs[f]? = some fn) {ar : Array Operand} {GI : Array TypeId} {args : Array Value} {v : Value} (S : ae (St w P bs ow ts ro W)) (hc : Calls Pr f args W fun e w' => e = .returned v ∧ Below W.heap.size W w')
  (h : ∀ w1, ae (St w P bs ow ts ro w1) → wpList Pr ops Q rest (a.put N v) w1) (hd : op.dst = N := by rfl) (hg : op.guard = none := by rfl) (hop : op.op = .call { callee := .value (.func f), args := ar, argTypes := GI } := by rfl)
  (hname : (fn.name == "runtime.NumGoroutine") = false := by kernel_rfl) (hb : fn.body.isSome = true := by rfl) (hargs : ar.map a.eval = args := by ((try simp only [List.map_toArray, List.map_cons, List.map_nil]); first | done | rfl)) : wpList Pr ops Q (op :: rest) a W :=
 nC N hd hg hf hname hb args hop hargs (hc.mono fun e w1 ⟨he, hb⟩ => ⟨v, he, h w1 ⟨S.out.call hb⟩⟩)
theorem JJ (N : Option Tmp) {f : FuncId} {fn : Func} (hf : Pr.funcs[f]? = some fn) {ar : Array Operand} {GI : Array TypeId} {args : Array Value} {l : List ai} {F : Option Addr → Nat → Value} (S : ae (St w P bs ow ts ro W))
  (hc : Calls Pr f args W fun e w' => ∃ A c, e = .returned (F A c) ∧ Kd.N k26 26 w' W.heap.size (fun k => Ok w P (keys bs ow) k ∨ W.heap.size ≤ k) (.slice A l.length c) l ∧ Below W.heap.size W w')
  (h : ∀ A c w1, ae (St w P bs ow ((.slice A l.length c, l) :: ts) ro w1) → wpList Pr ops Q rest (a.put N (F A c)) w1) (hd : op.dst = N := by rfl) (hg : op.guard = none := by rfl) (hop : op.op = .call { callee := .value (.func f), args := ar, argTypes := GI } := by rfl)
  (hname : (fn.name == "runtime.NumGoroutine") = false := by kernel_rfl) (hb : fn.body.isSome = true := by rfl) (hargs : ar.map a.eval = args := by ((try simp only [List.map_toArray, List.map_cons, List.map_nil]); first | done | rfl)) : wpList Pr ops Q (op :: rest) a W :=
 nC N hd hg hf hname hb args hop hargs (hc.mono fun e w1 ⟨A, c, he, h1, hb⟩ => ⟨_, he, h A c w1 ⟨S.out.res (Kd.qJ (base' := 0) h1) hb⟩⟩)
theorem PW (N : Option Tmp) {f : FuncId} {fn : Func} (hf : Pr.funcs[f]? = some fn) {ar : Array Operand} {GI : Array TypeId} {args : Array Value} {l : List ai} {F : Option Addr → Nat → Value} (S : ae (St w P bs [] ts ro W))
  (hc : Calls Pr f args W fun e w' => ∃ A c, e = .returned (F A c) ∧ Kd.N k26 26 w' W.heap.size (fun k => Ok w P (keys bs []) k ∨ W.heap.size ≤ k) (.slice A l.length c) l ∧ Below W.heap.size W w')
  (h : ∀ A c w1, ae (St w P bs [(.slice A l.length c, l)] ts ro w1) → wpList Pr ops Q rest (a.put N (F A c)) w1) (hd : op.dst = N := by rfl) (hg : op.guard = none := by rfl) (hop : op.op = .call { callee := .value (.func f), args := ar, argTypes := GI } := by rfl)
  (hname : (fn.name == "runtime.NumGoroutine") = false := by kernel_rfl) (hb : fn.body.isSome = true := by rfl) (hargs : ar.map a.eval = args := by ((try simp only [List.map_toArray, List.map_cons, List.map_nil]); first | done | rfl)) : wpList Pr ops Q (op :: rest) a W :=
 nC N hd hg hf hname hb args hop hargs (hc.mono fun e w1 ⟨A, c, he, h1, hb⟩ => ⟨_, he, h A c w1 ⟨S.out.x_ h1 hb⟩⟩)
end
section
variable {w W : World} {P : Nat → Prop} {bs : List (Option Nat × Obj)} {ow : List (Value × List ai)} {ts : List (Value × List ai)} {ro : List (Addr × Value)} {g : Nat} {t : TypeId} {v0 v1 v2 v3 v4 v5 v6 : Value} {a0 a1 a2 a3 a4 a5 a6 : Addr}
theorem St.eQ (S : ae (St w P bs ow ts ro W)) (hm : (some g, .cells #[v0, v1, v2, v3, v4, v5, v6] t (0, 0)) ∈ bs) :
  W.cell? ⟨g, 0, none⟩ = some v0 ∧ W.cell? ⟨g, 1, none⟩ = some v1 ∧ W.cell? ⟨g, 2, none⟩ = some v2 ∧ W.cell? ⟨g, 3, none⟩ = some v3 ∧ W.cell? ⟨g, 4, none⟩ = some v4 ∧ W.cell? ⟨g, 5, none⟩ = some v5 ∧ W.cell? ⟨g, 6, none⟩ = some v6 :=
 ⟨S.out.at hm 0, S.out.at hm 1, S.out.at hm 2, S.out.at hm 3, S.out.at hm 4, S.out.at hm 5, S.out.at hm 6⟩
theorem St.at4 (S : ae (St w P bs ow ts ro W)) (hm : (some g, .cells #[v0, v1, v2, v3] t (0, 0)) ∈ bs) :
  W.cell? ⟨g, 0, none⟩ = some v0 ∧ W.cell? ⟨g, 1, none⟩ = some v1 ∧ W.cell? ⟨g, 2, none⟩ = some v2 ∧ W.cell? ⟨g, 3, none⟩ = some v3 :=
 ⟨S.out.at hm 0, S.out.at hm 1, S.out.at hm 2, S.out.at hm 3⟩
theorem St.I4 (S : ae (St w P bs ow ts ((a0, v0) :: (a1, v1) :: (a2, v2) :: (a3, v3) :: (a4, v4) :: (a5, v5) :: (a6, v6) :: ro) W)) :
  W.cell? a0 = some v0 ∧ W.cell? a1 = some v1 ∧ W.cell? a2 = some v2 ∧ W.cell? a3 = some v3 ∧ W.cell? a4 = some v4 ∧ W.cell? a5 = some v5 ∧ W.cell? a6 = some v6 :=
 ⟨(S.out.cell _ (.head _)).1, (S.out.cell _ bG).1, (S.out.cell _ dN).1, (S.out.cell _ kR).1, (S.out.cell _ qg).1, (S.out.cell _ zD).1, (S.out.cell _ zF).1⟩
end
section
variable {Pr : Program} {md : Region.Mode} {ops : Array Oper} {Q : Exit → Act → World → Prop} {S : World → Prop} {ds : List Nat}
theorem eF (N : Tmp) {fuel : Nat} {l : Array Bool} {b a' : Act} {v : Value} {w : World} (h : bM Pr md ops Q S ds fuel l a' w) (ha : Act.put b (some N) v = a' := by simp only [Act.put, List.setIfInBounds_toArray, List.set_cons_zero, List.set_cons_succ, jD, jC]; rfl) : bM Pr md ops Q S ds fuel l (Act.put b (some N) v) w := lW ha h
end
theorem BA {Pr : Program} {ops : Array Oper} {Q : Exit → Act → World → Prop} {oi : Oper} {N : Option Tmp} {a : Act} {w : World} {K : Act → World → Prop} {f : FuncId} {fn : Func} {ar : Array Operand} {ts : Array TypeId} (hf : Pr.funcs[f]? = some fn) (args : Array Value) (h : Calls Pr f args w fun e w' => ∃ v, e = .returned v ∧ K (a.put N v) w')
  (hname : (fn.name == "runtime.NumGoroutine") = false := by kernel_rfl) (hb : fn.body.isSome = true := by rfl) (hw : Region.wanted oi (yielded ops a.tmps) = true := by rfl) (hN : oi.dst = N := by rfl) (hop : oi.op = .call { callee := .value (.func f), args := ar, argTypes := ts } := by rfl) (hargs : ar.map a.eval = args := by ((try simp only [List.map_toArray, List.map_cons, List.map_nil]); first | done | rfl)) : if Region.wanted oi (yielded ops a.tmps) = true then Oper.wp Pr oi a w K Q else K (a.put N undef) w :=
 jB hf hname hb args hw hN hop hargs h
theorem jR {Pr : Program} {ops : Array Oper} {md : Region.Mode} {Q : Exit → Act → World → Prop} {S : World → Prop} {ds : List Nat} {T : Bool × List (List Nat × List Nat)} {fuel : Nat} {l : Array Bool} {a : Act} {w : World} {oi : Oper} (i : Nat) (N : Option Tmp) (l' : Array Bool) (HT : ae (g_ md ops = T)) (h : ∀ K : Act → World → Prop, Shut (∀ a' w', S w' → (S w' → bM Pr md ops Q S ds fuel l' a' w') → K a' w') → if Region.wanted oi (yielded ops a.tmps) = true then Oper.wp Pr oi a w K Q else K (a.put N undef) w)
  (hi : ops[i]? = some oi := by rfl) (hN : oi.dst = N := by rfl) (hc : (xy T.2 l.toList == [i] && l.toList.set i true == l'.toList) = true := by kernel_rfl) (hd : i ∉ ds := by decide) : bM Pr md ops Q S ds (fuel + 1) l a w :=
 MV l' hi hN (xw HT.out hc) hd h
theorem oH {Pr : Program} {ops : Array Oper} {md : Region.Mode} {Q : Exit → Act → World → Prop} {S : World → Prop} {ds : List Nat} {T : Bool × List (List Nat × List Nat)} {fuel : Nat} {l : Array Bool} {a : Act} {w : World} {oi : Oper} (i : Nat) (N : Option Tmp) (l' : Array Bool) (HT : ae (g_ md ops = T)) (h : ∀ K : Act → World → Prop, Shut (∀ a' w', bM Pr md ops Q S ds fuel l' a' w' → K a' w') → if Region.wanted oi (yielded ops a.tmps) = true then Oper.wp Pr oi a w K Q else K (a.put N undef) w)
  (hi : ops[i]? = some oi := by rfl) (hN : oi.dst = N := by rfl) (hc : (xy T.2 l.toList == [i] && l.toList.set i true == l'.toList) = true := by kernel_rfl) (hd : i ∈ ds := by decide) : bM Pr md ops Q S ds (fuel + 1) l a w :=
 Qi l' hi hN (xw HT.out hc) hd h
section
variable {α : Type} {d : Kd α} {e : TypeId} {w : World} {P : Nat → Prop} {bs bs' : List (Option Nat × Obj)} {ow : List (Value × List ai)} {ts : List (Value × List ai)} {ro : List (Addr × Value)} {W W1 : World} {b0 : Nat} {o o1 : Obj} {v v1 : Value} {xs : List α} {ok : Nat → Prop}
def KR (d : Kd α) (e : TypeId) (base : Nat) (v : Value) (xs : List α) (o : Obj) : Prop := ∀ W : World, (∀ g, v.ownBlock = some g → W.heap[g]? = some o) → d.R e W base (fun k => some k = v.ownBlock) v xs
theorem JE {b' : Nat} (hE : d.E = []) (h : d.R e W1 b0 ok v xs) (hb : b' ≤ b0) : ∃ o, (∀ g, v.ownBlock = some g → W1.heap[g]? = some o) ∧ KR d e b' v xs o := by
 have ht := Kd.pF (Kd.DW hE h) hb
 cases hv : v.ownBlock with
 | none => exact ⟨.cells #[] 0 (0, 0), fun g hg => (by cases hg), fun W hW => Kd.yH ht (fun k hk => (by rw [hv] at hk; cases hk))⟩
 | some g =>
  obtain ⟨cells, hc⟩ := Kd.GV h g hv
  refine ⟨_, fun g' hg => (by injection hg with hg; rw [← hg]; exact hc), fun W hW => Kd.yH ht (fun k hk _ => ?_)⟩
  rw [hv] at hk
  injection hk with hk
  rw [hk, hc]
  exact hW g hv
theorem St.Fz (hE : d.E = []) (S : St w P bs ow ts ro W) (h : d.R e W1 W.heap.size ok v xs) (hb : Below W.heap.size W W1) : ∃ o, St w P ((v.ownBlock, o) :: bs) ow ts ro W1 ∧ KR d e w.heap.size v xs o := by
 obtain ⟨o, h1, h2⟩ := JE hE h S.below.size
 exact ⟨o, S.UL v.ownBlock (fun g hg => ⟨Kd.Kw h g hg, h1 g hg⟩) hb, h2⟩
theorem J_ (d : Kd α) (e : TypeId) (base : Nat) : KR d e base (.slice none 0 0) [] (.cells #[] 0 (0, 0)) := fun _ _ => Kd.uz _ _ _ _ _
theorem St.noK (S : St w P bs ow ts ro W) : St w P (((Value.slice none 0 0).ownBlock, .cells #[] 0 (0, 0)) :: bs) ow ts ro W := S.UL none (fun _ h => by cases h) (Below.refl _ _)
theorem J9 {base : Nat} (HI : KR d e base v xs o) (S : St w P bs ow ts ro W) (hm : (v.ownBlock, o) ∈ bs) : d.R e W base (fun k => some k = v.ownBlock) v xs := HI W (S.blk _ hm)
theorem Uy {base : Nat} {A : Option Addr} {c : Nat} (HI : KR d e base (.slice A xs.length c) xs o) (S : St w P bs ow ts ro W) (hm : ((Value.slice A xs.length c).ownBlock, o) ∈ bs) : d.C W A xs.length xs ∧ xs.length ≤ c :=
 have h := Kd.dP (J9 HI S hm)
 ⟨h.2.2, h.2.1⟩
theorem St.perm (hp : bs.Perm bs') (S : St w P bs ow ts ro W) : St w P bs' ow ts ro W := by
 have hk : (keys bs ow).Perm (keys bs' ow) := (hp.filterMap _).append_right _
 have hm : ∀ k, k ∈ keys bs' ow ↔ k ∈ keys bs ow := fun k => hk.symm.mem_iff
 have hO : ∀ k, Ok w P (keys bs ow) k → Ok w P (keys bs' ow) k := fun k h => ⟨h.1, fun h2 => h.2 ((hm k).1 h2)⟩
 exact ⟨S.below, fun x hx => S.blk x (hp.symm.mem_iff.1 hx), fun k hk => S.new k ((hm k).1 hk), hk.nodup_iff.1 S.nd, fun t ht => Kd.gG (S.tree t ht) hO, fun r hr => Kd.iE (S.own r hr) (fun k h => h.imp (hO k) id), fun c hc => ⟨(S.cell c hc).1, fun h => (S.cell c hc).2 ((hm _).1 h)⟩⟩
variable {x b1 b2 b3 b4 b5 b6 : Option Nat × Obj}
theorem St.tC (S : St w P (b1 :: x :: bs) ow ts ro W) : St w P (x :: b1 :: bs) ow ts ro W := S.perm (List.perm_middle (l₁ := [b1]))
theorem St.uS (S : St w P (b1 :: b2 :: x :: bs) ow ts ro W) : St w P (x :: b1 :: b2 :: bs) ow ts ro W := S.perm (List.perm_middle (l₁ := [b1, b2]))
theorem St.rq (S : St w P (b1 :: b2 :: b3 :: x :: bs) ow ts ro W) : St w P (x :: b1 :: b2 :: b3 :: bs) ow ts ro W := S.perm (List.perm_middle (l₁ := [b1, b2, b3]))
end
section
variable {α : Type} {d : Kd α} {e : TypeId} {Pr : Program} {ops : Array Oper} {rest : List Oper} {op : Oper} {a : Act} {Q : Exit → Act → World → Prop} {Kc : Act → World → Prop} {w W : World} {P : Nat → Prop} {bs : List (Option Nat × Obj)} {ow : List (Value × List ai)} {ts : List (Value × List ai)} {ro : List (Addr × Value)} {v : Value} {xs : List α} {o : Obj}
theorem lL (d : Kd α) (e : TypeId) (hE : d.E = []) (N : Tmp) (S : ae (St w P bs ow ts ro W)) (h : ∀ A c o w1, ae (St w P (((Value.slice A 0 c).ownBlock, o) :: bs) ow ts ro w1) → ae (KR d e w.heap.size (.slice A 0 c) [] o) → wpList Pr ops Q rest (a.put op.dst (.slice A 0 c)) w1)
  (hd : op.dst = some N := by rfl) (hgd : op.guard = none := by rfl) (hrun : (execOp a.eval op).run Pr W = .ok (.value (.slice (some ⟨W.heap.size, 0, none⟩) 0 0)) (W.alloc (.cells #[] e)) := by first | (go_simp; done) | (go_simp; rfl)) : wpList Pr ops Q (op :: rest) a W :=
 Kd.vC d (w0 := W) W.heap.size e hgd hd (xs := ([] : List α)) (inner := []) (ok := fun _ => True) (fE := fun _ => True) hrun (bV.none _ _) (fun _ hk => hk) trivial (Below.refl _ _) (Nat.le_refl _) (by simp) (fun v1 w1 hR hb hg _ => by
  obtain ⟨A, c, rfl⟩ := Kd.gQ hR
  obtain ⟨o, S1, HI⟩ := S.out.Fz hE hR (vU hg)
  exact h A c o w1 ⟨S1⟩ ⟨HI⟩)
theorem uQ (d : Kd α) (e : TypeId) (hE : d.E = []) (s x : Tmp) (t : TypeId) (z : Value) (bytes : Nat) (ht : Pr.underlying t = some (.slice e)) (hinfo : (Pr.info? e).map (fun i => (i.zero, i.size, i.bytes)) = some (some z, d.sz, bytes)) (hz : z.cells.size = d.sz) (hs0 : 0 < d.sz) (hb0 : 0 < bytes) (hbb : bytes ≤ 1000)
  (S : ae (St w P ((v.ownBlock, o) :: bs) ow ts ro W)) (hI : ae (KR d e w.heap.size v xs o)) (y : α) (cs : List Value) (hM : ∀ W b ok, d.M W b ok y cs) (hl : xs.length ≤ 10000000)
  (h : ∀ A1 c1 o1 w1, ae (St w P (((Value.slice A1 (xs ++ [y]).length c1).ownBlock, o1) :: bs) ow ts ro w1) → ae (KR d e w.heap.size (.slice A1 (xs ++ [y]).length c1) (xs ++ [y]) o1) → wpList Pr ops Q rest (a.put op.dst (.slice A1 (xs ++ [y]).length c1)) w1)
  (hgd : op.guard = none := by rfl) (ho : op.op = .call { callee := .builtin .append, args := #[.tmp s, .tmp x], argTypes := #[t, t] } := by rfl) (hs : a.eval (.tmp s) = v := by rfl) (hx : a.eval (.tmp x) = .slice (some ⟨W.heap.size, 0, none⟩) 1 1 := by first | rfl | (go_simp; rfl)) :
  wpList Pr ops Q (op :: rest) a (W.alloc (.cells cs.toArray e)) := by
 have hR := hI.out W (S.out.blk _ List.mem_cons_self)
 refine Kd.EO d (w0 := w) w.heap.size hgd (.tmp s) (.tmp x) t e z bytes ho ht hinfo hz hs0 hb0 v xs y cs (fun _ => True) (fun _ => False) hs hx (hM _ _ _) (fun _ hk => hk.elim) (fun _ _ => trivial) (Kd.vF hR (fun _ _ => trivial)) S.out.below S.out.below.size
  (Nat.le_trans (Nat.mul_le_mul (show xs.length + 1 ≤ 10000001 by omega) hbb) (by decide)) ?_
 intro v1 w1 hr hb hg hat
 obtain ⟨A1, c1, rfl⟩ := Kd.gQ hr
 obtain ⟨o1, h1, h2⟩ := JE hE hr (Nat.le_refl _)
 exact h A1 c1 o1 w1 ⟨S.out.Ea hb hg hat h1⟩ ⟨h2⟩
theorem KN (d : Kd α) (e : TypeId) (hE : d.E = []) (s x : Tmp) (t : TypeId) (z : Value) (bytes : Nat) (ht : Pr.underlying t = some (.slice e)) (hinfo : (Pr.info? e).map (fun i => (i.zero, i.size, i.bytes)) = some (some z, d.sz, bytes)) (hz : z.cells.size = d.sz) (hs0 : 0 < d.sz) (hb0 : 0 < bytes) (hbb : bytes ≤ 1000)
  (S : ae (St w P ((v.ownBlock, o) :: bs) ow ts ro W)) (hI : ae (KR d e w.heap.size v xs o)) (y : α) (cs : List Value) (hM : ∀ W b ok, d.M W b ok y cs) (hl : xs.length ≤ 10000000)
  (h : ∀ A1 c1 o1 w1, ae (St w P (((Value.slice A1 (xs ++ [y]).length c1).ownBlock, o1) :: bs) ow ts ro w1) → ae (KR d e w.heap.size (.slice A1 (xs ++ [y]).length c1) (xs ++ [y]) o1) → Kc (a.put op.dst (.slice A1 (xs ++ [y]).length c1)) w1)
  (hw : Region.wanted op (yielded ops a.tmps) = true := by rfl) (ho : op.op = .call { callee := .builtin .append, args := #[.tmp s, .tmp x], argTypes := #[t, t] } := by rfl) (hs : a.eval (.tmp s) = v := by rfl) (hx : a.eval (.tmp x) = .slice (some ⟨W.heap.size, 0, none⟩) 1 1 := by first | rfl | (go_simp; rfl)) :
  if Region.wanted op (yielded ops a.tmps) = true then Oper.wp Pr op a (W.alloc (.cells cs.toArray e)) Kc Q else Kc (a.put op.dst undef) (W.alloc (.cells cs.toArray e)) := by
 have hR := hI.out W (S.out.blk _ List.mem_cons_self)
 refine Kd.Jt d (w0 := w) w.heap.size hw (.tmp s) (.tmp x) t e z bytes ho ht hinfo hz hs0 hb0 v xs y cs (fun _ => True) (fun _ => False) hs hx (hM _ _ _) (fun _ hk => hk.elim) (fun _ _ => trivial) (Kd.vF hR (fun _ _ => trivial)) S.out.below S.out.below.size
  (Nat.le_trans (Nat.mul_le_mul (show xs.length + 1 ≤ 10000001 by omega) hbb) (by decide)) ?_
 intro v1 w1 hr hb hg hat
 obtain ⟨A1, c1, rfl⟩ := Kd.gQ hr
 obtain ⟨o1, h1, h2⟩ := JE hE hr (Nat.le_refl _)
 exact h A1 c1 o1 w1 ⟨S.out.Ea hb hg hat h1⟩ ⟨h2⟩
theorem KO (d : Kd α) (e : TypeId) (hE : d.E = []) (s x : Tmp) (t : TypeId) (z : Value) (bytes : Nat) (ht : Pr.underlying t = some (.slice e)) (hinfo : (Pr.info? e).map (fun i => (i.zero, i.size, i.bytes)) = some (some z, d.sz, bytes)) (hz : z.cells.size = d.sz) (hs0 : 0 < d.sz) (hb0 : 0 < bytes) (hbb : bytes ≤ 1000)
  (S : ae (St w P ((v.ownBlock, o) :: bs) ow ts ro W)) (hI : ae (KR d e w.heap.size v xs o)) {A : Option Addr} {c : Nat} (ys : List α) (hC : d.C W A ys.length ys) (hK : ∀ W b ok y cs, d.K W y cs → d.M W b ok y cs) (hl : xs.length + ys.length ≤ 1000000000)
  (h : ∀ A1 c1 o1 w1, ae (St w P (((Value.slice A1 (xs ++ ys).length c1).ownBlock, o1) :: bs) ow ts ro w1) → ae (KR d e w.heap.size (.slice A1 (xs ++ ys).length c1) (xs ++ ys) o1) → wpList Pr ops Q rest (a.put op.dst (.slice A1 (xs ++ ys).length c1)) w1)
  (hgd : op.guard = none := by rfl) (ho : op.op = .call { callee := .builtin .append, args := #[.tmp s, .tmp x], argTypes := #[t, t] } := by rfl) (hs : a.eval (.tmp s) = v := by rfl) (hx : a.eval (.tmp x) = .slice A ys.length c := by rfl) :
  wpList Pr ops Q (op :: rest) a W := by
 have hR := hI.out W (S.out.blk _ List.mem_cons_self)
 refine Kd.xO d (Rr := d.K W) (w0 := w) w.heap.size hgd (.tmp s) (.tmp x) t e z bytes ho ht hinfo hz hs0 hb0 v xs ys A ys.length c (fun _ => True) (fun _ => False) hs hx (Kd.vF hR (fun _ _ => trivial)) hC (fun y cs h => hK _ _ _ y cs h) (fun _ hk => hk.elim) (fun _ _ => trivial) S.out.below S.out.below.size
  (Nat.le_trans (Nat.mul_le_mul hl hbb) (by decide)) ?_
 intro v1 w1 hr hb hg hat
 obtain ⟨A1, c1, rfl⟩ := Kd.gQ hr
 obtain ⟨o1, h1, h2⟩ := JE hE hr (Nat.le_refl _)
 exact h A1 c1 o1 w1 ⟨S.out.Ea hb hg hat h1⟩ ⟨h2⟩
end
section
variable {w W W1 : World} {P : Nat → Prop} {bs : List (Option Nat × Obj)} {ow : List (Value × List ai)} {ts : List (Value × List ai)} {ro : List (Addr × Value)}
theorem St.aej (new : List (Option Nat × Obj)) (S : St w P bs ow ts ro W) (hk : ∀ p, p ∈ new → ∀ g, p.1 = some g → W.heap.size ≤ g ∧ W1.heap[g]? = some p.2) (hnd : (new.filterMap (·.1)).Nodup) (hb : Below W.heap.size W W1) : St w P (new ++ bs) ow ts ro W1 := by
 have ke : keys (new ++ bs) ow = new.filterMap (·.1) ++ keys bs ow := by unfold keys; rw [List.filterMap_append, List.append_assoc]
 have hn : ∀ k, k ∈ new.filterMap (·.1) → W.heap.size ≤ k ∧ k < W1.heap.size := fun k h => by
  obtain ⟨p, hp, he⟩ := List.mem_filterMap.1 h
  exact ⟨(hk p hp k he).1, eY (hk p hp k he).2⟩
 have hnot : ∀ k, k < W.heap.size → k ∉ keys bs ow → k ∉ keys (new ++ bs) ow := fun k h1 h2 h3 => by
  rw [ke] at h3
  rcases List.mem_append.1 h3 with h | h
  ·have := (hn k h).1; omega
  ·exact h2 h
 refine ⟨ak S.below hb, fun p hp g hg => ?_, fun k h => ?_, ?_, fun t ht => ?_, fun r hr => ?_, fun c hc => ?_⟩
 ·rcases List.mem_append.1 hp with h | h
  ·exact (hk p h g hg).2
  ·exact aI (S.blk p h g hg) hb
 ·rw [ke] at h
  rcases List.mem_append.1 h with h | h
  ·exact ⟨Nat.le_trans S.below.size (hn k h).1, (hn k h).2⟩
  ·exact ⟨(S.new k h).1, Nat.lt_of_lt_of_le (S.new k h).2 hb.size⟩
 ·rw [ke]
  refine List.nodup_append.2 ⟨hnd, S.nd, fun x hx y hy => ?_⟩
  rintro rfl
  have := (hn x hx).1
  have := S.lt hy
  omega
 ·exact Kd.gG (Kd.iI (Kd.z_ (S.tree t ht)) hb) (fun k h => ⟨h.1.1, hnot k h.2 h.1.2⟩)
 ·exact Kd.iE (Kd.pg (Kd.zZ (S.own r hr)) hb) (fun k h => h.1.imp (fun h1 => ⟨h1.1, hnot k h.2 h1.2⟩) id)
 ·exact ⟨(hb.cell (World.block_lt_of_cell? W _ (S.cell c hc).1)).trans (S.cell c hc).1, hnot _ (World.block_lt_of_cell? W _ (S.cell c hc).1) (S.cell c hc).2⟩
structure Two {α β : Type} (d : Kd α) (e : TypeId) (d' : Kd β) (e' : TypeId) (w w' : World) (v : Value) (l : List α) (v' : Value) (l' : List β) (o o' : Obj) : Prop where
 one : KR d e w.heap.size v l o
 two : KR d' e' w.heap.size v' l' o'
 at1 : ∀ g, v.ownBlock = some g → w.heap.size ≤ g ∧ w'.heap[g]? = some o
 at2 : ∀ g, v'.ownBlock = some g → w.heap.size ≤ g ∧ w'.heap[g]? = some o'
 ne : ∀ g, v.ownBlock = some g → v'.ownBlock ≠ some g
theorem A8 {α : Type} {d : Kd α} {e : TypeId} {b b' : Nat} {v : Value} {l : List α} {o : Obj} (h : KR d e b v l o) (hb : b' ≤ b) : KR d e b' v l o := fun W hW => Kd.pF (h W hW) hb
theorem St.two {α β : Type} {d : Kd α} {e : TypeId} {d' : Kd β} {e' : TypeId} {v v' : Value} {l : List α} {l' : List β} {o o' : Obj} (S : St w P bs ow ts ro W) (h : Two d e d' e' W W1 v l v' l' o o') (hb : Below W.heap.size W W1) :
  St w P ((v.ownBlock, o) :: (v'.ownBlock, o') :: bs) ow ts ro W1 ∧ KR d e w.heap.size v l o ∧ KR d' e' w.heap.size v' l' o' := by
 refine ⟨S.aej [(v.ownBlock, o), (v'.ownBlock, o')] (fun p hp g hg => ?_) ?_ hb, A8 h.one S.below.size, A8 h.two S.below.size⟩
 ·simp only [List.mem_cons, List.not_mem_nil, or_false] at hp
  rcases hp with rfl | rfl
  ·exact h.at1 g hg
  ·exact h.at2 g hg
 ·cases h1 : v.ownBlock with
  | none => cases h2 : v'.ownBlock <;> simp
  | some g =>
   have hn := h.ne g h1
   cases h2 : v'.ownBlock with
   | none => simp
   | some g' =>
    rw [h2] at hn
    simp
    intro he
    exact hn (by rw [he])
theorem St.TL {α β : Type} {d : Kd α} {e : TypeId} {d' : Kd β} {e' : TypeId} {v v' : Value} {l : List α} {l' : List β} {o o' : Obj} (S : St w P ((v.ownBlock, o) :: (v'.ownBlock, o') :: bs) ow ts ro W) (h1 : KR d e w.heap.size v l o) (h2 : KR d' e' w.heap.size v' l' o') : Two d e d' e' w W v l v' l' o o' := by
 refine ⟨h1, h2, fun g hg => ⟨(S.new g (mem_keys (List.mem_cons_self) hg)).1, S.blk _ List.mem_cons_self g hg⟩, fun g hg => ⟨(S.new g (mem_keys (List.mem_cons_of_mem _ List.mem_cons_self) hg)).1, S.blk _ (List.mem_cons_of_mem _ List.mem_cons_self) g hg⟩, fun g hg hg2 => ?_⟩
 have hnd := S.nd
 unfold keys at hnd
 rw [List.filterMap_cons, List.filterMap_cons, hg, hg2] at hnd
 exact (List.nodup_cons.1 hnd).1 (by simp)
theorem St.Fh {α : Type} {d : Kd α} {e : TypeId} {v : Value} {l : List α} {o : Obj} (S : St w P bs ow ts ro W) (h : KR d e w.heap.size v l o) (hm : (v.ownBlock, o) ∈ bs) : d.R e W w.heap.size (fun _ => True) v l := Kd.vF (J9 h S hm) (fun _ _ => trivial)
end
def tX (ax X Y : Int) : Int := if ax = 2 then Y else X
def xU (ax X Y W H : Int) : Int → List Int → List dD
 | _, [] => []
 | off, n :: ns => (⟨tX ax (tX ax X Y + off) (tX ax Y X), tX ax (tX ax Y X) (tX ax X Y + off), tX ax n (tX ax H W), tX ax (tX ax H W) n⟩ : dD) :: xU ax X Y W H (off + n + 1) ns
theorem Lt (ax X Y W H : Int) : ∀ (ns : List Int) (off : Int), (xU ax X Y W H off ns).length = ns.length := by
 intro ns
 induction ns with
 | nil => intro off; rfl
 | cons n ns ih => intro off; simp [xU, ih]
def nG (ax s t e n : Int) : dD := ⟨tX ax s t, tX ax t s, tX ax n e, tX ax e n⟩
def nz (ax s t d e : Int) : Int → Bool → List dD → List dD → List Int → List dD × List dD × Bool
 | off, _, ps, ls, [] => if off = d then (ps, ls, true) else ([], [], false)
 | off, fst, ps, ls, n :: ns => if n < 1 ∨ d < (if fst then off else off + 1) + n then ([], [], false) else
  nz ax s t d e ((if fst then off else off + 1) + n) false (ps ++ [nG ax (s + (if fst then off else off + 1)) t e n]) (if fst then ls else ls ++ [nG ax (s + off) t e 1]) ns
def ql (X Y W H ax : Int) (sizes : List Int) : List dD × List dD × Bool :=
 if (ax = 1 ∨ ax = 2) ∧ oV X Y W H = true ∧ sizes ≠ [] then nz ax (tX ax X Y) (tX ax Y X) (tX ax W H) (tX ax H W) 0 true [] [] sizes else ([], [], false)
theorem U1 (ax s t d e : Int) : ∀ (ns : List Int) (off : Int) (f : Bool) (ps ls : List dD), (nz ax s t d e off f ps ls ns).1.length ≤ ps.length + ns.length ∧ (nz ax s t d e off f ps ls ns).2.1.length ≤ ls.length + ns.length := by
 intro ns
 induction ns with
 | nil => intro off f ps ls; unfold nz; split <;> simp
 | cons n ns ih =>
  intro off f ps ls
  unfold nz
  have hl : (if f then ls else ls ++ [nG ax (s + off) t e 1]).length ≤ ls.length + 1 := by cases f <;> simp
  generalize (if f then ls else ls ++ [nG ax (s + off) t e 1]) = ls' at hl ⊢
  generalize (if f then off else off + 1) = o
  by_cases hc : n < 1 ∨ d < o + n
  ·rw [if_pos hc]; simp
  ·rw [if_neg hc]
   have h := ih (o + n) false (ps ++ [nG ax (s + o) t e n]) ls'
   rw [List.length_append, List.length_singleton] at h
   rw [List.length_cons]
   omega
theorem RF (ax X Y W H : Int) : ∀ (ns : List Int) (off : Int) (f : Bool) (ps ls : List dD), (nz ax (tX ax X Y) (tX ax Y X) (tX ax W H) (tX ax H W) off f ps ls ns).2.2 = true →
  (nz ax (tX ax X Y) (tX ax Y X) (tX ax W H) (tX ax H W) off f ps ls ns).1 = ps ++ xU ax X Y W H (if f then off else off + 1) ns ∧ off + ns.sum + (ns.length : Int) - (if f ∧ ns ≠ [] then 1 else 0) = tX ax W H ∧ ∀ m, m ∈ ns → 1 ≤ m := by
 intro ns
 induction ns with
 | nil =>
  intro off f ps ls h
  unfold nz at h ⊢
  split at h
  ·rename_i ho
   rw [if_pos ho]
   exact ⟨by simp [xU], by simp [ho], fun m hm => by cases hm⟩
  ·cases h
 | cons n ns ih =>
  intro off f ps ls h
  unfold nz at h ⊢
  by_cases hn : n < 1 ∨ tX ax W H < (if f then off else off + 1) + n
  ·rw [if_pos hn] at h; cases h
  ·rw [if_neg hn] at h ⊢
   obtain ⟨h1, h2, h3⟩ := ih _ _ _ _ h
   refine ⟨?_, ?_, fun m hm => ?_⟩
   ·rw [h1, List.append_assoc]
    cases f <;> rfl
   ·rw [List.sum_cons, List.length_cons]
    cases f with
    | false => simp only [Bool.false_eq_true, if_false, false_and] at h2 ⊢; omega
    | true => simp only [Bool.false_eq_true, if_false, if_true, false_and] at h2 ⊢; rw [if_pos (by simp)]; omega
   ·rcases List.mem_cons.1 hm with rfl | hm
    ·omega
    ·exact h3 m hm
theorem Io : ∀ (l : List Int), (∀ m, m ∈ l → 1 ≤ m) → (l.length : Int) ≤ l.sum := by
 intro l
 induction l with
 | nil => intro _; simp
 | cons x xs ih =>
  intro h
  have h1 := h x (by simp)
  have h2 := ih (fun m hm => h m (by simp [hm]))
  rw [List.sum_cons, List.length_cons]
  omega
theorem XU (ax s t d e : Int) : ∀ (ns : List Int) (off : Int) (f : Bool) (ps ls : List dD), off + ns.sum + (ns.length : Int) - (if f ∧ ns ≠ [] then 1 else 0) = d → (∀ m, m ∈ ns → 1 ≤ m) → (nz ax s t d e off f ps ls ns).2.2 = true := by
 intro ns
 induction ns with
 | nil =>
  intro off f ps ls h _
  unfold nz
  simp at h
  rw [if_pos h]
 | cons n ns ih =>
  intro off f ps ls h hp
  have hn := hp n (by simp)
  have hr := Io ns (fun m hm => hp m (by simp [hm]))
  unfold nz
  rw [List.sum_cons, List.length_cons] at h
  rw [if_neg (by
   cases f with
   | false => simp only [Bool.false_eq_true, if_false, false_and] at h ⊢; omega
   | true => simp only [if_true] at h ⊢; rw [if_pos (by simp)] at h; omega)]
  refine ih _ _ _ _ ?_ (fun m hm => hp m (by simp [hm]))
  cases f with
  | false => simp only [Bool.false_eq_true, if_false, false_and] at h ⊢; omega
  | true => simp only [Bool.false_eq_true, if_false, if_true, false_and] at h ⊢; rw [if_pos (by simp)] at h; omega
theorem U0 (X Y W H ax : Int) (sizes : List Int) : (ql X Y W H ax sizes).1.length ≤ sizes.length ∧ (ql X Y W H ax sizes).2.1.length ≤ sizes.length := by
 unfold ql
 split
 ·have := U1 ax (tX ax X Y) (tX ax Y X) (tX ax W H) (tX ax H W) sizes 0 true [] []
  simpa using this
 ·simp
theorem RD {X Y W H ax : Int} {sizes : List Int} (h : (ql X Y W H ax sizes).2.2 = true) : (ax = 1 ∨ ax = 2) ∧ (ql X Y W H ax sizes).1 = xU ax X Y W H 0 sizes ∧ sizes.sum + (sizes.length : Int) - 1 = tX ax W H ∧ ∀ m, m ∈ sizes → 1 ≤ m := by
 unfold ql at h ⊢
 split at h
 ·rename_i hc
  rw [if_pos hc]
  obtain ⟨h1, h2, h3⟩ := RF ax X Y W H sizes 0 true [] [] h
  rw [if_pos ⟨rfl, hc.2.2⟩] at h2
  exact ⟨hc.1, by simpa using h1, by omega, h3⟩
 ·cases h
theorem XT {X Y W H ax : Int} {sizes : List Int} (hax : ax = 1 ∨ ax = 2) (hm : oV X Y W H = true) (hne : sizes ≠ []) (hs : sizes.sum + (sizes.length : Int) - 1 = tX ax W H) (hp : ∀ m, m ∈ sizes → 1 ≤ m) : (ql X Y W H ax sizes).2.2 = true := by
 unfold ql
 rw [if_pos ⟨hax, hm, hne⟩]
 exact XU _ _ _ _ _ _ _ _ _ _ (by rw [if_pos ⟨rfl, hne⟩]; omega) hp
end Go.Proofs.Ytfdmfgaiblfbhaa.P
namespace Go.Proofs.Ytfdmfgaiblfbhaa.P
open Go.RowKit Go.Proofs.ag.aT Go.Proofs.ag.bK Go.Proofs.ag.bY
attribute [local go_sem] je jr jO kC jL jM kN kQ
def oW.f (ay : Int) (aH : Int) (aC : Int) (aG : Int) (a1 : Int) : Option (Int × Int × Int × Int × Bool) := if a1 = 2 then (some (aH, ay, aG, aC, true)) else (if a1 = 1 then (some (ay, aH, aC, aG, true)) else (some (0, 0, 0, 0, false)))
theorem oW.calls (ay : Int) (aH : Int) (aC : Int) (aG : Int) (a1 : Int) (r1 : Int) (r2 : Int) (r3 : Int) (r4 : Int) (r5 : Bool) (w : World) (h : oW.f ay aH aC aG a1 = some (r1, r2, r3, r4, r5)) :
  Calls Try.prog 127 #[.agg #[.int .i64 ay, .int .i64 aH, .int .i64 aC, .int .i64 aG], .int .u8 a1] w fun e w' => e = .returned (.tuple #[.agg #[.int .i64 r1, .int .i64 r2, .int .i64 r3, .int .i64 r4], .bool r5]) ∧ Below w.heap.size w w' := by
 have P_ := Try.underlying23
 have HB := ae.mk (Below.refl w.heap.size w)
 have H : (if a1 = 2 then (some (aH, ay, aG, aC, true)) else (if a1 = 1 then (some (ay, aH, aC, aG, true)) else (some (0, 0, 0, 0, false)))) = some (r1, r2, r3, r4, r5) := h
 clear h
 by_cases c3 : a1 = 2
 ·rw [if_pos c3] at H
  have vJ : (a1 == 2) = true := beq_iff_eq.mpr c3
  have Bh : (a1 != 2) = false := bne_eq_false_iff_eq.mpr c3
  clear c3
  simp only [Option.some.injEq, Prod.mk.injEq] at H
  obtain ⟨rfl, rfl, rfl, rfl, rfl⟩ := H
  go_enter Try.func127, Try.ntmps127
  go_wp2_with (first | ((with_reducible refine aA (N := 2) rfl ?_); refine aQ ?hg (N := 2) ?hd (cs := #[.int .i64 ay, .int .i64 aH, .int .i64 aC, .int .i64 aG]) (t := 23) ?hr ?_; (case hd => rfl); (case hg => rfl); (case hr => (go_simp; done)); intro mP hg w4 hbox hb; have iZ := ae.mk (hbox); have Pj := ae.mk ((by rw [hg]; exact (dR (by repeat ((with_reducible exact HB.out)))) : w.heap.size ≤ mP)); replace HB := ae.mk (ak (by repeat ((with_reducible exact HB.out))) hb); clear hb hbox hg) | ((with_reducible refine aA (N := 4) rfl ?_); refine aQ ?hg (N := 4) ?hd (cs := #[.int .i64 0, .int .i64 0, .int .i64 0, .int .i64 0]) (t := 23) ?hr ?_; (case hd => rfl); (case hg => rfl); (case hr => (go_simp; done)); intro jK hg w5 hbox hb; have jg := ae.mk (hbox); have FP := ae.mk ((by rw [hg]; exact (dR (by repeat ((with_reducible exact HB.out)))) : w.heap.size ≤ jK)); have xh := ae.mk ((by rw [hg]; exact Nat.ne_of_lt (eY iZ.out) : mP ≠ jK)); have n_ := ae.mk ((by rw [hg]; exact Nat.ne_of_gt (eY iZ.out) : jK ≠ mP)); replace iZ := ae.mk (aI iZ.out hb); replace HB := ae.mk (ak (by repeat ((with_reducible exact HB.out))) hb); clear hb hbox hg; have ajZ := xh.out; have aj0 := n_.out; have acm : w5.cell? ⟨mP, 0, none⟩ = some (.int .i64 ay) := (af iZ.out 0).trans rfl; have acn : w5.cell? ⟨mP, 1, none⟩ = some (.int .i64 aH) := (af iZ.out 1).trans rfl; have aco : w5.cell? ⟨mP, 2, none⟩ = some (.int .i64 aC) := (af iZ.out 2).trans rfl; have acp : w5.cell? ⟨mP, 3, none⟩ = some (.int .i64 aG) := (af iZ.out 3).trans rfl; have acF := ah iZ.out 0; have acG := ah iZ.out 1; have acH := ah iZ.out 2; have acI := ah iZ.out 3; have acr : w5.cell? ⟨jK, 0, none⟩ = some (.int .i64 0) := (af jg.out 0).trans rfl; have acs : w5.cell? ⟨jK, 1, none⟩ = some (.int .i64 0) := (af jg.out 1).trans rfl; have acu : w5.cell? ⟨jK, 2, none⟩ = some (.int .i64 0) := (af jg.out 2).trans rfl; have acv : w5.cell? ⟨jK, 3, none⟩ = some (.int .i64 0) := (af jg.out 3).trans rfl; have acJ := ah jg.out 0; have acK := ah jg.out 1; have acL := ah jg.out 2; have acM := ah jg.out 3))
  refine bodyPost_ret (fC rfl _ _ jK 23 _ (0, 0) _ rfl (by refine jo (cs := #[.int .i64 aH, .int .i64 ay, .int .i64 aG, .int .i64 aC]) ?_ 3 _ rfl; refine jo (cs := #[.int .i64 aH, .int .i64 ay, .int .i64 aG, .int .i64 aC]) ?_ 2 _ rfl; refine jo (cs := #[.int .i64 aH, .int .i64 ay, .int .i64 aG, .int .i64 aC]) ?_ 1 _ rfl; refine jo (cs := #[.int .i64 aH, .int .i64 ay, .int .i64 aG, .int .i64 aC]) ?_ 0 _ rfl; refine jo (cs := #[.int .i64 aH, .int .i64 ay, .int .i64 aG, .int .i64 0]) ?_ 3 _ rfl; refine jo (cs := #[.int .i64 aH, .int .i64 ay, .int .i64 0, .int .i64 0]) ?_ 2 _ rfl; refine jo (cs := #[.int .i64 aH, .int .i64 0, .int .i64 0, .int .i64 0]) ?_ 1 _ rfl; refine jo (cs := #[.int .i64 0, .int .i64 0, .int .i64 0, .int .i64 0]) ?_ 0 _ rfl; refine DY ?_ n_.out _; refine DY ?_ n_.out _; refine DY ?_ n_.out _; refine DY ?_ n_.out _; exact jg.out) Try.underlying23 rfl (by kernel_rfl)) rfl ?_
  exact ⟨by rfl, by repeat ((with_reducible first | exact HB.out | refine ou ?_ Pj.out | refine ou ?_ FP.out))⟩
 ·rw [if_neg c3] at H
  have vJ : (a1 == 2) = false := beq_eq_false_iff_ne.mpr c3
  have Bh : (a1 != 2) = true := bne_iff_ne.mpr c3
  by_cases c9 : a1 = 1
  ·rw [if_pos c9] at H
   have KY : (a1 == 1) = true := beq_iff_eq.mpr c9
   have af5 : (a1 != 1) = false := bne_eq_false_iff_eq.mpr c9
   clear c9
   simp only [Option.some.injEq, Prod.mk.injEq] at H
   obtain ⟨rfl, rfl, rfl, rfl, rfl⟩ := H
   go_enter Try.func127, Try.ntmps127
   go_wp2_with (first | ((with_reducible refine aA (N := 2) rfl ?_); refine aQ ?hg (N := 2) ?hd (cs := #[.int .i64 ay, .int .i64 aH, .int .i64 aC, .int .i64 aG]) (t := 23) ?hr ?_; (case hd => rfl); (case hg => rfl); (case hr => (go_simp; done)); intro mP hg w10 hbox hb; have iZ := ae.mk (hbox); have Pj := ae.mk ((by rw [hg]; exact (dR (by repeat ((with_reducible exact HB.out)))) : w.heap.size ≤ mP)); replace HB := ae.mk (ak (by repeat ((with_reducible exact HB.out))) hb); clear hb hbox hg) | ((with_reducible refine aA (N := 4) rfl ?_); refine aQ ?hg (N := 4) ?hd (cs := #[.int .i64 0, .int .i64 0, .int .i64 0, .int .i64 0]) (t := 23) ?hr ?_; (case hd => rfl); (case hg => rfl); (case hr => (go_simp; done)); intro jK hg zK hbox hb; have jg := ae.mk (hbox); have FP := ae.mk ((by rw [hg]; exact (dR (by repeat ((with_reducible exact HB.out)))) : w.heap.size ≤ jK)); have xh := ae.mk ((by rw [hg]; exact Nat.ne_of_lt (eY iZ.out) : mP ≠ jK)); have n_ := ae.mk ((by rw [hg]; exact Nat.ne_of_gt (eY iZ.out) : jK ≠ mP)); replace iZ := ae.mk (aI iZ.out hb); replace HB := ae.mk (ak (by repeat ((with_reducible exact HB.out))) hb); clear hb hbox hg; have ajC := xh.out; have ajE := n_.out; have Yc : zK.cell? ⟨mP, 0, none⟩ = some (.int .i64 ay) := (af iZ.out 0).trans rfl; have Yd : zK.cell? ⟨mP, 1, none⟩ = some (.int .i64 aH) := (af iZ.out 1).trans rfl; have Ye : zK.cell? ⟨mP, 2, none⟩ = some (.int .i64 aC) := (af iZ.out 2).trans rfl; have Yf : zK.cell? ⟨mP, 3, none⟩ = some (.int .i64 aG) := (af iZ.out 3).trans rfl; have YP := ah iZ.out 0; have YQ := ah iZ.out 1; have YR := ah iZ.out 2; have YS := ah iZ.out 3; have Ht : zK.cell? ⟨jK, 0, none⟩ = some (.int .i64 0) := (af jg.out 0).trans rfl; have Hu : zK.cell? ⟨jK, 1, none⟩ = some (.int .i64 0) := (af jg.out 1).trans rfl; have Hw : zK.cell? ⟨jK, 2, none⟩ = some (.int .i64 0) := (af jg.out 2).trans rfl; have Hy : zK.cell? ⟨jK, 3, none⟩ = some (.int .i64 0) := (af jg.out 3).trans rfl; have Hz := ah jg.out 0; have HY := ah jg.out 1; have H5 := ah jg.out 2; have H6 := ah jg.out 3))
   refine bodyPost_ret (fC rfl _ _ jK 23 _ (0, 0) _ rfl (by refine jo (cs := #[.int .i64 ay, .int .i64 aH, .int .i64 aC, .int .i64 aG]) ?_ 3 _ rfl; refine jo (cs := #[.int .i64 ay, .int .i64 aH, .int .i64 aC, .int .i64 aG]) ?_ 2 _ rfl; refine jo (cs := #[.int .i64 ay, .int .i64 aH, .int .i64 aC, .int .i64 aG]) ?_ 1 _ rfl; refine jo (cs := #[.int .i64 ay, .int .i64 aH, .int .i64 aC, .int .i64 aG]) ?_ 0 _ rfl; refine jo (cs := #[.int .i64 ay, .int .i64 aH, .int .i64 aC, .int .i64 0]) ?_ 3 _ rfl; refine jo (cs := #[.int .i64 ay, .int .i64 aH, .int .i64 0, .int .i64 0]) ?_ 2 _ rfl; refine jo (cs := #[.int .i64 ay, .int .i64 0, .int .i64 0, .int .i64 0]) ?_ 1 _ rfl; refine jo (cs := #[.int .i64 0, .int .i64 0, .int .i64 0, .int .i64 0]) ?_ 0 _ rfl; exact jg.out) Try.underlying23 rfl (by kernel_rfl)) rfl ?_
   exact ⟨by rfl, by repeat ((with_reducible first | exact HB.out | refine ou ?_ FP.out))⟩
  ·rw [if_neg c9] at H
   have KY : (a1 == 1) = false := beq_eq_false_iff_ne.mpr c9
   have af5 : (a1 != 1) = true := bne_iff_ne.mpr c9
   simp only [Option.some.injEq, Prod.mk.injEq] at H
   obtain ⟨rfl, rfl, rfl, rfl, rfl⟩ := H
   go_enter Try.func127, Try.ntmps127
   go_wp2_with (first | ((with_reducible refine aA (N := 2) rfl ?_); refine aQ ?hg (N := 2) ?hd (cs := #[.int .i64 ay, .int .i64 aH, .int .i64 aC, .int .i64 aG]) (t := 23) ?hr ?_; (case hd => rfl); (case hg => rfl); (case hr => (go_simp; done)); intro mP hg tJ hbox hb; have iZ := ae.mk (hbox); have Pj := ae.mk ((by rw [hg]; exact (dR (by repeat ((with_reducible exact HB.out)))) : w.heap.size ≤ mP)); replace HB := ae.mk (ak (by repeat ((with_reducible exact HB.out))) hb); clear hb hbox hg) | ((with_reducible refine aA (N := 4) rfl ?_); refine aQ ?hg (N := 4) ?hd (cs := #[.int .i64 0, .int .i64 0, .int .i64 0, .int .i64 0]) (t := 23) ?hr ?_; (case hd => rfl); (case hg => rfl); (case hr => (go_simp; done)); intro jK hg w16 hbox hb; have jg := ae.mk (hbox); have FP := ae.mk ((by rw [hg]; exact (dR (by repeat ((with_reducible exact HB.out)))) : w.heap.size ≤ jK)); have xh := ae.mk ((by rw [hg]; exact Nat.ne_of_lt (eY iZ.out) : mP ≠ jK)); have n_ := ae.mk ((by rw [hg]; exact Nat.ne_of_gt (eY iZ.out) : jK ≠ mP)); replace iZ := ae.mk (aI iZ.out hb); replace HB := ae.mk (ak (by repeat ((with_reducible exact HB.out))) hb); clear hb hbox hg; have ajD := n_.out; have ajF := xh.out; have Ym : w16.cell? ⟨jK, 0, none⟩ = some (.int .i64 0) := (af jg.out 0).trans rfl; have Yn : w16.cell? ⟨jK, 1, none⟩ = some (.int .i64 0) := (af jg.out 1).trans rfl; have Yo : w16.cell? ⟨jK, 2, none⟩ = some (.int .i64 0) := (af jg.out 2).trans rfl; have Yp : w16.cell? ⟨jK, 3, none⟩ = some (.int .i64 0) := (af jg.out 3).trans rfl; have YZ := ah jg.out 0; have Y0 := ah jg.out 1; have Y1 := ah jg.out 2; have Y2 := ah jg.out 3))
   refine bodyPost_ret (fC rfl _ _ jK 23 _ (0, 0) _ rfl (by refine jo (cs := #[.int .i64 0, .int .i64 0, .int .i64 0, .int .i64 0]) ?_ 3 _ rfl; refine jo (cs := #[.int .i64 0, .int .i64 0, .int .i64 0, .int .i64 0]) ?_ 2 _ rfl; refine jo (cs := #[.int .i64 0, .int .i64 0, .int .i64 0, .int .i64 0]) ?_ 1 _ rfl; refine jo (cs := #[.int .i64 0, .int .i64 0, .int .i64 0, .int .i64 0]) ?_ 0 _ rfl; exact jg.out) Try.underlying23 rfl (by kernel_rfl)) rfl ?_
   exact ⟨by rfl, by repeat ((with_reducible first | exact HB.out | refine ou ?_ FP.out))⟩
end Go.Proofs.Ytfdmfgaiblfbhaa.P
namespace Go.Proofs.Ytfdmfgaiblfbhaa.P
open Go.RowKit Go.Proofs.ag.aT Go.Proofs.ag.bK Go.Proofs.ag.bY
section
variable {W : World}
theorem NQ {ax : Int} (h : ax = 1 ∨ ax = 2) (X Y W H : Int) : oW.f X Y W H ax = some (tX ax X Y, tX ax Y X, tX ax W H, tX ax H W, true) := by
 unfold oW.f tX
 rcases h with rfl | rfl
 ·rfl
 ·rfl
theorem FM {ax : Int} (h : ax = 1 ∨ ax = 2) (x y u v : Int) : Calls Try.prog 127 #[.agg #[.int .i64 x, .int .i64 y, .int .i64 u, .int .i64 v], .int .u8 ax] W fun e w' => e = .returned (.tuple #[.agg #[.int .i64 (tX ax x y), .int .i64 (tX ax y x), .int .i64 (tX ax u v), .int .i64 (tX ax v u)], .bool true]) ∧ Below W.heap.size W w' :=
 oW.calls _ _ _ _ _ _ _ _ _ _ W (NQ h x y u v)
theorem Ug {ax : Int} (h : ¬ (ax = 1 ∨ ax = 2)) (x y u v : Int) : Calls Try.prog 127 #[.agg #[.int .i64 x, .int .i64 y, .int .i64 u, .int .i64 v], .int .u8 ax] W fun e w' => e = .returned (.tuple #[.agg #[.int .i64 0, .int .i64 0, .int .i64 0, .int .i64 0], .bool false]) ∧ Below W.heap.size W w' :=
 oW.calls _ _ _ _ _ _ _ _ _ _ W (by unfold oW.f; rw [if_neg (fun e => h (.inr e)), if_neg (fun e => h (.inl e))])
theorem M_ {x y u v : Int} {b : Bool} (h : oV x y u v = b) : Calls Try.prog 128 #[.agg #[.int .i64 x, .int .i64 y, .int .i64 u, .int .i64 v]] W fun e w' => e = .returned (.bool b) ∧ Below W.heap.size W w' :=
 wQ.calls _ _ _ _ _ W ((MQ _ _ _ _).trans (congrArg some h))
theorem DC {x y u v : Int} {b : Bool} (h : oV x y u v = b) : Calls Try.prog 57 #[.agg #[.int .i64 x, .int .i64 y, .int .i64 u, .int .i64 v]] W fun e w' => e = .returned (.bool b) ∧ Below W.heap.size W w' :=
 nV.calls _ _ _ _ _ W ((Es _ _ _ _).trans (congrArg some h))
end
abbrev JS (w : World) (t : List dD × List dD × Bool) (e : Ending) (w' : World) : Prop := ∃ A c A' c' o o', e = .returned (.tuple #[.slice A t.1.length c, .slice A' t.2.1.length c', .bool t.2.2]) ∧ (t.2.2 = true → Two k23 23 k23 23 w w' (.slice A t.1.length c) t.1 (.slice A' t.2.1.length c') t.2.1 o o') ∧ Below w.heap.size w w'
theorem yP {X Y W H ax : Int} {sizes : List Int} (h : ¬ (ax = 1 ∨ ax = 2) ∨ oV X Y W H = false ∨ sizes.length = 0) : ql X Y W H ax sizes = ([], [], false) := by
 unfold ql
 refine if_neg (fun hc => ?_)
 rcases h with h | h | h
 ·exact h hc.1
 ·rw [hc.2.1] at h; cases h
 ·exact hc.2.2 (List.eq_nil_of_length_eq_zero h)
theorem RG {X Y W H ax : Int} {sizes : List Int} (h1 : ax = 1 ∨ ax = 2) (h2 : oV X Y W H = true) (h3 : sizes.length ≠ 0) : ql X Y W H ax sizes = nz ax (tX ax X Y) (tX ax Y X) (tX ax W H) (tX ax H W) 0 true [] [] sizes := by
 unfold ql
 exact if_pos ⟨h1, h2, fun h => h3 (by rw [h]; rfl)⟩
theorem Lr {ax s t d e off : Int} {f : Bool} {ps ls : List dD} {R : List dD × List dD × Bool} (h : nz ax s t d e off f ps ls [] = R) : R = if off = d then (ps, ls, true) else ([], [], false) := h.symm
def zN (ax s t d e o : Int) (ps ls : List dD) (n : Int) (ns : List Int) : List dD × List dD × Bool := if n < 1 ∨ d < o + n then ([], [], false) else nz ax s t d e (o + n) false (ps ++ [nG ax (s + o) t e n]) ls ns
theorem Ai {ax s t d e o : Int} {ps ls : List dD} {n : Int} {ns : List Int} (h : n < 1 ∨ d < o + n) : zN ax s t d e o ps ls n ns = ([], [], false) := if_pos h
theorem Oa {ax s t d e o : Int} {ps ls : List dD} {n : Int} {ns : List Int} (h : ¬ (n < 1 ∨ d < o + n)) : zN ax s t d e o ps ls n ns = nz ax s t d e (o + n) false (ps ++ [nG ax (s + o) t e n]) ls ns := if_neg h
theorem Uf {X Y W H ax : Int} (h1 : ax = 1 ∨ ax = 2) (h2 : oV X Y W H = true) : 0 ≤ tX ax X Y ∧ 1 ≤ tX ax W H ∧ tX ax X Y + tX ax W H ≤ 10000 := by
 have hm := uU.1 h2
 unfold tX
 rcases h1 with rfl | rfl
 ·rw [if_neg (by omega), if_neg (by omega)]; omega
 ·rw [if_pos rfl, if_pos rfl]; omega
end Go.Proofs.Ytfdmfgaiblfbhaa.P
namespace Go.Proofs.Ytfdmfgaiblfbhaa.P
open Go.RowKit Go.Proofs.ag.aT Go.Proofs.ag.bK Go.Proofs.ag.bY
attribute [local go_sem] je jr jO kC jL jM kN kQ
theorem aeI (d : Nat) (w : World) (x0 y0 : Int) (x1 y1 : Int) (x2 y2 : Int) (x3 y3 : Int) :
  (Op.equalIn (d + 2) 23 (.agg #[.int .i64 x0, .int .i64 x1, .int .i64 x2, .int .i64 x3]) (.agg #[.int .i64 y0, .int .i64 y1, .int .i64 y2, .int .i64 y3])).run Try.prog w = .ok (x0 == y0 && (x1 == y1 && (x2 == y2 && (x3 == y3)))) w := by
 refine abP Try.underlying23 (by kernel_rfl) ?_
 refine EY (by rfl) (by go_simp; rfl) (by go_simp; rfl) (by go_simp) ?_
 refine EY (by rfl) (by go_simp; rfl) (by go_simp; rfl) (by go_simp) ?_
 refine EY (by rfl) (by go_simp; rfl) (by go_simp; rfl) (by go_simp) ?_
 exact U_ (by rfl) (by go_simp; rfl) (by go_simp; rfl) (by go_simp)
end Go.Proofs.Ytfdmfgaiblfbhaa.P
namespace Go.Proofs.Ytfdmfgaiblfbhaa.P
open Go.RowKit Go.Proofs.ag.aT Go.Proofs.ag.bK Go.Proofs.ag.bY
attribute [local go_sem] je jr jO kC jL jM kN kQ
attribute [local go_sem high] aeI
mutual
def iK.j0 : Nat → Bool → Int → Int → Int → Int → Int → Int → List (ai) → Int → Int → Int → Int → Int → Int → List (ai) → Option (Bool)
 | 0, _, _, _, _, _, _, _, _, _, _, _, _, _, _, _ => none
 | k + 1, x33, IC, IE, IG, II, IJ, IK, nY, IL, IM, IP, IQ, IU, IV, pX => if x33 = true then (some false) else (iK.l0 k (nY.length : Int) 0 IC IE IG II IJ IK nY IL IM IP IQ IU IV pX)
def iK.l0 : Nat → Int → Int → Int → Int → Int → Int → Int → Int → List (ai) → Int → Int → Int → Int → Int → Int → List (ai) → Option (Bool)
 | 0, _, _, _, _, _, _, _, _, _, _, _, _, _, _, _, _ => none
 | k + 1, x36, v_, IC, IE, IG, II, IJ, IK, nY, IL, IM, IP, IQ, IU, IV, pX => if v_ < x36 then (if 0 ≤ v_ then (if v_ < (nY.length : Int) then (if v_ < (pX.length : Int) then ((iK.f k ((az nY v_).f0) ((az nY v_).f1.f0) ((az nY v_).f1.f1) ((az nY v_).f1.f2) ((az nY v_).f1.f3) ((az nY v_).f2) ((az nY v_).f3) ((az pX v_).f0) ((az pX v_).f1.f0) ((az pX v_).f1.f1) ((az pX v_).f1.f2) ((az pX v_).f1.f3) ((az pX v_).f2) ((az pX v_).f3)).bind fun agB => (if agB = true then (iK.l0 k x36 (wrap64 (v_ + 1)) IC IE IG II IJ IK nY IL IM IP IQ IU IV pX) else (some false))) else (none)) else (none)) else (none)) else (some true)
def iK.f : Nat → Int → Int → Int → Int → Int → Int → List (ai) → Int → Int → Int → Int → Int → Int → List (ai) → Option (Bool)
 | 0, _, _, _, _, _, _, _, _, _, _, _, _, _, _ => none
 | k + 1, ay, aH, aC, aG, bz, bC, aJ, KD, KE, KF, KG, KH, KI, MP => if ay = KD then (if (!(aH == KE) || (!(aC == KF) || (!(aG == KG) || (!(bz == KH))))) = true then (iK.j0 k true ay aH aC aG bz bC aJ KD KE KF KG KH KI MP) else (if bC = KI then (iK.j0 k ((aJ.length : Int) != (MP.length : Int)) ay aH aC aG bz bC aJ KD KE KF KG KH KI MP) else (iK.j0 k true ay aH aC aG bz bC aJ KD KE KF KG KH KI MP))) else (iK.j0 k true ay aH aC aG bz bC aJ KD KE KF KG KH KI MP)
end
def iK.T6 : Bool × List (List Nat × List Nat) := (true, [([], []), ([0], [0]), ([], []), ([1, 2], [1, 2]), ([3], [3]), ([], []), ([5], [5]), ([], []), ([6, 7], [6, 7]), ([8], [8]), ([4, 9], [4, 9]), ([10], [10])])
def iK.B6 : List Nat := [0, 1, 0, 7, 15, 0, 32, 0, 224, 480, 1023, 2047]
end Go.Proofs.Ytfdmfgaiblfbhaa.P
namespace Go.Proofs.Ytfdmfgaiblfbhaa.P
open Go.RowKit Go.Proofs.ag.aT Go.Proofs.ag.bK Go.Proofs.ag.bY
def qB (a b : dD) : Bool := a.f0 == b.f0 && (a.f1 == b.f1 && (a.f2 == b.f2 && a.f3 == b.f3))
mutual
def aeY : ai → ai → Bool
 | ⟨a, r, d, l⟩, ⟨a', r', d', l'⟩ => a == a' && (qB r r' && (d == d' && (l.length == l'.length && Xi l l')))
def Xi : List ai → List ai → Bool
 | [], _ => true
 | _ :: _, [] => true
 | c :: cs, e :: es => aeY c e && Xi cs es
end
def rV {α β : Type} (r : α → β → Bool) : List α → List β → Bool
 | a :: ta, b :: tb => r a b && rV r ta tb
 | [], _ => true
 | _ :: _, [] => true
theorem abQ {α β : Type} (r : α → β → Bool) (za : α) (zb : β) (la : List α) (lb : List β) (k : Nat) (ha : k < la.length) (hb : k < lb.length) :
  rV r (la.drop k) (lb.drop k) = (r (la.getD (k : Int).toNat za) (lb.getD (k : Int).toNat zb) && rV r (la.drop (k + 1)) (lb.drop (k + 1))) := by
 rw [List.drop_eq_getElem_cons ha, List.drop_eq_getElem_cons hb]
 simp only [rV, Int.toNat_natCast, List.getD_eq_getElem?_getD, List.getElem?_eq_getElem ha, List.getElem?_eq_getElem hb, Option.getD_some]
theorem Hf {α β : Type} (r : α → β → Bool) (lb : List β) : rV r ([] : List α) lb = true := by cases lb <;> rfl
def yj (k : Int) : Int := (((k - 2) % 256) + 1) % 256
def qi (f0 : Int) (k : ai) : Int := if f0 = 2 then k.f1.f2 else k.f1.f3
def szK (c k : ai) : Int := qi c.f0 k
def iV (c : ai) : List Int := c.f3.map (szK c)
def xW (c : ai) : List dD × List dD × Bool := ql c.f1.f0 c.f1.f1 c.f1.f2 c.f1.f3 (yj c.f0) (iV c)
theorem Lu (c : ai) : (xW c).1.length ≤ c.f3.length ∧ (xW c).2.1.length ≤ c.f3.length := by
 have h := U0 c.f1.f0 c.f1.f1 c.f1.f2 c.f1.f3 (yj c.f0) (iV c)
 rwa [show (iV c).length = c.f3.length from List.length_map _] at h
theorem CJ {c : ai} (h : (xW c).2.2 = true) : (yj c.f0 = 1 ∨ yj c.f0 = 2) ∧ (xW c).1 = xU (yj c.f0) c.f1.f0 c.f1.f1 c.f1.f2 c.f1.f3 0 (iV c) ∧ (iV c).sum + ((iV c).length : Int) - 1 = tX (yj c.f0) c.f1.f2 c.f1.f3 ∧ ∀ m, m ∈ iV c → 1 ≤ m := RD h
def BH (c : ai) (t : List dD × List dD × Bool) : Bool := c.f0 == 1 || (t.2.2 && (c.f3.length == t.1.length && rV (fun k r => qB k.f1 r) c.f3 t.1))
def mr (c : ai) : Bool := BH c (xW c)
def kD (c : ai) : Bool := (fJ c).all mr
theorem sF (c : ai) : kD c = (mr c && c.f3.all kD) := by
 unfold kD
 rw [pG, List.all_cons]
 congr 1
 generalize c.f3 = l
 induction l with
 | nil => rw [oQ]; rfl
 | cons x xs ih => rw [kZ, List.all_append, List.all_cons, ih]
theorem Ob {W : World} {f : FuncId} {args : Array Value} {t1 t2 : List dD} (h : Calls Try.prog f args W (JS W (t1, t2, true))) :
  Calls Try.prog f args W fun e w' => ∃ A c A' c' o o', e = .returned (.tuple #[.slice A t1.length c, .slice A' t2.length c', .bool true]) ∧ Two k23 23 k23 23 W w' (.slice A t1.length c) t1 (.slice A' t2.length c') t2 o o' ∧ Below W.heap.size W w' :=
 h.mono (fun _ _ ⟨A, c, A', c', o, o', h1, h2, h3⟩ => ⟨A, c, A', c', o, o', h1, h2 rfl, h3⟩)
theorem LC {W : World} {f : FuncId} {args : Array Value} {t1 t2 : List dD} (h : Calls Try.prog f args W (JS W (t1, t2, false))) :
  Calls Try.prog f args W fun e w' => ∃ A n c A' n' c', e = .returned (.tuple #[.slice A n c, .slice A' n' c', .bool false]) ∧ Below W.heap.size W w' :=
 h.mono (fun _ _ ⟨A, c, A', c', _, _, h1, _, h3⟩ => ⟨A, _, c, A', _, c', h1, h3⟩)
abbrev Pz (w : World) (c : ai) (e : Ending) (w' : World) : Prop := ∃ A n cc, e = .returned (.tuple #[.slice A n cc, .bool (mr c)]) ∧ (mr c = true → ∃ ls : List dD, n = ls.length ∧ ls.length ≤ c.f3.length ∧ k23.R 23 w' w.heap.size (fun _ => True) (.slice A ls.length cc) ls) ∧ Below w.heap.size w w'
theorem XO (k : Int) : (k - 1) % 256 = yj k := by unfold yj; omega
theorem Oe {α β : Type} {r : α → β → Bool} : ∀ {a b : List α} {a' b' : List β}, a.length = a'.length → rV r (a ++ b) (a' ++ b') = (rV r a a' && rV r b b') := by
 intro a
 induction a with
 | nil => intro b a' b' h; cases a' with
  | nil => rw [Hf]; rfl
  | cons y ys => simp at h
 | cons x xs ih =>
  intro b a' b' h
  cases a' with
  | nil => simp at h
  | cons y ys =>
   simp only [List.cons_append, rV]
   rw [ih (by simpa using h), Bool.and_assoc]
theorem ada {α : Type} {r k : dD} (h : qB k r = false) (x y : α) : (if r.f0 = k.f0 then if r.f1 = k.f1 then if r.f2 = k.f2 then if r.f3 = k.f3 then x else y else y else y else y) = y := by
 unfold qB at h
 repeat' split
 all_goals first | rfl | (simp_all; done)
theorem aa3 {base n c : Nat} {A : Option Addr} {l : List dD} {o : Obj} (h : KR k23 23 base (.slice A n c) l o) {W : World} (hm : ∀ g, (Value.slice A n c).ownBlock = some g → W.heap[g]? = some o) (pre rest : List dD) (r : dD) (hl : pre ++ r :: rest = l) :
  ∃ ad, A = some ad ∧ ∀ W : World, (∀ g, (Value.slice A n c).ownBlock = some g → W.heap[g]? = some o) → W.cell? (ad.add (pre.length * 4)) = some (.int .i64 r.f0) ∧ W.cell? ⟨(ad.add (pre.length * 4)).block, (ad.add (pre.length * 4)).off + 1, none⟩ = some (.int .i64 r.f1) ∧ W.cell? ⟨(ad.add (pre.length * 4)).block, (ad.add (pre.length * 4)).off + 2, none⟩ = some (.int .i64 r.f2) ∧ W.cell? ⟨(ad.add (pre.length * 4)).block, (ad.add (pre.length * 4)).off + 3, none⟩ = some (.int .i64 r.f3) := by
 have hi : (pre.length : Int) < l.length := by rw [← hl, List.length_append, List.length_cons]; omega
 have hr : pV l pre.length = r := by rw [← hl]; simp [pV, List.getD_eq_getElem?_getD]
 have key : ∀ W : World, (∀ g, (Value.slice A n c).ownBlock = some g → W.heap[g]? = some o) → ∃ ad, A = some ad ∧ W.cell? (ad.add (pre.length * 4)) = some (.int .i64 r.f0) ∧ W.cell? ⟨(ad.add (pre.length * 4)).block, (ad.add (pre.length * 4)).off + 1, none⟩ = some (.int .i64 r.f1) ∧ W.cell? ⟨(ad.add (pre.length * 4)).block, (ad.add (pre.length * 4)).off + 2, none⟩ = some (.int .i64 r.f2) ∧ W.cell? ⟨(ad.add (pre.length * 4)).block, (ad.add (pre.length * 4)).off + 3, none⟩ = some (.int .i64 r.f3) := fun W hW => by
  have hC := (Kd.dP (h W hW)).2.2
  have h2 := KP hC (pre.length : Int) (Int.natCast_nonneg _) hi
  rw [hr] at h2
  exact h2
 obtain ⟨ad, hA, _⟩ := key W hm
 refine ⟨ad, hA, fun W hW => ?_⟩
 obtain ⟨ad2, h1, h2⟩ := key W hW
 rw [hA] at h1
 injection h1 with h1
 rw [h1]
 exact h2
def xI.T20 : Bool × List (List Nat × List Nat) := (true, [([], []), ([], []), ([1], [1]), ([], []), ([2, 3], [2, 3]), ([], []), ([5], [5]), ([], []), ([], []), ([7, 8], [7, 8]), ([9], [9]), ([], []), ([11], [11]), ([4, 6, 10, 12], [4, 6, 10, 12]), ([13], [13]), ([0, 14], [0, 14]), ([15, 15, 0, 1, 2, 3, 4, 5, 6, 7, 8, 9, 10, 11, 12, 13, 14, 15], [0, 15])])
def xI.B20 : List Nat := [0, 0, 2, 0, 14, 0, 32, 0, 0, 384, 896, 0, 2048, 8190, 16382, 32767, 65535]
theorem xI.ae5 : g_ .any (opsOf Try.f46 20) = xI.T20 := by kernel_rfl
theorem xI.abl : iL xI.T20.2 xI.B20 = true := by kernel_rfl
def xJ.T21 : Bool × List (List Nat × List Nat) := (true, [([], []), ([], []), ([1], [1]), ([], []), ([3], [3]), ([], []), ([4, 5], [4, 5]), ([], []), ([7], [7]), ([], []), ([], []), ([9, 10], [9, 10]), ([11], [11]), ([2, 6, 8, 12], [2, 6, 8, 12]), ([13], [13]), ([0, 14], [0, 14]), ([15, 15, 0, 1, 2, 3, 4, 5, 6, 7, 8, 9, 10, 11, 12, 13, 14, 15], [0, 15])])
def xJ.B21 : List Nat := [0, 0, 2, 0, 8, 0, 56, 0, 128, 0, 0, 1536, 3584, 8190, 16382, 32767, 65535]
theorem xJ.ae6 : g_ .any (opsOf Try.f46 21) = xJ.T21 := by kernel_rfl
theorem xJ.abm : iL xJ.T21.2 xJ.B21 = true := by kernel_rfl
theorem piece1 (s t e n : Int) : nG 1 s t e n = ⟨s, t, n, e⟩ := rfl
theorem piece2 (s t e n : Int) : nG 2 s t e n = ⟨t, s, e, n⟩ := rfl
theorem ado (X Y Wd H ax : Int) (sizes : List Int) (hl : sizes.length ≤ 1000000) (B : Option Addr) (cb : Nat) (w : World) (hi : Kd.C (Kd.int .i64) w B sizes.length sizes) :
  Calls Try.prog 46 #[.agg #[.int .i64 X, .int .i64 Y, .int .i64 Wd, .int .i64 H], .int .u8 ax, .slice B sizes.length cb] w (JS w (ql X Y Wd H ax sizes)) := by
 have S := ae.mk (St.start (ts := []) (b0 := w.heap.size) (w := w) (P := fun _ => True) (fun _ h => by cases h))
 have HI := ae.mk hi
 have jl := ae.mk hl
 clear hi hl
 by_cases hm : oV X Y Wd H = true
 case neg =>
  have HQ := ae.mk (yP (X := X) (Y := Y) (W := Wd) (H := H) (ax := ax) (sizes := sizes) (.inr (.inl (Bool.eq_false_iff.mpr hm))))
  have xg := ae.mk (Bool.eq_false_iff.mpr hm)
  clear hm
  go_enter Try.func46, Try.ntmps46
  go_wp2_with (first | (refine boxS 3 _ 23 S ?_; clear S; intro b3 dJ S) | (refine gm 15 rfl ?_; refine lL k23 23 rfl 15 S ?_; clear S; intro An cn on dX S yg; obtain ⟨a_, aW, aY, aX⟩ := St.at4 S bG) | (refine bP (some 17) Try.func57 S (DC xg.out) ?_; clear S; intro fU S; clear a_ aW aY aX))
  go_ret3
  rw [HQ.out]
  exact ⟨_, _, _, _, .cells #[] 0 (0, 0), .cells #[] 0 (0, 0), rfl, (fun h => by cases h), S.out.below⟩
 have xg := ae.mk hm
 by_cases h1 : ax < 1
 case pos =>
  have HQ := ae.mk (yP (X := X) (Y := Y) (W := Wd) (H := H) (ax := ax) (sizes := sizes) (.inl (by omega)))
  obtain ⟨h1a, h1b⟩ := mV (a := ax) (b := 1) (by omega)
  clear hm h1
  go_enter Try.func46, Try.ntmps46
  go_wp2_with (first | (refine boxS 3 _ 23 S ?_; clear S; intro b3 dJ S) | (refine gm 15 rfl ?_; refine lL k23 23 rfl 15 S ?_; clear S; intro An cn on dX S yg; obtain ⟨a_, aW, aY, aX⟩ := St.at4 S bG) | (refine bP (some 17) Try.func57 S (DC xg.out) ?_; clear S; intro fU S; clear a_ aW aY aX))
  go_ret3
  rw [HQ.out]
  exact ⟨_, _, _, _, .cells #[] 0 (0, 0), .cells #[] 0 (0, 0), rfl, (fun h => by cases h), S.out.below⟩
 obtain ⟨h1a, h1b⟩ := lU (a := ax) (b := 1) (by omega)
 by_cases h2 : 2 < ax
 case pos =>
  have HQ := ae.mk (yP (X := X) (Y := Y) (W := Wd) (H := H) (ax := ax) (sizes := sizes) (.inl (by omega)))
  obtain ⟨h2a, h2b⟩ := mV (a := 2) (b := ax) (by omega)
  clear hm h1 h2
  go_enter Try.func46, Try.ntmps46
  go_wp2_with (first | (refine boxS 3 _ 23 S ?_; clear S; intro b3 dJ S) | (refine gm 15 rfl ?_; refine lL k23 23 rfl 15 S ?_; clear S; intro An cn on dX S yg; obtain ⟨a_, aW, aY, aX⟩ := St.at4 S bG) | (refine bP (some 17) Try.func57 S (DC xg.out) ?_; clear S; intro fU S; clear a_ aW aY aX))
  go_ret3
  rw [HQ.out]
  exact ⟨_, _, _, _, .cells #[] 0 (0, 0), .cells #[] 0 (0, 0), rfl, (fun h => by cases h), S.out.below⟩
 obtain ⟨h2a, h2b⟩ := lU (a := 2) (b := ax) (by omega)
 by_cases h0 : sizes.length = 0
 case pos =>
  have HQ := ae.mk (yP (X := X) (Y := Y) (W := Wd) (H := H) (ax := ax) (sizes := sizes) (.inr (.inr h0)))
  obtain ⟨I8, wC, RQ⟩ := yQ (a := (sizes.length : Int)) (b := 0) (by omega)
  have RS : (sizes.length == 0) = true := beq_iff_eq.mpr (by omega)
  have RU : decide (sizes.length = 0) = true := decide_eq_true (by omega)
  clear hm h1 h2 h0
  go_enter Try.func46, Try.ntmps46
  go_wp2_with (first | (refine boxS 3 _ 23 S ?_; clear S; intro b3 dJ S) | (refine gm 15 rfl ?_; refine lL k23 23 rfl 15 S ?_; clear S; intro An cn on dX S yg; obtain ⟨a_, aW, aY, aX⟩ := St.at4 S bG) | (refine bP (some 17) Try.func57 S (DC xg.out) ?_; clear S; intro fU S; clear a_ aW aY aX))
  go_ret3
  rw [HQ.out]
  exact ⟨_, _, _, _, .cells #[] 0 (0, 0), .cells #[] 0 (0, 0), rfl, (fun h => by cases h), S.out.below⟩
 have hax : ax = 1 ∨ ax = 2 := by omega
 have o_ := ae.mk hax
 obtain ⟨S0, hS0⟩ : ∃ s, s = tX ax X Y := ⟨_, rfl⟩
 obtain ⟨T0, hT0⟩ : ∃ s, s = tX ax Y X := ⟨_, rfl⟩
 obtain ⟨D, hD⟩ : ∃ s, s = tX ax Wd H := ⟨_, rfl⟩
 obtain ⟨E, hE⟩ : ∃ s, s = tX ax H Wd := ⟨_, rfl⟩
 have HS1 := ae.mk (show ax = 1 → S0 = X ∧ T0 = Y ∧ D = Wd ∧ E = H from fun h => by subst h; exact ⟨hS0, hT0, hD, hE⟩)
 have HS2 := ae.mk (show ax = 2 → S0 = Y ∧ T0 = X ∧ D = H ∧ E = Wd from fun h => by subst h; exact ⟨hS0, hT0, hD, hE⟩)
 have hq := RG hax hm h0
 rw [← hS0, ← hT0, ← hD, ← hE] at hq
 have hb := Uf hax hm
 rw [← hS0, ← hD] at hb
 have HB := ae.mk hb
 rw [hq]
 obtain ⟨I8, wC, RQ⟩ := eqF (a := (sizes.length : Int)) (b := 0) (by omega)
 have RS : (sizes.length == 0) = false := beq_eq_false_iff_ne.mpr (by omega)
 have RU : decide (sizes.length = 0) = false := decide_eq_false (by omega)
 obtain ⟨R, hR⟩ : ∃ R, R = nz ax S0 T0 D E 0 true [] [] sizes := ⟨_, rfl⟩
 rw [← hR]
 have HR := ae.mk hR
 clear hq hb hm h0 h1 h2 hax hS0 hT0 hD hE hR
 go_enter Try.func46, Try.ntmps46
 go_upto_if 37 with (first | (refine boxS 3 _ 23 S ?_; clear S; intro b3 dJ S) | (refine gm 15 rfl ?_; refine lL k23 23 rfl 15 S ?_; clear S; intro An cn on dX S yg; obtain ⟨a_, aW, aY, aX⟩ := St.at4 S bG) | (refine bP (some 17) Try.func57 S (DC xg.out) ?_; clear S; intro fU S; clear a_ aW aY aX; have aY := (S.out.at bG 2).trans rfl))
 clear aY
 (skip)
 go_cut [10] (fun v10 wc => v10 = .int .i64 D ∧ ae (St w (fun _ => True) [((Value.slice An 0 cn).ownBlock, on), (some b3, .cells #[.int .i64 X, .int .i64 Y, .int .i64 Wd, .int .i64 H] 23 (0, 0))] [] [] [] wc))
 case first =>
  by_cases hx : ax = 2
  case pos =>
   have hd := (HS2.out hx).2.2.1
   obtain ⟨hxa, hxb, hxd⟩ := yQ (a := ax) (b := 2) (by omega)
   have HDD := ae.mk hd
   clear hx hd
   have aX := (S.out.at bG 3).trans rfl
   go_wp2
   clear aX
   go_meet
   case rel => exact ⟨by rw [HDD.out], S⟩
  case neg =>
   have hd := (HS1.out (by have := o_.out; omega)).2.2.1
   obtain ⟨hxa, hxb, hxd⟩ := eqF (a := ax) (b := 2) (by omega)
   have HDD := ae.mk hd
   clear hx hd
   go_wp2
   go_meet
   case rel => exact ⟨by rw [HDD.out], S⟩
 case rest =>
  clear S
  obtain ⟨rfl, S⟩ := hcut
  rename World => wx
  go_wp2_with (first | (refine gm 40 rfl ?_; refine lL k23 23 rfl 40 S ?_; clear S; intro Ap cp op dJ S iw) | (refine gm 41 rfl ?_; refine lL k23 23 rfl 41 S ?_; clear S; intro Aq cq oq dX S lY))
  clear I8 wC RQ RS RU h1a h1b h2a h2b
  go_loopg [11, 12, 13, 44] sizes.length (fun gg v11 v12 v13 v44 wr => ∃ (pre rest : List Int) (off : Int) (ps ls : List dD) (Ap : Option Addr) (cp : Nat) (op : Obj) (Aq : Option Addr) (cq : Nat) (oq : Obj), v11 = .slice Ap ps.length cp ∧ v12 = .slice Aq ls.length cq ∧ v13 = .int .i64 off ∧ v44 = .int .i64 (pre.length : Int) ∧ ae (pre ++ rest = sizes) ∧ rest.length ≤ gg ∧ ae (0 ≤ off ∧ off ≤ D ∧ ps.length ≤ pre.length ∧ ls.length ≤ pre.length) ∧ ae (nz ax S0 T0 D E off (pre.length == 0) ps ls rest = R) ∧ ae (KR k23 23 w.heap.size (.slice Ap ps.length cp) ps op) ∧ ae (KR k23 23 w.heap.size (.slice Aq ls.length cq) ls oq) ∧ ae (St w (fun _ => True) [((Value.slice Ap ps.length cp).ownBlock, op), ((Value.slice Aq ls.length cq).ownBlock, oq), ((Value.slice An 0 cn).ownBlock, on), (some b3, .cells #[.int .i64 X, .int .i64 Y, .int .i64 Wd, .int .i64 H] 23 (0, 0))] [] [] [] wr))
  case atStart => exact ⟨[], sizes, 0, [], [], _, _, _, _, _, _, rfl, rfl, rfl, rfl, ⟨rfl⟩, Nat.le_refl _, ⟨by have := HB.out; simp; omega⟩, ⟨HR.out.symm⟩, iw, lY, ⟨S.out.rq.rq.uS.rq⟩⟩
  case round =>
   clear S HR iw lY
   obtain ⟨pre, rest, off, ps, ls, Ap, cp, op, Aq, cq, oq, rfl, rfl, rfl, rfl, HE, hgg, HO, HG, iw, lY, S⟩ := hrel
   cases rest with
   | nil =>
    have hE := HE.out
    rw [List.append_nil] at hE
    subst hE
    clear HE hgg
    have hlt : ¬ ((pre.length : Int) < (pre.length : Int)) := by omega
    have QU := ae.mk (Lr HG.out)
    by_cases hod : off = D
    case pos =>
     obtain ⟨hza, hzb, hzd⟩ := yQ (a := off) (b := D) (by omega)
     have J3 := ae.mk hod
     clear hod
     go_wp2
     go_ret3
     rw [QU.out, if_pos J3.out]
     exact ⟨Ap, cp, Aq, cq, op, oq, rfl, fun _ => S.out.TL iw.out lY.out, S.out.below⟩
    case neg =>
     obtain ⟨hza, hzb, hzd⟩ := eqF (a := off) (b := D) (by omega)
     have J3 := ae.mk hod
     clear hod
     go_wp2
     have HQ := ae.mk (QU.out.trans (if_neg J3.out))
     go_ret3
     rw [HQ.out]
     exact ⟨_, _, _, _, .cells #[] 0 (0, 0), .cells #[] 0 (0, 0), rfl, (fun h => by cases h), S.out.below⟩
   | cons n ns =>
    have hlt : (pre.length : Int) < (sizes.length : Int) := by rw [← HE.out, List.length_append, List.length_cons]; omega
    have hw1 : wrap64 ((pre.length : Int) + 1) = ((pre ++ [n]).length : Int) := by have := jl.out; rw [List.length_append, List.length_singleton]; unfold wrap64; omega
    have HW1 := ae.mk hw1
    have gz := ae.mk hgg
    have NY := ae.mk hlt
    have zn := ae.mk (show ps.length ≤ 1000000 ∧ ls.length ≤ 1000000 by have := HO.out; have := jl.out; omega)
    clear hgg hw1
    go_upto_if 48 with fail
    (skip)
    go_cut [12, 13] (fun v12 v13 wc => ∃ (o' : Int) (ls' : List dD) (Aq : Option Addr) (cq : Nat) (oq : Obj), v12 = .slice Aq ls'.length cq ∧ v13 = .int .i64 o' ∧ ae (0 ≤ o' ∧ o' ≤ D + 1 ∧ ls'.length ≤ pre.length + 1) ∧ ae (zN ax S0 T0 D E o' ps ls' n ns = R) ∧ ae (KR k23 23 w.heap.size (.slice Aq ls'.length cq) ls' oq) ∧ ae (St w (fun _ => True) [((Value.slice Ap ps.length cp).ownBlock, op), ((Value.slice Aq ls'.length cq).ownBlock, oq), ((Value.slice An 0 cn).ownBlock, on), (some b3, .cells #[.int .i64 X, .int .i64 Y, .int .i64 Wd, .int .i64 H] 23 (0, 0))] [] [] [] wc))
    case first =>
     by_cases hp2 : pre.length = 0
     case pos =>
      have hp : (pre.length == 0) = true := beq_iff_eq.mpr hp2
      obtain ⟨hpa, hpb⟩ := lU (a := 0) (b := (pre.length : Int)) (by omega)
      have hpc : decide (0 < pre.length) = false := decide_eq_false (by omega)
      have hpe : ¬ (0 < pre.length) := by omega
      have HG2 := ae.mk (show zN ax S0 T0 D E off ps ls n ns = R by have h := HG.out; rw [hp] at h; exact h)
      clear hp hp2
      go_wp2
      go_meet
      case rel => exact ⟨off, ls, _, _, _, rfl, rfl, ⟨by have := HO.out; omega⟩, HG2, lY, S⟩
     case neg =>
      have hp : (pre.length == 0) = false := beq_eq_false_iff_ne.mpr hp2
      obtain ⟨hpa, hpb⟩ := mV (a := 0) (b := (pre.length : Int)) (by omega)
      have hpc : decide (0 < pre.length) = true := decide_eq_true (by omega)
      have hpe : 0 < pre.length := by omega
      have QT := ae.mk (show zN ax S0 T0 D E (off + 1) ps (ls ++ [nG ax (S0 + off) T0 E 1]) n ns = R by have h := HG.out; rw [hp] at h; exact h)
      have NZ := ae.mk (show wrap64 (off + 1) = off + 1 by have := HO.out; have := HB.out; unfold wrap64; omega)
      clear hp hp2
      by_cases hx : ax = 1
      case pos =>
       have HX := ae.mk hx
       obtain ⟨hxa, hxb, hxd⟩ := yQ (a := ax) (b := 1) (by omega)
       clear hx
       have J4 := ae.mk (show nG ax (S0 + off) T0 E 1 = (⟨wrap64 (X + off), Y, 1, H⟩ : dD) by have hb := HB.out; have ho := HO.out; have hs := HS1.out HX.out; rw [HX.out, piece1, hs.1, hs.2.1, hs.2.2.2, show wrap64 (X + off) = X + off by rw [hs.1] at hb; unfold wrap64; omega])
       have HG2 := ae.mk (show zN ax S0 T0 D E (off + 1) ps (ls ++ [(⟨wrap64 (X + off), Y, 1, H⟩ : dD)]) n ns = R by rw [← J4.out]; exact QT.out)
       have a_ := (S.out.at kR 0).trans rfl
       have aW := (S.out.at kR 1).trans rfl
       have aX := (S.out.at kR 3).trans rfl
       go_wp2_with ((refine gm 62 rfl ?_; at_builtin; replace S := ae.mk S.out.tC; refine uQ k23 23 rfl 51 61 42 _ 32 Try.underlying42 info23 rfl (by decide) (by decide) (by decide) S lY ⟨wrap64 (X + off), Y, 1, H⟩ [.int .i64 (wrap64 (X + off)), .int .i64 Y, .int .i64 1, .int .i64 H] (fun _ _ _ => qP _ _ _ _) (by have := zn.out; omega) ?_; clear S lY; intro Aq2 cq2 oq2 dJ S lY; clear a_ aW aX))
       go_meet
       case rel => exact ⟨off + 1, _, _, _, _, (by rw [List.length_append]; rfl), (by rw [NZ.out]), ⟨by have := HO.out; rw [List.length_append, List.length_singleton]; omega⟩, HG2, lY, ⟨S.out.rq.rq.uS.rq⟩⟩
      case neg =>
       have HX := ae.mk (show ax = 2 by have := o_.out; omega)
       obtain ⟨hxa, hxb, hxd⟩ := eqF (a := ax) (b := 1) (by omega)
       clear hx
       have J4 := ae.mk (show nG ax (S0 + off) T0 E 1 = (⟨X, wrap64 (Y + off), Wd, 1⟩ : dD) by have hb := HB.out; have ho := HO.out; have hs := HS2.out HX.out; rw [HX.out, piece2, hs.1, hs.2.1, hs.2.2.2, show wrap64 (Y + off) = Y + off by rw [hs.1] at hb; unfold wrap64; omega])
       have HG2 := ae.mk (show zN ax S0 T0 D E (off + 1) ps (ls ++ [(⟨X, wrap64 (Y + off), Wd, 1⟩ : dD)]) n ns = R by rw [← J4.out]; exact QT.out)
       have a_ := (S.out.at kR 0).trans rfl
       have aW := (S.out.at kR 1).trans rfl
       have aY := (S.out.at kR 2).trans rfl
       go_wp2_with ((refine gm 74 rfl ?_; at_builtin; replace S := ae.mk S.out.tC; refine uQ k23 23 rfl 63 73 42 _ 32 Try.underlying42 info23 rfl (by decide) (by decide) (by decide) S lY ⟨X, wrap64 (Y + off), Wd, 1⟩ [.int .i64 X, .int .i64 (wrap64 (Y + off)), .int .i64 Wd, .int .i64 1] (fun _ _ _ => qP _ _ _ _) (by have := zn.out; omega) ?_; clear S lY; intro Aq2 cq2 oq2 dJ S lY; clear a_ aW aY))
       go_meet
       case rel => exact ⟨off + 1, _, _, _, _, (by rw [List.length_append]; rfl), (by rw [NZ.out]), ⟨by have := HO.out; rw [List.length_append, List.length_singleton]; omega⟩, HG2, lY, ⟨S.out.rq.rq.uS.rq⟩⟩
    case rest =>
     clear S lY HG
     obtain ⟨o', ls', Aq, cq, oq, rfl, rfl, qX, HG, lY, S⟩ := hcut
     rename World => wy
     have zn := ae.mk (show ps.length ≤ 1000000 ∧ ls'.length ≤ 1000001 by have := HO.out; have := qX.out; have := jl.out; omega)
     have hlt := NY.out
     have hrd : rd sizes (pre.length : Int) = n := by rw [← HE.out]; simp [rd, List.getD_eq_getElem?_getD]
     obtain ⟨WN, ek, xi⟩ := Kd.iy (Kd.fK HI.out S.out.below) (pre.length : Int) (Int.natCast_nonneg _) hlt
     subst ek
     rw [hrd] at xi
     simp only [Int.toNat_natCast] at xi
     have HXI := fun (W : World) (h : Below w.heap.size w W) => (show W.cell? (WN.add pre.length) = some (.int .i64 n) by have h2 := Kd.iy (Kd.fK HI.out h) (pre.length : Int) (Int.natCast_nonneg _) NY.out; obtain ⟨ad, e1, e2⟩ := h2; injection e1 with e1; subst e1; simp only [Int.toNat_natCast] at e2; rw [e2, ← HE.out]; simp [rd, List.getD_eq_getElem?_getD])
     have zX := ae.mk HXI
     clear hrd xi HXI
     by_cases hn : n < 1
     case pos =>
      obtain ⟨hna, hnb⟩ := mV (a := n) (b := 1) (by omega)
      have HQ := ae.mk (HG.out.symm.trans (Ai (.inl hn)))
      have xi := zX.out _ S.out.below
      go_wp2
      clear xi
      go_ret3
      rw [HQ.out]
      exact ⟨_, _, _, _, .cells #[] 0 (0, 0), .cells #[] 0 (0, 0), rfl, (fun h => by cases h), S.out.below⟩
     obtain ⟨hna, hnb⟩ := lU (a := n) (b := 1) (by omega)
     by_cases hd : D < n
     case pos =>
      obtain ⟨hda, hdb⟩ := mV (a := D) (b := n) (by omega)
      have HQ := ae.mk (HG.out.symm.trans (Ai (.inr (by have := qX.out; omega))))
      have xi := zX.out _ S.out.below
      go_wp2
      clear xi
      go_ret3
      rw [HQ.out]
      exact ⟨_, _, _, _, .cells #[] 0 (0, 0), .cells #[] 0 (0, 0), rfl, (fun h => by cases h), S.out.below⟩
     obtain ⟨hda, hdb⟩ := lU (a := D) (b := n) (by omega)
     have hg : wrap64 (o' + n) = o' + n := by have := HB.out; have := qX.out; unfold wrap64; omega
     have HWG := ae.mk hg
     by_cases he : D < o' + n
     case pos =>
      obtain ⟨hea, heb⟩ := mV (a := D) (b := wrap64 (o' + n)) (by omega)
      obtain ⟨hfa, hfb⟩ := mV (a := D) (b := o' + n) (by omega)
      have HQ := ae.mk (HG.out.symm.trans (Ai (.inr he)))
      have xi := zX.out _ S.out.below
      go_wp2
      clear xi
      go_ret3
      rw [HQ.out]
      exact ⟨_, _, _, _, .cells #[] 0 (0, 0), .cells #[] 0 (0, 0), rfl, (fun h => by cases h), S.out.below⟩
     obtain ⟨hea, heb⟩ := lU (a := D) (b := wrap64 (o' + n)) (by omega)
     obtain ⟨hfa, hfb⟩ := lU (a := D) (b := o' + n) (by omega)
     have QT := ae.mk ((Oa (fun h => h.elim hn he)).symm.trans HG.out)
     have HN := ae.mk hn
     have HD2 := ae.mk he
     clear hn hd he hg
     by_cases hx : ax = 1
     case pos =>
      have HX := ae.mk hx
      obtain ⟨hxa, hxb, hxd⟩ := yQ (a := ax) (b := 1) (by omega)
      clear hx
      have J4 := ae.mk (show nG ax (S0 + o') T0 E n = (⟨wrap64 (X + o'), Y, n, H⟩ : dD) by have hb := HB.out; have ho := qX.out; have hs := HS1.out HX.out; rw [HX.out, piece1, hs.1, hs.2.1, hs.2.2.2, show wrap64 (X + o') = X + o' by rw [hs.1] at hb; unfold wrap64; omega])
      have HG2 := ae.mk (show nz ax S0 T0 D E (o' + n) false (ps ++ [(⟨wrap64 (X + o'), Y, n, H⟩ : dD)]) ls' ns = R by rw [← J4.out]; exact QT.out)
      have xi := zX.out _ S.out.below
      go_wp2
      clear xi
      go_wp2
      refine ik (n := 17) (S := fun w' => St w _ _ _ _ _ w') (ds := [15]) (bA 17 0) (by kernel_rfl) rfl rfl (S.out.dQ.call (bg (Below.refl _ _))) (fun hHeld => ?_); refine ed xI.ae5 xI.abl (fun aj dW => ?_)
      replace S := ae.mk (S.out.call (bg (Below.refl _ _)))
      generalize wy.drew = yl at S hHeld ⊢
      refine au 0 104 (bA 17 1) aj ?_
      refine au 1 105 (bA 17 3) aj ?_
      refine dS 2 106 (bA 17 7) aj dW hHeld ?_ (hv := by intro w' hs_; have a_ := (hs_.at dN 0).trans rfl; go_simp; with_reducible rfl)
      refine au 3 107 (bA 17 15) aj ?_
      refine au 4 108 (bA 17 31) aj ?_
      refine au 5 109 (bA 17 63) aj ?_
      refine dS 6 110 (bA 17 127) aj dW hHeld ?_ (hv := by intro w' hs_; have aW := (hs_.at dN 1).trans rfl; go_simp; with_reducible rfl)
      refine au 7 111 (bA 17 255) aj ?_
      refine au 8 112 (bA 17 511) aj ?_
      refine au 9 113 (bA 17 1023) aj ?_
      refine dS 10 114 (bA 17 2047) aj dW hHeld ?_ (hv := by intro w' hs_; have xi := zX.out _ hs_.below; go_simp; with_reducible rfl)
      refine au 11 115 (bA 17 4095) aj ?_
      refine dS 12 116 (bA 17 8191) aj dW hHeld ?_ (hv := by intro w' hs_; have aX := (hs_.at dN 3).trans rfl; go_simp; with_reducible rfl)
      refine au 13 117 (bA 17 16383) aj ?_
      refine jR 14 (some 118) (bA 17 32767) aj (fun K hK => ?_)
      refine Uk (w1 := ?_) (v := ?_) (by rfl) rfl ?_ ?_
      rotate_left 2
      ·go_simp
       constructor
       ·rfl
       ·rfl
      refine hK.out _ _ (S.out.dQ.call (jd (Below.refl _ _) _)) (fun hHeld => ?_)
      clear hK K
      refine eF 118 ?_
      refine oH 15 (some 119) (bA 17 65535) aj (fun K hK => ?_)
      refine KN k23 23 rfl 104 118 42 _ 32 Try.underlying42 info23 rfl (by decide) (by decide) (by decide) S iw ⟨wrap64 (X + o'), Y, n, H⟩ [.int .i64 (wrap64 (X + o')), .int .i64 Y, .int .i64 n, .int .i64 H] (fun _ _ _ => qP _ _ _ _) (by have := zn.out; omega) ?_
      clear S iw
      intro JQ cp2 MW fU S iw
      refine hK.out _ _ ?_
      clear hK K
      refine eF 119 ?_
      refine au 16 11 (bA 17 131071) aj ?_
      refine ji (fP aj.out (by kernel_rfl)) ?_
      clear hHeld
      have xi := zX.out _ S.out.below
      go_wp2
      clear xi
      have hw1 := HW1.out
      go_wp2
      go_roundg ns.length
      case measure => exact Nat.lt_of_lt_of_le (Nat.lt_succ_self _) gz.out
      case rel => exact ⟨pre ++ [n], ns, o' + n, _, ls', _, _, _, _, _, _, (by rw [List.length_append]; rfl), rfl, (by rw [HWG.out]), (by rw [hw1]), ⟨by rw [List.append_assoc]; exact HE.out⟩, Nat.le_refl _, ⟨by have := HO.out; have := qX.out; have := HN.out; have := HD2.out; simp only [List.length_append, List.length_singleton]; omega⟩, ⟨by rw [show ((pre ++ [n]).length == 0) = false by simp]; exact HG2.out⟩, iw, lY, ⟨S.out.rq.rq.rq.rq⟩⟩
     case neg =>
      have HX := ae.mk (show ax = 2 by have := o_.out; omega)
      obtain ⟨hxa, hxb, hxd⟩ := eqF (a := ax) (b := 1) (by omega)
      clear hx
      have J4 := ae.mk (show nG ax (S0 + o') T0 E n = (⟨X, wrap64 (Y + o'), Wd, n⟩ : dD) by have hb := HB.out; have ho := qX.out; have hs := HS2.out HX.out; rw [HX.out, piece2, hs.1, hs.2.1, hs.2.2.2, show wrap64 (Y + o') = Y + o' by rw [hs.1] at hb; unfold wrap64; omega])
      have HG2 := ae.mk (show nz ax S0 T0 D E (o' + n) false (ps ++ [(⟨X, wrap64 (Y + o'), Wd, n⟩ : dD)]) ls' ns = R by rw [← J4.out]; exact QT.out)
      have xi := zX.out _ S.out.below
      go_wp2
      clear xi
      go_wp2
      refine ik (n := 17) (S := fun w' => St w _ _ _ _ _ w') (ds := [15]) (bA 17 0) (by kernel_rfl) rfl rfl (S.out.dQ.call (bg (Below.refl _ _))) (fun hHeld => ?_); refine ed xJ.ae6 xJ.abm (fun aj dW => ?_)
      replace S := ae.mk (S.out.call (bg (Below.refl _ _)))
      generalize wy.drew = yl at S hHeld ⊢
      refine au 0 120 (bA 17 1) aj ?_
      refine au 1 121 (bA 17 3) aj ?_
      refine dS 2 122 (bA 17 7) aj dW hHeld ?_ (hv := by intro w' hs_; have a_ := (hs_.at dN 0).trans rfl; go_simp; with_reducible rfl)
      refine au 3 123 (bA 17 15) aj ?_
      refine dS 4 124 (bA 17 31) aj dW hHeld ?_ (hv := by intro w' hs_; have aW := (hs_.at dN 1).trans rfl; go_simp; with_reducible rfl)
      refine au 5 125 (bA 17 63) aj ?_
      refine au 6 126 (bA 17 127) aj ?_
      refine au 7 127 (bA 17 255) aj ?_
      refine dS 8 128 (bA 17 511) aj dW hHeld ?_ (hv := by intro w' hs_; have aY := (hs_.at dN 2).trans rfl; go_simp; with_reducible rfl)
      refine au 9 129 (bA 17 1023) aj ?_
      refine au 10 130 (bA 17 2047) aj ?_
      refine au 11 131 (bA 17 4095) aj ?_
      refine dS 12 132 (bA 17 8191) aj dW hHeld ?_ (hv := by intro w' hs_; have xi := zX.out _ hs_.below; go_simp; with_reducible rfl)
      refine au 13 133 (bA 17 16383) aj ?_
      refine jR 14 (some 134) (bA 17 32767) aj (fun K hK => ?_)
      refine Uk (w1 := ?_) (v := ?_) (by rfl) rfl ?_ ?_
      rotate_left 2
      ·go_simp
       constructor
       ·rfl
       ·rfl
      refine hK.out _ _ (S.out.dQ.call (jd (Below.refl _ _) _)) (fun hHeld => ?_)
      clear hK K
      refine eF 134 ?_
      refine oH 15 (some 135) (bA 17 65535) aj (fun K hK => ?_)
      refine KN k23 23 rfl 120 134 42 _ 32 Try.underlying42 info23 rfl (by decide) (by decide) (by decide) S iw ⟨X, wrap64 (Y + o'), Wd, n⟩ [.int .i64 X, .int .i64 (wrap64 (Y + o')), .int .i64 Wd, .int .i64 n] (fun _ _ _ => qP _ _ _ _) (by have := zn.out; omega) ?_
      clear S iw
      intro JQ cp2 MW fU S iw
      refine hK.out _ _ ?_
      clear hK K
      refine eF 135 ?_
      refine au 16 11 (bA 17 131071) aj ?_
      refine ji (fP aj.out (by kernel_rfl)) ?_
      clear hHeld
      have xi := zX.out _ S.out.below
      go_wp2
      clear xi
      have hw1 := HW1.out
      go_wp2
      go_roundg ns.length
      case measure => exact Nat.lt_of_lt_of_le (Nat.lt_succ_self _) gz.out
      case rel => exact ⟨pre ++ [n], ns, o' + n, _, ls', _, _, _, _, _, _, (by rw [List.length_append]; rfl), rfl, (by rw [HWG.out]), (by rw [hw1]), ⟨by rw [List.append_assoc]; exact HE.out⟩, Nat.le_refl _, ⟨by have := HO.out; have := qX.out; have := HN.out; have := HD2.out; simp only [List.length_append, List.length_singleton]; omega⟩, ⟨by rw [show ((pre ++ [n]).length == 0) = false by simp]; exact HG2.out⟩, iw, lY, ⟨S.out.rq.rq.rq.rq⟩⟩
theorem Wi (c : ai) (hl : c.f3.length ≤ 1000000) (b : Nat) (P : Nat → Prop) (A : Option Addr) (cc : Nat) (w : World) (hv : Kd.V k26 26 w b P (.slice A c.f3.length cc) c.f3) :
  Calls Try.prog 194 #[.agg #[.int .u8 c.f0, .int .i64 c.f1.f0, .int .i64 c.f1.f1, .int .i64 c.f1.f2, .int .i64 c.f1.f3, .int .i64 c.f2, .slice A c.f3.length cc]] w fun e w' => ∃ A' c', e = .returned (.slice A' (iV c).length c') ∧ (Kd.int .i64).R 3 w' w.heap.size (fun _ => True) (.slice A' (iV c).length c') (iV c) ∧ Below w.heap.size w w' := by
 have S := ae.mk (St.start (ts := [(.slice A c.f3.length cc, c.f3)]) (b0 := w.heap.size) (w := w) (P := P) (fun t ht => by rw [List.mem_singleton.1 ht]; exact f_ hv))
 have jl := ae.mk hl
 clear hl hv
 obtain ⟨ck, ⟨cx, cy, cw, ch⟩, aK, l⟩ := c
 simp only [] at S jl ⊢
 rw [show iV ⟨ck, ⟨cx, cy, cw, ch⟩, aK, l⟩ = l.map (qi ck) from rfl]
 simp only [List.length_map]
 go_enter Try.func194, Try.ntmps194
 go_wp2_with (first
  | (refine boxS 1 _ 26 S ?_; clear S; intro b1 dJ S)
  | (refine gm 5 rfl ?_; refine lL (Kd.int .i64) 3 rfl 5 S ?_; clear S; intro Ap cp op dX S iw; have iD := (S.out.at bG 6).trans rfl)
  | fail)
 clear iD
 go_loopg [3, 9] l.length (fun gg v3 v9 wr => ∃ (pre rest : List ai) (Ap : Option Addr) (cp : Nat) (op : Obj), v3 = .slice Ap pre.length cp ∧ v9 = .int .i64 (pre.length : Int) ∧ ae (pre ++ rest = l) ∧ rest.length ≤ gg ∧ ae (KR (Kd.int .i64) 3 w.heap.size (.slice Ap pre.length cp) (pre.map (qi ck)) op) ∧ ae (St w P [((Value.slice Ap pre.length cp).ownBlock, op), (some b1, .cells #[.int .u8 ck, .int .i64 cx, .int .i64 cy, .int .i64 cw, .int .i64 ch, .int .i64 aK, .slice A l.length cc] 26 (0, 0))] [] [(.slice A l.length cc, l)] [] wr))
 case atStart => exact ⟨[], l, _, _, _, rfl, rfl, ⟨rfl⟩, Nat.le_refl _, iw, S⟩
 case round =>
  clear S iw
  obtain ⟨pre, rest, Ap, cp, op, rfl, rfl, HE, hgg, iw, S⟩ := hrel
  cases rest with
  | nil =>
   have hE := HE.out
   rw [List.append_nil] at hE
   have hE2 := hE.symm
   subst hE2
   clear hE HE hgg
   have hlt : ¬ ((l.length : Int) < (l.length : Int)) := by omega
   go_wp2
   go_ret
   exact ⟨_, _, rfl, S.out.Fh iw.out (.head _), S.out.below⟩
  | cons k rest =>
   have hk : k ∈ l := by rw [← HE.out]; simp
   have hlt : (pre.length : Int) < (l.length : Int) := by rw [← HE.out, List.length_append, List.length_cons]; omega
   have hw1 : wrap64 ((pre.length : Int) + 1) = ((pre ++ [k]).length : Int) := by have := jl.out; rw [List.length_append, List.length_singleton]; unfold wrap64; omega
   have HW1 := ae.mk hw1
   have gz := ae.mk hgg
   have HK := ae.mk hk
   have Eh := ae.mk (show pre.length ≤ 1048576 by have := jl.out; omega)
   obtain ⟨ku, ua, uc, ek, S1⟩ := S.out.elem (.head _) (pre.length : Int) (Int.natCast_nonneg _) hlt
   subst ek
   have hrd : az l (pre.length : Int) = k := by rw [← HE.out]; exact lN pre k rest
   rw [hrd] at S1
   simp only [Int.toNat_natCast] at S1
   replace S := ae.mk S1
   clear S1 hrd hk hgg hw1
   by_cases hk2 : ck = 2
   case pos =>
    have hka : (ck == 2) = true := beq_iff_eq.mpr hk2
    have hkb : decide (ck = 2) = true := decide_eq_true hk2
    have J7 := ae.mk (show (pre ++ [k]).map (qi ck) = pre.map (qi ck) ++ [k.f1.f2] by rw [List.map_append]; exact congrArg (pre.map (qi ck) ++ [·]) (if_pos hk2))
    clear hk2
    have fO := (S.out.at bG 0).trans rfl
    have iD := (S.out.at bG 6).trans rfl
    have jv := (S.out.cell _ kR).1
    go_wp2_with (first
     | (refine gm 24 rfl ?_; at_builtin; refine uQ (Kd.int .i64) 3 rfl 15 23 41 (.int .i64 0) 8 Try.underlying41 info3 rfl (by decide) (by decide) (by decide) S iw k.f1.f2 [.int .i64 k.f1.f2] (fun _ _ _ => rfl) (by have := Eh.out; simp only [List.length_map]; omega) ?_; clear S iw; intro JQ cp2 MW fU S iw; clear fO iD jv)
     | fail)
    have e2 : ((pre.map (qi ck)) ++ [k.f1.f2]).length = (pre ++ [k]).length := by simp
    rw [e2, ← J7.out] at iw
    rw [e2] at S
    have hw1 := HW1.out
    go_wp2
    go_roundg rest.length
    case measure => exact Nat.lt_of_lt_of_le (Nat.lt_succ_self _) gz.out
    case rel => exact ⟨pre ++ [k], rest, _, _, _, (by rw [List.length_append]; rfl), (by rw [hw1]), ⟨by rw [List.append_assoc]; exact HE.out⟩, Nat.le_refl _, iw, ⟨S.out.tC.tC.dG.bQ.bQ.bQ.bQ.bQ.bQ.bQ⟩⟩
   case neg =>
    have hka : (ck == 2) = false := beq_eq_false_iff_ne.mpr hk2
    have hkb : decide (ck = 2) = false := decide_eq_false hk2
    have J7 := ae.mk (show (pre ++ [k]).map (qi ck) = pre.map (qi ck) ++ [k.f1.f3] by rw [List.map_append]; exact congrArg (pre.map (qi ck) ++ [·]) (if_neg hk2))
    clear hk2
    have fO := (S.out.at bG 0).trans rfl
    have iD := (S.out.at bG 6).trans rfl
    have jw := (S.out.cell _ qg).1
    go_wp2_with (first
     | (refine gm 34 rfl ?_; at_builtin; refine uQ (Kd.int .i64) 3 rfl 25 33 41 (.int .i64 0) 8 Try.underlying41 info3 rfl (by decide) (by decide) (by decide) S iw k.f1.f3 [.int .i64 k.f1.f3] (fun _ _ _ => rfl) (by have := Eh.out; simp only [List.length_map]; omega) ?_; clear S iw; intro JQ cp2 MW iW S iw; clear fO iD jw)
     | fail)
    have e2 : ((pre.map (qi ck)) ++ [k.f1.f3]).length = (pre ++ [k]).length := by simp
    rw [e2, ← J7.out] at iw
    rw [e2] at S
    have hw1 := HW1.out
    go_wp2
    go_roundg rest.length
    case measure => exact Nat.lt_of_lt_of_le (Nat.lt_succ_self _) gz.out
    case rel => exact ⟨pre ++ [k], rest, _, _, _, (by rw [List.length_append]; rfl), (by rw [hw1]), ⟨by rw [List.append_assoc]; exact HE.out⟩, Nat.le_refl _, iw, ⟨S.out.tC.tC.dG.bQ.bQ.bQ.bQ.bQ.bQ.bQ⟩⟩
def uw.T3 : Bool × List (List Nat × List Nat) := (true, [([], []), ([0], [0]), ([], []), ([2], [2]), ([3], [3]), ([], []), ([5], [5]), ([1, 4, 6, 6], [1, 4, 6]), ([7], [7]), ([8], [8]), ([8], [8]), ([8], [8]), ([9, 7, 0, 1, 2, 3, 4, 5, 6, 7, 8, 9], [9]), ([10, 12, 0, 1, 2, 3, 4, 5, 6, 7, 8, 9, 10, 12], [10]), ([11, 13, 0, 1, 2, 3, 4, 5, 6, 7, 8, 9, 10, 11, 12, 13], [11])])
def uw.B3 : List Nat := [0, 1, 0, 4, 12, 0, 32, 127, 255, 511, 511, 511, 1023, 6143, 16383]
theorem uw.QD : g_ .any (opsOf Try.f178 3) = uw.T3 := by kernel_rfl
theorem uw.JH : iL uw.T3.2 uw.B3 = true := by kernel_rfl
def uy.T9 : Bool × List (List Nat × List Nat) := (true, [([], []), ([], []), ([0, 1], [0, 1]), ([2], [2]), ([], []), ([4], [4]), ([], []), ([5, 6], [5, 6]), ([7], [7]), ([8], [8]), ([3, 9], [3, 9])])
def uy.B9 : List Nat := [0, 0, 3, 7, 0, 16, 0, 112, 240, 496, 1023]
theorem uy.zk : g_ .any (opsOf Try.f178 9) = uy.T9 := by kernel_rfl
theorem uy.vI : iL uy.T9.2 uy.B9 = true := by kernel_rfl
theorem TK (c : ai) (hl : c.f3.length ≤ 1000000) (b : Nat) (P : Nat → Prop) (A : Option Addr) (cc : Nat) (w : World) (hv : Kd.V k26 26 w b P (.slice A c.f3.length cc) c.f3) :
  Calls Try.prog 178 #[.agg #[.int .u8 c.f0, .int .i64 c.f1.f0, .int .i64 c.f1.f1, .int .i64 c.f1.f2, .int .i64 c.f1.f3, .int .i64 c.f2, .slice A c.f3.length cc]] w (Pz w c) := by
 have S := ae.mk (St.start (ts := [(.slice A c.f3.length cc, c.f3)]) (b0 := w.heap.size) (w := w) (P := P) (fun t ht => by rw [List.mem_singleton.1 ht]; exact f_ hv))
 have jl := ae.mk hl
 have hsz := fun b P A cc w hv => Wi c hl b P A cc w hv
 obtain ⟨T, hT⟩ : ∃ T, T = xW c := ⟨_, rfl⟩
 have hlen : T.2.2 = true → T.1.length = c.f3.length := fun h => by rw [hT] at h ⊢; rw [(CJ h).2.1, Lt]; simp [iV]
 have hl2 : T.2.1.length ≤ c.f3.length := by rw [hT]; exact (Lu c).2
 have hcut := fun B cb w hi => ado c.f1.f0 c.f1.f1 c.f1.f2 c.f1.f3 ((c.f0 - 1) % 256) (iV c) (by simpa [iV] using hl) B cb w hi
 rw [show ql c.f1.f0 c.f1.f1 c.f1.f2 c.f1.f3 ((c.f0 - 1) % 256) (iV c) = T by rw [hT, XO]; rfl] at hcut
 have ho : mr c = BH c T := by rw [hT]; rfl
 generalize iV c = SL at hsz hcut
 unfold Pz
 generalize mr c = v at ho ⊢
 clear hT hl hv
 obtain ⟨ck, ⟨cx, cy, cw, ch⟩, aK, l⟩ := c
 obtain ⟨t1, t2, t3⟩ := T
 simp only [BH] at S jl hsz hlen hl2 hcut ho ⊢
 have HZC := ae.mk hsz
 have HL2 := ae.mk hl2
 clear hsz hl2
 by_cases h1 : ck = 1
 case pos =>
  have hv : v = true := by rw [ho, h1]; rfl
  have ha : (ck == 1) = true := beq_iff_eq.mpr h1
  have hb : decide (ck = 1) = true := decide_eq_true h1
  have HL := ae.mk hv
  clear hv h1 ho hcut hlen
  go_enter Try.func178, Try.ntmps178
  go_wp2_with (first | (refine boxS 1 _ 26 S ?_; clear S; intro b1 dJ S; have fO := (S.out.at (.head _) 0).trans rfl) | (refine gm 11 rfl ?_; refine lL k23 23 rfl 11 S ?_; clear S; intro ajG ajP aj2 dX S yg; clear fO))
  go_ret2
  rw [HL.out]
  exact ⟨_, _, _, rfl, fun _ => ⟨[], rfl, Nat.zero_le _, S.out.Fh yg.out (.head _)⟩, S.out.below⟩
 have ha : (ck == 1) = false := beq_eq_false_iff_ne.mpr h1
 have hd : decide (ck = 1) = false := decide_eq_false h1
 rw [ha, Bool.false_or] at ho
 clear h1
 cases t3 with
 | false =>
  rw [Bool.false_and] at ho
  have HL := ae.mk ho
  have FT := ae.mk (fun B cb w hi => LC (hcut B cb w hi))
  clear hcut ho hlen
  go_enter Try.func178, Try.ntmps178
  go_wp2_with ((refine boxS 1 _ 26 S ?_; clear S; intro b1 dJ S; have fO := (S.out.at (.head _) 0).trans rfl))
  clear fO
  refine ik (n := 15) (S := fun w' => St w _ _ _ _ _ w') (ds := []) (bA 15 0) (by kernel_rfl) rfl rfl (S.out.call (bg (Below.refl _ _))) (fun hHeld => ?_); refine ed uw.QD uw.JH (fun aj dW => ?_)
  replace S := ae.mk (S.out.call (bg (Below.refl _ _)))
  generalize dJ.drew = wd2 at S hHeld ⊢
  refine au 0 13 (bA 15 1) aj ?_
  refine dS 1 14 (bA 15 3) aj dW hHeld ?_ (hv := by intro w' hs_; have jS := (hs_.at (.head _) 1).trans rfl; have jT := (hs_.at (.head _) 2).trans rfl; have jU := (hs_.at (.head _) 3).trans rfl; have jV := (hs_.at (.head _) 4).trans rfl; go_simp; with_reducible rfl)
  refine au 2 15 (bA 15 7) aj ?_
  refine dS 3 16 (bA 15 15) aj dW hHeld ?_ (hv := by intro w' hs_; have fO := (hs_.at (.head _) 0).trans rfl; go_simp; with_reducible rfl)
  refine au 4 17 (bA 15 31) aj ?_
  refine dS 5 18 (bA 15 63) aj dW hHeld ?_ (hv := by intro w' hs_; have fO := (hs_.at (.head _) 0).trans rfl; have jS := (hs_.at (.head _) 1).trans rfl; have jT := (hs_.at (.head _) 2).trans rfl; have jU := (hs_.at (.head _) 3).trans rfl; have jV := (hs_.at (.head _) 4).trans rfl; have lV := (hs_.at (.head _) 5).trans rfl; have iD := (hs_.at (.head _) 6).trans rfl; go_simp; with_reducible rfl)
  refine jR 6 (some 19) (bA 15 127) aj (fun K hK => ?_)
  refine jB Try.func194 (by kernel_rfl) rfl #[.agg #[.int .u8 ck, .int .i64 cx, .int .i64 cy, .int .i64 cw, .int .i64 ch, .int .i64 aK, .slice A l.length cc]] (by rfl) rfl rfl (by (try simp only [List.map_toArray, List.map_cons, List.map_nil]); rfl) ?_
  refine (HZC.out _ _ _ _ _ (S.out.tree _ (.head _))).mono ?_
  rintro e fU ⟨As, cs, rfl, h1, hb⟩
  refine ⟨_, rfl, ?_⟩
  obtain ⟨os, S1, hI⟩ := S.out.Fz (d := Kd.int .i64) (e := 3) rfl h1 hb
  replace S := ae.mk S1
  have HKs := ae.mk hI
  clear S1 hI h1 hb
  refine hK.out _ _ S.out.dQ (fun hHeld => ?_)
  clear hK K
  refine eF 19 ?_
  refine jR 7 (some 20) (bA 15 255) aj (fun K hK => ?_)
  refine jB Try.func46 (by kernel_rfl) rfl #[.agg #[.int .i64 cx, .int .i64 cy, .int .i64 cw, .int .i64 ch], .int .u8 ((ck - 1) % 256), .slice As SL.length cs] (by rfl) rfl rfl (by (try simp only [List.map_toArray, List.map_cons, List.map_nil]); rfl) ?_
  refine (FT.out _ _ _ (Kd.dP (J9 HKs.out S.out (.head _))).2.2).mono ?_
  rintro e iW ⟨Ap, np, cp, Aq, nq, cq, rfl, hb⟩
  refine ⟨_, rfl, ?_⟩
  replace S := ae.mk (S.out.call hb)
  clear hb
  refine hK.out _ _ S.out.dQ (fun hHeld => ?_)
  clear hK K
  refine eF 20 ?_
  refine au 8 12 (bA 15 511) aj ?_
  refine au 9 21 (bA 15 1023) aj ?_
  refine au 10 22 (bA 15 2047) aj ?_
  refine au 11 23 (bA 15 4095) aj ?_
  refine au 12 4 (bA 15 8191) aj ?_
  refine au 13 5 (bA 15 16383) aj ?_
  refine au 14 6 (bA 15 32767) aj ?_
  refine ji (fP aj.out (by kernel_rfl)) ?_
  clear hHeld
  go_wp2
  go_ret2
  rw [HL.out]
  exact ⟨_, _, _, rfl, (fun h => by cases h), S.out.below⟩
 | true =>
  replace hlen := hlen rfl
  rw [Bool.true_and, show (l.length == t1.length) = true from beq_iff_eq.mpr hlen.symm, Bool.true_and] at ho
  have HL := ae.mk ho
  have zn := ae.mk hlen
  have FT := ae.mk (fun B cb w hi => Ob (hcut B cb w hi))
  clear hcut ho hlen
  go_enter Try.func178, Try.ntmps178
  go_wp2_with ((refine boxS 1 _ 26 S ?_; clear S; intro b1 dJ S; have fO := (S.out.at (.head _) 0).trans rfl))
  clear fO
  refine ik (n := 15) (S := fun w' => St w _ _ _ _ _ w') (ds := []) (bA 15 0) (by kernel_rfl) rfl rfl (S.out.call (bg (Below.refl _ _))) (fun hHeld => ?_); refine ed uw.QD uw.JH (fun aj dW => ?_)
  replace S := ae.mk (S.out.call (bg (Below.refl _ _)))
  generalize dJ.drew = wd2 at S hHeld ⊢
  refine au 0 13 (bA 15 1) aj ?_
  refine dS 1 14 (bA 15 3) aj dW hHeld ?_ (hv := by intro w' hs_; have jS := (hs_.at (.head _) 1).trans rfl; have jT := (hs_.at (.head _) 2).trans rfl; have jU := (hs_.at (.head _) 3).trans rfl; have jV := (hs_.at (.head _) 4).trans rfl; go_simp; with_reducible rfl)
  refine au 2 15 (bA 15 7) aj ?_
  refine dS 3 16 (bA 15 15) aj dW hHeld ?_ (hv := by intro w' hs_; have fO := (hs_.at (.head _) 0).trans rfl; go_simp; with_reducible rfl)
  refine au 4 17 (bA 15 31) aj ?_
  refine dS 5 18 (bA 15 63) aj dW hHeld ?_ (hv := by intro w' hs_; have fO := (hs_.at (.head _) 0).trans rfl; have jS := (hs_.at (.head _) 1).trans rfl; have jT := (hs_.at (.head _) 2).trans rfl; have jU := (hs_.at (.head _) 3).trans rfl; have jV := (hs_.at (.head _) 4).trans rfl; have lV := (hs_.at (.head _) 5).trans rfl; have iD := (hs_.at (.head _) 6).trans rfl; go_simp; with_reducible rfl)
  refine jR 6 (some 19) (bA 15 127) aj (fun K hK => ?_)
  refine jB Try.func194 (by kernel_rfl) rfl #[.agg #[.int .u8 ck, .int .i64 cx, .int .i64 cy, .int .i64 cw, .int .i64 ch, .int .i64 aK, .slice A l.length cc]] (by rfl) rfl rfl (by (try simp only [List.map_toArray, List.map_cons, List.map_nil]); rfl) ?_
  refine (HZC.out _ _ _ _ _ (S.out.tree _ (.head _))).mono ?_
  rintro e fU ⟨As, cs, rfl, h1, hb⟩
  refine ⟨_, rfl, ?_⟩
  obtain ⟨os, S1, hI⟩ := S.out.Fz (d := Kd.int .i64) (e := 3) rfl h1 hb
  replace S := ae.mk S1
  have HKs := ae.mk hI
  clear S1 hI h1 hb
  refine hK.out _ _ S.out.dQ (fun hHeld => ?_)
  clear hK K
  refine eF 19 ?_
  refine jR 7 (some 20) (bA 15 255) aj (fun K hK => ?_)
  refine jB Try.func46 (by kernel_rfl) rfl #[.agg #[.int .i64 cx, .int .i64 cy, .int .i64 cw, .int .i64 ch], .int .u8 ((ck - 1) % 256), .slice As SL.length cs] (by rfl) rfl rfl (by (try simp only [List.map_toArray, List.map_cons, List.map_nil]); rfl) ?_
  refine (FT.out _ _ _ (Kd.dP (J9 HKs.out S.out (.head _))).2.2).mono ?_
  rintro e iW ⟨Ap, cp, Aq, cq, op, oq, rfl, h1, hb⟩
  refine ⟨_, rfl, ?_⟩
  obtain ⟨S1, hp, hq⟩ := S.out.two h1 hb
  replace S := ae.mk S1
  have iw := ae.mk hp
  have lY := ae.mk hq
  clear S1 hp hq h1 hb
  refine hK.out _ _ S.out.dQ.dQ.dQ (fun hHeld => ?_)
  clear hK K
  refine eF 20 ?_
  refine au 8 12 (bA 15 511) aj ?_
  refine au 9 21 (bA 15 1023) aj ?_
  refine au 10 22 (bA 15 2047) aj ?_
  refine au 11 23 (bA 15 4095) aj ?_
  refine au 12 4 (bA 15 8191) aj ?_
  refine au 13 5 (bA 15 16383) aj ?_
  refine au 14 6 (bA 15 32767) aj ?_
  refine ji (fP aj.out (by kernel_rfl)) ?_
  clear hHeld
  go_wp2
  clear ha hd
  go_loopg [29] t1.length (fun gg v29 wr => ∃ (pre rest : List dD) (pb rb : List ai), v29 = .int .i64 (pre.length : Int) ∧ ae (pre ++ rest = t1) ∧ ae (pb ++ rb = l) ∧ ae (pb.length = pre.length) ∧ ae (rV (fun k r => qB k.f1 r) pb pre = true) ∧ rest.length ≤ gg ∧ ae (St w P [((Value.slice Ap t1.length cp).ownBlock, op), ((Value.slice Aq t2.length cq).ownBlock, oq), ((Value.slice As SL.length cs).ownBlock, os), (some b1, .cells #[.int .u8 ck, .int .i64 cx, .int .i64 cy, .int .i64 cw, .int .i64 ch, .int .i64 aK, .slice A l.length cc] 26 (0, 0))] [] [(.slice A l.length cc, l)] [] wr))
  case atStart => exact ⟨[], t1, [], l, rfl, ⟨rfl⟩, ⟨rfl⟩, ⟨rfl⟩, ⟨Hf _ _⟩, Nat.le_refl _, S⟩
  case round =>
   clear S
   obtain ⟨pre, rest, pb, rb, rfl, HE, HE2, Eg, HSM, hgg, S⟩ := hrel
   have hlr : rb.length = rest.length := by have h1 := congrArg List.length HE.out; have h2 := congrArg List.length HE2.out; rw [List.length_append] at h1 h2; have := Eg.out; have := zn.out; omega
   cases rest with
   | nil =>
    have hrb := List.eq_nil_of_length_eq_zero hlr
    subst hrb
    have hE := HE.out
    rw [List.append_nil] at hE
    have hE3 := HE2.out
    rw [List.append_nil] at hE3
    have HV := ae.mk (show v = true by rw [HL.out, ← hE, ← hE3]; exact HSM.out)
    have hlt : ¬ ((pre.length : Int) < (t1.length : Int)) := by rw [hE]; omega
    have acQ : ¬ (pre.length < t1.length) := by omega
    clear HE HE2 hgg hlr hE hE3
    go_wp2
    go_ret2
    rw [HV.out]
    exact ⟨_, _, _, rfl, fun _ => ⟨t2, rfl, HL2.out, S.out.Fh lY.out bG⟩, S.out.below⟩
   | cons r rest =>
    cases rb with
    | nil => simp at hlr
    | cons k rb =>
     have hlt : (pre.length : Int) < (t1.length : Int) := by rw [← HE.out, List.length_append, List.length_cons]; omega
     have hlt2 : (pb.length : Int) < (l.length : Int) := by rw [← HE2.out, List.length_append, List.length_cons]; omega
     have hlt3 : pre.length < l.length := by have := Eg.out; omega
     have acQ : pre.length < t1.length := by omega
     have hlt4 : (pre.length : Int) < (l.length : Int) := by omega
     have hw1 : wrap64 ((pre.length : Int) + 1) = ((pre ++ [r]).length : Int) := by have := jl.out; have := zn.out; rw [List.length_append, List.length_singleton]; unfold wrap64; omega
     have HW1 := ae.mk hw1
     have gz := ae.mk hgg
     obtain ⟨ku, ua, uc, ek, S1⟩ := S.out.elem (.head _) (pb.length : Int) (Int.natCast_nonneg _) hlt2
     subst ek
     have hrd : az l (pb.length : Int) = k := by rw [← HE2.out]; exact lN pb k rb
     rw [hrd] at S1
     simp only [Int.toNat_natCast] at S1
     rw [Eg.out] at S1
     replace S := ae.mk S1
     obtain ⟨yh, ep, hel⟩ := aa3 iw.out (S.out.blk _ (.head _)) pre rest r HE.out
     subst ep
     have FU := ae.mk hel
     clear S1 hrd hgg hw1 hlr hel hlt2
     cases hq : qB k.f1 r with
     | false =>
      have HQ := ae.mk hq
      have HV := ae.mk (show v = false by rw [HL.out, ← HE.out, ← HE2.out, Oe Eg.out, HSM.out]; simp [rV, hq])
      clear hq
      go_wp2
      refine ik (n := 11) (S := fun w' => St w _ _ _ _ _ w') (ds := []) (bA 11 0) (by kernel_rfl) rfl rfl (S.out.call (bg (Below.refl _ _))) (fun hHeld => ?_); refine ed uy.zk uy.vI (fun aj dW => ?_)
      replace S := ae.mk (S.out.call (bg (Below.refl _ _)))
      generalize wr.drew = yl at S hHeld ⊢
      refine au 0 32 (bA 11 1) aj ?_
      refine au 1 33 (bA 11 3) aj ?_
      refine au 2 34 (bA 11 7) aj ?_
      refine dS 3 35 (bA 11 15) aj dW hHeld ?_ (hv := by intro w' hs_; have xp0 := (FU.out _ (hs_.blk _ (.head _))).1; have xp1 := (FU.out _ (hs_.blk _ (.head _))).2.1; have xp2 := (FU.out _ (hs_.blk _ (.head _))).2.2.1; have xp3 := (FU.out _ (hs_.blk _ (.head _))).2.2.2; go_simp; with_reducible rfl)
      refine au 4 36 (bA 11 31) aj ?_
      refine dS 5 37 (bA 11 63) aj dW hHeld ?_ (hv := by intro w' hs_; have iD := (hs_.at kR 6).trans rfl; go_simp; with_reducible rfl)
      refine au 6 38 (bA 11 127) aj ?_
      refine au 7 39 (bA 11 255) aj ?_
      refine au 8 40 (bA 11 511) aj ?_
      refine dS 9 41 (bA 11 1023) aj dW hHeld ?_ (hv := by intro w' hs_; have iY := (hs_.cell _ bG).1; have jH := (hs_.cell _ dN).1; have jv := (hs_.cell _ kR).1; have jw := (hs_.cell _ qg).1; go_simp; with_reducible rfl)
      refine dS 10 42 (bA 11 2047) aj dW hHeld ?_ (hv := by intro w' hs_; go_simp; exact ada HQ.out _ _)
      refine ji (fP aj.out (by kernel_rfl)) ?_
      clear hHeld
      go_wp2_with ((refine gm 43 rfl ?_; refine lL k23 23 rfl 43 S ?_; clear S; intro ajH ajQ aj3 dX S yg))
      go_ret2
      rw [HV.out]
      exact ⟨_, _, _, rfl, (fun h => by cases h), S.out.below⟩
     | true =>
      have HEQ := ae.mk (show rV (fun k r => qB k.f1 r) (pb ++ [k]) (pre ++ [r]) = true by rw [Oe Eg.out, HSM.out]; simp [rV, hq])
      obtain ⟨q0, q1, q2, q3⟩ := r
      unfold qB at hq
      simp only [Bool.and_eq_true, beq_iff_eq] at hq
      obtain ⟨e0, e1, e2, e3⟩ := hq
      subst e0 e1 e2 e3
      simp only [] at FU
      go_wp2
      refine ik (n := 11) (S := fun w' => St w _ _ _ _ _ w') (ds := []) (bA 11 0) (by kernel_rfl) rfl rfl (S.out.call (bg (Below.refl _ _))) (fun hHeld => ?_); refine ed uy.zk uy.vI (fun aj dW => ?_)
      replace S := ae.mk (S.out.call (bg (Below.refl _ _)))
      generalize wr.drew = yl at S hHeld ⊢
      refine au 0 32 (bA 11 1) aj ?_
      refine au 1 33 (bA 11 3) aj ?_
      refine au 2 34 (bA 11 7) aj ?_
      refine dS 3 35 (bA 11 15) aj dW hHeld ?_ (hv := by intro w' hs_; have xp0 := (FU.out _ (hs_.blk _ (.head _))).1; have xp1 := (FU.out _ (hs_.blk _ (.head _))).2.1; have xp2 := (FU.out _ (hs_.blk _ (.head _))).2.2.1; have xp3 := (FU.out _ (hs_.blk _ (.head _))).2.2.2; go_simp; with_reducible rfl)
      refine au 4 36 (bA 11 31) aj ?_
      refine dS 5 37 (bA 11 63) aj dW hHeld ?_ (hv := by intro w' hs_; have iD := (hs_.at kR 6).trans rfl; go_simp; with_reducible rfl)
      refine au 6 38 (bA 11 127) aj ?_
      refine au 7 39 (bA 11 255) aj ?_
      refine au 8 40 (bA 11 511) aj ?_
      refine dS 9 41 (bA 11 1023) aj dW hHeld ?_ (hv := by intro w' hs_; have iY := (hs_.cell _ bG).1; have jH := (hs_.cell _ dN).1; have jv := (hs_.cell _ kR).1; have jw := (hs_.cell _ qg).1; go_simp; with_reducible rfl)
      refine au 10 42 (bA 11 2047) aj ?_
      refine ji (fP aj.out (by kernel_rfl)) ?_
      clear hHeld
      go_wp2
      have hw1 := HW1.out
      go_wp2
      go_roundg rest.length
      case measure => exact Nat.lt_of_lt_of_le (Nat.lt_succ_self _) gz.out
      case rel => exact ⟨pre ++ [_], rest, pb ++ [k], rb, (by rw [hw1]), ⟨by rw [List.append_assoc]; exact HE.out⟩, ⟨by rw [List.append_assoc]; exact HE2.out⟩, ⟨by rw [List.length_append, List.length_append, Eg.out]; rfl⟩, HEQ, Nat.le_refl _, ⟨S.out.dG.bQ.bQ.bQ.bQ.bQ.bQ.bQ⟩⟩
section
variable {W : World} {b : Nat} {P : Nat → Prop} {A : Option Addr} {cc : Nat}
theorem Rq (c : ai) (hz : sz c ≤ 1048576) (hV : Kd.V k26 26 W b P (.slice A c.f3.length cc) c.f3) :
  Calls Try.prog 79 #[.agg #[.int .u8 c.f0, .int .i64 c.f1.f0, .int .i64 c.f1.f1, .int .i64 c.f1.f2, .int .i64 c.f1.f3, .int .i64 c.f2, .slice A c.f3.length cc]] W fun e w' => ∃ A' c', e = .returned (.slice A' (fJ c).length c') ∧ Kd.N k26 26 w' W.heap.size (fun k => P k ∨ W.heap.size ≤ k) (.slice A' (fJ c).length c') (fJ c) ∧ Below W.heap.size W w' := by
 obtain ⟨k, hk⟩ := (IZ (sz c) c (Nat.le_refl _) hz).rounds
 exact (dB.calls k _ _ _ _ _ _ P A cc c.f3 _ W (f_ hV) hk).mono (fun e w' ⟨v, he, hN, hB⟩ => by
  obtain ⟨A', c', rfl⟩ := Kd.jm hN
  exact ⟨A', c', he, hN, hB⟩)
theorem Vz (c : ai) (hz : sz c ≤ 1048576) (hV : Kd.V k26 26 W b P (.slice A c.f3.length cc) c.f3) :
  Calls Try.prog 126 #[.agg #[.int .u8 c.f0, .int .i64 c.f1.f0, .int .i64 c.f1.f1, .int .i64 c.f1.f2, .int .i64 c.f1.f3, .int .i64 c.f2, .slice A c.f3.length cc]] W fun e w' => ∃ A' c', e = .returned (.slice A' (lK c).length c') ∧ Kd.N k26 26 w' W.heap.size (fun k => P k ∨ W.heap.size ≤ k) (.slice A' (lK c).length c') (lK c) ∧ Below W.heap.size W w' := by
 obtain ⟨k, hk⟩ := (Tz c hz).rounds
 exact (dI.calls k _ _ _ _ _ _ P A cc c.f3 _ W (f_ hV) hk).mono (fun e w' ⟨v, he, hN, hB⟩ => by
  obtain ⟨A', c', rfl⟩ := Kd.jm hN
  exact ⟨A', c', he, hN, hB⟩)
theorem uu {r : dD} {v : Bool} (h : jQ r = v) : Calls Try.prog 57 #[.agg #[.int .i64 r.f0, .int .i64 r.f1, .int .i64 r.f2, .int .i64 r.f3]] W fun e w' => e = .returned (.bool v) ∧ Below W.heap.size W w' :=
 nV.calls _ _ _ _ _ W ((Es _ _ _ _).trans (congrArg some h))
end
def oJ (L M : List ai) : Bool := decide (L.length ≤ 20000) && (L.all l9 && eG M)
theorem rX {pre rest M : List ai} {k : ai} (h : l9 k = false) : oJ (pre ++ k :: rest) M = false := by
 unfold oJ
 rw [List.all_append, List.all_cons, h, Bool.false_and, Bool.and_false, Bool.false_and, Bool.and_false]
theorem xu {k : ai} (h : jQ k.f1 = false ∨ k.f0 < 1 ∨ 3 < k.f0 ∨ (k.f0 = 1 ∧ (0 < k.f3.length ∨ k.f2 < 0 ∨ 2147483647 < k.f2)) ∨ (1 < k.f0 ∧ (k.f3.length < 2 ∨ k.f2 ≠ 0))) : l9 k = false := by
 cases hk : l9 k with
 | false => rfl
 | true =>
  exfalso
  unfold l9 at hk
  simp only [Bool.and_eq_true, decide_eq_true_eq] at hk
  obtain ⟨⟨⟨h1, h2⟩, h3⟩, h4⟩ := hk
  rcases h with h | h | h | h | h
  ·rw [h1] at h; cases h
  ·omega
  ·omega
  ·have := h3 h.1; omega
  ·have := h4 h.1; omega
theorem OL {k : ai} (h1 : jQ k.f1 = true) (h2 : 1 ≤ k.f0 ∧ k.f0 ≤ 3) (h3 : k.f0 = 1 → k.f3.length = 0 ∧ 0 ≤ k.f2 ∧ k.f2 ≤ 2147483647) (h4 : k.f0 > 1 → 2 ≤ k.f3.length ∧ k.f2 = 0) : l9 k = true := by
 unfold l9
 rw [h1, decide_eq_true h2, decide_eq_true h3, decide_eq_true h4]
 rfl
theorem NC {pre rest : List ai} {k : ai} (h : nR pre k = false) : eG (pre ++ k :: rest) = false := by
 have h2 : eG (pre ++ [k]) = false := by rw [qK, h, Bool.and_false]
 have h3 := xX (pre ++ [k]) rest h2
 rwa [List.append_assoc] at h3
theorem aeO (c : ai) (hz : sz c ≤ 1048576) (A : Option Addr) (cc : Nat) (w : World) (hr : Kd.C k26 w A c.f3.length c.f3) (hc : c.f3.length ≤ cc) :
  Calls Try.prog 38 #[.agg #[.int .u8 c.f0, .int .i64 c.f1.f0, .int .i64 c.f1.f1, .int .i64 c.f1.f2, .int .i64 c.f1.f3, .int .i64 c.f2, .slice A c.f3.length cc]] w fun e w' => e = .returned (.bool (kP c)) ∧ Below w.heap.size w w' := by
 have S := ae.mk (St.start (ts := [(.slice A c.f3.length cc, c.f3)]) (b0 := w.heap.size) (w := w) (P := fun k => k < w.heap.size) (fun t ht => by
  rw [List.mem_singleton.1 ht]; exact Kd.tK hc (Kd.BU mi hr)))
 have HZ := ae.mk hz
 have HM := ae.mk (show kP c = oJ (fJ c) (lK c) from rfl)
 have HLZ := ae.mk (show (fJ c).length ≤ 1048576 from hz)
 have Wy := ae.mk (show (lK c).length ≤ 1048576 from Nat.le_trans (List.length_filter_le _ _) hz)
 clear hr hc hz
 obtain ⟨ck, ⟨cx, cy, cw, ch⟩, aK, l⟩ := c
 simp only [] at S HZ HM HLZ Wy
 have Vh := fun W b P A cc hV => @Rq W b P A cc ⟨ck, ⟨cx, cy, cw, ch⟩, aK, l⟩ HZ.out hV
 have Vj := fun W b P A cc hV => @Vz W b P A cc ⟨ck, ⟨cx, cy, cw, ch⟩, aK, l⟩ HZ.out hV
 rw [HM.out]
 generalize fJ ⟨ck, ⟨cx, cy, cw, ch⟩, aK, l⟩ = L at HM HLZ Vh ⊢
 generalize lK ⟨ck, ⟨cx, cy, cw, ch⟩, aK, l⟩ = M at HM Wy Vj ⊢
 have HA := ae.mk Vh
 have HLE := ae.mk Vj
 clear HM Vh Vj
 by_cases hl : 20000 < L.length
 case pos =>
  obtain ⟨hla, hlb⟩ := mV (a := 20000) (b := (L.length : Int)) (by omega)
  have hlc : decide (20000 < L.length) = true := decide_eq_true (by omega)
  have HB := ae.mk (show oJ L M = false by unfold oJ; rw [decide_eq_false (by omega), Bool.false_and])
  clear hl
  go_enter Try.func38, Try.ntmps38
  go_wp2_with (first
   | (refine boxS 1 _ 26 S ?_; clear S; intro b1 dJ S; obtain ⟨fO, jS, jT, jU, jV, lV, iD⟩ := St.eQ S (.head _))
   | (refine JJ (some 9) Try.func79 S (HA.out _ _ _ _ _ (S.out.tree _ (.head _))) ?_; clear S; intro Aa ca dX S; clear fO jS jT jU jV lV iD)
   | fail)
  go_ret
  refine ⟨?_, S.out.below⟩
  rw [HB.out]
  rfl
 obtain ⟨hla, hlb⟩ := lU (a := 20000) (b := (L.length : Int)) (by omega)
 have hlc : decide (20000 < L.length) = false := decide_eq_false (by omega)
 have HL := ae.mk hl
 clear hl
 go_enter Try.func38, Try.ntmps38
 go_wp2_with (first
  | (refine boxS 1 _ 26 S ?_; clear S; intro b1 fU S; obtain ⟨fO, jS, jT, jU, jV, lV, iD⟩ := St.eQ S (.head _))
  | (refine JJ (some 9) Try.func79 S (HA.out _ _ _ _ _ (S.out.tree _ (.head _))) ?_; clear S; intro Aa ca iW S; clear fO jS jT jU jV lV iD)
  | fail)
 clear hla hlb hlc
 go_loopg [15] L.length (fun gg v15 wr => ∃ (pre rest : List ai), v15 = .int .i64 (pre.length : Int) ∧ ae (pre ++ rest = L) ∧ rest.length ≤ gg ∧ ae (pre.all l9 = true) ∧ ae (St w (fun k => k < w.heap.size) [(some b1, .cells #[.int .u8 ck, .int .i64 cx, .int .i64 cy, .int .i64 cw, .int .i64 ch, .int .i64 aK, .slice A l.length cc] 26 (0, 0))] [] [(.slice Aa L.length ca, L), (.slice A l.length cc, l)] [] wr))
 case atStart => exact ⟨[], L, rfl, ⟨rfl⟩, Nat.le_refl _, ⟨rfl⟩, ⟨S.out⟩⟩
 case round =>
  clear S
  obtain ⟨pre, rest, rfl, HE, hgg, QY, S⟩ := hrel
  cases rest with
  | cons k rest =>
   have hlt : (pre.length : Int) < (L.length : Int) := by rw [← HE.out, List.length_append, List.length_cons]; omega
   have hw1 : wrap64 ((pre.length : Int) + 1) = ((pre ++ [k]).length : Int) := by have := HLZ.out; rw [List.length_append, List.length_singleton]; unfold wrap64; omega
   have HW1 := ae.mk hw1
   have gz := ae.mk hgg
   obtain ⟨ku, ua, uc, ek, S1⟩ := S.out.elem (.head _) (pre.length : Int) (Int.natCast_nonneg _) hlt
   subst ek
   have hrd : az L (pre.length : Int) = k := by rw [← HE.out]; exact lN pre k rest
   rw [hrd] at S1
   simp only [Int.toNat_natCast] at S1
   replace S := ae.mk S1
   clear S1 hrd hgg hw1
   cases hmr : jQ k.f1 with
   | false =>
    have zo := ae.mk hmr
    clear hmr
    have HB := ae.mk (show oJ L M = false by rw [← HE.out]; exact rX (xu (.inl zo.out)))
    have iY := (S.out.cell _ bG).1
    have jH := (S.out.cell _ dN).1
    have jv := (S.out.cell _ kR).1
    have jw := (S.out.cell _ qg).1
    go_wp2_with (first
     | (refine bP (some 23) Try.func57 S (uu zo.out) ?_; clear S; intro mG S; clear iY jH jv jw)
     | fail)
    go_ret
    refine ⟨?_, S.out.below⟩
    rw [HB.out]
    rfl
   | true =>
    have zo := ae.mk hmr
    clear hmr
    by_cases h1 : k.f0 < 1
    case pos =>
     obtain ⟨h1a, h1b⟩ := mV (a := k.f0) (b := 1) (by omega)
     have HB := ae.mk (show oJ L M = false by rw [← HE.out]; exact rX (xu (.inr (.inl h1))))
     have iY := (S.out.cell _ bG).1
     have jH := (S.out.cell _ dN).1
     have jv := (S.out.cell _ kR).1
     have jw := (S.out.cell _ qg).1
     go_wp2_with (first
      | (refine bP (some 23) Try.func57 S (uu zo.out) ?_; clear S; intro Cb S; clear iY jH jv jw; have gX := (S.out.cell _ (.head _)).1)
      | fail)
     clear gX
     go_ret
     refine ⟨?_, S.out.below⟩
     rw [HB.out]
     rfl
    obtain ⟨h1a, h1b⟩ := lU (a := k.f0) (b := 1) (by omega)
    by_cases h3 : 3 < k.f0
    case pos =>
     obtain ⟨h3a, h3b⟩ := mV (a := 3) (b := k.f0) (by omega)
     have HB := ae.mk (show oJ L M = false by rw [← HE.out]; exact rX (xu (.inr (.inr (.inl h3)))))
     have iY := (S.out.cell _ bG).1
     have jH := (S.out.cell _ dN).1
     have jv := (S.out.cell _ kR).1
     have jw := (S.out.cell _ qg).1
     go_wp2_with (first
      | (refine bP (some 23) Try.func57 S (uu zo.out) ?_; clear S; intro zL S; clear iY jH jv jw; have gX := (S.out.cell _ (.head _)).1)
      | fail)
     clear gX
     go_ret
     refine ⟨?_, S.out.below⟩
     rw [HB.out]
     rfl
    obtain ⟨h3a, h3b⟩ := lU (a := 3) (b := k.f0) (by omega)
    by_cases h4 : k.f0 = 1
    case pos =>
     have Gh : (k.f0 == 1) = true := beq_iff_eq.mpr h4
     have h4d : decide (k.f0 = 1) = true := decide_eq_true h4
     by_cases h5 : 0 < k.f3.length
     case pos =>
      obtain ⟨h5a, LX⟩ := mV (a := 0) (b := (k.f3.length : Int)) (by omega)
      have RY : decide (0 < k.f3.length) = true := decide_eq_true (by omega)
      have HB := ae.mk (show oJ L M = false by rw [← HE.out]; exact rX (xu (.inr (.inr (.inr (.inl ⟨h4, .inl h5⟩))))))
      have iY := (S.out.cell _ bG).1
      have jH := (S.out.cell _ dN).1
      have jv := (S.out.cell _ kR).1
      have jw := (S.out.cell _ qg).1
      go_wp2_with (first
       | (refine bP (some 23) Try.func57 S (uu zo.out) ?_; clear S; intro zM S; clear iY jH jv jw; have gX := (S.out.cell _ (.head _)).1; have lF := (S.out.cell _ zF).1)
       | fail)
      clear gX lF
      go_ret
      refine ⟨?_, S.out.below⟩
      rw [HB.out]
      rfl
     obtain ⟨h5a, LX⟩ := lU (a := 0) (b := (k.f3.length : Int)) (by omega)
     have RY : decide (0 < k.f3.length) = false := decide_eq_false (by omega)
     by_cases h6 : k.f2 < 0
     case pos =>
      obtain ⟨h6a, h6b⟩ := mV (a := k.f2) (b := 0) (by omega)
      have HB := ae.mk (show oJ L M = false by rw [← HE.out]; exact rX (xu (.inr (.inr (.inr (.inl ⟨h4, .inr (.inl h6)⟩))))))
      have iY := (S.out.cell _ bG).1
      have jH := (S.out.cell _ dN).1
      have jv := (S.out.cell _ kR).1
      have jw := (S.out.cell _ qg).1
      go_wp2_with (first
       | (refine bP (some 23) Try.func57 S (uu zo.out) ?_; clear S; intro O3 S; clear iY jH jv jw; have gX := (S.out.cell _ (.head _)).1; have lF := (S.out.cell _ zF).1; have lD := (S.out.cell _ zD).1)
       | fail)
      clear gX lF lD
      go_ret
      refine ⟨?_, S.out.below⟩
      rw [HB.out]
      rfl
     obtain ⟨h6a, h6b⟩ := lU (a := k.f2) (b := 0) (by omega)
     by_cases h7 : 2147483647 < k.f2
     case pos =>
      obtain ⟨h7a, h7b⟩ := mV (a := 2147483647) (b := k.f2) (by omega)
      have HB := ae.mk (show oJ L M = false by rw [← HE.out]; exact rX (xu (.inr (.inr (.inr (.inl ⟨h4, .inr (.inr h7)⟩))))))
      have iY := (S.out.cell _ bG).1
      have jH := (S.out.cell _ dN).1
      have jv := (S.out.cell _ kR).1
      have jw := (S.out.cell _ qg).1
      go_wp2_with (first
       | (refine bP (some 23) Try.func57 S (uu zo.out) ?_; clear S; intro BQ S; clear iY jH jv jw; have gX := (S.out.cell _ (.head _)).1; have lF := (S.out.cell _ zF).1; have lD := (S.out.cell _ zD).1)
       | fail)
      clear gX lF lD
      go_ret
      refine ⟨?_, S.out.below⟩
      rw [HB.out]
      rfl
     obtain ⟨h7a, h7b⟩ := lU (a := 2147483647) (b := k.f2) (by omega)
     obtain ⟨h8a, h8b⟩ := lU (a := 1) (b := k.f0) (by omega)
     have HG := ae.mk (OL zo.out (by omega) (by omega) (by omega))
     have iY := (S.out.cell _ bG).1
     have jH := (S.out.cell _ dN).1
     have jv := (S.out.cell _ kR).1
     have jw := (S.out.cell _ qg).1
     go_wp2_with (first
      | (refine bP (some 23) Try.func57 S (uu zo.out) ?_; clear S; intro QJ S; clear iY jH jv jw; have gX := (S.out.cell _ (.head _)).1; have lF := (S.out.cell _ zF).1; have lD := (S.out.cell _ zD).1)
      | fail)
     clear gX lF lD
     have hw1 := HW1.out
     go_wp2
     go_roundg rest.length
     case measure => exact Nat.lt_of_lt_of_le (Nat.lt_succ_self _) gz.out
     case rel => exact ⟨pre ++ [k], rest, (by rw [hw1]), ⟨by rw [List.append_assoc]; exact HE.out⟩, Nat.le_refl _, ⟨by rw [List.all_append, QY.out, List.all_cons, HG.out]; rfl⟩, ⟨S.out.dG.bQ.bQ.bQ.bQ.bQ.bQ.bQ⟩⟩
    have Gh : (k.f0 == 1) = false := beq_eq_false_iff_ne.mpr h4
    have h4d : decide (k.f0 = 1) = false := decide_eq_false h4
    obtain ⟨h8a, h8b⟩ := mV (a := 1) (b := k.f0) (by omega)
    by_cases h5 : k.f3.length < 2
    case pos =>
     obtain ⟨h5a, LX⟩ := mV (a := (k.f3.length : Int)) (b := 2) (by omega)
     have RY : decide (k.f3.length < 2) = true := decide_eq_true (by omega)
     have HB := ae.mk (show oJ L M = false by rw [← HE.out]; exact rX (xu (.inr (.inr (.inr (.inr ⟨by omega, .inl h5⟩))))))
     have iY := (S.out.cell _ bG).1
     have jH := (S.out.cell _ dN).1
     have jv := (S.out.cell _ kR).1
     have jw := (S.out.cell _ qg).1
     go_wp2_with (first
      | (refine bP (some 23) Try.func57 S (uu zo.out) ?_; clear S; intro agG S; clear iY jH jv jw; have gX := (S.out.cell _ (.head _)).1; have lF := (S.out.cell _ zF).1)
      | fail)
     clear gX lF
     go_ret
     refine ⟨?_, S.out.below⟩
     rw [HB.out]
     rfl
    obtain ⟨h5a, LX⟩ := lU (a := (k.f3.length : Int)) (b := 2) (by omega)
    have RY : decide (k.f3.length < 2) = false := decide_eq_false (by omega)
    by_cases h6 : k.f2 = 0
    case neg =>
     have h6b : (k.f2 != 0) = true := bne_iff_ne.mpr h6
     have h6c : (k.f2 == 0) = false := beq_eq_false_iff_ne.mpr h6
     have h6d : decide (k.f2 = 0) = false := decide_eq_false h6
     have HB := ae.mk (show oJ L M = false by rw [← HE.out]; exact rX (xu (.inr (.inr (.inr (.inr ⟨by omega, .inr h6⟩))))))
     have iY := (S.out.cell _ bG).1
     have jH := (S.out.cell _ dN).1
     have jv := (S.out.cell _ kR).1
     have jw := (S.out.cell _ qg).1
     go_wp2_with (first
      | (refine bP (some 23) Try.func57 S (uu zo.out) ?_; clear S; intro adG S; clear iY jH jv jw; have gX := (S.out.cell _ (.head _)).1; have lF := (S.out.cell _ zF).1; have lD := (S.out.cell _ zD).1)
      | fail)
     clear gX lF lD
     go_ret
     refine ⟨?_, S.out.below⟩
     rw [HB.out]
     rfl
    have h6b : (k.f2 != 0) = false := bne_eq_false_iff_eq.mpr h6
    have h6c : (k.f2 == 0) = true := beq_iff_eq.mpr h6
    have h6d : decide (k.f2 = 0) = true := decide_eq_true h6
    have HG := ae.mk (OL zo.out (by omega) (by omega) (by omega))
    have iY := (S.out.cell _ bG).1
    have jH := (S.out.cell _ dN).1
    have jv := (S.out.cell _ kR).1
    have jw := (S.out.cell _ qg).1
    go_wp2_with (first
     | (refine bP (some 23) Try.func57 S (uu zo.out) ?_; clear S; intro adH S; clear iY jH jv jw; have gX := (S.out.cell _ (.head _)).1; have lF := (S.out.cell _ zF).1; have lD := (S.out.cell _ zD).1)
     | fail)
    clear gX lF lD
    have hw1 := HW1.out
    go_wp2
    go_roundg rest.length
    case measure => exact Nat.lt_of_lt_of_le (Nat.lt_succ_self _) gz.out
    case rel => exact ⟨pre ++ [k], rest, (by rw [hw1]), ⟨by rw [List.append_assoc]; exact HE.out⟩, Nat.le_refl _, ⟨by rw [List.all_append, QY.out, List.all_cons, HG.out]; rfl⟩, ⟨S.out.dG.bQ.bQ.bQ.bQ.bQ.bQ.bQ⟩⟩
  | nil =>
   have hE := HE.out
   rw [List.append_nil] at hE
   subst hE
   clear HE hgg
   have hlt : ¬ ((pre.length : Int) < (pre.length : Int)) := by omega
   obtain ⟨fO, jS, jT, jU, jV, lV, iD⟩ := St.eQ S (.head _)
   go_wp2_with (first
    | (refine JJ (some 99) Try.func126 S (HLE.out _ _ _ _ _ (S.out.tree _ bG)) ?_; clear S; intro Al cl agH S; clear fO jS jT jU jV lV iD)
    | fail)
   go_loopg [102] M.length (fun gg agF wr => ∃ (pm rest : List ai), agF = .int .i64 (pm.length : Int) ∧ ae (pm ++ rest = M) ∧ rest.length ≤ gg ∧ ae (eG pm = true) ∧ ae (St w (fun k => k < w.heap.size) [(some b1, .cells #[.int .u8 ck, .int .i64 cx, .int .i64 cy, .int .i64 cw, .int .i64 ch, .int .i64 aK, .slice A l.length cc] 26 (0, 0))] [] [(.slice Al M.length cl, M), (.slice Aa pre.length ca, pre), (.slice A l.length cc, l)] [] wr))
   case atStart => exact ⟨[], M, rfl, ⟨rfl⟩, Nat.le_refl _, ⟨rfl⟩, ⟨S.out⟩⟩
   case round =>
    clear S
    rename World => wz
    obtain ⟨pm, rest, rfl, HE, hgg, HD, S⟩ := hrel
    cases rest with
    | nil =>
     have hE := HE.out
     rw [List.append_nil] at hE
     subst hE
     have hlt : ¬ ((pm.length : Int) < (pm.length : Int)) := by omega
     have HB := ae.mk (show oJ pre pm = true by unfold oJ; rw [QY.out, HD.out, decide_eq_true (by have := HL.out; omega)]; rfl)
     go_wp2
     go_ret
     refine ⟨?_, S.out.below⟩
     rw [HB.out]
     rfl
    | cons k rest =>
     have hlt : (pm.length : Int) < (M.length : Int) := by rw [← HE.out, List.length_append, List.length_cons]; omega
     have hw1 : wrap64 ((pm.length : Int) + 1) = ((pm ++ [k]).length : Int) := by have := Wy.out; rw [List.length_append, List.length_singleton]; unfold wrap64; omega
     have HW1 := ae.mk hw1
     have gz := ae.mk hgg
     have HPM := ae.mk (show pm.length ≤ 1048576 by have := Wy.out; omega)
     have NY := ae.mk hlt
     obtain ⟨ku, ua, uc, ek, S1⟩ := S.out.elem (.head _) (pm.length : Int) (Int.natCast_nonneg _) hlt
     subst ek
     have hrd : az M (pm.length : Int) = k := by rw [← HE.out]; exact lN pm k rest
     rw [hrd] at S1
     simp only [Int.toNat_natCast] at S1
     replace S := ae.mk S1
     clear S1 hrd hgg hw1
     go_wp2
     have HK0 := ae.mk (show nR [] k = true from rfl)
     go_loopg [7] pm.length (fun gg v7 wr => ∃ (pa pb : List ai), v7 = .int .i64 (pa.length : Int) ∧ ae (pa ++ pb = pm) ∧ pb.length ≤ gg ∧ ae (nR pa k = true) ∧ ae (St w (fun k => k < w.heap.size) [(some b1, .cells #[.int .u8 ck, .int .i64 cx, .int .i64 cy, .int .i64 cw, .int .i64 ch, .int .i64 aK, .slice A l.length cc] 26 (0, 0))] [] [(.slice ua k.f3.length uc, k.f3), (.slice (some ku) M.length cl, M), (.slice Aa pre.length ca, pre), (.slice A l.length cc, l)] [((ku.add (pm.length * 7)), .int .u8 k.f0), (⟨(ku.add (pm.length * 7)).block, (ku.add (pm.length * 7)).off + 1, none⟩, .int .i64 k.f1.f0), (⟨(ku.add (pm.length * 7)).block, (ku.add (pm.length * 7)).off + 2, none⟩, .int .i64 k.f1.f1), (⟨(ku.add (pm.length * 7)).block, (ku.add (pm.length * 7)).off + 3, none⟩, .int .i64 k.f1.f2), (⟨(ku.add (pm.length * 7)).block, (ku.add (pm.length * 7)).off + 4, none⟩, .int .i64 k.f1.f3), (⟨(ku.add (pm.length * 7)).block, (ku.add (pm.length * 7)).off + 5, none⟩, .int .i64 k.f2), (⟨(ku.add (pm.length * 7)).block, (ku.add (pm.length * 7)).off + 6, none⟩, .slice ua k.f3.length uc)] wr))
     case atStart => exact ⟨[], pm, rfl, ⟨rfl⟩, Nat.le_refl _, ⟨rfl⟩, ⟨S.out⟩⟩
     case round =>
      clear S
      rename World => wy
      obtain ⟨pa, pb, rfl, HE2, hgg, HAP, S⟩ := hrel
      cases pb with
      | nil =>
       have hE := HE2.out
       rw [List.append_nil] at hE
       subst hE
       have hlt : ¬ ((pa.length : Int) < (pa.length : Int)) := by omega
       go_wp2
       have hw1 := HW1.out
       go_wp2
       go_roundg rest.length
       case measure => exact Nat.lt_of_lt_of_le (Nat.lt_succ_self _) gz.out
       case rel => exact ⟨pa ++ [k], rest, (by rw [hw1]), ⟨by rw [List.append_assoc]; exact HE.out⟩, Nat.le_refl _, ⟨by rw [qK, HD.out, HAP.out]; rfl⟩, ⟨S.out.dG.bQ.bQ.bQ.bQ.bQ.bQ.bQ⟩⟩
      | cons q pb =>
       have hlt : (pa.length : Int) < (pm.length : Int) := by rw [← HE2.out, List.length_append, List.length_cons]; omega
       have hlt0 := NY.out
       have hlt2 : (pa.length : Int) < (M.length : Int) := by omega
       have hw1 : wrap64 ((pa.length : Int) + 1) = ((pa ++ [q]).length : Int) := by have := HPM.out; rw [List.length_append, List.length_singleton]; unfold wrap64; omega
       have HW2 := ae.mk hw1
       have afV := ae.mk hgg
       obtain ⟨adq, va, vc, eq_, S1⟩ := S.out.elem bG (pa.length : Int) (Int.natCast_nonneg _) hlt2
       injection eq_ with eq_
       subst eq_
       have hrd : az M (pa.length : Int) = q := by rw [← HE.out, ← HE2.out, List.append_assoc]; exact lN pa q (pb ++ k :: rest)
       rw [hrd] at S1
       simp only [Int.toNat_natCast] at S1
       replace S := ae.mk S1
       clear S1 hrd hgg hw1
       by_cases hq : k.f2 = q.f2
       case pos =>
        have hqb : (k.f2 == q.f2) = true := beq_iff_eq.mpr hq
        have hqd : decide (k.f2 = q.f2) = true := decide_eq_true hq
        have HQ := ae.mk hq
        clear hq
        have Wq := (S.out.cell _ (.tail _ (.tail _ (.tail _ mm9)))).1
        have lD := (S.out.cell _ zD).1
        go_wp2
        go_quiet (fail)
        clear Wq lD
        replace S := ae.mk (S.out.call (eH (Below.refl _ _) nq))
        generalize wr.drewN nq = akf at S ⊢
        go_wp2
        have HB := ae.mk (show oJ pre M = false by unfold oJ; rw [← HE.out, NC (by rw [← HE2.out]; unfold nR; rw [List.all_append, List.all_cons, decide_eq_false (by have := HQ.out; simpa using this), Bool.false_and, Bool.and_false]), Bool.and_false, Bool.and_false])
        go_ret
        refine ⟨?_, S.out.below⟩
        rw [HB.out]
        rfl
       case neg =>
        have hqb : (k.f2 == q.f2) = false := beq_eq_false_iff_ne.mpr hq
        have hqd : decide (k.f2 = q.f2) = false := decide_eq_false hq
        have HQ := ae.mk hq
        clear hq
        have Wq := (S.out.cell _ (.tail _ (.tail _ (.tail _ mm9)))).1
        have lD := (S.out.cell _ zD).1
        go_wp2
        go_quiet (fail)
        clear Wq lD
        replace S := ae.mk (S.out.call (eH (Below.refl _ _) nq))
        generalize wr.drewN nq = akg at S ⊢
        go_wp2
        have hw1 := HW2.out
        go_wp2
        go_roundg pb.length
        case measure => exact Nat.lt_of_lt_of_le (Nat.lt_succ_self _) afV.out
        case rel => exact ⟨pa ++ [q], pb, (by rw [hw1]), ⟨by rw [List.append_assoc]; exact HE2.out⟩, Nat.le_refl _, ⟨by unfold nR; rw [List.all_append, List.all_cons, decide_eq_true HQ.out]; rw [show (pa.all fun y => decide (k.f2 ≠ y.f2)) = true from HAP.out]; rfl⟩, ⟨S.out.dG.bQ.bQ.bQ.bQ.bQ.bQ.bQ⟩⟩
def aap.f (_ : Nat) (a0 a1 a2 a3 a4 a5 : Int) (l : List ai) : Option Bool := if sz ⟨a0, ⟨a1, a2, a3, a4⟩, a5, l⟩ ≤ 1048576 then some (kP ⟨a0, ⟨a1, a2, a3, a4⟩, a5, l⟩) else none
def bZ (c : ai) : Bool := kP c && kD c
theorem mW {c : ai} (h : kP c = true) : sz c ≤ 20000 := by
 unfold kP at h
 simp only [Bool.and_eq_true, decide_eq_true_eq] at h
 omega
theorem abg : ∀ (N : Nat), (∀ c : ai, sz c ≤ N → ∀ d, d ∈ fJ c → sz d ≤ sz c) ∧ (∀ l : List ai, dO l ≤ N → ∀ d, d ∈ allL l → sz d ≤ dO l) := by
 intro N
 induction N with
 | zero =>
  refine ⟨fun c h => ?_, fun l h => ?_⟩
  ·rw [df] at h; omega
  ·cases l with
   | nil => intro d hd; rw [oQ] at hd; cases hd
   | cons z zs => rw [bW, df] at h; omega
 | succ N ih =>
  have hC : ∀ c : ai, sz c ≤ N + 1 → ∀ d, d ∈ fJ c → sz d ≤ sz c := by
   intro c h d hd
   have hs := df c
   rw [pG] at hd
   rcases List.mem_cons.1 hd with rfl | hd
   ·exact Nat.le_refl _
   ·have := ih.2 c.f3 (by omega) d hd
    omega
  refine ⟨hC, fun l => ?_⟩
  induction l with
  | nil => intro _ d hd; rw [oQ] at hd; cases hd
  | cons x xs ihl =>
   intro h d hd
   rw [bW] at h ⊢
   rw [kZ] at hd
   rcases List.mem_append.1 hd with hd | hd
   ·have := hC x (by omega) d hd
    omega
   ·have := ihl (by omega) d hd
    omega
theorem UG {c d : ai} (h : d ∈ fJ c) : d.f3.length + 1 ≤ sz c := by
 have h1 := (abg (sz c)).1 c (Nat.le_refl _) d h
 have h2 := df d
 have h3 := jF d.f3
 omega
section
variable {W : World} {b : Nat} {P : Nat → Prop} {A : Option Addr} {cc : Nat}
theorem ade (c : ai) (h : mr c = false) (hl : c.f3.length ≤ 1000000) (hV : Kd.V k26 26 W b P (.slice A c.f3.length cc) c.f3) : Calls Try.prog 178 #[.agg #[.int .u8 c.f0, .int .i64 c.f1.f0, .int .i64 c.f1.f1, .int .i64 c.f1.f2, .int .i64 c.f1.f3, .int .i64 c.f2, .slice A c.f3.length cc]] W fun e w' => ∃ A n cc, e = .returned (.tuple #[.slice A n cc, .bool false]) ∧ Below W.heap.size W w' :=
 (TK c hl b P A cc W hV).mono (fun _ _ ⟨A, n, cc, h1, _, h3⟩ => ⟨A, n, cc, by rw [h1, h], h3⟩)
theorem ZF (c : ai) (h : mr c = true) (hl : c.f3.length ≤ 1000000) (hV : Kd.V k26 26 W b P (.slice A c.f3.length cc) c.f3) : Calls Try.prog 178 #[.agg #[.int .u8 c.f0, .int .i64 c.f1.f0, .int .i64 c.f1.f1, .int .i64 c.f1.f2, .int .i64 c.f1.f3, .int .i64 c.f2, .slice A c.f3.length cc]] W fun e w' => ∃ A cc ls, e = .returned (.tuple #[.slice A ls.length cc, .bool true]) ∧ ls.length ≤ c.f3.length ∧ k23.R 23 w' W.heap.size (fun _ => True) (.slice A ls.length cc) ls ∧ Below W.heap.size W w' :=
 (TK c hl b P A cc W hV).mono (fun _ _ ⟨A, n, cc, h1, h2, h3⟩ => by
  obtain ⟨ls, rfl, h4, h5⟩ := h2 h
  exact ⟨A, cc, ls, by rw [h1, h], h4, h5, h3⟩)
theorem Xd {c : ai} {v : Bool} (h : kP c = v) (hz : sz c ≤ 1048576) (b : Nat) (P : Nat → Prop) (A : Option Addr) (cc : Nat) (W : World) (hV : Kd.V k26 26 W b P (.slice A c.f3.length cc) c.f3) : Calls Try.prog 38 #[.agg #[.int .u8 c.f0, .int .i64 c.f1.f0, .int .i64 c.f1.f1, .int .i64 c.f1.f2, .int .i64 c.f1.f3, .int .i64 c.f2, .slice A c.f3.length cc]] W fun e w' => e = .returned (.bool v) ∧ Below W.heap.size W w' := by
 have h1 := Kd.jZ hV
 have h2 := aeO c hz A cc W h1.2.2 h1.2.1
 rwa [h] at h2
end
abbrev JR (w : World) (c : ai) (e : Ending) (w' : World) : Prop := ∃ A n cc n1 n2, e = .returned (.tuple #[.slice A n cc, .int .i64 n1, .int .i64 n2]) ∧ (n1 == 0) = bZ c ∧ Below w.heap.size w w'
theorem UT (c : ai) (hz : sz c ≤ 1048576) (b : Nat) (P : Nat → Prop) (A : Option Addr) (cc : Nat) (w : World) (hv : Kd.V k26 26 w b P (.slice A c.f3.length cc) c.f3) :
  Calls Try.prog 146 #[.agg #[.int .u8 c.f0, .int .i64 c.f1.f0, .int .i64 c.f1.f1, .int .i64 c.f1.f2, .int .i64 c.f1.f3, .int .i64 c.f2, .slice A c.f3.length cc]] w (JR w c) := by
 have S := ae.mk (St.start (ts := [(.slice A c.f3.length cc, c.f3)]) (b0 := w.heap.size) (w := w) (P := P) (fun t ht => by rw [List.mem_singleton.1 ht]; exact f_ hv))
 unfold JR
 cases hm : kP c with
 | false =>
  have xg := ae.mk (fun b P A cc W hV => Xd hm hz b P A cc W hV)
  rw [show bZ c = false by unfold bZ; rw [hm]; rfl]
  clear hm hv hz
  obtain ⟨ck, ⟨cx, cy, cw, ch⟩, aK, l⟩ := c
  simp only [] at S xg ⊢
  go_enter Try.func146, Try.ntmps146
  go_wp2_with (first
   | (refine boxS 1 _ 26 S ?_; clear S; intro b1 dJ S)
   | (refine gm 11 rfl ?_; refine lL k23 23 rfl 11 S ?_; clear S; intro Ae ce oe dX S HKe; obtain ⟨fO, jS, jT, jU, jV, lV, iD⟩ := St.eQ S bG)
   | (refine bP (some 13) Try.func38 S (xg.out _ _ _ _ _ (S.out.tree _ (.head _))) ?_; clear S; intro fU S; clear fO jS jT jU jV lV iD)
   | fail)
  go_ret3
  exact ⟨_, _, _, _, _, rfl, rfl, S.out.below⟩
 | true =>
  have xg := ae.mk (fun b P A cc W hV => Xd hm hz b P A cc W hV)
  have HAL := ae.mk (fun b P A cc W hV => @Rq W b P A cc c hz hV)
  have hs := mW hm
  have hk : ∀ k, k ∈ fJ c → k.f3.length ≤ 20000 := fun k hk => by have := UG hk; omega
  have hlen : (fJ c).length ≤ 20000 := hs
  have ht : bZ c = (fJ c).all mr := by unfold bZ; rw [hm, Bool.true_and]; rfl
  rw [ht]
  generalize fJ c = L at HAL hk hlen ⊢
  have jl := ae.mk hlen
  have HKK := ae.mk hk
  clear hm hv hz ht hs hk hlen
  obtain ⟨ck, ⟨cx, cy, cw, ch⟩, aK, l⟩ := c
  simp only [] at S xg HAL ⊢
  go_enter Try.func146, Try.ntmps146
  go_wp2_with (first
   | (refine boxS 1 _ 26 S ?_; clear S; intro b1 dJ S)
   | (refine gm 11 rfl ?_; refine lL k23 23 rfl 11 S ?_; clear S; intro Ae ce oe dX S HKe; obtain ⟨fO, jS, jT, jU, jV, lV, iD⟩ := St.eQ S bG)
   | (refine bP (some 13) Try.func38 S (xg.out _ _ _ _ _ (S.out.tree _ (.head _))) ?_; clear S; intro fU S; clear fO jS jT jU jV lV iD; obtain ⟨fO, jS, jT, jU, jV, lV, iD⟩ := St.eQ S bG)
   | (refine JJ (some 17) Try.func79 S (HAL.out _ _ _ _ _ (S.out.tree _ (.head _))) ?_; clear S; intro Aa ca iW S; clear fO jS jT jU jV lV iD)
   | (refine gm 18 rfl ?_; refine lL k23 23 rfl 18 S ?_; clear S; intro Ap cp op mG S iw)
   | fail)
  go_loopg [7, 21] L.length (fun gg v7 v21 wr => ∃ (pre rest : List ai) (out : List dD) (Ap : Option Addr) (cp : Nat) (op : Obj), v7 = .slice Ap out.length cp ∧ v21 = .int .i64 (pre.length : Int) ∧ ae (pre ++ rest = L) ∧ ae (pre.all mr = true) ∧ ae (out.length ≤ 20000 * pre.length) ∧ rest.length ≤ gg ∧ ae (KR k23 23 w.heap.size (.slice Ap out.length cp) out op) ∧ ae (St w P [((Value.slice Ap out.length cp).ownBlock, op), ((Value.slice Ae 0 ce).ownBlock, oe), (some b1, .cells #[.int .u8 ck, .int .i64 cx, .int .i64 cy, .int .i64 cw, .int .i64 ch, .int .i64 aK, .slice A l.length cc] 26 (0, 0))] [] [(.slice Aa L.length ca, L), (.slice A l.length cc, l)] [] wr))
  case atStart => exact ⟨[], L, [], _, _, _, rfl, rfl, ⟨rfl⟩, ⟨rfl⟩, ⟨Nat.zero_le _⟩, Nat.le_refl _, iw, S⟩
  case round =>
   clear S iw
   obtain ⟨pre, rest, out, Ap, cp, op, rfl, rfl, HE, HA, HOL, hgg, iw, S⟩ := hrel
   cases rest with
   | nil =>
    have hE := HE.out
    rw [List.append_nil] at hE
    have hE2 := hE.symm
    subst hE2
    clear hE HE hgg
    have hlt : ¬ ((L.length : Int) < (L.length : Int)) := by omega
    go_wp2
    go_ret3
    exact ⟨_, _, _, _, ⟨_, rfl⟩, HA.out.symm, S.out.below⟩
   | cons k rest =>
    have Uw := ae.mk (HKK.out k (by rw [← HE.out]; simp))
    have Ef := ae.mk (show k.f3.length ≤ 1000000 by have := Uw.out; omega)
    have afW := ae.mk (show pre.length ≤ 20000 by have := jl.out; rw [← HE.out, List.length_append] at this; omega)
    have hk : k ∈ L := by rw [← HE.out]; simp
    have hlt : (pre.length : Int) < (L.length : Int) := by rw [← HE.out, List.length_append, List.length_cons]; omega
    have hw1 : wrap64 ((pre.length : Int) + 1) = ((pre ++ [k]).length : Int) := by have := jl.out; rw [List.length_append, List.length_singleton]; unfold wrap64; omega
    have HW1 := ae.mk hw1
    have gz := ae.mk hgg
    have HK := ae.mk hk
    have Eh := ae.mk (show pre.length ≤ 1048576 by have := jl.out; omega)
    obtain ⟨ku, ua, uc, ek, S1⟩ := S.out.elem (.head _) (pre.length : Int) (Int.natCast_nonneg _) hlt
    subst ek
    have hrd : az L (pre.length : Int) = k := by rw [← HE.out]; exact lN pre k rest
    rw [hrd] at S1
    simp only [Int.toNat_natCast] at S1
    replace S := ae.mk S1
    clear S1 hrd hk hgg hw1
    cases ho : mr k with
    | false =>
     have HO := ae.mk ho
     clear ho
     obtain ⟨gX, iY, jH, jv, jw, lD, lF⟩ := St.I4 S
     go_wp2_with (first
      | (refine jb (some 29) Try.func178 (ade k HO.out Ef.out (S.out.tree _ (.head _))) ?_; rintro e dJ ⟨Ax, nx, WV, rfl, hb⟩; refine ⟨_, rfl, ?_⟩; replace S := ae.mk (S.out.call hb); clear hb; clear gX iY jH jv jw lD lF)
      | fail)
     go_ret3
     exact ⟨_, _, _, _, _, rfl, (by rw [← HE.out, List.all_append, List.all_cons, HO.out, Bool.false_and, Bool.and_false]; rfl), S.out.below⟩
    | true =>
     have HO := ae.mk ho
     clear ho
     obtain ⟨gX, iY, jH, jv, jw, lD, lF⟩ := St.I4 S
     go_wp2_with (first
      | (refine jb (some 29) Try.func178 (ZF k HO.out Ef.out (S.out.tree _ (.head _))) ?_; rintro e dJ ⟨Ax, WV, ls, rfl, h0, h1, hb⟩; refine ⟨_, rfl, ?_⟩; obtain ⟨ox, S1, hI⟩ := S.out.Fz (d := k23) (e := 23) rfl h1 hb; replace S := ae.mk S1; have HKx := ae.mk hI; have NW := ae.mk h0; clear S1 hI h0 h1 hb; clear gX iY jH jv jw lD lF)
      | (refine gm 38 rfl ?_; at_builtin; replace S := ae.mk S.out.tC; refine KO k23 23 rfl 36 37 42 _ 32 Try.underlying42 info23 rfl (by decide) (by decide) (by decide) S iw ls (Uy HKx.out S.out bG).1 (fun _ _ _ _ _ h => h) (by have := HOL.out; have := NW.out; have := Uw.out; have := afW.out; omega) ?_; clear S iw; intro JQ cp2 MW dX S iw)
      | fail)
     have hw1 := HW1.out
     go_wp2
     go_roundg rest.length
     case measure => exact Nat.lt_of_lt_of_le (Nat.lt_succ_self _) gz.out
     case rel => exact ⟨pre ++ [k], rest, out ++ ls, _, _, _, (by rw [List.length_append]), (by rw [hw1]), ⟨by rw [List.append_assoc]; exact HE.out⟩, ⟨by rw [List.all_append, HA.out, List.all_cons, HO.out]; rfl⟩, ⟨by have := HOL.out; have := NW.out; have := Uw.out; rw [List.length_append, List.length_append, List.length_singleton]; omega⟩, Nat.le_refl _, iw, ⟨S.out.tC.dQ.uS.uS.uS.dG.bQ.bQ.bQ.bQ.bQ.bQ.bQ⟩⟩
theorem uG (c : ai) (hz : sz c ≤ 1048576) (b : Nat) (P : Nat → Prop) (A : Option Addr) (cc : Nat) (w : World) (hv : Kd.V k26 26 w b P (.slice A c.f3.length cc) c.f3) :
  Calls Try.prog 84 #[.agg #[.int .u8 c.f0, .int .i64 c.f1.f0, .int .i64 c.f1.f1, .int .i64 c.f1.f2, .int .i64 c.f1.f3, .int .i64 c.f2, .slice A c.f3.length cc]] w fun e w' => e = .returned (.bool (bZ c)) ∧ Below w.heap.size w w' := by
 have S := ae.mk (St.start (ts := [(.slice A c.f3.length cc, c.f3)]) (b0 := w.heap.size) (w := w) (P := P) (fun t ht => by rw [List.mem_singleton.1 ht]; exact f_ hv))
 have Wx := ae.mk (fun b P A cc W hV => UT c hz b P A cc W hV)
 unfold JR at Wx
 generalize bZ c = v at Wx ⊢
 clear hv hz
 obtain ⟨ck, ⟨cx, cy, cw, ch⟩, aK, l⟩ := c
 simp only [] at S Wx ⊢
 go_enter Try.func84, Try.ntmps84
 go_wp2_with (first
  | (refine boxS 1 _ 26 S ?_; clear S; intro b1 dJ S; obtain ⟨fO, jS, jT, jU, jV, lV, iD⟩ := St.eQ S (.head _))
  | (refine jb (some 8) Try.func146 (Wx.out _ _ _ _ _ (S.out.tree _ (.head _))) ?_; rintro e dX ⟨Ax, nx, WV, n1, n2, rfl, hn, hb⟩; refine ⟨_, rfl, ?_⟩; have hn2 : decide (n1 = 0) = v := (by rw [← hn]; by_cases h : n1 = 0 <;> simp [h]); replace S := ae.mk (S.out.call hb); clear hb; clear fO jS jT jU jV lV iD)
  | fail)
 go_ret
 exact ⟨rfl, S.out.below⟩
def l_.f (_ : Nat) (a0 a1 a2 a3 a4 a5 : Int) (l : List ai) : Option Bool := if sz ⟨a0, ⟨a1, a2, a3, a4⟩, a5, l⟩ ≤ 1048576 then some (bZ ⟨a0, ⟨a1, a2, a3, a4⟩, a5, l⟩) else none
theorem l_.calls (k : Nat) (ay : Int) (aH : Int) (aC : Int) (aG : Int) (bz : Int) (bC : Int) (dE : Option Addr) (dF : Nat) (aJ : List (ai)) (r : Bool) (w : World) (o8 : Kd.C k26 w dE aJ.length aJ) (qo : aJ.length ≤ dF) (h : l_.f k ay aH aC aG bz bC aJ = some r) :
  Calls Try.prog 84 #[.agg #[.int .u8 ay, .int .i64 aH, .int .i64 aC, .int .i64 aG, .int .i64 bz, .int .i64 bC, .slice dE aJ.length dF]] w fun e w' => e = .returned (.bool r) ∧ Below w.heap.size w w' := by
 unfold l_.f at h
 split at h
 ·rename_i hz
  injection h with h
  subst h
  exact uG ⟨ay, ⟨aH, aC, aG, bz⟩, bC, aJ⟩ hz w.heap.size (fun _ => True) dE dF w (Kd.tK qo (Kd.qG (Kd.BU mi o8) (fun _ _ => trivial)))
 ·cases h
theorem Nl (c : ai) (hz : sz c ≤ 1048576) : Ev (fun k => l_.f k c.f0 c.f1.f0 c.f1.f1 c.f1.f2 c.f1.f3 c.f2 c.f3) (bZ c) := by
 refine Ev.congr (f := fun _ => some (bZ c)) (fun k => ?_) (Ev.now _)
 unfold l_.f
 rw [D5, if_pos hz]
end Go.Proofs.Ytfdmfgaiblfbhaa.P
namespace Go.Proofs.Ytfdmfgaiblfbhaa.P
open Go.RowKit Go.Proofs.ag.aT Go.Proofs.ag.bK Go.Proofs.ag.bY
attribute [local go_sem] je jr jO kC jL jM kN kQ
def ry.f (ay : Int) (aH : Int) (aC : Int) (aG : Int) (bz : Int) (bC : Int) (aJ : List (ai)) (a1 : Int) : Option (Bool) := if ay = 2 then (if a1 = 1 then (some true) else (if ay = 3 then (some (a1 == 2)) else (some false))) else (if ay = 3 then (some (a1 == 2)) else (some false))
theorem ry.calls (ay : Int) (aH : Int) (aC : Int) (aG : Int) (bz : Int) (bC : Int) (dE : Option Addr) (dF : Nat) (aJ : List (ai)) (a1 : Int) (r : Bool) (w : World) (o8 : Kd.C k26 w dE aJ.length aJ) (qo : aJ.length ≤ dF) (h : ry.f ay aH aC aG bz bC aJ a1 = some r) :
  Calls Try.prog 88 #[.agg #[.int .u8 ay, .int .i64 aH, .int .i64 aC, .int .i64 aG, .int .i64 bz, .int .i64 bC, .slice dE aJ.length dF], .int .u8 a1] w fun e w' => e = .returned (.bool r) ∧ Below w.heap.size w w' := by
 have H_ := Try.underlying26
 clear o8 qo
 have HB := ae.mk (Below.refl w.heap.size w)
 have H : (if ay = 2 then (if a1 = 1 then (some true) else (if ay = 3 then (some (a1 == 2)) else (some false))) else (if ay = 3 then (some (a1 == 2)) else (some false))) = some r := h
 clear h
 by_cases c3 : ay = 2
 ·rw [if_pos c3] at H
  have vJ : (ay == 2) = true := beq_iff_eq.mpr c3
  have Bh : (ay != 2) = false := bne_eq_false_iff_eq.mpr c3
  clear c3
  by_cases c4 : a1 = 1
  ·rw [if_pos c4] at H
   have CE : (a1 == 1) = true := beq_iff_eq.mpr c4
   have KX : (a1 != 1) = false := bne_eq_false_iff_eq.mpr c4
   clear c4
   obtain rfl := Option.some.inj H
   go_enter Try.func88, Try.ntmps88
   go_wp2_with (((with_reducible refine aA (N := 2) rfl ?_); refine aQ ?hg (N := 2) ?hd (cs := #[.int .u8 ay, .int .i64 aH, .int .i64 aC, .int .i64 aG, .int .i64 bz, .int .i64 bC, .slice dE aJ.length dF]) (t := 26) ?hr ?_; (case hd => rfl); (case hg => rfl); (case hr => (go_simp; done)); intro gy hg w5 hbox hb; have dn := ae.mk (hbox); replace HB := ae.mk (ak (by repeat ((with_reducible exact HB.out))) hb); clear hb hbox hg; have CS : w5.cell? ⟨gy, 0, none⟩ = some (.int .u8 ay) := (af dn.out 0).trans rfl; have CU : w5.cell? ⟨gy, 1, none⟩ = some (.int .i64 aH) := (af dn.out 1).trans rfl; have CV : w5.cell? ⟨gy, 2, none⟩ = some (.int .i64 aC) := (af dn.out 2).trans rfl; have CW : w5.cell? ⟨gy, 3, none⟩ = some (.int .i64 aG) := (af dn.out 3).trans rfl; have CX : w5.cell? ⟨gy, 4, none⟩ = some (.int .i64 bz) := (af dn.out 4).trans rfl; have CY : w5.cell? ⟨gy, 5, none⟩ = some (.int .i64 bC) := (af dn.out 5).trans rfl; have CZ : w5.cell? ⟨gy, 6, none⟩ = some (.slice dE aJ.length dF) := (af dn.out 6).trans rfl; have C9 := ah dn.out 0; have C_ := ah dn.out 1; have Dc := ah dn.out 2; have Df := ah dn.out 3; have Dh := ah dn.out 4; have Di := ah dn.out 5; have Dj := ah dn.out 6))
   go_ret
   exact ⟨by rfl, by repeat ((with_reducible exact HB.out))⟩
  ·rw [if_neg c4] at H
   have CE : (a1 == 1) = false := beq_eq_false_iff_ne.mpr c4
   have KX : (a1 != 1) = true := bne_iff_ne.mpr c4
   by_cases c7 : ay = 3
   ·rw [if_pos c7] at H
    have wJ : (ay == 3) = true := beq_iff_eq.mpr c7
    have UO : (ay != 3) = false := bne_eq_false_iff_eq.mpr c7
    clear c7
    obtain rfl := Option.some.inj H
    go_enter Try.func88, Try.ntmps88
    go_wp2_with (((with_reducible refine aA (N := 2) rfl ?_); refine aQ ?hg (N := 2) ?hd (cs := #[.int .u8 ay, .int .i64 aH, .int .i64 aC, .int .i64 aG, .int .i64 bz, .int .i64 bC, .slice dE aJ.length dF]) (t := 26) ?hr ?_; (case hd => rfl); (case hg => rfl); (case hr => (go_simp; done)); intro gy hg w8 hbox hb; have dn := ae.mk (hbox); replace HB := ae.mk (ak (by repeat ((with_reducible exact HB.out))) hb); clear hb hbox hg; have Sr : w8.cell? ⟨gy, 0, none⟩ = some (.int .u8 ay) := (af dn.out 0).trans rfl; have Su : w8.cell? ⟨gy, 1, none⟩ = some (.int .i64 aH) := (af dn.out 1).trans rfl; have Sv : w8.cell? ⟨gy, 2, none⟩ = some (.int .i64 aC) := (af dn.out 2).trans rfl; have Sz : w8.cell? ⟨gy, 3, none⟩ = some (.int .i64 aG) := (af dn.out 3).trans rfl; have SA : w8.cell? ⟨gy, 4, none⟩ = some (.int .i64 bz) := (af dn.out 4).trans rfl; have SB : w8.cell? ⟨gy, 5, none⟩ = some (.int .i64 bC) := (af dn.out 5).trans rfl; have SC : w8.cell? ⟨gy, 6, none⟩ = some (.slice dE aJ.length dF) := (af dn.out 6).trans rfl; have SS := ah dn.out 0; have SV := ah dn.out 1; have SX := ah dn.out 2; have SY := ah dn.out 3; have S9 := ah dn.out 4; have S_ := ah dn.out 5; have Tc := ah dn.out 6))
    go_ret
    exact ⟨by rfl, by repeat ((with_reducible exact HB.out))⟩
   ·rw [if_neg c7] at H
    have wJ : (ay == 3) = false := beq_eq_false_iff_ne.mpr c7
    have UO : (ay != 3) = true := bne_iff_ne.mpr c7
    obtain rfl := Option.some.inj H
    go_enter Try.func88, Try.ntmps88
    go_wp2_with (((with_reducible refine aA (N := 2) rfl ?_); refine aQ ?hg (N := 2) ?hd (cs := #[.int .u8 ay, .int .i64 aH, .int .i64 aC, .int .i64 aG, .int .i64 bz, .int .i64 bC, .slice dE aJ.length dF]) (t := 26) ?hr ?_; (case hd => rfl); (case hg => rfl); (case hr => (go_simp; done)); intro gy hg w10 hbox hb; have dn := ae.mk (hbox); replace HB := ae.mk (ak (by repeat ((with_reducible exact HB.out))) hb); clear hb hbox hg; have X0 : w10.cell? ⟨gy, 0, none⟩ = some (.int .u8 ay) := (af dn.out 0).trans rfl; have X3 : w10.cell? ⟨gy, 1, none⟩ = some (.int .i64 aH) := (af dn.out 1).trans rfl; have X4 : w10.cell? ⟨gy, 2, none⟩ = some (.int .i64 aC) := (af dn.out 2).trans rfl; have X5 : w10.cell? ⟨gy, 3, none⟩ = some (.int .i64 aG) := (af dn.out 3).trans rfl; have X6 : w10.cell? ⟨gy, 4, none⟩ = some (.int .i64 bz) := (af dn.out 4).trans rfl; have X7 : w10.cell? ⟨gy, 5, none⟩ = some (.int .i64 bC) := (af dn.out 5).trans rfl; have X8 : w10.cell? ⟨gy, 6, none⟩ = some (.slice dE aJ.length dF) := (af dn.out 6).trans rfl; have YE := ah dn.out 0; have YF := ah dn.out 1; have YG := ah dn.out 2; have YH := ah dn.out 3; have YI := ah dn.out 4; have YJ := ah dn.out 5; have YK := ah dn.out 6))
    go_ret
    exact ⟨by rfl, by repeat ((with_reducible exact HB.out))⟩
 ·rw [if_neg c3] at H
  have vJ : (ay == 2) = false := beq_eq_false_iff_ne.mpr c3
  have Bh : (ay != 2) = true := bne_iff_ne.mpr c3
  by_cases c12 : ay = 3
  ·rw [if_pos c12] at H
   have Bg : (ay == 3) = true := beq_iff_eq.mpr c12
   have F7 : (ay != 3) = false := bne_eq_false_iff_eq.mpr c12
   clear c12
   obtain rfl := Option.some.inj H
   go_enter Try.func88, Try.ntmps88
   go_wp2_with (((with_reducible refine aA (N := 2) rfl ?_); refine aQ ?hg (N := 2) ?hd (cs := #[.int .u8 ay, .int .i64 aH, .int .i64 aC, .int .i64 aG, .int .i64 bz, .int .i64 bC, .slice dE aJ.length dF]) (t := 26) ?hr ?_; (case hd => rfl); (case hg => rfl); (case hr => (go_simp; done)); intro gy hg tH hbox hb; have dn := ae.mk (hbox); replace HB := ae.mk (ak (by repeat ((with_reducible exact HB.out))) hb); clear hb hbox hg; have Ht : tH.cell? ⟨gy, 0, none⟩ = some (.int .u8 ay) := (af dn.out 0).trans rfl; have Hu : tH.cell? ⟨gy, 1, none⟩ = some (.int .i64 aH) := (af dn.out 1).trans rfl; have Hw : tH.cell? ⟨gy, 2, none⟩ = some (.int .i64 aC) := (af dn.out 2).trans rfl; have Hy : tH.cell? ⟨gy, 3, none⟩ = some (.int .i64 aG) := (af dn.out 3).trans rfl; have Yg : tH.cell? ⟨gy, 4, none⟩ = some (.int .i64 bz) := (af dn.out 4).trans rfl; have Yh : tH.cell? ⟨gy, 5, none⟩ = some (.int .i64 bC) := (af dn.out 5).trans rfl; have Yi : tH.cell? ⟨gy, 6, none⟩ = some (.slice dE aJ.length dF) := (af dn.out 6).trans rfl; have Hz := ah dn.out 0; have HY := ah dn.out 1; have H5 := ah dn.out 2; have H6 := ah dn.out 3; have YT := ah dn.out 4; have YU := ah dn.out 5; have YV := ah dn.out 6))
   go_ret
   exact ⟨by rfl, by repeat ((with_reducible exact HB.out))⟩
  ·rw [if_neg c12] at H
   have Bg : (ay == 3) = false := beq_eq_false_iff_ne.mpr c12
   have F7 : (ay != 3) = true := bne_iff_ne.mpr c12
   obtain rfl := Option.some.inj H
   go_enter Try.func88, Try.ntmps88
   go_wp2_with (((with_reducible refine aA (N := 2) rfl ?_); refine aQ ?hg (N := 2) ?hd (cs := #[.int .u8 ay, .int .i64 aH, .int .i64 aC, .int .i64 aG, .int .i64 bz, .int .i64 bC, .slice dE aJ.length dF]) (t := 26) ?hr ?_; (case hd => rfl); (case hg => rfl); (case hr => (go_simp; done)); intro gy hg tJ hbox hb; have dn := ae.mk (hbox); replace HB := ae.mk (ak (by repeat ((with_reducible exact HB.out))) hb); clear hb hbox hg; have Oq : tJ.cell? ⟨gy, 0, none⟩ = some (.int .u8 ay) := (af dn.out 0).trans rfl; have Ot : tJ.cell? ⟨gy, 1, none⟩ = some (.int .i64 aH) := (af dn.out 1).trans rfl; have Ou : tJ.cell? ⟨gy, 2, none⟩ = some (.int .i64 aC) := (af dn.out 2).trans rfl; have Ov : tJ.cell? ⟨gy, 3, none⟩ = some (.int .i64 aG) := (af dn.out 3).trans rfl; have Yj : tJ.cell? ⟨gy, 4, none⟩ = some (.int .i64 bz) := (af dn.out 4).trans rfl; have Yk : tJ.cell? ⟨gy, 5, none⟩ = some (.int .i64 bC) := (af dn.out 5).trans rfl; have Yl : tJ.cell? ⟨gy, 6, none⟩ = some (.slice dE aJ.length dF) := (af dn.out 6).trans rfl; have OB := ah dn.out 0; have OC := ah dn.out 1; have OD := ah dn.out 2; have OE := ah dn.out 3; have YW := ah dn.out 4; have YX := ah dn.out 5; have YY := ah dn.out 6))
   go_ret
   exact ⟨by rfl, by repeat ((with_reducible exact HB.out))⟩
def qQ.f (ay : Int) (aH : Int) (aC : Int) (aG : Int) (bz : Int) (bC : Int) (aJ : List (ai)) (a1 : Int) : Option (Bool) := if ay = 2 then (if a1 = 1 then (some true) else (if ay = 3 then (some (a1 == 2)) else (some false))) else (if ay = 3 then (some (a1 == 2)) else (some false))
theorem qQ.calls (ay : Int) (aH : Int) (aC : Int) (aG : Int) (bz : Int) (bC : Int) (dE : Option Addr) (dF : Nat) (aJ : List (ai)) (a1 : Int) (r : Bool) (w : World) (o8 : Kd.C k26 w dE aJ.length aJ) (qo : aJ.length ≤ dF) (h : qQ.f ay aH aC aG bz bC aJ a1 = some r) :
  Calls Try.prog 99 #[.agg #[.int .u8 ay, .int .i64 aH, .int .i64 aC, .int .i64 aG, .int .i64 bz, .int .i64 bC, .slice dE aJ.length dF], .int .u8 a1] w fun e w' => e = .returned (.bool r) ∧ Below w.heap.size w w' := by
 have H_ := Try.underlying26
 clear o8 qo
 have HB := ae.mk (Below.refl w.heap.size w)
 have H : (if ay = 2 then (if a1 = 1 then (some true) else (if ay = 3 then (some (a1 == 2)) else (some false))) else (if ay = 3 then (some (a1 == 2)) else (some false))) = some r := h
 clear h
 by_cases c3 : ay = 2
 ·rw [if_pos c3] at H
  have vJ : (ay == 2) = true := beq_iff_eq.mpr c3
  have Bh : (ay != 2) = false := bne_eq_false_iff_eq.mpr c3
  clear c3
  by_cases c4 : a1 = 1
  ·rw [if_pos c4] at H
   have CE : (a1 == 1) = true := beq_iff_eq.mpr c4
   have KX : (a1 != 1) = false := bne_eq_false_iff_eq.mpr c4
   clear c4
   obtain rfl := Option.some.inj H
   go_enter Try.func99, Try.ntmps99
   go_wp2_with (((with_reducible refine aA (N := 2) rfl ?_); refine aQ ?hg (N := 2) ?hd (cs := #[.int .u8 ay, .int .i64 aH, .int .i64 aC, .int .i64 aG, .int .i64 bz, .int .i64 bC, .slice dE aJ.length dF]) (t := 26) ?hr ?_; (case hd => rfl); (case hg => rfl); (case hr => (go_simp; done)); intro gu hg w5 hbox hb; have dm := ae.mk (hbox); replace HB := ae.mk (ak (by repeat ((with_reducible exact HB.out))) hb); clear hb hbox hg; have CS : w5.cell? ⟨gu, 0, none⟩ = some (.int .u8 ay) := (af dm.out 0).trans rfl; have CU : w5.cell? ⟨gu, 1, none⟩ = some (.int .i64 aH) := (af dm.out 1).trans rfl; have CV : w5.cell? ⟨gu, 2, none⟩ = some (.int .i64 aC) := (af dm.out 2).trans rfl; have CW : w5.cell? ⟨gu, 3, none⟩ = some (.int .i64 aG) := (af dm.out 3).trans rfl; have CX : w5.cell? ⟨gu, 4, none⟩ = some (.int .i64 bz) := (af dm.out 4).trans rfl; have CY : w5.cell? ⟨gu, 5, none⟩ = some (.int .i64 bC) := (af dm.out 5).trans rfl; have CZ : w5.cell? ⟨gu, 6, none⟩ = some (.slice dE aJ.length dF) := (af dm.out 6).trans rfl; have C9 := ah dm.out 0; have C_ := ah dm.out 1; have Dc := ah dm.out 2; have Df := ah dm.out 3; have Dh := ah dm.out 4; have Di := ah dm.out 5; have Dj := ah dm.out 6))
   go_ret
   exact ⟨by rfl, by repeat ((with_reducible exact HB.out))⟩
  ·rw [if_neg c4] at H
   have CE : (a1 == 1) = false := beq_eq_false_iff_ne.mpr c4
   have KX : (a1 != 1) = true := bne_iff_ne.mpr c4
   by_cases c7 : ay = 3
   ·rw [if_pos c7] at H
    have wJ : (ay == 3) = true := beq_iff_eq.mpr c7
    have UO : (ay != 3) = false := bne_eq_false_iff_eq.mpr c7
    clear c7
    obtain rfl := Option.some.inj H
    go_enter Try.func99, Try.ntmps99
    go_wp2_with (((with_reducible refine aA (N := 2) rfl ?_); refine aQ ?hg (N := 2) ?hd (cs := #[.int .u8 ay, .int .i64 aH, .int .i64 aC, .int .i64 aG, .int .i64 bz, .int .i64 bC, .slice dE aJ.length dF]) (t := 26) ?hr ?_; (case hd => rfl); (case hg => rfl); (case hr => (go_simp; done)); intro gu hg w8 hbox hb; have dm := ae.mk (hbox); replace HB := ae.mk (ak (by repeat ((with_reducible exact HB.out))) hb); clear hb hbox hg; have Sr : w8.cell? ⟨gu, 0, none⟩ = some (.int .u8 ay) := (af dm.out 0).trans rfl; have Su : w8.cell? ⟨gu, 1, none⟩ = some (.int .i64 aH) := (af dm.out 1).trans rfl; have Sv : w8.cell? ⟨gu, 2, none⟩ = some (.int .i64 aC) := (af dm.out 2).trans rfl; have Sz : w8.cell? ⟨gu, 3, none⟩ = some (.int .i64 aG) := (af dm.out 3).trans rfl; have SA : w8.cell? ⟨gu, 4, none⟩ = some (.int .i64 bz) := (af dm.out 4).trans rfl; have SB : w8.cell? ⟨gu, 5, none⟩ = some (.int .i64 bC) := (af dm.out 5).trans rfl; have SC : w8.cell? ⟨gu, 6, none⟩ = some (.slice dE aJ.length dF) := (af dm.out 6).trans rfl; have SS := ah dm.out 0; have SV := ah dm.out 1; have SX := ah dm.out 2; have SY := ah dm.out 3; have S9 := ah dm.out 4; have S_ := ah dm.out 5; have Tc := ah dm.out 6))
    go_ret
    exact ⟨by rfl, by repeat ((with_reducible exact HB.out))⟩
   ·rw [if_neg c7] at H
    have wJ : (ay == 3) = false := beq_eq_false_iff_ne.mpr c7
    have UO : (ay != 3) = true := bne_iff_ne.mpr c7
    obtain rfl := Option.some.inj H
    go_enter Try.func99, Try.ntmps99
    go_wp2_with (((with_reducible refine aA (N := 2) rfl ?_); refine aQ ?hg (N := 2) ?hd (cs := #[.int .u8 ay, .int .i64 aH, .int .i64 aC, .int .i64 aG, .int .i64 bz, .int .i64 bC, .slice dE aJ.length dF]) (t := 26) ?hr ?_; (case hd => rfl); (case hg => rfl); (case hr => (go_simp; done)); intro gu hg w10 hbox hb; have dm := ae.mk (hbox); replace HB := ae.mk (ak (by repeat ((with_reducible exact HB.out))) hb); clear hb hbox hg; have X0 : w10.cell? ⟨gu, 0, none⟩ = some (.int .u8 ay) := (af dm.out 0).trans rfl; have X3 : w10.cell? ⟨gu, 1, none⟩ = some (.int .i64 aH) := (af dm.out 1).trans rfl; have X4 : w10.cell? ⟨gu, 2, none⟩ = some (.int .i64 aC) := (af dm.out 2).trans rfl; have X5 : w10.cell? ⟨gu, 3, none⟩ = some (.int .i64 aG) := (af dm.out 3).trans rfl; have X6 : w10.cell? ⟨gu, 4, none⟩ = some (.int .i64 bz) := (af dm.out 4).trans rfl; have X7 : w10.cell? ⟨gu, 5, none⟩ = some (.int .i64 bC) := (af dm.out 5).trans rfl; have X8 : w10.cell? ⟨gu, 6, none⟩ = some (.slice dE aJ.length dF) := (af dm.out 6).trans rfl; have YE := ah dm.out 0; have YF := ah dm.out 1; have YG := ah dm.out 2; have YH := ah dm.out 3; have YI := ah dm.out 4; have YJ := ah dm.out 5; have YK := ah dm.out 6))
    go_ret
    exact ⟨by rfl, by repeat ((with_reducible exact HB.out))⟩
 ·rw [if_neg c3] at H
  have vJ : (ay == 2) = false := beq_eq_false_iff_ne.mpr c3
  have Bh : (ay != 2) = true := bne_iff_ne.mpr c3
  by_cases c12 : ay = 3
  ·rw [if_pos c12] at H
   have Bg : (ay == 3) = true := beq_iff_eq.mpr c12
   have F7 : (ay != 3) = false := bne_eq_false_iff_eq.mpr c12
   clear c12
   obtain rfl := Option.some.inj H
   go_enter Try.func99, Try.ntmps99
   go_wp2_with (((with_reducible refine aA (N := 2) rfl ?_); refine aQ ?hg (N := 2) ?hd (cs := #[.int .u8 ay, .int .i64 aH, .int .i64 aC, .int .i64 aG, .int .i64 bz, .int .i64 bC, .slice dE aJ.length dF]) (t := 26) ?hr ?_; (case hd => rfl); (case hg => rfl); (case hr => (go_simp; done)); intro gu hg tH hbox hb; have dm := ae.mk (hbox); replace HB := ae.mk (ak (by repeat ((with_reducible exact HB.out))) hb); clear hb hbox hg; have Ht : tH.cell? ⟨gu, 0, none⟩ = some (.int .u8 ay) := (af dm.out 0).trans rfl; have Hu : tH.cell? ⟨gu, 1, none⟩ = some (.int .i64 aH) := (af dm.out 1).trans rfl; have Hw : tH.cell? ⟨gu, 2, none⟩ = some (.int .i64 aC) := (af dm.out 2).trans rfl; have Hy : tH.cell? ⟨gu, 3, none⟩ = some (.int .i64 aG) := (af dm.out 3).trans rfl; have Yg : tH.cell? ⟨gu, 4, none⟩ = some (.int .i64 bz) := (af dm.out 4).trans rfl; have Yh : tH.cell? ⟨gu, 5, none⟩ = some (.int .i64 bC) := (af dm.out 5).trans rfl; have Yi : tH.cell? ⟨gu, 6, none⟩ = some (.slice dE aJ.length dF) := (af dm.out 6).trans rfl; have Hz := ah dm.out 0; have HY := ah dm.out 1; have H5 := ah dm.out 2; have H6 := ah dm.out 3; have YT := ah dm.out 4; have YU := ah dm.out 5; have YV := ah dm.out 6))
   go_ret
   exact ⟨by rfl, by repeat ((with_reducible exact HB.out))⟩
  ·rw [if_neg c12] at H
   have Bg : (ay == 3) = false := beq_eq_false_iff_ne.mpr c12
   have F7 : (ay != 3) = true := bne_iff_ne.mpr c12
   obtain rfl := Option.some.inj H
   go_enter Try.func99, Try.ntmps99
   go_wp2_with (((with_reducible refine aA (N := 2) rfl ?_); refine aQ ?hg (N := 2) ?hd (cs := #[.int .u8 ay, .int .i64 aH, .int .i64 aC, .int .i64 aG, .int .i64 bz, .int .i64 bC, .slice dE aJ.length dF]) (t := 26) ?hr ?_; (case hd => rfl); (case hg => rfl); (case hr => (go_simp; done)); intro gu hg tJ hbox hb; have dm := ae.mk (hbox); replace HB := ae.mk (ak (by repeat ((with_reducible exact HB.out))) hb); clear hb hbox hg; have Oq : tJ.cell? ⟨gu, 0, none⟩ = some (.int .u8 ay) := (af dm.out 0).trans rfl; have Ot : tJ.cell? ⟨gu, 1, none⟩ = some (.int .i64 aH) := (af dm.out 1).trans rfl; have Ou : tJ.cell? ⟨gu, 2, none⟩ = some (.int .i64 aC) := (af dm.out 2).trans rfl; have Ov : tJ.cell? ⟨gu, 3, none⟩ = some (.int .i64 aG) := (af dm.out 3).trans rfl; have Yj : tJ.cell? ⟨gu, 4, none⟩ = some (.int .i64 bz) := (af dm.out 4).trans rfl; have Yk : tJ.cell? ⟨gu, 5, none⟩ = some (.int .i64 bC) := (af dm.out 5).trans rfl; have Yl : tJ.cell? ⟨gu, 6, none⟩ = some (.slice dE aJ.length dF) := (af dm.out 6).trans rfl; have OB := ah dm.out 0; have OC := ah dm.out 1; have OD := ah dm.out 2; have OE := ah dm.out 3; have YW := ah dm.out 4; have YX := ah dm.out 5; have YY := ah dm.out 6))
   go_ret
   exact ⟨by rfl, by repeat ((with_reducible exact HB.out))⟩
end Go.Proofs.Ytfdmfgaiblfbhaa.P
namespace Go.Proofs.Ytfdmfgaiblfbhaa.P
open Go.RowKit Go.Proofs.ag.aT Go.Proofs.ag.bK Go.Proofs.ag.bY
def fG (ax k : Int) : Bool := (k == 2 && ax == 1) || (k == 3 && ax == 2)
theorem Bf (c : ai) (ax : Int) : qQ.f c.f0 c.f1.f0 c.f1.f1 c.f1.f2 c.f1.f3 c.f2 c.f3 ax = some (fG ax c.f0) := by
 unfold qQ.f fG
 by_cases h2 : c.f0 = 2
 ·by_cases h1 : ax = 1
  ·rw [if_pos h2, if_pos h1]; simp [h2, h1]
  ·rw [if_pos h2, if_neg h1, if_neg (by omega)]; simp [h2, h1]
 ·rw [if_neg h2]
  by_cases h3 : c.f0 = 3
  ·rw [if_pos h3]; simp [h3]
  ·rw [if_neg h3]; simp [h2, h3]
theorem NH (c : ai) (ax : Int) : ry.f c.f0 c.f1.f0 c.f1.f1 c.f1.f2 c.f1.f3 c.f2 c.f3 ax = some (fG ax c.f0) := Bf c ax
mutual
def dH (ax : Int) : ai → Int
 | ⟨a, _, _, l⟩ => if a = 1 then 1 else if fG ax a = true then ((l.length : Int) - 1) + lX ax l else lu ax 0 l
def lX (ax : Int) : List ai → Int
 | [] => 0
 | k :: ks => dH ax k + lX ax ks
def lu (ax : Int) : Int → List ai → Int
 | m, [] => m
 | m, k :: ks => lu ax (mx m (dH ax k)) ks
end
theorem qf (ax : Int) (c : ai) : dH ax c = if c.f0 = 1 then 1 else if fG ax c.f0 = true then ((c.f3.length : Int) - 1) + lX ax c.f3 else lu ax 0 c.f3 := by cases c; simp [dH]
theorem sD (ax : Int) : lX ax [] = 0 := by simp [lX]
theorem oM (ax : Int) (k : ai) (ks : List ai) : lX ax (k :: ks) = dH ax k + lX ax ks := by simp [lX]
theorem Wj (ax : Int) (a b : List ai) : lX ax (a ++ b) = lX ax a + lX ax b := by
 induction a with
 | nil => rw [List.nil_append, sD]; omega
 | cons x xs ih => rw [List.cons_append, oM, oM, ih]; omega
theorem qh (ax m : Int) : lu ax m [] = m := by simp [lu]
theorem jY (ax m : Int) (k : ai) (ks : List ai) : lu ax m (k :: ks) = lu ax (mx m (dH ax k)) ks := by simp [lu]
theorem Xe {a b c : Int} (h : a ≤ c) (k : b ≤ c) : mx a b ≤ c := by unfold mx; split <;> omega
theorem Tu (a b : Int) : a ≤ mx a b := by unfold mx; split <;> omega
theorem Tv (a b : Int) : b ≤ mx a b := by unfold mx; split <;> omega
theorem Jd (ax : Int) : ∀ (N : Nat), (∀ c : ai, sz c ≤ N → -(sz c : Int) ≤ dH ax c ∧ dH ax c ≤ 2 * (sz c : Int) - 1) ∧
  (∀ l : List ai, dO l ≤ N → -(dO l : Int) ≤ lX ax l ∧ lX ax l ≤ 2 * (dO l : Int) - (l.length : Int)) ∧ (∀ l : List ai, dO l ≤ N → ∀ m : Int, m ≤ lu ax m l ∧ ∀ u, m ≤ u → 2 * (dO l : Int) ≤ u → lu ax m l ≤ u) := by
 intro N
 induction N with
 | zero =>
  refine ⟨fun c h => ?_, fun l h => ?_, fun l h => ?_⟩
  ·rw [df] at h; omega
  ·cases l with
   | nil => rw [sD, wR]; simp
   | cons z zs => rw [bW, df] at h; omega
  ·cases l with
   | nil => intro m; rw [qh]; exact ⟨Int.le_refl _, fun u h _ => h⟩
   | cons z zs => rw [bW, df] at h; omega
 | succ N ih =>
  have hC : ∀ c : ai, sz c ≤ N + 1 → -(sz c : Int) ≤ dH ax c ∧ dH ax c ≤ 2 * (sz c : Int) - 1 := by
   intro c h
   have hs := df c
   have h1 := ih.2.1 c.f3 (by omega)
   have h2 := ih.2.2 c.f3 (by omega) 0
   have h3 := h2.2 (2 * (dO c.f3 : Int)) (by omega) (Int.le_refl _)
   rw [qf]
   split
   ·omega
   ·split
    ·omega
    ·omega
  refine ⟨hC, fun l => ?_, fun l => ?_⟩
  ·induction l with
   | nil => intro _; rw [sD, wR]; simp
   | cons x xs ihl =>
    intro h
    rw [bW] at h ⊢
    have h1 := hC x (by omega)
    have h2 := ihl (by omega)
    rw [oM, List.length_cons]
    omega
  ·induction l with
   | nil => intro _ m; rw [qh]; exact ⟨Int.le_refl _, fun u h _ => h⟩
   | cons x xs ihl =>
    intro h m
    rw [bW] at h ⊢
    have h1 := hC x (by omega)
    have h2 := ihl (by omega) (mx m (dH ax x))
    rw [jY]
    refine ⟨Int.le_trans (Tu m (dH ax x)) h2.1, fun u hu hu2 => h2.2 u (Xe hu (by omega)) (by omega)⟩
theorem OM {c x : ai} (h : (fJ c).all l9 = true) (hx : x ∈ c.f3) : (fJ x).all l9 = true := by
 rw [pG, List.all_cons, Bool.and_eq_true] at h
 obtain ⟨p, q, e⟩ := List.append_of_mem hx
 have h2 := h.2
 rw [e, Be, kZ, List.all_append, List.all_append] at h2
 simp only [Bool.and_eq_true] at h2
 exact h2.2.1
theorem nT {c : ai} (h : (fJ c).all l9 = true) : l9 c = true := by
 rw [pG, List.all_cons, Bool.and_eq_true] at h
 exact h.1
theorem yX {c : ai} (h : l9 c = true) : (c.f0 = 1 ∧ c.f3.length = 0) ∨ ((c.f0 = 2 ∨ c.f0 = 3) ∧ 2 ≤ c.f3.length) := by
 unfold l9 at h
 simp only [Bool.and_eq_true, decide_eq_true_eq] at h
 obtain ⟨⟨⟨_, h1⟩, h2⟩, h3⟩ := h
 by_cases e : c.f0 = 1
 ·exact .inl ⟨e, (h2 e).1⟩
 ·exact .inr ⟨by omega, (h3 (by omega)).1⟩
theorem Qm (ax m : Int) (l : List ai) (k : ai) : lu ax m (l ++ [k]) = mx (lu ax m l) (dH ax k) := by
 induction l generalizing m with
 | nil => rw [List.nil_append, jY, qh, qh]
 | cons x xs ih => rw [List.cons_append, jY, jY, ih]
def ofA (ax : Int) (a : Bool) (pre : List ai) : Int := if a = true then lX ax pre + (if pre.length = 0 then 0 else (pre.length : Int) - 1) else lu ax 0 pre
theorem Ue (ax : Int) (pre : List ai) (k : ai) : lX ax (pre ++ [k]) = lX ax pre + dH ax k := by rw [Wj, oM, sD, Int.add_zero]
theorem adA {ax : Int} {pre : List ai} {k : ai} (h : dO pre + sz k ≤ 1048576) : -2097152 ≤ lX ax pre ∧ lX ax pre ≤ 2097152 ∧ -2097152 ≤ dH ax k ∧ dH ax k ≤ 2097152 := by
 have b1 := (Jd ax (sz k)).1 k (Nat.le_refl _)
 have b2 := (Jd ax (dO pre)).2.1 pre (Nat.le_refl _)
 omega
theorem ZE {ax : Int} {c : ai} (h1 : ¬ c.f0 = 1) (h2 : c.f3.length ≠ 0) : ofA ax (fG ax c.f0) c.f3 = dH ax c := by
 rw [qf, if_neg h1]
 unfold ofA
 rw [if_neg h2]
 split <;> omega
theorem Qj {ax : Int} {pre : List ai} {k : ai} {n : Int} (h : dO pre + sz k ≤ 1048576) (hn : -1 ≤ n ∧ n ≤ 1048576) : wrap64 (n + lX ax pre + dH ax k) = n + lX ax (pre ++ [k]) := by
 have b := adA (ax := ax) h
 rw [Ue, wq (by omega) (by omega)]
 omega
theorem Gv (l : List ai) (i : Int) (h0 : 0 ≤ i) (h1 : i < (l.length : Int)) : az l i ∈ l := by
 unfold az
 rw [List.getD_eq_getElem?_getD, List.getElem?_eq_getElem (by omega), Option.getD_some]
 exact List.getElem_mem _
theorem xB {l : List ai} {k : ai} (h : k ∈ l) : sz k ≤ dO l := by
 obtain ⟨p, q, e⟩ := List.append_of_mem h
 rw [e, nX, bW]
 omega
def oh (c : ai) : List Int → Option ai
 | [] => some c
 | i :: is => if i < 0 ∨ i ≥ (c.f3.length : Int) then none else oh (az c.f3 i) is
end Go.Proofs.Ytfdmfgaiblfbhaa.P
namespace Go.Proofs.Ytfdmfgaiblfbhaa.P
open Go.RowKit Go.Proofs.ag.aT Go.Proofs.ag.bK Go.Proofs.ag.bY
attribute [local go_sem] je jO
section
variable {W : World} {b : Nat} {P : Nat → Prop} {A : Option Addr} {cc : Nat}
theorem Ad {c : ai} {ax : Int} {v : Bool} (h : fG ax c.f0 = v) (hV : Kd.V k26 26 W b P (.slice A c.f3.length cc) c.f3) :
  Calls Try.prog 99 #[.agg #[.int .u8 c.f0, .int .i64 c.f1.f0, .int .i64 c.f1.f1, .int .i64 c.f1.f2, .int .i64 c.f1.f3, .int .i64 c.f2, .slice A c.f3.length cc], .int .u8 ax] W fun e w' => e = .returned (.bool v) ∧ Below W.heap.size W w' :=
 have h2 := Kd.jZ hV
 qQ.calls _ _ _ _ _ _ A cc c.f3 ax _ W h2.2.2 h2.2.1 ((Bf c ax).trans (congrArg some h))
end
theorem Vx (ax : Int) : ∀ (N : Nat) (c : ai), sz c ≤ N → N ≤ 1048576 → ∀ (b : Nat) (P : Nat → Prop) (A : Option Addr) (cc : Nat) (w : World), Kd.V k26 26 w b P (.slice A c.f3.length cc) c.f3 →
  Calls Try.prog 149 #[.agg #[.int .u8 c.f0, .int .i64 c.f1.f0, .int .i64 c.f1.f1, .int .i64 c.f1.f2, .int .i64 c.f1.f3, .int .i64 c.f2, .slice A c.f3.length cc], .int .u8 ax] w fun e w' => e = .returned (.int .i64 (dH ax c)) ∧ Below w.heap.size w w' := by
 intro N
 induction N with
 | zero => intro c h; rw [df] at h; omega
 | succ N ih =>
  intro c hc hN b P A cc w hv
  have hsz := df c
  have hlen := jF c.f3
  have S := ae.mk (St.start (ts := [(.slice A c.f3.length cc, c.f3)]) (b0 := w.heap.size) (w := w) (P := P) (fun t ht => by rw [List.mem_singleton.1 ht]; exact f_ hv))
  have jl := ae.mk (show c.f3.length ≤ 1048576 by omega)
  have WC := ae.mk (show dO c.f3 ≤ 1048576 by omega)
  have IH := ae.mk fun (k : ai) (hk : k ∈ c.f3) A cc w {b P} h => ih k (by have := xB hk; omega) (by omega) b P A cc w h
  have hE := fun h1 h2 => @ZE ax c h1 h2
  have hL := qf ax c
  generalize dH ax c = R at hE hL ⊢
  obtain ⟨ck, ⟨cx, cy, cw, ch⟩, aK, l⟩ := c
  simp only [] at S jl WC IH hE hL ⊢
  clear ih hc hN hv hsz hlen
  by_cases h1 : ck = 1
  case pos =>
   have HR := ae.mk (show R = 1 by rw [hL, if_pos h1])
   obtain ⟨h1a, h1b, h1d⟩ := yQ (a := ck) (b := 1) (by omega)
   clear h1 hE hL
   go_enter Try.func149, Try.ntmps149
   go_wp2_with ((refine boxS 2 _ 26 S ?_; clear S; intro b2 dJ S; have oz := (S.out.at (.head _) 0).trans rfl))
   clear oz
   go_ret
   rw [HR.out]
   exact ⟨rfl, S.out.below⟩
  rw [if_neg h1] at hL
  have HR := ae.mk hL
  obtain ⟨h1a, h1b, h1d⟩ := eqF (a := ck) (b := 1) (by omega)
  have HWL := ae.mk (show wrap64 ((l.length : Int) - 1) = (l.length : Int) - 1 by have := jl.out; unfold wrap64; omega)
  clear h1 hE hL
  go_enter Try.func149, Try.ntmps149
  go_wp2_with ((refine boxS 2 _ 26 S ?_; clear S; intro b2 dX S; have oz := (S.out.at (.head _) 0).trans rfl; have jh := (S.out.at (.head _) 6).trans rfl))
  clear oz jh
  go_loopg [5, 6, 20] l.length (fun gg v5 v6 v20 wr => ∃ (pre rest : List ai), v5 = .int .i64 ((l.length : Int) - 1 + lX ax pre) ∧ v6 = .int .i64 (lu ax 0 pre) ∧ v20 = .int .i64 (pre.length : Int) ∧ ae (pre ++ rest = l) ∧ rest.length ≤ gg ∧ ae (St w P [(some b2, .cells #[.int .u8 ck, .int .i64 cx, .int .i64 cy, .int .i64 cw, .int .i64 ch, .int .i64 aK, .slice A l.length cc] 26 (0, 0))] [] [(.slice A l.length cc, l)] [] wr))
  case atStart => exact ⟨[], l, (by rw [sD, Int.add_zero, HWL.out]), (by rw [qh]), rfl, ⟨rfl⟩, Nat.le_refl _, S⟩
  case round =>
   clear S
   obtain ⟨pre, rest, rfl, rfl, rfl, HE, hgg, S⟩ := hrel
   cases rest with
   | nil =>
    have hE := HE.out
    rw [List.append_nil] at hE
    have hE2 := hE.symm
    subst hE2
    clear hE HE hgg
    have hlt : ¬ ((l.length : Int) < (l.length : Int)) := by omega
    cases ha : fG ax ck with
    | true =>
     have HA := ae.mk ha
     rw [ha] at HR
     clear ha
     obtain ⟨oz, vK, vM, vN, vO, sH, jh⟩ := St.eQ S (.head _)
     go_wp2_with ((refine bP (some 36) Try.func99 S (Ad (c := ⟨ck, ⟨cx, cy, cw, ch⟩, aK, l⟩) HA.out (S.out.tree _ (.head _))) ?_; clear S; intro dJ S; clear oz vK vM vN vO sH jh))
     go_ret
     rw [HR.out]
     exact ⟨rfl, S.out.below⟩
    | false =>
     have HA := ae.mk ha
     rw [ha] at HR
     clear ha
     obtain ⟨oz, vK, vM, vN, vO, sH, jh⟩ := St.eQ S (.head _)
     go_wp2_with ((refine bP (some 36) Try.func99 S (Ad (c := ⟨ck, ⟨cx, cy, cw, ch⟩, aK, l⟩) HA.out (S.out.tree _ (.head _))) ?_; clear S; intro dJ S; clear oz vK vM vN vO sH jh))
     go_ret
     rw [HR.out]
     exact ⟨rfl, S.out.below⟩
   | cons k rest =>
    have hk : k ∈ l := by rw [← HE.out]; simp
    have hlt : (pre.length : Int) < (l.length : Int) := by rw [← HE.out, List.length_append, List.length_cons]; omega
    have hw1 : wrap64 ((pre.length : Int) + 1) = ((pre ++ [k]).length : Int) := by have := jl.out; rw [List.length_append, List.length_singleton]; unfold wrap64; omega
    have HW1 := ae.mk hw1
    have gz := ae.mk hgg
    have HK := ae.mk hk
    have HSB := ae.mk (show dO pre + sz k ≤ 1048576 by have h := WC.out; rw [← HE.out, nX, bW] at h; omega)
    obtain ⟨ku, ua, uc, ek, S1⟩ := S.out.elem (.head _) (pre.length : Int) (Int.natCast_nonneg _) hlt
    subst ek
    have hrd : az l (pre.length : Int) = k := by rw [← HE.out]; exact lN pre k rest
    rw [hrd] at S1
    simp only [Int.toNat_natCast] at S1
    replace S := ae.mk S1
    clear S1 hrd hk hgg hw1
    obtain ⟨gX, iY, jH, jv, jw, lD, lF⟩ := St.I4 S
    go_wp2_with (first | (refine boxS 8 _ 26 S ?_; clear S; intro b8 dJ S; clear gX iY jH jv jw lD lF) | (refine iT 26 8 23 #[.int .u8 k.f0, .int .i64 k.f1.f0, .int .i64 k.f1.f1, .int .i64 k.f1.f2, .int .i64 k.f1.f3, .int .i64 k.f2, .slice ua k.f3.length uc] 0 7 S ?_; clear S; intro dX S; obtain ⟨aez, aeA, aeB, aeC, aeD, aeE, aeF⟩ := St.eQ S (.head _)) | (refine bP (some 26) Try.func149 S (IH.out k HK.out ua uc _ (S.out.tree _ (.head _))) ?_; clear S; intro fU S; clear aez aeA aeB aeC aeD aeE aeF))
    all_goals
     have hw1 := HW1.out
     go_wp2
     go_roundg rest.length
     case measure => exact Nat.lt_of_lt_of_le (Nat.lt_succ_self _) gz.out
     case rel => exact ⟨pre ++ [k], rest, (by rw [Qj HSB.out (by have := jl.out; omega)]), (by rw [Qm]; congr 1; unfold mx; split <;> omega), (by rw [hw1]), ⟨by rw [List.append_assoc]; exact HE.out⟩, Nat.le_refl _, ⟨S.out.dQ.dG.bQ.bQ.bQ.bQ.bQ.bQ.bQ⟩⟩
def kJ.f (_ : Nat) (a0 a1 a2 a3 a4 a5 : Int) (l : List ai) (ax : Int) : Option Int := if sz ⟨a0, ⟨a1, a2, a3, a4⟩, a5, l⟩ ≤ 1048576 then some (dH ax ⟨a0, ⟨a1, a2, a3, a4⟩, a5, l⟩) else none
theorem kJ.calls (k : Nat) (ay : Int) (aH : Int) (aC : Int) (aG : Int) (bz : Int) (bC : Int) (dE : Option Addr) (dF : Nat) (aJ : List (ai)) (a1 : Int) (r : Int) (w : World) (o8 : Kd.C k26 w dE aJ.length aJ) (qo : aJ.length ≤ dF) (h : kJ.f k ay aH aC aG bz bC aJ a1 = some r) :
  Calls Try.prog 149 #[.agg #[.int .u8 ay, .int .i64 aH, .int .i64 aC, .int .i64 aG, .int .i64 bz, .int .i64 bC, .slice dE aJ.length dF], .int .u8 a1] w fun e w' => e = .returned (.int .i64 r) ∧ Below w.heap.size w w' := by
 unfold kJ.f at h
 split at h
 ·rename_i hz
  injection h with h
  subst h
  exact Vx a1 _ ⟨ay, ⟨aH, aC, aG, bz⟩, bC, aJ⟩ (Nat.le_refl _) hz w.heap.size (fun _ => True) dE dF w (Kd.tK qo (Kd.qG (Kd.BU mi o8) (fun _ _ => trivial)))
 ·cases h
theorem Vy (ax : Int) (N : Nat) (c : ai) (hc : sz c ≤ N) (hN : N ≤ 1048576) : Ev (fun k => kJ.f k c.f0 c.f1.f0 c.f1.f1 c.f1.f2 c.f1.f3 c.f2 c.f3 ax) (dH ax c) := by
 refine Ev.congr (f := fun _ => some (dH ax c)) (fun k => ?_) (Ev.now _)
 unfold kJ.f
 rw [D5, if_pos (Nat.le_trans hc hN)]
end Go.Proofs.Ytfdmfgaiblfbhaa.P
namespace Go.Proofs.Ytfdmfgaiblfbhaa.P
open Go.RowKit Go.Proofs.ag.aT Go.Proofs.ag.bK Go.Proofs.ag.bY
section
variable {W : World} {b : Nat} {P : Nat → Prop} {A : Option Addr} {cc : Nat}
theorem BL {c : ai} {ax : Int} {v : Bool} (h : fG ax c.f0 = v) (hV : Kd.V k26 26 W b P (.slice A c.f3.length cc) c.f3) :
  Calls Try.prog 88 #[.agg #[.int .u8 c.f0, .int .i64 c.f1.f0, .int .i64 c.f1.f1, .int .i64 c.f1.f2, .int .i64 c.f1.f3, .int .i64 c.f2, .slice A c.f3.length cc], .int .u8 ax] W fun e w' => e = .returned (.bool v) ∧ Below W.heap.size W w' :=
 have h2 := Kd.jZ hV
 ry.calls _ _ _ _ _ _ A cc c.f3 ax _ W h2.2.2 h2.2.1 ((NH c ax).trans (congrArg some h))
end
def adt.f (_ : Nat) (a0 a1 a2 a3 a4 a5 : Int) (l : List ai) (ax : Int) : Option Int := if sz ⟨a0, ⟨a1, a2, a3, a4⟩, a5, l⟩ ≤ 1048576 ∧ (fJ ⟨a0, ⟨a1, a2, a3, a4⟩, a5, l⟩).all l9 = true then some (dH ax ⟨a0, ⟨a1, a2, a3, a4⟩, a5, l⟩) else none
end Go.Proofs.Ytfdmfgaiblfbhaa.P

namespace Go.Proofs.Ytfdmfgaiblfbhaa.P
open Go.RowKit Go.Proofs.ag.aT Go.Proofs.ag.bK Go.Proofs.ag.bY
attribute [local go_sem] je jr jO kC jL jM kN kQ
def oI.f (ay : Int) (aH : Int) (aC : Int) (aG : Int) (a1 : Int) : Option (Int) := if a1 = 2 then (some aG) else (if a1 = 1 then (some aC) else (some 0))
theorem oI.calls (ay : Int) (aH : Int) (aC : Int) (aG : Int) (a1 : Int) (r : Int) (w : World) (h : oI.f ay aH aC aG a1 = some r) :
  Calls Try.prog 98 #[.agg #[.int .i64 ay, .int .i64 aH, .int .i64 aC, .int .i64 aG], .int .u8 a1] w fun e w' => e = .returned (.int .i64 r) ∧ Below w.heap.size w w' := by
 have P_ := Try.underlying23
 have HB := ae.mk (Below.refl w.heap.size w)
 have H : (if a1 = 2 then (some aG) else (if a1 = 1 then (some aC) else (some 0))) = some r := h
 clear h
 by_cases c3 : a1 = 2
 ·rw [if_pos c3] at H
  have vJ : (a1 == 2) = true := beq_iff_eq.mpr c3
  have Bh : (a1 != 2) = false := bne_eq_false_iff_eq.mpr c3
  clear c3
  obtain rfl := Option.some.inj H
  go_enter Try.func98, Try.ntmps98
  go_wp2_with (((with_reducible refine aA (N := 2) rfl ?_); refine aQ ?hg (N := 2) ?hd (cs := #[.int .i64 ay, .int .i64 aH, .int .i64 aC, .int .i64 aG]) (t := 23) ?hr ?_; (case hd => rfl); (case hg => rfl); (case hr => (go_simp; done)); intro sN hg w4 hbox hb; have nK := ae.mk (hbox); have Pm := ae.mk ((by rw [hg]; exact (dR (by repeat ((with_reducible exact HB.out)))) : w.heap.size ≤ sN)); replace HB := ae.mk (ak (by repeat ((with_reducible exact HB.out))) hb); clear hb hbox hg; have aiR : w4.cell? ⟨sN, 0, none⟩ = some (.int .i64 ay) := (af nK.out 0).trans rfl; have aiS : w4.cell? ⟨sN, 1, none⟩ = some (.int .i64 aH) := (af nK.out 1).trans rfl; have aiT : w4.cell? ⟨sN, 2, none⟩ = some (.int .i64 aC) := (af nK.out 2).trans rfl; have aiU : w4.cell? ⟨sN, 3, none⟩ = some (.int .i64 aG) := (af nK.out 3).trans rfl; have aiW := ah nK.out 0; have aiX := ah nK.out 1; have aiY := ah nK.out 2; have aiZ := ah nK.out 3))
  go_ret
  exact ⟨by rfl, by repeat ((with_reducible first | exact HB.out | refine ou ?_ Pm.out))⟩
 ·rw [if_neg c3] at H
  have vJ : (a1 == 2) = false := beq_eq_false_iff_ne.mpr c3
  have Bh : (a1 != 2) = true := bne_iff_ne.mpr c3
  by_cases c6 : a1 = 1
  ·rw [if_pos c6] at H
   have ET : (a1 == 1) = true := beq_iff_eq.mpr c6
   have af4 : (a1 != 1) = false := bne_eq_false_iff_eq.mpr c6
   clear c6
   obtain rfl := Option.some.inj H
   go_enter Try.func98, Try.ntmps98
   go_wp2_with (((with_reducible refine aA (N := 2) rfl ?_); refine aQ ?hg (N := 2) ?hd (cs := #[.int .i64 ay, .int .i64 aH, .int .i64 aC, .int .i64 aG]) (t := 23) ?hr ?_; (case hd => rfl); (case hg => rfl); (case hr => (go_simp; done)); intro sN hg w7 hbox hb; have nK := ae.mk (hbox); have Pm := ae.mk ((by rw [hg]; exact (dR (by repeat ((with_reducible exact HB.out)))) : w.heap.size ≤ sN)); replace HB := ae.mk (ak (by repeat ((with_reducible exact HB.out))) hb); clear hb hbox hg; have acr : w7.cell? ⟨sN, 0, none⟩ = some (.int .i64 ay) := (af nK.out 0).trans rfl; have acs : w7.cell? ⟨sN, 1, none⟩ = some (.int .i64 aH) := (af nK.out 1).trans rfl; have acu : w7.cell? ⟨sN, 2, none⟩ = some (.int .i64 aC) := (af nK.out 2).trans rfl; have acv : w7.cell? ⟨sN, 3, none⟩ = some (.int .i64 aG) := (af nK.out 3).trans rfl; have acJ := ah nK.out 0; have acK := ah nK.out 1; have acL := ah nK.out 2; have acM := ah nK.out 3))
   go_ret
   exact ⟨by rfl, by repeat ((with_reducible exact HB.out))⟩
  ·rw [if_neg c6] at H
   have ET : (a1 == 1) = false := beq_eq_false_iff_ne.mpr c6
   have af4 : (a1 != 1) = true := bne_iff_ne.mpr c6
   obtain rfl := Option.some.inj H
   go_enter Try.func98, Try.ntmps98
   go_wp2_with (((with_reducible refine aA (N := 2) rfl ?_); refine aQ ?hg (N := 2) ?hd (cs := #[.int .i64 ay, .int .i64 aH, .int .i64 aC, .int .i64 aG]) (t := 23) ?hr ?_; (case hd => rfl); (case hg => rfl); (case hr => (go_simp; done)); intro sN hg w9 hbox hb; have nK := ae.mk (hbox); have Pm := ae.mk ((by rw [hg]; exact (dR (by repeat ((with_reducible exact HB.out)))) : w.heap.size ≤ sN)); replace HB := ae.mk (ak (by repeat ((with_reducible exact HB.out))) hb); clear hb hbox hg))
   go_ret
   exact ⟨by rfl, by repeat ((with_reducible exact HB.out))⟩
end Go.Proofs.Ytfdmfgaiblfbhaa.P
namespace Go.Proofs.Ytfdmfgaiblfbhaa.P
open Go.RowKit Go.Proofs.ag.aT Go.Proofs.ag.bK Go.Proofs.ag.bY
def aV (ax : Int) (r : dD) : Int := if ax = 1 then r.f2 else if ax = 2 then r.f3 else 0
theorem Jq (r : dD) (ax : Int) : oI.f r.f0 r.f1 r.f2 r.f3 ax = some (aV ax r) := by
 unfold oI.f aV
 by_cases h1 : ax = 1
 ·rw [if_neg (by omega), if_pos h1, if_pos h1]
 ·by_cases h2 : ax = 2
  ·rw [if_pos h2, if_neg h1, if_pos h2]
  ·rw [if_neg h2, if_neg h1, if_neg h1, if_neg h2]
end Go.Proofs.Ytfdmfgaiblfbhaa.P
namespace Go.Proofs.Ytfdmfgaiblfbhaa.P
open Go.RowKit Go.Proofs.ag.aT Go.Proofs.ag.bK Go.Proofs.ag.bY
attribute [local go_sem] je jr jO kC jL jM kN kQ
def jX.f (a0 : Int) : Option (Bool) := if a0 = 1 then (some true) else (some (a0 == 2))
theorem jX.abq (a0 : Int) (r : Bool) (w : World) (h : jX.f a0 = some r) :
  Calls Try.prog 147 #[.int .u8 a0] w fun e w' => e = .returned (.bool r) ∧ qF w w' := by
 have H : (if a0 = 1 then (some true) else (some (a0 == 2))) = some r := h
 clear h
 by_cases c2 : a0 = 1
 ·rw [if_pos c2] at H
  have KU : (a0 == 1) = true := beq_iff_eq.mpr c2
  have af2 : (a0 != 1) = false := bne_eq_false_iff_eq.mpr c2
  clear c2
  obtain rfl := Option.some.inj H
  go_enter Try.func147, Try.ntmps147
  go_wp2
  go_ret
  exact ⟨by rfl, by repeat (exact qF.refl _)⟩
 ·rw [if_neg c2] at H
  have KU : (a0 == 1) = false := beq_eq_false_iff_ne.mpr c2
  have af2 : (a0 != 1) = true := bne_iff_ne.mpr c2
  obtain rfl := Option.some.inj H
  go_enter Try.func147, Try.ntmps147
  go_wp2
  go_ret
  exact ⟨by rfl, by repeat (exact qF.refl _)⟩
theorem jX.calls (a0 : Int) (r : Bool) (w : World) (h : jX.f a0 = some r) :
  Calls Try.prog 147 #[.int .u8 a0] w fun e w' => e = .returned (.bool r) ∧ Below w.heap.size w w' := by
 refine (jX.abq a0 r w h).mono ?_
 rintro e w' ⟨he, n, rfl⟩
 exact ⟨he, eH (Below.refl _ _) n⟩
end Go.Proofs.Ytfdmfgaiblfbhaa.P
namespace Go.Proofs.Ytfdmfgaiblfbhaa.P
open Go.RowKit Go.Proofs.ag.aT Go.Proofs.ag.bK Go.Proofs.ag.bY
theorem Zr (Inv : List ai → World → Prop) (r : ai → Bool) (g : Nat) (lb : Array Value) (eg : ∀ args w, (callFunc g args).run Try.prog w = .ok (.enter g args) w) (l : List ai) (A : Option Addr) (c : Nat)
  (w0 : World) (hR : Kd.C k26 w0 A l.length l) (hW : ∀ s W, Inv s W → Below w0.heap.size w0 W) (hD : ∀ s W n, Inv s W → Inv s (W.drewN n))
  (hcall : ∀ (x : ai) (rest : List ai) (W : World) (B : Option Addr) (cb : Nat), x ∈ l → (∃ pre, pre ++ x :: rest = l) → Inv (x :: rest) W → Kd.C k26 w0 B x.f3.length x.f3 → x.f3.length ≤ cb → Calls Try.prog g (#[.agg #[.int .u8 x.f0, .int .i64 x.f1.f0, .int .i64 x.f1.f1, .int .i64 x.f1.f2, .int .i64 x.f1.f3, .int .i64 x.f2, .slice B x.f3.length cb]] ++ lb) W fun e w' => e = .returned (.bool (r x)) ∧ Inv (if r x = true then [] else rest) w')
  (w : World) (hI : Inv l w) (hl : l.length ≤ 9223372036854775807) :
  Calls Try.prog 192 #[.slice A l.length c, .func (.func g) #[] lb] w fun e w' => ∃ i : Int, e = .returned (.int .i64 i) ∧ decide (i ≥ 0) = l.any r ∧ Inv [] w' := by
 have HR := ae.mk hR
 have HW := ae.mk hW
 have HD := ae.mk hD
 have HI := ae.mk hI
 have u_ := ae.mk hcall
 clear hR hW hcall hD hI
 go_enter Try.func192, Try.ntmps192
 go_wp2
 go_loopg [5, 8] l.length (fun gg _ v8 wr => ∃ (kk : Nat), kk ≤ l.length ∧ l.length - kk ≤ gg ∧ v8 = .int .i64 kk ∧ ae (Inv (l.drop kk) wr) ∧ ae (l.any r = (l.drop kk).any r))
 case atStart => exact ⟨0, Nat.zero_le _, by omega, rfl, ⟨by simpa using HI.out⟩, ⟨by simp⟩⟩
 case round =>
  clear HI
  obtain ⟨kk, hkk, hg, rfl, HI, HS⟩ := hrel
  by_cases hlt : kk < l.length
  ·have hltz : (kk : Int) < (l.length : Int) := by omega
   obtain ⟨ad, B, cb, rfl, hc0, hc1, hc2, hc3, hc4, hc5, hc6, hlb, hgb⟩ := rO HR.out (kk : Int) (by omega) (by omega)
   have hbw := HW.out _ wr HI.out
   replace hc0 := (hbw.cell (World.block_lt_of_cell? w0 _ hc0)).trans hc0
   replace hc1 := (hbw.cell (World.block_lt_of_cell? w0 _ hc1)).trans hc1
   replace hc2 := (hbw.cell (World.block_lt_of_cell? w0 _ hc2)).trans hc2
   replace hc3 := (hbw.cell (World.block_lt_of_cell? w0 _ hc3)).trans hc3
   replace hc4 := (hbw.cell (World.block_lt_of_cell? w0 _ hc4)).trans hc4
   replace hc5 := (hbw.cell (World.block_lt_of_cell? w0 _ hc5)).trans hc5
   replace hc6 := (hbw.cell (World.block_lt_of_cell? w0 _ hc6)).trans hc6
   clear hbw
   have hmem : (az l (kk : Int)) ∈ l := BM z26 l kk hlt
   have hdr : l.drop kk = az l (kk : Int) :: l.drop (kk + 1) := by
    rw [List.drop_eq_getElem_cons hlt]
    simp only [az, Int.toNat_natCast, List.getD_eq_getElem?_getD, List.getElem?_eq_getElem hlt, Option.getD_some]
   have HX : ae ((l.drop kk).any r = (r (az l (kk : Int)) || (l.drop (kk + 1)).any r)) := ⟨by rw [hdr, List.any_cons]⟩
   have hcall := u_.out _ (l.drop (kk + 1)) wr B cb hmem ⟨l.take kk, by rw [← hdr]; exact List.take_append_drop kk l⟩ (by rw [← hdr]; exact HI.out) hgb hlb
   clear hmem hgb hlb hdr
   simp only [Int.toNat_natCast] at hc0 hc1 hc2 hc3 hc4 hc5 hc6
   generalize az l (kk : Int) = x at hc0 hc1 hc2 hc3 hc4 hc5 hc6 HX hcall
   have HC := ae.mk hcall
   clear hcall
   cases hq : r x with
   | true =>
    have h := HC.out
    rw [hq, if_pos rfl] at h
    have HH := ae.mk h
    have HQ := ae.mk hq
    clear hq HC h
    go_wp2_with fail
    refine HH.out.mono ?_
    rintro e w' ⟨rfl, hb'⟩
    have HB := ae.mk hb'
    clear hb'
    go_wp2
    go_ret
    refine ⟨_, rfl, ?_, HB.out⟩
    rw [HS.out, HX.out, HQ.out, Bool.true_or]
    exact decide_eq_true (by omega)
   | false =>
    have h := HC.out
    rw [hq, if_neg (by simp)] at h
    have HH := ae.mk h
    have HQ := ae.mk hq
    clear hq HC h
    go_wp2_with fail
    refine HH.out.mono ?_
    rintro e w' ⟨rfl, hb'⟩
    have HB := ae.mk hb'
    clear hb'
    go_wp2
    go_roundg (l.length - (kk + 1))
    case measure => omega
    case rel =>
     refine ⟨kk + 1, by omega, by omega, by go_num, HB, ⟨?_⟩⟩
     rw [HS.out, HX.out, HQ.out, Bool.false_or]
  ·have hltz : ¬ (kk : Int) < (l.length : Int) := by omega
   have hd : l.drop kk = [] := List.drop_eq_nil_of_le (by omega)
   have HI2 := ae.mk (hd ▸ HI.out)
   have HS2 := ae.mk (hd ▸ HS.out)
   clear HI HS hd
   go_wp2
   go_ret
   refine ⟨_, rfl, ?_, HI2.out⟩
   rw [HS2.out]
   rfl
theorem N_ (Inv : List ai → World → Prop) (r : ai → Bool) (g : Nat) (lb : Array Value) (eg : ∀ args w, (callFunc g args).run Try.prog w = .ok (.enter g args) w) (l : List ai) (A : Option Addr) (c : Nat)
  (w0 : World) (hR : Kd.C k26 w0 A l.length l) (hW : ∀ s W, Inv s W → Below w0.heap.size w0 W) (hD : ∀ s W n, Inv s W → Inv s (W.drewN n))
  (hcall : ∀ (x : ai) (rest : List ai) (W : World) (B : Option Addr) (cb : Nat), x ∈ l → (∃ pre, pre ++ x :: rest = l) → Inv (x :: rest) W → Kd.C k26 w0 B x.f3.length x.f3 → x.f3.length ≤ cb → Calls Try.prog g (#[.agg #[.int .u8 x.f0, .int .i64 x.f1.f0, .int .i64 x.f1.f1, .int .i64 x.f1.f2, .int .i64 x.f1.f3, .int .i64 x.f2, .slice B x.f3.length cb]] ++ lb) W fun e w' => e = .returned (.bool (r x)) ∧ Inv (if r x = true then [] else rest) w')
  (w : World) (hI : Inv l w) (hl : l.length ≤ 9223372036854775807) :
  Calls Try.prog 174 #[.slice A l.length c, .func (.func g) #[] lb] w fun e w' => e = .returned (.bool (l.any r)) ∧ Inv [] w' := by
 have hi := Zr Inv r g lb eg l A c w0 hR hW hD hcall w hI hl
 clear hR hW hD hcall hI
 have HI := ae.mk hi
 clear hi
 go_enter Try.func174, Try.ntmps174
 go_wp2_with fail
 refine HI.out.mono ?_
 rintro e w' ⟨i, rfl, hd, hb'⟩
 have HB := ae.mk hb'
 have HN := ae.mk hd
 clear hb' hd
 go_wp2
 go_ret
 exact ⟨by rw [← HN.out]; rfl, HB.out⟩
theorem abS (r : ai → dD → Bool) (g : Nat) (eg : ∀ args w, (callFunc g args).run Try.prog w = .ok (.enter g args) w) (la : List ai) (lb : List dD) (A B : Option Addr) (ca cb : Nat) (w : World) (hA : Kd.C k26 w A la.length la) (hB : Kd.C k23 w B lb.length lb)
  (hcall : ∀ W (x : ai) (X : Option Addr) (cx : Nat) (y : dD), x ∈ la → Below w.heap.size w W → Kd.C k26 w X x.f3.length x.f3 → x.f3.length ≤ cx → Calls Try.prog g #[.agg #[.int .u8 x.f0, .int .i64 x.f1.f0, .int .i64 x.f1.f1, .int .i64 x.f1.f2, .int .i64 x.f1.f3, .int .i64 x.f2, .slice X x.f3.length cx], .agg #[.int .i64 y.f0, .int .i64 y.f1, .int .i64 y.f2, .int .i64 y.f3]] W fun e w' => e = .returned (.bool (r x y)) ∧ Below W.heap.size W w') :
  Calls Try.prog 211 #[.slice A la.length ca, .slice B lb.length cb, .func (.func g) #[] #[]] w fun e w' => e = .returned (.bool (la.length == lb.length && rV r la lb)) ∧ Below w.heap.size w w' := by
 have HA := ae.mk hA
 have HLB := ae.mk hB
 have HC := ae.mk hcall
 have HB := ae.mk (Below.refl w.heap.size w)
 have HL := ae.mk (show la.length ≤ 9223372036854775807 from hA.2.1)
 clear hA hB hcall
 by_cases hl : la.length = lb.length
 ·have hl1 : ((la.length : Int) != (lb.length : Int)) = false := by simp [hl]
  have hl2 : (la.length == lb.length) = true := by simp [hl]
  rw [hl2, Bool.true_and]
  have HE := ae.mk hl
  clear hl hl2
  go_enter Try.func211, Try.ntmps211
  go_wp2
  go_loopg [17] la.length (fun gg v17 wr => ∃ (kk : Nat), kk ≤ la.length ∧ la.length - kk ≤ gg ∧ v17 = .int .i64 kk ∧ ae (rV r la lb = rV r (la.drop kk) (lb.drop kk)) ∧ ae (Below w.heap.size w wr))
  case atStart => exact ⟨0, Nat.zero_le _, by omega, rfl, ⟨by simp⟩, HB⟩
  case round =>
   clear HB
   obtain ⟨kk, hkk, hgg, rfl, HS, HB⟩ := hrel
   by_cases hlt : kk < la.length
   ·have hltz : (kk : Int) < (la.length : Int) := by omega
    have agq : (kk : Int) < (lb.length : Int) := by have := HE.out; omega
    have hw : wrap64 ((kk : Int) + 1) = ((kk + 1 : Nat) : Int) := by unfold wrap64; have := HL.out; omega
    have HX := ae.mk (abQ r z26 z23 la lb kk hlt (by omega))
    have hmem : az la (kk : Int) ∈ la := BM z26 la kk hlt
    obtain ⟨cd, X, cx, rfl, c0, c1, c2, c3, c4, c5, c6, cl, cg⟩ := rO HA.out (kk : Int) (by omega) hltz
    obtain ⟨dd, rfl, d0, d1, d2, d3⟩ := KP HLB.out (kk : Int) (by omega) agq
    simp only [Int.toNat_natCast] at c0 c1 c2 c3 c4 c5 c6 d0 d1 d2 d3
    replace c0 := (HB.out.cell (World.block_lt_of_cell? w _ c0)).trans c0
    replace c1 := (HB.out.cell (World.block_lt_of_cell? w _ c1)).trans c1
    replace c2 := (HB.out.cell (World.block_lt_of_cell? w _ c2)).trans c2
    replace c3 := (HB.out.cell (World.block_lt_of_cell? w _ c3)).trans c3
    replace c4 := (HB.out.cell (World.block_lt_of_cell? w _ c4)).trans c4
    replace c5 := (HB.out.cell (World.block_lt_of_cell? w _ c5)).trans c5
    replace c6 := (HB.out.cell (World.block_lt_of_cell? w _ c6)).trans c6
    have D0 := ae.mk d0
    have D1 := ae.mk d1
    have D2 := ae.mk d2
    have D3 := ae.mk d3
    clear d0 d1 d2 d3
    have HX := ae.mk (show rV r (la.drop kk) (lb.drop kk) = (r (az la (kk : Int)) (pV lb (kk : Int)) && rV r (la.drop (kk + 1)) (lb.drop (kk + 1))) from HX.out)
    have cG := ae.mk cg
    have cL := ae.mk cl
    clear cg cl
    have HM := ae.mk hmem
    clear hmem
    generalize az la (kk : Int) = x at *
    generalize pV lb (kk : Int) = y at *
    have HCx := ae.mk (fun W hW => HC.out W x X cx y HM.out hW cG.out cL.out )
    have HW := ae.mk hw
    have HKK := ae.mk (show kk + 1 ≤ la.length from hlt)
    have gz := ae.mk hgg
    clear hw hlt hgg hkk HM
    go_wp2_with (first | ((with_reducible refine aA (N := 8) rfl ?_); refine aQ ?hg (N := 8) ?hd (cs := #[.int .u8 0, .int .i64 0, .int .i64 0, .int .i64 0, .int .i64 0, .int .i64 0, .slice none 0 0]) (t := 26) ?hr ?_; (case hd => rfl); (case hg => rfl); (case hr => (go_simp; done)); intro b8 hg wb8 hbox hb; have K8 := ae.mk hbox; have G8 := ae.mk (show w.heap.size ≤ b8 by rw [hg]; exact HB.out.size); have q_ := ae.mk (ak HB.out hb); clear HB; have HB := q_; clear q_; clear hb hbox hg) | ((with_reducible refine lh (.store 26 (.tmp 8) (.tmp 21)) rfl ?_); go_loud (refine fV (w0 := w) rfl rfl 26 (.tmp 8) (.tmp 21) rfl (g := b8) (j := 0) (base := w.heap.size) #[.int .u8 x.f0, .int .i64 x.f1.f0, .int .i64 x.f1.f1, .int .i64 x.f1.f2, .int .i64 x.f1.f3, .int .i64 x.f2, .slice X x.f3.length cx] (u := .agg #[.int .u8 x.f0, .int .i64 x.f1.f0, .int .i64 x.f1.f1, .int .i64 x.f1.f2, .int .i64 x.f1.f3, .int .i64 x.f2, .slice X x.f3.length cx]) (bJ := [.int .u8 x.f0, .int .i64 x.f1.f0, .int .i64 x.f1.f1, .int .i64 x.f1.f2, .int .i64 x.f1.f3, .int .i64 x.f2, .slice X x.f3.length cx]) ?sA ?sX rfl ?sT ?s1 K8.out ?sJ rfl HB.out HB.out.size G8.out ?_; (case sA => rfl); (case sX => rfl); (case sT => rfl); (case s1 => (simp [Value.oneCell'])); (case sJ => (simp)); intro ws8 hbk hbb hgg; clear K8 HB; have K8 := ae.mk hbk; have HB := ae.mk hbb; clear hbk hbb hgg; clear c0 c1 c2 c3 c4 c5 c6; have d0 := (HB.out.cell (World.block_lt_of_cell? w _ D0.out)).trans D0.out; have d1 := (HB.out.cell (World.block_lt_of_cell? w _ D1.out)).trans D1.out; have d2 := (HB.out.cell (World.block_lt_of_cell? w _ D2.out)).trans D2.out; have d3 := (HB.out.cell (World.block_lt_of_cell? w _ D3.out)).trans D3.out)) | ((with_reducible refine aA (N := 9) rfl ?_); refine aQ ?hg (N := 9) ?hd (cs := #[.int .i64 0, .int .i64 0, .int .i64 0, .int .i64 0]) (t := 23) ?hr ?_; (case hd => rfl); (case hg => rfl); (case hr => (go_simp; done)); intro b9 hg wb9 hbox hb; have K9 := ae.mk hbox; have G9 := ae.mk (show w.heap.size ≤ b9 by rw [hg]; exact HB.out.size); have NE := ae.mk (show b8 ≠ b9 by rw [hg]; exact Nat.ne_of_lt (eY K8.out)); have TS := ae.mk (aI K8.out hb); clear K8; have K8 := TS; clear TS; have q_ := ae.mk (ak HB.out hb); clear HB; have HB := q_; clear q_; clear hb hbox hg d0 d1 d2 d3) | ((with_reducible refine lh (.store 23 (.tmp 9) (.tmp 25)) rfl ?_); go_loud (refine fV (w0 := w) rfl rfl 23 (.tmp 9) (.tmp 25) rfl (g := b9) (j := 0) (base := w.heap.size) #[.int .i64 y.f0, .int .i64 y.f1, .int .i64 y.f2, .int .i64 y.f3] (u := .agg #[.int .i64 y.f0, .int .i64 y.f1, .int .i64 y.f2, .int .i64 y.f3]) (bJ := [.int .i64 y.f0, .int .i64 y.f1, .int .i64 y.f2, .int .i64 y.f3]) ?sA ?sX rfl ?sT ?s1 K9.out ?sJ rfl HB.out HB.out.size G9.out ?_; (case sA => rfl); (case sX => rfl); (case sT => rfl); (case s1 => (simp [Value.oneCell'])); (case sJ => (simp)); intro ws9 hbk hbb hgg; have TS := ae.mk (dh K8.out hgg (fun e_ => absurd (Option.some.inj e_) NE.out)); clear K8; have K8 := TS; clear TS; clear K9 HB; have K9 := ae.mk hbk; have HB := ae.mk hbb; clear hbk hbb hgg; have e0 := (af K8.out 0).trans rfl; have e1 := (af K8.out 1).trans rfl; have e2 := (af K8.out 2).trans rfl; have e3 := (af K8.out 3).trans rfl; have e4 := (af K8.out 4).trans rfl; have e5 := (af K8.out 5).trans rfl; have e6 := (af K8.out 6).trans rfl; have f0 := (af K9.out 0).trans rfl; have f1 := (af K9.out 1).trans rfl; have f2 := (af K9.out 2).trans rfl; have f3 := (af K9.out 3).trans rfl)))
    clear e0 e1 e2 e3 e4 e5 e6 f0 f1 f2 f3 K8 K9 NE G8 G9
    refine (HCx.out _ HB.out).mono ?_
    rintro e w' ⟨rfl, hb⟩
    have q_ := ae.mk (ak HB.out hb); clear HB; have HB := q_; clear q_
    clear hb
    cases hq : r x y with
    | true =>
     have HQ := ae.mk hq
     clear hq
     go_wp2
     go_roundg (la.length - (kk + 1))
     case measure => have h1 := gz.out; have h2 := HKK.out; omega
     case rel => exact ⟨kk + 1, HKK.out, Nat.le_refl _, (by rw [HW.out]), ⟨by rw [HS.out, HX.out, HQ.out, Bool.true_and]⟩, HB⟩
    | false =>
     have HQ := ae.mk hq
     clear hq
     go_wp2
     go_ret
     rw [HS.out, HX.out, HQ.out, Bool.false_and]
     exact ⟨rfl, HB.out⟩
   ·have hltz : ¬ (kk : Int) < (la.length : Int) := by omega
    go_wp2
    go_ret
    rw [HS.out, List.drop_eq_nil_of_le (by omega), Hf]
    exact ⟨rfl, HB.out⟩
 ·have hl1 : ((la.length : Int) != (lb.length : Int)) = true := by simp; omega
  have hl2 : (la.length == lb.length) = false := by simp [hl]
  rw [hl2, Bool.false_and]
  clear hl hl2
  go_enter Try.func211, Try.ntmps211
  go_wp2
  go_ret
  exact ⟨rfl, HB.out⟩
theorem aeH (X Y Wd H ax : Int) (sizes : List Int) (hl : sizes.length ≤ 1000000) (B : Option Addr) (cb : Nat) (w : World) (hi : Kd.C (Kd.int .i64) w B sizes.length sizes) :
  Calls Try.prog 45 #[.agg #[.int .i64 X, .int .i64 Y, .int .i64 Wd, .int .i64 H], .int .u8 ax, .slice B sizes.length cb] w (JS w (ql X Y Wd H ax sizes)) := by
 have S := ae.mk (St.start (ts := []) (b0 := w.heap.size) (w := w) (P := fun _ => True) (fun _ h => by cases h))
 have HI := ae.mk hi
 have jl := ae.mk hl
 clear hi hl
 by_cases hax : ax = 1 ∨ ax = 2
 case neg =>
  have HQ := ae.mk (yP (X := X) (Y := Y) (W := Wd) (H := H) (sizes := sizes) (.inl hax))
  have o_ := ae.mk hax
  clear hax
  go_enter Try.func45, Try.ntmps45
  go_wp2_with (first | (refine boxS 3 _ 23 S ?_; clear S; intro b3 dJ S; obtain ⟨a_, aW, aY, aX⟩ := St.at4 S (.head _)) | (refine bP (some 23) Try.func127 S (Ug o_.out _ _ _ _) ?_; clear S; intro dX S; clear a_ aW aY aX) | (refine boxS 9 _ 23 S ?_; clear S; intro b9 fU S) | (refine iT 23 9 24 #[.int .i64 0, .int .i64 0, .int .i64 0, .int .i64 0] 0 4 S ?_; clear S; intro iW S))
  go_ret3
  rw [HQ.out]
  exact ⟨none, 0, none, 0, .cells #[] 0 (0, 0), .cells #[] 0 (0, 0), rfl, (fun h => by cases h), S.out.below⟩
 have o_ := ae.mk hax
 obtain ⟨S0, hS0⟩ : ∃ s, s = tX ax X Y := ⟨_, rfl⟩
 obtain ⟨T0, hT0⟩ : ∃ s, s = tX ax Y X := ⟨_, rfl⟩
 obtain ⟨D, hD⟩ : ∃ s, s = tX ax Wd H := ⟨_, rfl⟩
 obtain ⟨E, hE⟩ : ∃ s, s = tX ax H Wd := ⟨_, rfl⟩
 have HTU := ae.mk (fun (W : World) => show Calls Try.prog 127 #[.agg #[.int .i64 X, .int .i64 Y, .int .i64 Wd, .int .i64 H], .int .u8 ax] W fun e w' => e = .returned (.tuple #[.agg #[.int .i64 S0, .int .i64 T0, .int .i64 D, .int .i64 E], .bool true]) ∧ Below W.heap.size W w' by rw [hS0, hT0, hD, hE]; exact FM hax X Y Wd H)
 by_cases hm : oV X Y Wd H = true
 case neg =>
  have hm2 := Bool.eq_false_iff.mpr hm
  have HQ := ae.mk (yP (ax := ax) (sizes := sizes) (.inr (.inl hm2)))
  have xg := ae.mk hm2
  clear hm hm2 hax hS0 hT0 hD hE
  go_enter Try.func45, Try.ntmps45
  go_wp2_with (first | (refine boxS 3 _ 23 S ?_; clear S; intro b3 dJ S; obtain ⟨a_, aW, aY, aX⟩ := St.at4 S (.head _)) | (refine bP (some 23) Try.func127 S (HTU.out _) ?_; clear S; intro dX S; clear a_ aW aY aX) | (refine boxS 9 _ 23 S ?_; clear S; intro b9 fU S) | (refine iT 23 9 24 #[.int .i64 S0, .int .i64 T0, .int .i64 D, .int .i64 E] 0 4 S ?_; clear S; intro iW S; obtain ⟨a_, aW, aY, aX⟩ := St.at4 S bG) | (refine gm 30 rfl ?_; (refine fB (by rfl) ?_; dsimp only); refine bP (some 30) Try.func128 S (M_ xg.out) ?_; clear S; intro mG S; clear a_ aW aY aX))
  go_ret3
  rw [HQ.out]
  exact ⟨none, 0, none, 0, .cells #[] 0 (0, 0), .cells #[] 0 (0, 0), rfl, (fun h => by cases h), S.out.below⟩
 have xg := ae.mk hm
 by_cases h0 : sizes.length = 0
 case pos =>
  have HQ := ae.mk (yP (X := X) (Y := Y) (W := Wd) (H := H) (ax := ax) (.inr (.inr h0)))
  obtain ⟨I8, wC, RQ⟩ := yQ (a := (sizes.length : Int)) (b := 0) (by omega)
  have RS : (sizes.length == 0) = true := beq_iff_eq.mpr (by omega)
  have RU : decide (sizes.length = 0) = true := decide_eq_true (by omega)
  clear hm h0 hax hS0 hT0 hD hE
  go_enter Try.func45, Try.ntmps45
  go_wp2_with (first | (refine boxS 3 _ 23 S ?_; clear S; intro b3 dJ S; obtain ⟨a_, aW, aY, aX⟩ := St.at4 S (.head _)) | (refine bP (some 23) Try.func127 S (HTU.out _) ?_; clear S; intro dX S; clear a_ aW aY aX) | (refine boxS 9 _ 23 S ?_; clear S; intro b9 fU S) | (refine iT 23 9 24 #[.int .i64 S0, .int .i64 T0, .int .i64 D, .int .i64 E] 0 4 S ?_; clear S; intro iW S; obtain ⟨a_, aW, aY, aX⟩ := St.at4 S bG) | (refine gm 30 rfl ?_; (refine fB (by rfl) ?_; dsimp only); refine bP (some 30) Try.func128 S (M_ xg.out) ?_; clear S; intro mG S; clear a_ aW aY aX))
  go_ret3
  rw [HQ.out]
  exact ⟨none, 0, none, 0, .cells #[] 0 (0, 0), .cells #[] 0 (0, 0), rfl, (fun h => by cases h), S.out.below⟩
 have hq := RG hax hm h0
 rw [← hS0, ← hT0, ← hD, ← hE] at hq
 have hb := Uf hax hm
 rw [← hS0, ← hD] at hb
 have HB := ae.mk hb
 rw [hq]
 obtain ⟨I8, wC, RQ⟩ := eqF (a := (sizes.length : Int)) (b := 0) (by omega)
 have RS : (sizes.length == 0) = false := beq_eq_false_iff_ne.mpr (by omega)
 have RU : decide (sizes.length = 0) = false := decide_eq_false (by omega)
 obtain ⟨R, hR⟩ : ∃ R, R = nz ax S0 T0 D E 0 true [] [] sizes := ⟨_, rfl⟩
 rw [← hR]
 have HR := ae.mk hR
 clear hq hb hm h0 hax hS0 hT0 hD hE hR
 go_enter Try.func45, Try.ntmps45
 go_wp2_with (first | (refine boxS 3 _ 23 S ?_; clear S; intro b3 dJ S; obtain ⟨a_, aW, aY, aX⟩ := St.at4 S (.head _)) | (refine bP (some 23) Try.func127 S (HTU.out _) ?_; clear S; intro dX S; clear a_ aW aY aX) | (refine boxS 9 _ 23 S ?_; clear S; intro b9 fU S) | (refine iT 23 9 24 #[.int .i64 S0, .int .i64 T0, .int .i64 D, .int .i64 E] 0 4 S ?_; clear S; intro iW S; obtain ⟨a_, aW, aY, aX⟩ := St.at4 S bG) | (refine gm 30 rfl ?_; (refine fB (by rfl) ?_; dsimp only); refine bP (some 30) Try.func128 S (M_ xg.out) ?_; clear S; intro mG S; clear a_ aW aY aX; have sK := (S.out.at (.head _) 0).trans rfl))
 clear sK
 clear I8 wC RQ RS RU
 go_loopg [11, 12, 13, 42] sizes.length (fun gg v11 v12 v13 v42 wr => ∃ (pre rest : List Int) (off : Int) (ps ls : List dD) (Ap : Option Addr) (cp : Nat) (op : Obj) (Aq : Option Addr) (cq : Nat) (oq : Obj), v11 = .slice Ap ps.length cp ∧ v12 = .slice Aq ls.length cq ∧ v13 = .int .i64 (S0 + off) ∧ v42 = .int .i64 (pre.length : Int) ∧ ae (pre ++ rest = sizes) ∧ rest.length ≤ gg ∧ ae (0 ≤ off ∧ off ≤ D ∧ ps.length ≤ pre.length ∧ ls.length ≤ pre.length) ∧ ae (nz ax S0 T0 D E off (pre.length == 0) ps ls rest = R) ∧ ae (KR k23 23 w.heap.size (.slice Ap ps.length cp) ps op) ∧ ae (KR k23 23 w.heap.size (.slice Aq ls.length cq) ls oq) ∧ ae (St w (fun _ => True) [((Value.slice Aq ls.length cq).ownBlock, oq), ((Value.slice Ap ps.length cp).ownBlock, op), (some b9, .cells #[.int .i64 S0, .int .i64 T0, .int .i64 D, .int .i64 E] 23 (0, 0)), (some b3, .cells #[.int .i64 X, .int .i64 Y, .int .i64 Wd, .int .i64 H] 23 (0, 0))] [] [] [] wr))
 case atStart => exact ⟨[], sizes, 0, [], [], none, 0, _, none, 0, _, rfl, rfl, by rw [Int.add_zero], rfl, ⟨rfl⟩, Nat.le_refl _, ⟨by have := HB.out; simp; omega⟩, ⟨HR.out.symm⟩, ⟨J_ _ _ _⟩, ⟨J_ _ _ _⟩, ⟨S.out.noK.noK⟩⟩
 case round =>
  clear S HR
  obtain ⟨pre, rest, off, ps, ls, Ap, cp, op, Aq, cq, oq, rfl, rfl, rfl, rfl, HE, hgg, HO, HG, iw, lY, S⟩ := hrel
  cases rest with
  | nil =>
   have hE := HE.out
   rw [List.append_nil] at hE
   subst hE
   clear HE hgg
   have hlt : ¬ ((pre.length : Int) < (pre.length : Int)) := by omega
   have hw : wrap64 (S0 + D) = S0 + D := by have := HB.out; unfold wrap64; omega
   have QU := ae.mk (Lr HG.out)
   by_cases hod : off = D
   case pos =>
    obtain ⟨hza, hzb, hzd⟩ := yQ (a := (S0 + off)) (b := wrap64 (S0 + D)) (by omega)
    obtain ⟨hya, hyb, hyd⟩ := yQ (a := (S0 + off)) (b := (S0 + D)) (by omega)
    have J3 := ae.mk hod
    clear hod hw
    have sK := (S.out.at dN 0).trans rfl
    have vP := (S.out.at dN 2).trans rfl
    go_wp2
    clear sK vP
    go_ret3
    rw [QU.out, if_pos J3.out]
    have S2 := S.out.tC
    exact ⟨Ap, cp, Aq, cq, op, oq, rfl, fun _ => S2.TL iw.out lY.out, S.out.below⟩
   case neg =>
    obtain ⟨hza, hzb, hzd⟩ := eqF (a := (S0 + off)) (b := wrap64 (S0 + D)) (by omega)
    obtain ⟨hya, hyb, hyd⟩ := eqF (a := (S0 + off)) (b := (S0 + D)) (by omega)
    have J3 := ae.mk hod
    clear hod hw
    have sK := (S.out.at dN 0).trans rfl
    have vP := (S.out.at dN 2).trans rfl
    go_wp2
    clear sK vP
    have HQ := ae.mk (QU.out.trans (if_neg J3.out))
    go_ret3
    rw [HQ.out]
    exact ⟨none, 0, none, 0, .cells #[] 0 (0, 0), .cells #[] 0 (0, 0), rfl, (fun h => by cases h), S.out.below⟩
  | cons n ns =>
   have hlt : (pre.length : Int) < (sizes.length : Int) := by rw [← HE.out, List.length_append, List.length_cons]; omega
   have hw1 : wrap64 ((pre.length : Int) + 1) = ((pre ++ [n]).length : Int) := by have := jl.out; rw [List.length_append, List.length_singleton]; unfold wrap64; omega
   have HW1 := ae.mk hw1
   have gz := ae.mk hgg
   have zn := ae.mk (show ps.length ≤ 1000000 ∧ ls.length ≤ 1000000 by have := HO.out; have := jl.out; omega)
   have hrd : rd sizes (pre.length : Int) = n := by rw [← HE.out]; simp [rd, List.getD_eq_getElem?_getD]
   obtain ⟨WN, ek, xi⟩ := Kd.iy (Kd.fK HI.out S.out.below) (pre.length : Int) (Int.natCast_nonneg _) hlt
   subst ek
   rw [hrd] at xi
   simp only [Int.toNat_natCast] at xi
   clear hrd hgg hw1
   go_upto_if 48 with fail
   clear xi
   go_cut [12, 13] (fun v12 v13 wc => ∃ (o' : Int) (ls' : List dD) (Aq : Option Addr) (cq : Nat) (oq : Obj), v12 = .slice Aq ls'.length cq ∧ v13 = .int .i64 (S0 + o') ∧ ae (0 ≤ o' ∧ o' ≤ D + 1 ∧ ls'.length ≤ pre.length + 1) ∧ ae (zN ax S0 T0 D E o' ps ls' n ns = R) ∧ ae (KR k23 23 w.heap.size (.slice Aq ls'.length cq) ls' oq) ∧ ae (St w (fun _ => True) [((Value.slice Aq ls'.length cq).ownBlock, oq), ((Value.slice Ap ps.length cp).ownBlock, op), (some b9, .cells #[.int .i64 S0, .int .i64 T0, .int .i64 D, .int .i64 E] 23 (0, 0)), (some b3, .cells #[.int .i64 X, .int .i64 Y, .int .i64 Wd, .int .i64 H] 23 (0, 0))] [] [] [] wc))
   case first =>
    by_cases hp2 : pre.length = 0
    case pos =>
     have hp : (pre.length == 0) = true := beq_iff_eq.mpr hp2
     obtain ⟨hpa, hpb⟩ := lU (a := 0) (b := (pre.length : Int)) (by omega)
     have hpc : decide (0 < pre.length) = false := decide_eq_false (by omega)
     have hpe : ¬ (0 < pre.length) := by omega
     have HG2 := ae.mk (show zN ax S0 T0 D E off ps ls n ns = R by have h := HG.out; rw [hp] at h; exact h)
     clear hp hp2
     go_wp2
     go_meet
     case rel => exact ⟨off, ls, _, _, _, rfl, rfl, ⟨by have := HO.out; omega⟩, HG2, lY, S⟩
    case neg =>
     have hp : (pre.length == 0) = false := beq_eq_false_iff_ne.mpr hp2
     obtain ⟨hpa, hpb⟩ := mV (a := 0) (b := (pre.length : Int)) (by omega)
     have hpc : decide (0 < pre.length) = true := decide_eq_true (by omega)
     have hpe : 0 < pre.length := by omega
     have HG2 := ae.mk (show zN ax S0 T0 D E (off + 1) ps (ls ++ [nG ax (S0 + off) T0 E 1]) n ns = R by have h := HG.out; rw [hp] at h; exact h)
     have NZ := ae.mk (show wrap64 ((S0 + off) + 1) = S0 + (off + 1) by have := HO.out; have := HB.out; unfold wrap64; omega)
     clear hp hp2
     have Bi := (S.out.at dN 1).trans rfl
     have Bj := (S.out.at dN 3).trans rfl
     go_wp2_with (first | (refine bP (some 57) Try.func127 S (FM o_.out (S0 + off) T0 1 E) ?_; clear S; intro dJ S; clear Bi Bj) | (refine boxS 16 _ 23 S ?_; clear S; intro b16 dX S) | (refine iT 23 16 58 #[.int .i64 (tX ax (S0 + off) T0), .int .i64 (tX ax T0 (S0 + off)), .int .i64 (tX ax 1 E), .int .i64 (tX ax E 1)] 0 4 S ?_; clear S; intro fU S; obtain ⟨abt, abu, abv, abw⟩ := St.at4 S (.head _)) | (refine gm 63 rfl ?_; at_builtin; replace S := ae.mk S.out.tC; refine uQ k23 23 rfl 60 62 42 _ 32 Try.underlying42 info23 rfl (by decide) (by decide) (by decide) S lY ⟨tX ax (S0 + off) T0, tX ax T0 (S0 + off), tX ax 1 E, tX ax E 1⟩ [.int .i64 (tX ax (S0 + off) T0), .int .i64 (tX ax T0 (S0 + off)), .int .i64 (tX ax 1 E), .int .i64 (tX ax E 1)] (fun _ _ _ => qP _ _ _ _) (by have := zn.out; omega) ?_; clear S lY; intro Aq2 cq2 oq2 iW S lY; clear abt abu abv abw))
     go_meet
     case rel => exact ⟨off + 1, _, _, _, _, (by rw [List.length_append]; rfl), (by rw [NZ.out]), ⟨by have := HO.out; rw [List.length_append, List.length_singleton]; omega⟩, HG2, lY, ⟨S.out.tC.dQ.rq.rq.rq.rq⟩⟩
   case rest =>
    clear S lY HG
    obtain ⟨o', ls', Aq, cq, oq, rfl, rfl, qX, HG, lY, S⟩ := hcut
    rename World => wx
    have zn := ae.mk (show ps.length ≤ 1000000 ∧ ls'.length ≤ 1000001 by have := HO.out; have := qX.out; have := jl.out; omega)
    have hg : wrap64 (wrap64 (S0 + D) - (S0 + o')) = D - o' := by have := HB.out; have := qX.out; unfold wrap64; omega
    by_cases hn : n < 1
    case pos =>
     obtain ⟨hna, hnb⟩ := mV (a := n) (b := 1) (by omega)
     have HQ := ae.mk (HG.out.symm.trans (Ai (.inl hn)))
     go_wp2
     go_ret3
     rw [HQ.out]
     exact ⟨none, 0, none, 0, .cells #[] 0 (0, 0), .cells #[] 0 (0, 0), rfl, (fun h => by cases h), S.out.below⟩
    obtain ⟨hna, hnb⟩ := lU (a := n) (b := 1) (by omega)
    by_cases hd : D < o' + n
    case pos =>
     obtain ⟨hda, hdb⟩ := mV (a := wrap64 (wrap64 (S0 + D) - (S0 + o'))) (b := n) (by omega)
     obtain ⟨hea, heb⟩ := mV (a := D - o') (b := n) (by omega)
     have HQ := ae.mk (HG.out.symm.trans (Ai (.inr hd)))
     have sK := (S.out.at dN 0).trans rfl
     have vP := (S.out.at dN 2).trans rfl
     go_wp2
     clear sK vP
     go_ret3
     rw [HQ.out]
     exact ⟨none, 0, none, 0, .cells #[] 0 (0, 0), .cells #[] 0 (0, 0), rfl, (fun h => by cases h), S.out.below⟩
    obtain ⟨hda, hdb⟩ := lU (a := wrap64 (wrap64 (S0 + D) - (S0 + o'))) (b := n) (by omega)
    obtain ⟨hea, heb⟩ := lU (a := D - o') (b := n) (by omega)
    have HG2 := ae.mk ((Oa (fun h => h.elim hn hd)).symm.trans HG.out)
    have HN := ae.mk hn
    have HD2 := ae.mk hd
    have NZ := ae.mk (show wrap64 ((S0 + o') + n) = S0 + (o' + n) by have := qX.out; have := HB.out; unfold wrap64; omega)
    clear hn hd hg
    obtain ⟨sK, Bi, vP, Bj⟩ := St.at4 S dN
    go_wp2_with (first | (refine bP (some 88) Try.func127 S (FM o_.out (S0 + o') T0 n E) ?_; clear S; intro dJ S; clear sK Bi vP Bj) | (refine boxS 18 _ 23 S ?_; clear S; intro b18 dX S) | (refine iT 23 18 89 #[.int .i64 (tX ax (S0 + o') T0), .int .i64 (tX ax T0 (S0 + o')), .int .i64 (tX ax n E), .int .i64 (tX ax E n)] 0 4 S ?_; clear S; intro fU S; obtain ⟨abx, aby, abz, abA⟩ := St.at4 S (.head _)) | (refine gm 94 rfl ?_; at_builtin; replace S := ae.mk S.out.uS; refine uQ k23 23 rfl 91 93 42 _ 32 Try.underlying42 info23 rfl (by decide) (by decide) (by decide) S iw ⟨tX ax (S0 + o') T0, tX ax T0 (S0 + o'), tX ax n E, tX ax E n⟩ [.int .i64 (tX ax (S0 + o') T0), .int .i64 (tX ax T0 (S0 + o')), .int .i64 (tX ax n E), .int .i64 (tX ax E n)] (fun _ _ _ => qP _ _ _ _) (by have := zn.out; omega) ?_; clear S iw; intro JQ cp2 MW iW S iw; clear abx aby abz abA))
    have hw1 := HW1.out
    go_wp2
    go_roundg ns.length
    case measure => exact Nat.lt_of_lt_of_le (Nat.lt_succ_self _) gz.out
    case rel => exact ⟨pre ++ [n], ns, o' + n, _, ls', _, _, _, _, _, _, (by rw [List.length_append]; rfl), rfl, (by rw [NZ.out]), (by rw [hw1]), ⟨by rw [List.append_assoc]; exact HE.out⟩, Nat.le_refl _, ⟨by have := HO.out; have := qX.out; have := HN.out; have := HD2.out; simp only [List.length_append, List.length_singleton]; omega⟩, ⟨by rw [show ((pre ++ [n]).length == 0) = false by simp]; exact HG2.out⟩, iw, lY, ⟨S.out.tC.dQ.rq.rq.uS.rq⟩⟩
def agw.f (_ : Nat) (X Y Wd H ax : Int) (sizes : List Int) : Option (List dD × List dD × Bool) := if sizes.length ≤ 1000000 then some (ql X Y Wd H ax sizes) else none
theorem Two.lower {α β : Type} {d : Kd α} {e : TypeId} {d' : Kd β} {e' : TypeId} {w W W1 : World} {v v' : Value} {l : List α} {l' : List β} {o o' : Obj} (h : Two d e d' e' W W1 v l v' l' o o') (hs : w.heap.size ≤ W.heap.size) : Two d e d' e' w W1 v l v' l' o o' :=
 ⟨A8 h.one hs, A8 h.two hs, fun g hg => ⟨Nat.le_trans hs (h.at1 g hg).1, (h.at1 g hg).2⟩, fun g hg => ⟨Nat.le_trans hs (h.at2 g hg).1, (h.at2 g hg).2⟩, h.ne⟩
theorem abK (c : ai) (hl : c.f3.length ≤ 1000000) (b : Nat) (P : Nat → Prop) (A : Option Addr) (cc : Nat) (w : World) (hv : Kd.V k26 26 w b P (.slice A c.f3.length cc) c.f3) :
  Calls Try.prog 210 #[.agg #[.int .u8 c.f0, .int .i64 c.f1.f0, .int .i64 c.f1.f1, .int .i64 c.f1.f2, .int .i64 c.f1.f3, .int .i64 c.f2, .slice A c.f3.length cc]] w (JS w (xW c)) := by
 have S := ae.mk (St.start (ts := [(.slice A c.f3.length cc, c.f3)]) (b0 := w.heap.size) (w := w) (P := P) (fun t ht => by rw [List.mem_singleton.1 ht]; exact f_ hv))
 have jl := ae.mk hl
 clear hl hv
 obtain ⟨ck, ⟨cx, cy, cw, ch⟩, aK, l⟩ := c
 simp only [] at S jl ⊢
 rw [show xW ⟨ck, ⟨cx, cy, cw, ch⟩, aK, l⟩ = ql cx cy cw ch (((ck - 2) % 256 + 1) % 256) (l.map (qi ck)) from rfl]
 obtain ⟨T, hT⟩ : ∃ T, T = ql cx cy cw ch (((ck - 2) % 256 + 1) % 256) (l.map (qi ck)) := ⟨_, rfl⟩
 rw [← hT]
 have HT := ae.mk hT
 clear hT
 go_enter Try.func210, Try.ntmps210
 go_wp2_with (first
  | (refine boxS 1 _ 26 S ?_; clear S; intro b1 dJ S; have iD := (S.out.at (.head _) 6).trans rfl)
  | fail)
 clear iD
 go_loopg [5, 11] l.length (fun gg v3 v9 wr => ∃ (pre rest : List ai) (Ap : Option Addr) (cp : Nat) (op : Obj), v3 = .slice Ap pre.length cp ∧ v9 = .int .i64 (pre.length : Int) ∧ ae (pre ++ rest = l) ∧ rest.length ≤ gg ∧ ae (KR (Kd.int .i64) 3 w.heap.size (.slice Ap pre.length cp) (pre.map (qi ck)) op) ∧ ae (St w P [((Value.slice Ap pre.length cp).ownBlock, op), (some b1, .cells #[.int .u8 ck, .int .i64 cx, .int .i64 cy, .int .i64 cw, .int .i64 ch, .int .i64 aK, .slice A l.length cc] 26 (0, 0))] [] [(.slice A l.length cc, l)] [] wr))
 case atStart => exact ⟨[], l, _, _, _, rfl, rfl, ⟨rfl⟩, Nat.le_refl _, ⟨J_ _ _ _⟩, ⟨S.out.noK⟩⟩
 case round =>
  clear S
  obtain ⟨pre, rest, Ap, cp, op, rfl, rfl, HE, hgg, iw, S⟩ := hrel
  cases rest with
  | nil =>
   have hE := HE.out
   rw [List.append_nil] at hE
   have hE2 := hE.symm
   subst hE2
   clear hE HE hgg
   have hlt : ¬ ((l.length : Int) < (l.length : Int)) := by omega
   have hlm : (l.map (qi ck)).length = l.length := List.length_map _
   have hcut := fun W hi => aeH cx cy cw ch (((ck - 2) % 256 + 1) % 256) (l.map (qi ck)) (by have := jl.out; simpa using this) Ap cp W hi
   rw [hlm, ← HT.out] at hcut
   have FT := ae.mk hcut
   clear hcut hlm
   have jS := (S.out.at bG 1).trans rfl
   have jT := (S.out.at bG 2).trans rfl
   have jU := (S.out.at bG 3).trans rfl
   have jV := (S.out.at bG 4).trans rfl
   have fO := (S.out.at bG 0).trans rfl
   go_wp2_with (first
    | (refine jb (some 38) Try.func45 (FT.out _ (by have h := (Kd.dP (J9 iw.out S.out (.head _))).2.2; rw [List.length_map] at h; exact h)) ?_; rintro e dX ⟨A1, c1, A2, c2, o1, o2, rfl, h1, hb⟩; refine ⟨_, rfl, ?_⟩; have HCU := ae.mk (fun h => (h1 h).lower S.out.below.size); replace S := ae.mk (S.out.call hb); clear h1 hb; clear jS jT jU jV fO)
    | fail)
   go_ret3
   exact ⟨_, _, _, _, _, _, rfl, HCU.out, S.out.below⟩
  | cons k rest =>
   have hk : k ∈ l := by rw [← HE.out]; simp
   have hlt : (pre.length : Int) < (l.length : Int) := by rw [← HE.out, List.length_append, List.length_cons]; omega
   have hw1 : wrap64 ((pre.length : Int) + 1) = ((pre ++ [k]).length : Int) := by have := jl.out; rw [List.length_append, List.length_singleton]; unfold wrap64; omega
   have HW1 := ae.mk hw1
   have gz := ae.mk hgg
   have HK := ae.mk hk
   have Eh := ae.mk (show pre.length ≤ 1048576 by have := jl.out; omega)
   obtain ⟨ku, ua, uc, ek, S1⟩ := S.out.elem (.head _) (pre.length : Int) (Int.natCast_nonneg _) hlt
   subst ek
   have hrd : az l (pre.length : Int) = k := by rw [← HE.out]; exact lN pre k rest
   rw [hrd] at S1
   simp only [Int.toNat_natCast] at S1
   replace S := ae.mk S1
   clear S1 hrd hk hgg hw1
   by_cases hk2 : ck = 2
   case pos =>
    have hka : (ck == 2) = true := beq_iff_eq.mpr hk2
    have hkb : decide (ck = 2) = true := decide_eq_true hk2
    have J7 := ae.mk (show (pre ++ [k]).map (qi ck) = pre.map (qi ck) ++ [k.f1.f2] by rw [List.map_append]; exact congrArg (pre.map (qi ck) ++ [·]) (if_pos hk2))
    clear hk2
    obtain ⟨gX, iY, jH, jv, jw, lD, lF⟩ := St.I4 S
    go_wp2_with (first
     | (refine boxS 7 _ 26 S ?_; clear S; intro b7 fU S; clear gX iY jH jv jw lD lF)
     | (refine iT 26 7 14 #[.int .u8 k.f0, .int .i64 k.f1.f0, .int .i64 k.f1.f1, .int .i64 k.f1.f2, .int .i64 k.f1.f3, .int .i64 k.f2, .slice ua k.f3.length uc] 0 7 S ?_; clear S; intro iW S; have fO := (S.out.at dN 0).trans rfl; have aex := (S.out.at (.head _) 3).trans rfl)
     | (refine gm 23 rfl ?_; at_builtin; replace S := ae.mk S.out.tC; refine uQ (Kd.int .i64) 3 rfl 18 22 41 (.int .i64 0) 8 Try.underlying41 info3 rfl (by decide) (by decide) (by decide) S iw k.f1.f2 [.int .i64 k.f1.f2] (fun _ _ _ => rfl) (by have := Eh.out; simp only [List.length_map]; omega) ?_; clear S iw; intro JQ cp2 MW mG S iw; clear fO aex)
     | fail)
    have e2 : ((pre.map (qi ck)) ++ [k.f1.f2]).length = (pre ++ [k]).length := by simp
    rw [e2, ← J7.out] at iw
    rw [e2] at S
    have hw1 := HW1.out
    go_wp2
    go_roundg rest.length
    case measure => exact Nat.lt_of_lt_of_le (Nat.lt_succ_self _) gz.out
    case rel => exact ⟨pre ++ [k], rest, _, _, _, (by rw [List.length_append]; rfl), (by rw [hw1]), ⟨by rw [List.append_assoc]; exact HE.out⟩, Nat.le_refl _, iw, ⟨S.out.tC.dQ.tC.tC.dG.bQ.bQ.bQ.bQ.bQ.bQ.bQ⟩⟩
   case neg =>
    have hka : (ck == 2) = false := beq_eq_false_iff_ne.mpr hk2
    have hkb : decide (ck = 2) = false := decide_eq_false hk2
    have J7 := ae.mk (show (pre ++ [k]).map (qi ck) = pre.map (qi ck) ++ [k.f1.f3] by rw [List.map_append]; exact congrArg (pre.map (qi ck) ++ [·]) (if_neg hk2))
    clear hk2
    obtain ⟨gX, iY, jH, jv, jw, lD, lF⟩ := St.I4 S
    go_wp2_with (first
     | (refine boxS 7 _ 26 S ?_; clear S; intro b7 Cb S; clear gX iY jH jv jw lD lF)
     | (refine iT 26 7 14 #[.int .u8 k.f0, .int .i64 k.f1.f0, .int .i64 k.f1.f1, .int .i64 k.f1.f2, .int .i64 k.f1.f3, .int .i64 k.f2, .slice ua k.f3.length uc] 0 7 S ?_; clear S; intro zL S; have fO := (S.out.at dN 0).trans rfl; have aey := (S.out.at (.head _) 4).trans rfl)
     | (refine gm 29 rfl ?_; at_builtin; replace S := ae.mk S.out.tC; refine uQ (Kd.int .i64) 3 rfl 24 28 41 (.int .i64 0) 8 Try.underlying41 info3 rfl (by decide) (by decide) (by decide) S iw k.f1.f3 [.int .i64 k.f1.f3] (fun _ _ _ => rfl) (by have := Eh.out; simp only [List.length_map]; omega) ?_; clear S iw; intro JQ cp2 MW zM S iw; clear fO aey)
     | fail)
    have e2 : ((pre.map (qi ck)) ++ [k.f1.f3]).length = (pre ++ [k]).length := by simp
    rw [e2, ← J7.out] at iw
    rw [e2] at S
    have hw1 := HW1.out
    go_wp2
    go_roundg rest.length
    case measure => exact Nat.lt_of_lt_of_le (Nat.lt_succ_self _) gz.out
    case rel => exact ⟨pre ++ [k], rest, _, _, _, (by rw [List.length_append]; rfl), (by rw [hw1]), ⟨by rw [List.append_assoc]; exact HE.out⟩, Nat.le_refl _, iw, ⟨S.out.tC.dQ.tC.tC.dG.bQ.bQ.bQ.bQ.bQ.bQ.bQ⟩⟩
theorem abG (k : ai) (r : dD) (A : Option Addr) (cc : Nat) (w : World) :
  Calls Try.prog 212 #[.agg #[.int .u8 k.f0, .int .i64 k.f1.f0, .int .i64 k.f1.f1, .int .i64 k.f1.f2, .int .i64 k.f1.f3, .int .i64 k.f2, .slice A k.f3.length cc], .agg #[.int .i64 r.f0, .int .i64 r.f1, .int .i64 r.f2, .int .i64 r.f3]] w fun e w' => e = .returned (.bool (qB k.f1 r)) ∧ Below w.heap.size w w' := by
 have S := ae.mk (St.start (ts := []) (b0 := w.heap.size) (w := w) (P := fun _ => True) (fun _ h => by cases h))
 go_enter Try.func212, Try.ntmps212
 go_wp2_with (first
  | (refine boxS 2 _ 26 S ?_; clear S; intro b2 dJ S)
  | (refine boxS 3 _ 23 S ?_; clear S; intro b3 dX S; obtain ⟨a_, aW, aY, aX⟩ := St.at4 S (.head _); have vK := (S.out.at bG 1).trans rfl; have vM := (S.out.at bG 2).trans rfl; have vN := (S.out.at bG 3).trans rfl; have vO := (S.out.at bG 4).trans rfl)
  | fail)
 clear a_ aW aY aX vK vM vN vO
 all_goals (go_ret; refine ⟨?_, S.out.below⟩; clear S; simp [qB, *])
theorem VC (c : ai) (hl : c.f3.length ≤ 1000000) (b : Nat) (P : Nat → Prop) (A : Option Addr) (cc : Nat) (w : World) (hv : Kd.V k26 26 w b P (.slice A c.f3.length cc) c.f3) :
  Calls Try.prog 206 #[.agg #[.int .u8 c.f0, .int .i64 c.f1.f0, .int .i64 c.f1.f1, .int .i64 c.f1.f2, .int .i64 c.f1.f3, .int .i64 c.f2, .slice A c.f3.length cc]] w (Pz w c) := by
 have S := ae.mk (St.start (ts := [(.slice A c.f3.length cc, c.f3)]) (b0 := w.heap.size) (w := w) (P := P) (fun t ht => by rw [List.mem_singleton.1 ht]; exact f_ hv))
 have hcut := fun b P A cc W hV => abK c hl b P A cc W hV
 have ho : mr c = BH c (xW c) := rfl
 have hl2 := (Lu c).2
 unfold Pz
 generalize mr c = v at ho ⊢
 generalize xW c = T at ho hl2 hcut
 clear hl hv
 obtain ⟨ck, ⟨cx, cy, cw, ch⟩, aK, l⟩ := c
 obtain ⟨t1, t2, t3⟩ := T
 simp only [BH] at S hl2 hcut ho ⊢
 have HL2 := ae.mk hl2
 clear hl2
 by_cases h1 : ck = 1
 case pos =>
  have hv : v = true := by rw [ho, h1]; rfl
  have ha : (ck == 1) = true := beq_iff_eq.mpr h1
  have hb : decide (ck = 1) = true := decide_eq_true h1
  have HL := ae.mk hv
  clear hv h1 ho hcut
  go_enter Try.func206, Try.ntmps206
  go_wp2_with (first
   | (refine boxS 1 _ 26 S ?_; clear S; intro b1 dJ S; have fO := (S.out.at (.head _) 0).trans rfl)
   | fail)
  clear fO
  go_ret2
  rw [HL.out]
  exact ⟨_, _, _, rfl, fun _ => ⟨[], rfl, Nat.zero_le _, Kd.uz _ _ _ _ _⟩, S.out.below⟩
 have ha : (ck == 1) = false := beq_eq_false_iff_ne.mpr h1
 have hd : decide (ck = 1) = false := decide_eq_false h1
 rw [ha, Bool.false_or] at ho
 clear h1
 cases t3 with
 | false =>
  rw [Bool.false_and] at ho
  have HL := ae.mk ho
  have FT := ae.mk (fun b P A cc W hV => LC (hcut b P A cc W hV))
  clear hcut ho
  go_enter Try.func206, Try.ntmps206
  go_wp2_with (first
   | (refine boxS 1 _ 26 S ?_; clear S; intro b1 dJ S; obtain ⟨fO, jS, jT, jU, jV, lV, iD⟩ := St.eQ S (.head _))
   | (refine jb (some 12) Try.func210 (FT.out _ _ _ _ _ (S.out.tree _ (.head _))) ?_; rintro e dX ⟨Ap, np, cp, Aq, nq, cq, rfl, hb⟩; refine ⟨_, rfl, ?_⟩; replace S := ae.mk (S.out.call hb); clear hb; clear fO jS jT jU jV lV iD)
   | fail)
  go_ret2
  rw [HL.out]
  exact ⟨_, _, _, rfl, (fun h => by cases h), S.out.below⟩
 | true =>
  rw [Bool.true_and] at ho
  have FT := ae.mk (fun b P A cc W hV => Ob (hcut b P A cc W hV))
  have HEF := ae.mk (fun (A B : Option Addr) (ca cb : Nat) (W : World) (h1 : Kd.C k26 W A l.length l) (h2 : Kd.C k23 W B t1.length t1) => (show Calls Try.prog 211 #[.slice A l.length ca, .slice B t1.length cb, .func (.func 212) #[] #[]] W fun e w' => e = .returned (.bool v) ∧ Below W.heap.size W w' by rw [ho]; exact abS (fun k r => qB k.f1 r) 212 (p_ Try.func212 (by decide +kernel) (by kernel_rfl)) l t1 A B ca cb W h1 h2 (fun W x X cx y _ _ _ _ => abG x y X cx W)))
  clear hcut ho
  go_enter Try.func206, Try.ntmps206
  go_wp2_with (first
   | (refine boxS 1 _ 26 S ?_; clear S; intro b1 dJ S; obtain ⟨fO, jS, jT, jU, jV, lV, iD⟩ := St.eQ S (.head _))
   | (refine jb (some 12) Try.func210 (FT.out _ _ _ _ _ (S.out.tree _ (.head _))) ?_; rintro e dX ⟨Ap, cp, Aq, cq, op, oq, rfl, h1, hb⟩; refine ⟨_, rfl, ?_⟩; obtain ⟨S1, hp, hq⟩ := S.out.two h1 hb; replace S := ae.mk S1; have iw := ae.mk hp; have lY := ae.mk hq; clear S1 hp hq h1 hb; clear fO jS jT jU jV lV iD; have iD := (S.out.at dN 6).trans rfl)
   | (refine gm 22 rfl ?_; (refine fB (by rfl) ?_; dsimp only); refine bP (some 22) Try.func211 S (HEF.out _ _ _ _ _ (Kd.jZ (S.out.tree _ (.head _))).2.2 (Uy iw.out S.out (.head _)).1) ?_; clear S; intro fU S; clear iD)
   | fail)
  go_ret2
  exact ⟨_, _, _, rfl, fun _ => ⟨t2, rfl, HL2.out, S.out.Fh lY.out bG⟩, S.out.below⟩
def o6 (w0 : World) (gw j : Nat) (W : World) : Prop := Below w0.heap.size w0 W ∧ ∃ (n : Int) (v : Value) (ls : List dD), W.heap[gw]? = some (.cells #[.int .i64 n, v] 182 (0, 0)) ∧ Kd.R k23 23 W w0.heap.size (fun _ => True) v ls ∧ ls.length ≤ j
def Fr (gw : Nat) (W W' : World) : Prop := ∀ k cs t, k ≠ gw → t ≠ 23 → W.heap[k]? = some (.cells cs t (0, 0)) → W'.heap[k]? = some (.cells cs t (0, 0))
theorem Fr.refl (gw : Nat) (W : World) : Fr gw W W := fun _ _ _ _ _ h => h
theorem Fr.trans {gw : Nat} {W W1 W2 : World} (h : Fr gw W W1) (k : Fr gw W1 W2) : Fr gw W W2 := fun i cs t hi ht hb => k i cs t hi ht (h i cs t hi ht hb)
theorem Fr.below {gw : Nat} {W W1 : World} (h : Below W.heap.size W W1) : Fr gw W W1 := fun _ _ _ _ _ hb => aI hb h
theorem Fr.store {gw : Nat} {W W1 : World} (h : W.grownBy W1 (some gw)) : Fr gw W W1 := fun _ _ _ hi _ hb => dh hb h (fun e => absurd (Option.some.inj e) hi)
theorem Fr.append {gw base : Nat} {W W1 : World} {v : Value} {xs : List dD} {ok : Nat → Prop} (hv : Kd.R k23 23 W base ok v xs) (h : W.grownBy W1 v.ownBlock) : Fr gw W W1 := fun _ _ _ _ ht hb => dh hb h (Kd.ER hv hb (fun e => ht e.symm))
theorem o6.below {w0 W W1 : World} {gw j : Nat} (h : o6 w0 gw j W) (hb : Below W.heap.size W W1) : o6 w0 gw j W1 := by
 obtain ⟨h1, n, v, ls, h2, h3, h4⟩ := h
 exact ⟨ak h1 hb, n, v, ls, aI h2 hb, Kd.pz h3 hb, h4⟩
theorem o6.mono {w0 W : World} {gw j j' : Nat} (h : o6 w0 gw j W) (hj : j ≤ j') : o6 w0 gw j' W := by
 obtain ⟨h1, n, v, ls, h2, h3, h4⟩ := h
 exact ⟨h1, n, v, ls, h2, h3, Nat.le_trans h4 hj⟩
theorem abE (x : ai) (B : Option Addr) (cb b3 gw : Nat) (r : Bool) (R : World → Prop) (W : World) (hk : W.heap[b3]? = some (.cells #[.pointer (some ⟨gw, 0, none⟩)] 180 (0, 0)))
  (h : ∀ W1, Below W.heap.size W W1 → Calls Try.prog 197 #[.pointer (some ⟨gw, 0, none⟩), .agg #[.int .u8 x.f0, .int .i64 x.f1.f0, .int .i64 x.f1.f1, .int .i64 x.f1.f2, .int .i64 x.f1.f3, .int .i64 x.f2, .slice B x.f3.length cb]] W1 fun e w' => e = .returned (.bool r) ∧ R w') :
  Calls Try.prog 207 (#[.agg #[.int .u8 x.f0, .int .i64 x.f1.f0, .int .i64 x.f1.f1, .int .i64 x.f1.f2, .int .i64 x.f1.f3, .int .i64 x.f2, .slice B x.f3.length cb]] ++ #[.pointer (some ⟨b3, 0, none⟩)]) W fun e w' => e = .returned (.bool (!r)) ∧ R w' := by
 have HK := ae.mk hk
 have H := ae.mk h
 clear hk h
 simp only [List.append_toArray, List.cons_append, List.nil_append]
 cases r
 all_goals
  go_enter Try.func207, Try.ntmps207
  go_wp2_with (first
   | ((with_reducible refine aA (N := 2) rfl ?_); refine aQ ?hg (N := 2) ?hd (cs := #[.int .u8 x.f0, .int .i64 x.f1.f0, .int .i64 x.f1.f1, .int .i64 x.f1.f2, .int .i64 x.f1.f3, .int .i64 x.f2, .slice B x.f3.length cb]) (t := 26) ?hr ?_; (case hd => rfl); (case hg => rfl); (case hr => first | (go_simp; done) | (go_simp; rfl)); intro b2 hg Xu hbox hb; have lT := ae.mk hbox; have HB := ae.mk hb; have K3 := ae.mk (aI HK.out hb); have d0 := (af K3.out 0).trans rfl; have c0 := (af lT.out 0).trans rfl; have c1 := (af lT.out 1).trans rfl; have c2 := (af lT.out 2).trans rfl; have c3 := (af lT.out 3).trans rfl; have c4 := (af lT.out 4).trans rfl; have c5 := (af lT.out 5).trans rfl; have c6 := (af lT.out 6).trans rfl; clear hb hbox hg)
   | fail)
  clear c0 c1 c2 c3 c4 c5 c6 d0
  refine (H.out _ HB.out).mono ?_
  rintro e w' ⟨rfl, hR⟩
  have HR := ae.mk hR
  clear hR
  go_wp2
  go_ret
  exact ⟨rfl, HR.out⟩
def qj.T5 : Bool × List (List Nat × List Nat) := (true, [([], []), ([], []), ([1], [1]), ([2], [2]), ([3], [3]), ([], []), ([4, 5], [4, 5]), ([0, 0, 1, 2, 3, 4, 5, 6], [0]), ([7, 0, 1, 2, 3, 4, 5, 6], [7]), ([8, 6, 6, 0, 1, 2, 3, 4, 5, 6], [6, 8])])
def qj.B5 : List Nat := [0, 0, 2, 6, 14, 0, 62, 127, 255, 511]
theorem qj.Iu : g_ .any (opsOf Try.f197 5) = qj.T5 := by kernel_rfl
theorem qj.DX : iL qj.T5.2 qj.B5 = true := by kernel_rfl
theorem Z9 (w0 : World) (gw : Nat) (hgw : w0.heap.size ≤ gw) : ∀ (N : Nat) (c : ai), sz c ≤ N → N ≤ 20000 → ∀ (A : Option Addr) (cc : Nat), Kd.C k26 w0 A c.f3.length c.f3 → c.f3.length ≤ cc → ∀ (j : Nat) (W : World), j + dO c.f3 ≤ 1000000 → o6 w0 gw j W →
  Calls Try.prog 197 #[.pointer (some ⟨gw, 0, none⟩), .agg #[.int .u8 c.f0, .int .i64 c.f1.f0, .int .i64 c.f1.f1, .int .i64 c.f1.f2, .int .i64 c.f1.f3, .int .i64 c.f2, .slice A c.f3.length cc]] W fun e w' => e = .returned (.bool (kD c)) ∧ o6 w0 gw (j + dO c.f3) w' ∧ Fr gw W w' := by
 intro N
 induction N with
 | zero => intro c h; rw [df] at h; omega
 | succ N ih =>
  intro c hc hN A cc hr hlc j W hj hI
  have hsz := df c
  have hlen := jF c.f3
  have WX : ∀ (b2 j1 : Nat) (W1 : World), b2 ≠ gw → W1.heap[b2]? = some (.cells #[.pointer (some ⟨gw, 0, none⟩)] 180 (0, 0)) → o6 w0 gw j1 W1 → j1 ≤ j + c.f3.length →
    Calls Try.prog 174 #[.slice A c.f3.length cc, .func (.func 207) #[] #[.pointer (some ⟨b2, 0, none⟩)]] W1 fun e w' => e = .returned (.bool (!(c.f3.all kD))) ∧ o6 w0 gw (j + dO c.f3) w' ∧ Fr gw W1 w' := by
   intro b2 j1 W1 hne hk hi hj1
   have hcon := N_ (fun rest w' => (∃ i, o6 w0 gw i w' ∧ i + dO rest ≤ (j + dO c.f3) + rest.length) ∧ Fr gw W1 w') (fun x => !kD x) 207 #[.pointer (some ⟨b2, 0, none⟩)] (p_ Try.func207 (by decide +kernel) (by kernel_rfl)) c.f3 A cc w0 hr
    (fun s w' h => by obtain ⟨⟨i, h1, _⟩, _⟩ := h; exact h1.1)
    (fun s w' n h => by obtain ⟨⟨i, h1, h2⟩, h3⟩ := h; exact ⟨⟨i, h1.below (eH (Below.refl _ _) n), h2⟩, h3.trans (Fr.below (eH (Below.refl _ _) n))⟩)
    (fun x rest w' B cb hx hp h hCx hlx => by
     obtain ⟨⟨i, h1, h2⟩, h3⟩ := h
     obtain ⟨pre, hp⟩ := hp
     have e1 : dO c.f3 = dO pre + (sz x + dO rest) := by rw [← hp, nX, bW]
     have e2 := df x
     have e3 := jF rest
     have e4 := jF pre
     rw [bW, List.length_cons] at h2
     refine (abE x B cb b2 gw (kD x) (fun w'' => o6 w0 gw (i + dO x.f3) w'' ∧ Fr gw W1 w'') w' (h3 b2 _ 180 hne (by decide) hk) (fun W2 hb2 => ?_)).mono ?_
     ·refine (ih x (by omega) (by omega) B cb hCx hlx i W2 (by omega) (h1.below hb2)).mono ?_
      rintro e w'' ⟨he, hi2, hf⟩
      exact ⟨he, hi2, h3.trans ((Fr.below hb2).trans hf)⟩
     ·rintro e w'' ⟨he, hi2, hf⟩
      refine ⟨he, ⟨⟨i + dO x.f3, hi2, ?_⟩, hf⟩⟩
      split
      ·rw [wR]; show _ ≤ _ + 0; omega
      ·omega)
    W1 ⟨⟨j1, hi, by omega⟩, Fr.refl gw W1⟩ hr.2.1
   refine hcon.mono ?_
   rintro e w' ⟨he, ⟨i, h1, h2⟩, h3⟩
   rw [wR] at h2
   refine ⟨?_, h1.mono (by simpa using h2), h3⟩
   rw [he, List.not_all_eq_any_not]
  have hL : ∀ W1, Below w0.heap.size w0 W1 → Calls Try.prog 206 #[.agg #[.int .u8 c.f0, .int .i64 c.f1.f0, .int .i64 c.f1.f1, .int .i64 c.f1.f2, .int .i64 c.f1.f3, .int .i64 c.f2, .slice A c.f3.length cc]] W1 fun e w' => ∃ Au n cu, e = .returned (.tuple #[.slice Au n cu, .bool (mr c)]) ∧ (mr c = true → ∃ us : List dD, n = us.length ∧ us.length ≤ c.f3.length ∧ k23.R 23 w' W1.heap.size (fun _ => True) (.slice Au us.length cu) us) ∧ Below W1.heap.size W1 w' := fun W1 hb => VC c (by omega) W1.heap.size (fun _ => True) A cc W1 (Kd.tK hlc (Kd.qG (Kd.BU mi (Kd.fK hr hb)) (fun _ _ => trivial)))
  rw [sF]
  obtain ⟨hB, n, v, ls, hK, hV, hls⟩ := hI
  obtain ⟨Av, cv, ev⟩ := Kd.gQ hV
  subst ev
  have HB := ae.mk hB
  have KW := ae.mk hK
  have RV := ae.mk hV
  have FR := ae.mk (Fr.refl gw W)
  have NU := ae.mk hgw
  have Po := ae.mk WX
  have HL := ae.mk hL
  have NW := ae.mk hls
  have HJ := ae.mk hj
  have HN := ae.mk hlen
  clear hB hK hV WX hL hls hj hlen hsz ih hr hlc hc hN
  obtain ⟨ck, ⟨cx, cy, cw, ch⟩, aK, l⟩ := c
  simp only [] at Po HL HJ HN ⊢
  generalize mr ⟨ck, ⟨cx, cy, cw, ch⟩, aK, l⟩ = q at HL ⊢
  generalize l.all kD = p at Po ⊢
  cases q with
  | false =>
   rw [Bool.false_and]
   go_enter Try.func197, Try.ntmps197
   go_wp2_with (first
    | ((with_reducible refine aA (N := 2) rfl ?_); refine aQ ?hg (N := 2) ?hd (cs := #[.pointer (some ⟨gw, 0, none⟩)]) (t := 180) ?hr ?_; (case hd => rfl); (case hg => rfl); (case hr => first | (go_simp; done) | (go_simp; rfl)); intro b2 hg Xu hbox hb; have lT := ae.mk hbox; have WG := ae.mk (show b2 ≠ gw by rw [hg]; exact Nat.ne_of_gt (eY KW.out)); have di := ae.mk (ak HB.out hb); have pU := ae.mk (aI KW.out hb); have nI := ae.mk (Kd.pz RV.out hb); have nH := ae.mk (FR.out.trans (Fr.below hb)); clear HB KW RV FR; have HB := di; have KW := pU; have RV := nI; have FR := nH; clear di pU nI nH; clear hb hbox hg)
    | ((with_reducible refine aA (N := 3) rfl ?_); refine aQ ?hg (N := 3) ?hd (cs := #[.int .u8 ck, .int .i64 cx, .int .i64 cy, .int .i64 cw, .int .i64 ch, .int .i64 aK, .slice A l.length cc]) (t := 26) ?hr ?_; (case hd => rfl); (case hg => rfl); (case hr => first | (go_simp; done) | (go_simp; rfl)); intro b3 hg Um hbox hb; have cZ := ae.mk hbox; have NE3 := ae.mk (show b3 ≠ gw by rw [hg]; exact Nat.ne_of_gt (eY KW.out)); have di := ae.mk (ak HB.out hb); have pU := ae.mk (aI KW.out hb); have nI := ae.mk (Kd.pz RV.out hb); have nH := ae.mk (FR.out.trans (Fr.below hb)); have oK := ae.mk (aI lT.out hb); clear HB KW RV FR lT; have HB := di; have KW := pU; have RV := nI; have FR := nH; have lT := oK; clear di pU nI nH oK; have c0 := (af cZ.out 0).trans rfl; have c1 := (af cZ.out 1).trans rfl; have c2 := (af cZ.out 2).trans rfl; have c3 := (af cZ.out 3).trans rfl; have c4 := (af cZ.out 4).trans rfl; have c5 := (af cZ.out 5).trans rfl; have c6 := (af cZ.out 6).trans rfl; clear hb hbox hg)
    | fail)
   clear c0 c1 c2 c3 c4 c5 c6
   refine (HL.out _ HB.out).mono ?_
   rintro e w1 ⟨Au, nu, cu, rfl, _, hb⟩
   have di := ae.mk (ak HB.out hb); have pU := ae.mk (aI KW.out hb); have nI := ae.mk (Kd.pz RV.out hb); have nH := ae.mk (FR.out.trans (Fr.below hb)); have oK := ae.mk (aI lT.out hb); have vX := ae.mk (aI cZ.out hb); clear HB KW RV FR lT cZ; have HB := di; have KW := pU; have RV := nI; have FR := nH; have lT := oK; have cZ := vX; clear di pU nI nH oK vX
   clear hb
   go_wp2
   go_ret
   exact ⟨rfl, ⟨HB.out, n, _, ls, KW.out, RV.out, by have := NW.out; omega⟩, FR.out⟩
  | true =>
   rw [Bool.true_and]
   go_enter Try.func197, Try.ntmps197
   go_wp2_with (first
    | ((with_reducible refine aA (N := 2) rfl ?_); refine aQ ?hg (N := 2) ?hd (cs := #[.pointer (some ⟨gw, 0, none⟩)]) (t := 180) ?hr ?_; (case hd => rfl); (case hg => rfl); (case hr => first | (go_simp; done) | (go_simp; rfl)); intro b2 hg Xu hbox hb; have lT := ae.mk hbox; have WG := ae.mk (show b2 ≠ gw by rw [hg]; exact Nat.ne_of_gt (eY KW.out)); have di := ae.mk (ak HB.out hb); have pU := ae.mk (aI KW.out hb); have nI := ae.mk (Kd.pz RV.out hb); have nH := ae.mk (FR.out.trans (Fr.below hb)); clear HB KW RV FR; have HB := di; have KW := pU; have RV := nI; have FR := nH; clear di pU nI nH; clear hb hbox hg)
    | ((with_reducible refine aA (N := 3) rfl ?_); refine aQ ?hg (N := 3) ?hd (cs := #[.int .u8 ck, .int .i64 cx, .int .i64 cy, .int .i64 cw, .int .i64 ch, .int .i64 aK, .slice A l.length cc]) (t := 26) ?hr ?_; (case hd => rfl); (case hg => rfl); (case hr => first | (go_simp; done) | (go_simp; rfl)); intro b3 hg Um hbox hb; have cZ := ae.mk hbox; have NE3 := ae.mk (show b3 ≠ gw by rw [hg]; exact Nat.ne_of_gt (eY KW.out)); have di := ae.mk (ak HB.out hb); have pU := ae.mk (aI KW.out hb); have nI := ae.mk (Kd.pz RV.out hb); have nH := ae.mk (FR.out.trans (Fr.below hb)); have oK := ae.mk (aI lT.out hb); clear HB KW RV FR lT; have HB := di; have KW := pU; have RV := nI; have FR := nH; have lT := oK; clear di pU nI nH oK; have c0 := (af cZ.out 0).trans rfl; have c1 := (af cZ.out 1).trans rfl; have c2 := (af cZ.out 2).trans rfl; have c3 := (af cZ.out 3).trans rfl; have c4 := (af cZ.out 4).trans rfl; have c5 := (af cZ.out 5).trans rfl; have c6 := (af cZ.out 6).trans rfl; clear hb hbox hg)
    | fail)
   clear c0 c1 c2 c3 c4 c5 c6
   refine (HL.out _ HB.out).mono ?_
   rintro e w1 ⟨Au, nu, cu, rfl, hu, hb⟩
   obtain ⟨us, eu, hul, hu2⟩ := hu trivial
   subst eu
   have jl := ae.mk hul
   have HU := ae.mk (Kd.pF hu2 HB.out.size)
   clear hul hu hu2
   have di := ae.mk (ak HB.out hb); have pU := ae.mk (aI KW.out hb); have nI := ae.mk (Kd.pz RV.out hb); have nH := ae.mk (FR.out.trans (Fr.below hb)); have oK := ae.mk (aI lT.out hb); have vX := ae.mk (aI cZ.out hb); clear HB KW RV FR lT cZ; have HB := di; have KW := pU; have RV := nI; have FR := nH; have lT := oK; have cZ := vX; clear di pU nI nH oK vX
   clear hb
   have d0 := (af lT.out 0).trans rfl
   have e0 := (af KW.out 0).trans rfl
   have e1 := (af KW.out 1).trans rfl
   go_wp2_with (first
    | ((with_reducible refine lh (.store 3 (.tmp 20) (.tmp 18)) rfl ?_); go_loud (refine fV (w0 := w0) rfl rfl 3 (.tmp 20) (.tmp 18) rfl (g := gw) (j := 0) (base := w0.heap.size) #[.int .i64 (wrap64 (n + 1)), .slice Av ls.length cv] (u := .int .i64 (wrap64 (n + 1))) (bJ := [.int .i64 (wrap64 (n + 1))]) ?sA ?sX rfl ?sT ?s1 KW.out ?sJ rfl HB.out HB.out.size NU.out ?_; (case sA => rfl); (case sX => rfl); (case sT => rfl); (case s1 => (simp [Value.oneCell'])); (case sJ => (first | decide | simp)); intro ws hbk hbb hgg; have nI := ae.mk (Kd.EP RV.out rfl hgg (fun k_ hk => hk ▸ Kd.ER RV.out KW.out (by decide))); have Nc := ae.mk (Kd.EP HU.out rfl hgg (fun k_ hk => hk ▸ Kd.ER HU.out KW.out (by decide))); have nH := ae.mk (FR.out.trans (Fr.store hgg)); have oK := ae.mk (dh lT.out hgg (fun e_ => absurd (Option.some.inj e_) WG.out)); have vX := ae.mk (dh cZ.out hgg (fun e_ => absurd (Option.some.inj e_) NE3.out)); clear RV HU FR lT cZ; have RV := nI; have HU := Nc; have FR := nH; have lT := oK; have cZ := vX; clear nI Nc nH oK vX; clear KW HB d0 e0 e1; have KW := ae.mk hbk; have HB := ae.mk hbb; clear hbk hbb hgg))
    | fail)
   have hb : Below ws.heap.size ws ws.drew := bg (Below.refl _ _)
   have di := ae.mk (ak HB.out hb); have pU := ae.mk (aI KW.out hb); have nI := ae.mk (Kd.pz RV.out hb); have nH := ae.mk (FR.out.trans (Fr.below hb)); have oK := ae.mk (aI lT.out hb); have vX := ae.mk (aI cZ.out hb); have Nc := ae.mk (Kd.pz HU.out hb); clear HB KW RV FR lT cZ HU; have HB := di; have KW := pU; have RV := nI; have FR := nH; have lT := oK; have cZ := vX; have HU := Nc; clear di pU nI nH oK vX Nc
   clear hb
   refine ik (n := 10) (S := fun w' => Below w0.heap.size w0 w' ∧ w'.heap[b2]? = some (.cells #[.pointer (some ⟨gw, 0, none⟩)] 180 (0, 0)) ∧ w'.heap[gw]? = some (.cells #[.int .i64 (wrap64 (n + 1)), .slice Av ls.length cv] 182 (0, 0))) (ds := [9]) (bA 10 0) (by kernel_rfl) rfl rfl ⟨HB.out, lT.out, KW.out⟩ (fun hHeld => ?_); refine ed qj.Iu qj.DX (fun aj dW => ?_)
   generalize ws.drew = wd at HB KW RV FR lT cZ HU hHeld ⊢
   refine dS 0 21 (bA 10 1) aj dW hHeld ?_ (hv := by intro w' hs_; have c := (af hs_.2.1 0).trans rfl; go_simp; with_reducible rfl)
   refine dS 1 22 (bA 10 3) aj dW hHeld ?_ (hv := by intro w' hs_; have c := (af hs_.2.1 0).trans rfl; go_simp; with_reducible rfl)
   refine au 2 23 (bA 10 7) aj ?_
   refine au 3 24 (bA 10 15) aj ?_
   refine dS 4 25 (bA 10 31) aj dW hHeld ?_ (hv := by intro w' hs_; have c := (af hs_.2.2 1).trans rfl; go_simp; with_reducible rfl)
   refine au 5 26 (bA 10 63) aj ?_
   refine jR 6 (some 27) (bA 10 127) aj (fun K hK => ?_)
   refine Kd.Cj k23 (w0 := w0) w0.heap.size (by rfl) (.tmp 25) (.tmp 26) 42 23 (.agg #[(.int .i64 0), (.int .i64 0), (.int .i64 0), (.int .i64 0)]) 32 rfl Try.underlying42 info23 rfl (by decide) (by omega) (.slice Av ls.length cv) ls us Au us.length cu (fun _ => True) (fun _ => False) rfl rfl RV.out (Kd.dP HU.out).2.2 (fun _ _ h => h) (fun _ h => h.elim) (fun _ _ => trivial) HB.out HB.out.size (by have h1 := NW.out; have h2 := jl.out; have h3 := HJ.out; have h4 := HN.out; omega) ?_
   intro v1 wk ho hb hg hat
   have q1 := ae.mk (FR.out.trans (Fr.append RV.out hg))
   have q2 := ae.mk (dh lT.out hg (Kd.ER RV.out lT.out (by decide)))
   have q3 := ae.mk (dh cZ.out hg (Kd.ER RV.out cZ.out (by decide)))
   have q4 := ae.mk (dh KW.out hg (Kd.ER RV.out KW.out (by decide)))
   clear FR lT cZ KW HB RV HU
   have FR := q1
   have lT := q2
   have cZ := q3
   have KW := q4
   have HB := ae.mk hb
   have RV := ae.mk ho
   clear q1 q2 q3 q4 hb ho hg hat
   obtain ⟨A1, c1, e1⟩ := Kd.gQ RV.out
   subst e1
   refine hK.out _ _ ⟨HB.out, lT.out, KW.out⟩ (fun hHeld => ?_)
   clear hK K
   refine eF 27 ?_
   refine au 7 28 (bA 10 255) aj ?_
   refine au 8 29 (bA 10 511) aj ?_
   refine oH 9 none (bA 10 1023) aj (fun K hK => ?_)
   obtain ⟨w9, Dl⟩ : ∃ w9, w9 = wk.setCells gw 1 [.slice A1 (ls ++ us).length c1] := ⟨_, rfl⟩
   have hst := pY (j := 1) (cs' := #[.int .i64 (wrap64 (n + 1)), .slice A1 (ls ++ us).length c1]) (bJ := [.slice A1 (ls ++ us).length c1]) KW.out (by first | decide | simp) rfl
   rw [← Dl] at hst
   refine Gy (w1 := w9) (by rfl) rfl ?_ ?_
   ·rw [Dl]; exact BP 42 (.tmp 29) (.tmp 27) rfl (cs := #[.int .i64 (wrap64 (n + 1)), .slice Av ls.length cv]) (t0 := 182) (bJ := [.slice A1 (ls ++ us).length c1]) rfl rfl rfl (by kernel_rfl) (by simp [Value.oneCell']) KW.out (by first | decide | simp)
   have JW := ae.mk (grown_below HB.out hst.2 NU.out HB.out.size)
   have RV9 := ae.mk (Kd.EP RV.out rfl hst.2 (fun k_ hk => hk ▸ Kd.ER RV.out KW.out (by decide)))
   have FR9 := ae.mk (FR.out.trans (Fr.store hst.2))
   have K29 := ae.mk (dh lT.out hst.2 (fun e_ => absurd (Option.some.inj e_) WG.out))
   have K39 := ae.mk (dh cZ.out hst.2 (fun e_ => absurd (Option.some.inj e_) NE3.out))
   have KW9 := ae.mk hst.1
   clear hst
   refine hK.out _ _ ?_
   clear hK K Dl
   refine ji (fP aj.out (by kernel_rfl)) ?_
   have c6 := (af K39.out 6).trans rfl
   cases p
   all_goals
    go_wp2_with fail
    refine (Po.out b2 (j + us.length) _ WG.out K29.out ⟨JW.out, _, _, _, KW9.out, RV9.out, by have := NW.out; rw [List.length_append]; omega⟩ (by have := jl.out; omega)).mono ?_
    rintro e w2 ⟨rfl, hi, hf⟩
    have HI := ae.mk hi
    have HF := ae.mk (FR9.out.trans hf)
    clear hi hf
    go_wp2
    go_ret
    exact ⟨rfl, HI.out, HF.out⟩
theorem ac0 : (Try.prog.info? 9).map (fun i => (i.zero, i.size, i.bytes)) = some (some (.string ⟨#[]⟩), 1, 16) := by kernel_rfl
theorem TI (e at_ : Int) (he : e ≠ 0) (w : World) : Calls Try.prog 196 #[.int .i64 e, .int .i64 at_] w fun x w' => (∃ t v, x = .returned (.iface t v)) ∧ Below w.heap.size w w' := by
 have hb : (e == 0) = false := beq_eq_false_iff_ne.mpr he
 clear he
 go_enter Try.func196, Try.ntmps196
 go_wp2
 go_ret
 exact ⟨⟨_, _, rfl⟩, jd (Below.refl _ _) _⟩
theorem UX (ad : Addr) (c0 : Nat) (l0 : List ByteArray) (hl : l0.length ≤ 1000) (w : World) (hr0 : Kd.C Kd.string w (some ad) l0.length l0) (hc0 : l0.length ≤ c0) :
  Calls Try.prog 205 #[.slice (some ad) l0.length c0] w fun e w' => ∃ A n c, e = .returned (.slice A n c) ∧ Below w.heap.size w w' := by
 have heq : ∀ W : World, (binOp .eql 190 (.slice (some ad) l0.length c0) (.slice none 0 0)).run Try.prog W = .ok (.bool false) W := fun W => Lib.run_eql_slice_nil W 190 9 (some ad) l0.length c0 0 0 Try.underlying190
 have HR := ae.mk hr0
 have HL := ae.mk hl
 clear hl hr0
 go_enter Try.func205, Try.ntmps205
 go_wp2_with (first | ((with_reducible refine aA (N := 5) rfl ?_); refine Kd.vC Kd.string w.heap.size 9 ?hg (N := 5) ?hd (xs := ([] : List ByteArray)) (inner := []) (ok := fun _ => True) (fE := fun _ => True) ?hr ?hp (fun _ hk => hk) trivial (Below.refl _ _) (Nat.le_refl _) (by simp) ?_; (case hd => rfl); (case hg => rfl); (case hr => (go_simp; done)); (case hp => exact bV.none _ _); intro v5 w5 ho hb nD jc; clear nD jc; have HO := ae.mk ho; have HB := ae.mk hb; clear ho hb; obtain ⟨Ao, co, eo⟩ := Kd.gQ HO.out; subst eo) | ((with_reducible refine vT (b := .append) (xs := #[.tmp 5, .tmp 6]) rfl ?_); at_builtin; refine Kd.xO (Rr := Kd.string.K w) Kd.string (w0 := w) w.heap.size rfl (.tmp 5) (.tmp 6) 190 9 (.string ⟨#[]⟩) 16 rfl Try.underlying190 ac0 rfl (by decide) (by omega) (.slice Ao ([] : List ByteArray).length co) ([] : List ByteArray) l0 _ _ _ (fun _ => True) (fun _ => False) rfl rfl HO.out ?aR (fun _ _ h => h) (fun _ h => h.elim) (fun _ _ => trivial) HB.out HB.out.size ?aL ?_; (case aR => exact Kd.fK HR.out HB.out); (case aL => have := HL.out; simp; omega); intro v7 w7 ho hb nD agp; have HO7 := ae.mk ho; have HB7 := ae.mk hb; clear ho hb nD agp))
 obtain ⟨A7, c7, e7⟩ := Kd.gQ HO7.out
 subst e7
 go_ret
 exact ⟨_, _, _, rfl, HB7.out⟩
theorem Xb (tv : TypeId) (v : Value) (ad : Addr) (c0 : Nat) (x : ByteArray) (w : World) (hr0 : Kd.C Kd.string w (some ad) 1 [x]) (hc0 : 1 ≤ c0) :
  Calls Try.prog 195 #[.iface tv v, .slice (some ad) 1 c0] w fun e w' => (∃ t u, e = .returned (.iface t u)) ∧ Below w.heap.size w w' := by
 have HCl := ae.mk (UX ad c0 [x] (by simp) w hr0 hc0)
 clear hr0
 go_enter Try.func195, Try.ntmps195
 go_wp2_with fail
 refine HCl.out.mono ?_
 rintro e w' ⟨A, n, c, rfl, hb⟩
 have HB := ae.mk hb
 clear hb
 go_wp2
 go_ret
 exact ⟨⟨_, _, rfl⟩, jd HB.out _⟩
theorem Nr {x : ByteArray} {w : World} {A : Option Addr} (h : Kd.C Kd.string w A 1 [x]) : ∃ ad, A = some ad := by
 obtain ⟨ad, h1, _⟩ := h.2.2 (by omega)
 exact ⟨ad, h1⟩
theorem UU (c : ai) (hz : sz c ≤ 1048576) (A : Option Addr) (cc : Nat) (w : World) (hr : Kd.C k26 w A c.f3.length c.f3) (hc : c.f3.length ≤ cc) :
  Calls Try.prog 180 #[.agg #[.int .u8 c.f0, .int .i64 c.f1.f0, .int .i64 c.f1.f1, .int .i64 c.f1.f2, .int .i64 c.f1.f3, .int .i64 c.f2, .slice A c.f3.length cc]] w fun e w' => (if bZ c = true then e = .returned .nilIface else ∃ t u, e = .returned (.iface t u)) ∧ Below w.heap.size w w' := by
 have hM : rU.f [c] = some (kP c) := by
  unfold rU.f
  rw [if_pos (by simp [hz])]
  simp
 have hW : kP c = true → ∀ (gw : Nat) (W : World), w.heap.size ≤ gw → o6 w gw 0 W → Calls Try.prog 197 #[.pointer (some ⟨gw, 0, none⟩), .agg #[.int .u8 c.f0, .int .i64 c.f1.f0, .int .i64 c.f1.f1, .int .i64 c.f1.f2, .int .i64 c.f1.f3, .int .i64 c.f2, .slice A c.f3.length cc]] W fun e w' => e = .returned (.bool (kD c)) ∧ o6 w gw (0 + dO c.f3) w' ∧ Fr gw W w' := fun hm gw W hg hI => Z9 w gw hg (sz c) c (Nat.le_refl _) (mW hm) A cc hr hc 0 W (by have := mW hm; have := df c; omega) hI
 unfold bZ
 have HR := ae.mk hr
 have HC := ae.mk hc
 have HM := ae.mk hM
 have HW := ae.mk hW
 have HB := ae.mk (Below.refl w.heap.size w)
 clear hr hc hM hW hz
 obtain ⟨ck, ⟨cx, cy, cw, ch⟩, aK, l⟩ := c
 simp only [] at HR HC HW ⊢
 generalize kD ⟨ck, ⟨cx, cy, cw, ch⟩, aK, l⟩ = q at HW ⊢
 cases hm : kP (⟨ck, ⟨cx, cy, cw, ch⟩, aK, l⟩ : ai) with
 | false =>
  rw [hm] at HM
  have HM := HM
  simp only [Bool.false_and, Bool.false_eq_true, if_false]
  clear hm HW
  go_enter Try.func180, Try.ntmps180
  go_wp2_with (first
   | ((with_reducible refine aA (N := 1) rfl ?_); refine aQ ?hg (N := 1) ?hd (cs := #[.int .u8 ck, .int .i64 cx, .int .i64 cy, .int .i64 cw, .int .i64 ch, .int .i64 aK, .slice A l.length cc]) (t := 26) ?hr ?_; (case hd => rfl); (case hg => rfl); (case hr => first | (go_simp; done) | (go_simp; rfl)); intro b1 hg Xt hbox hb; have dM := ae.mk hbox; have di := ae.mk (ak HB.out hb); clear HB; have HB := di; clear di; clear hb hbox hg)
   | ((with_reducible refine aA (N := 5) rfl ?_); refine aQ ?hg (N := 5) ?hd (cs := #[.int .i64 0, .slice none 0 0]) (t := 182) ?hr ?_; (case hd => rfl); (case hg => rfl); (case hr => first | (go_simp; done) | (go_simp; rfl)); intro gw hg wgw hbox hb; have oZ := ae.mk hbox; have GG := ae.mk (show w.heap.size ≤ gw by rw [hg]; exact HB.out.size); have di := ae.mk (ak HB.out hb); have fQ := ae.mk (aI dM.out hb); clear HB dM; have HB := di; have dM := fQ; clear di fQ; have c0 := (af dM.out 0).trans rfl; have c1 := (af dM.out 1).trans rfl; have c2 := (af dM.out 2).trans rfl; have c3 := (af dM.out 3).trans rfl; have c4 := (af dM.out 4).trans rfl; have c5 := (af dM.out 5).trans rfl; have c6 := (af dM.out 6).trans rfl; clear hb hbox hg)
   | ((with_reducible refine aA (N := 8) rfl ?_); refine Kd.yt k26 _ 26 ?hg (N' := 8) ?hd (xs := [(⟨ck, ⟨cx, cy, cw, ch⟩, aK, l⟩ : ai)]) (inner := [.int .u8 ck, .int .i64 cx, .int .i64 cy, .int .i64 cw, .int .i64 ch, .int .i64 aK, .slice A l.length cc]) (ok := fun _ => True) (fE := fun _ => True) ?hr ?hp (fun _ hk => hk) trivial (Below.refl _ _) (Nat.le_refl _) (by simp) ?_; (case hd => rfl); (case hg => rfl); (case hr => first | (go_simp; done) | (go_simp; rfl)); (case hp => exact (bV.c7 (nS _ _ (⟨ck, ⟨cx, cy, cw, ch⟩, aK, l⟩ : ai) HC.out (Kd.qG (Kd.BU mi (Kd.fK HR.out HB.out)) (fun _ _ => trivial))) (bV.none _ _))); intro vr wr ho hb nD jc; clear nD jc; obtain ⟨Am, cm, er⟩ := Kd.jm ho; subst er; have di := ae.mk (ak HB.out hb); have fQ := ae.mk (aI dM.out hb); have oL := ae.mk (aI oZ.out hb); clear HB dM oZ; have HB := di; have dM := fQ; have oZ := oL; clear di fQ oL; have Hm := ae.mk (Kd.iF ho).2.2; have Lm := ae.mk (Kd.iF ho).2.1; clear ho hb c0 c1 c2 c3 c4 c5 c6)
   | fail)
  refine (rU.calls Am cm [(⟨ck, ⟨cx, cy, cw, ch⟩, aK, l⟩ : ai)] false _ Hm.out Lm.out HM.out).mono ?_
  rintro e w1 ⟨rfl, hb⟩
  have di := ae.mk (ak HB.out hb); have fQ := ae.mk (aI dM.out hb); have oL := ae.mk (aI oZ.out hb); clear HB dM oZ; have HB := di; have dM := fQ; have oZ := oL; clear di fQ oL
  clear hb Hm Lm
  go_wp2_with fail
  refine (TI 1 0 (by decide) _).mono ?_
  rintro e w2 ⟨⟨tv, v, rfl⟩, hb⟩
  have di := ae.mk (ak HB.out hb); clear HB; have HB := di; clear di
  clear hb
  go_wp2_with (first
   | ((with_reducible refine aA (N := 12) rfl ?_); refine Kd.vC Kd.string _ 9 ?hg (N := 12) ?hd (xs := [(⟨#[108, 97, 121, 111, 117, 116]⟩ : ByteArray)]) (inner := [.string (⟨#[108, 97, 121, 111, 117, 116]⟩ : ByteArray)]) (ok := fun _ => True) (fE := fun _ => True) ?hr ?hp (fun _ hk => hk) trivial (Below.refl _ _) (Nat.le_refl _) (by simp) ?_; (case hd => rfl); (case hg => rfl); (case hr => first | (go_simp; done) | (go_simp; rfl)); (case hp => exact (bV.one (show Kd.M Kd.string _ _ _ (⟨#[108, 97, 121, 111, 117, 116]⟩ : ByteArray) [.string (⟨#[108, 97, 121, 111, 117, 116]⟩ : ByteArray)] from rfl) (bV.none _ _))); intro vs wr ho hb nD jc; clear nD jc; obtain ⟨As, cs_, er⟩ := Kd.gQ ho; subst er; have di := ae.mk (ak HB.out hb); clear HB; have HB := di; clear di; have Hs := ae.mk (Kd.dP ho).2.2; have Ls := ae.mk (Kd.dP ho).2.1; clear ho hb)
   | fail)
  obtain ⟨ad, ea⟩ := Nr Hs.out
  subst ea
  refine (Xb tv v ad cs_ _ _ Hs.out Ls.out).mono ?_
  rintro e w3 ⟨⟨tu, u, rfl⟩, hb⟩
  have di := ae.mk (ak HB.out hb); clear HB; have HB := di; clear di
  clear hb Hs Ls
  go_wp2
  go_ret
  exact ⟨⟨_, _, rfl⟩, HB.out⟩
 | true =>
  rw [hm] at HM
  have HW := ae.mk (HW.out hm)
  simp only [Bool.true_and]
  clear hm
  cases q with
  | true =>
   simp only [if_true]
   go_enter Try.func180, Try.ntmps180
   go_wp2_with (first
    | ((with_reducible refine aA (N := 1) rfl ?_); refine aQ ?hg (N := 1) ?hd (cs := #[.int .u8 ck, .int .i64 cx, .int .i64 cy, .int .i64 cw, .int .i64 ch, .int .i64 aK, .slice A l.length cc]) (t := 26) ?hr ?_; (case hd => rfl); (case hg => rfl); (case hr => first | (go_simp; done) | (go_simp; rfl)); intro b1 hg Xt hbox hb; have dM := ae.mk hbox; have di := ae.mk (ak HB.out hb); clear HB; have HB := di; clear di; clear hb hbox hg)
    | ((with_reducible refine aA (N := 5) rfl ?_); refine aQ ?hg (N := 5) ?hd (cs := #[.int .i64 0, .slice none 0 0]) (t := 182) ?hr ?_; (case hd => rfl); (case hg => rfl); (case hr => first | (go_simp; done) | (go_simp; rfl)); intro gw hg wgw hbox hb; have oZ := ae.mk hbox; have GG := ae.mk (show w.heap.size ≤ gw by rw [hg]; exact HB.out.size); have di := ae.mk (ak HB.out hb); have fQ := ae.mk (aI dM.out hb); clear HB dM; have HB := di; have dM := fQ; clear di fQ; have c0 := (af dM.out 0).trans rfl; have c1 := (af dM.out 1).trans rfl; have c2 := (af dM.out 2).trans rfl; have c3 := (af dM.out 3).trans rfl; have c4 := (af dM.out 4).trans rfl; have c5 := (af dM.out 5).trans rfl; have c6 := (af dM.out 6).trans rfl; clear hb hbox hg)
    | ((with_reducible refine aA (N := 8) rfl ?_); refine Kd.yt k26 _ 26 ?hg (N' := 8) ?hd (xs := [(⟨ck, ⟨cx, cy, cw, ch⟩, aK, l⟩ : ai)]) (inner := [.int .u8 ck, .int .i64 cx, .int .i64 cy, .int .i64 cw, .int .i64 ch, .int .i64 aK, .slice A l.length cc]) (ok := fun _ => True) (fE := fun _ => True) ?hr ?hp (fun _ hk => hk) trivial (Below.refl _ _) (Nat.le_refl _) (by simp) ?_; (case hd => rfl); (case hg => rfl); (case hr => first | (go_simp; done) | (go_simp; rfl)); (case hp => exact (bV.c7 (nS _ _ (⟨ck, ⟨cx, cy, cw, ch⟩, aK, l⟩ : ai) HC.out (Kd.qG (Kd.BU mi (Kd.fK HR.out HB.out)) (fun _ _ => trivial))) (bV.none _ _))); intro vr wr ho hb nD jc; clear nD jc; obtain ⟨Am, cm, er⟩ := Kd.jm ho; subst er; have di := ae.mk (ak HB.out hb); have fQ := ae.mk (aI dM.out hb); have oL := ae.mk (aI oZ.out hb); clear HB dM oZ; have HB := di; have dM := fQ; have oZ := oL; clear di fQ oL; have Hm := ae.mk (Kd.iF ho).2.2; have Lm := ae.mk (Kd.iF ho).2.1; clear ho hb c0 c1 c2 c3 c4 c5 c6)
    | fail)
   refine (rU.calls Am cm [(⟨ck, ⟨cx, cy, cw, ch⟩, aK, l⟩ : ai)] true _ Hm.out Lm.out HM.out).mono ?_
   rintro e w1 ⟨rfl, hb⟩
   have di := ae.mk (ak HB.out hb); have fQ := ae.mk (aI dM.out hb); have oL := ae.mk (aI oZ.out hb); clear HB dM oZ; have HB := di; have dM := fQ; have oZ := oL; clear di fQ oL
   clear hb Hm Lm
   have HI := ae.mk (show o6 w gw 0 w1 from ⟨HB.out, 0, .slice none 0 0, [], oZ.out, Kd.uz _ _ _ _ _, Nat.le_refl _⟩)
   have c0 := (af dM.out 0).trans rfl
   have c1 := (af dM.out 1).trans rfl
   have c2 := (af dM.out 2).trans rfl
   have c3 := (af dM.out 3).trans rfl
   have c4 := (af dM.out 4).trans rfl
   have c5 := (af dM.out 5).trans rfl
   have c6 := (af dM.out 6).trans rfl
   go_wp2_with fail
   clear c0 c1 c2 c3 c4 c5 c6
   refine (HW.out gw w1 GG.out HI.out).mono ?_
   rintro e w2 ⟨rfl, ⟨hb2, n, v, ls, hk, _, _⟩, _⟩
   clear HB oZ HI dM
   have HB := ae.mk hb2
   have oZ := ae.mk hk
   clear hb2 hk
   go_wp2
   go_ret
   exact ⟨rfl, HB.out⟩
  | false =>
   simp only [Bool.false_eq_true, if_false]
   go_enter Try.func180, Try.ntmps180
   go_wp2_with (first
    | ((with_reducible refine aA (N := 1) rfl ?_); refine aQ ?hg (N := 1) ?hd (cs := #[.int .u8 ck, .int .i64 cx, .int .i64 cy, .int .i64 cw, .int .i64 ch, .int .i64 aK, .slice A l.length cc]) (t := 26) ?hr ?_; (case hd => rfl); (case hg => rfl); (case hr => first | (go_simp; done) | (go_simp; rfl)); intro b1 hg Xt hbox hb; have dM := ae.mk hbox; have di := ae.mk (ak HB.out hb); clear HB; have HB := di; clear di; clear hb hbox hg)
    | ((with_reducible refine aA (N := 5) rfl ?_); refine aQ ?hg (N := 5) ?hd (cs := #[.int .i64 0, .slice none 0 0]) (t := 182) ?hr ?_; (case hd => rfl); (case hg => rfl); (case hr => first | (go_simp; done) | (go_simp; rfl)); intro gw hg wgw hbox hb; have oZ := ae.mk hbox; have GG := ae.mk (show w.heap.size ≤ gw by rw [hg]; exact HB.out.size); have di := ae.mk (ak HB.out hb); have fQ := ae.mk (aI dM.out hb); clear HB dM; have HB := di; have dM := fQ; clear di fQ; have c0 := (af dM.out 0).trans rfl; have c1 := (af dM.out 1).trans rfl; have c2 := (af dM.out 2).trans rfl; have c3 := (af dM.out 3).trans rfl; have c4 := (af dM.out 4).trans rfl; have c5 := (af dM.out 5).trans rfl; have c6 := (af dM.out 6).trans rfl; clear hb hbox hg)
    | ((with_reducible refine aA (N := 8) rfl ?_); refine Kd.yt k26 _ 26 ?hg (N' := 8) ?hd (xs := [(⟨ck, ⟨cx, cy, cw, ch⟩, aK, l⟩ : ai)]) (inner := [.int .u8 ck, .int .i64 cx, .int .i64 cy, .int .i64 cw, .int .i64 ch, .int .i64 aK, .slice A l.length cc]) (ok := fun _ => True) (fE := fun _ => True) ?hr ?hp (fun _ hk => hk) trivial (Below.refl _ _) (Nat.le_refl _) (by simp) ?_; (case hd => rfl); (case hg => rfl); (case hr => first | (go_simp; done) | (go_simp; rfl)); (case hp => exact (bV.c7 (nS _ _ (⟨ck, ⟨cx, cy, cw, ch⟩, aK, l⟩ : ai) HC.out (Kd.qG (Kd.BU mi (Kd.fK HR.out HB.out)) (fun _ _ => trivial))) (bV.none _ _))); intro vr wr ho hb nD jc; clear nD jc; obtain ⟨Am, cm, er⟩ := Kd.jm ho; subst er; have di := ae.mk (ak HB.out hb); have fQ := ae.mk (aI dM.out hb); have oL := ae.mk (aI oZ.out hb); clear HB dM oZ; have HB := di; have dM := fQ; have oZ := oL; clear di fQ oL; have Hm := ae.mk (Kd.iF ho).2.2; have Lm := ae.mk (Kd.iF ho).2.1; clear ho hb c0 c1 c2 c3 c4 c5 c6)
    | fail)
   refine (rU.calls Am cm [(⟨ck, ⟨cx, cy, cw, ch⟩, aK, l⟩ : ai)] true _ Hm.out Lm.out HM.out).mono ?_
   rintro e w1 ⟨rfl, hb⟩
   have di := ae.mk (ak HB.out hb); have fQ := ae.mk (aI dM.out hb); have oL := ae.mk (aI oZ.out hb); clear HB dM oZ; have HB := di; have dM := fQ; have oZ := oL; clear di fQ oL
   clear hb Hm Lm
   have HI := ae.mk (show o6 w gw 0 w1 from ⟨HB.out, 0, .slice none 0 0, [], oZ.out, Kd.uz _ _ _ _ _, Nat.le_refl _⟩)
   have c0 := (af dM.out 0).trans rfl
   have c1 := (af dM.out 1).trans rfl
   have c2 := (af dM.out 2).trans rfl
   have c3 := (af dM.out 3).trans rfl
   have c4 := (af dM.out 4).trans rfl
   have c5 := (af dM.out 5).trans rfl
   have c6 := (af dM.out 6).trans rfl
   go_wp2_with fail
   clear c0 c1 c2 c3 c4 c5 c6
   refine (HW.out gw w1 GG.out HI.out).mono ?_
   rintro e w2 ⟨rfl, ⟨hb2, n, v, ls, hk, _, _⟩, _⟩
   clear HB oZ HI dM
   have HB := ae.mk hb2
   have oZ := ae.mk hk
   clear hb2 hk
   have c0 := (af oZ.out 0).trans rfl
   have c1 := (af oZ.out 1).trans rfl
   go_wp2_with fail
   clear c0 c1
   refine (TI 5 n (by decide) _).mono ?_
   rintro e w2 ⟨⟨tv, v, rfl⟩, hb⟩
   have di := ae.mk (ak HB.out hb); clear HB; have HB := di; clear di
   clear hb
   go_wp2_with (first
    | ((with_reducible refine aA (N := 24) rfl ?_); refine Kd.vC Kd.string _ 9 ?hg (N := 24) ?hd (xs := [(⟨#[108, 97, 121, 111, 117, 116]⟩ : ByteArray)]) (inner := [.string (⟨#[108, 97, 121, 111, 117, 116]⟩ : ByteArray)]) (ok := fun _ => True) (fE := fun _ => True) ?hr ?hp (fun _ hk => hk) trivial (Below.refl _ _) (Nat.le_refl _) (by simp) ?_; (case hd => rfl); (case hg => rfl); (case hr => first | (go_simp; done) | (go_simp; rfl)); (case hp => exact (bV.one (show Kd.M Kd.string _ _ _ (⟨#[108, 97, 121, 111, 117, 116]⟩ : ByteArray) [.string (⟨#[108, 97, 121, 111, 117, 116]⟩ : ByteArray)] from rfl) (bV.none _ _))); intro vs wr ho hb nD jc; clear nD jc; obtain ⟨As, cs_, er⟩ := Kd.gQ ho; subst er; have di := ae.mk (ak HB.out hb); clear HB; have HB := di; clear di; have Hs := ae.mk (Kd.dP ho).2.2; have Ls := ae.mk (Kd.dP ho).2.1; clear ho hb)
    | fail)
   obtain ⟨ad, ea⟩ := Nr Hs.out
   subst ea
   refine (Xb tv v ad cs_ _ _ Hs.out Ls.out).mono ?_
   rintro e w3 ⟨⟨tu, u, rfl⟩, hb⟩
   have di := ae.mk (ak HB.out hb); clear HB; have HB := di; clear di
   clear hb Hs Ls
   go_wp2
   go_ret
   exact ⟨⟨_, _, rfl⟩, HB.out⟩
theorem abC (x : ai) (hz : sz x ≤ 1048576) (B : Option Addr) (cb : Nat) (W : World) (hr : Kd.C k26 W B x.f3.length x.f3) (hl : x.f3.length ≤ cb) :
  Calls Try.prog 179 #[.agg #[.int .u8 x.f0, .int .i64 x.f1.f0, .int .i64 x.f1.f1, .int .i64 x.f1.f2, .int .i64 x.f1.f3, .int .i64 x.f2, .slice B x.f3.length cb]] W fun e w' => e = .returned (.bool (!bZ x)) ∧ Below W.heap.size W w' := by
 have HC := ae.mk (fun W1 (hb : Below W.heap.size W W1) => UU x hz B cb W1 (Kd.fK hr hb) hl)
 have HB := ae.mk (Below.refl W.heap.size W)
 clear hr hl hz
 cases hq : bZ x
 all_goals
  simp only [hq, if_pos, Bool.false_eq_true, if_false] at HC
  clear hq
  go_enter Try.func179, Try.ntmps179
  go_wp2_with (first
   | ((with_reducible refine aA (N := 1) rfl ?_); refine aQ ?hg (N := 1) ?hd (cs := #[.int .u8 x.f0, .int .i64 x.f1.f0, .int .i64 x.f1.f1, .int .i64 x.f1.f2, .int .i64 x.f1.f3, .int .i64 x.f2, .slice B x.f3.length cb]) (t := 26) ?hr ?_; (case hd => rfl); (case hg => rfl); (case hr => first | (go_simp; done) | (go_simp; rfl)); intro b1 hg Xt hbox hb; have dM := ae.mk hbox; have di := ae.mk (ak HB.out hb); clear HB; have HB := di; clear di; have c0 := (af dM.out 0).trans rfl; have c1 := (af dM.out 1).trans rfl; have c2 := (af dM.out 2).trans rfl; have c3 := (af dM.out 3).trans rfl; have c4 := (af dM.out 4).trans rfl; have c5 := (af dM.out 5).trans rfl; have c6 := (af dM.out 6).trans rfl; clear hb hbox hg)
   | fail)
  clear c0 c1 c2 c3 c4 c5 c6
 ·refine (HC.out _ HB.out).mono ?_
  rintro e w2 ⟨⟨t, u, rfl⟩, hb⟩
  have di := ae.mk (ak HB.out hb); clear HB; have HB := di; clear di
  clear hb
  go_wp2
  go_ret
  exact ⟨rfl, HB.out⟩
 ·refine (HC.out _ HB.out).mono ?_
  rintro e w2 ⟨rfl, hb⟩
  have di := ae.mk (ak HB.out hb); clear HB; have HB := di; clear di
  clear hb
  go_wp2
  go_ret
  exact ⟨rfl, HB.out⟩
theorem Nv (l : List ai) (hz : ∀ x, x ∈ l → sz x ≤ 1048576) (A : Option Addr) (c : Nat) (w : World) (hr : Kd.C k26 w A l.length l) (hc : l.length ≤ c) :
  Calls Try.prog 148 #[.slice A l.length c] w fun e w' => e = .returned (.bool (l.all bZ)) ∧ Below w.heap.size w w' := by
 have hq := N_ (fun _ W => Below w.heap.size w W) (fun x => !bZ x) 179 #[] (p_ Try.func179 (by decide +kernel) (by kernel_rfl)) l A c w hr (fun _ _ h => h) (fun _ W n h => ak h (eH (Below.refl _ _) n))
  (fun x rest W B cb hx _ hI hC hlx => by
   refine (abC x (hz x hx) B cb W (Kd.fK hC hI) hlx).mono ?_
   rintro e w' ⟨he, hb⟩
   exact ⟨he, ak hI hb⟩) w (Below.refl _ _) hr.2.1
 have HQ := ae.mk hq
 rw [List.all_eq_not_any_not]
 clear hq hr hc hz
 generalize l.any (fun x => !bZ x) = r at HQ ⊢
 cases r
 all_goals
  go_enter Try.func148, Try.ntmps148
  go_wp2_with fail
  refine HQ.out.mono ?_
  rintro e w2 ⟨rfl, hb⟩
  have HB := ae.mk hb
  clear hb
  go_wp2
  go_ret
  exact ⟨rfl, HB.out⟩
noncomputable def kW.f (l0 : List ai) : Option Bool := if l0.all (fun c => decide (sz c ≤ 1048576)) = true then some (l0.all bZ) else none
theorem kW.calls (A0 : Option Addr) (c0 : Nat) (l0 : List ai) (r : Bool) (w : World) (hr0 : Kd.C k26 w A0 l0.length l0) (hc0 : l0.length ≤ c0) (h : kW.f l0 = some r) :
  Calls Try.prog 148 #[.slice A0 l0.length c0] w fun e w' => e = .returned (.bool r) ∧ Below w.heap.size w w' := by
 unfold kW.f at h
 split at h
 ·rename_i hz
  injection h with h
  subst h
  exact Nv l0 (fun x hx => of_decide_eq_true (List.all_eq_true.1 hz x hx)) A0 c0 w hr0 hc0
 ·exact absurd h (by simp)
end Go.Proofs.Ytfdmfgaiblfbhaa.P
