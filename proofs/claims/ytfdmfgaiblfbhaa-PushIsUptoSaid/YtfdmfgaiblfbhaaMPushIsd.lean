/- PushIs: part 4 of 7 of this claim's texts, one behind the other, made small by a program: the words of the kit's printer cut down to those that are used, the claim's own names made short. -/
import Derived.Test.YtfdmfgaiblfbhaaMPushIsc
set_option maxHeartbeats 8000000
set_option maxRecDepth 100000
set_option linter.unusedVariables false
set_option linter.unusedSimpArgs false
namespace Go.Proofs.Ytfdmfgaiblfbhaa.P
open Go.RowKit Go.Proofs.ag.aV Go.Proofs.ag.bP Go.Proofs.ag.cO
def p_ (left : Int) (p : Int × Int) : Int × (Int × Int) := if left > 0 then (left - 1, (p.1, p.2 + 1)) else if left < 0 ∧ p.1 + p.2 > 0 then (left + 1, (p.1, p.2 - 1)) else (left, p)
def jQ : Int → List (Int × Int) → Int × List (Int × Int)
 | l, [] => (l, [])
 | l, p :: ps => ((jQ (p_ l p).1 ps).1, (p_ l p).2 :: (jQ (p_ l p).1 ps).2)
def mi : Nat → Int → List (Int × Int) → Option (List Int × Bool)
 | 0, _, _ => none
 | k + 1, l, ps => if l = 0 then some (ps.map Prod.snd, true) else if (jQ l ps).1 = l then some ([], false) else mi k (jQ l ps).1 (jQ l ps).2
def nS.f (k : Nat) (a0 : Int) (l1 : List Int) : Option (List Int × Bool) :=
 if -100000 ≤ a0 ∧ a0 ≤ 100000 ∧ l1.length ≤ 100000 then
  if l1 = [] then some ([], false)
  else if ∀ g, g ∈ l1 → 0 ≤ g ∧ g ≤ 2147483647 then mi k a0 (l1.map fun g => (g, 0)) else some ([], false)
 else none
def RB (l : Int) (ps : List (Int × Int)) : Prop := ∀ p, p ∈ ps → 0 ≤ p.1 ∧ p.1 ≤ 2147483647 ∧ p.2 + l ≤ 100000 ∧ p.2 - l ≤ 100000 ∧ -100000 ≤ p.2 + l ∧ -100000 ≤ p.2 - l
theorem Cc (l : Int) (p : Int × Int) : (¬ 0 < l ∧ ¬ (l < 0 ∧ 0 < p.1 + p.2) ∧ p_ l p = (l, p)) ∨ (0 < l ∧ (p_ l p) = (l - 1, (p.1, p.2 + 1))) ∨ (l < 0 ∧ 0 < p.1 + p.2 ∧ (p_ l p) = (l + 1, (p.1, p.2 - 1))) := by
 unfold p_
 split
 ·rename_i h; exact .inr (.inl ⟨h, rfl⟩)
 ·rename_i h0
  split
  ·rename_i h; exact .inr (.inr ⟨h.1, h.2, rfl⟩)
  ·rename_i h; exact .inl ⟨h0, h, rfl⟩
theorem WQ {α : Type} (f : α → Int) (pre : List α) (p : α) (rest : List α) : rd ((pre ++ p :: rest).map f) (pre.length : Int) = f p := by
 simp [rd, List.getD_eq_getElem?_getD]
theorem set_mid {α β : Type} (f : α → β) (pre : List α) (p : α) (rest : List α) (q : α) : ((pre ++ p :: rest).map f).set pre.length (f q) = ((pre ++ [q]) ++ rest).map f := by
 simp
theorem Bd {M M' L : Int} {p p' : Int × Int} {pre rest ps : List (Int × Int)} {l1 : List Int} (e : p_ M p = (M', p')) (HF : (pre ++ p :: rest).map Prod.fst = l1) (HB : RB M (pre ++ p :: rest)) (HD : -100000 ≤ M ∧ M ≤ 100000)
  (HE : (jQ L ps).1 = (jQ M (p :: rest)).1 ∧ (jQ L ps).2 = pre ++ (jQ M (p :: rest)).2) :
  ((pre ++ [p']) ++ rest).map Prod.fst = l1 ∧ RB M' ((pre ++ [p']) ++ rest) ∧ (-100000 ≤ M' ∧ M' ≤ 100000) ∧ ((jQ L ps).1 = (jQ M' rest).1 ∧ (jQ L ps).2 = (pre ++ [p']) ++ (jQ M' rest).2) := by
 have hp : p'.1 = p.1 := by
  rcases Cc M p with ⟨_, _, h⟩ | ⟨_, h⟩ | ⟨_, _, h⟩ <;> rw [e] at h <;> injection h with h1 h2 <;> rw [h2]
 have hb := HB p (by simp)
 refine ⟨?_, ?_, ?_, ?_, ?_⟩
 ·rw [← HF]; simp [hp]
 ·have key : ∀ q, q ∈ pre ++ p :: rest → 0 ≤ q.1 ∧ q.1 ≤ 2147483647 ∧ q.2 + M' ≤ 100000 ∧ q.2 - M' ≤ 100000 ∧ -100000 ≤ q.2 + M' ∧ -100000 ≤ q.2 - M' := fun q hq => by
   have h := HB q hq
   rcases Cc M p with ⟨_, _, h'⟩ | ⟨_, h'⟩ | ⟨_, _, h'⟩ <;> rw [e] at h' <;> injection h' with h1 h2 <;> omega
  intro q hq
  simp only [List.append_assoc, List.mem_append, List.mem_cons, List.not_mem_nil, or_false] at hq
  rcases hq with hq | rfl | hq
  ·exact key q (by simp [hq])
  ·rcases Cc M p with ⟨_, _, h'⟩ | ⟨_, h'⟩ | ⟨_, _, h'⟩ <;> rw [e] at h' <;> injection h' with h1 h2 <;> subst h1 h2 <;> (try simp only) <;> omega
  ·exact key q (by simp [hq])
 ·rcases Cc M p with ⟨_, _, h'⟩ | ⟨_, h'⟩ | ⟨_, _, h'⟩ <;> rw [e] at h' <;> injection h' with h1 h2 <;> omega
 ·rw [HE.1]; simp only [jQ, e]
 ·rw [HE.2]; simp only [jQ, e, List.append_assoc, List.cons_append, List.nil_append]
theorem nS.calls (k : Nat) (a0 : Int) (A1 : Option Addr) (c1 : Nat) (l1 : List Int) (r1 : List Int) (r2 : Bool) (w : World) (hr1 : Kd.C (Kd.int .i64) w A1 l1.length l1) (hc1 : l1.length ≤ c1) (h : nS.f k a0 l1 = some (r1, r2)) :
  Calls Try.prog 50 #[.int .i64 a0, .slice A1 l1.length c1] w fun e w' => ∃ vk : Value, e = .returned (.tuple #[vk, .bool r2]) ∧ Kd.R (Kd.int .i64) 3 w' w.heap.size (fun _ => True) vk r1 ∧ Below w.heap.size w w' := by
 unfold nS.f at h
 split at h
 ·rename_i hd
  obtain ⟨hd1, hd2, hd3⟩ := hd
  have hmk := JD (P := Try.prog) 41 3 .i64 8 Try.underlying41 info3 (by decide) l1.length (by omega)
  have hs := P_ w w.heap.size 3 .i64 l1.length (Nat.le_refl _) (by omega)
  have HS := ae.mk hs
  have HR := ae.mk hr1
  clear hs hr1 hc1
  split at h
  ·rename_i he
   injection h with h
   injection h with h1 h2
   subst h1 h2
   have hn0 : ((l1.length : Int) == 0) = true := by simp [he]
   have HE := ae.mk he
   clear he
   go_enter Try.func50, Try.ntmps50
   go_wp2
   go_ret2
   refine ⟨_, rfl, Kd.uB (enc := Value.int .i64) (h1 := fun _ => rfl) ?_ (fun _ _ => trivial), gV (Below.refl _ _) _⟩
   have h := HS.out
   rw [HE.out] at h ⊢
   exact h
  ·rename_i hne
   have hpos : 0 < l1.length := List.length_pos_iff.2 hne
   have hn0 : ((l1.length : Int) == 0) = false := by simp; omega
   have H := ae.mk h
   clear h
   go_enter Try.func50, Try.ntmps50
   go_wp2
   clear hmk hne hn0
   have HR2 := ae.mk (Kd.iE HR.out (gV (Below.refl w.heap.size w) (Obj.cells (madeCells #[Value.int IntKind.i64 0] l1.length) 3)))
   go_loop [21] (fun v21 => ∃ i : Nat, i ≤ l1.length ∧ v21 = .int .i64 i ∧ ae (∀ j, j < i → 0 ≤ rd l1 (j : Int) ∧ rd l1 (j : Int) ≤ 2147483647)) (fun v21 => l1.length - (intOf v21).toNat)
   case atStart => exact ⟨0, by omega, rfl, ⟨fun j hj => absurd hj (by omega)⟩⟩
   case round =>
    obtain ⟨i, hi, rfl, HI⟩ := hrel
    by_cases hlt : i < l1.length
    ·have hlt' : (i : Int) < (l1.length : Int) := by omega
     obtain ⟨ad, rfl, hc⟩ := Kd.jl HR2.out (i : Int) (by omega) (by omega)
     simp only [Int.toNat_natCast] at hc
     have hmem : rd l1 (i : Int) ∈ l1 := by
      simp only [rd, Int.toNat_natCast, List.getD_eq_getElem?_getD, List.getElem?_eq_getElem hlt, Option.getD_some]
      exact List.getElem_mem hlt
     generalize hx : rd l1 (i : Int) = x at hc hmem
     by_cases hx0 : x < 0 ∨ 2147483647 < x
     ·have hbad : ¬ ∀ g, g ∈ l1 → 0 ≤ g ∧ g ≤ 2147483647 := fun hall => by have := hall x hmem; omega
      have h := H.out
      rw [if_neg hbad] at h
      injection h with h
      injection h with h1 h2
      subst h1 h2
      clear hbad hmem
      by_cases hx1 : x < 0
      all_goals
       go_wp2
       go_ret2
       have ho := RN (w.alloc (Obj.cells (madeCells #[Value.int IntKind.i64 0] l1.length) 3)) w.heap.size 3 .i64 [] (by simp) (by simp)
       simp only [World.size_alloc, nums, List.map_nil] at ho
       exact ⟨_, rfl, Kd.uB (enc := Value.int .i64) (h1 := fun _ => rfl) ho (fun _ _ => trivial), gV (gV (Below.refl _ _) _) _⟩
     ·have hx1 : 0 ≤ x := by omega
      have hx2 : x ≤ 2147483647 := by omega
      clear hx0 hmem
      have HX := ae.mk hx
      clear hx
      go_wp2
      go_round
      case rel =>
       refine ⟨i + 1, by omega, by go_num, ⟨fun j hj => ?_⟩⟩
       by_cases e : j = i
       ·subst e; rw [HX.out]; exact ⟨hx1, hx2⟩
       ·exact HI.out j (by omega)
      case measure => simp [intOf]; omega
    ·obtain rfl : i = l1.length := by omega
     have hall : ∀ g, g ∈ l1 → 0 ≤ g ∧ g ≤ 2147483647 := fun g hg => by
      obtain ⟨j, hj, rfl⟩ := List.getElem_of_mem hg
      have := HI.out j hj
      simp only [rd, Int.toNat_natCast, List.getD_eq_getElem?_getD, List.getElem?_eq_getElem hj, Option.getD_some] at this
      exact this
     have h := H.out
     rw [if_pos hall] at h
     have HA := ae.mk hall
     have HL := ae.mk h
     clear HI hall h H
     go_wp2
     clear HR2
     go_loopg [7] k (fun gk v7 wr => ∃ (L : Int) (ps : List (Int × Int)), v7 = .int .i64 L ∧ ae (mi gk L ps = some (r1, r2)) ∧ ae (ps.map Prod.fst = l1) ∧ ae (RB L ps) ∧ ae (-100000 ≤ L ∧ L ≤ 100000) ∧ ae (wr.ownsRow w.heap.size 3 1 (.slice (some ⟨w.heap.size, 0, none⟩) l1.length l1.length) l1.length (nums .i64 (ps.map Prod.snd))) ∧ ae (Below w.heap.size w wr))
     case atStart =>
      refine ⟨a0, l1.map fun g => (g, 0), rfl, HL, ⟨by simp [List.map_map, Function.comp_def]⟩, ⟨?_⟩, ⟨hd1, hd2⟩, ⟨?_⟩, ⟨gV (Below.refl _ _) _⟩⟩
      ·intro p hp
       obtain ⟨g, hg, rfl⟩ := List.mem_map.1 hp
       have := HA.out g hg
       simp only
       omega
      ·have h := HS.out
       rw [show (l1.map fun g => (g, (0 : Int))).map Prod.snd = List.replicate l1.length 0 by simp [List.map_map, Function.comp_def, List.map_const']]
       exact h
     case round =>
      clear HL HA HS
      obtain ⟨L, ps, rfl, HL, HF, HB, HD, HO, zX⟩ := hrel
      cases gk with
      | zero => exact absurd HL.out (by simp [mi])
      | succ kk =>
       have h := HL.out
       clear HL
       simp only [mi] at h
       by_cases hL : L = 0
       ·rw [if_pos hL] at h
        injection h with h
        injection h with h1 h2
        subst h1 h2 hL
        go_wp2
        go_ret2
        refine ⟨_, rfl, Kd.uB (enc := Value.int .i64) (h1 := fun _ => rfl) ?_ (fun _ _ => trivial), zX.out⟩
        have e : ps.length = l1.length := by rw [← HF.out]; simp
        rw [List.length_map, e]
        exact HO.out
       ·rw [if_neg hL] at h
        have H2 := ae.mk h
        clear h
        have hne0 : (L != 0) = true := by simpa using hL
        have hne1 : (L == 0) = false := by simpa using hL
        clear hL
        go_wp2
        clear hne0
        obtain ⟨wo, rfl⟩ : ∃ wo : World, wo = wr := ⟨_, rfl⟩
        go_loopg [7, 50] l1.length (fun g v7 v50 w2 => ∃ (M : Int) (pre rest : List (Int × Int)), v7 = .int .i64 M ∧ v50 = .int .i64 (pre.length : Nat) ∧ ae (rest.length ≤ g) ∧ ae ((pre ++ rest).map Prod.fst = l1) ∧ ae (RB M (pre ++ rest)) ∧ ae (-100000 ≤ M ∧ M ≤ 100000) ∧ ae ((jQ L ps).1 = (jQ M rest).1 ∧ (jQ L ps).2 = pre ++ (jQ M rest).2) ∧ ae (w2.ownsRow w.heap.size 3 1 (.slice (some ⟨w.heap.size, 0, none⟩) l1.length l1.length) l1.length (nums .i64 ((pre ++ rest).map Prod.snd))) ∧ ae (Below w.heap.size w w2))
        case atStart =>
         refine ⟨L, [], ps, rfl, rfl, ⟨?_⟩, HF, HB, HD, ⟨rfl, rfl⟩, HO, zX⟩
         have : ps.length = l1.length := by rw [← HF.out]; simp
         omega
        case round =>
         clear HO zX HB HD HF
         obtain ⟨M, pre, rest, rfl, rfl, HG, HF, HB, HD, HE, HO, zX⟩ := hrel
         cases rest with
         | nil =>
          have hlen : pre.length = l1.length := by rw [← HF.out]; simp
          have hnl : ¬ (pre.length : Int) < (l1.length : Int) := by omega
          clear hlen
          simp only [List.append_nil, jQ] at HF HB HE HO
          by_cases Q7 : M = L
          ·have aiQ : (M == L) = true := by simpa using Q7
           have h := H2.out
           rw [if_pos (by rw [HE.out.1]; exact Q7)] at h
           injection h with h
           injection h with h1 h2
           subst h1 h2
           clear Q7
           go_wp2
           go_ret2
           have ho := RN wr w.heap.size 3 .i64 [] zX.out.size (by simp)
           simp only [nums, List.map_nil] at ho
           exact ⟨_, rfl, Kd.uB (enc := Value.int .i64) (h1 := fun _ => rfl) ho (fun _ _ => trivial), gV zX.out _⟩
          ·have aiQ : (M == L) = false := by simpa using Q7
           have h := H2.out
           rw [if_neg (by rw [HE.out.1]; exact Q7), HE.out.1, HE.out.2] at h
           have H3 := ae.mk h
           clear h Q7 H2
           go_wp2
           go_roundg kk
           case measure => omega
           case rel => exact ⟨M, pre, rfl, H3, HF, HB, HD, HO, zX⟩
         | cons p rest =>
          have hlen : pre.length + (rest.length + 1) = l1.length := by rw [← HF.out]; simp
          have hlt : (pre.length : Int) < (l1.length : Int) := by omega
          have HR2 := Kd.iE HR.out zX.out
          obtain ⟨ad, rfl, hc⟩ := Kd.jl HR2 (pre.length : Int) (by omega) (by omega)
          simp only [Int.toNat_natCast] at hc
          rw [show rd l1 (pre.length : Int) = p.1 by rw [← HF.out]; exact WQ Prod.fst pre p rest] at hc
          obtain ⟨hc2, hf2⟩ := WG HO.out (pre.length : Int) (by omega) (by omega)
          simp only [Int.toNat_natCast] at hc2 hf2
          rw [show rd ((pre ++ p :: rest).map Prod.snd) (pre.length : Int) = p.2 from WQ Prod.snd pre p rest] at hc2
          have hpb := HB.out p (by simp)
          obtain ⟨b1, b2, b3, b4, b5, b6⟩ := hpb
          clear HR2 hlen
          obtain ⟨d1, d2⟩ := HD.out
          have s1 := fun x => (CS HO.out (pre.length : Int) x).1
          simp only [Int.toNat_natCast] at s1
          have S1 := ae.mk s1
          clear s1
          rcases Cc M p with ⟨h1, h2, e⟩ | ⟨hM, e⟩ | ⟨hM, hg, e⟩
          ·have HE2 := ae.mk e
           clear e
           by_cases h3 : M < 0
           ·have hs : ¬ 0 < p.1 + p.2 := fun hh => h2 ⟨h3, hh⟩
            clear h2
            go_wp2
            go_quiet (fail)
            go_wp2
            go_roundg rest.length
            case measure => have := HG.out; simp at this; omega
            case rel =>
             obtain ⟨n1, n2, n3, n4⟩ := Bd HE2.out HF.out HB.out HD.out HE.out
             exact ⟨M, pre ++ [p], rest, rfl, by simp, ⟨by omega⟩, ⟨n1⟩, ⟨n2⟩, ⟨n3⟩, ⟨n4⟩, ⟨by rw [List.append_assoc]; exact HO.out⟩, ⟨eP zX.out _⟩⟩
           ·clear h2
            have h4 : decide (M < 0) = false := by simp; omega
            go_wp2
            go_quiet (fail)
            go_wp2
            go_roundg rest.length
            case measure => have := HG.out; simp at this; omega
            case rel =>
             obtain ⟨n1, n2, n3, n4⟩ := Bd HE2.out HF.out HB.out HD.out HE.out
             exact ⟨M, pre ++ [p], rest, rfl, by simp, ⟨by omega⟩, ⟨n1⟩, ⟨n2⟩, ⟨n3⟩, ⟨n4⟩, ⟨by rw [List.append_assoc]; exact HO.out⟩, ⟨eP zX.out _⟩⟩
          ·have HE2 := ae.mk e
           clear e
           have hz2 : decide (M - 1 < 0) = false := by simp; omega
           go_wp2
           go_quiet (fail)
           go_wp2
           go_roundg rest.length
           case measure => have := HG.out; simp at this; omega
           case rel =>
            obtain ⟨n1, n2, n3, n4⟩ := Bd HE2.out HF.out HB.out HD.out HE.out
            exact ⟨M - 1, pre ++ [(p.1, p.2 + 1)], rest, rfl, by simp, ⟨by omega⟩, ⟨n1⟩, ⟨n2⟩, ⟨n3⟩, ⟨n4⟩, ⟨by rw [← set_mid Prod.snd pre p rest (p.1, p.2 + 1)]; exact S1.out (p.2 + 1)⟩, ⟨eP (nZ zX.out (Nat.le_refl _)) _⟩⟩
          ·have HE2 := ae.mk e
           clear e
           go_wp2
           go_quiet (fail)
           go_wp2
           go_roundg rest.length
           case measure => have := HG.out; simp at this; omega
           case rel =>
            obtain ⟨n1, n2, n3, n4⟩ := Bd HE2.out HF.out HB.out HD.out HE.out
            exact ⟨M + 1, pre ++ [(p.1, p.2 - 1)], rest, rfl, by simp, ⟨by omega⟩, ⟨n1⟩, ⟨n2⟩, ⟨n3⟩, ⟨n4⟩, ⟨by rw [← set_mid Prod.snd pre p rest (p.1, p.2 - 1)]; exact S1.out (p.2 - 1)⟩, ⟨nZ (eP zX.out _) (Nat.le_refl _)⟩⟩
 ·exact absurd h (by simp)
theorem wp {x : Int} (h0 : -9223372036854775808 ≤ x) (h1 : x ≤ 9223372036854775807) : wrap64 x = x := by unfold wrap64; omega
def lh (m : Int) : Int → List (Int × Int) → Int × List (Int × Int)
 | b, [] => (b, [])
 | b, p :: ps => if p.1 + p.2 > 0 then (if b > 0 then ((lh m (b - mn m b) ps).1, (p.1, p.2 - mn m b) :: (lh m (b - mn m b) ps).2) else ((lh m b ps).1, p :: (lh m b ps).2)) else ((lh m b ps).1, p :: (lh m b ps).2)
def able : List (Int × Int) → Int
 | [] => 0
 | p :: ps => (if p.1 + p.2 > 0 then 1 else 0) + able ps
def lst : Int → List (Int × Int) → Int
 | m, [] => m
 | m, p :: ps => lst (if p.1 + p.2 > 0 then mn m (p.1 + p.2) else m) ps
def sD : List (Int × Int) → Int
 | [] => 0
 | p :: ps => (p.1 + p.2) + sD ps
def outs : List (Int × Int) → Int
 | [] => 0
 | p :: ps => p.2 + outs ps
def Good (ps : List (Int × Int)) : Prop := ∀ p, p ∈ ps → 0 ≤ p.1 ∧ p.1 ≤ 2147483647 ∧ -p.1 ≤ p.2 ∧ p.2 ≤ 0
def oK (m : Int) (ps : List (Int × Int)) : List (Int × Int) := ps.map fun p => (p.1, p.2 - if p.1 + p.2 > 0 then m else 0)
def Gq (ps : List (Int × Int)) : Prop := ∀ p, p ∈ ps → ∀ q, q ∈ ps → p.2 > q.2 → p.1 + p.2 = 0
def Nv (ps : List (Int × Int)) : Prop := ∀ p, p ∈ ps → ∀ q, q ∈ ps → p.2 > q.2 + 1 → p.2 = -p.1
theorem Good.tail {p : Int × Int} {ps : List (Int × Int)} (h : Good (p :: ps)) : Good ps := fun q hq => h q (List.mem_cons_of_mem _ hq)
theorem Good.head {p : Int × Int} {ps : List (Int × Int)} (h : Good (p :: ps)) : 0 ≤ p.1 ∧ p.1 ≤ 2147483647 ∧ -p.1 ≤ p.2 ∧ p.2 ≤ 0 := h p List.mem_cons_self
theorem yf (ps : List (Int × Int)) : 0 ≤ able ps ∧ able ps ≤ ps.length := by
 induction ps with
 | nil => simp [able]
 | cons p ps ih => simp only [able, List.length_cons]; split <;> omega
theorem XA {ps : List (Int × Int)} (hg : Good ps) (h : 0 < sD ps) : 0 < able ps := by
 induction ps with
 | nil => simp [sD] at h
 | cons p ps ih =>
  have hr := yf ps
  simp only [sD] at h
  simp only [able]
  split
  ·omega
  ·rename_i hp
   have := ih hg.tail (by omega)
   omega
theorem Wn (ps : List (Int × Int)) : ∀ m, lst m ps ≤ m := by
 induction ps with
 | nil => intro m; simp [lst]
 | cons p ps ih =>
  intro m
  simp only [lst]
  have h1 := ih (if p.1 + p.2 > 0 then mn m (p.1 + p.2) else m)
  have h2 : (if p.1 + p.2 > 0 then mn m (p.1 + p.2) else m) ≤ m := by
   split
   ·unfold mn; split <;> omega
   ·exact Int.le_refl _
  omega
theorem acg (ps : List (Int × Int)) : ∀ m, ∀ p, p ∈ ps → p.1 + p.2 > 0 → lst m ps ≤ p.1 + p.2 := by
 induction ps with
 | nil => intro m p hp; cases hp
 | cons q ps ih =>
  intro m p hp h
  simp only [lst]
  rcases List.mem_cons.1 hp with rfl | hp
  ·rw [if_pos h]
   have h1 := Wn ps (mn m (p.1 + p.2))
   have h2 : mn m (p.1 + p.2) ≤ p.1 + p.2 := by unfold mn; split <;> omega
   omega
  ·exact ih _ p hp h
theorem ach (ps : List (Int × Int)) : ∀ m, 0 < m → 0 < lst m ps := by
 induction ps with
 | nil => intro m h; simpa [lst] using h
 | cons q ps ih =>
  intro m h
  simp only [lst]
  apply ih
  unfold mn
  split
  ·split <;> omega
  ·exact h
theorem DX {m : Int} (hm : 0 < m) : ∀ (ps : List (Int × Int)) (b : Int), m * able ps ≤ b → lh m b ps = (b - m * able ps, oK m ps) := by
 intro ps
 induction ps with
 | nil => intro b _; simp [lh, able, oK]
 | cons p ps ih =>
  intro b hb
  have hr := yf ps
  have hmn : 0 ≤ m * able ps := Int.mul_nonneg (by omega) hr.1
  simp only [able] at hb ⊢
  by_cases hp : p.1 + p.2 > 0
  ·simp only [if_pos hp] at hb ⊢
   rw [Int.mul_add, Int.mul_one] at hb ⊢
   have h1 : mn m b = m := by unfold mn; split <;> omega
   have h2 := ih (b - m) (by omega)
   simp only [lh]
   rw [if_pos hp, if_pos (by omega), h1, h2]
   simp only [oK, List.map_cons, if_pos hp, Prod.mk.injEq, and_true]
   omega
  ·simp only [if_neg hp] at hb ⊢
   rw [Int.zero_add] at hb ⊢
   simp only [lh]
   rw [if_neg hp, ih b hb]
   simp only [oK, List.map_cons, if_neg hp, Int.sub_zero]
theorem XL : ∀ (ps : List (Int × Int)) (b : Int), 0 ≤ b → b ≤ able ps → (lh 1 b ps).1 = 0 := by
 intro ps
 induction ps with
 | nil => intro b h0 h; simp only [able] at h; simp only [lh]; omega
 | cons p ps ih =>
  intro b h0 h
  simp only [able] at h
  simp only [lh]
  by_cases hp : p.1 + p.2 > 0
  ·rw [if_pos hp] at h ⊢
   by_cases hb : b > 0
   ·rw [if_pos hb]
    have h1 : mn 1 b = 1 := by unfold mn; split <;> omega
    rw [h1]
    exact ih (b - 1) (by omega) (by omega)
   ·rw [if_neg hb]
    exact ih b h0 (by have := yf ps; omega)
  ·rw [if_neg hp] at h ⊢
   exact ih b h0 (by omega)
theorem aaz (m : Int) : ∀ (ps : List (Int × Int)) (b : Int), (lh m b ps).2.map Prod.fst = ps.map Prod.fst := by
 intro ps
 induction ps with
 | nil => intro b; simp [lh]
 | cons p ps ih =>
  intro b
  simp only [lh]
  split
  ·split <;> simp [ih]
  ·simp [ih]
theorem J4 : ∀ (ps : List (Int × Int)) (b : Int) (q : Int × Int), q ∈ (lh 1 b ps).2 → ∃ p, p ∈ ps ∧ q.1 = p.1 ∧ (q.2 = p.2 ∨ (p.1 + p.2 > 0 ∧ q.2 = p.2 - 1)) := by
 intro ps
 induction ps with
 | nil => intro b q hq; simp [lh] at hq
 | cons p ps ih =>
  intro b q hq
  simp only [lh] at hq
  have key : ∀ b' , q ∈ (lh 1 b' ps).2 → ∃ RP, RP ∈ p :: ps ∧ q.1 = RP.1 ∧ (q.2 = RP.2 ∨ (RP.1 + RP.2 > 0 ∧ q.2 = RP.2 - 1)) := fun b' h => by
   obtain ⟨p', h1, h2⟩ := ih b' q h
   exact ⟨p', List.mem_cons_of_mem _ h1, h2⟩
  split at hq
  ·rename_i hp
   split at hq
   ·rename_i hb
    simp only [List.mem_cons] at hq
    rcases hq with rfl | hq
    ·refine ⟨p, List.mem_cons_self, rfl, .inr ⟨hp, ?_⟩⟩
     have h1 : mn 1 b = 1 := by unfold mn; split <;> omega
     simp only [h1]
    ·exact key _ hq
   ·simp only [List.mem_cons] at hq
    rcases hq with rfl | hq
    ·exact ⟨_, List.mem_cons_self, rfl, .inl rfl⟩
    ·exact key _ hq
  ·simp only [List.mem_cons] at hq
   rcases hq with rfl | hq
   ·exact ⟨_, List.mem_cons_self, rfl, .inl rfl⟩
   ·exact key _ hq
theorem OI (m : Int) : ∀ (ps : List (Int × Int)) (b : Int), outs (lh m b ps).2 - (lh m b ps).1 = outs ps - b := by
 intro ps
 induction ps with
 | nil => intro b; simp [lh]
 | cons p ps ih =>
  intro b
  simp only [lh]
  split
  ·split
   ·have := ih (b - mn m b); simp only [outs]; omega
   ·have := ih b; simp only [outs]; omega
  ·have := ih b; simp only [outs]; omega
theorem X3 (m : Int) (ps : List (Int × Int)) : (oK m ps).map Prod.fst = ps.map Prod.fst := by simp [oK, List.map_map, Function.comp_def]
theorem MB {m : Int} {ps : List (Int × Int)} (hm : 0 ≤ m) (hg : Good ps) (hl : ∀ p, p ∈ ps → p.1 + p.2 > 0 → m ≤ p.1 + p.2) : Good (oK m ps) := by
 intro q hq
 obtain ⟨p, hp, rfl⟩ := List.mem_map.1 hq
 have h1 := hg p hp
 have h2 := hl p hp
 simp only
 split <;> omega
theorem Jq (m : Int) (ps : List (Int × Int)) : sD (oK m ps) = sD ps - m * able ps := by
 induction ps with
 | nil => simp [oK, sD, able]
 | cons p ps ih =>
  have e : oK m (p :: ps) = (p.1, p.2 - if p.1 + p.2 > 0 then m else 0) :: oK m ps := rfl
  rw [e]
  simp only [sD, able, ih]
  rw [Int.mul_add]
  split
  ·rw [Int.mul_one]; omega
  ·rw [Int.mul_zero]; omega
theorem Vb {m : Int} {ps : List (Int × Int)} (hg : Good ps) (he : Gq ps) (hm : 0 ≤ m) : Gq (oK m ps) := by
 intro p' hp' q' hq' h
 obtain ⟨p, hp, rfl⟩ := List.mem_map.1 hp'
 obtain ⟨q, hq, rfl⟩ := List.mem_map.1 hq'
 have h1 := he p hp q hq
 have h2 := hg p hp
 have h3 := hg q hq
 simp only at h ⊢
 by_cases c1 : p.1 + p.2 > 0
 ·rw [if_pos c1] at h ⊢
  by_cases c2 : q.1 + q.2 > 0
  ·rw [if_pos c2] at h; omega
  ·rw [if_neg c2] at h; omega
 ·rw [if_neg c1] at h ⊢
  by_cases c2 : q.1 + q.2 > 0
  ·rw [if_pos c2] at h; omega
  ·rw [if_neg c2] at h; omega
theorem Vd {m : Int} {ps : List (Int × Int)} (hm : 0 < m) (hl : ∀ p, p ∈ ps → p.1 + p.2 > 0 → m + 1 ≤ p.1 + p.2) : oK (m + 1) ps = oK m (oK 1 ps) ∧ able (oK 1 ps) = able ps := by
 constructor
 ·simp only [oK, List.map_map]
  apply List.map_congr_left
  intro p hp
  have := hl p hp
  simp only [Function.comp_def, Prod.mk.injEq, true_and]
  by_cases h : p.1 + p.2 > 0
  ·rw [if_pos h, if_pos h, if_pos (by omega)]; omega
  ·rw [if_neg h, if_neg h, if_neg (by omega)]; omega
 ·induction ps with
  | nil => rfl
  | cons p ps ih =>
   have e : oK 1 (p :: ps) = (p.1, p.2 - if p.1 + p.2 > 0 then 1 else 0) :: oK 1 ps := rfl
   rw [e]
   simp only [able]
   rw [ih fun q hq => hl q (List.mem_cons_of_mem _ hq)]
   have := hl p List.mem_cons_self
   by_cases h : p.1 + p.2 > 0
   ·rw [if_pos h, if_pos (by omega)]
   ·rw [if_neg h, if_neg (by omega)]
theorem XJ {ps : List (Int × Int)} {b : Int} (he : Gq ps) : Nv (lh 1 b ps).2 := by
 intro p' hp' q' hq' h
 obtain ⟨p, hp, e1, e2⟩ := J4 ps b p' hp'
 obtain ⟨q, hq, e3, e4⟩ := J4 ps b q' hq'
 have h1 := he p hp q hq
 omega
theorem aeE {ps : List (Int × Int)} (he : Gq ps) : Nv ps := by
 intro p hp q hq h
 have := he p hp q hq
 omega
theorem XK {ps : List (Int × Int)} {b : Int} (hg : Good ps) : Good (lh 1 b ps).2 := by
 intro p' hp'
 obtain ⟨p, hp, e1, e2⟩ := J4 ps b p' hp'
 have := hg p hp
 omega
theorem Ev.rH {α : Type} {c : Prop} [Decidable c] {g f : Nat → Option α} {r : α} (hc : c) (h : Ev g r) : Ev (fun k => if c then g k else f k) r := by simp only [if_pos hc]; exact h
theorem Ev.tK {α : Type} {c : Prop} [Decidable c] {g f : Nat → Option α} {r : α} (hc : ¬c) (h : Ev f r) : Ev (fun k => if c then g k else f k) r := by simp only [if_neg hc]; exact h
theorem JH {α : Type} (f : α → Int) (pre : List α) (p : α) (rest : List α) : rd ((pre ++ p :: rest).map f) (pre.length : Int) = f p := by
 simp [rd, List.getD_eq_getElem?_getD]
theorem La (pre : List Int) (p : Int) (rest : List Int) : rd (pre ++ p :: rest) (pre.length : Int) = p := by
 simp [rd, List.getD_eq_getElem?_getD]
theorem acd (b : Int) (q : Int) (r : List Int) (hb0 : 0 < b) (hb1 : b ≤ 2147483647) : ∀ (rest pre : List (Int × Int)) (A L : Int), Good (pre ++ rest) → (pre ++ rest).length ≤ 100000 → 0 ≤ A → A ≤ pre.length →
  A + able rest ≠ 0 → q = mx 1 (mn (lst L rest) (b / (A + able rest))) →
  Ev (fun k => bF.l2 k b ((pre ++ rest).map Prod.fst) ((pre ++ rest).map Prod.snd) q ((pre ++ rest).map Prod.fst) ((pre ++ rest).length : Int) 0) r →
  Ev (fun k => bF.l1 k b ((pre ++ rest).map Prod.fst) ((pre ++ rest).map Prod.snd) A L ((pre ++ rest).map Prod.fst) ((pre ++ rest).length : Int) (pre.length : Int)) r := by
 intro rest
 induction rest with
 | nil =>
  intro pre A L hg hl h0 h1 hne hq h
  refine Ev.step (f := fun k => bF.l2 k b ((pre ++ []).map Prod.fst) ((pre ++ []).map Prod.snd) q ((pre ++ []).map Prod.fst) ((pre ++ []).length : Int) 0) (fun k => ?_) h
  simp only [bF.l1]
  simp only [able, Int.add_zero, lst] at hne hq
  have hdiv : wrap64 (Int.tdiv b A) = b / A := by
   rw [Int.tdiv_eq_ediv_of_nonneg (by omega)]
   have h2 : 0 ≤ b / A := Int.ediv_nonneg (by omega) h0
   have h3 : b / A ≤ b := Int.ediv_le_self _ (by omega)
   exact wp (by omega) (by omega)
  rw [if_neg (by simp), if_neg hne, hdiv, ← hq]
  simp
 | cons p rest ih =>
  intro pre A L hg hl h0 h1 hne hq h
  have hp := hg p (by simp)
  have hlen : ((pre ++ p :: rest).length : Int) = pre.length + (rest.length + 1) := by simp
  have hl' : (pre.length : Int) + (rest.length + 1) ≤ 100000 := by omega
  have hw : wrap64 ((pre.length : Int) + 1) = ((pre ++ [p]).length : Int) := by rw [wp (by omega) (by omega)]; simp
  have e : pre ++ p :: rest = (pre ++ [p]) ++ rest := by simp
  have hsum : wrap64 (p.1 + p.2) = p.1 + p.2 := wp (by omega) (by omega)
  refine Ev.step (f := fun k => bF.l1 k b (((pre ++ [p]) ++ rest).map Prod.fst) (((pre ++ [p]) ++ rest).map Prod.snd) (A + if p.1 + p.2 > 0 then 1 else 0) (if p.1 + p.2 > 0 then mn L (p.1 + p.2) else L) (((pre ++ [p]) ++ rest).map Prod.fst) (((pre ++ [p]) ++ rest).length : Int) ((pre ++ [p]).length : Int)) (fun k => ?_) (ih (pre ++ [p]) _ _ (by rw [← e]; exact hg) (by rw [← e]; exact hl) (by split <;> omega) (by simp; split <;> omega) (by simp only [able] at hne; omega) (by simp only [able, lst] at hq; rw [hq, Int.add_assoc]) (by rw [← e]; exact h))
  simp only [bF.l1]
  rw [JH, JH, hsum, if_pos (by omega), if_pos (by omega), if_pos (by simp; omega), if_pos (by simp; omega), hw, ← e]
  by_cases hc : p.1 + p.2 > 0
  ·rw [if_pos hc, if_pos hc, if_pos hc, wp (by omega) (by omega)]
  ·rw [if_neg hc, if_neg hc, if_neg hc, Int.add_zero]
theorem ace (m : Int) (r : List Int) (hm : 0 < m) : ∀ (rest pre : List (Int × Int)) (b : Int), 0 ≤ b → b ≤ 2147483647 → Good (pre ++ rest) → (∀ p, p ∈ rest → p.1 + p.2 > 0 → m ≤ p.1 + p.2) → (pre ++ rest).length ≤ 100000 →
  Ev (fun k => bF.l0 k (lh m b rest).1 ((pre ++ rest).map Prod.fst) ((pre ++ (lh m b rest).2).map Prod.snd)) r →
  Ev (fun k => bF.l2 k b ((pre ++ rest).map Prod.fst) ((pre ++ rest).map Prod.snd) m ((pre ++ rest).map Prod.fst) ((pre ++ rest).length : Int) (pre.length : Int)) r := by
 intro rest
 induction rest with
 | nil =>
  intro pre b h0 h1 hg hl hlen h
  simp only [lh] at h
  refine Ev.step (fun k => ?_) h
  simp only [bF.l2]
  rw [if_neg (by simp)]
 | cons p rest ih =>
  intro pre b h0 h1 hg hl hlen h
  have hp := hg p (by simp)
  have hlen' : ((pre ++ p :: rest).length : Int) = pre.length + (rest.length + 1) := by simp
  have hl' : (pre.length : Int) + (rest.length + 1) ≤ 100000 := by omega
  have hw : wrap64 ((pre.length : Int) + 1) = (pre.length : Int) + 1 := wp (by omega) (by omega)
  have hsum : wrap64 (p.1 + p.2) = p.1 + p.2 := wp (by omega) (by omega)
  have hmp := hl p (by simp)
  have hmn : 0 ≤ mn m b ∧ mn m b ≤ m ∧ mn m b ≤ b := by unfold mn; split <;> omega
  have step : ∀ (b' : Int) (p' : Int × Int), p'.1 = p.1 → -p'.1 ≤ p'.2 → p'.2 ≤ 0 → 0 ≤ b' → b' ≤ 2147483647 → lh m b (p :: rest) = ((lh m b' rest).1, p' :: (lh m b' rest).2) →
    Ev (fun k => bF.l2 k b' ((pre ++ p :: rest).map Prod.fst) ((pre ++ p' :: rest).map Prod.snd) m ((pre ++ p :: rest).map Prod.fst) ((pre ++ p :: rest).length : Int) ((pre.length : Int) + 1)) r := by
   intro b' p' e1 e2 e3 e4 e5 eb
   have f1 : (pre ++ p :: rest).map Prod.fst = ((pre ++ [p']) ++ rest).map Prod.fst := by simp [e1]
   have f2 : (pre ++ p' :: rest).map Prod.snd = ((pre ++ [p']) ++ rest).map Prod.snd := by simp
   have f3 : ((pre ++ p :: rest).length : Int) = (((pre ++ [p']) ++ rest).length : Int) := by simp
   have f4 : (pre.length : Int) + 1 = ((pre ++ [p']).length : Int) := by simp
   have hg' : Good ((pre ++ [p']) ++ rest) := by
    intro q hq
    simp only [List.append_assoc, List.mem_append, List.mem_cons, List.not_mem_nil, or_false] at hq
    rcases hq with hq | rfl | hq
    ·exact hg q (by simp [hq])
    ·omega
    ·exact hg q (by simp [hq])
   rw [f1, f2, f3, f4]
   refine ih (pre ++ [p']) b' e4 e5 hg' (fun q hq => hl q (by simp [hq])) (by simp; omega) ?_
   rw [eb] at h
   rw [← f1, List.append_assoc]
   exact h
  refine Ev.step (f := fun k => if p.1 + p.2 > 0 then (if b > 0 then bF.l2 k (b - mn m b) ((pre ++ p :: rest).map Prod.fst) ((pre ++ (p.1, p.2 - mn m b) :: rest).map Prod.snd) m ((pre ++ p :: rest).map Prod.fst) ((pre ++ p :: rest).length : Int) ((pre.length : Int) + 1) else bF.l2 k b ((pre ++ p :: rest).map Prod.fst) ((pre ++ p :: rest).map Prod.snd) m ((pre ++ p :: rest).map Prod.fst) ((pre ++ p :: rest).length : Int) ((pre.length : Int) + 1)) else bF.l2 k b ((pre ++ p :: rest).map Prod.fst) ((pre ++ p :: rest).map Prod.snd) m ((pre ++ p :: rest).map Prod.fst) ((pre ++ p :: rest).length : Int) ((pre.length : Int) + 1)) (fun k => ?_) ?_
  ·simp only [bF.l2]
   rw [JH, JH, hsum, if_pos (by omega), if_pos (by omega), if_pos (by simp; omega), if_pos (by simp; omega), hw]
   by_cases hc : p.1 + p.2 > 0
   ·rw [if_pos hc, if_pos hc]
    by_cases hb : b > 0
    ·rw [if_pos hb, if_pos hb, wp (by omega) (by omega), wp (by omega) (by omega)]
     congr 1
     simp
    ·rw [if_neg hb, if_neg hb]
   ·rw [if_neg hc, if_neg hc]
  ·by_cases hc : p.1 + p.2 > 0
   ·by_cases hb : b > 0
    ·refine Ev.rH hc (Ev.rH hb (step (b - mn m b) (p.1, p.2 - mn m b) rfl (by simp only; omega) (by simp only; omega) (by omega) (by omega) ?_))
     simp only [lh]
     rw [if_pos hc, if_pos hb]
    ·refine Ev.rH hc (Ev.tK hb (step b p rfl (by omega) (by omega) h0 h1 ?_))
     simp only [lh]
     rw [if_pos hc, if_neg hb]
   ·refine Ev.tK hc (step b p rfl (by omega) (by omega) h0 h1 ?_)
    simp only [lh]
    rw [if_neg hc]
theorem QS (ps : List (Int × Int)) : ∀ b : Int, 0 ≤ b → jQ (-b) ps = (-(lh 1 b ps).1, (lh 1 b ps).2) := by
 induction ps with
 | nil => intro b _; simp [jQ, lh]
 | cons p ps ih =>
  intro b hb
  simp only [jQ, lh]
  by_cases hp : p.1 + p.2 > 0
  ·rw [if_pos hp]
   by_cases h : b > 0
   ·rw [if_pos h]
    have h1 : mn 1 b = 1 := by unfold mn; split <;> omega
    have e : p_ (-b) p = (-(b - 1), (p.1, p.2 - 1)) := by
     unfold p_
     rw [if_neg (by omega), if_pos ⟨by omega, hp⟩]
     congr 1
     omega
    rw [e, h1]
    simp only
    rw [ih (b - 1) (by omega)]
   ·rw [if_neg h]
    have e : p_ (-b) p = (-b, p) := by
     unfold p_
     rw [if_neg (by omega), if_neg (by omega)]
    rw [e]
    simp only
    rw [ih b hb]
  ·rw [if_neg hp]
   have e : p_ (-b) p = (-b, p) := by
    unfold p_
    rw [if_neg (by omega), if_neg (by omega)]
   rw [e]
   simp only
   rw [ih b hb]
theorem CV {b : Int} {ps : List (Int × Int)} {r : List Int × Bool} (hb : 0 < b) (hne : (lh 1 b ps).1 ≠ b) (h : Ev (fun k => mi k (-(lh 1 b ps).1) (lh 1 b ps).2) r) : Ev (fun k => mi k (-b) ps) r := by
 refine Ev.step (fun k => ?_) h
 simp only [mi]
 rw [if_neg (by omega), QS ps b (by omega)]
 simp only
 rw [if_neg (by omega)]
theorem Ub {r : List Int × Bool} : ∀ (m : Nat) (b : Int) (ps : List (Int × Int)), 0 < able ps → ((m : Int) + 1) * able ps ≤ b → (∀ p, p ∈ ps → p.1 + p.2 > 0 → (m : Int) + 1 ≤ p.1 + p.2) →
  Ev (fun k => mi k (-(b - ((m : Int) + 1) * able ps)) (oK ((m : Int) + 1) ps)) r → Ev (fun k => mi k (-b) ps) r := by
 intro m
 induction m with
 | zero =>
  intro b ps ha hb hl h
  have e := DX (m := 1) (by omega) ps b (by simpa using hb)
  have hb' : able ps ≤ b := by simpa using hb
  refine CV (by omega) (by rw [e]; simp only; omega) ?_
  rw [e]
  simpa using h
 | succ m ih =>
  intro b ps ha hb hl h
  have hx : 0 ≤ ((m : Int) + 1) * able ps := Int.mul_nonneg (by omega) (by omega)
  have hm : (((m + 1 : Nat) : Int) + 1) * able ps = ((m : Int) + 1) * able ps + able ps := by rw [show (((m + 1 : Nat) : Int) + 1) = ((m : Int) + 1) + 1 by omega, Int.add_mul, Int.one_mul]
  rw [hm] at hb h
  have e := DX (m := 1) (by omega) ps b (by omega)
  obtain ⟨d1, d2⟩ := Vd (m := (m : Int) + 1) (ps := ps) (by omega) (fun p hp hc => by have := hl p hp hc; omega)
  refine CV (by omega) (by rw [e]; simp only; omega) ?_
  rw [e]
  simp only [Int.one_mul]
  refine ih (b - able ps) (oK 1 ps) (by omega) (by rw [d2]; omega) ?_ ?_
  ·intro q hq hc
   obtain ⟨p, hp, rfl⟩ := List.mem_map.1 hq
   have := hl p hp
   simp only at hc ⊢
   by_cases hc1 : p.1 + p.2 > 0
   ·rw [if_pos hc1] at hc ⊢
    have := this hc1
    omega
   ·rw [if_neg hc1] at hc
    omega
  ·rw [d2, ← d1]
   refine Ev.congr (fun k => ?_) h
   rw [show (((m + 1 : Nat) : Int) + 1) = ((m : Int) + 1) + 1 by omega]
   congr 2
   omega
theorem Wl : ∀ (n : Nat) (b : Int) (ps : List (Int × Int)), b.toNat = n → 0 ≤ b → b ≤ 2147483647 → Good ps → Gq ps → ps.length ≤ 100000 → b ≤ sD ps →
  ∃ qs : List (Int × Int), Ev (fun k => bF.l0 k b (ps.map Prod.fst) (ps.map Prod.snd)) (qs.map Prod.snd) ∧ Ev (fun k => mi k (-b) ps) (qs.map Prod.snd, true) ∧
   qs.map Prod.fst = ps.map Prod.fst ∧ Good qs ∧ Nv qs ∧ outs qs = outs ps - b := by
 intro n
 induction n using Nat.strongRecOn with
 | _ n IH =>
 intro b ps hn h0 h1 hg he hl hav
 by_cases hb : b > 0
 ·have hab := XA hg (by omega)
  have har := yf ps
  have amw := ach ps b hb
  have amv := Wn ps b
  have hm1 : 1 ≤ mx 1 (mn (lst b ps) (b / able ps)) := by unfold mx; split <;> omega
  have Z5 : ∀ (m : Int), m = mx 1 (mn (lst b ps) (b / able ps)) → (∀ p, p ∈ ps → p.1 + p.2 > 0 → m ≤ p.1 + p.2) → ∀ r, Ev (fun k => bF.l0 k (lh m b ps).1 (ps.map Prod.fst) ((lh m b ps).2.map Prod.snd)) r → Ev (fun k => bF.l0 k b (ps.map Prod.fst) (ps.map Prod.snd)) r := by
   intro m hm hml r h
   refine Ev.step (f := fun k => bF.l1 k b (ps.map Prod.fst) (ps.map Prod.snd) 0 b (ps.map Prod.fst) ((ps.map Prod.fst).length : Int) 0) (fun k => ?_) ?_
   ·simp only [bF.l0]; rw [if_pos hb]
   ·have l2 := ace m r (by omega) ps [] b h0 h1 (by simpa using hg) hml (by simpa using hl) (by simpa using h)
    have l1 := acd b m r hb h1 ps [] 0 b (by simpa using hg) (by simpa using hl) (by omega) (by simp) (by omega) (by rw [Int.zero_add]; exact hm) (by simpa using l2)
    simpa using l1
  by_cases hfull : able ps ≤ b
  ·
   have hq1 : 1 ≤ b / able ps := by rw [Int.le_ediv_iff_mul_le hab]; omega
   have hm : mx 1 (mn (lst b ps) (b / able ps)) = mn (lst b ps) (b / able ps) := by unfold mx mn; split <;> split at * <;> omega
   have aiV : 1 ≤ mn (lst b ps) (b / able ps) := by unfold mn; split <;> omega
   generalize hmm : mn (lst b ps) (b / able ps) = m at hm
   have hm0 : 1 ≤ m := by rw [← hmm]; exact aiV
   have aiT : m ≤ lst b ps := by rw [← hmm]; unfold mn; split <;> omega
   have aiU : m ≤ b / able ps := by rw [← hmm]; unfold mn; split <;> omega
   have hall : ∀ p, p ∈ ps → p.1 + p.2 > 0 → m ≤ p.1 + p.2 := fun p hp hc => Int.le_trans aiT (acg ps b p hp hc)
   have hmb : m * able ps ≤ b := (Int.le_ediv_iff_mul_le hab).1 aiU
   have hma : able ps ≤ m * able ps := by have := Int.mul_le_mul_of_nonneg_right hm0 (show 0 ≤ able ps by omega); omega
   have aez := DX (m := m) (by omega) ps b hmb
   obtain ⟨qs, q1, q2, q3, q4, q5, q6⟩ := IH (b - m * able ps).toNat (by omega) (b - m * able ps) (oK m ps) rfl (by omega) (by omega) (MB (by omega) hg hall) (Vb hg he (by omega)) (by simpa [oK] using hl) (by rw [Jq]; omega)
   rw [X3] at q1 q3
   have eo : outs (oK m ps) = outs ps - m * able ps := by
    have := OI m ps b
    rw [aez] at this
    simp only at this
    omega
   refine ⟨qs, Z5 m (by rw [hmm, hm]) hall _ (by rw [aez]; exact q1), ?_, q3, q4, q5, by omega⟩
   obtain ⟨m', rfl⟩ : ∃ m' : Nat, m = (m' : Int) + 1 := ⟨(m - 1).toNat, by omega⟩
   exact Ub m' b ps hab hmb hall q2
  ·
   have hq0 : b / able ps = 0 := Int.ediv_eq_zero_of_lt h0 (by omega)
   have hm : mx 1 (mn (lst b ps) (b / able ps)) = 1 := by rw [hq0]; unfold mx mn; split <;> split at * <;> omega
   have hz := XL ps b h0 (by omega)
   have eo := OI 1 ps b
   refine ⟨(lh 1 b ps).2, Z5 1 hm.symm (fun p _ hc => by omega) _ ?_, CV hb (by omega) ?_, aaz 1 ps b, XK hg, XJ he, by omega⟩
   ·rw [hz]
    refine Ev.step (fun k => ?_) (Ev.now _)
    simp only [bF.l0]
    rw [if_neg (by omega)]
   ·rw [hz]
    refine Ev.step (fun k => ?_) (Ev.now _)
    simp only [mi]
    rw [if_pos (by omega)]
 ·obtain rfl : b = 0 := by omega
  refine ⟨ps, ?_, ?_, rfl, hg, aeE he, by omega⟩
  ·refine Ev.step (fun k => ?_) (Ev.now _)
   simp only [bF.l0]
   rw [if_neg hb]
  ·refine Ev.step (fun k => ?_) (Ev.now _)
   simp only [mi]
   rw [if_pos (by omega)]
def total : List Int → Int
 | [] => 0
 | g :: gs => g + total gs
theorem Hw (gs : List Int) : sD (gs.map fun g => (g, (0 : Int))) = total gs := by
 induction gs with
 | nil => rfl
 | cons g gs ih => simp only [List.map_cons, sD, total, ih]; omega
theorem Ce (gs : List Int) (h : ∀ g, g ∈ gs → 0 ≤ g) : 0 ≤ total gs := by
 induction gs with
 | nil => simp [total]
 | cons g gs ih => have h1 := h g (by simp); have h2 := ih fun x hx => h x (by simp [hx]); simp only [total]; omega
def wI (m : Int) (gs : List Int) : Int := if m + total gs > 2147483647 then 2147483647 else m + total gs
theorem QE (b : Int) (r : List Int × Bool) : ∀ (rest pre : List Int) (s : Int), 0 ≤ s → s ≤ 2147483647 → (pre ++ rest).length ≤ 100000 →
  (∀ g, g ∈ rest → 0 ≤ g ∧ g ≤ 2147483647) →
  Ev (fun k => if ((pre ++ rest).length : Int) = 0 then (bJ.j1 k b (pre ++ rest) true) else (if b < wrap64 (-(wI s rest)) then (bJ.j1 k b (pre ++ rest) true) else (bJ.j1 k b (pre ++ rest) (decide (b > 2147483647))))) r →
  Ev (fun k => bJ.l0 k b (pre ++ rest) s (pre ++ rest) ((pre ++ rest).length : Int) (pre.length : Int)) r := by
 intro rest
 induction rest with
 | nil =>
  intro pre s h0 h1 hl hg h
  refine Ev.step (fun k => ?_) h
  simp only [bJ.l0]
  rw [if_neg (by simp)]
  have : wI s [] = s := by unfold wI; simp only [total, Int.add_zero]; rw [if_neg (by omega)]
  rw [this]
 | cons g rest ih =>
  intro pre s h0 h1 hl hg h
  have hgg := hg g (by simp)
  have ht := Ce rest fun x hx => (hg x (by simp [hx])).1
  have hlen : ((pre ++ g :: rest).length : Int) = pre.length + (rest.length + 1) := by simp
  have e : pre ++ g :: rest = (pre ++ [g]) ++ rest := by simp
  have hc : wI (mn 2147483647 (s + g)) rest = wI s (g :: rest) := by unfold wI mn; simp only [total]; split <;> split <;> (try split) <;> omega
  refine Ev.step (fun k => ?_) (ih (pre ++ [g]) (mn 2147483647 (s + g)) (by unfold mn; split <;> omega) (by unfold mn; split <;> omega) (by rw [← e]; exact hl) (fun x hx => hg x (by simp [hx])) (by rw [hc, ← e]; exact h))
  simp only [bJ.l0]
  rw [La, if_pos (by omega), if_pos (by omega), if_pos (by omega), if_neg (by omega), if_neg (by omega), wp (x := s + g) (by omega) (by omega), wp (x := (pre.length : Int) + 1) (by omega) (by omega), ← e]
  simp
theorem Ue (b : Int) : ∀ (rest pre : List Int) (s : Int), 0 ≤ s → s ≤ 2147483647 → (pre ++ rest).length ≤ 100000 → ¬ (∀ g, g ∈ rest → 0 ≤ g ∧ g ≤ 2147483647) →
  Ev (fun k => bJ.l0 k b (pre ++ rest) s (pre ++ rest) ((pre ++ rest).length : Int) (pre.length : Int)) ([], false) := by
 intro rest
 induction rest with
 | nil => intro pre s _ _ _ h; exact absurd (fun g hg => by cases hg) h
 | cons g rest ih =>
  intro pre s h0 h1 hl hg
  have hlen : ((pre ++ g :: rest).length : Int) = pre.length + (rest.length + 1) := by simp
  by_cases hgg : 0 ≤ g ∧ g ≤ 2147483647
  ·have e : pre ++ g :: rest = (pre ++ [g]) ++ rest := by simp
   refine Ev.step (fun k => ?_) (ih (pre ++ [g]) (mn 2147483647 (s + g)) (by unfold mn; split <;> omega) (by unfold mn; split <;> omega) (by rw [← e]; exact hl) (fun h => hg fun x hx => by
    rcases List.mem_cons.1 hx with rfl | hx
    ·exact hgg
    ·exact h x hx))
   simp only [bJ.l0]
   rw [La, if_pos (by omega), if_pos (by omega), if_pos (by omega), if_neg (by omega), if_neg (by omega), wp (x := s + g) (by omega) (by omega), wp (x := (pre.length : Int) + 1) (by omega) (by omega), ← e]
   simp
  ·refine Ev.step (fun k => ?_) (Ev.now _)
   simp only [bJ.l0]
   rw [La, if_pos (by omega), if_pos (by omega), if_pos (by omega)]
   by_cases h : g < 0
   ·rw [if_pos h]
   ·rw [if_neg h, if_pos (by omega)]
theorem Qs (xs ys : List Int) : total (xs ++ ys) = total xs + total ys := by
 induction xs with
 | nil => simp [total]
 | cons x xs ih => simp only [List.cons_append, total, ih]; omega
theorem Uk (a : Int) (n : Int) (_h0 : 0 ≤ a % n) : ∀ m : Nat, total ((List.range m).map fun i => lq a n (i : Nat)) = m * (a / n) + (if (m : Int) ≤ a % n then (m : Int) else a % n) := by
 intro m
 induction m with
 | zero => simp [total]; omega
 | succ m ih =>
  rw [List.range_succ, List.map_append, Qs, ih]
  simp only [List.map_cons, List.map_nil, total, lq]
  rw [show ((m + 1 : Nat) : Int) = (m : Int) + 1 by omega, Int.add_mul, Int.one_mul]
  split <;> split <;> split <;> omega
theorem QG (a : Int) (n : Nat) (h0 : 0 ≤ a) (hn : 0 < n) : total (moreL a n) = a := by
 have h1 := Int.emod_nonneg a (show (n : Int) ≠ 0 by omega)
 have h2 := Int.emod_lt_of_pos a (show (0 : Int) < n by omega)
 have h := Uk a n h1 n
 unfold moreL
 rw [h, if_neg (by omega)]
 have := Int.mul_ediv_add_emod a n
 omega
theorem WW : ∀ (ps : List (Int × Int)) (b : Int), 0 ≤ b → jQ b ps = (if (ps.length : Int) ≤ b then b - ps.length else 0, ps.mapIdx fun i p => (p.1, p.2 + if (i : Int) < b then 1 else 0)) := by
 intro ps
 induction ps with
 | nil => intro b hb; simp [jQ]; omega
 | cons p ps ih =>
  intro b hb
  simp only [jQ]
  by_cases h : b > 0
  ·have e : p_ b p = (b - 1, (p.1, p.2 + 1)) := by unfold p_; rw [if_pos h]
   rw [e]
   simp only
   rw [ih (b - 1) (by omega), List.mapIdx_cons]
   simp only [Prod.mk.injEq, List.length_cons, List.cons.injEq]
   refine ⟨by split <;> split <;> omega, ?_, ?_⟩
   ·rw [if_pos (by omega)]; simp
   ·apply List.mapIdx_eq_mapIdx_iff.2
    intro i hi
    simp only [Prod.mk.injEq, true_and]
    split <;> split <;> omega
  ·obtain rfl : b = 0 := by omega
   have e : p_ 0 p = (0, p) := by unfold p_; simp
   rw [e]
   simp only
   rw [ih 0 (by omega), List.mapIdx_cons]
   simp only [Prod.mk.injEq, List.length_cons, List.cons.injEq]
   refine ⟨by split <;> split <;> omega, ?_, ?_⟩
   ·simp
   ·apply List.mapIdx_eq_mapIdx_iff.2
    intro i hi
    simp only [Prod.mk.injEq, true_and]
    split <;> split <;> omega
theorem QA {b n : Int} (hn : 0 < n) (i : Int) : lq (b - n) n i + 1 = lq b n i := by
 unfold lq
 have h1 : (b - n) / n = b / n - 1 := by
  rw [show b - n = b + (-1) * n by omega, Int.add_mul_ediv_right _ _ (by omega)]; omega
 have h2 : (b - n) % n = b % n := by
  rw [show b - n = b + (-1) * n by omega, Int.add_mul_emod_self_right]
 rw [h1, h2]
 omega
theorem FW {b n : Int} (h0 : 0 ≤ b) (h : b < n) (i : Int) : lq b n i = if i < b then 1 else 0 := by
 unfold lq
 rw [Int.ediv_eq_zero_of_lt h0 h, Int.emod_eq_of_lt h0 h]
 omega
theorem af1 : ∀ (N : Nat) (b t : Int) (gs : List Int), b.toNat = N → 0 ≤ b → gs ≠ [] → Ev (fun k => mi k b (gs.map fun g => (g, t))) (gs.mapIdx (fun i _ => t + lq b gs.length (i : Nat)), true) := by
 intro N
 induction N using Nat.strongRecOn with
 | _ N IH =>
 intro b t gs hN hb hne
 have hpos : 0 < gs.length := List.length_pos_iff.2 hne
 by_cases h0 : b = 0
 ·subst h0
  refine Ev.step (fun k => ?_) (Ev.now _)
  simp only [mi]
  rw [if_pos trivial]
  congr 2
  rw [List.map_map]
  apply List.ext_getElem
  ·simp
  ·intro i h1 h2
   simp only [List.getElem_map, Function.comp_def, List.getElem_mapIdx]
   rw [FW (show (0 : Int) ≤ 0 by omega) (show (0 : Int) < gs.length by omega), if_neg (by omega)]
   omega
 ·have hr := WW (gs.map fun g => (g, t)) b hb
  rw [List.length_map] at hr
  by_cases hfull : (gs.length : Int) ≤ b
  ·rw [if_pos hfull] at hr
   have ih := IH (b - gs.length).toNat (by omega) (b - gs.length) (t + 1) gs rfl (by omega) hne
   have e2 : (List.mapIdx (fun i (p : Int × Int) => (p.1, p.2 + if (i : Int) < b then 1 else 0)) (gs.map fun g => (g, t))) = gs.map fun g => (g, t + 1) := by
    apply List.ext_getElem
    ·simp
    ·intro i h1 h2
     simp at h1
     simp only [List.getElem_mapIdx, List.getElem_map]
     rw [if_pos (by omega)]
   rw [e2] at hr
   refine Ev.step (f := fun k => mi k (b - gs.length) (gs.map fun g => (g, t + 1))) (fun k => ?_) ?_
   ·simp only [mi]
    rw [if_neg h0, hr]
    simp only
    rw [if_neg (by omega)]
   ·have e3 : gs.mapIdx (fun i _ => t + lq b gs.length (i : Nat)) = gs.mapIdx (fun i _ => t + 1 + lq (b - gs.length) gs.length (i : Nat)) := by
     apply List.mapIdx_eq_mapIdx_iff.2
     intro i hi
     have := QA (b := b) (n := gs.length) (by omega) (i : Nat)
     omega
    rw [e3]
    exact ih
  ·rw [if_neg hfull] at hr
   refine Ev.step (f := fun k => mi k 0 (List.mapIdx (fun i (p : Int × Int) => (p.1, p.2 + if (i : Int) < b then 1 else 0)) (gs.map fun g => (g, t)))) (fun k => ?_) ?_
   ·simp only [mi]
    rw [if_neg h0, hr]
    simp only
    rw [if_neg (by omega)]
   ·refine Ev.step (fun k => ?_) (Ev.now _)
    simp only [mi]
    rw [if_pos trivial]
    congr 2
    apply List.ext_getElem
    ·simp
    ·intro i h1 h2
     simp only [List.getElem_map, List.getElem_mapIdx]
     rw [FW hb (by omega)]
theorem YU (b : Int) (gs : List Int) (hb : 0 ≤ b) (hne : gs ≠ []) : Ev (fun k => mi k b (gs.map fun g => (g, 0))) (moreL b gs.length, true) := by
 have h := af1 b.toNat b 0 gs rfl hb hne
 have e : gs.mapIdx (fun i _ => 0 + lq b gs.length (i : Nat)) = moreL b gs.length := by
  apply List.ext_getElem
  ·simp [moreL]
  ·intro i h1 h2
   simp [moreL]
 rw [e] at h
 exact h
theorem WS : ∀ (N : Nat) (b : Int) (ps : List (Int × Int)), b.toNat = N → Good ps → sD ps < b → 0 < b → Ev (fun k => mi k (-b) ps) ([], false) := by
 intro N
 induction N using Nat.strongRecOn with
 | _ N IH =>
 intro b ps hN hg hav hb
 have har := yf ps
 have hle : able ps ≤ sD ps := by
  clear IH hN hav hb har
  induction ps with
  | nil => simp [able, sD]
  | cons p ps ih =>
   have h1 := hg.head
   have h2 := ih hg.tail
   simp only [able, sD]
   split <;> omega
 have e := DX (m := 1) (by omega) ps b (by omega)
 rw [Int.one_mul] at e
 by_cases h0 : able ps = 0
 ·refine Ev.step (fun k => ?_) (Ev.now _)
  simp only [mi]
  rw [if_neg (by omega), QS ps b (by omega), e]
  simp only
  rw [if_pos (by omega)]
 ·refine CV hb (by rw [e]; simp only; omega) ?_
  rw [e]
  simp only
  exact IH (b - able ps).toNat (by omega) (b - able ps) (oK 1 ps) rfl (MB (by omega) hg fun p _ hc => by omega) (by rw [Jq]; omega) (by omega)
theorem JU {gs : List Int} (h : ∀ g, g ∈ gs → 0 ≤ g ∧ g ≤ 2147483647) : Good (gs.map fun g => (g, (0 : Int))) := by
 intro p hp
 obtain ⟨g, hg, rfl⟩ := List.mem_map.1 hp
 have := h g hg
 simp only
 omega
theorem Uo (gs : List Int) : Gq (gs.map fun g => (g, (0 : Int))) := by
 intro p hp q hq h
 obtain ⟨g, hg, rfl⟩ := List.mem_map.1 hp
 obtain ⟨g', hg', rfl⟩ := List.mem_map.1 hq
 simp at h
theorem Ur (gs : List Int) : outs (gs.map fun g => (g, (0 : Int))) = 0 := by
 induction gs with
 | nil => rfl
 | cons g gs ih => simp only [List.map_cons, outs, ih]; rfl
theorem TS (ps : List (Int × Int)) : outs ps = total (ps.map Prod.snd) := by
 induction ps with
 | nil => rfl
 | cons p ps ih => simp only [List.map_cons, outs, total, ih]
def DT (b : Int) (gs : List Int) (r : List Int × Bool) : Prop :=
 (r = ([], false) ∧ (gs = [] ∨ (¬ ∀ g, g ∈ gs → 0 ≤ g ∧ g ≤ 2147483647) ∨ ((∀ g, g ∈ gs → 0 ≤ g ∧ g ≤ 2147483647) ∧ b < -total gs))) ∨
 (r = (moreL b gs.length, true) ∧ gs ≠ [] ∧ (∀ g, g ∈ gs → 0 ≤ g ∧ g ≤ 2147483647) ∧ 0 ≤ b) ∨
 (∃ qs : List (Int × Int), r = (qs.map Prod.snd, true) ∧ (∀ g, g ∈ gs → 0 ≤ g ∧ g ≤ 2147483647) ∧ b < 0 ∧ qs.map Prod.fst = gs ∧ Good qs ∧ Nv qs ∧ outs qs = b ∧ Ev (fun k => mi k b (gs.map fun g => (g, 0))) (qs.map Prod.snd, true))
theorem Xd (b : Int) (gs : List Int) (hl : gs.length ≤ 100000) (h0 : -2147483647 ≤ b) (h1 : b ≤ 2147483647) : ∃ r, DT b gs r ∧ Ev (fun k => bJ.f k b gs) r := by
 by_cases hg : ∀ g, g ∈ gs → 0 ≤ g ∧ g ≤ 2147483647
 ·have ht := Ce gs fun g h => (hg g h).1
  have look := fun r => QE b r gs [] 0 (by omega) (by omega) (by simpa using hl) hg
  have hcap : wI 0 gs = if total gs > 2147483647 then 2147483647 else total gs := by unfold wI; rw [Int.zero_add]
  have hw : wrap64 (-(wI 0 gs)) = -(wI 0 gs) := by rw [hcap]; apply wp <;> split <;> omega
  simp only [List.nil_append, List.length_nil] at look
  have j1t : Ev (fun k => bJ.j1 k b gs true) ([], false) := by
   refine Ev.step (fun k => ?_) (Ev.now _)
   simp only [bJ.j1]
   rw [if_pos trivial]
  by_cases hne : gs = []
  ·refine ⟨_, .inl ⟨rfl, .inl hne⟩, ?_⟩
   refine look _ ?_
   refine Ev.rH (by simp [hne]) j1t
  ·have hpos : 0 < gs.length := List.length_pos_iff.2 hne
   by_cases hb : b < -total gs
   ·refine ⟨_, .inl ⟨rfl, .inr (.inr ⟨hg, hb⟩)⟩, look _ (Ev.tK (by omega) (Ev.rH ?_ j1t))⟩
    rw [hw, hcap]
    split <;> omega
   ·have hdec : decide (b > 2147483647) = false := by simp; omega
    have go : ∀ r, Ev (fun k => bJ.j1 k b gs false) r → Ev (fun k => bJ.f k b gs) r := fun r h => by
     refine look _ (Ev.tK (by omega) (Ev.tK ?_ ?_))
     ·rw [hw, hcap]; split <;> omega
     ·rw [hdec]; exact h
    by_cases hb0 : 0 ≤ b
    ·refine ⟨_, .inr (.inl ⟨rfl, hne, hg, hb0⟩), go _ (Ev.step (fun k => ?_) (Ev.now _))⟩
     simp only [bJ.j1]
     rw [if_neg (by simp), if_pos (by omega)]
     unfold qK.f
     rw [if_pos ⟨hb0, by omega, by omega, by omega⟩]
     simp
    ·obtain ⟨qs, q1, q2, q3, q4, q5, q6⟩ := Wl (-b).toNat (-b) (gs.map fun g => (g, 0)) rfl (by omega) (by omega) (JU hg) (Uo gs) (by simpa using hl) (by rw [Hw]; omega)
     have e1 : (gs.map fun g => (g, (0 : Int))).map Prod.fst = gs := by simp [List.map_map, Function.comp_def]
     have e2 : (gs.map fun g => (g, (0 : Int))).map Prod.snd = List.replicate gs.length 0 := by simp [List.map_map, Function.comp_def, List.map_const']
     rw [e1] at q1 q3
     rw [e2] at q1
     rw [Ur] at q6
     rw [Int.neg_neg] at q2
     refine ⟨_, .inr (.inr ⟨qs, rfl, hg, by omega, q3, q4, q5, by omega, q2⟩), go _ (Ev.step (f := fun k => (bF.f k (-b) gs).bind fun t => some (t, true)) (fun k => ?_) (Ev.bind (a := qs.map Prod.snd) ?_ (Ev.now _)))⟩
     ·simp only [bJ.j1]
      rw [if_neg (by simp), if_neg (by omega), wp (by omega) (by omega)]
     ·refine Ev.congr (fun k => ?_) q1
      unfold bF.f
      rw [if_pos (by omega), if_pos (by omega)]
      simp
 ·refine ⟨_, .inl ⟨rfl, .inr (.inl hg)⟩, ?_⟩
  have := Ue b gs [] 0 (by omega) (by omega) (by simpa using hl) hg
  simp only [List.nil_append, List.length_nil] at this
  exact this
section
variable {Pr : Program} {ops : Array Oper} {rest : List Oper} {op : Oper} {a : Act} {Q : Exit → Act → World → Prop} {w W : World} {P : Nat → Prop} {bs : List (Option Nat × Obj)} {ow : List (Value × List ai)} {ts : List (Value × List ai)} {ro : List (Addr × Value)}
theorem iI (N : Tmp) (_ : op.dst = some N) (h : wpList Pr ops Q (op :: rest) a W) : wpList Pr ops Q (op :: rest) a W := h
theorem al3 (t : TypeId) (p x : Operand) (_ : op.op = .store t p x) (h : wpList Pr ops Q (op :: rest) a W) : wpList Pr ops Q (op :: rest) a W := h
theorem boxS (N : Tmp) (cs : Array Value) (t : TypeId) (S : ae (St w P bs ow ts ro W))
  (h : ∀ g w1, ae (St w P ((some g, .cells cs t (0, 0)) :: bs) ow ts ro w1) → wpList Pr ops Q rest (a.put op.dst (.pointer (some ⟨g, 0, none⟩))) w1) (hd : op.dst = some N := by rfl) (hgd : op.guard = none := by rfl)
  (hr : (execOp a.eval op).run Pr W = .ok (.value (.pointer (some ⟨W.heap.size, 0, none⟩))) (W.alloc (.cells cs t (0, 0))) := by first | (go_simp; done) | (go_simp; rfl)) : wpList Pr ops Q (op :: rest) a W :=
 aeb hd hgd cs t S.out hr (fun g w1 S1 => h g w1 ⟨S1⟩)
theorem Qe (i : Nat) {g : Nat} {cs : Array Value} {t0 : TypeId} (hi : bs[i]? = some (some g, .cells cs t0 (0, 0))) (t : TypeId) (p x : Tmp) (cs' : Array Value) (j n : Nat) (S : ae (St w P bs ow ts ro W)) (h : ∀ w1, ae (St w P (bs.set i (some g, .cells cs' t0 (0, 0))) ow ts ro w1) → wpList Pr ops Q rest a w1)
  (ho : op.op = .store t (.tmp p) (.tmp x)) (kZ : a.eval (.tmp p) = .pointer (some ⟨g, j, none⟩)) (hu : (a.eval (.tmp x)).cells.toList = (cs'.toList.drop j).take n) (ht : (Pr.info? t).map (·.size) = some n)
  (hn : ((cs'.toList.drop j).take n).length = n) (h1 : ((cs'.toList.drop j).take n).all Value.oneCell' = true) (hj : j + n ≤ cs.size) (he : cs.toList.take j ++ (cs'.toList.drop j).take n ++ cs.toList.drop (j + n) = cs'.toList) (hN : op.dst = none) (hgd : op.guard = none) : wpList Pr ops Q (op :: rest) a W :=
 afW i hi t (.tmp p) (.tmp x) ho cs' S.out kZ rfl hu (by rw [hn]; exact ht) (fun q hq => List.all_eq_true.1 h1 q hq) (by rw [hn]; exact hj) (by rw [hn]; exact he) hN hgd (fun w1 S1 => h w1 ⟨S1⟩)
variable {g : Nat} {cs : Array Value} {t0 : TypeId} {b0 b1 b2 b3 b4 : Option Nat × Obj}
theorem gy (t : TypeId) (p x : Tmp) (cs' : Array Value) (j n : Nat) (S : ae (St w P ((some g, .cells cs t0 (0, 0)) :: bs) ow ts ro W)) (h : ∀ w1, ae (St w P ((some g, .cells cs' t0 (0, 0)) :: bs) ow ts ro w1) → wpList Pr ops Q rest a w1)
  (ho : op.op = .store t (.tmp p) (.tmp x) := by rfl) (kZ : a.eval (.tmp p) = .pointer (some ⟨g, j, none⟩) := by rfl) (hu : (a.eval (.tmp x)).cells.toList = (cs'.toList.drop j).take n := by rfl) (ht : (Pr.info? t).map (·.size) = some n := by kernel_rfl)
  (hn : ((cs'.toList.drop j).take n).length = n := by rfl) (h1 : ((cs'.toList.drop j).take n).all Value.oneCell' = true := by rfl) (hj : j + n ≤ cs.size := by first | decide | simp) (he : cs.toList.take j ++ (cs'.toList.drop j).take n ++ cs.toList.drop (j + n) = cs'.toList := by rfl) (hN : op.dst = none := by rfl) (hgd : op.guard = none := by rfl) : wpList Pr ops Q (op :: rest) a W :=
 Qe 0 rfl t p x cs' j n S h ho kZ hu ht hn h1 hj he hN hgd
theorem uk (t : TypeId) (p x : Tmp) (cs' : Array Value) (j n : Nat) (S : ae (St w P (b0 :: (some g, .cells cs t0 (0, 0)) :: bs) ow ts ro W)) (h : ∀ w1, ae (St w P (b0 :: (some g, .cells cs' t0 (0, 0)) :: bs) ow ts ro w1) → wpList Pr ops Q rest a w1)
  (ho : op.op = .store t (.tmp p) (.tmp x) := by rfl) (kZ : a.eval (.tmp p) = .pointer (some ⟨g, j, none⟩) := by rfl) (hu : (a.eval (.tmp x)).cells.toList = (cs'.toList.drop j).take n := by rfl) (ht : (Pr.info? t).map (·.size) = some n := by kernel_rfl)
  (hn : ((cs'.toList.drop j).take n).length = n := by rfl) (h1 : ((cs'.toList.drop j).take n).all Value.oneCell' = true := by rfl) (hj : j + n ≤ cs.size := by first | decide | simp) (he : cs.toList.take j ++ (cs'.toList.drop j).take n ++ cs.toList.drop (j + n) = cs'.toList := by rfl) (hN : op.dst = none := by rfl) (hgd : op.guard = none := by rfl) : wpList Pr ops Q (op :: rest) a W :=
 Qe 1 rfl t p x cs' j n S h ho kZ hu ht hn h1 hj he hN hgd
theorem Qd (t : TypeId) (p x : Tmp) (cs' : Array Value) (j n : Nat) (S : ae (St w P (b0 :: b1 :: (some g, .cells cs t0 (0, 0)) :: bs) ow ts ro W)) (h : ∀ w1, ae (St w P (b0 :: b1 :: (some g, .cells cs' t0 (0, 0)) :: bs) ow ts ro w1) → wpList Pr ops Q rest a w1)
  (ho : op.op = .store t (.tmp p) (.tmp x) := by rfl) (kZ : a.eval (.tmp p) = .pointer (some ⟨g, j, none⟩) := by rfl) (hu : (a.eval (.tmp x)).cells.toList = (cs'.toList.drop j).take n := by rfl) (ht : (Pr.info? t).map (·.size) = some n := by kernel_rfl)
  (hn : ((cs'.toList.drop j).take n).length = n := by rfl) (h1 : ((cs'.toList.drop j).take n).all Value.oneCell' = true := by rfl) (hj : j + n ≤ cs.size := by first | decide | simp) (he : cs.toList.take j ++ (cs'.toList.drop j).take n ++ cs.toList.drop (j + n) = cs'.toList := by rfl) (hN : op.dst = none := by rfl) (hgd : op.guard = none := by rfl) : wpList Pr ops Q (op :: rest) a W :=
 Qe 2 rfl t p x cs' j n S h ho kZ hu ht hn h1 hj he hN hgd
theorem KY (t : TypeId) (p x : Tmp) (cs' : Array Value) (j n : Nat) (S : ae (St w P (b0 :: b1 :: b2 :: (some g, .cells cs t0 (0, 0)) :: bs) ow ts ro W)) (h : ∀ w1, ae (St w P (b0 :: b1 :: b2 :: (some g, .cells cs' t0 (0, 0)) :: bs) ow ts ro w1) → wpList Pr ops Q rest a w1)
  (ho : op.op = .store t (.tmp p) (.tmp x) := by rfl) (kZ : a.eval (.tmp p) = .pointer (some ⟨g, j, none⟩) := by rfl) (hu : (a.eval (.tmp x)).cells.toList = (cs'.toList.drop j).take n := by rfl) (ht : (Pr.info? t).map (·.size) = some n := by kernel_rfl)
  (hn : ((cs'.toList.drop j).take n).length = n := by rfl) (h1 : ((cs'.toList.drop j).take n).all Value.oneCell' = true := by rfl) (hj : j + n ≤ cs.size := by first | decide | simp) (he : cs.toList.take j ++ (cs'.toList.drop j).take n ++ cs.toList.drop (j + n) = cs'.toList := by rfl) (hN : op.dst = none := by rfl) (hgd : op.guard = none := by rfl) : wpList Pr ops Q (op :: rest) a W :=
 Qe 3 rfl t p x cs' j n S h ho kZ hu ht hn h1 hj he hN hgd
theorem KZ (t : TypeId) (p x : Tmp) (cs' : Array Value) (j n : Nat) (S : ae (St w P (b0 :: b1 :: b2 :: b3 :: (some g, .cells cs t0 (0, 0)) :: bs) ow ts ro W)) (h : ∀ w1, ae (St w P (b0 :: b1 :: b2 :: b3 :: (some g, .cells cs' t0 (0, 0)) :: bs) ow ts ro w1) → wpList Pr ops Q rest a w1)
  (ho : op.op = .store t (.tmp p) (.tmp x) := by rfl) (kZ : a.eval (.tmp p) = .pointer (some ⟨g, j, none⟩) := by rfl) (hu : (a.eval (.tmp x)).cells.toList = (cs'.toList.drop j).take n := by rfl) (ht : (Pr.info? t).map (·.size) = some n := by kernel_rfl)
  (hn : ((cs'.toList.drop j).take n).length = n := by rfl) (h1 : ((cs'.toList.drop j).take n).all Value.oneCell' = true := by rfl) (hj : j + n ≤ cs.size := by first | decide | simp) (he : cs.toList.take j ++ (cs'.toList.drop j).take n ++ cs.toList.drop (j + n) = cs'.toList := by rfl) (hN : op.dst = none := by rfl) (hgd : op.guard = none := by rfl) : wpList Pr ops Q (op :: rest) a W :=
 Qe 4 rfl t p x cs' j n S h ho kZ hu ht hn h1 hj he hN hgd
theorem iT (N : Option Tmp) {f : FuncId} {fn : Func} (hf : Pr.funcs[f]? = some fn) {ar : Array Operand} {Gj : Array TypeId} {args : Array Value} {post : Ending → World → Prop} (hc : Calls Pr f args W post)
  (h : ∀ e w1, post e w1 → ∃ v, e = .returned v ∧ wpList Pr ops Q rest (a.put N v) w1) (hd : op.dst = N := by rfl) (hg : op.guard = none := by rfl) (hop : op.op = .call { callee := .value (.func f), args := ar, argTypes := Gj } := by rfl)
  (hname : (fn.name == "runtime.NumGoroutine") = false := by kernel_rfl) (hb : fn.body.isSome = true := by rfl) (hargs : ar.map a.eval = args := by ((try simp only [List.map_toArray, List.map_cons, List.map_nil]); first | done | rfl)) : wpList Pr ops Q (op :: rest) a W :=
 oN N hd hg hf hname hb args hop hargs (hc.mono h)
theorem bG (N : Option Tmp) {f : FuncId} {fn : Func} (hf : Pr.funcs[f]? = some fn) {ar : Array Operand} {Gj : Array TypeId} {args : Array Value} {v : Value} (S : ae (St w P bs ow ts ro W)) (hc : Calls Pr f args W fun e w' => e = .returned v ∧ Below W.heap.size W w')
  (h : ∀ w1, ae (St w P bs ow ts ro w1) → wpList Pr ops Q rest (a.put N v) w1) (hd : op.dst = N := by rfl) (hg : op.guard = none := by rfl) (hop : op.op = .call { callee := .value (.func f), args := ar, argTypes := Gj } := by rfl)
  (hname : (fn.name == "runtime.NumGoroutine") = false := by kernel_rfl) (hb : fn.body.isSome = true := by rfl) (hargs : ar.map a.eval = args := by ((try simp only [List.map_toArray, List.map_cons, List.map_nil]); first | done | rfl)) : wpList Pr ops Q (op :: rest) a W :=
 oN N hd hg hf hname hb args hop hargs (hc.mono fun e w1 ⟨he, hb⟩ => ⟨v, he, h w1 ⟨S.out.call hb⟩⟩)
theorem wZ (N : Option Tmp) {f : FuncId} {fn : Func} (hf : Pr.funcs[f]? = some fn) {ar : Array Operand} {Gj : Array TypeId} {args : Array Value} {l : List ai} {F : Option Addr → Nat → Value} (S : ae (St w P bs ow ts ro W))
  (hc : Calls Pr f args W fun e w' => ∃ A c, e = .returned (F A c) ∧ Kd.N k26 26 w' W.heap.size (fun k => Ok w P (keys bs ow) k ∨ W.heap.size ≤ k) (.slice A l.length c) l ∧ Below W.heap.size W w')
  (h : ∀ A c w1, ae (St w P bs ow ((.slice A l.length c, l) :: ts) ro w1) → wpList Pr ops Q rest (a.put N (F A c)) w1) (hd : op.dst = N := by rfl) (hg : op.guard = none := by rfl) (hop : op.op = .call { callee := .value (.func f), args := ar, argTypes := Gj } := by rfl)
  (hname : (fn.name == "runtime.NumGoroutine") = false := by kernel_rfl) (hb : fn.body.isSome = true := by rfl) (hargs : ar.map a.eval = args := by ((try simp only [List.map_toArray, List.map_cons, List.map_nil]); first | done | rfl)) : wpList Pr ops Q (op :: rest) a W :=
 oN N hd hg hf hname hb args hop hargs (hc.mono fun e w1 ⟨A, c, he, h1, hb⟩ => ⟨_, he, h A c w1 ⟨S.out.res (Kd.oD (base' := 0) h1) hb⟩⟩)
theorem ZH (N : Option Tmp) {f : FuncId} {fn : Func} (hf : Pr.funcs[f]? = some fn) {ar : Array Operand} {Gj : Array TypeId} {args : Array Value} {l : List ai} {F : Option Addr → Nat → Value} (S : ae (St w P bs ow ts ro W))
  (hc : Calls Pr f args W fun e w' => ∃ A c, e = .returned (F A c) ∧ Kd.V k26 26 w' W.heap.size (fun k => Ok w P (keys bs ow) k ∨ W.heap.size ≤ k) (.slice A l.length c) l ∧ Below W.heap.size W w')
  (h : ∀ A c w1, ae (St w P bs ow ((.slice A l.length c, l) :: ts) ro w1) → wpList Pr ops Q rest (a.put N (F A c)) w1) (hd : op.dst = N := by rfl) (hg : op.guard = none := by rfl) (hop : op.op = .call { callee := .value (.func f), args := ar, argTypes := Gj } := by rfl)
  (hname : (fn.name == "runtime.NumGoroutine") = false := by kernel_rfl) (hb : fn.body.isSome = true := by rfl) (hargs : ar.map a.eval = args := by ((try simp only [List.map_toArray, List.map_cons, List.map_nil]); first | done | rfl)) : wpList Pr ops Q (op :: rest) a W :=
 oN N hd hg hf hname hb args hop hargs (hc.mono fun e w1 ⟨A, c, he, h1, hb⟩ => ⟨_, he, h A c w1 ⟨S.out.res h1 hb⟩⟩)
theorem Ba (N : Option Tmp) {f : FuncId} {fn : Func} (hf : Pr.funcs[f]? = some fn) {ar : Array Operand} {Gj : Array TypeId} {args : Array Value} {l : List ai} {F : Option Addr → Nat → Value} (S : ae (St w P bs [] ts ro W))
  (hc : Calls Pr f args W fun e w' => ∃ A c, e = .returned (F A c) ∧ Kd.N k26 26 w' W.heap.size (fun k => Ok w P (keys bs []) k ∨ W.heap.size ≤ k) (.slice A l.length c) l ∧ Below W.heap.size W w')
  (h : ∀ A c w1, ae (St w P bs [(.slice A l.length c, l)] ts ro w1) → wpList Pr ops Q rest (a.put N (F A c)) w1) (hd : op.dst = N := by rfl) (hg : op.guard = none := by rfl) (hop : op.op = .call { callee := .value (.func f), args := ar, argTypes := Gj } := by rfl)
  (hname : (fn.name == "runtime.NumGoroutine") = false := by kernel_rfl) (hb : fn.body.isSome = true := by rfl) (hargs : ar.map a.eval = args := by ((try simp only [List.map_toArray, List.map_cons, List.map_nil]); first | done | rfl)) : wpList Pr ops Q (op :: rest) a W :=
 oN N hd hg hf hname hb args hop hargs (hc.mono fun e w1 ⟨A, c, he, h1, hb⟩ => ⟨_, he, h A c w1 ⟨S.out.yx h1 hb⟩⟩)
end
section
variable {w W : World} {P : Nat → Prop} {bs : List (Option Nat × Obj)} {ow : List (Value × List ai)} {ts : List (Value × List ai)} {ro : List (Addr × Value)} {g : Nat} {t : TypeId} {v0 v1 v2 v3 v4 v5 v6 : Value} {a0 a1 a2 a3 a4 a5 a6 : Addr}
theorem St.dD (S : ae (St w P bs ow ts ro W)) (hm : (some g, .cells #[v0, v1, v2, v3, v4, v5, v6] t (0, 0)) ∈ bs) :
  W.cell? ⟨g, 0, none⟩ = some v0 ∧ W.cell? ⟨g, 1, none⟩ = some v1 ∧ W.cell? ⟨g, 2, none⟩ = some v2 ∧ W.cell? ⟨g, 3, none⟩ = some v3 ∧ W.cell? ⟨g, 4, none⟩ = some v4 ∧ W.cell? ⟨g, 5, none⟩ = some v5 ∧ W.cell? ⟨g, 6, none⟩ = some v6 :=
 ⟨S.out.at hm 0, S.out.at hm 1, S.out.at hm 2, S.out.at hm 3, S.out.at hm 4, S.out.at hm 5, S.out.at hm 6⟩
theorem St.at4 (S : ae (St w P bs ow ts ro W)) (hm : (some g, .cells #[v0, v1, v2, v3] t (0, 0)) ∈ bs) :
  W.cell? ⟨g, 0, none⟩ = some v0 ∧ W.cell? ⟨g, 1, none⟩ = some v1 ∧ W.cell? ⟨g, 2, none⟩ = some v2 ∧ W.cell? ⟨g, 3, none⟩ = some v3 :=
 ⟨S.out.at hm 0, S.out.at hm 1, S.out.at hm 2, S.out.at hm 3⟩
theorem St.AQ (S : ae (St w P bs ow ts ((a0, v0) :: (a1, v1) :: (a2, v2) :: (a3, v3) :: (a4, v4) :: (a5, v5) :: (a6, v6) :: ro) W)) :
  W.cell? a0 = some v0 ∧ W.cell? a1 = some v1 ∧ W.cell? a2 = some v2 ∧ W.cell? a3 = some v3 ∧ W.cell? a4 = some v4 ∧ W.cell? a5 = some v5 ∧ W.cell? a6 = some v6 :=
 ⟨(S.out.cell _ (.head _)).1, (S.out.cell _ aY).1, (S.out.cell _ dL).1, (S.out.cell _ jB).1, (S.out.cell _ lK).1, (S.out.cell _ qB).1, (S.out.cell _ zy).1⟩
end
section
variable {Pr : Program} {md : Region.Mode} {ops : Array Oper} {Q : Exit → Act → World → Prop} {S : World → Prop} {ds : List Nat}
theorem dR (N : Tmp) {fuel : Nat} {l : Array Bool} {b a' : Act} {v : Value} {w : World} (h : bT Pr md ops Q S ds fuel l a' w) (ha : Act.put b (some N) v = a' := by simp only [Act.put, List.setIfInBounds_toArray, List.set_cons_zero, List.set_cons_succ, lH, lG]; rfl) : bT Pr md ops Q S ds fuel l (Act.put b (some N) v) w := mP ha h
end
theorem wY {Pr : Program} {ops : Array Oper} {Q : Exit → Act → World → Prop} {oi : Oper} {N : Option Tmp} {a : Act} {w : World} {K : Act → World → Prop} {f : FuncId} {fn : Func} {ar : Array Operand} {ts : Array TypeId} (hf : Pr.funcs[f]? = some fn) (args : Array Value) (h : Calls Pr f args w fun e w' => ∃ v, e = .returned v ∧ K (a.put N v) w')
  (hname : (fn.name == "runtime.NumGoroutine") = false := by kernel_rfl) (hb : fn.body.isSome = true := by rfl) (hw : Region.wanted oi (yielded ops a.tmps) = true := by rfl) (hN : oi.dst = N := by rfl) (hop : oi.op = .call { callee := .value (.func f), args := ar, argTypes := ts } := by rfl) (hargs : ar.map a.eval = args := by ((try simp only [List.map_toArray, List.map_cons, List.map_nil]); first | done | rfl)) : if Region.wanted oi (yielded ops a.tmps) = true then Oper.wp Pr oi a w K Q else K (a.put N undef) w :=
 ja hf hname hb args hw hN hop hargs h
theorem iL {Pr : Program} {ops : Array Oper} {md : Region.Mode} {Q : Exit → Act → World → Prop} {S : World → Prop} {ds : List Nat} {T : Bool × List (List Nat × List Nat)} {fuel : Nat} {l : Array Bool} {a : Act} {w : World} {oi : Oper} (i : Nat) (N : Option Tmp) (l' : Array Bool) (HT : ae (iM md ops = T)) (h : ∀ K : Act → World → Prop, Shut (∀ a' w', S w' → (S w' → bT Pr md ops Q S ds fuel l' a' w') → K a' w') → if Region.wanted oi (yielded ops a.tmps) = true then Oper.wp Pr oi a w K Q else K (a.put N undef) w)
  (hi : ops[i]? = some oi := by rfl) (hN : oi.dst = N := by rfl) (hc : (zD T.2 l.toList == [i] && l.toList.set i true == l'.toList) = true := by kernel_rfl) (hd : i ∉ ds := by decide) : bT Pr md ops Q S ds (fuel + 1) l a w :=
 P7 l' hi hN (zB HT.out hc) hd h
theorem lV {Pr : Program} {ops : Array Oper} {md : Region.Mode} {Q : Exit → Act → World → Prop} {S : World → Prop} {ds : List Nat} {T : Bool × List (List Nat × List Nat)} {fuel : Nat} {l : Array Bool} {a : Act} {w : World} {oi : Oper} (i : Nat) (N : Option Tmp) (l' : Array Bool) (HT : ae (iM md ops = T)) (h : ∀ K : Act → World → Prop, Shut (∀ a' w', bT Pr md ops Q S ds fuel l' a' w' → K a' w') → if Region.wanted oi (yielded ops a.tmps) = true then Oper.wp Pr oi a w K Q else K (a.put N undef) w)
  (hi : ops[i]? = some oi := by rfl) (hN : oi.dst = N := by rfl) (hc : (zD T.2 l.toList == [i] && l.toList.set i true == l'.toList) = true := by kernel_rfl) (hd : i ∈ ds := by decide) : bT Pr md ops Q S ds (fuel + 1) l a w :=
 TN l' hi hN (zB HT.out hc) hd h
section
variable {α : Type} {d : Kd α} {e : TypeId} {w : World} {P : Nat → Prop} {bs bs' : List (Option Nat × Obj)} {ow : List (Value × List ai)} {ts : List (Value × List ai)} {ro : List (Addr × Value)} {W W1 : World} {b0 : Nat} {o o1 : Obj} {v v1 : Value} {xs : List α} {ok : Nat → Prop}
def KR (d : Kd α) (e : TypeId) (base : Nat) (v : Value) (xs : List α) (o : Obj) : Prop := ∀ W : World, (∀ g, v.ownBlock = some g → W.heap[g]? = some o) → d.R e W base (fun k => some k = v.ownBlock) v xs
theorem Nz {b' : Nat} (hE : d.E = []) (h : d.R e W1 b0 ok v xs) (hb : b' ≤ b0) : ∃ o, (∀ g, v.ownBlock = some g → W1.heap[g]? = some o) ∧ KR d e b' v xs o := by
 have ht := Kd.rf (Kd.Gt hE h) hb
 cases hv : v.ownBlock with
 | none => exact ⟨.cells #[] 0 (0, 0), fun g hg => (by cases hg), fun W hW => Kd.Bz ht (fun k hk => (by rw [hv] at hk; cases hk))⟩
 | some g =>
  obtain ⟨cells, hc⟩ := Kd.JY h g hv
  refine ⟨_, fun g' hg => (by injection hg with hg; rw [← hg]; exact hc), fun W hW => Kd.Bz ht (fun k hk _ => ?_)⟩
  rw [hv] at hk
  injection hk with hk
  rw [hk, hc]
  exact hW g hv
theorem St.IU (hE : d.E = []) (S : St w P bs ow ts ro W) (h : d.R e W1 W.heap.size ok v xs) (hb : Below W.heap.size W W1) : ∃ o, St w P ((v.ownBlock, o) :: bs) ow ts ro W1 ∧ KR d e w.heap.size v xs o := by
 obtain ⟨o, h1, h2⟩ := Nz hE h S.below.size
 exact ⟨o, S.OJ v.ownBlock (fun g hg => ⟨Kd.Oo h g hg, h1 g hg⟩) hb, h2⟩
theorem Oc (d : Kd α) (e : TypeId) (base : Nat) : KR d e base (.slice none 0 0) [] (.cells #[] 0 (0, 0)) := fun _ _ => Kd.wX _ _ _ _ _
theorem St.noK (S : St w P bs ow ts ro W) : St w P (((Value.slice none 0 0).ownBlock, .cells #[] 0 (0, 0)) :: bs) ow ts ro W := S.OJ none (fun _ h => by cases h) (Below.refl _ _)
theorem Ob {base : Nat} (HI : KR d e base v xs o) (S : St w P bs ow ts ro W) (hm : (v.ownBlock, o) ∈ bs) : d.R e W base (fun k => some k = v.ownBlock) v xs := HI W (S.blk _ hm)
theorem Xx {base : Nat} {A : Option Addr} {c : Nat} (HI : KR d e base (.slice A xs.length c) xs o) (S : St w P bs ow ts ro W) (hm : ((Value.slice A xs.length c).ownBlock, o) ∈ bs) : d.C W A xs.length xs ∧ xs.length ≤ c :=
 have h := Kd.eQ (Ob HI S hm)
 ⟨h.2.2, h.2.1⟩
theorem St.perm (hp : bs.Perm bs') (S : St w P bs ow ts ro W) : St w P bs' ow ts ro W := by
 have hk : (keys bs ow).Perm (keys bs' ow) := (hp.filterMap _).append_right _
 have hm : ∀ k, k ∈ keys bs' ow ↔ k ∈ keys bs ow := fun k => hk.symm.mem_iff
 have hO : ∀ k, Ok w P (keys bs ow) k → Ok w P (keys bs' ow) k := fun k h => ⟨h.1, fun h2 => h.2 ((hm k).1 h2)⟩
 exact ⟨S.below, fun x hx => S.blk x (hp.symm.mem_iff.1 hx), fun k hk => S.new k ((hm k).1 hk), hk.nodup_iff.1 S.nd, fun t ht => Kd.iq (S.tree t ht) hO, fun r hr => Kd.jq (S.own r hr) (fun k h => h.imp (hO k) id), fun c hc => ⟨(S.cell c hc).1, fun h => (S.cell c hc).2 ((hm _).1 h)⟩⟩
variable {x b1 b2 b3 b4 b5 b6 : Option Nat × Obj}
theorem St.vS (S : St w P (b1 :: x :: bs) ow ts ro W) : St w P (x :: b1 :: bs) ow ts ro W := S.perm (List.perm_middle (l₁ := [b1]))
theorem St.xJ (S : St w P (b1 :: b2 :: x :: bs) ow ts ro W) : St w P (x :: b1 :: b2 :: bs) ow ts ro W := S.perm (List.perm_middle (l₁ := [b1, b2]))
theorem St.um (S : St w P (b1 :: b2 :: b3 :: x :: bs) ow ts ro W) : St w P (x :: b1 :: b2 :: b3 :: bs) ow ts ro W := S.perm (List.perm_middle (l₁ := [b1, b2, b3]))
end
section
variable {α : Type} {d : Kd α} {e : TypeId} {Pr : Program} {ops : Array Oper} {rest : List Oper} {op : Oper} {a : Act} {Q : Exit → Act → World → Prop} {Kc : Act → World → Prop} {w W : World} {P : Nat → Prop} {bs : List (Option Nat × Obj)} {ow : List (Value × List ai)} {ts : List (Value × List ai)} {ro : List (Addr × Value)} {v : Value} {xs : List α} {o : Obj}
theorem nO (d : Kd α) (e : TypeId) (hE : d.E = []) (N : Tmp) (S : ae (St w P bs ow ts ro W)) (h : ∀ A c o w1, ae (St w P (((Value.slice A 0 c).ownBlock, o) :: bs) ow ts ro w1) → ae (KR d e w.heap.size (.slice A 0 c) [] o) → wpList Pr ops Q rest (a.put op.dst (.slice A 0 c)) w1)
  (hd : op.dst = some N := by rfl) (hgd : op.guard = none := by rfl) (hrun : (execOp a.eval op).run Pr W = .ok (.value (.slice (some ⟨W.heap.size, 0, none⟩) 0 0)) (W.alloc (.cells #[] e)) := by first | (go_simp; done) | (go_simp; rfl)) : wpList Pr ops Q (op :: rest) a W :=
 Kd.wW d (w0 := W) W.heap.size e hgd hd (xs := ([] : List α)) (inner := []) (ok := fun _ => True) (gU := fun _ => True) hrun (dm.none _ _) (fun _ hk => hk) trivial (Below.refl _ _) (Nat.le_refl _) (by simp) (fun v1 w1 hR hb hg _ => by
  obtain ⟨A, c, rfl⟩ := Kd.iG hR
  obtain ⟨o, S1, HI⟩ := S.out.IU hE hR (rD hg)
  exact h A c o w1 ⟨S1⟩ ⟨HI⟩)
theorem xI (d : Kd α) (e : TypeId) (hE : d.E = []) (s x : Tmp) (t : TypeId) (z : Value) (bytes : Nat) (ht : Pr.underlying t = some (.slice e)) (hinfo : (Pr.info? e).map (fun i => (i.zero, i.size, i.bytes)) = some (some z, d.sz, bytes)) (hz : z.cells.size = d.sz) (hs0 : 0 < d.sz) (hb0 : 0 < bytes) (hbb : bytes ≤ 1000)
  (S : ae (St w P ((v.ownBlock, o) :: bs) ow ts ro W)) (hI : ae (KR d e w.heap.size v xs o)) (y : α) (cs : List Value) (hM : ∀ W b ok, d.M W b ok y cs) (hl : xs.length ≤ 10000000)
  (h : ∀ A1 c1 o1 w1, ae (St w P (((Value.slice A1 (xs ++ [y]).length c1).ownBlock, o1) :: bs) ow ts ro w1) → ae (KR d e w.heap.size (.slice A1 (xs ++ [y]).length c1) (xs ++ [y]) o1) → wpList Pr ops Q rest (a.put op.dst (.slice A1 (xs ++ [y]).length c1)) w1)
  (hgd : op.guard = none := by rfl) (ho : op.op = .call { callee := .builtin .append, args := #[.tmp s, .tmp x], argTypes := #[t, t] } := by rfl) (hs : a.eval (.tmp s) = v := by rfl) (hx : a.eval (.tmp x) = .slice (some ⟨W.heap.size, 0, none⟩) 1 1 := by first | rfl | (go_simp; rfl)) :
  wpList Pr ops Q (op :: rest) a (W.alloc (.cells cs.toArray e)) := by
 have hR := hI.out W (S.out.blk _ List.mem_cons_self)
 refine Kd.Ig d (w0 := w) w.heap.size hgd (.tmp s) (.tmp x) t e z bytes ho ht hinfo hz hs0 hb0 v xs y cs (fun _ => True) (fun _ => False) hs hx (hM _ _ _) (fun _ hk => hk.elim) (fun _ _ => trivial) (Kd.wF hR (fun _ _ => trivial)) S.out.below S.out.below.size
  (Nat.le_trans (Nat.mul_le_mul (show xs.length + 1 ≤ 10000001 by omega) hbb) (by decide)) ?_
 intro v1 w1 hr hb hg hat
 obtain ⟨A1, c1, rfl⟩ := Kd.iG hr
 obtain ⟨o1, h1, h2⟩ := Nz hE hr (Nat.le_refl _)
 exact h A1 c1 o1 w1 ⟨S.out.DJ hb hg hat h1⟩ ⟨h2⟩
theorem OE (d : Kd α) (e : TypeId) (hE : d.E = []) (s x : Tmp) (t : TypeId) (z : Value) (bytes : Nat) (ht : Pr.underlying t = some (.slice e)) (hinfo : (Pr.info? e).map (fun i => (i.zero, i.size, i.bytes)) = some (some z, d.sz, bytes)) (hz : z.cells.size = d.sz) (hs0 : 0 < d.sz) (hb0 : 0 < bytes) (hbb : bytes ≤ 1000)
  (S : ae (St w P ((v.ownBlock, o) :: bs) ow ts ro W)) (hI : ae (KR d e w.heap.size v xs o)) (y : α) (cs : List Value) (hM : ∀ W b ok, d.M W b ok y cs) (hl : xs.length ≤ 10000000)
  (h : ∀ A1 c1 o1 w1, ae (St w P (((Value.slice A1 (xs ++ [y]).length c1).ownBlock, o1) :: bs) ow ts ro w1) → ae (KR d e w.heap.size (.slice A1 (xs ++ [y]).length c1) (xs ++ [y]) o1) → Kc (a.put op.dst (.slice A1 (xs ++ [y]).length c1)) w1)
  (hw : Region.wanted op (yielded ops a.tmps) = true := by rfl) (ho : op.op = .call { callee := .builtin .append, args := #[.tmp s, .tmp x], argTypes := #[t, t] } := by rfl) (hs : a.eval (.tmp s) = v := by rfl) (hx : a.eval (.tmp x) = .slice (some ⟨W.heap.size, 0, none⟩) 1 1 := by first | rfl | (go_simp; rfl)) :
  if Region.wanted op (yielded ops a.tmps) = true then Oper.wp Pr op a (W.alloc (.cells cs.toArray e)) Kc Q else Kc (a.put op.dst undef) (W.alloc (.cells cs.toArray e)) := by
 have hR := hI.out W (S.out.blk _ List.mem_cons_self)
 refine Kd.EE d (w0 := w) w.heap.size hw (.tmp s) (.tmp x) t e z bytes ho ht hinfo hz hs0 hb0 v xs y cs (fun _ => True) (fun _ => False) hs hx (hM _ _ _) (fun _ hk => hk.elim) (fun _ _ => trivial) (Kd.wF hR (fun _ _ => trivial)) S.out.below S.out.below.size
  (Nat.le_trans (Nat.mul_le_mul (show xs.length + 1 ≤ 10000001 by omega) hbb) (by decide)) ?_
 intro v1 w1 hr hb hg hat
 obtain ⟨A1, c1, rfl⟩ := Kd.iG hr
 obtain ⟨o1, h1, h2⟩ := Nz hE hr (Nat.le_refl _)
 exact h A1 c1 o1 w1 ⟨S.out.DJ hb hg hat h1⟩ ⟨h2⟩
theorem OG (d : Kd α) (e : TypeId) (hE : d.E = []) (s x : Tmp) (t : TypeId) (z : Value) (bytes : Nat) (ht : Pr.underlying t = some (.slice e)) (hinfo : (Pr.info? e).map (fun i => (i.zero, i.size, i.bytes)) = some (some z, d.sz, bytes)) (hz : z.cells.size = d.sz) (hs0 : 0 < d.sz) (hb0 : 0 < bytes) (hbb : bytes ≤ 1000)
  (S : ae (St w P ((v.ownBlock, o) :: bs) ow ts ro W)) (hI : ae (KR d e w.heap.size v xs o)) {A : Option Addr} {c : Nat} (ys : List α) (hC : d.C W A ys.length ys) (hK : ∀ W b ok y cs, d.K W y cs → d.M W b ok y cs) (hl : xs.length + ys.length ≤ 1000000000)
  (h : ∀ A1 c1 o1 w1, ae (St w P (((Value.slice A1 (xs ++ ys).length c1).ownBlock, o1) :: bs) ow ts ro w1) → ae (KR d e w.heap.size (.slice A1 (xs ++ ys).length c1) (xs ++ ys) o1) → wpList Pr ops Q rest (a.put op.dst (.slice A1 (xs ++ ys).length c1)) w1)
  (hgd : op.guard = none := by rfl) (ho : op.op = .call { callee := .builtin .append, args := #[.tmp s, .tmp x], argTypes := #[t, t] } := by rfl) (hs : a.eval (.tmp s) = v := by rfl) (hx : a.eval (.tmp x) = .slice A ys.length c := by rfl) :
  wpList Pr ops Q (op :: rest) a W := by
 have hR := hI.out W (S.out.blk _ List.mem_cons_self)
 refine Kd.z_ d (Rr := d.K W) (w0 := w) w.heap.size hgd (.tmp s) (.tmp x) t e z bytes ho ht hinfo hz hs0 hb0 v xs ys A ys.length c (fun _ => True) (fun _ => False) hs hx (Kd.wF hR (fun _ _ => trivial)) hC (fun y cs h => hK _ _ _ y cs h) (fun _ hk => hk.elim) (fun _ _ => trivial) S.out.below S.out.below.size
  (Nat.le_trans (Nat.mul_le_mul hl hbb) (by decide)) ?_
 intro v1 w1 hr hb hg hat
 obtain ⟨A1, c1, rfl⟩ := Kd.iG hr
 obtain ⟨o1, h1, h2⟩ := Nz hE hr (Nat.le_refl _)
 exact h A1 c1 o1 w1 ⟨S.out.DJ hb hg hat h1⟩ ⟨h2⟩
end
section
variable {w W W1 : World} {P : Nat → Prop} {bs : List (Option Nat × Obj)} {ow : List (Value × List ai)} {ts : List (Value × List ai)} {ro : List (Addr × Value)}
theorem St.agQ (new : List (Option Nat × Obj)) (S : St w P bs ow ts ro W) (hk : ∀ p, p ∈ new → ∀ g, p.1 = some g → W.heap.size ≤ g ∧ W1.heap[g]? = some p.2) (hnd : (new.filterMap (·.1)).Nodup) (hb : Below W.heap.size W W1) : St w P (new ++ bs) ow ts ro W1 := by
 have ke : keys (new ++ bs) ow = new.filterMap (·.1) ++ keys bs ow := by unfold keys; rw [List.filterMap_append, List.append_assoc]
 have hn : ∀ k, k ∈ new.filterMap (·.1) → W.heap.size ≤ k ∧ k < W1.heap.size := fun k h => by
  obtain ⟨p, hp, he⟩ := List.mem_filterMap.1 h
  exact ⟨(hk p hp k he).1, gJ (hk p hp k he).2⟩
 have hnot : ∀ k, k < W.heap.size → k ∉ keys bs ow → k ∉ keys (new ++ bs) ow := fun k h1 h2 h3 => by
  rw [ke] at h3
  rcases List.mem_append.1 h3 with h | h
  ·have := (hn k h).1; omega
  ·exact h2 h
 refine ⟨au S.below hb, fun p hp g hg => ?_, fun k h => ?_, ?_, fun t ht => ?_, fun r hr => ?_, fun c hc => ?_⟩
 ·rcases List.mem_append.1 hp with h | h
  ·exact (hk p h g hg).2
  ·exact aQ (S.blk p h g hg) hb
 ·rw [ke] at h
  rcases List.mem_append.1 h with h | h
  ·exact ⟨Nat.le_trans S.below.size (hn k h).1, (hn k h).2⟩
  ·exact ⟨(S.new k h).1, Nat.lt_of_lt_of_le (S.new k h).2 hb.size⟩
 ·rw [ke]
  refine List.nodup_append.2 ⟨hnd, S.nd, fun x hx y hy => ?_⟩
  rintro rfl
  have := (hn x hx).1
  have := S.lt hy
  omega
 ·exact Kd.iq (Kd.jT (Kd.Dq (S.tree t ht)) hb) (fun k h => ⟨h.1.1, hnot k h.2 h.1.2⟩)
 ·exact Kd.jq (Kd.qY (Kd.Dp (S.own r hr)) hb) (fun k h => h.1.imp (fun h1 => ⟨h1.1, hnot k h.2 h1.2⟩) id)
 ·exact ⟨(hb.cell (World.block_lt_of_cell? W _ (S.cell c hc).1)).trans (S.cell c hc).1, hnot _ (World.block_lt_of_cell? W _ (S.cell c hc).1) (S.cell c hc).2⟩
structure Two {α β : Type} (d : Kd α) (e : TypeId) (d' : Kd β) (e' : TypeId) (w w' : World) (v : Value) (l : List α) (v' : Value) (l' : List β) (o o' : Obj) : Prop where
 one : KR d e w.heap.size v l o
 two : KR d' e' w.heap.size v' l' o'
 at1 : ∀ g, v.ownBlock = some g → w.heap.size ≤ g ∧ w'.heap[g]? = some o
 at2 : ∀ g, v'.ownBlock = some g → w.heap.size ≤ g ∧ w'.heap[g]? = some o'
 ne : ∀ g, v.ownBlock = some g → v'.ownBlock ≠ some g
theorem DN {α : Type} {d : Kd α} {e : TypeId} {b b' : Nat} {v : Value} {l : List α} {o : Obj} (h : KR d e b v l o) (hb : b' ≤ b) : KR d e b' v l o := fun W hW => Kd.rf (h W hW) hb
theorem St.two {α β : Type} {d : Kd α} {e : TypeId} {d' : Kd β} {e' : TypeId} {v v' : Value} {l : List α} {l' : List β} {o o' : Obj} (S : St w P bs ow ts ro W) (h : Two d e d' e' W W1 v l v' l' o o') (hb : Below W.heap.size W W1) :
  St w P ((v.ownBlock, o) :: (v'.ownBlock, o') :: bs) ow ts ro W1 ∧ KR d e w.heap.size v l o ∧ KR d' e' w.heap.size v' l' o' := by
 refine ⟨S.agQ [(v.ownBlock, o), (v'.ownBlock, o')] (fun p hp g hg => ?_) ?_ hb, DN h.one S.below.size, DN h.two S.below.size⟩
 ·simp only [List.mem_cons, List.not_mem_nil, or_false] at hp
  rcases hp with rfl | rfl
  ·exact h.at1 g hg
  ·exact h.at2 g hg
 ·cases h1 : v.ownBlock with
  | none => cases h2 : v'.ownBlock <;> simp
  | some g =>
   have hn := h.ne g h1
   cases h2 : v'.ownBlock with
   | none => simp
   | some g' =>
    rw [h2] at hn
    simp
    intro he
    exact hn (by rw [he])
theorem St.WE {α β : Type} {d : Kd α} {e : TypeId} {d' : Kd β} {e' : TypeId} {v v' : Value} {l : List α} {l' : List β} {o o' : Obj} (S : St w P ((v.ownBlock, o) :: (v'.ownBlock, o') :: bs) ow ts ro W) (h1 : KR d e w.heap.size v l o) (h2 : KR d' e' w.heap.size v' l' o') : Two d e d' e' w W v l v' l' o o' := by
 refine ⟨h1, h2, fun g hg => ⟨(S.new g (mem_keys (List.mem_cons_self) hg)).1, S.blk _ List.mem_cons_self g hg⟩, fun g hg => ⟨(S.new g (mem_keys (List.mem_cons_of_mem _ List.mem_cons_self) hg)).1, S.blk _ (List.mem_cons_of_mem _ List.mem_cons_self) g hg⟩, fun g hg hg2 => ?_⟩
 have hnd := S.nd
 unfold keys at hnd
 rw [List.filterMap_cons, List.filterMap_cons, hg, hg2] at hnd
 exact (List.nodup_cons.1 hnd).1 (by simp)
theorem St.IG {α : Type} {d : Kd α} {e : TypeId} {v : Value} {l : List α} {o : Obj} (S : St w P bs ow ts ro W) (h : KR d e w.heap.size v l o) (hm : (v.ownBlock, o) ∈ bs) : d.R e W w.heap.size (fun _ => True) v l := Kd.wF (Ob h S hm) (fun _ _ => trivial)
end
def tX (ax X Y : Int) : Int := if ax = 2 then Y else X
def Ad (ax X Y W H : Int) : Int → List Int → List dO
 | _, [] => []
 | off, n :: ns => (⟨tX ax (tX ax X Y + off) (tX ax Y X), tX ax (tX ax Y X) (tX ax X Y + off), tX ax n (tX ax H W), tX ax (tX ax H W) n⟩ : dO) :: Ad ax X Y W H (off + n + 1) ns
theorem O5 (ax X Y W H : Int) : ∀ (ns : List Int) (off : Int), (Ad ax X Y W H off ns).length = ns.length := by
 intro ns
 induction ns with
 | nil => intro off; rfl
 | cons n ns ih => intro off; simp [Ad, ih]
def pM (ax s t e n : Int) : dO := ⟨tX ax s t, tX ax t s, tX ax n e, tX ax e n⟩
def pI (ax s t d e : Int) : Int → Bool → List dO → List dO → List Int → List dO × List dO × Bool
 | off, _, ps, ls, [] => if off = d then (ps, ls, true) else ([], [], false)
 | off, fst, ps, ls, n :: ns => if n < 1 ∨ d < (if fst then off else off + 1) + n then ([], [], false) else
  pI ax s t d e ((if fst then off else off + 1) + n) false (ps ++ [pM ax (s + (if fst then off else off + 1)) t e n]) (if fst then ls else ls ++ [pM ax (s + off) t e 1]) ns
def sH (X Y W H ax : Int) (sizes : List Int) : List dO × List dO × Bool :=
 if (ax = 1 ∨ ax = 2) ∧ qc X Y W H = true ∧ sizes ≠ [] then pI ax (tX ax X Y) (tX ax Y X) (tX ax W H) (tX ax H W) 0 true [] [] sizes else ([], [], false)
theorem X0 (ax s t d e : Int) : ∀ (ns : List Int) (off : Int) (f : Bool) (ps ls : List dO), (pI ax s t d e off f ps ls ns).1.length ≤ ps.length + ns.length ∧ (pI ax s t d e off f ps ls ns).2.1.length ≤ ls.length + ns.length := by
 intro ns
 induction ns with
 | nil => intro off f ps ls; unfold pI; split <;> simp
 | cons n ns ih =>
  intro off f ps ls
  unfold pI
  have hl : (if f then ls else ls ++ [pM ax (s + off) t e 1]).length ≤ ls.length + 1 := by cases f <;> simp
  generalize (if f then ls else ls ++ [pM ax (s + off) t e 1]) = ls' at hl ⊢
  generalize (if f then off else off + 1) = o
  by_cases hc : n < 1 ∨ d < o + n
  ·rw [if_pos hc]; simp
  ·rw [if_neg hc]
   have h := ih (o + n) false (ps ++ [pM ax (s + o) t e n]) ls'
   rw [List.length_append, List.length_singleton] at h
   rw [List.length_cons]
   omega
theorem U_ (ax X Y W H : Int) : ∀ (ns : List Int) (off : Int) (f : Bool) (ps ls : List dO), (pI ax (tX ax X Y) (tX ax Y X) (tX ax W H) (tX ax H W) off f ps ls ns).2.2 = true →
  (pI ax (tX ax X Y) (tX ax Y X) (tX ax W H) (tX ax H W) off f ps ls ns).1 = ps ++ Ad ax X Y W H (if f then off else off + 1) ns ∧ off + ns.sum + (ns.length : Int) - (if f ∧ ns ≠ [] then 1 else 0) = tX ax W H ∧ ∀ m, m ∈ ns → 1 ≤ m := by
 intro ns
 induction ns with
 | nil =>
  intro off f ps ls h
  unfold pI at h ⊢
  split at h
  ·rename_i ho
   rw [if_pos ho]
   exact ⟨by simp [Ad], by simp [ho], fun m hm => by cases hm⟩
  ·cases h
 | cons n ns ih =>
  intro off f ps ls h
  unfold pI at h ⊢
  by_cases hn : n < 1 ∨ tX ax W H < (if f then off else off + 1) + n
  ·rw [if_pos hn] at h; cases h
  ·rw [if_neg hn] at h ⊢
   obtain ⟨h1, h2, h3⟩ := ih _ _ _ _ h
   refine ⟨?_, ?_, fun m hm => ?_⟩
   ·rw [h1, List.append_assoc]
    cases f <;> rfl
   ·rw [List.sum_cons, List.length_cons]
    cases f with
    | false => simp only [Bool.false_eq_true, if_false, false_and] at h2 ⊢; omega
    | true => simp only [Bool.false_eq_true, if_false, if_true, false_and] at h2 ⊢; rw [if_pos (by simp)]; omega
   ·rcases List.mem_cons.1 hm with rfl | hm
    ·omega
    ·exact h3 m hm
theorem Le : ∀ (l : List Int), (∀ m, m ∈ l → 1 ≤ m) → (l.length : Int) ≤ l.sum := by
 intro l
 induction l with
 | nil => intro _; simp
 | cons x xs ih =>
  intro h
  have h1 := h x (by simp)
  have h2 := ih (fun m hm => h m (by simp [hm]))
  rw [List.sum_cons, List.length_cons]
  omega
theorem aaC (ax s t d e : Int) : ∀ (ns : List Int) (off : Int) (f : Bool) (ps ls : List dO), off + ns.sum + (ns.length : Int) - (if f ∧ ns ≠ [] then 1 else 0) = d → (∀ m, m ∈ ns → 1 ≤ m) → (pI ax s t d e off f ps ls ns).2.2 = true := by
 intro ns
 induction ns with
 | nil =>
  intro off f ps ls h _
  unfold pI
  simp at h
  rw [if_pos h]
 | cons n ns ih =>
  intro off f ps ls h hp
  have hn := hp n (by simp)
  have hr := Le ns (fun m hm => hp m (by simp [hm]))
  unfold pI
  rw [List.sum_cons, List.length_cons] at h
  rw [if_neg (by
   cases f with
   | false => simp only [Bool.false_eq_true, if_false, false_and] at h ⊢; omega
   | true => simp only [if_true] at h ⊢; rw [if_pos (by simp)] at h; omega)]
  refine ih _ _ _ _ ?_ (fun m hm => hp m (by simp [hm]))
  cases f with
  | false => simp only [Bool.false_eq_true, if_false, false_and] at h ⊢; omega
  | true => simp only [Bool.false_eq_true, if_false, if_true, false_and] at h ⊢; rw [if_pos (by simp)] at h; omega
theorem XZ (X Y W H ax : Int) (sizes : List Int) : (sH X Y W H ax sizes).1.length ≤ sizes.length ∧ (sH X Y W H ax sizes).2.1.length ≤ sizes.length := by
 unfold sH
 split
 ·have := X0 ax (tX ax X Y) (tX ax Y X) (tX ax W H) (tX ax H W) sizes 0 true [] []
  simpa using this
 ·simp
theorem U9 {X Y W H ax : Int} {sizes : List Int} (h : (sH X Y W H ax sizes).2.2 = true) : (ax = 1 ∨ ax = 2) ∧ (sH X Y W H ax sizes).1 = Ad ax X Y W H 0 sizes ∧ sizes.sum + (sizes.length : Int) - 1 = tX ax W H ∧ ∀ m, m ∈ sizes → 1 ≤ m := by
 unfold sH at h ⊢
 split at h
 ·rename_i hc
  rw [if_pos hc]
  obtain ⟨h1, h2, h3⟩ := U_ ax X Y W H sizes 0 true [] [] h
  rw [if_pos ⟨rfl, hc.2.2⟩] at h2
  exact ⟨hc.1, by simpa using h1, by omega, h3⟩
 ·cases h
theorem aaB {X Y W H ax : Int} {sizes : List Int} (hax : ax = 1 ∨ ax = 2) (hm : qc X Y W H = true) (hne : sizes ≠ []) (hs : sizes.sum + (sizes.length : Int) - 1 = tX ax W H) (hp : ∀ m, m ∈ sizes → 1 ≤ m) : (sH X Y W H ax sizes).2.2 = true := by
 unfold sH
 rw [if_pos ⟨hax, hm, hne⟩]
 exact aaC _ _ _ _ _ _ _ _ _ _ (by rw [if_pos ⟨rfl, hne⟩]; omega) hp
end Go.Proofs.Ytfdmfgaiblfbhaa.P
namespace Go.Proofs.Ytfdmfgaiblfbhaa.P
open Go.RowKit Go.Proofs.ag.aV Go.Proofs.ag.bP Go.Proofs.ag.cO
attribute [local go_sem] kJ kS lM l7 lI lJ mJ mO
def qN.f (az : Int) (aK : Int) (aI : Int) (aJ : Int) (a1 : Int) : Option (Int × Int × Int × Int × Bool) := if a1 = 2 then (some (aK, az, aJ, aI, true)) else (if a1 = 1 then (some (az, aK, aI, aJ, true)) else (some (0, 0, 0, 0, false)))
theorem qN.calls (az : Int) (aK : Int) (aI : Int) (aJ : Int) (a1 : Int) (r1 : Int) (r2 : Int) (r3 : Int) (r4 : Int) (r5 : Bool) (w : World) (h : qN.f az aK aI aJ a1 = some (r1, r2, r3, r4, r5)) :
  Calls Try.prog 127 #[.agg #[.int .i64 az, .int .i64 aK, .int .i64 aI, .int .i64 aJ], .int .u8 a1] w fun e w' => e = .returned (.tuple #[.agg #[.int .i64 r1, .int .i64 r2, .int .i64 r3, .int .i64 r4], .bool r5]) ∧ Below w.heap.size w w' := by
 have PS := Try.underlying23
 have HB := ae.mk (Below.refl w.heap.size w)
 have H : (if a1 = 2 then (some (aK, az, aJ, aI, true)) else (if a1 = 1 then (some (az, aK, aI, aJ, true)) else (some (0, 0, 0, 0, false)))) = some (r1, r2, r3, r4, r5) := h
 clear h
 by_cases c3 : a1 = 2
 ·rw [if_pos c3] at H
  have vW : (a1 == 2) = true := beq_iff_eq.mpr c3
  have BA : (a1 != 2) = false := bne_eq_false_iff_eq.mpr c3
  clear c3
  simp only [Option.some.injEq, Prod.mk.injEq] at H
  obtain ⟨rfl, rfl, rfl, rfl, rfl⟩ := H
  go_enter Try.func127, Try.ntmps127
  go_wp2_with (first | ((with_reducible refine aG (N := 2) rfl ?_); refine aU ?hg (N := 2) ?hd (cs := #[.int .i64 az, .int .i64 aK, .int .i64 aI, .int .i64 aJ]) (t := 23) ?hr ?_; (case hd => rfl); (case hg => rfl); (case hr => (go_simp; done)); intro oU hg w4 hbox hb; have kz := ae.mk (hbox); have SH := ae.mk ((by rw [hg]; exact (fB (by repeat ((with_reducible exact HB.out)))) : w.heap.size ≤ oU)); replace HB := ae.mk (au (by repeat ((with_reducible exact HB.out))) hb); clear hb hbox hg) | ((with_reducible refine aG (N := 4) rfl ?_); refine aU ?hg (N := 4) ?hd (cs := #[.int .i64 0, .int .i64 0, .int .i64 0, .int .i64 0]) (t := 23) ?hr ?_; (case hd => rfl); (case hg => rfl); (case hr => (go_simp; done)); intro lD hg w5 hbox hb; have kK := ae.mk (hbox); have I8 := ae.mk ((by rw [hg]; exact (fB (by repeat ((with_reducible exact HB.out)))) : w.heap.size ≤ lD)); have zq := ae.mk ((by rw [hg]; exact Nat.ne_of_lt (gJ kz.out) : oU ≠ lD)); have ql := ae.mk ((by rw [hg]; exact Nat.ne_of_gt (gJ kz.out) : lD ≠ oU)); replace kz := ae.mk (aQ kz.out hb); replace HB := ae.mk (au (by repeat ((with_reducible exact HB.out))) hb); clear hb hbox hg; have amx := zq.out; have amy := ql.out; have ae7 : w5.cell? ⟨oU, 0, none⟩ = some (.int .i64 az) := (af kz.out 0).trans rfl; have ae8 : w5.cell? ⟨oU, 1, none⟩ = some (.int .i64 aK) := (af kz.out 1).trans rfl; have ae9 : w5.cell? ⟨oU, 2, none⟩ = some (.int .i64 aI) := (af kz.out 2).trans rfl; have ae_ : w5.cell? ⟨oU, 3, none⟩ = some (.int .i64 aJ) := (af kz.out 3).trans rfl; have afk := ah kz.out 0; have afl := ah kz.out 1; have afm := ah kz.out 2; have afn := ah kz.out 3; have Vu : w5.cell? ⟨lD, 0, none⟩ = some (.int .i64 0) := (af kK.out 0).trans rfl; have Vw : w5.cell? ⟨lD, 1, none⟩ = some (.int .i64 0) := (af kK.out 1).trans rfl; have Vx : w5.cell? ⟨lD, 2, none⟩ = some (.int .i64 0) := (af kK.out 2).trans rfl; have Vy : w5.cell? ⟨lD, 3, none⟩ = some (.int .i64 0) := (af kK.out 3).trans rfl; have VN := ah kK.out 0; have VO := ah kK.out 1; have VQ := ah kK.out 2; have VR := ah kK.out 3))
  refine bodyPost_ret (eH rfl _ _ lD 23 _ (0, 0) _ rfl (by refine kP (cs := #[.int .i64 aK, .int .i64 az, .int .i64 aJ, .int .i64 aI]) ?_ 3 _ rfl; refine kP (cs := #[.int .i64 aK, .int .i64 az, .int .i64 aJ, .int .i64 aI]) ?_ 2 _ rfl; refine kP (cs := #[.int .i64 aK, .int .i64 az, .int .i64 aJ, .int .i64 aI]) ?_ 1 _ rfl; refine kP (cs := #[.int .i64 aK, .int .i64 az, .int .i64 aJ, .int .i64 aI]) ?_ 0 _ rfl; refine kP (cs := #[.int .i64 aK, .int .i64 az, .int .i64 aJ, .int .i64 0]) ?_ 3 _ rfl; refine kP (cs := #[.int .i64 aK, .int .i64 az, .int .i64 0, .int .i64 0]) ?_ 2 _ rfl; refine kP (cs := #[.int .i64 aK, .int .i64 0, .int .i64 0, .int .i64 0]) ?_ 1 _ rfl; refine kP (cs := #[.int .i64 0, .int .i64 0, .int .i64 0, .int .i64 0]) ?_ 0 _ rfl; refine Gw ?_ ql.out _; refine Gw ?_ ql.out _; refine Gw ?_ ql.out _; refine Gw ?_ ql.out _; exact kK.out) Try.underlying23 rfl (by kernel_rfl)) rfl ?_
  exact ⟨by rfl, by repeat ((with_reducible first | exact HB.out | refine nZ ?_ SH.out | refine nZ ?_ I8.out))⟩
 ·rw [if_neg c3] at H
  have vW : (a1 == 2) = false := beq_eq_false_iff_ne.mpr c3
  have BA : (a1 != 2) = true := bne_iff_ne.mpr c3
  by_cases c9 : a1 = 1
  ·rw [if_pos c9] at H
   have OQ : (a1 == 1) = true := beq_iff_eq.mpr c9
   have aiu : (a1 != 1) = false := bne_eq_false_iff_eq.mpr c9
   clear c9
   simp only [Option.some.injEq, Prod.mk.injEq] at H
   obtain ⟨rfl, rfl, rfl, rfl, rfl⟩ := H
   go_enter Try.func127, Try.ntmps127
   go_wp2_with (first | ((with_reducible refine aG (N := 2) rfl ?_); refine aU ?hg (N := 2) ?hd (cs := #[.int .i64 az, .int .i64 aK, .int .i64 aI, .int .i64 aJ]) (t := 23) ?hr ?_; (case hd => rfl); (case hg => rfl); (case hr => (go_simp; done)); intro oU hg w10 hbox hb; have kz := ae.mk (hbox); have SH := ae.mk ((by rw [hg]; exact (fB (by repeat ((with_reducible exact HB.out)))) : w.heap.size ≤ oU)); replace HB := ae.mk (au (by repeat ((with_reducible exact HB.out))) hb); clear hb hbox hg) | ((with_reducible refine aG (N := 4) rfl ?_); refine aU ?hg (N := 4) ?hd (cs := #[.int .i64 0, .int .i64 0, .int .i64 0, .int .i64 0]) (t := 23) ?hr ?_; (case hd => rfl); (case hg => rfl); (case hr => (go_simp; done)); intro lD hg CZ hbox hb; have kK := ae.mk (hbox); have I8 := ae.mk ((by rw [hg]; exact (fB (by repeat ((with_reducible exact HB.out)))) : w.heap.size ≤ lD)); have zq := ae.mk ((by rw [hg]; exact Nat.ne_of_lt (gJ kz.out) : oU ≠ lD)); have ql := ae.mk ((by rw [hg]; exact Nat.ne_of_gt (gJ kz.out) : lD ≠ oU)); replace kz := ae.mk (aQ kz.out hb); replace HB := ae.mk (au (by repeat ((with_reducible exact HB.out))) hb); clear hb hbox hg; have al5 := zq.out; have al7 := ql.out; have aaT : CZ.cell? ⟨oU, 0, none⟩ = some (.int .i64 az) := (af kz.out 0).trans rfl; have aaU : CZ.cell? ⟨oU, 1, none⟩ = some (.int .i64 aK) := (af kz.out 1).trans rfl; have aaV : CZ.cell? ⟨oU, 2, none⟩ = some (.int .i64 aI) := (af kz.out 2).trans rfl; have aaW : CZ.cell? ⟨oU, 3, none⟩ = some (.int .i64 aJ) := (af kz.out 3).trans rfl; have abw := ah kz.out 0; have abx := ah kz.out 1; have aby := ah kz.out 2; have abz := ah kz.out 3; have Kt : CZ.cell? ⟨lD, 0, none⟩ = some (.int .i64 0) := (af kK.out 0).trans rfl; have Ku : CZ.cell? ⟨lD, 1, none⟩ = some (.int .i64 0) := (af kK.out 1).trans rfl; have Kv : CZ.cell? ⟨lD, 2, none⟩ = some (.int .i64 0) := (af kK.out 2).trans rfl; have Kw : CZ.cell? ⟨lD, 3, none⟩ = some (.int .i64 0) := (af kK.out 3).trans rfl; have Ky := ah kK.out 0; have Kz := ah kK.out 1; have KA := ah kK.out 2; have KC := ah kK.out 3))
   refine bodyPost_ret (eH rfl _ _ lD 23 _ (0, 0) _ rfl (by refine kP (cs := #[.int .i64 az, .int .i64 aK, .int .i64 aI, .int .i64 aJ]) ?_ 3 _ rfl; refine kP (cs := #[.int .i64 az, .int .i64 aK, .int .i64 aI, .int .i64 aJ]) ?_ 2 _ rfl; refine kP (cs := #[.int .i64 az, .int .i64 aK, .int .i64 aI, .int .i64 aJ]) ?_ 1 _ rfl; refine kP (cs := #[.int .i64 az, .int .i64 aK, .int .i64 aI, .int .i64 aJ]) ?_ 0 _ rfl; refine kP (cs := #[.int .i64 az, .int .i64 aK, .int .i64 aI, .int .i64 0]) ?_ 3 _ rfl; refine kP (cs := #[.int .i64 az, .int .i64 aK, .int .i64 0, .int .i64 0]) ?_ 2 _ rfl; refine kP (cs := #[.int .i64 az, .int .i64 0, .int .i64 0, .int .i64 0]) ?_ 1 _ rfl; refine kP (cs := #[.int .i64 0, .int .i64 0, .int .i64 0, .int .i64 0]) ?_ 0 _ rfl; exact kK.out) Try.underlying23 rfl (by kernel_rfl)) rfl ?_
   exact ⟨by rfl, by repeat ((with_reducible first | exact HB.out | refine nZ ?_ I8.out))⟩
  ·rw [if_neg c9] at H
   have OQ : (a1 == 1) = false := beq_eq_false_iff_ne.mpr c9
   have aiu : (a1 != 1) = true := bne_iff_ne.mpr c9
   simp only [Option.some.injEq, Prod.mk.injEq] at H
   obtain ⟨rfl, rfl, rfl, rfl, rfl⟩ := H
   go_enter Try.func127, Try.ntmps127
   go_wp2_with (first | ((with_reducible refine aG (N := 2) rfl ?_); refine aU ?hg (N := 2) ?hd (cs := #[.int .i64 az, .int .i64 aK, .int .i64 aI, .int .i64 aJ]) (t := 23) ?hr ?_; (case hd => rfl); (case hg => rfl); (case hr => (go_simp; done)); intro oU hg vU hbox hb; have kz := ae.mk (hbox); have SH := ae.mk ((by rw [hg]; exact (fB (by repeat ((with_reducible exact HB.out)))) : w.heap.size ≤ oU)); replace HB := ae.mk (au (by repeat ((with_reducible exact HB.out))) hb); clear hb hbox hg) | ((with_reducible refine aG (N := 4) rfl ?_); refine aU ?hg (N := 4) ?hd (cs := #[.int .i64 0, .int .i64 0, .int .i64 0, .int .i64 0]) (t := 23) ?hr ?_; (case hd => rfl); (case hg => rfl); (case hr => (go_simp; done)); intro lD hg w16 hbox hb; have kK := ae.mk (hbox); have I8 := ae.mk ((by rw [hg]; exact (fB (by repeat ((with_reducible exact HB.out)))) : w.heap.size ≤ lD)); have zq := ae.mk ((by rw [hg]; exact Nat.ne_of_lt (gJ kz.out) : oU ≠ lD)); have ql := ae.mk ((by rw [hg]; exact Nat.ne_of_gt (gJ kz.out) : lD ≠ oU)); replace kz := ae.mk (aQ kz.out hb); replace HB := ae.mk (au (by repeat ((with_reducible exact HB.out))) hb); clear hb hbox hg; have al6 := ql.out; have al8 := zq.out; have aa3 : w16.cell? ⟨lD, 0, none⟩ = some (.int .i64 0) := (af kK.out 0).trans rfl; have aa4 : w16.cell? ⟨lD, 1, none⟩ = some (.int .i64 0) := (af kK.out 1).trans rfl; have aa5 : w16.cell? ⟨lD, 2, none⟩ = some (.int .i64 0) := (af kK.out 2).trans rfl; have aa6 : w16.cell? ⟨lD, 3, none⟩ = some (.int .i64 0) := (af kK.out 3).trans rfl; have abH := ah kK.out 0; have abI := ah kK.out 1; have abJ := ah kK.out 2; have abK := ah kK.out 3))
   refine bodyPost_ret (eH rfl _ _ lD 23 _ (0, 0) _ rfl (by refine kP (cs := #[.int .i64 0, .int .i64 0, .int .i64 0, .int .i64 0]) ?_ 3 _ rfl; refine kP (cs := #[.int .i64 0, .int .i64 0, .int .i64 0, .int .i64 0]) ?_ 2 _ rfl; refine kP (cs := #[.int .i64 0, .int .i64 0, .int .i64 0, .int .i64 0]) ?_ 1 _ rfl; refine kP (cs := #[.int .i64 0, .int .i64 0, .int .i64 0, .int .i64 0]) ?_ 0 _ rfl; exact kK.out) Try.underlying23 rfl (by kernel_rfl)) rfl ?_
   exact ⟨by rfl, by repeat ((with_reducible first | exact HB.out | refine nZ ?_ I8.out))⟩
end Go.Proofs.Ytfdmfgaiblfbhaa.P
namespace Go.Proofs.Ytfdmfgaiblfbhaa.P
open Go.RowKit Go.Proofs.ag.aV Go.Proofs.ag.bP Go.Proofs.ag.cO
section
variable {W : World}
theorem QH {ax : Int} (h : ax = 1 ∨ ax = 2) (X Y W H : Int) : qN.f X Y W H ax = some (tX ax X Y, tX ax Y X, tX ax W H, tX ax H W, true) := by
 unfold qN.f tX
 rcases h with rfl | rfl
 ·rfl
 ·rfl
theorem I4 {ax : Int} (h : ax = 1 ∨ ax = 2) (x y u v : Int) : Calls Try.prog 127 #[.agg #[.int .i64 x, .int .i64 y, .int .i64 u, .int .i64 v], .int .u8 ax] W fun e w' => e = .returned (.tuple #[.agg #[.int .i64 (tX ax x y), .int .i64 (tX ax y x), .int .i64 (tX ax u v), .int .i64 (tX ax v u)], .bool true]) ∧ Below W.heap.size W w' :=
 qN.calls _ _ _ _ _ _ _ _ _ _ W (QH h x y u v)
theorem Xi {ax : Int} (h : ¬ (ax = 1 ∨ ax = 2)) (x y u v : Int) : Calls Try.prog 127 #[.agg #[.int .i64 x, .int .i64 y, .int .i64 u, .int .i64 v], .int .u8 ax] W fun e w' => e = .returned (.tuple #[.agg #[.int .i64 0, .int .i64 0, .int .i64 0, .int .i64 0], .bool false]) ∧ Below W.heap.size W w' :=
 qN.calls _ _ _ _ _ _ _ _ _ _ W (by unfold qN.f; rw [if_neg (fun e => h (.inr e)), if_neg (fun e => h (.inl e))])
theorem Qb {x y u v : Int} {b : Bool} (h : qc x y u v = b) : Calls Try.prog 128 #[.agg #[.int .i64 x, .int .i64 y, .int .i64 u, .int .i64 v]] W fun e w' => e = .returned (.bool b) ∧ Below W.heap.size W w' :=
 yR.calls _ _ _ _ _ W ((PZ _ _ _ _).trans (congrArg some h))
theorem F8 {x y u v : Int} {b : Bool} (h : qc x y u v = b) : Calls Try.prog 57 #[.agg #[.int .i64 x, .int .i64 y, .int .i64 u, .int .i64 v]] W fun e w' => e = .returned (.bool b) ∧ Below W.heap.size W w' :=
 qh.calls _ _ _ _ _ W ((Hr _ _ _ _).trans (congrArg some h))
end
abbrev NQ (w : World) (t : List dO × List dO × Bool) (e : Ending) (w' : World) : Prop := ∃ A c A' c' o o', e = .returned (.tuple #[.slice A t.1.length c, .slice A' t.2.1.length c', .bool t.2.2]) ∧ (t.2.2 = true → Two k23 23 k23 23 w w' (.slice A t.1.length c) t.1 (.slice A' t.2.1.length c') t.2.1 o o') ∧ Below w.heap.size w w'
theorem BI {X Y W H ax : Int} {sizes : List Int} (h : ¬ (ax = 1 ∨ ax = 2) ∨ qc X Y W H = false ∨ sizes.length = 0) : sH X Y W H ax sizes = ([], [], false) := by
 unfold sH
 refine if_neg (fun hc => ?_)
 rcases h with h | h | h
 ·exact h hc.1
 ·rw [hc.2.1] at h; cases h
 ·exact hc.2.2 (List.eq_nil_of_length_eq_zero h)
theorem Va {X Y W H ax : Int} {sizes : List Int} (h1 : ax = 1 ∨ ax = 2) (h2 : qc X Y W H = true) (h3 : sizes.length ≠ 0) : sH X Y W H ax sizes = pI ax (tX ax X Y) (tX ax Y X) (tX ax W H) (tX ax H W) 0 true [] [] sizes := by
 unfold sH
 exact if_pos ⟨h1, h2, fun h => h3 (by rw [h]; rfl)⟩
theorem O4 {ax s t d e off : Int} {f : Bool} {ps ls : List dO} {R : List dO × List dO × Bool} (h : pI ax s t d e off f ps ls [] = R) : R = if off = d then (ps, ls, true) else ([], [], false) := h.symm
def Dc (ax s t d e o : Int) (ps ls : List dO) (n : Int) (ns : List Int) : List dO × List dO × Bool := if n < 1 ∨ d < o + n then ([], [], false) else pI ax s t d e (o + n) false (ps ++ [pM ax (s + o) t e n]) ls ns
theorem Dw {ax s t d e o : Int} {ps ls : List dO} {n : Int} {ns : List Int} (h : n < 1 ∨ d < o + n) : Dc ax s t d e o ps ls n ns = ([], [], false) := if_pos h
theorem QV {ax s t d e o : Int} {ps ls : List dO} {n : Int} {ns : List Int} (h : ¬ (n < 1 ∨ d < o + n)) : Dc ax s t d e o ps ls n ns = pI ax s t d e (o + n) false (ps ++ [pM ax (s + o) t e n]) ls ns := if_neg h
theorem Xh {X Y W H ax : Int} (h1 : ax = 1 ∨ ax = 2) (h2 : qc X Y W H = true) : 0 ≤ tX ax X Y ∧ 1 ≤ tX ax W H ∧ tX ax X Y + tX ax W H ≤ 10000 := by
 have hm := xM.1 h2
 unfold tX
 rcases h1 with rfl | rfl
 ·rw [if_neg (by omega), if_neg (by omega)]; omega
 ·rw [if_pos rfl, if_pos rfl]; omega
end Go.Proofs.Ytfdmfgaiblfbhaa.P
namespace Go.Proofs.Ytfdmfgaiblfbhaa.P
open Go.RowKit Go.Proofs.ag.aV Go.Proofs.ag.bP Go.Proofs.ag.cO
attribute [local go_sem] kJ kS lM l7 lI lJ mJ mO
theorem ag8 (d : Nat) (w : World) (x0 y0 : Int) (x1 y1 : Int) (x2 y2 : Int) (x3 y3 : Int) :
  (Op.equalIn (d + 2) 23 (.agg #[.int .i64 x0, .int .i64 x1, .int .i64 x2, .int .i64 x3]) (.agg #[.int .i64 y0, .int .i64 y1, .int .i64 y2, .int .i64 y3])).run Try.prog w = .ok (x0 == y0 && (x1 == y1 && (x2 == y2 && (x3 == y3)))) w := by
 refine aeA Try.underlying23 (by kernel_rfl) ?_
 refine Iq (by rfl) (by go_simp; rfl) (by go_simp; rfl) (by go_simp) ?_
 refine Iq (by rfl) (by go_simp; rfl) (by go_simp; rfl) (by go_simp) ?_
 refine Iq (by rfl) (by go_simp; rfl) (by go_simp; rfl) (by go_simp) ?_
 exact X_ (by rfl) (by go_simp; rfl) (by go_simp; rfl) (by go_simp)
end Go.Proofs.Ytfdmfgaiblfbhaa.P
namespace Go.Proofs.Ytfdmfgaiblfbhaa.P
open Go.RowKit Go.Proofs.ag.aV Go.Proofs.ag.bP Go.Proofs.ag.cO
attribute [local go_sem] kJ kS lM l7 lI lJ mJ mO
attribute [local go_sem high] ag8
mutual
def jJ.j0 : Nat → Bool → Int → Int → Int → Int → Int → Int → List (ai) → Int → Int → Int → Int → Int → Int → List (ai) → Option (Bool)
 | 0, _, _, _, _, _, _, _, _, _, _, _, _, _, _, _ => none
 | k + 1, x33, LH, LJ, LM, LP, LQ, LV, qi, LW, LX, LY, LZ, L6, L8, rP => if x33 = true then (some false) else (jJ.l0 k (qi.length : Int) 0 LH LJ LM LP LQ LV qi LW LX LY LZ L6 L8 rP)
def jJ.l0 : Nat → Int → Int → Int → Int → Int → Int → Int → Int → List (ai) → Int → Int → Int → Int → Int → Int → List (ai) → Option (Bool)
 | 0, _, _, _, _, _, _, _, _, _, _, _, _, _, _, _, _ => none
 | k + 1, x36, yC, LH, LJ, LM, LP, LQ, LV, qi, LW, LX, LY, LZ, L6, L8, rP => if yC < x36 then (if 0 ≤ yC then (if yC < (qi.length : Int) then (if yC < (rP.length : Int) then ((jJ.f k ((aA qi yC).f0) ((aA qi yC).f1.f0) ((aA qi yC).f1.f1) ((aA qi yC).f1.f2) ((aA qi yC).f1.f3) ((aA qi yC).f2) ((aA qi yC).f3) ((aA rP yC).f0) ((aA rP yC).f1.f0) ((aA rP yC).f1.f1) ((aA rP yC).f1.f2) ((aA rP yC).f1.f3) ((aA rP yC).f2) ((aA rP yC).f3)).bind fun ai3 => (if ai3 = true then (jJ.l0 k x36 (wrap64 (yC + 1)) LH LJ LM LP LQ LV qi LW LX LY LZ L6 L8 rP) else (some false))) else (none)) else (none)) else (none)) else (some true)
def jJ.f : Nat → Int → Int → Int → Int → Int → Int → List (ai) → Int → Int → Int → Int → Int → Int → List (ai) → Option (Bool)
 | 0, _, _, _, _, _, _, _, _, _, _, _, _, _, _ => none
 | k + 1, az, aK, aI, aJ, bH, bI, aT, Ou, Ov, Ox, Oy, Oz, OA, PX => if az = Ou then (if (!(aK == Ov) || (!(aI == Ox) || (!(aJ == Oy) || (!(bH == Oz))))) = true then (jJ.j0 k true az aK aI aJ bH bI aT Ou Ov Ox Oy Oz OA PX) else (if bI = OA then (jJ.j0 k ((aT.length : Int) != (PX.length : Int)) az aK aI aJ bH bI aT Ou Ov Ox Oy Oz OA PX) else (jJ.j0 k true az aK aI aJ bH bI aT Ou Ov Ox Oy Oz OA PX))) else (jJ.j0 k true az aK aI aJ bH bI aT Ou Ov Ox Oy Oz OA PX)
end
def jJ.T6 : Bool × List (List Nat × List Nat) := (true, [([], []), ([0], [0]), ([], []), ([1, 2], [1, 2]), ([3], [3]), ([], []), ([5], [5]), ([], []), ([6, 7], [6, 7]), ([8], [8]), ([4, 9], [4, 9]), ([10], [10])])
def jJ.B6 : List Nat := [0, 1, 0, 7, 15, 0, 32, 0, 224, 480, 1023, 2047]
end Go.Proofs.Ytfdmfgaiblfbhaa.P
namespace Go.Proofs.Ytfdmfgaiblfbhaa.P
open Go.RowKit Go.Proofs.ag.aV Go.Proofs.ag.bP Go.Proofs.ag.cO
def oH (a b : dO) : Bool := a.f0 == b.f0 && (a.f1 == b.f1 && (a.f2 == b.f2 && a.f3 == b.f3))
mutual
def w_ : ai → ai → Bool
 | ⟨a, r, d, l⟩, ⟨a', r', d', l'⟩ => a == a' && (oH r r' && (d == d' && (l.length == l'.length && vH l l')))
def vH : List ai → List ai → Bool
 | [], _ => true
 | _ :: _, [] => true
 | c :: cs, e :: es => w_ c e && vH cs es
end
theorem Qn (a b : ai) : w_ a b = (a.f0 == b.f0 && (oH a.f1 b.f1 && (a.f2 == b.f2 && (a.f3.length == b.f3.length && vH a.f3 b.f3)))) := by cases a; cases b; simp [w_]
theorem zG (b : List ai) : vH [] b = true := by cases b <;> simp [vH]
theorem yz (c e : ai) (cs es : List ai) : vH (c :: cs) (e :: es) = (w_ c e && vH cs es) := by simp [vH]
theorem Ud : ∀ (N : Nat), (∀ c : ai, sz c ≤ N → w_ c c = true) ∧ (∀ l : List ai, dU l ≤ N → vH l l = true) := by
 intro N
 induction N with
 | zero =>
  refine ⟨fun c h => ?_, fun l h => ?_⟩
  ·rw [bV] at h; omega
  ·cases l with
   | nil => exact zG _
   | cons x xs => rw [df, bV] at h; omega
 | succ N ih =>
  have hC : ∀ c : ai, sz c ≤ N + 1 → w_ c c = true := by
   intro c h
   rw [bV] at h
   rw [Qn, ih.2 c.f3 (by omega)]
   simp [oH]
  refine ⟨hC, fun l => ?_⟩
  induction l with
  | nil => intro _; exact zG _
  | cons x xs ihl =>
   intro h
   rw [df] at h
   rw [yz, hC x (by omega), ihl (by omega)]
   rfl
def uQ {α β : Type} (r : α → β → Bool) : List α → List β → Bool
 | a :: ta, b :: tb => r a b && uQ r ta tb
 | [], _ => true
 | _ :: _, [] => true
theorem aeB {α β : Type} (r : α → β → Bool) (za : α) (zb : β) (la : List α) (lb : List β) (k : Nat) (ha : k < la.length) (hb : k < lb.length) :
  uQ r (la.drop k) (lb.drop k) = (r (la.getD (k : Int).toNat za) (lb.getD (k : Int).toNat zb) && uQ r (la.drop (k + 1)) (lb.drop (k + 1))) := by
 rw [List.drop_eq_getElem_cons ha, List.drop_eq_getElem_cons hb]
 simp only [uQ, Int.toNat_natCast, List.getD_eq_getElem?_getD, List.getElem?_eq_getElem ha, List.getElem?_eq_getElem hb, Option.getD_some]
theorem J9 {α β : Type} (r : α → β → Bool) (lb : List β) : uQ r ([] : List α) lb = true := by cases lb <;> rfl
def AO (k : Int) : Int := (((k - 2) % 256) + 1) % 256
def rX (f0 : Int) (k : ai) : Int := if f0 = 2 then k.f1.f2 else k.f1.f3
def szK (c k : ai) : Int := rX c.f0 k
def ku (c : ai) : List Int := c.f3.map (szK c)
def Af (c : ai) : List dO × List dO × Bool := sH c.f1.f0 c.f1.f1 c.f1.f2 c.f1.f3 (AO c.f0) (ku c)
theorem O6 (c : ai) : (Af c).1.length ≤ c.f3.length ∧ (Af c).2.1.length ≤ c.f3.length := by
 have h := XZ c.f1.f0 c.f1.f1 c.f1.f2 c.f1.f3 (AO c.f0) (ku c)
 rwa [show (ku c).length = c.f3.length from List.length_map _] at h
theorem EY {c : ai} (h : (Af c).2.2 = true) : (AO c.f0 = 1 ∨ AO c.f0 = 2) ∧ (Af c).1 = Ad (AO c.f0) c.f1.f0 c.f1.f1 c.f1.f2 c.f1.f3 0 (ku c) ∧ (ku c).sum + ((ku c).length : Int) - 1 = tX (AO c.f0) c.f1.f2 c.f1.f3 ∧ ∀ m, m ∈ ku c → 1 ≤ m := U9 h
def Ef (c : ai) (t : List dO × List dO × Bool) : Bool := c.f0 == 1 || (t.2.2 && (c.f3.length == t.1.length && uQ (fun k r => oH k.f1 r) c.f3 t.1))
def oM (c : ai) : Bool := Ef c (Af c)
def l_ (c : ai) : Bool := (iw c).all oM
theorem u_ (c : ai) : l_ c = (oM c && c.f3.all l_) := by
 unfold l_
 rw [ru, List.all_cons]
 congr 1
 generalize c.f3 = l
 induction l with
 | nil => rw [qL]; rfl
 | cons x xs ih => rw [ni, List.all_append, List.all_cons, ih]
theorem QW {W : World} {f : FuncId} {args : Array Value} {t1 t2 : List dO} (h : Calls Try.prog f args W (NQ W (t1, t2, true))) :
  Calls Try.prog f args W fun e w' => ∃ A c A' c' o o', e = .returned (.tuple #[.slice A t1.length c, .slice A' t2.length c', .bool true]) ∧ Two k23 23 k23 23 W w' (.slice A t1.length c) t1 (.slice A' t2.length c') t2 o o' ∧ Below W.heap.size W w' :=
 h.mono (fun _ _ ⟨A, c, A', c', o, o', h1, h2, h3⟩ => ⟨A, c, A', c', o, o', h1, h2 rfl, h3⟩)
theorem O7 {W : World} {f : FuncId} {args : Array Value} {t1 t2 : List dO} (h : Calls Try.prog f args W (NQ W (t1, t2, false))) :
  Calls Try.prog f args W fun e w' => ∃ A n c A' n' c', e = .returned (.tuple #[.slice A n c, .slice A' n' c', .bool false]) ∧ Below W.heap.size W w' :=
 h.mono (fun _ _ ⟨A, c, A', c', _, _, h1, _, h3⟩ => ⟨A, _, c, A', _, c', h1, h3⟩)
abbrev SY (w : World) (c : ai) (e : Ending) (w' : World) : Prop := ∃ A n cc, e = .returned (.tuple #[.slice A n cc, .bool (oM c)]) ∧ (oM c = true → ∃ ls : List dO, n = ls.length ∧ ls.length ≤ c.f3.length ∧ k23.R 23 w' w.heap.size (fun _ => True) (.slice A ls.length cc) ls) ∧ Below w.heap.size w w'
theorem aay (k : Int) : (k - 1) % 256 = AO k := by unfold AO; omega
theorem QY {α β : Type} {r : α → β → Bool} : ∀ {a b : List α} {a' b' : List β}, a.length = a'.length → uQ r (a ++ b) (a' ++ b') = (uQ r a a' && uQ r b b') := by
 intro a
 induction a with
 | nil => intro b a' b' h; cases a' with
  | nil => rw [J9]; rfl
  | cons y ys => simp at h
 | cons x xs ih =>
  intro b a' b' h
  cases a' with
  | nil => simp at h
  | cons y ys =>
   simp only [List.cons_append, uQ]
   rw [ih (by simpa using h), Bool.and_assoc]
theorem afQ {α : Type} {r k : dO} (h : oH k r = false) (x y : α) : (if r.f0 = k.f0 then if r.f1 = k.f1 then if r.f2 = k.f2 then if r.f3 = k.f3 then x else y else y else y else y) = y := by
 unfold oH at h
 repeat' split
 all_goals first | rfl | (simp_all; done)
theorem adQ {base n c : Nat} {A : Option Addr} {l : List dO} {o : Obj} (h : KR k23 23 base (.slice A n c) l o) {W : World} (hm : ∀ g, (Value.slice A n c).ownBlock = some g → W.heap[g]? = some o) (pre rest : List dO) (r : dO) (hl : pre ++ r :: rest = l) :
  ∃ ad, A = some ad ∧ ∀ W : World, (∀ g, (Value.slice A n c).ownBlock = some g → W.heap[g]? = some o) → W.cell? (ad.add (pre.length * 4)) = some (.int .i64 r.f0) ∧ W.cell? ⟨(ad.add (pre.length * 4)).block, (ad.add (pre.length * 4)).off + 1, none⟩ = some (.int .i64 r.f1) ∧ W.cell? ⟨(ad.add (pre.length * 4)).block, (ad.add (pre.length * 4)).off + 2, none⟩ = some (.int .i64 r.f2) ∧ W.cell? ⟨(ad.add (pre.length * 4)).block, (ad.add (pre.length * 4)).off + 3, none⟩ = some (.int .i64 r.f3) := by
 have hi : (pre.length : Int) < l.length := by rw [← hl, List.length_append, List.length_cons]; omega
 have hr : rM l pre.length = r := by rw [← hl]; simp [rM, List.getD_eq_getElem?_getD]
 have key : ∀ W : World, (∀ g, (Value.slice A n c).ownBlock = some g → W.heap[g]? = some o) → ∃ ad, A = some ad ∧ W.cell? (ad.add (pre.length * 4)) = some (.int .i64 r.f0) ∧ W.cell? ⟨(ad.add (pre.length * 4)).block, (ad.add (pre.length * 4)).off + 1, none⟩ = some (.int .i64 r.f1) ∧ W.cell? ⟨(ad.add (pre.length * 4)).block, (ad.add (pre.length * 4)).off + 2, none⟩ = some (.int .i64 r.f2) ∧ W.cell? ⟨(ad.add (pre.length * 4)).block, (ad.add (pre.length * 4)).off + 3, none⟩ = some (.int .i64 r.f3) := fun W hW => by
  have hC := (Kd.eQ (h W hW)).2.2
  have h2 := OH hC (pre.length : Int) (Int.natCast_nonneg _) hi
  rw [hr] at h2
  exact h2
 obtain ⟨ad, hA, _⟩ := key W hm
 refine ⟨ad, hA, fun W hW => ?_⟩
 obtain ⟨ad2, h1, h2⟩ := key W hW
 rw [hA] at h1
 injection h1 with h1
 rw [h1]
 exact h2
def zU.T20 : Bool × List (List Nat × List Nat) := (true, [([], []), ([], []), ([1], [1]), ([], []), ([2, 3], [2, 3]), ([], []), ([5], [5]), ([], []), ([], []), ([7, 8], [7, 8]), ([9], [9]), ([], []), ([11], [11]), ([4, 6, 10, 12], [4, 6, 10, 12]), ([13], [13]), ([0, 14], [0, 14]), ([15, 15, 0, 1, 2, 3, 4, 5, 6, 7, 8, 9, 10, 11, 12, 13, 14, 15], [0, 15])])
def zU.B20 : List Nat := [0, 0, 2, 0, 14, 0, 32, 0, 0, 384, 896, 0, 2048, 8190, 16382, 32767, 65535]
theorem zU.ahv : iM .any (opsOf Try.f46 20) = zU.T20 := by kernel_rfl
theorem zU.ad_ : gZ zU.T20.2 zU.B20 = true := by kernel_rfl
def zV.T21 : Bool × List (List Nat × List Nat) := (true, [([], []), ([], []), ([1], [1]), ([], []), ([3], [3]), ([], []), ([4, 5], [4, 5]), ([], []), ([7], [7]), ([], []), ([], []), ([9, 10], [9, 10]), ([11], [11]), ([2, 6, 8, 12], [2, 6, 8, 12]), ([13], [13]), ([0, 14], [0, 14]), ([15, 15, 0, 1, 2, 3, 4, 5, 6, 7, 8, 9, 10, 11, 12, 13, 14, 15], [0, 15])])
def zV.B21 : List Nat := [0, 0, 2, 0, 8, 0, 56, 0, 128, 0, 0, 1536, 3584, 8190, 16382, 32767, 65535]
theorem zV.ahw : iM .any (opsOf Try.f46 21) = zV.T21 := by kernel_rfl
theorem zV.aea : gZ zV.T21.2 zV.B21 = true := by kernel_rfl
theorem piece1 (s t e n : Int) : pM 1 s t e n = ⟨s, t, n, e⟩ := rfl
theorem piece2 (s t e n : Int) : pM 2 s t e n = ⟨t, s, e, n⟩ := rfl
theorem afY (X Y Wd H ax : Int) (sizes : List Int) (hl : sizes.length ≤ 1000000) (B : Option Addr) (cb : Nat) (w : World) (hi : Kd.C (Kd.int .i64) w B sizes.length sizes) :
  Calls Try.prog 46 #[.agg #[.int .i64 X, .int .i64 Y, .int .i64 Wd, .int .i64 H], .int .u8 ax, .slice B sizes.length cb] w (NQ w (sH X Y Wd H ax sizes)) := by
 have S := ae.mk (St.start (ts := []) (b0 := w.heap.size) (w := w) (P := fun _ => True) (fun _ h => by cases h))
 have HI := ae.mk hi
 have gY := ae.mk hl
 clear hi hl
 by_cases hm : qc X Y Wd H = true
 case neg =>
  have HQ := ae.mk (BI (X := X) (Y := Y) (W := Wd) (H := H) (ax := ax) (sizes := sizes) (.inr (.inl (Bool.eq_false_iff.mpr hm))))
  have zo := ae.mk (Bool.eq_false_iff.mpr hm)
  clear hm
  go_enter Try.func46, Try.ntmps46
  go_wp2_with (first | (refine boxS 3 _ 23 S ?_; clear S; intro b3 di S) | (refine iI 15 rfl ?_; refine nO k23 23 rfl 15 S ?_; clear S; intro An cn on dS S AA; obtain ⟨bf, bg, bu, bz⟩ := St.at4 S aY) | (refine bG (some 17) Try.func57 S (F8 zo.out) ?_; clear S; intro gq S; clear bf bg bu bz))
  go_ret3
  rw [HQ.out]
  exact ⟨_, _, _, _, .cells #[] 0 (0, 0), .cells #[] 0 (0, 0), rfl, (fun h => by cases h), S.out.below⟩
 have zo := ae.mk hm
 by_cases h1 : ax < 1
 case pos =>
  have HQ := ae.mk (BI (X := X) (Y := Y) (W := Wd) (H := H) (ax := ax) (sizes := sizes) (.inl (by omega)))
  obtain ⟨h1a, h1b⟩ := nz (a := ax) (b := 1) (by omega)
  clear hm h1
  go_enter Try.func46, Try.ntmps46
  go_wp2_with (first | (refine boxS 3 _ 23 S ?_; clear S; intro b3 di S) | (refine iI 15 rfl ?_; refine nO k23 23 rfl 15 S ?_; clear S; intro An cn on dS S AA; obtain ⟨bf, bg, bu, bz⟩ := St.at4 S aY) | (refine bG (some 17) Try.func57 S (F8 zo.out) ?_; clear S; intro gq S; clear bf bg bu bz))
  go_ret3
  rw [HQ.out]
  exact ⟨_, _, _, _, .cells #[] 0 (0, 0), .cells #[] 0 (0, 0), rfl, (fun h => by cases h), S.out.below⟩
 obtain ⟨h1a, h1b⟩ := lY (a := ax) (b := 1) (by omega)
 by_cases h2 : 2 < ax
 case pos =>
  have HQ := ae.mk (BI (X := X) (Y := Y) (W := Wd) (H := H) (ax := ax) (sizes := sizes) (.inl (by omega)))
  obtain ⟨h2a, h2b⟩ := nz (a := 2) (b := ax) (by omega)
  clear hm h1 h2
  go_enter Try.func46, Try.ntmps46
  go_wp2_with (first | (refine boxS 3 _ 23 S ?_; clear S; intro b3 di S) | (refine iI 15 rfl ?_; refine nO k23 23 rfl 15 S ?_; clear S; intro An cn on dS S AA; obtain ⟨bf, bg, bu, bz⟩ := St.at4 S aY) | (refine bG (some 17) Try.func57 S (F8 zo.out) ?_; clear S; intro gq S; clear bf bg bu bz))
  go_ret3
  rw [HQ.out]
  exact ⟨_, _, _, _, .cells #[] 0 (0, 0), .cells #[] 0 (0, 0), rfl, (fun h => by cases h), S.out.below⟩
 obtain ⟨h2a, h2b⟩ := lY (a := 2) (b := ax) (by omega)
 by_cases h0 : sizes.length = 0
 case pos =>
  have HQ := ae.mk (BI (X := X) (Y := Y) (W := Wd) (H := H) (ax := ax) (sizes := sizes) (.inr (.inr h0)))
  obtain ⟨MG, wP, Vh⟩ := rU (a := (sizes.length : Int)) (b := 0) (by omega)
  have Vj : (sizes.length == 0) = true := beq_iff_eq.mpr (by omega)
  have Vk : decide (sizes.length = 0) = true := decide_eq_true (by omega)
  clear hm h1 h2 h0
  go_enter Try.func46, Try.ntmps46
  go_wp2_with (first | (refine boxS 3 _ 23 S ?_; clear S; intro b3 di S) | (refine iI 15 rfl ?_; refine nO k23 23 rfl 15 S ?_; clear S; intro An cn on dS S AA; obtain ⟨bf, bg, bu, bz⟩ := St.at4 S aY) | (refine bG (some 17) Try.func57 S (F8 zo.out) ?_; clear S; intro gq S; clear bf bg bu bz))
  go_ret3
  rw [HQ.out]
  exact ⟨_, _, _, _, .cells #[] 0 (0, 0), .cells #[] 0 (0, 0), rfl, (fun h => by cases h), S.out.below⟩
 have hax : ax = 1 ∨ ax = 2 := by omega
 have jh := ae.mk hax
 obtain ⟨S0, hS0⟩ : ∃ s, s = tX ax X Y := ⟨_, rfl⟩
 obtain ⟨T0, hT0⟩ : ∃ s, s = tX ax Y X := ⟨_, rfl⟩
 obtain ⟨D, hD⟩ : ∃ s, s = tX ax Wd H := ⟨_, rfl⟩
 obtain ⟨E, hE⟩ : ∃ s, s = tX ax H Wd := ⟨_, rfl⟩
 have HS1 := ae.mk (show ax = 1 → S0 = X ∧ T0 = Y ∧ D = Wd ∧ E = H from fun h => by subst h; exact ⟨hS0, hT0, hD, hE⟩)
 have HS2 := ae.mk (show ax = 2 → S0 = Y ∧ T0 = X ∧ D = H ∧ E = Wd from fun h => by subst h; exact ⟨hS0, hT0, hD, hE⟩)
 have hq := Va hax hm h0
 rw [← hS0, ← hT0, ← hD, ← hE] at hq
 have hb := Xh hax hm
 rw [← hS0, ← hD] at hb
 have HB := ae.mk hb
 rw [hq]
 obtain ⟨MG, wP, Vh⟩ := eqF (a := (sizes.length : Int)) (b := 0) (by omega)
 have Vj : (sizes.length == 0) = false := beq_eq_false_iff_ne.mpr (by omega)
 have Vk : decide (sizes.length = 0) = false := decide_eq_false (by omega)
 obtain ⟨R, hR⟩ : ∃ R, R = pI ax S0 T0 D E 0 true [] [] sizes := ⟨_, rfl⟩
 rw [← hR]
 have HR := ae.mk hR
 clear hq hb hm h0 h1 h2 hax hS0 hT0 hD hE hR
 go_enter Try.func46, Try.ntmps46
 go_upto_if 37 with (first | (refine boxS 3 _ 23 S ?_; clear S; intro b3 di S) | (refine iI 15 rfl ?_; refine nO k23 23 rfl 15 S ?_; clear S; intro An cn on dS S AA; obtain ⟨bf, bg, bu, bz⟩ := St.at4 S aY) | (refine bG (some 17) Try.func57 S (F8 zo.out) ?_; clear S; intro gq S; clear bf bg bu bz; have bu := (S.out.at aY 2).trans rfl))
 clear bu
 (skip)
 go_cut [10] (fun v10 wc => v10 = .int .i64 D ∧ ae (St w (fun _ => True) [((Value.slice An 0 cn).ownBlock, on), (some b3, .cells #[.int .i64 X, .int .i64 Y, .int .i64 Wd, .int .i64 H] 23 (0, 0))] [] [] [] wc))
 case first =>
  by_cases hx : ax = 2
  case pos =>
   have hd := (HS2.out hx).2.2.1
   obtain ⟨hxa, hxb, hxd⟩ := rU (a := ax) (b := 2) (by omega)
   have HDD := ae.mk hd
   clear hx hd
   have bz := (S.out.at aY 3).trans rfl
   go_wp2
   clear bz
   go_meet
   case rel => exact ⟨by rw [HDD.out], S⟩
  case neg =>
   have hd := (HS1.out (by have := jh.out; omega)).2.2.1
   obtain ⟨hxa, hxb, hxd⟩ := eqF (a := ax) (b := 2) (by omega)
   have HDD := ae.mk hd
   clear hx hd
   go_wp2
   go_meet
   case rel => exact ⟨by rw [HDD.out], S⟩
 case rest =>
  clear S
  obtain ⟨rfl, S⟩ := hcut
  rename World => wx
  go_wp2_with (first | (refine iI 40 rfl ?_; refine nO k23 23 rfl 40 S ?_; clear S; intro Ap cp op di S jy) | (refine iI 41 rfl ?_; refine nO k23 23 rfl 41 S ?_; clear S; intro Aq cq oq dS S oC))
  clear MG wP Vh Vj Vk h1a h1b h2a h2b
  go_loopg [11, 12, 13, 44] sizes.length (fun gg v11 v12 v13 v44 wr => ∃ (pre rest : List Int) (off : Int) (ps ls : List dO) (Ap : Option Addr) (cp : Nat) (op : Obj) (Aq : Option Addr) (cq : Nat) (oq : Obj), v11 = .slice Ap ps.length cp ∧ v12 = .slice Aq ls.length cq ∧ v13 = .int .i64 off ∧ v44 = .int .i64 (pre.length : Int) ∧ ae (pre ++ rest = sizes) ∧ rest.length ≤ gg ∧ ae (0 ≤ off ∧ off ≤ D ∧ ps.length ≤ pre.length ∧ ls.length ≤ pre.length) ∧ ae (pI ax S0 T0 D E off (pre.length == 0) ps ls rest = R) ∧ ae (KR k23 23 w.heap.size (.slice Ap ps.length cp) ps op) ∧ ae (KR k23 23 w.heap.size (.slice Aq ls.length cq) ls oq) ∧ ae (St w (fun _ => True) [((Value.slice Ap ps.length cp).ownBlock, op), ((Value.slice Aq ls.length cq).ownBlock, oq), ((Value.slice An 0 cn).ownBlock, on), (some b3, .cells #[.int .i64 X, .int .i64 Y, .int .i64 Wd, .int .i64 H] 23 (0, 0))] [] [] [] wr))
  case atStart => exact ⟨[], sizes, 0, [], [], _, _, _, _, _, _, rfl, rfl, rfl, rfl, ⟨rfl⟩, Nat.le_refl _, ⟨by have := HB.out; simp; omega⟩, ⟨HR.out.symm⟩, jy, oC, ⟨S.out.um.um.xJ.um⟩⟩
  case round =>
   clear S HR jy oC
   obtain ⟨pre, rest, off, ps, ls, Ap, cp, op, Aq, cq, oq, rfl, rfl, rfl, rfl, HE, hgg, HO, HG, jy, oC, S⟩ := hrel
   cases rest with
   | nil =>
    have hE := HE.out
    rw [List.append_nil] at hE
    subst hE
    clear HE hgg
    have hlt : ¬ ((pre.length : Int) < (pre.length : Int)) := by omega
    have UC := ae.mk (O4 HG.out)
    by_cases hod : off = D
    case pos =>
     obtain ⟨hza, hzb, hzd⟩ := rU (a := off) (b := D) (by omega)
     have NZ := ae.mk hod
     clear hod
     go_wp2
     go_ret3
     rw [UC.out, if_pos NZ.out]
     exact ⟨Ap, cp, Aq, cq, op, oq, rfl, fun _ => S.out.WE jy.out oC.out, S.out.below⟩
    case neg =>
     obtain ⟨hza, hzb, hzd⟩ := eqF (a := off) (b := D) (by omega)
     have NZ := ae.mk hod
     clear hod
     go_wp2
     have HQ := ae.mk (UC.out.trans (if_neg NZ.out))
     go_ret3
     rw [HQ.out]
     exact ⟨_, _, _, _, .cells #[] 0 (0, 0), .cells #[] 0 (0, 0), rfl, (fun h => by cases h), S.out.below⟩
   | cons n ns =>
    have hlt : (pre.length : Int) < (sizes.length : Int) := by rw [← HE.out, List.length_append, List.length_cons]; omega
    have hw1 : wrap64 ((pre.length : Int) + 1) = ((pre ++ [n]).length : Int) := by have := gY.out; rw [List.length_append, List.length_singleton]; unfold wrap64; omega
    have HW1 := ae.mk hw1
    have fM := ae.mk hgg
    have QL := ae.mk hlt
    have Ci := ae.mk (show ps.length ≤ 1000000 ∧ ls.length ≤ 1000000 by have := HO.out; have := gY.out; omega)
    clear hgg hw1
    go_upto_if 48 with fail
    (skip)
    go_cut [12, 13] (fun v12 v13 wc => ∃ (o' : Int) (ls' : List dO) (Aq : Option Addr) (cq : Nat) (oq : Obj), v12 = .slice Aq ls'.length cq ∧ v13 = .int .i64 o' ∧ ae (0 ≤ o' ∧ o' ≤ D + 1 ∧ ls'.length ≤ pre.length + 1) ∧ ae (Dc ax S0 T0 D E o' ps ls' n ns = R) ∧ ae (KR k23 23 w.heap.size (.slice Aq ls'.length cq) ls' oq) ∧ ae (St w (fun _ => True) [((Value.slice Ap ps.length cp).ownBlock, op), ((Value.slice Aq ls'.length cq).ownBlock, oq), ((Value.slice An 0 cn).ownBlock, on), (some b3, .cells #[.int .i64 X, .int .i64 Y, .int .i64 Wd, .int .i64 H] 23 (0, 0))] [] [] [] wc))
    case first =>
     by_cases hp2 : pre.length = 0
     case pos =>
      have hp : (pre.length == 0) = true := beq_iff_eq.mpr hp2
      obtain ⟨hpa, hpb⟩ := lY (a := 0) (b := (pre.length : Int)) (by omega)
      have hpc : decide (0 < pre.length) = false := decide_eq_false (by omega)
      have hpe : ¬ (0 < pre.length) := by omega
      have HG2 := ae.mk (show Dc ax S0 T0 D E off ps ls n ns = R by have h := HG.out; rw [hp] at h; exact h)
      clear hp hp2
      go_wp2
      go_meet
      case rel => exact ⟨off, ls, _, _, _, rfl, rfl, ⟨by have := HO.out; omega⟩, HG2, oC, S⟩
     case neg =>
      have hp : (pre.length == 0) = false := beq_eq_false_iff_ne.mpr hp2
      obtain ⟨hpa, hpb⟩ := nz (a := 0) (b := (pre.length : Int)) (by omega)
      have hpc : decide (0 < pre.length) = true := decide_eq_true (by omega)
      have hpe : 0 < pre.length := by omega
      have UB := ae.mk (show Dc ax S0 T0 D E (off + 1) ps (ls ++ [pM ax (S0 + off) T0 E 1]) n ns = R by have h := HG.out; rw [hp] at h; exact h)
      have QO := ae.mk (show wrap64 (off + 1) = off + 1 by have := HO.out; have := HB.out; unfold wrap64; omega)
      clear hp hp2
      by_cases hx : ax = 1
      case pos =>
       have HX := ae.mk hx
       obtain ⟨hxa, hxb, hxd⟩ := rU (a := ax) (b := 1) (by omega)
       clear hx
       have N7 := ae.mk (show pM ax (S0 + off) T0 E 1 = (⟨wrap64 (X + off), Y, 1, H⟩ : dO) by have hb := HB.out; have ho := HO.out; have hs := HS1.out HX.out; rw [HX.out, piece1, hs.1, hs.2.1, hs.2.2.2, show wrap64 (X + off) = X + off by rw [hs.1] at hb; unfold wrap64; omega])
       have HG2 := ae.mk (show Dc ax S0 T0 D E (off + 1) ps (ls ++ [(⟨wrap64 (X + off), Y, 1, H⟩ : dO)]) n ns = R by rw [← N7.out]; exact UB.out)
       have bf := (S.out.at jB 0).trans rfl
       have bg := (S.out.at jB 1).trans rfl
       have bz := (S.out.at jB 3).trans rfl
       go_wp2_with ((refine iI 62 rfl ?_; at_builtin; replace S := ae.mk S.out.vS; refine xI k23 23 rfl 51 61 42 _ 32 Try.underlying42 info23 rfl (by decide) (by decide) (by decide) S oC ⟨wrap64 (X + off), Y, 1, H⟩ [.int .i64 (wrap64 (X + off)), .int .i64 Y, .int .i64 1, .int .i64 H] (fun _ _ _ => tN _ _ _ _) (by have := Ci.out; omega) ?_; clear S oC; intro Aq2 cq2 oq2 di S oC; clear bf bg bz))
       go_meet
       case rel => exact ⟨off + 1, _, _, _, _, (by rw [List.length_append]; rfl), (by rw [QO.out]), ⟨by have := HO.out; rw [List.length_append, List.length_singleton]; omega⟩, HG2, oC, ⟨S.out.um.um.xJ.um⟩⟩
      case neg =>
       have HX := ae.mk (show ax = 2 by have := jh.out; omega)
       obtain ⟨hxa, hxb, hxd⟩ := eqF (a := ax) (b := 1) (by omega)
       clear hx
       have N7 := ae.mk (show pM ax (S0 + off) T0 E 1 = (⟨X, wrap64 (Y + off), Wd, 1⟩ : dO) by have hb := HB.out; have ho := HO.out; have hs := HS2.out HX.out; rw [HX.out, piece2, hs.1, hs.2.1, hs.2.2.2, show wrap64 (Y + off) = Y + off by rw [hs.1] at hb; unfold wrap64; omega])
       have HG2 := ae.mk (show Dc ax S0 T0 D E (off + 1) ps (ls ++ [(⟨X, wrap64 (Y + off), Wd, 1⟩ : dO)]) n ns = R by rw [← N7.out]; exact UB.out)
       have bf := (S.out.at jB 0).trans rfl
       have bg := (S.out.at jB 1).trans rfl
       have bu := (S.out.at jB 2).trans rfl
       go_wp2_with ((refine iI 74 rfl ?_; at_builtin; replace S := ae.mk S.out.vS; refine xI k23 23 rfl 63 73 42 _ 32 Try.underlying42 info23 rfl (by decide) (by decide) (by decide) S oC ⟨X, wrap64 (Y + off), Wd, 1⟩ [.int .i64 X, .int .i64 (wrap64 (Y + off)), .int .i64 Wd, .int .i64 1] (fun _ _ _ => tN _ _ _ _) (by have := Ci.out; omega) ?_; clear S oC; intro Aq2 cq2 oq2 di S oC; clear bf bg bu))
       go_meet
       case rel => exact ⟨off + 1, _, _, _, _, (by rw [List.length_append]; rfl), (by rw [QO.out]), ⟨by have := HO.out; rw [List.length_append, List.length_singleton]; omega⟩, HG2, oC, ⟨S.out.um.um.xJ.um⟩⟩
    case rest =>
     clear S oC HG
     obtain ⟨o', ls', Aq, cq, oq, rfl, rfl, qX, HG, oC, S⟩ := hcut
     rename World => wy
     have Ci := ae.mk (show ps.length ≤ 1000000 ∧ ls'.length ≤ 1000001 by have := HO.out; have := qX.out; have := gY.out; omega)
     have hlt := QL.out
     have hrd : rd sizes (pre.length : Int) = n := by rw [← HE.out]; simp [rd, List.getD_eq_getElem?_getD]
     obtain ⟨Zq, ek, xi⟩ := Kd.jl (Kd.iE HI.out S.out.below) (pre.length : Int) (Int.natCast_nonneg _) hlt
     subst ek
     rw [hrd] at xi
     simp only [Int.toNat_natCast] at xi
     have HXI := fun (W : World) (h : Below w.heap.size w W) => (show W.cell? (Zq.add pre.length) = some (.int .i64 n) by have h2 := Kd.jl (Kd.iE HI.out h) (pre.length : Int) (Int.natCast_nonneg _) QL.out; obtain ⟨ad, e1, e2⟩ := h2; injection e1 with e1; subst e1; simp only [Int.toNat_natCast] at e2; rw [e2, ← HE.out]; simp [rd, List.getD_eq_getElem?_getD])
     have Dk := ae.mk HXI
     clear hrd xi HXI
     by_cases hn : n < 1
     case pos =>
      obtain ⟨hna, hnb⟩ := nz (a := n) (b := 1) (by omega)
      have HQ := ae.mk (HG.out.symm.trans (Dw (.inl hn)))
      have xi := Dk.out _ S.out.below
      go_wp2
      clear xi
      go_ret3
      rw [HQ.out]
      exact ⟨_, _, _, _, .cells #[] 0 (0, 0), .cells #[] 0 (0, 0), rfl, (fun h => by cases h), S.out.below⟩
     obtain ⟨hna, hnb⟩ := lY (a := n) (b := 1) (by omega)
     by_cases hd : D < n
     case pos =>
      obtain ⟨Fq, sZ⟩ := nz (a := D) (b := n) (by omega)
      have HQ := ae.mk (HG.out.symm.trans (Dw (.inr (by have := qX.out; omega))))
      have xi := Dk.out _ S.out.below
      go_wp2
      clear xi
      go_ret3
      rw [HQ.out]
      exact ⟨_, _, _, _, .cells #[] 0 (0, 0), .cells #[] 0 (0, 0), rfl, (fun h => by cases h), S.out.below⟩
     obtain ⟨Fq, sZ⟩ := lY (a := D) (b := n) (by omega)
     have hg : wrap64 (o' + n) = o' + n := by have := HB.out; have := qX.out; unfold wrap64; omega
     have HWG := ae.mk hg
     by_cases he : D < o' + n
     case pos =>
      obtain ⟨hea, heb⟩ := nz (a := D) (b := wrap64 (o' + n)) (by omega)
      obtain ⟨hfa, hfb⟩ := nz (a := D) (b := o' + n) (by omega)
      have HQ := ae.mk (HG.out.symm.trans (Dw (.inr he)))
      have xi := Dk.out _ S.out.below
      go_wp2
      clear xi
      go_ret3
      rw [HQ.out]
      exact ⟨_, _, _, _, .cells #[] 0 (0, 0), .cells #[] 0 (0, 0), rfl, (fun h => by cases h), S.out.below⟩
     obtain ⟨hea, heb⟩ := lY (a := D) (b := wrap64 (o' + n)) (by omega)
     obtain ⟨hfa, hfb⟩ := lY (a := D) (b := o' + n) (by omega)
     have UB := ae.mk ((QV (fun h => h.elim hn he)).symm.trans HG.out)
     have HN := ae.mk hn
     have HD2 := ae.mk he
     clear hn hd he hg
     by_cases hx : ax = 1
     case pos =>
      have HX := ae.mk hx
      obtain ⟨hxa, hxb, hxd⟩ := rU (a := ax) (b := 1) (by omega)
      clear hx
      have N7 := ae.mk (show pM ax (S0 + o') T0 E n = (⟨wrap64 (X + o'), Y, n, H⟩ : dO) by have hb := HB.out; have ho := qX.out; have hs := HS1.out HX.out; rw [HX.out, piece1, hs.1, hs.2.1, hs.2.2.2, show wrap64 (X + o') = X + o' by rw [hs.1] at hb; unfold wrap64; omega])
      have HG2 := ae.mk (show pI ax S0 T0 D E (o' + n) false (ps ++ [(⟨wrap64 (X + o'), Y, n, H⟩ : dO)]) ls' ns = R by rw [← N7.out]; exact UB.out)
      have xi := Dk.out _ S.out.below
      go_wp2
      clear xi
      go_wp2
      refine gX (n := 17) (S := fun w' => St w _ _ _ _ _ w') (ds := [15]) (bA 17 0) (by kernel_rfl) rfl rfl (S.out.dV.call (a_ (Below.refl _ _))) (fun hHeld => ?_); refine dZ zU.ahv zU.ad_ (fun aj dE => ?_)
      replace S := ae.mk (S.out.call (a_ (Below.refl _ _)))
      generalize wy.drew = EK at S hHeld ⊢
      refine ak 0 104 (bA 17 1) aj ?_
      refine ak 1 105 (bA 17 3) aj ?_
      refine b_ 2 106 (bA 17 7) aj dE hHeld ?_ (hv := by intro w' hs_; have bf := (hs_.at dL 0).trans rfl; go_simp; with_reducible rfl)
      refine ak 3 107 (bA 17 15) aj ?_
      refine ak 4 108 (bA 17 31) aj ?_
      refine ak 5 109 (bA 17 63) aj ?_
      refine b_ 6 110 (bA 17 127) aj dE hHeld ?_ (hv := by intro w' hs_; have bg := (hs_.at dL 1).trans rfl; go_simp; with_reducible rfl)
      refine ak 7 111 (bA 17 255) aj ?_
      refine ak 8 112 (bA 17 511) aj ?_
      refine ak 9 113 (bA 17 1023) aj ?_
      refine b_ 10 114 (bA 17 2047) aj dE hHeld ?_ (hv := by intro w' hs_; have xi := Dk.out _ hs_.below; go_simp; with_reducible rfl)
      refine ak 11 115 (bA 17 4095) aj ?_
      refine b_ 12 116 (bA 17 8191) aj dE hHeld ?_ (hv := by intro w' hs_; have bz := (hs_.at dL 3).trans rfl; go_simp; with_reducible rfl)
      refine ak 13 117 (bA 17 16383) aj ?_
      refine iL 14 (some 118) (bA 17 32767) aj (fun K hK => ?_)
      refine Qv (w1 := ?_) (v := ?_) (by rfl) rfl ?_ ?_
      rotate_left 2
      ·go_simp
       constructor
       ·rfl
       ·rfl
      refine hK.out _ _ (S.out.dV.call (gV (Below.refl _ _) _)) (fun hHeld => ?_)
      clear hK K
      refine dR 118 ?_
      refine lV 15 (some 119) (bA 17 65535) aj (fun K hK => ?_)
      refine OE k23 23 rfl 104 118 42 _ 32 Try.underlying42 info23 rfl (by decide) (by decide) (by decide) S jy ⟨wrap64 (X + o'), Y, n, H⟩ [.int .i64 (wrap64 (X + o')), .int .i64 Y, .int .i64 n, .int .i64 H] (fun _ _ _ => tN _ _ _ _) (by have := Ci.out; omega) ?_
      clear S jy
      intro NK cp2 P8 gq S jy
      refine hK.out _ _ ?_
      clear hK K
      refine dR 119 ?_
      refine ak 16 11 (bA 17 131071) aj ?_
      refine jf (fJ aj.out (by kernel_rfl)) ?_
      clear hHeld
      have xi := Dk.out _ S.out.below
      go_wp2
      clear xi
      have hw1 := HW1.out
      go_wp2
      go_roundg ns.length
      case measure => exact Nat.lt_of_lt_of_le (Nat.lt_succ_self _) fM.out
      case rel => exact ⟨pre ++ [n], ns, o' + n, _, ls', _, _, _, _, _, _, (by rw [List.length_append]; rfl), rfl, (by rw [HWG.out]), (by rw [hw1]), ⟨by rw [List.append_assoc]; exact HE.out⟩, Nat.le_refl _, ⟨by have := HO.out; have := qX.out; have := HN.out; have := HD2.out; simp only [List.length_append, List.length_singleton]; omega⟩, ⟨by rw [show ((pre ++ [n]).length == 0) = false by simp]; exact HG2.out⟩, jy, oC, ⟨S.out.um.um.um.um⟩⟩
     case neg =>
      have HX := ae.mk (show ax = 2 by have := jh.out; omega)
      obtain ⟨hxa, hxb, hxd⟩ := eqF (a := ax) (b := 1) (by omega)
      clear hx
      have N7 := ae.mk (show pM ax (S0 + o') T0 E n = (⟨X, wrap64 (Y + o'), Wd, n⟩ : dO) by have hb := HB.out; have ho := qX.out; have hs := HS2.out HX.out; rw [HX.out, piece2, hs.1, hs.2.1, hs.2.2.2, show wrap64 (Y + o') = Y + o' by rw [hs.1] at hb; unfold wrap64; omega])
      have HG2 := ae.mk (show pI ax S0 T0 D E (o' + n) false (ps ++ [(⟨X, wrap64 (Y + o'), Wd, n⟩ : dO)]) ls' ns = R by rw [← N7.out]; exact UB.out)
      have xi := Dk.out _ S.out.below
      go_wp2
      clear xi
      go_wp2
      refine gX (n := 17) (S := fun w' => St w _ _ _ _ _ w') (ds := [15]) (bA 17 0) (by kernel_rfl) rfl rfl (S.out.dV.call (a_ (Below.refl _ _))) (fun hHeld => ?_); refine dZ zV.ahw zV.aea (fun aj dE => ?_)
      replace S := ae.mk (S.out.call (a_ (Below.refl _ _)))
      generalize wy.drew = EK at S hHeld ⊢
      refine ak 0 120 (bA 17 1) aj ?_
      refine ak 1 121 (bA 17 3) aj ?_
      refine b_ 2 122 (bA 17 7) aj dE hHeld ?_ (hv := by intro w' hs_; have bf := (hs_.at dL 0).trans rfl; go_simp; with_reducible rfl)
      refine ak 3 123 (bA 17 15) aj ?_
      refine b_ 4 124 (bA 17 31) aj dE hHeld ?_ (hv := by intro w' hs_; have bg := (hs_.at dL 1).trans rfl; go_simp; with_reducible rfl)
      refine ak 5 125 (bA 17 63) aj ?_
      refine ak 6 126 (bA 17 127) aj ?_
      refine ak 7 127 (bA 17 255) aj ?_
      refine b_ 8 128 (bA 17 511) aj dE hHeld ?_ (hv := by intro w' hs_; have bu := (hs_.at dL 2).trans rfl; go_simp; with_reducible rfl)
      refine ak 9 129 (bA 17 1023) aj ?_
      refine ak 10 130 (bA 17 2047) aj ?_
      refine ak 11 131 (bA 17 4095) aj ?_
      refine b_ 12 132 (bA 17 8191) aj dE hHeld ?_ (hv := by intro w' hs_; have xi := Dk.out _ hs_.below; go_simp; with_reducible rfl)
      refine ak 13 133 (bA 17 16383) aj ?_
      refine iL 14 (some 134) (bA 17 32767) aj (fun K hK => ?_)
      refine Qv (w1 := ?_) (v := ?_) (by rfl) rfl ?_ ?_
      rotate_left 2
      ·go_simp
       constructor
       ·rfl
       ·rfl
      refine hK.out _ _ (S.out.dV.call (gV (Below.refl _ _) _)) (fun hHeld => ?_)
      clear hK K
      refine dR 134 ?_
      refine lV 15 (some 135) (bA 17 65535) aj (fun K hK => ?_)
      refine OE k23 23 rfl 120 134 42 _ 32 Try.underlying42 info23 rfl (by decide) (by decide) (by decide) S jy ⟨X, wrap64 (Y + o'), Wd, n⟩ [.int .i64 X, .int .i64 (wrap64 (Y + o')), .int .i64 Wd, .int .i64 n] (fun _ _ _ => tN _ _ _ _) (by have := Ci.out; omega) ?_
      clear S jy
      intro NK cp2 P8 gq S jy
      refine hK.out _ _ ?_
      clear hK K
      refine dR 135 ?_
      refine ak 16 11 (bA 17 131071) aj ?_
      refine jf (fJ aj.out (by kernel_rfl)) ?_
      clear hHeld
      have xi := Dk.out _ S.out.below
      go_wp2
      clear xi
      have hw1 := HW1.out
      go_wp2
      go_roundg ns.length
      case measure => exact Nat.lt_of_lt_of_le (Nat.lt_succ_self _) fM.out
      case rel => exact ⟨pre ++ [n], ns, o' + n, _, ls', _, _, _, _, _, _, (by rw [List.length_append]; rfl), rfl, (by rw [HWG.out]), (by rw [hw1]), ⟨by rw [List.append_assoc]; exact HE.out⟩, Nat.le_refl _, ⟨by have := HO.out; have := qX.out; have := HN.out; have := HD2.out; simp only [List.length_append, List.length_singleton]; omega⟩, ⟨by rw [show ((pre ++ [n]).length == 0) = false by simp]; exact HG2.out⟩, jy, oC, ⟨S.out.um.um.um.um⟩⟩
theorem Y3 (c : ai) (hl : c.f3.length ≤ 1000000) (b : Nat) (P : Nat → Prop) (A : Option Addr) (cc : Nat) (w : World) (hv : Kd.V k26 26 w b P (.slice A c.f3.length cc) c.f3) :
  Calls Try.prog 194 #[.agg #[.int .u8 c.f0, .int .i64 c.f1.f0, .int .i64 c.f1.f1, .int .i64 c.f1.f2, .int .i64 c.f1.f3, .int .i64 c.f2, .slice A c.f3.length cc]] w fun e w' => ∃ A' c', e = .returned (.slice A' (ku c).length c') ∧ (Kd.int .i64).R 3 w' w.heap.size (fun _ => True) (.slice A' (ku c).length c') (ku c) ∧ Below w.heap.size w w' := by
 have S := ae.mk (St.start (ts := [(.slice A c.f3.length cc, c.f3)]) (b0 := w.heap.size) (w := w) (P := P) (fun t ht => by rw [List.mem_singleton.1 ht]; exact eY hv))
 have gY := ae.mk hl
 clear hl hv
 obtain ⟨ck, ⟨cx, cy, cw, ch⟩, ay, l⟩ := c
 simp only [] at S gY ⊢
 rw [show ku ⟨ck, ⟨cx, cy, cw, ch⟩, ay, l⟩ = l.map (rX ck) from rfl]
 simp only [List.length_map]
 go_enter Try.func194, Try.ntmps194
 go_wp2_with (first
  | (refine boxS 1 _ 26 S ?_; clear S; intro b1 di S)
  | (refine iI 5 rfl ?_; refine nO (Kd.int .i64) 3 rfl 5 S ?_; clear S; intro Ap cp op dS S jy; have jD := (S.out.at aY 6).trans rfl)
  | fail)
 clear jD
 go_loopg [3, 9] l.length (fun gg v3 v9 wr => ∃ (pre rest : List ai) (Ap : Option Addr) (cp : Nat) (op : Obj), v3 = .slice Ap pre.length cp ∧ v9 = .int .i64 (pre.length : Int) ∧ ae (pre ++ rest = l) ∧ rest.length ≤ gg ∧ ae (KR (Kd.int .i64) 3 w.heap.size (.slice Ap pre.length cp) (pre.map (rX ck)) op) ∧ ae (St w P [((Value.slice Ap pre.length cp).ownBlock, op), (some b1, .cells #[.int .u8 ck, .int .i64 cx, .int .i64 cy, .int .i64 cw, .int .i64 ch, .int .i64 ay, .slice A l.length cc] 26 (0, 0))] [] [(.slice A l.length cc, l)] [] wr))
 case atStart => exact ⟨[], l, _, _, _, rfl, rfl, ⟨rfl⟩, Nat.le_refl _, jy, S⟩
 case round =>
  clear S jy
  obtain ⟨pre, rest, Ap, cp, op, rfl, rfl, HE, hgg, jy, S⟩ := hrel
  cases rest with
  | nil =>
   have hE := HE.out
   rw [List.append_nil] at hE
   have hE2 := hE.symm
   subst hE2
   clear hE HE hgg
   have hlt : ¬ ((l.length : Int) < (l.length : Int)) := by omega
   go_wp2
   go_ret
   exact ⟨_, _, rfl, S.out.IG jy.out (.head _), S.out.below⟩
  | cons k rest =>
   have hk : k ∈ l := by rw [← HE.out]; simp
   have hlt : (pre.length : Int) < (l.length : Int) := by rw [← HE.out, List.length_append, List.length_cons]; omega
   have hw1 : wrap64 ((pre.length : Int) + 1) = ((pre ++ [k]).length : Int) := by have := gY.out; rw [List.length_append, List.length_singleton]; unfold wrap64; omega
   have HW1 := ae.mk hw1
   have fM := ae.mk hgg
   have HK := ae.mk hk
   have yD := ae.mk (show pre.length ≤ 1048576 by have := gY.out; omega)
   obtain ⟨gK, ua, uc, ek, S1⟩ := S.out.elem (.head _) (pre.length : Int) (Int.natCast_nonneg _) hlt
   subst ek
   have hrd : aA l (pre.length : Int) = k := by rw [← HE.out]; exact kE pre k rest
   rw [hrd] at S1
   simp only [Int.toNat_natCast] at S1
   replace S := ae.mk S1
   clear S1 hrd hk hgg hw1
   by_cases hk2 : ck = 2
   case pos =>
    have hka : (ck == 2) = true := beq_iff_eq.mpr hk2
    have hkb : decide (ck = 2) = true := decide_eq_true hk2
    have N9 := ae.mk (show (pre ++ [k]).map (rX ck) = pre.map (rX ck) ++ [k.f1.f2] by rw [List.map_append]; exact congrArg (pre.map (rX ck) ++ [·]) (if_pos hk2))
    clear hk2
    have iH := (S.out.at aY 0).trans rfl
    have jD := (S.out.at aY 6).trans rfl
    have iP := (S.out.cell _ jB).1
    go_wp2_with (first
     | (refine iI 24 rfl ?_; at_builtin; refine xI (Kd.int .i64) 3 rfl 15 23 41 (.int .i64 0) 8 Try.underlying41 info3 rfl (by decide) (by decide) (by decide) S jy k.f1.f2 [.int .i64 k.f1.f2] (fun _ _ _ => rfl) (by have := yD.out; simp only [List.length_map]; omega) ?_; clear S jy; intro NK cp2 P8 gq S jy; clear iH jD iP)
     | fail)
    have e2 : ((pre.map (rX ck)) ++ [k.f1.f2]).length = (pre ++ [k]).length := by simp
    rw [e2, ← N9.out] at jy
    rw [e2] at S
    have hw1 := HW1.out
    go_wp2
    go_roundg rest.length
    case measure => exact Nat.lt_of_lt_of_le (Nat.lt_succ_self _) fM.out
    case rel => exact ⟨pre ++ [k], rest, _, _, _, (by rw [List.length_append]; rfl), (by rw [hw1]), ⟨by rw [List.append_assoc]; exact HE.out⟩, Nat.le_refl _, jy, ⟨S.out.vS.vS.bQ.aX.aX.aX.aX.aX.aX.aX⟩⟩
   case neg =>
    have hka : (ck == 2) = false := beq_eq_false_iff_ne.mpr hk2
    have hkb : decide (ck = 2) = false := decide_eq_false hk2
    have N9 := ae.mk (show (pre ++ [k]).map (rX ck) = pre.map (rX ck) ++ [k.f1.f3] by rw [List.map_append]; exact congrArg (pre.map (rX ck) ++ [·]) (if_neg hk2))
    clear hk2
    have iH := (S.out.at aY 0).trans rfl
    have jD := (S.out.at aY 6).trans rfl
    have iQ := (S.out.cell _ lK).1
    go_wp2_with (first
     | (refine iI 34 rfl ?_; at_builtin; refine xI (Kd.int .i64) 3 rfl 25 33 41 (.int .i64 0) 8 Try.underlying41 info3 rfl (by decide) (by decide) (by decide) S jy k.f1.f3 [.int .i64 k.f1.f3] (fun _ _ _ => rfl) (by have := yD.out; simp only [List.length_map]; omega) ?_; clear S jy; intro NK cp2 P8 gz S jy; clear iH jD iQ)
     | fail)
    have e2 : ((pre.map (rX ck)) ++ [k.f1.f3]).length = (pre ++ [k]).length := by simp
    rw [e2, ← N9.out] at jy
    rw [e2] at S
    have hw1 := HW1.out
    go_wp2
    go_roundg rest.length
    case measure => exact Nat.lt_of_lt_of_le (Nat.lt_succ_self _) fM.out
    case rel => exact ⟨pre ++ [k], rest, _, _, _, (by rw [List.length_append]; rfl), (by rw [hw1]), ⟨by rw [List.append_assoc]; exact HE.out⟩, Nat.le_refl _, jy, ⟨S.out.vS.vS.bQ.aX.aX.aX.aX.aX.aX.aX⟩⟩
def wS.T3 : Bool × List (List Nat × List Nat) := (true, [([], []), ([0], [0]), ([], []), ([2], [2]), ([3], [3]), ([], []), ([5], [5]), ([1, 4, 6, 6], [1, 4, 6]), ([7], [7]), ([8], [8]), ([8], [8]), ([8], [8]), ([9, 7, 0, 1, 2, 3, 4, 5, 6, 7, 8, 9], [9]), ([10, 12, 0, 1, 2, 3, 4, 5, 6, 7, 8, 9, 10, 12], [10]), ([11, 13, 0, 1, 2, 3, 4, 5, 6, 7, 8, 9, 10, 11, 12, 13], [11])])
def wS.B3 : List Nat := [0, 1, 0, 4, 12, 0, 32, 127, 255, 511, 511, 511, 1023, 6143, 16383]
theorem wS.Lp : iM .any (opsOf Try.f178 3) = wS.T3 := by kernel_rfl
theorem wS.Gv : gZ wS.T3.2 wS.B3 = true := by kernel_rfl
def wU.T9 : Bool × List (List Nat × List Nat) := (true, [([], []), ([], []), ([0, 1], [0, 1]), ([2], [2]), ([], []), ([4], [4]), ([], []), ([5, 6], [5, 6]), ([7], [7]), ([8], [8]), ([3, 9], [3, 9])])
def wU.B9 : List Nat := [0, 0, 3, 7, 0, 16, 0, 112, 240, 496, 1023]
theorem wU.xw : iM .any (opsOf Try.f178 9) = wU.T9 := by kernel_rfl
theorem wU.sF : gZ wU.T9.2 wU.B9 = true := by kernel_rfl
theorem WB (c : ai) (hl : c.f3.length ≤ 1000000) (b : Nat) (P : Nat → Prop) (A : Option Addr) (cc : Nat) (w : World) (hv : Kd.V k26 26 w b P (.slice A c.f3.length cc) c.f3) :
  Calls Try.prog 178 #[.agg #[.int .u8 c.f0, .int .i64 c.f1.f0, .int .i64 c.f1.f1, .int .i64 c.f1.f2, .int .i64 c.f1.f3, .int .i64 c.f2, .slice A c.f3.length cc]] w (SY w c) := by
 have S := ae.mk (St.start (ts := [(.slice A c.f3.length cc, c.f3)]) (b0 := w.heap.size) (w := w) (P := P) (fun t ht => by rw [List.mem_singleton.1 ht]; exact eY hv))
 have gY := ae.mk hl
 have hsz := fun b P A cc w hv => Y3 c hl b P A cc w hv
 obtain ⟨T, hT⟩ : ∃ T, T = Af c := ⟨_, rfl⟩
 have hlen : T.2.2 = true → T.1.length = c.f3.length := fun h => by rw [hT] at h ⊢; rw [(EY h).2.1, O5]; simp [ku]
 have hl2 : T.2.1.length ≤ c.f3.length := by rw [hT]; exact (O6 c).2
 have hcut := fun B cb w hi => afY c.f1.f0 c.f1.f1 c.f1.f2 c.f1.f3 ((c.f0 - 1) % 256) (ku c) (by simpa [ku] using hl) B cb w hi
 rw [show sH c.f1.f0 c.f1.f1 c.f1.f2 c.f1.f3 ((c.f0 - 1) % 256) (ku c) = T by rw [hT, aay]; rfl] at hcut
 have ho : oM c = Ef c T := by rw [hT]; rfl
 generalize ku c = SL at hsz hcut
 unfold SY
 generalize oM c = v at ho ⊢
 clear hT hl hv
 obtain ⟨ck, ⟨cx, cy, cw, ch⟩, ay, l⟩ := c
 obtain ⟨t1, t2, t3⟩ := T
 simp only [Ef] at S gY hsz hlen hl2 hcut ho ⊢
 have HZC := ae.mk hsz
 have HL2 := ae.mk hl2
 clear hsz hl2
 by_cases h1 : ck = 1
 case pos =>
  have hv : v = true := by rw [ho, h1]; rfl
  have ha : (ck == 1) = true := beq_iff_eq.mpr h1
  have hb : decide (ck = 1) = true := decide_eq_true h1
  have HL := ae.mk hv
  clear hv h1 ho hcut hlen
  go_enter Try.func178, Try.ntmps178
  go_wp2_with (first | (refine boxS 1 _ 26 S ?_; clear S; intro b1 di S; have iH := (S.out.at (.head _) 0).trans rfl) | (refine iI 11 rfl ?_; refine nO k23 23 rfl 11 S ?_; clear S; intro ama aml amB dS S AA; clear iH))
  go_ret2
  rw [HL.out]
  exact ⟨_, _, _, rfl, fun _ => ⟨[], rfl, Nat.zero_le _, S.out.IG AA.out (.head _)⟩, S.out.below⟩
 have ha : (ck == 1) = false := beq_eq_false_iff_ne.mpr h1
 have hd : decide (ck = 1) = false := decide_eq_false h1
 rw [ha, Bool.false_or] at ho
 clear h1
 cases t3 with
 | false =>
  rw [Bool.false_and] at ho
  have HL := ae.mk ho
  have I9 := ae.mk (fun B cb w hi => O7 (hcut B cb w hi))
  clear hcut ho hlen
  go_enter Try.func178, Try.ntmps178
  go_wp2_with ((refine boxS 1 _ 26 S ?_; clear S; intro b1 di S; have iH := (S.out.at (.head _) 0).trans rfl))
  clear iH
  refine gX (n := 15) (S := fun w' => St w _ _ _ _ _ w') (ds := []) (bA 15 0) (by kernel_rfl) rfl rfl (S.out.call (a_ (Below.refl _ _))) (fun hHeld => ?_); refine dZ wS.Lp wS.Gv (fun aj dE => ?_)
  replace S := ae.mk (S.out.call (a_ (Below.refl _ _)))
  generalize di.drew = wd2 at S hHeld ⊢
  refine ak 0 13 (bA 15 1) aj ?_
  refine b_ 1 14 (bA 15 3) aj dE hHeld ?_ (hv := by intro w' hs_; have lQ := (hs_.at (.head _) 1).trans rfl; have lS := (hs_.at (.head _) 2).trans rfl; have lT := (hs_.at (.head _) 3).trans rfl; have lU := (hs_.at (.head _) 4).trans rfl; go_simp; with_reducible rfl)
  refine ak 2 15 (bA 15 7) aj ?_
  refine b_ 3 16 (bA 15 15) aj dE hHeld ?_ (hv := by intro w' hs_; have iH := (hs_.at (.head _) 0).trans rfl; go_simp; with_reducible rfl)
  refine ak 4 17 (bA 15 31) aj ?_
  refine b_ 5 18 (bA 15 63) aj dE hHeld ?_ (hv := by intro w' hs_; have iH := (hs_.at (.head _) 0).trans rfl; have lQ := (hs_.at (.head _) 1).trans rfl; have lS := (hs_.at (.head _) 2).trans rfl; have lT := (hs_.at (.head _) 3).trans rfl; have lU := (hs_.at (.head _) 4).trans rfl; have nV := (hs_.at (.head _) 5).trans rfl; have jD := (hs_.at (.head _) 6).trans rfl; go_simp; with_reducible rfl)
  refine iL 6 (some 19) (bA 15 127) aj (fun K hK => ?_)
  refine ja Try.func194 (by kernel_rfl) rfl #[.agg #[.int .u8 ck, .int .i64 cx, .int .i64 cy, .int .i64 cw, .int .i64 ch, .int .i64 ay, .slice A l.length cc]] (by rfl) rfl rfl (by (try simp only [List.map_toArray, List.map_cons, List.map_nil]); rfl) ?_
  refine (HZC.out _ _ _ _ _ (S.out.tree _ (.head _))).mono ?_
  rintro e gq ⟨As, cs, rfl, h1, hb⟩
  refine ⟨_, rfl, ?_⟩
  obtain ⟨os, S1, hI⟩ := S.out.IU (d := Kd.int .i64) (e := 3) rfl h1 hb
  replace S := ae.mk S1
  have HKs := ae.mk hI
  clear S1 hI h1 hb
  refine hK.out _ _ S.out.dV (fun hHeld => ?_)
  clear hK K
  refine dR 19 ?_
  refine iL 7 (some 20) (bA 15 255) aj (fun K hK => ?_)
  refine ja Try.func46 (by kernel_rfl) rfl #[.agg #[.int .i64 cx, .int .i64 cy, .int .i64 cw, .int .i64 ch], .int .u8 ((ck - 1) % 256), .slice As SL.length cs] (by rfl) rfl rfl (by (try simp only [List.map_toArray, List.map_cons, List.map_nil]); rfl) ?_
  refine (I9.out _ _ _ (Kd.eQ (Ob HKs.out S.out (.head _))).2.2).mono ?_
  rintro e gz ⟨Ap, np, cp, Aq, nq, cq, rfl, hb⟩
  refine ⟨_, rfl, ?_⟩
  replace S := ae.mk (S.out.call hb)
  clear hb
  refine hK.out _ _ S.out.dV (fun hHeld => ?_)
  clear hK K
  refine dR 20 ?_
  refine ak 8 12 (bA 15 511) aj ?_
  refine ak 9 21 (bA 15 1023) aj ?_
  refine ak 10 22 (bA 15 2047) aj ?_
  refine ak 11 23 (bA 15 4095) aj ?_
  refine ak 12 4 (bA 15 8191) aj ?_
  refine ak 13 5 (bA 15 16383) aj ?_
  refine ak 14 6 (bA 15 32767) aj ?_
  refine jf (fJ aj.out (by kernel_rfl)) ?_
  clear hHeld
  go_wp2
  go_ret2
  rw [HL.out]
  exact ⟨_, _, _, rfl, (fun h => by cases h), S.out.below⟩
 | true =>
  replace hlen := hlen rfl
  rw [Bool.true_and, show (l.length == t1.length) = true from beq_iff_eq.mpr hlen.symm, Bool.true_and] at ho
  have HL := ae.mk ho
  have Ci := ae.mk hlen
  have I9 := ae.mk (fun B cb w hi => QW (hcut B cb w hi))
  clear hcut ho hlen
  go_enter Try.func178, Try.ntmps178
  go_wp2_with ((refine boxS 1 _ 26 S ?_; clear S; intro b1 di S; have iH := (S.out.at (.head _) 0).trans rfl))
  clear iH
  refine gX (n := 15) (S := fun w' => St w _ _ _ _ _ w') (ds := []) (bA 15 0) (by kernel_rfl) rfl rfl (S.out.call (a_ (Below.refl _ _))) (fun hHeld => ?_); refine dZ wS.Lp wS.Gv (fun aj dE => ?_)
  replace S := ae.mk (S.out.call (a_ (Below.refl _ _)))
  generalize di.drew = wd2 at S hHeld ⊢
  refine ak 0 13 (bA 15 1) aj ?_
  refine b_ 1 14 (bA 15 3) aj dE hHeld ?_ (hv := by intro w' hs_; have lQ := (hs_.at (.head _) 1).trans rfl; have lS := (hs_.at (.head _) 2).trans rfl; have lT := (hs_.at (.head _) 3).trans rfl; have lU := (hs_.at (.head _) 4).trans rfl; go_simp; with_reducible rfl)
  refine ak 2 15 (bA 15 7) aj ?_
  refine b_ 3 16 (bA 15 15) aj dE hHeld ?_ (hv := by intro w' hs_; have iH := (hs_.at (.head _) 0).trans rfl; go_simp; with_reducible rfl)
  refine ak 4 17 (bA 15 31) aj ?_
  refine b_ 5 18 (bA 15 63) aj dE hHeld ?_ (hv := by intro w' hs_; have iH := (hs_.at (.head _) 0).trans rfl; have lQ := (hs_.at (.head _) 1).trans rfl; have lS := (hs_.at (.head _) 2).trans rfl; have lT := (hs_.at (.head _) 3).trans rfl; have lU := (hs_.at (.head _) 4).trans rfl; have nV := (hs_.at (.head _) 5).trans rfl; have jD := (hs_.at (.head _) 6).trans rfl; go_simp; with_reducible rfl)
  refine iL 6 (some 19) (bA 15 127) aj (fun K hK => ?_)
  refine ja Try.func194 (by kernel_rfl) rfl #[.agg #[.int .u8 ck, .int .i64 cx, .int .i64 cy, .int .i64 cw, .int .i64 ch, .int .i64 ay, .slice A l.length cc]] (by rfl) rfl rfl (by (try simp only [List.map_toArray, List.map_cons, List.map_nil]); rfl) ?_
  refine (HZC.out _ _ _ _ _ (S.out.tree _ (.head _))).mono ?_
  rintro e gq ⟨As, cs, rfl, h1, hb⟩
  refine ⟨_, rfl, ?_⟩
  obtain ⟨os, S1, hI⟩ := S.out.IU (d := Kd.int .i64) (e := 3) rfl h1 hb
  replace S := ae.mk S1
  have HKs := ae.mk hI
  clear S1 hI h1 hb
  refine hK.out _ _ S.out.dV (fun hHeld => ?_)
  clear hK K
  refine dR 19 ?_
  refine iL 7 (some 20) (bA 15 255) aj (fun K hK => ?_)
  refine ja Try.func46 (by kernel_rfl) rfl #[.agg #[.int .i64 cx, .int .i64 cy, .int .i64 cw, .int .i64 ch], .int .u8 ((ck - 1) % 256), .slice As SL.length cs] (by rfl) rfl rfl (by (try simp only [List.map_toArray, List.map_cons, List.map_nil]); rfl) ?_
  refine (I9.out _ _ _ (Kd.eQ (Ob HKs.out S.out (.head _))).2.2).mono ?_
  rintro e gz ⟨Ap, cp, Aq, cq, op, oq, rfl, h1, hb⟩
  refine ⟨_, rfl, ?_⟩
  obtain ⟨S1, hp, hq⟩ := S.out.two h1 hb
  replace S := ae.mk S1
  have jy := ae.mk hp
  have oC := ae.mk hq
  clear S1 hp hq h1 hb
  refine hK.out _ _ S.out.dV.dV.dV (fun hHeld => ?_)
  clear hK K
  refine dR 20 ?_
  refine ak 8 12 (bA 15 511) aj ?_
  refine ak 9 21 (bA 15 1023) aj ?_
  refine ak 10 22 (bA 15 2047) aj ?_
  refine ak 11 23 (bA 15 4095) aj ?_
  refine ak 12 4 (bA 15 8191) aj ?_
  refine ak 13 5 (bA 15 16383) aj ?_
  refine ak 14 6 (bA 15 32767) aj ?_
  refine jf (fJ aj.out (by kernel_rfl)) ?_
  clear hHeld
  go_wp2
  clear ha hd
  go_loopg [29] t1.length (fun gg v29 wr => ∃ (pre rest : List dO) (pb rb : List ai), v29 = .int .i64 (pre.length : Int) ∧ ae (pre ++ rest = t1) ∧ ae (pb ++ rb = l) ∧ ae (pb.length = pre.length) ∧ ae (uQ (fun k r => oH k.f1 r) pb pre = true) ∧ rest.length ≤ gg ∧ ae (St w P [((Value.slice Ap t1.length cp).ownBlock, op), ((Value.slice Aq t2.length cq).ownBlock, oq), ((Value.slice As SL.length cs).ownBlock, os), (some b1, .cells #[.int .u8 ck, .int .i64 cx, .int .i64 cy, .int .i64 cw, .int .i64 ch, .int .i64 ay, .slice A l.length cc] 26 (0, 0))] [] [(.slice A l.length cc, l)] [] wr))
  case atStart => exact ⟨[], t1, [], l, rfl, ⟨rfl⟩, ⟨rfl⟩, ⟨rfl⟩, ⟨J9 _ _⟩, Nat.le_refl _, S⟩
  case round =>
   clear S
   obtain ⟨pre, rest, pb, rb, rfl, HE, HE2, zn, QM, hgg, S⟩ := hrel
   have hlr : rb.length = rest.length := by have h1 := congrArg List.length HE.out; have h2 := congrArg List.length HE2.out; rw [List.length_append] at h1 h2; have := zn.out; have := Ci.out; omega
   cases rest with
   | nil =>
    have hrb := List.eq_nil_of_length_eq_zero hlr
    subst hrb
    have hE := HE.out
    rw [List.append_nil] at hE
    have Q5 := HE2.out
    rw [List.append_nil] at Q5
    have HV := ae.mk (show v = true by rw [HL.out, ← hE, ← Q5]; exact QM.out)
    have hlt : ¬ ((pre.length : Int) < (t1.length : Int)) := by rw [hE]; omega
    have afu : ¬ (pre.length < t1.length) := by omega
    clear HE HE2 hgg hlr hE Q5
    go_wp2
    go_ret2
    rw [HV.out]
    exact ⟨_, _, _, rfl, fun _ => ⟨t2, rfl, HL2.out, S.out.IG oC.out aY⟩, S.out.below⟩
   | cons r rest =>
    cases rb with
    | nil => simp at hlr
    | cons k rb =>
     have hlt : (pre.length : Int) < (t1.length : Int) := by rw [← HE.out, List.length_append, List.length_cons]; omega
     have hlt2 : (pb.length : Int) < (l.length : Int) := by rw [← HE2.out, List.length_append, List.length_cons]; omega
     have hlt3 : pre.length < l.length := by have := zn.out; omega
     have afu : pre.length < t1.length := by omega
     have hlt4 : (pre.length : Int) < (l.length : Int) := by omega
     have hw1 : wrap64 ((pre.length : Int) + 1) = ((pre ++ [r]).length : Int) := by have := gY.out; have := Ci.out; rw [List.length_append, List.length_singleton]; unfold wrap64; omega
     have HW1 := ae.mk hw1
     have fM := ae.mk hgg
     obtain ⟨gK, ua, uc, ek, S1⟩ := S.out.elem (.head _) (pb.length : Int) (Int.natCast_nonneg _) hlt2
     subst ek
     have hrd : aA l (pb.length : Int) = k := by rw [← HE2.out]; exact kE pb k rb
     rw [hrd] at S1
     simp only [Int.toNat_natCast] at S1
     rw [zn.out] at S1
     replace S := ae.mk S1
     obtain ⟨AL, ep, hel⟩ := adQ jy.out (S.out.blk _ (.head _)) pre rest r HE.out
     subst ep
     have I_ := ae.mk hel
     clear S1 hrd hgg hw1 hlr hel hlt2
     cases hq : oH k.f1 r with
     | false =>
      have HQ := ae.mk hq
      have HV := ae.mk (show v = false by rw [HL.out, ← HE.out, ← HE2.out, QY zn.out, QM.out]; simp [uQ, hq])
      clear hq
      go_wp2
      refine gX (n := 11) (S := fun w' => St w _ _ _ _ _ w') (ds := []) (bA 11 0) (by kernel_rfl) rfl rfl (S.out.call (a_ (Below.refl _ _))) (fun hHeld => ?_); refine dZ wU.xw wU.sF (fun aj dE => ?_)
      replace S := ae.mk (S.out.call (a_ (Below.refl _ _)))
      generalize wr.drew = EK at S hHeld ⊢
      refine ak 0 32 (bA 11 1) aj ?_
      refine ak 1 33 (bA 11 3) aj ?_
      refine ak 2 34 (bA 11 7) aj ?_
      refine b_ 3 35 (bA 11 15) aj dE hHeld ?_ (hv := by intro w' hs_; have xp0 := (I_.out _ (hs_.blk _ (.head _))).1; have xp1 := (I_.out _ (hs_.blk _ (.head _))).2.1; have xp2 := (I_.out _ (hs_.blk _ (.head _))).2.2.1; have xp3 := (I_.out _ (hs_.blk _ (.head _))).2.2.2; go_simp; with_reducible rfl)
      refine ak 4 36 (bA 11 31) aj ?_
      refine b_ 5 37 (bA 11 63) aj dE hHeld ?_ (hv := by intro w' hs_; have jD := (hs_.at jB 6).trans rfl; go_simp; with_reducible rfl)
      refine ak 6 38 (bA 11 127) aj ?_
      refine ak 7 39 (bA 11 255) aj ?_
      refine ak 8 40 (bA 11 511) aj ?_
      refine b_ 9 41 (bA 11 1023) aj dE hHeld ?_ (hv := by intro w' hs_; have iD := (hs_.cell _ aY).1; have jd := (hs_.cell _ dL).1; have iP := (hs_.cell _ jB).1; have iQ := (hs_.cell _ lK).1; go_simp; with_reducible rfl)
      refine b_ 10 42 (bA 11 2047) aj dE hHeld ?_ (hv := by intro w' hs_; go_simp; exact afQ HQ.out _ _)
      refine jf (fJ aj.out (by kernel_rfl)) ?_
      clear hHeld
      go_wp2_with ((refine iI 43 rfl ?_; refine nO k23 23 rfl 43 S ?_; clear S; intro amb amm amC dS S AA))
      go_ret2
      rw [HV.out]
      exact ⟨_, _, _, rfl, (fun h => by cases h), S.out.below⟩
     | true =>
      have Ja := ae.mk (show uQ (fun k r => oH k.f1 r) (pb ++ [k]) (pre ++ [r]) = true by rw [QY zn.out, QM.out]; simp [uQ, hq])
      obtain ⟨q0, q1, q2, q3⟩ := r
      unfold oH at hq
      simp only [Bool.and_eq_true, beq_iff_eq] at hq
      obtain ⟨e0, e1, e2, e3⟩ := hq
      subst e0 e1 e2 e3
      simp only [] at I_
      go_wp2
      refine gX (n := 11) (S := fun w' => St w _ _ _ _ _ w') (ds := []) (bA 11 0) (by kernel_rfl) rfl rfl (S.out.call (a_ (Below.refl _ _))) (fun hHeld => ?_); refine dZ wU.xw wU.sF (fun aj dE => ?_)
      replace S := ae.mk (S.out.call (a_ (Below.refl _ _)))
      generalize wr.drew = EK at S hHeld ⊢
      refine ak 0 32 (bA 11 1) aj ?_
      refine ak 1 33 (bA 11 3) aj ?_
      refine ak 2 34 (bA 11 7) aj ?_
      refine b_ 3 35 (bA 11 15) aj dE hHeld ?_ (hv := by intro w' hs_; have xp0 := (I_.out _ (hs_.blk _ (.head _))).1; have xp1 := (I_.out _ (hs_.blk _ (.head _))).2.1; have xp2 := (I_.out _ (hs_.blk _ (.head _))).2.2.1; have xp3 := (I_.out _ (hs_.blk _ (.head _))).2.2.2; go_simp; with_reducible rfl)
      refine ak 4 36 (bA 11 31) aj ?_
      refine b_ 5 37 (bA 11 63) aj dE hHeld ?_ (hv := by intro w' hs_; have jD := (hs_.at jB 6).trans rfl; go_simp; with_reducible rfl)
      refine ak 6 38 (bA 11 127) aj ?_
      refine ak 7 39 (bA 11 255) aj ?_
      refine ak 8 40 (bA 11 511) aj ?_
      refine b_ 9 41 (bA 11 1023) aj dE hHeld ?_ (hv := by intro w' hs_; have iD := (hs_.cell _ aY).1; have jd := (hs_.cell _ dL).1; have iP := (hs_.cell _ jB).1; have iQ := (hs_.cell _ lK).1; go_simp; with_reducible rfl)
      refine ak 10 42 (bA 11 2047) aj ?_
      refine jf (fJ aj.out (by kernel_rfl)) ?_
      clear hHeld
      go_wp2
      have hw1 := HW1.out
      go_wp2
      go_roundg rest.length
      case measure => exact Nat.lt_of_lt_of_le (Nat.lt_succ_self _) fM.out
      case rel => exact ⟨pre ++ [_], rest, pb ++ [k], rb, (by rw [hw1]), ⟨by rw [List.append_assoc]; exact HE.out⟩, ⟨by rw [List.append_assoc]; exact HE2.out⟩, ⟨by rw [List.length_append, List.length_append, zn.out]; rfl⟩, Ja, Nat.le_refl _, ⟨S.out.bQ.aX.aX.aX.aX.aX.aX.aX⟩⟩
section
variable {W : World} {b : Nat} {P : Nat → Prop} {A : Option Addr} {cc : Nat}
theorem OD (c : ai) (hz : sz c ≤ 1048576) (hV : Kd.V k26 26 W b P (.slice A c.f3.length cc) c.f3) :
  Calls Try.prog 79 #[.agg #[.int .u8 c.f0, .int .i64 c.f1.f0, .int .i64 c.f1.f1, .int .i64 c.f1.f2, .int .i64 c.f1.f3, .int .i64 c.f2, .slice A c.f3.length cc]] W fun e w' => ∃ A' c', e = .returned (.slice A' (iw c).length c') ∧ Kd.N k26 26 w' W.heap.size (fun k => P k ∨ W.heap.size ≤ k) (.slice A' (iw c).length c') (iw c) ∧ Below W.heap.size W w' := by
 obtain ⟨k, hk⟩ := (Md (sz c) c (Nat.le_refl _) hz).rounds
 exact (dN.calls k _ _ _ _ _ _ P A cc c.f3 _ W (eY hV) hk).mono (fun e w' ⟨v, he, hN, hB⟩ => by
  obtain ⟨A', c', rfl⟩ := Kd.jG hN
  exact ⟨A', c', he, hN, hB⟩)
theorem Yw (c : ai) (hz : sz c ≤ 1048576) (hV : Kd.V k26 26 W b P (.slice A c.f3.length cc) c.f3) :
  Calls Try.prog 126 #[.agg #[.int .u8 c.f0, .int .i64 c.f1.f0, .int .i64 c.f1.f1, .int .i64 c.f1.f2, .int .i64 c.f1.f3, .int .i64 c.f2, .slice A c.f3.length cc]] W fun e w' => ∃ A' c', e = .returned (.slice A' (nN c).length c') ∧ Kd.N k26 26 w' W.heap.size (fun k => P k ∨ W.heap.size ≤ k) (.slice A' (nN c).length c') (nN c) ∧ Below W.heap.size W w' := by
 obtain ⟨k, hk⟩ := (Wj c hz).rounds
 exact (eU.calls k _ _ _ _ _ _ P A cc c.f3 _ W (eY hV) hk).mono (fun e w' ⟨v, he, hN, hB⟩ => by
  obtain ⟨A', c', rfl⟩ := Kd.jG hN
  exact ⟨A', c', he, hN, hB⟩)
theorem wQ {r : dO} {v : Bool} (h : lu r = v) : Calls Try.prog 57 #[.agg #[.int .i64 r.f0, .int .i64 r.f1, .int .i64 r.f2, .int .i64 r.f3]] W fun e w' => e = .returned (.bool v) ∧ Below W.heap.size W w' :=
 qh.calls _ _ _ _ _ W ((Hr _ _ _ _).trans (congrArg some h))
end
def qA (L M : List ai) : Bool := decide (L.length ≤ 20000) && (L.all oh && gm M)
theorem uT {pre rest M : List ai} {k : ai} (h : oh k = false) : qA (pre ++ k :: rest) M = false := by
 unfold qA
 rw [List.all_append, List.all_cons, h, Bool.false_and, Bool.and_false, Bool.false_and, Bool.and_false]
theorem zA {k : ai} (h : lu k.f1 = false ∨ k.f0 < 1 ∨ 3 < k.f0 ∨ (k.f0 = 1 ∧ (0 < k.f3.length ∨ k.f2 < 0 ∨ 2147483647 < k.f2)) ∨ (1 < k.f0 ∧ (k.f3.length < 2 ∨ k.f2 ≠ 0))) : oh k = false := by
 cases hk : oh k with
 | false => rfl
 | true =>
  exfalso
  unfold oh at hk
  simp only [Bool.and_eq_true, decide_eq_true_eq] at hk
  obtain ⟨⟨⟨h1, h2⟩, h3⟩, h4⟩ := hk
  rcases h with h | h | h | h | h
  ·rw [h1] at h; cases h
  ·omega
  ·omega
  ·have := h3 h.1; omega
  ·have := h4 h.1; omega
theorem RJ {k : ai} (h1 : lu k.f1 = true) (h2 : 1 ≤ k.f0 ∧ k.f0 ≤ 3) (h3 : k.f0 = 1 → k.f3.length = 0 ∧ 0 ≤ k.f2 ∧ k.f2 ≤ 2147483647) (h4 : k.f0 > 1 → 2 ≤ k.f3.length ∧ k.f2 = 0) : oh k = true := by
 unfold oh
 rw [h1, decide_eq_true h2, decide_eq_true h3, decide_eq_true h4]
 rfl
theorem Qy {pre rest : List ai} {k : ai} (h : qg pre k = false) : gm (pre ++ k :: rest) = false := by
 have h2 : gm (pre ++ [k]) = false := by rw [sW, h, Bool.and_false]
 have h3 := Ah (pre ++ [k]) rest h2
 rwa [List.append_assoc] at h3
theorem ahc (c : ai) (hz : sz c ≤ 1048576) (A : Option Addr) (cc : Nat) (w : World) (hr : Kd.C k26 w A c.f3.length c.f3) (hc : c.f3.length ≤ cc) :
  Calls Try.prog 38 #[.agg #[.int .u8 c.f0, .int .i64 c.f1.f0, .int .i64 c.f1.f1, .int .i64 c.f1.f2, .int .i64 c.f1.f3, .int .i64 c.f2, .slice A c.f3.length cc]] w fun e w' => e = .returned (.bool (mM c)) ∧ Below w.heap.size w w' := by
 have S := ae.mk (St.start (ts := [(.slice A c.f3.length cc, c.f3)]) (b0 := w.heap.size) (w := w) (P := fun k => k < w.heap.size) (fun t ht => by
  rw [List.mem_singleton.1 ht]; exact Kd.x_ hc (Kd.GY qM hr)))
 have HZ := ae.mk hz
 have HM := ae.mk (show mM c = qA (iw c) (nN c) from rfl)
 have HLZ := ae.mk (show (iw c).length ≤ 1048576 from hz)
 have Zf := ae.mk (show (nN c).length ≤ 1048576 from Nat.le_trans (List.length_filter_le _ _) hz)
 clear hr hc hz
 obtain ⟨ck, ⟨cx, cy, cw, ch⟩, ay, l⟩ := c
 simp only [] at S HZ HM HLZ Zf
 have Yg := fun W b P A cc hV => @OD W b P A cc ⟨ck, ⟨cx, cy, cw, ch⟩, ay, l⟩ HZ.out hV
 have Yh := fun W b P A cc hV => @Yw W b P A cc ⟨ck, ⟨cx, cy, cw, ch⟩, ay, l⟩ HZ.out hV
 rw [HM.out]
 generalize iw ⟨ck, ⟨cx, cy, cw, ch⟩, ay, l⟩ = L at HM HLZ Yg ⊢
 generalize nN ⟨ck, ⟨cx, cy, cw, ch⟩, ay, l⟩ = M at HM Zf Yh ⊢
 have HA := ae.mk Yg
 have HLE := ae.mk Yh
 clear HM Yg Yh
 by_cases hl : 20000 < L.length
 case pos =>
  obtain ⟨hla, hlb⟩ := nz (a := 20000) (b := (L.length : Int)) (by omega)
  have hlc : decide (20000 < L.length) = true := decide_eq_true (by omega)
  have HB := ae.mk (show qA L M = false by unfold qA; rw [decide_eq_false (by omega), Bool.false_and])
  clear hl
  go_enter Try.func38, Try.ntmps38
  go_wp2_with (first
   | (refine boxS 1 _ 26 S ?_; clear S; intro b1 di S; obtain ⟨iH, lQ, lS, lT, lU, nV, jD⟩ := St.dD S (.head _))
   | (refine wZ (some 9) Try.func79 S (HA.out _ _ _ _ _ (S.out.tree _ (.head _))) ?_; clear S; intro Aa ca dS S; clear iH lQ lS lT lU nV jD)
   | fail)
  go_ret
  refine ⟨?_, S.out.below⟩
  rw [HB.out]
  rfl
 obtain ⟨hla, hlb⟩ := lY (a := 20000) (b := (L.length : Int)) (by omega)
 have hlc : decide (20000 < L.length) = false := decide_eq_false (by omega)
 have HL := ae.mk hl
 clear hl
 go_enter Try.func38, Try.ntmps38
 go_wp2_with (first
  | (refine boxS 1 _ 26 S ?_; clear S; intro b1 gq S; obtain ⟨iH, lQ, lS, lT, lU, nV, jD⟩ := St.dD S (.head _))
  | (refine wZ (some 9) Try.func79 S (HA.out _ _ _ _ _ (S.out.tree _ (.head _))) ?_; clear S; intro Aa ca gz S; clear iH lQ lS lT lU nV jD)
  | fail)
 clear hla hlb hlc
 go_loopg [15] L.length (fun gg v15 wr => ∃ (pre rest : List ai), v15 = .int .i64 (pre.length : Int) ∧ ae (pre ++ rest = L) ∧ rest.length ≤ gg ∧ ae (pre.all oh = true) ∧ ae (St w (fun k => k < w.heap.size) [(some b1, .cells #[.int .u8 ck, .int .i64 cx, .int .i64 cy, .int .i64 cw, .int .i64 ch, .int .i64 ay, .slice A l.length cc] 26 (0, 0))] [] [(.slice Aa L.length ca, L), (.slice A l.length cc, l)] [] wr))
 case atStart => exact ⟨[], L, rfl, ⟨rfl⟩, Nat.le_refl _, ⟨rfl⟩, ⟨S.out⟩⟩
 case round =>
  clear S
  obtain ⟨pre, rest, rfl, HE, hgg, UH, S⟩ := hrel
  cases rest with
  | cons k rest =>
   have hlt : (pre.length : Int) < (L.length : Int) := by rw [← HE.out, List.length_append, List.length_cons]; omega
   have hw1 : wrap64 ((pre.length : Int) + 1) = ((pre ++ [k]).length : Int) := by have := HLZ.out; rw [List.length_append, List.length_singleton]; unfold wrap64; omega
   have HW1 := ae.mk hw1
   have fM := ae.mk hgg
   obtain ⟨gK, ua, uc, ek, S1⟩ := S.out.elem (.head _) (pre.length : Int) (Int.natCast_nonneg _) hlt
   subst ek
   have hrd : aA L (pre.length : Int) = k := by rw [← HE.out]; exact kE pre k rest
   rw [hrd] at S1
   simp only [Int.toNat_natCast] at S1
   replace S := ae.mk S1
   clear S1 hrd hgg hw1
   cases hmr : lu k.f1 with
   | false =>
    have Cj := ae.mk hmr
    clear hmr
    have HB := ae.mk (show qA L M = false by rw [← HE.out]; exact uT (zA (.inl Cj.out)))
    have iD := (S.out.cell _ aY).1
    have jd := (S.out.cell _ dL).1
    have iP := (S.out.cell _ jB).1
    have iQ := (S.out.cell _ lK).1
    go_wp2_with (first
     | (refine bG (some 23) Try.func57 S (wQ Cj.out) ?_; clear S; intro kG S; clear iD jd iP iQ)
     | fail)
    go_ret
    refine ⟨?_, S.out.below⟩
    rw [HB.out]
    rfl
   | true =>
    have Cj := ae.mk hmr
    clear hmr
    by_cases h1 : k.f0 < 1
    case pos =>
     obtain ⟨h1a, h1b⟩ := nz (a := k.f0) (b := 1) (by omega)
     have HB := ae.mk (show qA L M = false by rw [← HE.out]; exact uT (zA (.inr (.inl h1))))
     have iD := (S.out.cell _ aY).1
     have jd := (S.out.cell _ dL).1
     have iP := (S.out.cell _ jB).1
     have iQ := (S.out.cell _ lK).1
     go_wp2_with (first
      | (refine bG (some 23) Try.func57 S (wQ Cj.out) ?_; clear S; intro tJ S; clear iD jd iP iQ; have gQ := (S.out.cell _ (.head _)).1)
      | fail)
     clear gQ
     go_ret
     refine ⟨?_, S.out.below⟩
     rw [HB.out]
     rfl
    obtain ⟨h1a, h1b⟩ := lY (a := k.f0) (b := 1) (by omega)
    by_cases h3 : 3 < k.f0
    case pos =>
     obtain ⟨h3a, h3b⟩ := nz (a := 3) (b := k.f0) (by omega)
     have HB := ae.mk (show qA L M = false by rw [← HE.out]; exact uT (zA (.inr (.inr (.inl h3)))))
     have iD := (S.out.cell _ aY).1
     have jd := (S.out.cell _ dL).1
     have iP := (S.out.cell _ jB).1
     have iQ := (S.out.cell _ lK).1
     go_wp2_with (first
      | (refine bG (some 23) Try.func57 S (wQ Cj.out) ?_; clear S; intro vV S; clear iD jd iP iQ; have gQ := (S.out.cell _ (.head _)).1)
      | fail)
     clear gQ
     go_ret
     refine ⟨?_, S.out.below⟩
     rw [HB.out]
     rfl
    obtain ⟨h3a, h3b⟩ := lY (a := 3) (b := k.f0) (by omega)
    by_cases h4 : k.f0 = 1
    case pos =>
     have E8 : (k.f0 == 1) = true := beq_iff_eq.mpr h4
     have h4d : decide (k.f0 = 1) = true := decide_eq_true h4
     by_cases h5 : 0 < k.f3.length
     case pos =>
      obtain ⟨h5a, Js⟩ := nz (a := 0) (b := (k.f3.length : Int)) (by omega)
      have Vm : decide (0 < k.f3.length) = true := decide_eq_true (by omega)
      have HB := ae.mk (show qA L M = false by rw [← HE.out]; exact uT (zA (.inr (.inr (.inr (.inl ⟨h4, .inl h5⟩))))))
      have iD := (S.out.cell _ aY).1
      have jd := (S.out.cell _ dL).1
      have iP := (S.out.cell _ jB).1
      have iQ := (S.out.cell _ lK).1
      go_wp2_with (first
       | (refine bG (some 23) Try.func57 S (wQ Cj.out) ?_; clear S; intro wV S; clear iD jd iP iQ; have gQ := (S.out.cell _ (.head _)).1; have jM := (S.out.cell _ zy).1)
       | fail)
      clear gQ jM
      go_ret
      refine ⟨?_, S.out.below⟩
      rw [HB.out]
      rfl
     obtain ⟨h5a, Js⟩ := lY (a := 0) (b := (k.f3.length : Int)) (by omega)
     have Vm : decide (0 < k.f3.length) = false := decide_eq_false (by omega)
     by_cases h6 : k.f2 < 0
     case pos =>
      obtain ⟨h6a, Vo⟩ := nz (a := k.f2) (b := 0) (by omega)
      have HB := ae.mk (show qA L M = false by rw [← HE.out]; exact uT (zA (.inr (.inr (.inr (.inl ⟨h4, .inr (.inl h6)⟩))))))
      have iD := (S.out.cell _ aY).1
      have jd := (S.out.cell _ dL).1
      have iP := (S.out.cell _ jB).1
      have iQ := (S.out.cell _ lK).1
      go_wp2_with (first
       | (refine bG (some 23) Try.func57 S (wQ Cj.out) ?_; clear S; intro Gn S; clear iD jd iP iQ; have gQ := (S.out.cell _ (.head _)).1; have jM := (S.out.cell _ zy).1; have jL := (S.out.cell _ qB).1)
       | fail)
      clear gQ jM jL
      go_ret
      refine ⟨?_, S.out.below⟩
      rw [HB.out]
      rfl
     obtain ⟨h6a, Vo⟩ := lY (a := k.f2) (b := 0) (by omega)
     by_cases h7 : 2147483647 < k.f2
     case pos =>
      obtain ⟨h7a, h7b⟩ := nz (a := 2147483647) (b := k.f2) (by omega)
      have HB := ae.mk (show qA L M = false by rw [← HE.out]; exact uT (zA (.inr (.inr (.inr (.inl ⟨h4, .inr (.inr h7)⟩))))))
      have iD := (S.out.cell _ aY).1
      have jd := (S.out.cell _ dL).1
      have iP := (S.out.cell _ jB).1
      have iQ := (S.out.cell _ lK).1
      go_wp2_with (first
       | (refine bG (some 23) Try.func57 S (wQ Cj.out) ?_; clear S; intro Aj S; clear iD jd iP iQ; have gQ := (S.out.cell _ (.head _)).1; have jM := (S.out.cell _ zy).1; have jL := (S.out.cell _ qB).1)
       | fail)
      clear gQ jM jL
      go_ret
      refine ⟨?_, S.out.below⟩
      rw [HB.out]
      rfl
     obtain ⟨h7a, h7b⟩ := lY (a := 2147483647) (b := k.f2) (by omega)
     obtain ⟨h8a, h8b⟩ := lY (a := 1) (b := k.f0) (by omega)
     have HG := ae.mk (RJ Cj.out (by omega) (by omega) (by omega))
     have iD := (S.out.cell _ aY).1
     have jd := (S.out.cell _ dL).1
     have iP := (S.out.cell _ jB).1
     have iQ := (S.out.cell _ lK).1
     go_wp2_with (first
      | (refine bG (some 23) Try.func57 S (wQ Cj.out) ?_; clear S; intro Gm S; clear iD jd iP iQ; have gQ := (S.out.cell _ (.head _)).1; have jM := (S.out.cell _ zy).1; have jL := (S.out.cell _ qB).1)
      | fail)
     clear gQ jM jL
     have hw1 := HW1.out
     go_wp2
     go_roundg rest.length
     case measure => exact Nat.lt_of_lt_of_le (Nat.lt_succ_self _) fM.out
     case rel => exact ⟨pre ++ [k], rest, (by rw [hw1]), ⟨by rw [List.append_assoc]; exact HE.out⟩, Nat.le_refl _, ⟨by rw [List.all_append, UH.out, List.all_cons, HG.out]; rfl⟩, ⟨S.out.bQ.aX.aX.aX.aX.aX.aX.aX⟩⟩
    have E8 : (k.f0 == 1) = false := beq_eq_false_iff_ne.mpr h4
    have h4d : decide (k.f0 = 1) = false := decide_eq_false h4
    obtain ⟨h8a, h8b⟩ := nz (a := 1) (b := k.f0) (by omega)
    by_cases h5 : k.f3.length < 2
    case pos =>
     obtain ⟨h5a, Js⟩ := nz (a := (k.f3.length : Int)) (b := 2) (by omega)
     have Vm : decide (k.f3.length < 2) = true := decide_eq_true (by omega)
     have HB := ae.mk (show qA L M = false by rw [← HE.out]; exact uT (zA (.inr (.inr (.inr (.inr ⟨by omega, .inl h5⟩))))))
     have iD := (S.out.cell _ aY).1
     have jd := (S.out.cell _ dL).1
     have iP := (S.out.cell _ jB).1
     have iQ := (S.out.cell _ lK).1
     go_wp2_with (first
      | (refine bG (some 23) Try.func57 S (wQ Cj.out) ?_; clear S; intro Um S; clear iD jd iP iQ; have gQ := (S.out.cell _ (.head _)).1; have jM := (S.out.cell _ zy).1)
      | fail)
     clear gQ jM
     go_ret
     refine ⟨?_, S.out.below⟩
     rw [HB.out]
     rfl
    obtain ⟨h5a, Js⟩ := lY (a := (k.f3.length : Int)) (b := 2) (by omega)
    have Vm : decide (k.f3.length < 2) = false := decide_eq_false (by omega)
    by_cases h6 : k.f2 = 0
    case neg =>
     have Vo : (k.f2 != 0) = true := bne_iff_ne.mpr h6
     have h6c : (k.f2 == 0) = false := beq_eq_false_iff_ne.mpr h6
     have h6d : decide (k.f2 = 0) = false := decide_eq_false h6
     have HB := ae.mk (show qA L M = false by rw [← HE.out]; exact uT (zA (.inr (.inr (.inr (.inr ⟨by omega, .inr h6⟩))))))
     have iD := (S.out.cell _ aY).1
     have jd := (S.out.cell _ dL).1
     have iP := (S.out.cell _ jB).1
     have iQ := (S.out.cell _ lK).1
     go_wp2_with (first
      | (refine bG (some 23) Try.func57 S (wQ Cj.out) ?_; clear S; intro Lu S; clear iD jd iP iQ; have gQ := (S.out.cell _ (.head _)).1; have jM := (S.out.cell _ zy).1; have jL := (S.out.cell _ qB).1)
      | fail)
     clear gQ jM jL
     go_ret
     refine ⟨?_, S.out.below⟩
     rw [HB.out]
     rfl
    have Vo : (k.f2 != 0) = false := bne_eq_false_iff_eq.mpr h6
    have h6c : (k.f2 == 0) = true := beq_iff_eq.mpr h6
    have h6d : decide (k.f2 = 0) = true := decide_eq_true h6
    have HG := ae.mk (RJ Cj.out (by omega) (by omega) (by omega))
    have iD := (S.out.cell _ aY).1
    have jd := (S.out.cell _ dL).1
    have iP := (S.out.cell _ jB).1
    have iQ := (S.out.cell _ lK).1
    go_wp2_with (first
     | (refine bG (some 23) Try.func57 S (wQ Cj.out) ?_; clear S; intro agd S; clear iD jd iP iQ; have gQ := (S.out.cell _ (.head _)).1; have jM := (S.out.cell _ zy).1; have jL := (S.out.cell _ qB).1)
     | fail)
    clear gQ jM jL
    have hw1 := HW1.out
    go_wp2
    go_roundg rest.length
    case measure => exact Nat.lt_of_lt_of_le (Nat.lt_succ_self _) fM.out
    case rel => exact ⟨pre ++ [k], rest, (by rw [hw1]), ⟨by rw [List.append_assoc]; exact HE.out⟩, Nat.le_refl _, ⟨by rw [List.all_append, UH.out, List.all_cons, HG.out]; rfl⟩, ⟨S.out.bQ.aX.aX.aX.aX.aX.aX.aX⟩⟩
  | nil =>
   have hE := HE.out
   rw [List.append_nil] at hE
   subst hE
   clear HE hgg
   have hlt : ¬ ((pre.length : Int) < (pre.length : Int)) := by omega
   obtain ⟨iH, lQ, lS, lT, lU, nV, jD⟩ := St.dD S (.head _)
   go_wp2_with (first
    | (refine wZ (some 99) Try.func126 S (HLE.out _ _ _ _ _ (S.out.tree _ aY)) ?_; clear S; intro Al cl Y8 S; clear iH lQ lS lT lU nV jD)
    | fail)
   go_loopg [102] M.length (fun gg ai7 wr => ∃ (pm rest : List ai), ai7 = .int .i64 (pm.length : Int) ∧ ae (pm ++ rest = M) ∧ rest.length ≤ gg ∧ ae (gm pm = true) ∧ ae (St w (fun k => k < w.heap.size) [(some b1, .cells #[.int .u8 ck, .int .i64 cx, .int .i64 cy, .int .i64 cw, .int .i64 ch, .int .i64 ay, .slice A l.length cc] 26 (0, 0))] [] [(.slice Al M.length cl, M), (.slice Aa pre.length ca, pre), (.slice A l.length cc, l)] [] wr))
   case atStart => exact ⟨[], M, rfl, ⟨rfl⟩, Nat.le_refl _, ⟨rfl⟩, ⟨S.out⟩⟩
   case round =>
    clear S
    rename World => wz
    obtain ⟨pm, rest, rfl, HE, hgg, HD, S⟩ := hrel
    cases rest with
    | nil =>
     have hE := HE.out
     rw [List.append_nil] at hE
     subst hE
     have hlt : ¬ ((pm.length : Int) < (pm.length : Int)) := by omega
     have HB := ae.mk (show qA pre pm = true by unfold qA; rw [UH.out, HD.out, decide_eq_true (by have := HL.out; omega)]; rfl)
     go_wp2
     go_ret
     refine ⟨?_, S.out.below⟩
     rw [HB.out]
     rfl
    | cons k rest =>
     have hlt : (pm.length : Int) < (M.length : Int) := by rw [← HE.out, List.length_append, List.length_cons]; omega
     have hw1 : wrap64 ((pm.length : Int) + 1) = ((pm ++ [k]).length : Int) := by have := Zf.out; rw [List.length_append, List.length_singleton]; unfold wrap64; omega
     have HW1 := ae.mk hw1
     have fM := ae.mk hgg
     have HPM := ae.mk (show pm.length ≤ 1048576 by have := Zf.out; omega)
     have QL := ae.mk hlt
     obtain ⟨gK, ua, uc, ek, S1⟩ := S.out.elem (.head _) (pm.length : Int) (Int.natCast_nonneg _) hlt
     subst ek
     have hrd : aA M (pm.length : Int) = k := by rw [← HE.out]; exact kE pm k rest
     rw [hrd] at S1
     simp only [Int.toNat_natCast] at S1
     replace S := ae.mk S1
     clear S1 hrd hgg hw1
     go_wp2
     have HK0 := ae.mk (show qg [] k = true from rfl)
     go_loopg [7] pm.length (fun gg v7 wr => ∃ (pa pb : List ai), v7 = .int .i64 (pa.length : Int) ∧ ae (pa ++ pb = pm) ∧ pb.length ≤ gg ∧ ae (qg pa k = true) ∧ ae (St w (fun k => k < w.heap.size) [(some b1, .cells #[.int .u8 ck, .int .i64 cx, .int .i64 cy, .int .i64 cw, .int .i64 ch, .int .i64 ay, .slice A l.length cc] 26 (0, 0))] [] [(.slice ua k.f3.length uc, k.f3), (.slice (some gK) M.length cl, M), (.slice Aa pre.length ca, pre), (.slice A l.length cc, l)] [((gK.add (pm.length * 7)), .int .u8 k.f0), (⟨(gK.add (pm.length * 7)).block, (gK.add (pm.length * 7)).off + 1, none⟩, .int .i64 k.f1.f0), (⟨(gK.add (pm.length * 7)).block, (gK.add (pm.length * 7)).off + 2, none⟩, .int .i64 k.f1.f1), (⟨(gK.add (pm.length * 7)).block, (gK.add (pm.length * 7)).off + 3, none⟩, .int .i64 k.f1.f2), (⟨(gK.add (pm.length * 7)).block, (gK.add (pm.length * 7)).off + 4, none⟩, .int .i64 k.f1.f3), (⟨(gK.add (pm.length * 7)).block, (gK.add (pm.length * 7)).off + 5, none⟩, .int .i64 k.f2), (⟨(gK.add (pm.length * 7)).block, (gK.add (pm.length * 7)).off + 6, none⟩, .slice ua k.f3.length uc)] wr))
     case atStart => exact ⟨[], pm, rfl, ⟨rfl⟩, Nat.le_refl _, ⟨rfl⟩, ⟨S.out⟩⟩
     case round =>
      clear S
      rename World => wy
      obtain ⟨pa, pb, rfl, HE2, hgg, HAP, S⟩ := hrel
      cases pb with
      | nil =>
       have hE := HE2.out
       rw [List.append_nil] at hE
       subst hE
       have hlt : ¬ ((pa.length : Int) < (pa.length : Int)) := by omega
       go_wp2
       have hw1 := HW1.out
       go_wp2
       go_roundg rest.length
       case measure => exact Nat.lt_of_lt_of_le (Nat.lt_succ_self _) fM.out
       case rel => exact ⟨pa ++ [k], rest, (by rw [hw1]), ⟨by rw [List.append_assoc]; exact HE.out⟩, Nat.le_refl _, ⟨by rw [sW, HD.out, HAP.out]; rfl⟩, ⟨S.out.bQ.aX.aX.aX.aX.aX.aX.aX⟩⟩
      | cons q pb =>
       have hlt : (pa.length : Int) < (pm.length : Int) := by rw [← HE2.out, List.length_append, List.length_cons]; omega
       have hlt0 := QL.out
       have hlt2 : (pa.length : Int) < (M.length : Int) := by omega
       have hw1 : wrap64 ((pa.length : Int) + 1) = ((pa ++ [q]).length : Int) := by have := HPM.out; rw [List.length_append, List.length_singleton]; unfold wrap64; omega
       have HW2 := ae.mk hw1
       have aim := ae.mk hgg
       obtain ⟨adq, va, vc, Ve, S1⟩ := S.out.elem aY (pa.length : Int) (Int.natCast_nonneg _) hlt2
       injection Ve with Ve
       subst Ve
       have hrd : aA M (pa.length : Int) = q := by rw [← HE.out, ← HE2.out, List.append_assoc]; exact kE pa q (pb ++ k :: rest)
       rw [hrd] at S1
       simp only [Int.toNat_natCast] at S1
       replace S := ae.mk S1
       clear S1 hrd hgg hw1
       by_cases hq : k.f2 = q.f2
       case pos =>
        have V4 : (k.f2 == q.f2) = true := beq_iff_eq.mpr hq
        have hqd : decide (k.f2 = q.f2) = true := decide_eq_true hq
        have HQ := ae.mk hq
        clear hq
        have Qx := (S.out.cell _ (.tail _ (.tail _ (.tail _ EI)))).1
        have jL := (S.out.cell _ qB).1
        go_wp2
        go_quiet (fail)
        clear Qx jL
        replace S := ae.mk (S.out.call (eP (Below.refl _ _) nq))
        generalize wr.drewN nq = amM at S ⊢
        go_wp2
        have HB := ae.mk (show qA pre M = false by unfold qA; rw [← HE.out, Qy (by rw [← HE2.out]; unfold qg; rw [List.all_append, List.all_cons, decide_eq_false (by have := HQ.out; simpa using this), Bool.false_and, Bool.and_false]), Bool.and_false, Bool.and_false])
        go_ret
        refine ⟨?_, S.out.below⟩
        rw [HB.out]
        rfl
       case neg =>
        have V4 : (k.f2 == q.f2) = false := beq_eq_false_iff_ne.mpr hq
        have hqd : decide (k.f2 = q.f2) = false := decide_eq_false hq
        have HQ := ae.mk hq
        clear hq
        have Qx := (S.out.cell _ (.tail _ (.tail _ (.tail _ EI)))).1
        have jL := (S.out.cell _ qB).1
        go_wp2
        go_quiet (fail)
        clear Qx jL
        replace S := ae.mk (S.out.call (eP (Below.refl _ _) nq))
        generalize wr.drewN nq = amN at S ⊢
        go_wp2
        have hw1 := HW2.out
        go_wp2
        go_roundg pb.length
        case measure => exact Nat.lt_of_lt_of_le (Nat.lt_succ_self _) aim.out
        case rel => exact ⟨pa ++ [q], pb, (by rw [hw1]), ⟨by rw [List.append_assoc]; exact HE2.out⟩, Nat.le_refl _, ⟨by unfold qg; rw [List.all_append, List.all_cons, decide_eq_true HQ.out]; rw [show (pa.all fun y => decide (k.f2 ≠ y.f2)) = true from HAP.out]; rfl⟩, ⟨S.out.bQ.aX.aX.aX.aX.aX.aX.aX⟩⟩
def ac3.f (_ : Nat) (a0 a1 a2 a3 a4 a5 : Int) (l : List ai) : Option Bool := if sz ⟨a0, ⟨a1, a2, a3, a4⟩, a5, l⟩ ≤ 1048576 then some (mM ⟨a0, ⟨a1, a2, a3, a4⟩, a5, l⟩) else none
def dB (c : ai) : Bool := mM c && l_ c
theorem o6 {c : ai} (h : mM c = true) : sz c ≤ 20000 := by
 unfold mM at h
 simp only [Bool.and_eq_true, decide_eq_true_eq] at h
 omega
theorem ad6 : ∀ (N : Nat), (∀ c : ai, sz c ≤ N → ∀ d, d ∈ iw c → sz d ≤ sz c) ∧ (∀ l : List ai, dU l ≤ N → ∀ d, d ∈ allL l → sz d ≤ dU l) := by
 intro N
 induction N with
 | zero =>
  refine ⟨fun c h => ?_, fun l h => ?_⟩
  ·rw [bV] at h; omega
  ·cases l with
   | nil => intro d hd; rw [qL] at hd; cases hd
   | cons z zs => rw [df, bV] at h; omega
 | succ N ih =>
  have hC : ∀ c : ai, sz c ≤ N + 1 → ∀ d, d ∈ iw c → sz d ≤ sz c := by
   intro c h d hd
   have hs := bV c
   rw [ru] at hd
   rcases List.mem_cons.1 hd with rfl | hd
   ·exact Nat.le_refl _
   ·have := ih.2 c.f3 (by omega) d hd
    omega
  refine ⟨hC, fun l => ?_⟩
  induction l with
  | nil => intro _ d hd; rw [qL] at hd; cases hd
  | cons x xs ihl =>
   intro h d hd
   rw [df] at h ⊢
   rw [ni] at hd
   rcases List.mem_append.1 hd with hd | hd
   ·have := hC x (by omega) d hd
    omega
   ·have := ihl (by omega) d hd
    omega
theorem XF {c d : ai} (h : d ∈ iw c) : d.f3.length + 1 ≤ sz c := by
 have h1 := (ad6 (sz c)).1 c (Nat.le_refl _) d h
 have h2 := bV d
 have h3 := ig d.f3
 omega
section
variable {W : World} {b : Nat} {P : Nat → Prop} {A : Option Addr} {cc : Nat}
theorem afU (c : ai) (h : oM c = false) (hl : c.f3.length ≤ 1000000) (hV : Kd.V k26 26 W b P (.slice A c.f3.length cc) c.f3) : Calls Try.prog 178 #[.agg #[.int .u8 c.f0, .int .i64 c.f1.f0, .int .i64 c.f1.f1, .int .i64 c.f1.f2, .int .i64 c.f1.f3, .int .i64 c.f2, .slice A c.f3.length cc]] W fun e w' => ∃ A n cc, e = .returned (.tuple #[.slice A n cc, .bool false]) ∧ Below W.heap.size W w' :=
 (WB c hl b P A cc W hV).mono (fun _ _ ⟨A, n, cc, h1, _, h3⟩ => ⟨A, n, cc, by rw [h1, h], h3⟩)
theorem acm (c : ai) (h : oM c = true) (hl : c.f3.length ≤ 1000000) (hV : Kd.V k26 26 W b P (.slice A c.f3.length cc) c.f3) : Calls Try.prog 178 #[.agg #[.int .u8 c.f0, .int .i64 c.f1.f0, .int .i64 c.f1.f1, .int .i64 c.f1.f2, .int .i64 c.f1.f3, .int .i64 c.f2, .slice A c.f3.length cc]] W fun e w' => ∃ A cc ls, e = .returned (.tuple #[.slice A ls.length cc, .bool true]) ∧ ls.length ≤ c.f3.length ∧ k23.R 23 w' W.heap.size (fun _ => True) (.slice A ls.length cc) ls ∧ Below W.heap.size W w' :=
 (WB c hl b P A cc W hV).mono (fun _ _ ⟨A, n, cc, h1, h2, h3⟩ => by
  obtain ⟨ls, rfl, h4, h5⟩ := h2 h
  exact ⟨A, cc, ls, by rw [h1, h], h4, h5, h3⟩)
theorem ZR {c : ai} {v : Bool} (h : mM c = v) (hz : sz c ≤ 1048576) (b : Nat) (P : Nat → Prop) (A : Option Addr) (cc : Nat) (W : World) (hV : Kd.V k26 26 W b P (.slice A c.f3.length cc) c.f3) : Calls Try.prog 38 #[.agg #[.int .u8 c.f0, .int .i64 c.f1.f0, .int .i64 c.f1.f1, .int .i64 c.f1.f2, .int .i64 c.f1.f3, .int .i64 c.f2, .slice A c.f3.length cc]] W fun e w' => e = .returned (.bool v) ∧ Below W.heap.size W w' := by
 have h1 := Kd.kQ hV
 have h2 := ahc c hz A cc W h1.2.2 h1.2.1
 rwa [h] at h2
end
abbrev NP (w : World) (c : ai) (e : Ending) (w' : World) : Prop := ∃ A n cc n1 n2, e = .returned (.tuple #[.slice A n cc, .int .i64 n1, .int .i64 n2]) ∧ (n1 == 0) = dB c ∧ Below w.heap.size w w'
theorem XU (c : ai) (hz : sz c ≤ 1048576) (b : Nat) (P : Nat → Prop) (A : Option Addr) (cc : Nat) (w : World) (hv : Kd.V k26 26 w b P (.slice A c.f3.length cc) c.f3) :
  Calls Try.prog 146 #[.agg #[.int .u8 c.f0, .int .i64 c.f1.f0, .int .i64 c.f1.f1, .int .i64 c.f1.f2, .int .i64 c.f1.f3, .int .i64 c.f2, .slice A c.f3.length cc]] w (NP w c) := by
 have S := ae.mk (St.start (ts := [(.slice A c.f3.length cc, c.f3)]) (b0 := w.heap.size) (w := w) (P := P) (fun t ht => by rw [List.mem_singleton.1 ht]; exact eY hv))
 unfold NP
 cases hm : mM c with
 | false =>
  have zo := ae.mk (fun b P A cc W hV => ZR hm hz b P A cc W hV)
  rw [show dB c = false by unfold dB; rw [hm]; rfl]
  clear hm hv hz
  obtain ⟨ck, ⟨cx, cy, cw, ch⟩, ay, l⟩ := c
  simp only [] at S zo ⊢
  go_enter Try.func146, Try.ntmps146
  go_wp2_with (first
   | (refine boxS 1 _ 26 S ?_; clear S; intro b1 di S)
   | (refine iI 11 rfl ?_; refine nO k23 23 rfl 11 S ?_; clear S; intro Ae ce oe dS S HKe; obtain ⟨iH, lQ, lS, lT, lU, nV, jD⟩ := St.dD S aY)
   | (refine bG (some 13) Try.func38 S (zo.out _ _ _ _ _ (S.out.tree _ (.head _))) ?_; clear S; intro gq S; clear iH lQ lS lT lU nV jD)
   | fail)
  go_ret3
  exact ⟨_, _, _, _, _, rfl, rfl, S.out.below⟩
 | true =>
  have zo := ae.mk (fun b P A cc W hV => ZR hm hz b P A cc W hV)
  have HAL := ae.mk (fun b P A cc W hV => @OD W b P A cc c hz hV)
  have hs := o6 hm
  have hk : ∀ k, k ∈ iw c → k.f3.length ≤ 20000 := fun k hk => by have := XF hk; omega
  have hlen : (iw c).length ≤ 20000 := hs
  have ht : dB c = (iw c).all oM := by unfold dB; rw [hm, Bool.true_and]; rfl
  rw [ht]
  generalize iw c = L at HAL hk hlen ⊢
  have gY := ae.mk hlen
  have HKK := ae.mk hk
  clear hm hv hz ht hs hk hlen
  obtain ⟨ck, ⟨cx, cy, cw, ch⟩, ay, l⟩ := c
  simp only [] at S zo HAL ⊢
  go_enter Try.func146, Try.ntmps146
  go_wp2_with (first
   | (refine boxS 1 _ 26 S ?_; clear S; intro b1 di S)
   | (refine iI 11 rfl ?_; refine nO k23 23 rfl 11 S ?_; clear S; intro Ae ce oe dS S HKe; obtain ⟨iH, lQ, lS, lT, lU, nV, jD⟩ := St.dD S aY)
   | (refine bG (some 13) Try.func38 S (zo.out _ _ _ _ _ (S.out.tree _ (.head _))) ?_; clear S; intro gq S; clear iH lQ lS lT lU nV jD; obtain ⟨iH, lQ, lS, lT, lU, nV, jD⟩ := St.dD S aY)
   | (refine wZ (some 17) Try.func79 S (HAL.out _ _ _ _ _ (S.out.tree _ (.head _))) ?_; clear S; intro Aa ca gz S; clear iH lQ lS lT lU nV jD)
   | (refine iI 18 rfl ?_; refine nO k23 23 rfl 18 S ?_; clear S; intro Ap cp op kG S jy)
   | fail)
  go_loopg [7, 21] L.length (fun gg v7 v21 wr => ∃ (pre rest : List ai) (out : List dO) (Ap : Option Addr) (cp : Nat) (op : Obj), v7 = .slice Ap out.length cp ∧ v21 = .int .i64 (pre.length : Int) ∧ ae (pre ++ rest = L) ∧ ae (pre.all oM = true) ∧ ae (out.length ≤ 20000 * pre.length) ∧ rest.length ≤ gg ∧ ae (KR k23 23 w.heap.size (.slice Ap out.length cp) out op) ∧ ae (St w P [((Value.slice Ap out.length cp).ownBlock, op), ((Value.slice Ae 0 ce).ownBlock, oe), (some b1, .cells #[.int .u8 ck, .int .i64 cx, .int .i64 cy, .int .i64 cw, .int .i64 ch, .int .i64 ay, .slice A l.length cc] 26 (0, 0))] [] [(.slice Aa L.length ca, L), (.slice A l.length cc, l)] [] wr))
  case atStart => exact ⟨[], L, [], _, _, _, rfl, rfl, ⟨rfl⟩, ⟨rfl⟩, ⟨Nat.zero_le _⟩, Nat.le_refl _, jy, S⟩
  case round =>
   clear S jy
   obtain ⟨pre, rest, out, Ap, cp, op, rfl, rfl, HE, HA, HOL, hgg, jy, S⟩ := hrel
   cases rest with
   | nil =>
    have hE := HE.out
    rw [List.append_nil] at hE
    have hE2 := hE.symm
    subst hE2
    clear hE HE hgg
    have hlt : ¬ ((L.length : Int) < (L.length : Int)) := by omega
    go_wp2
    go_ret3
    exact ⟨_, _, _, _, ⟨_, rfl⟩, HA.out.symm, S.out.below⟩
   | cons k rest =>
    have Xv := ae.mk (HKK.out k (by rw [← HE.out]; simp))
    have G6 := ae.mk (show k.f3.length ≤ 1000000 by have := Xv.out; omega)
    have ain := ae.mk (show pre.length ≤ 20000 by have := gY.out; rw [← HE.out, List.length_append] at this; omega)
    have hk : k ∈ L := by rw [← HE.out]; simp
    have hlt : (pre.length : Int) < (L.length : Int) := by rw [← HE.out, List.length_append, List.length_cons]; omega
    have hw1 : wrap64 ((pre.length : Int) + 1) = ((pre ++ [k]).length : Int) := by have := gY.out; rw [List.length_append, List.length_singleton]; unfold wrap64; omega
    have HW1 := ae.mk hw1
    have fM := ae.mk hgg
    have HK := ae.mk hk
    have yD := ae.mk (show pre.length ≤ 1048576 by have := gY.out; omega)
    obtain ⟨gK, ua, uc, ek, S1⟩ := S.out.elem (.head _) (pre.length : Int) (Int.natCast_nonneg _) hlt
    subst ek
    have hrd : aA L (pre.length : Int) = k := by rw [← HE.out]; exact kE pre k rest
    rw [hrd] at S1
    simp only [Int.toNat_natCast] at S1
    replace S := ae.mk S1
    clear S1 hrd hk hgg hw1
    cases ho : oM k with
    | false =>
     have HO := ae.mk ho
     clear ho
     obtain ⟨gQ, iD, jd, iP, iQ, jL, jM⟩ := St.AQ S
     go_wp2_with (first
      | (refine iT (some 29) Try.func178 (afU k HO.out G6.out (S.out.tree _ (.head _))) ?_; rintro e di ⟨Ax, nx, AP, rfl, hb⟩; refine ⟨_, rfl, ?_⟩; replace S := ae.mk (S.out.call hb); clear hb; clear gQ iD jd iP iQ jL jM)
      | fail)
     go_ret3
     exact ⟨_, _, _, _, _, rfl, (by rw [← HE.out, List.all_append, List.all_cons, HO.out, Bool.false_and, Bool.and_false]; rfl), S.out.below⟩
    | true =>
     have HO := ae.mk ho
     clear ho
     obtain ⟨gQ, iD, jd, iP, iQ, jL, jM⟩ := St.AQ S
     go_wp2_with (first
      | (refine iT (some 29) Try.func178 (acm k HO.out G6.out (S.out.tree _ (.head _))) ?_; rintro e di ⟨Ax, AP, ls, rfl, h0, h1, hb⟩; refine ⟨_, rfl, ?_⟩; obtain ⟨ox, S1, hI⟩ := S.out.IU (d := k23) (e := 23) rfl h1 hb; replace S := ae.mk S1; have HKx := ae.mk hI; have QK := ae.mk h0; clear S1 hI h0 h1 hb; clear gQ iD jd iP iQ jL jM)
      | (refine iI 38 rfl ?_; at_builtin; replace S := ae.mk S.out.vS; refine OG k23 23 rfl 36 37 42 _ 32 Try.underlying42 info23 rfl (by decide) (by decide) (by decide) S jy ls (Xx HKx.out S.out aY).1 (fun _ _ _ _ _ h => h) (by have := HOL.out; have := QK.out; have := Xv.out; have := ain.out; omega) ?_; clear S jy; intro NK cp2 P8 dS S jy)
      | fail)
     have hw1 := HW1.out
     go_wp2
     go_roundg rest.length
     case measure => exact Nat.lt_of_lt_of_le (Nat.lt_succ_self _) fM.out
     case rel => exact ⟨pre ++ [k], rest, out ++ ls, _, _, _, (by rw [List.length_append]), (by rw [hw1]), ⟨by rw [List.append_assoc]; exact HE.out⟩, ⟨by rw [List.all_append, HA.out, List.all_cons, HO.out]; rfl⟩, ⟨by have := HOL.out; have := QK.out; have := Xv.out; rw [List.length_append, List.length_append, List.length_singleton]; omega⟩, Nat.le_refl _, jy, ⟨S.out.vS.dV.xJ.xJ.xJ.bQ.aX.aX.aX.aX.aX.aX.aX⟩⟩
theorem xn (c : ai) (hz : sz c ≤ 1048576) (b : Nat) (P : Nat → Prop) (A : Option Addr) (cc : Nat) (w : World) (hv : Kd.V k26 26 w b P (.slice A c.f3.length cc) c.f3) :
  Calls Try.prog 84 #[.agg #[.int .u8 c.f0, .int .i64 c.f1.f0, .int .i64 c.f1.f1, .int .i64 c.f1.f2, .int .i64 c.f1.f3, .int .i64 c.f2, .slice A c.f3.length cc]] w fun e w' => e = .returned (.bool (dB c)) ∧ Below w.heap.size w w' := by
 have S := ae.mk (St.start (ts := [(.slice A c.f3.length cc, c.f3)]) (b0 := w.heap.size) (w := w) (P := P) (fun t ht => by rw [List.mem_singleton.1 ht]; exact eY hv))
 have Zc := ae.mk (fun b P A cc W hV => XU c hz b P A cc W hV)
 unfold NP at Zc
 generalize dB c = v at Zc ⊢
 clear hv hz
 obtain ⟨ck, ⟨cx, cy, cw, ch⟩, ay, l⟩ := c
 simp only [] at S Zc ⊢
 go_enter Try.func84, Try.ntmps84
 go_wp2_with (first
  | (refine boxS 1 _ 26 S ?_; clear S; intro b1 di S; obtain ⟨iH, lQ, lS, lT, lU, nV, jD⟩ := St.dD S (.head _))
  | (refine iT (some 8) Try.func146 (Zc.out _ _ _ _ _ (S.out.tree _ (.head _))) ?_; rintro e dS ⟨Ax, nx, AP, n1, n2, rfl, hn, hb⟩; refine ⟨_, rfl, ?_⟩; have hn2 : decide (n1 = 0) = v := (by rw [← hn]; by_cases h : n1 = 0 <;> simp [h]); replace S := ae.mk (S.out.call hb); clear hb; clear iH lQ lS lT lU nV jD)
  | fail)
 go_ret
 exact ⟨rfl, S.out.below⟩
def oI.f (_ : Nat) (a0 a1 a2 a3 a4 a5 : Int) (l : List ai) : Option Bool := if sz ⟨a0, ⟨a1, a2, a3, a4⟩, a5, l⟩ ≤ 1048576 then some (dB ⟨a0, ⟨a1, a2, a3, a4⟩, a5, l⟩) else none
theorem oI.calls (k : Nat) (az : Int) (aK : Int) (aI : Int) (aJ : Int) (bH : Int) (bI : Int) (dW : Option Addr) (dX : Nat) (aT : List (ai)) (r : Bool) (w : World) (qR : Kd.C k26 w dW aT.length aT) (sO : aT.length ≤ dX) (h : oI.f k az aK aI aJ bH bI aT = some r) :
  Calls Try.prog 84 #[.agg #[.int .u8 az, .int .i64 aK, .int .i64 aI, .int .i64 aJ, .int .i64 bH, .int .i64 bI, .slice dW aT.length dX]] w fun e w' => e = .returned (.bool r) ∧ Below w.heap.size w w' := by
 unfold oI.f at h
 split at h
 ·rename_i hz
  injection h with h
  subst h
  exact xn ⟨az, ⟨aK, aI, aJ, bH⟩, bI, aT⟩ hz w.heap.size (fun _ => True) dW dX w (Kd.x_ sO (Kd.sU (Kd.GY qM qR) (fun _ _ => trivial)))
 ·cases h
theorem Qj (c : ai) (hz : sz c ≤ 1048576) : Ev (fun k => oI.f k c.f0 c.f1.f0 c.f1.f1 c.f1.f2 c.f1.f3 c.f2 c.f3) (dB c) := by
 refine Ev.congr (f := fun _ => some (dB c)) (fun k => ?_) (Ev.now _)
 unfold oI.f
 rw [Gz, if_pos hz]
end Go.Proofs.Ytfdmfgaiblfbhaa.P
namespace Go.Proofs.Ytfdmfgaiblfbhaa.P
open Go.RowKit Go.Proofs.ag.aV Go.Proofs.ag.bP Go.Proofs.ag.cO
attribute [local go_sem] kJ kS lM l7 lI lJ mJ mO
def qF.f (az : Int) (aK : Int) (aI : Int) (aJ : Int) (bH : Int) (bI : Int) (aT : List (ai)) (a1 : Int) : Option (Bool) := if az = 2 then (if a1 = 1 then (some true) else (if az = 3 then (some (a1 == 2)) else (some false))) else (if az = 3 then (some (a1 == 2)) else (some false))
theorem qF.calls (az : Int) (aK : Int) (aI : Int) (aJ : Int) (bH : Int) (bI : Int) (dW : Option Addr) (dX : Nat) (aT : List (ai)) (a1 : Int) (r : Bool) (w : World) (qR : Kd.C k26 w dW aT.length aT) (sO : aT.length ≤ dX) (h : qF.f az aK aI aJ bH bI aT a1 = some r) :
  Calls Try.prog 88 #[.agg #[.int .u8 az, .int .i64 aK, .int .i64 aI, .int .i64 aJ, .int .i64 bH, .int .i64 bI, .slice dW aT.length dX], .int .u8 a1] w fun e w' => e = .returned (.bool r) ∧ Below w.heap.size w w' := by
 have KG := Try.underlying26
 clear qR sO
 have HB := ae.mk (Below.refl w.heap.size w)
 have H : (if az = 2 then (if a1 = 1 then (some true) else (if az = 3 then (some (a1 == 2)) else (some false))) else (if az = 3 then (some (a1 == 2)) else (some false))) = some r := h
 clear h
 by_cases c3 : az = 2
 ·rw [if_pos c3] at H
  have vW : (az == 2) = true := beq_iff_eq.mpr c3
  have BA : (az != 2) = false := bne_eq_false_iff_eq.mpr c3
  clear c3
  by_cases c4 : a1 = 1
  ·rw [if_pos c4] at H
   have EW : (a1 == 1) = true := beq_iff_eq.mpr c4
   have OO : (a1 != 1) = false := bne_eq_false_iff_eq.mpr c4
   clear c4
   obtain rfl := Option.some.inj H
   go_enter Try.func88, Try.ntmps88
   go_wp2_with (((with_reducible refine aG (N := 2) rfl ?_); refine aU ?hg (N := 2) ?hd (cs := #[.int .u8 az, .int .i64 aK, .int .i64 aI, .int .i64 aJ, .int .i64 bH, .int .i64 bI, .slice dW aT.length dX]) (t := 26) ?hr ?_; (case hd => rfl); (case hg => rfl); (case hr => (go_simp; done)); intro iZ hg w5 hbox hb; have dJ := ae.mk (hbox); replace HB := ae.mk (au (by repeat ((with_reducible exact HB.out))) hb); clear hb hbox hg; have Fb : w5.cell? ⟨iZ, 0, none⟩ = some (.int .u8 az) := (af dJ.out 0).trans rfl; have Fe : w5.cell? ⟨iZ, 1, none⟩ = some (.int .i64 aK) := (af dJ.out 1).trans rfl; have Ff : w5.cell? ⟨iZ, 2, none⟩ = some (.int .i64 aI) := (af dJ.out 2).trans rfl; have Fg : w5.cell? ⟨iZ, 3, none⟩ = some (.int .i64 aJ) := (af dJ.out 3).trans rfl; have Fh : w5.cell? ⟨iZ, 4, none⟩ = some (.int .i64 bH) := (af dJ.out 4).trans rfl; have Fj : w5.cell? ⟨iZ, 5, none⟩ = some (.int .i64 bI) := (af dJ.out 5).trans rfl; have Fp : w5.cell? ⟨iZ, 6, none⟩ = some (.slice dW aT.length dX) := (af dJ.out 6).trans rfl; have Fv := ah dJ.out 0; have Fz := ah dJ.out 1; have FB := ah dJ.out 2; have FC := ah dJ.out 3; have FD := ah dJ.out 4; have FH := ah dJ.out 5; have FI := ah dJ.out 6))
   go_ret
   exact ⟨by rfl, by repeat ((with_reducible exact HB.out))⟩
  ·rw [if_neg c4] at H
   have EW : (a1 == 1) = false := beq_eq_false_iff_ne.mpr c4
   have OO : (a1 != 1) = true := bne_iff_ne.mpr c4
   by_cases c7 : az = 3
   ·rw [if_pos c7] at H
    have yL : (az == 3) = true := beq_iff_eq.mpr c7
    have XP : (az != 3) = false := bne_eq_false_iff_eq.mpr c7
    clear c7
    obtain rfl := Option.some.inj H
    go_enter Try.func88, Try.ntmps88
    go_wp2_with (((with_reducible refine aG (N := 2) rfl ?_); refine aU ?hg (N := 2) ?hd (cs := #[.int .u8 az, .int .i64 aK, .int .i64 aI, .int .i64 aJ, .int .i64 bH, .int .i64 bI, .slice dW aT.length dX]) (t := 26) ?hr ?_; (case hd => rfl); (case hg => rfl); (case hr => (go_simp; done)); intro iZ hg w8 hbox hb; have dJ := ae.mk (hbox); replace HB := ae.mk (au (by repeat ((with_reducible exact HB.out))) hb); clear hb hbox hg; have Vz : w8.cell? ⟨iZ, 0, none⟩ = some (.int .u8 az) := (af dJ.out 0).trans rfl; have VA : w8.cell? ⟨iZ, 1, none⟩ = some (.int .i64 aK) := (af dJ.out 1).trans rfl; have VB : w8.cell? ⟨iZ, 2, none⟩ = some (.int .i64 aI) := (af dJ.out 2).trans rfl; have VC : w8.cell? ⟨iZ, 3, none⟩ = some (.int .i64 aJ) := (af dJ.out 3).trans rfl; have VD : w8.cell? ⟨iZ, 4, none⟩ = some (.int .i64 bH) := (af dJ.out 4).trans rfl; have VE : w8.cell? ⟨iZ, 5, none⟩ = some (.int .i64 bI) := (af dJ.out 5).trans rfl; have VF : w8.cell? ⟨iZ, 6, none⟩ = some (.slice dW aT.length dX) := (af dJ.out 6).trans rfl; have VS := ah dJ.out 0; have VT := ah dJ.out 1; have VU := ah dJ.out 2; have VV := ah dJ.out 3; have VW := ah dJ.out 4; have VX := ah dJ.out 5; have VY := ah dJ.out 6))
    go_ret
    exact ⟨by rfl, by repeat ((with_reducible exact HB.out))⟩
   ·rw [if_neg c7] at H
    have yL : (az == 3) = false := beq_eq_false_iff_ne.mpr c7
    have XP : (az != 3) = true := bne_iff_ne.mpr c7
    obtain rfl := Option.some.inj H
    go_enter Try.func88, Try.ntmps88
    go_wp2_with (((with_reducible refine aG (N := 2) rfl ?_); refine aU ?hg (N := 2) ?hd (cs := #[.int .u8 az, .int .i64 aK, .int .i64 aI, .int .i64 aJ, .int .i64 bH, .int .i64 bI, .slice dW aT.length dX]) (t := 26) ?hr ?_; (case hd => rfl); (case hg => rfl); (case hr => (go_simp; done)); intro iZ hg w10 hbox hb; have dJ := ae.mk (hbox); replace HB := ae.mk (au (by repeat ((with_reducible exact HB.out))) hb); clear hb hbox hg; have aaI : w10.cell? ⟨iZ, 0, none⟩ = some (.int .u8 az) := (af dJ.out 0).trans rfl; have aaJ : w10.cell? ⟨iZ, 1, none⟩ = some (.int .i64 aK) := (af dJ.out 1).trans rfl; have aaK : w10.cell? ⟨iZ, 2, none⟩ = some (.int .i64 aI) := (af dJ.out 2).trans rfl; have aaL : w10.cell? ⟨iZ, 3, none⟩ = some (.int .i64 aJ) := (af dJ.out 3).trans rfl; have aaM : w10.cell? ⟨iZ, 4, none⟩ = some (.int .i64 bH) := (af dJ.out 4).trans rfl; have aaN : w10.cell? ⟨iZ, 5, none⟩ = some (.int .i64 bI) := (af dJ.out 5).trans rfl; have aaO : w10.cell? ⟨iZ, 6, none⟩ = some (.slice dW aT.length dX) := (af dJ.out 6).trans rfl; have abk := ah dJ.out 0; have abl := ah dJ.out 1; have abm := ah dJ.out 2; have abn := ah dJ.out 3; have abo := ah dJ.out 4; have abp := ah dJ.out 5; have abq := ah dJ.out 6))
    go_ret
    exact ⟨by rfl, by repeat ((with_reducible exact HB.out))⟩
 ·rw [if_neg c3] at H
  have vW : (az == 2) = false := beq_eq_false_iff_ne.mpr c3
  have BA : (az != 2) = true := bne_iff_ne.mpr c3
  by_cases c12 : az = 3
  ·rw [if_pos c12] at H
   have DY : (az == 3) = true := beq_iff_eq.mpr c12
   have Jj : (az != 3) = false := bne_eq_false_iff_eq.mpr c12
   clear c12
   obtain rfl := Option.some.inj H
   go_enter Try.func88, Try.ntmps88
   go_wp2_with (((with_reducible refine aG (N := 2) rfl ?_); refine aU ?hg (N := 2) ?hd (cs := #[.int .u8 az, .int .i64 aK, .int .i64 aI, .int .i64 aJ, .int .i64 bH, .int .i64 bI, .slice dW aT.length dX]) (t := 26) ?hr ?_; (case hd => rfl); (case hg => rfl); (case hr => (go_simp; done)); intro iZ hg vT hbox hb; have dJ := ae.mk (hbox); replace HB := ae.mk (au (by repeat ((with_reducible exact HB.out))) hb); clear hb hbox hg; have Kt : vT.cell? ⟨iZ, 0, none⟩ = some (.int .u8 az) := (af dJ.out 0).trans rfl; have Ku : vT.cell? ⟨iZ, 1, none⟩ = some (.int .i64 aK) := (af dJ.out 1).trans rfl; have Kv : vT.cell? ⟨iZ, 2, none⟩ = some (.int .i64 aI) := (af dJ.out 2).trans rfl; have Kw : vT.cell? ⟨iZ, 3, none⟩ = some (.int .i64 aJ) := (af dJ.out 3).trans rfl; have aaX : vT.cell? ⟨iZ, 4, none⟩ = some (.int .i64 bH) := (af dJ.out 4).trans rfl; have aaY : vT.cell? ⟨iZ, 5, none⟩ = some (.int .i64 bI) := (af dJ.out 5).trans rfl; have aaZ : vT.cell? ⟨iZ, 6, none⟩ = some (.slice dW aT.length dX) := (af dJ.out 6).trans rfl; have Ky := ah dJ.out 0; have Kz := ah dJ.out 1; have KA := ah dJ.out 2; have KC := ah dJ.out 3; have abA := ah dJ.out 4; have abB := ah dJ.out 5; have abC := ah dJ.out 6))
   go_ret
   exact ⟨by rfl, by repeat ((with_reducible exact HB.out))⟩
  ·rw [if_neg c12] at H
   have DY : (az == 3) = false := beq_eq_false_iff_ne.mpr c12
   have Jj : (az != 3) = true := bne_iff_ne.mpr c12
   obtain rfl := Option.some.inj H
   go_enter Try.func88, Try.ntmps88
   go_wp2_with (((with_reducible refine aG (N := 2) rfl ?_); refine aU ?hg (N := 2) ?hd (cs := #[.int .u8 az, .int .i64 aK, .int .i64 aI, .int .i64 aJ, .int .i64 bH, .int .i64 bI, .slice dW aT.length dX]) (t := 26) ?hr ?_; (case hd => rfl); (case hg => rfl); (case hr => (go_simp; done)); intro iZ hg vU hbox hb; have dJ := ae.mk (hbox); replace HB := ae.mk (au (by repeat ((with_reducible exact HB.out))) hb); clear hb hbox hg; have Rh : vU.cell? ⟨iZ, 0, none⟩ = some (.int .u8 az) := (af dJ.out 0).trans rfl; have Ri : vU.cell? ⟨iZ, 1, none⟩ = some (.int .i64 aK) := (af dJ.out 1).trans rfl; have Rj : vU.cell? ⟨iZ, 2, none⟩ = some (.int .i64 aI) := (af dJ.out 2).trans rfl; have Rk : vU.cell? ⟨iZ, 3, none⟩ = some (.int .i64 aJ) := (af dJ.out 3).trans rfl; have aa0 : vU.cell? ⟨iZ, 4, none⟩ = some (.int .i64 bH) := (af dJ.out 4).trans rfl; have aa1 : vU.cell? ⟨iZ, 5, none⟩ = some (.int .i64 bI) := (af dJ.out 5).trans rfl; have aa2 : vU.cell? ⟨iZ, 6, none⟩ = some (.slice dW aT.length dX) := (af dJ.out 6).trans rfl; have Rt := ah dJ.out 0; have Ru := ah dJ.out 1; have Rw := ah dJ.out 2; have Rx := ah dJ.out 3; have abD := ah dJ.out 4; have abE := ah dJ.out 5; have abG := ah dJ.out 6))
   go_ret
   exact ⟨by rfl, by repeat ((with_reducible exact HB.out))⟩
def tV.f (az : Int) (aK : Int) (aI : Int) (aJ : Int) (bH : Int) (bI : Int) (aT : List (ai)) (a1 : Int) : Option (Bool) := if az = 2 then (if a1 = 1 then (some true) else (if az = 3 then (some (a1 == 2)) else (some false))) else (if az = 3 then (some (a1 == 2)) else (some false))
theorem tV.calls (az : Int) (aK : Int) (aI : Int) (aJ : Int) (bH : Int) (bI : Int) (dW : Option Addr) (dX : Nat) (aT : List (ai)) (a1 : Int) (r : Bool) (w : World) (qR : Kd.C k26 w dW aT.length aT) (sO : aT.length ≤ dX) (h : tV.f az aK aI aJ bH bI aT a1 = some r) :
  Calls Try.prog 99 #[.agg #[.int .u8 az, .int .i64 aK, .int .i64 aI, .int .i64 aJ, .int .i64 bH, .int .i64 bI, .slice dW aT.length dX], .int .u8 a1] w fun e w' => e = .returned (.bool r) ∧ Below w.heap.size w w' := by
 have KG := Try.underlying26
 clear qR sO
 have HB := ae.mk (Below.refl w.heap.size w)
 have H : (if az = 2 then (if a1 = 1 then (some true) else (if az = 3 then (some (a1 == 2)) else (some false))) else (if az = 3 then (some (a1 == 2)) else (some false))) = some r := h
 clear h
 by_cases c3 : az = 2
 ·rw [if_pos c3] at H
  have vW : (az == 2) = true := beq_iff_eq.mpr c3
  have BA : (az != 2) = false := bne_eq_false_iff_eq.mpr c3
  clear c3
  by_cases c4 : a1 = 1
  ·rw [if_pos c4] at H
   have EW : (a1 == 1) = true := beq_iff_eq.mpr c4
   have OO : (a1 != 1) = false := bne_eq_false_iff_eq.mpr c4
   clear c4
   obtain rfl := Option.some.inj H
   go_enter Try.func99, Try.ntmps99
   go_wp2_with (((with_reducible refine aG (N := 2) rfl ?_); refine aU ?hg (N := 2) ?hd (cs := #[.int .u8 az, .int .i64 aK, .int .i64 aI, .int .i64 aJ, .int .i64 bH, .int .i64 bI, .slice dW aT.length dX]) (t := 26) ?hr ?_; (case hd => rfl); (case hg => rfl); (case hr => (go_simp; done)); intro iY hg w5 hbox hb; have dI := ae.mk (hbox); replace HB := ae.mk (au (by repeat ((with_reducible exact HB.out))) hb); clear hb hbox hg; have Fb : w5.cell? ⟨iY, 0, none⟩ = some (.int .u8 az) := (af dI.out 0).trans rfl; have Fe : w5.cell? ⟨iY, 1, none⟩ = some (.int .i64 aK) := (af dI.out 1).trans rfl; have Ff : w5.cell? ⟨iY, 2, none⟩ = some (.int .i64 aI) := (af dI.out 2).trans rfl; have Fg : w5.cell? ⟨iY, 3, none⟩ = some (.int .i64 aJ) := (af dI.out 3).trans rfl; have Fh : w5.cell? ⟨iY, 4, none⟩ = some (.int .i64 bH) := (af dI.out 4).trans rfl; have Fj : w5.cell? ⟨iY, 5, none⟩ = some (.int .i64 bI) := (af dI.out 5).trans rfl; have Fp : w5.cell? ⟨iY, 6, none⟩ = some (.slice dW aT.length dX) := (af dI.out 6).trans rfl; have Fv := ah dI.out 0; have Fz := ah dI.out 1; have FB := ah dI.out 2; have FC := ah dI.out 3; have FD := ah dI.out 4; have FH := ah dI.out 5; have FI := ah dI.out 6))
   go_ret
   exact ⟨by rfl, by repeat ((with_reducible exact HB.out))⟩
  ·rw [if_neg c4] at H
   have EW : (a1 == 1) = false := beq_eq_false_iff_ne.mpr c4
   have OO : (a1 != 1) = true := bne_iff_ne.mpr c4
   by_cases c7 : az = 3
   ·rw [if_pos c7] at H
    have yL : (az == 3) = true := beq_iff_eq.mpr c7
    have XP : (az != 3) = false := bne_eq_false_iff_eq.mpr c7
    clear c7
    obtain rfl := Option.some.inj H
    go_enter Try.func99, Try.ntmps99
    go_wp2_with (((with_reducible refine aG (N := 2) rfl ?_); refine aU ?hg (N := 2) ?hd (cs := #[.int .u8 az, .int .i64 aK, .int .i64 aI, .int .i64 aJ, .int .i64 bH, .int .i64 bI, .slice dW aT.length dX]) (t := 26) ?hr ?_; (case hd => rfl); (case hg => rfl); (case hr => (go_simp; done)); intro iY hg w8 hbox hb; have dI := ae.mk (hbox); replace HB := ae.mk (au (by repeat ((with_reducible exact HB.out))) hb); clear hb hbox hg; have Vz : w8.cell? ⟨iY, 0, none⟩ = some (.int .u8 az) := (af dI.out 0).trans rfl; have VA : w8.cell? ⟨iY, 1, none⟩ = some (.int .i64 aK) := (af dI.out 1).trans rfl; have VB : w8.cell? ⟨iY, 2, none⟩ = some (.int .i64 aI) := (af dI.out 2).trans rfl; have VC : w8.cell? ⟨iY, 3, none⟩ = some (.int .i64 aJ) := (af dI.out 3).trans rfl; have VD : w8.cell? ⟨iY, 4, none⟩ = some (.int .i64 bH) := (af dI.out 4).trans rfl; have VE : w8.cell? ⟨iY, 5, none⟩ = some (.int .i64 bI) := (af dI.out 5).trans rfl; have VF : w8.cell? ⟨iY, 6, none⟩ = some (.slice dW aT.length dX) := (af dI.out 6).trans rfl; have VS := ah dI.out 0; have VT := ah dI.out 1; have VU := ah dI.out 2; have VV := ah dI.out 3; have VW := ah dI.out 4; have VX := ah dI.out 5; have VY := ah dI.out 6))
    go_ret
    exact ⟨by rfl, by repeat ((with_reducible exact HB.out))⟩
   ·rw [if_neg c7] at H
    have yL : (az == 3) = false := beq_eq_false_iff_ne.mpr c7
    have XP : (az != 3) = true := bne_iff_ne.mpr c7
    obtain rfl := Option.some.inj H
    go_enter Try.func99, Try.ntmps99
    go_wp2_with (((with_reducible refine aG (N := 2) rfl ?_); refine aU ?hg (N := 2) ?hd (cs := #[.int .u8 az, .int .i64 aK, .int .i64 aI, .int .i64 aJ, .int .i64 bH, .int .i64 bI, .slice dW aT.length dX]) (t := 26) ?hr ?_; (case hd => rfl); (case hg => rfl); (case hr => (go_simp; done)); intro iY hg w10 hbox hb; have dI := ae.mk (hbox); replace HB := ae.mk (au (by repeat ((with_reducible exact HB.out))) hb); clear hb hbox hg; have aaI : w10.cell? ⟨iY, 0, none⟩ = some (.int .u8 az) := (af dI.out 0).trans rfl; have aaJ : w10.cell? ⟨iY, 1, none⟩ = some (.int .i64 aK) := (af dI.out 1).trans rfl; have aaK : w10.cell? ⟨iY, 2, none⟩ = some (.int .i64 aI) := (af dI.out 2).trans rfl; have aaL : w10.cell? ⟨iY, 3, none⟩ = some (.int .i64 aJ) := (af dI.out 3).trans rfl; have aaM : w10.cell? ⟨iY, 4, none⟩ = some (.int .i64 bH) := (af dI.out 4).trans rfl; have aaN : w10.cell? ⟨iY, 5, none⟩ = some (.int .i64 bI) := (af dI.out 5).trans rfl; have aaO : w10.cell? ⟨iY, 6, none⟩ = some (.slice dW aT.length dX) := (af dI.out 6).trans rfl; have abk := ah dI.out 0; have abl := ah dI.out 1; have abm := ah dI.out 2; have abn := ah dI.out 3; have abo := ah dI.out 4; have abp := ah dI.out 5; have abq := ah dI.out 6))
    go_ret
    exact ⟨by rfl, by repeat ((with_reducible exact HB.out))⟩
 ·rw [if_neg c3] at H
  have vW : (az == 2) = false := beq_eq_false_iff_ne.mpr c3
  have BA : (az != 2) = true := bne_iff_ne.mpr c3
  by_cases c12 : az = 3
  ·rw [if_pos c12] at H
   have DY : (az == 3) = true := beq_iff_eq.mpr c12
   have Jj : (az != 3) = false := bne_eq_false_iff_eq.mpr c12
   clear c12
   obtain rfl := Option.some.inj H
   go_enter Try.func99, Try.ntmps99
   go_wp2_with (((with_reducible refine aG (N := 2) rfl ?_); refine aU ?hg (N := 2) ?hd (cs := #[.int .u8 az, .int .i64 aK, .int .i64 aI, .int .i64 aJ, .int .i64 bH, .int .i64 bI, .slice dW aT.length dX]) (t := 26) ?hr ?_; (case hd => rfl); (case hg => rfl); (case hr => (go_simp; done)); intro iY hg vT hbox hb; have dI := ae.mk (hbox); replace HB := ae.mk (au (by repeat ((with_reducible exact HB.out))) hb); clear hb hbox hg; have Kt : vT.cell? ⟨iY, 0, none⟩ = some (.int .u8 az) := (af dI.out 0).trans rfl; have Ku : vT.cell? ⟨iY, 1, none⟩ = some (.int .i64 aK) := (af dI.out 1).trans rfl; have Kv : vT.cell? ⟨iY, 2, none⟩ = some (.int .i64 aI) := (af dI.out 2).trans rfl; have Kw : vT.cell? ⟨iY, 3, none⟩ = some (.int .i64 aJ) := (af dI.out 3).trans rfl; have aaX : vT.cell? ⟨iY, 4, none⟩ = some (.int .i64 bH) := (af dI.out 4).trans rfl; have aaY : vT.cell? ⟨iY, 5, none⟩ = some (.int .i64 bI) := (af dI.out 5).trans rfl; have aaZ : vT.cell? ⟨iY, 6, none⟩ = some (.slice dW aT.length dX) := (af dI.out 6).trans rfl; have Ky := ah dI.out 0; have Kz := ah dI.out 1; have KA := ah dI.out 2; have KC := ah dI.out 3; have abA := ah dI.out 4; have abB := ah dI.out 5; have abC := ah dI.out 6))
   go_ret
   exact ⟨by rfl, by repeat ((with_reducible exact HB.out))⟩
  ·rw [if_neg c12] at H
   have DY : (az == 3) = false := beq_eq_false_iff_ne.mpr c12
   have Jj : (az != 3) = true := bne_iff_ne.mpr c12
   obtain rfl := Option.some.inj H
   go_enter Try.func99, Try.ntmps99
   go_wp2_with (((with_reducible refine aG (N := 2) rfl ?_); refine aU ?hg (N := 2) ?hd (cs := #[.int .u8 az, .int .i64 aK, .int .i64 aI, .int .i64 aJ, .int .i64 bH, .int .i64 bI, .slice dW aT.length dX]) (t := 26) ?hr ?_; (case hd => rfl); (case hg => rfl); (case hr => (go_simp; done)); intro iY hg vU hbox hb; have dI := ae.mk (hbox); replace HB := ae.mk (au (by repeat ((with_reducible exact HB.out))) hb); clear hb hbox hg; have Rh : vU.cell? ⟨iY, 0, none⟩ = some (.int .u8 az) := (af dI.out 0).trans rfl; have Ri : vU.cell? ⟨iY, 1, none⟩ = some (.int .i64 aK) := (af dI.out 1).trans rfl; have Rj : vU.cell? ⟨iY, 2, none⟩ = some (.int .i64 aI) := (af dI.out 2).trans rfl; have Rk : vU.cell? ⟨iY, 3, none⟩ = some (.int .i64 aJ) := (af dI.out 3).trans rfl; have aa0 : vU.cell? ⟨iY, 4, none⟩ = some (.int .i64 bH) := (af dI.out 4).trans rfl; have aa1 : vU.cell? ⟨iY, 5, none⟩ = some (.int .i64 bI) := (af dI.out 5).trans rfl; have aa2 : vU.cell? ⟨iY, 6, none⟩ = some (.slice dW aT.length dX) := (af dI.out 6).trans rfl; have Rt := ah dI.out 0; have Ru := ah dI.out 1; have Rw := ah dI.out 2; have Rx := ah dI.out 3; have abD := ah dI.out 4; have abE := ah dI.out 5; have abG := ah dI.out 6))
   go_ret
   exact ⟨by rfl, by repeat ((with_reducible exact HB.out))⟩
end Go.Proofs.Ytfdmfgaiblfbhaa.P
namespace Go.Proofs.Ytfdmfgaiblfbhaa.P
open Go.RowKit Go.Proofs.ag.aV Go.Proofs.ag.bP Go.Proofs.ag.cO
def fK (ax k : Int) : Bool := (k == 2 && ax == 1) || (k == 3 && ax == 2)
theorem DW (c : ai) (ax : Int) : tV.f c.f0 c.f1.f0 c.f1.f1 c.f1.f2 c.f1.f3 c.f2 c.f3 ax = some (fK ax c.f0) := by
 unfold tV.f fK
 by_cases h2 : c.f0 = 2
 ·by_cases h1 : ax = 1
  ·rw [if_pos h2, if_pos h1]; simp [h2, h1]
  ·rw [if_pos h2, if_neg h1, if_neg (by omega)]; simp [h2, h1]
 ·rw [if_neg h2]
  by_cases h3 : c.f0 = 3
  ·rw [if_pos h3]; simp [h3]
  ·rw [if_neg h3]; simp [h2, h3]
theorem Ho (c : ai) (ax : Int) : qF.f c.f0 c.f1.f0 c.f1.f1 c.f1.f2 c.f1.f3 c.f2 c.f3 ax = some (fK ax c.f0) := DW c ax
mutual
def bZ (ax : Int) : ai → Int
 | ⟨a, _, _, l⟩ => if a = 1 then 1 else if fK ax a = true then ((l.length : Int) - 1) + nT ax l else nD ax 0 l
def nT (ax : Int) : List ai → Int
 | [] => 0
 | k :: ks => bZ ax k + nT ax ks
def nD (ax : Int) : Int → List ai → Int
 | m, [] => m
 | m, k :: ks => nD ax (mx m (bZ ax k)) ks
end
theorem qx (ax : Int) (c : ai) : bZ ax c = if c.f0 = 1 then 1 else if fK ax c.f0 = true then ((c.f3.length : Int) - 1) + nT ax c.f3 else nD ax 0 c.f3 := by cases c; simp [bZ]
theorem uZ (ax : Int) : nT ax [] = 0 := by simp [nT]
theorem qG (ax : Int) (k : ai) (ks : List ai) : nT ax (k :: ks) = bZ ax k + nT ax ks := by simp [nT]
theorem Y4 (ax : Int) (a b : List ai) : nT ax (a ++ b) = nT ax a + nT ax b := by
 induction a with
 | nil => rw [List.nil_append, uZ]; omega
 | cons x xs ih => rw [List.cons_append, qG, qG, ih]; omega
theorem rV (ax m : Int) : nD ax m [] = m := by simp [nD]
theorem lX (ax m : Int) (k : ai) (ks : List ai) : nD ax m (k :: ks) = nD ax (mx m (bZ ax k)) ks := by simp [nD]
theorem ZT {a b c : Int} (h : a ≤ c) (k : b ≤ c) : mx a b ≤ c := by unfold mx; split <;> omega
theorem Wh (a b : Int) : a ≤ mx a b := by unfold mx; split <;> omega
theorem Wi (a b : Int) : b ≤ mx a b := by unfold mx; split <;> omega
theorem MO (ax : Int) : ∀ (N : Nat), (∀ c : ai, sz c ≤ N → -(sz c : Int) ≤ bZ ax c ∧ bZ ax c ≤ 2 * (sz c : Int) - 1) ∧
  (∀ l : List ai, dU l ≤ N → -(dU l : Int) ≤ nT ax l ∧ nT ax l ≤ 2 * (dU l : Int) - (l.length : Int)) ∧ (∀ l : List ai, dU l ≤ N → ∀ m : Int, m ≤ nD ax m l ∧ ∀ u, m ≤ u → 2 * (dU l : Int) ≤ u → nD ax m l ≤ u) := by
 intro N
 induction N with
 | zero =>
  refine ⟨fun c h => ?_, fun l h => ?_, fun l h => ?_⟩
  ·rw [bV] at h; omega
  ·cases l with
   | nil => rw [uZ, yS]; simp
   | cons z zs => rw [df, bV] at h; omega
  ·cases l with
   | nil => intro m; rw [rV]; exact ⟨Int.le_refl _, fun u h _ => h⟩
   | cons z zs => rw [df, bV] at h; omega
 | succ N ih =>
  have hC : ∀ c : ai, sz c ≤ N + 1 → -(sz c : Int) ≤ bZ ax c ∧ bZ ax c ≤ 2 * (sz c : Int) - 1 := by
   intro c h
   have hs := bV c
   have h1 := ih.2.1 c.f3 (by omega)
   have h2 := ih.2.2 c.f3 (by omega) 0
   have h3 := h2.2 (2 * (dU c.f3 : Int)) (by omega) (Int.le_refl _)
   rw [qx]
   split
   ·omega
   ·split
    ·omega
    ·omega
  refine ⟨hC, fun l => ?_, fun l => ?_⟩
  ·induction l with
   | nil => intro _; rw [uZ, yS]; simp
   | cons x xs ihl =>
    intro h
    rw [df] at h ⊢
    have h1 := hC x (by omega)
    have h2 := ihl (by omega)
    rw [qG, List.length_cons]
    omega
  ·induction l with
   | nil => intro _ m; rw [rV]; exact ⟨Int.le_refl _, fun u h _ => h⟩
   | cons x xs ihl =>
    intro h m
    rw [df] at h ⊢
    have h1 := hC x (by omega)
    have h2 := ihl (by omega) (mx m (bZ ax x))
    rw [lX]
    refine ⟨Int.le_trans (Wh m (bZ ax x)) h2.1, fun u hu hu2 => h2.2 u (ZT hu (by omega)) (by omega)⟩
theorem KX {c x : ai} (h : (iw c).all oh = true) (hx : x ∈ c.f3) : (iw x).all oh = true := by
 rw [ru, List.all_cons, Bool.and_eq_true] at h
 obtain ⟨p, q, e⟩ := List.append_of_mem hx
 have h2 := h.2
 rw [e, DV, ni, List.all_append, List.all_append] at h2
 simp only [Bool.and_eq_true] at h2
 exact h2.2.1
theorem oG {c : ai} (h : (iw c).all oh = true) : oh c = true := by
 rw [ru, List.all_cons, Bool.and_eq_true] at h
 exact h.1
theorem yQ {c : ai} (h : oh c = true) : (c.f0 = 1 ∧ c.f3.length = 0) ∨ ((c.f0 = 2 ∨ c.f0 = 3) ∧ 2 ≤ c.f3.length) := by
 unfold oh at h
 simp only [Bool.and_eq_true, decide_eq_true_eq] at h
 obtain ⟨⟨⟨_, h1⟩, h2⟩, h3⟩ := h
 by_cases e : c.f0 = 1
 ·exact .inl ⟨e, (h2 e).1⟩
 ·exact .inr ⟨by omega, (h3 (by omega)).1⟩
theorem Ee (ax m : Int) (l : List ai) (k : ai) : nD ax m (l ++ [k]) = mx (nD ax m l) (bZ ax k) := by
 induction l generalizing m with
 | nil => rw [List.nil_append, lX, rV, rV]
 | cons x xs ih => rw [List.cons_append, lX, lX, ih]
def yu (ax : Int) (a : Bool) (pre : List ai) : Int := if a = true then nT ax pre + (if pre.length = 0 then 0 else (pre.length : Int) - 1) else nD ax 0 pre
theorem Gf (ax : Int) (pre : List ai) (k : ai) : nT ax (pre ++ [k]) = nT ax pre + bZ ax k := by rw [Y4, qG, uZ, Int.add_zero]
theorem Qq {ax : Int} {pre : List ai} {k : ai} (h : dU pre + sz k ≤ 1048576) : -2097152 ≤ nT ax pre ∧ nT ax pre ≤ 2097152 ∧ -2097152 ≤ bZ ax k ∧ bZ ax k ≤ 2097152 := by
 have b1 := (MO ax (sz k)).1 k (Nat.le_refl _)
 have b2 := (MO ax (dU pre)).2.1 pre (Nat.le_refl _)
 omega
theorem Wy {ax : Int} {pre : List ai} {k : ai} (h : dU pre + sz k ≤ 1048576) (hp : pre.length = 0) : wrap64 (yu ax true pre + bZ ax k) = yu ax true (pre ++ [k]) := by
 have b := Qq (ax := ax) h
 unfold yu
 rw [if_pos rfl, if_pos rfl, if_pos hp, Gf, List.length_append, List.length_singleton, hp, if_neg (by omega), wq (by omega) (by omega)]
 omega
theorem YG {ax : Int} {pre : List ai} {k : ai} (h : dU pre + sz k ≤ 1048576) (hp : 0 < pre.length) : wrap64 (wrap64 (yu ax true pre + bZ ax k) + 1) = yu ax true (pre ++ [k]) := by
 have b := Qq (ax := ax) h
 have hl := ig pre
 unfold yu
 rw [if_pos rfl, if_pos rfl, if_neg (by omega), Gf, List.length_append, List.length_singleton, if_neg (by omega), wq (x := nT ax pre + ((pre.length : Int) - 1) + bZ ax k) (by omega) (by omega), wq (by omega) (by omega)]
 omega
theorem afS {ax : Int} {pre : List ai} {k : ai} (h : yu ax false pre < bZ ax k) : bZ ax k = yu ax false (pre ++ [k]) := by
 unfold yu at h ⊢
 rw [if_neg (by simp)] at h ⊢
 rw [Ee]
 unfold mx
 split <;> omega
theorem YH {ax : Int} {pre : List ai} {k : ai} (h : ¬ yu ax false pre < bZ ax k) : yu ax false pre = yu ax false (pre ++ [k]) := by
 unfold yu at h ⊢
 rw [if_neg (by simp)] at h ⊢
 rw [if_neg (by simp), Ee]
 unfold mx
 split <;> omega
theorem RI {ax : Int} {c : ai} (h1 : ¬ c.f0 = 1) (h2 : c.f3.length ≠ 0) : yu ax (fK ax c.f0) c.f3 = bZ ax c := by
 rw [qx, if_neg h1]
 unfold yu
 rw [if_neg h2]
 split <;> omega
theorem TP {ax : Int} {pre : List ai} {k : ai} {n : Int} (h : dU pre + sz k ≤ 1048576) (hn : -1 ≤ n ∧ n ≤ 1048576) : wrap64 (n + nT ax pre + bZ ax k) = n + nT ax (pre ++ [k]) := by
 have b := Qq (ax := ax) h
 rw [Gf, wq (by omega) (by omega)]
 omega
theorem F5 (l : List ai) (i : Int) (h0 : 0 ≤ i) (h1 : i < (l.length : Int)) : aA l i ∈ l := by
 unfold aA
 rw [List.getD_eq_getElem?_getD, List.getElem?_eq_getElem (by omega), Option.getD_some]
 exact List.getElem_mem _
theorem tC {l : List ai} {k : ai} (h : k ∈ l) : sz k ≤ dU l := by
 obtain ⟨p, q, e⟩ := List.append_of_mem h
 rw [e, pg, df]
 omega
def qo (c : ai) : List Int → Option ai
 | [] => some c
 | i :: is => if i < 0 ∨ i ≥ (c.f3.length : Int) then none else qo (aA c.f3 i) is
end Go.Proofs.Ytfdmfgaiblfbhaa.P
namespace Go.Proofs.Ytfdmfgaiblfbhaa.P
open Go.RowKit Go.Proofs.ag.aV Go.Proofs.ag.bP Go.Proofs.ag.cO
attribute [local go_sem] kJ lM
section
variable {W : World} {b : Nat} {P : Nat → Prop} {A : Option Addr} {cc : Nat}
theorem Dt {c : ai} {ax : Int} {v : Bool} (h : fK ax c.f0 = v) (hV : Kd.V k26 26 W b P (.slice A c.f3.length cc) c.f3) :
  Calls Try.prog 99 #[.agg #[.int .u8 c.f0, .int .i64 c.f1.f0, .int .i64 c.f1.f1, .int .i64 c.f1.f2, .int .i64 c.f1.f3, .int .i64 c.f2, .slice A c.f3.length cc], .int .u8 ax] W fun e w' => e = .returned (.bool v) ∧ Below W.heap.size W w' :=
 have h2 := Kd.kQ hV
 tV.calls _ _ _ _ _ _ A cc c.f3 ax _ W h2.2.2 h2.2.1 ((DW c ax).trans (congrArg some h))
end
theorem Yu (ax : Int) : ∀ (N : Nat) (c : ai), sz c ≤ N → N ≤ 1048576 → ∀ (b : Nat) (P : Nat → Prop) (A : Option Addr) (cc : Nat) (w : World), Kd.V k26 26 w b P (.slice A c.f3.length cc) c.f3 →
  Calls Try.prog 149 #[.agg #[.int .u8 c.f0, .int .i64 c.f1.f0, .int .i64 c.f1.f1, .int .i64 c.f1.f2, .int .i64 c.f1.f3, .int .i64 c.f2, .slice A c.f3.length cc], .int .u8 ax] w fun e w' => e = .returned (.int .i64 (bZ ax c)) ∧ Below w.heap.size w w' := by
 intro N
 induction N with
 | zero => intro c h; rw [bV] at h; omega
 | succ N ih =>
  intro c hc hN b P A cc w hv
  have hsz := bV c
  have hlen := ig c.f3
  have S := ae.mk (St.start (ts := [(.slice A c.f3.length cc, c.f3)]) (b0 := w.heap.size) (w := w) (P := P) (fun t ht => by rw [List.mem_singleton.1 ht]; exact eY hv))
  have gY := ae.mk (show c.f3.length ≤ 1048576 by omega)
  have EO := ae.mk (show dU c.f3 ≤ 1048576 by omega)
  have IH := ae.mk fun (k : ai) (hk : k ∈ c.f3) A cc w {b P} h => ih k (by have := tC hk; omega) (by omega) b P A cc w h
  have hE := fun h1 h2 => @RI ax c h1 h2
  have hL := qx ax c
  generalize bZ ax c = R at hE hL ⊢
  obtain ⟨ck, ⟨cx, cy, cw, ch⟩, ay, l⟩ := c
  simp only [] at S gY EO IH hE hL ⊢
  clear ih hc hN hv hsz hlen
  by_cases h1 : ck = 1
  case pos =>
   have HR := ae.mk (show R = 1 by rw [hL, if_pos h1])
   obtain ⟨h1a, h1b, h1d⟩ := rU (a := ck) (b := 1) (by omega)
   clear h1 hE hL
   go_enter Try.func149, Try.ntmps149
   go_wp2_with ((refine boxS 2 _ 26 S ?_; clear S; intro b2 di S; have jr := (S.out.at (.head _) 0).trans rfl))
   clear jr
   go_ret
   rw [HR.out]
   exact ⟨rfl, S.out.below⟩
  rw [if_neg h1] at hL
  have HR := ae.mk hL
  obtain ⟨h1a, h1b, h1d⟩ := eqF (a := ck) (b := 1) (by omega)
  have HWL := ae.mk (show wrap64 ((l.length : Int) - 1) = (l.length : Int) - 1 by have := gY.out; unfold wrap64; omega)
  clear h1 hE hL
  go_enter Try.func149, Try.ntmps149
  go_wp2_with ((refine boxS 2 _ 26 S ?_; clear S; intro b2 dS S; have jr := (S.out.at (.head _) 0).trans rfl; have fD := (S.out.at (.head _) 6).trans rfl))
  clear jr fD
  go_loopg [5, 6, 20] l.length (fun gg v5 v6 v20 wr => ∃ (pre rest : List ai), v5 = .int .i64 ((l.length : Int) - 1 + nT ax pre) ∧ v6 = .int .i64 (nD ax 0 pre) ∧ v20 = .int .i64 (pre.length : Int) ∧ ae (pre ++ rest = l) ∧ rest.length ≤ gg ∧ ae (St w P [(some b2, .cells #[.int .u8 ck, .int .i64 cx, .int .i64 cy, .int .i64 cw, .int .i64 ch, .int .i64 ay, .slice A l.length cc] 26 (0, 0))] [] [(.slice A l.length cc, l)] [] wr))
  case atStart => exact ⟨[], l, (by rw [uZ, Int.add_zero, HWL.out]), (by rw [rV]), rfl, ⟨rfl⟩, Nat.le_refl _, S⟩
  case round =>
   clear S
   obtain ⟨pre, rest, rfl, rfl, rfl, HE, hgg, S⟩ := hrel
   cases rest with
   | nil =>
    have hE := HE.out
    rw [List.append_nil] at hE
    have hE2 := hE.symm
    subst hE2
    clear hE HE hgg
    have hlt : ¬ ((l.length : Int) < (l.length : Int)) := by omega
    cases ha : fK ax ck with
    | true =>
     have HA := ae.mk ha
     rw [ha] at HR
     clear ha
     obtain ⟨jr, kU, kV, kW, kX, kY, fD⟩ := St.dD S (.head _)
     go_wp2_with ((refine bG (some 36) Try.func99 S (Dt (c := ⟨ck, ⟨cx, cy, cw, ch⟩, ay, l⟩) HA.out (S.out.tree _ (.head _))) ?_; clear S; intro di S; clear jr kU kV kW kX kY fD))
     go_ret
     rw [HR.out]
     exact ⟨rfl, S.out.below⟩
    | false =>
     have HA := ae.mk ha
     rw [ha] at HR
     clear ha
     obtain ⟨jr, kU, kV, kW, kX, kY, fD⟩ := St.dD S (.head _)
     go_wp2_with ((refine bG (some 36) Try.func99 S (Dt (c := ⟨ck, ⟨cx, cy, cw, ch⟩, ay, l⟩) HA.out (S.out.tree _ (.head _))) ?_; clear S; intro di S; clear jr kU kV kW kX kY fD))
     go_ret
     rw [HR.out]
     exact ⟨rfl, S.out.below⟩
   | cons k rest =>
    have hk : k ∈ l := by rw [← HE.out]; simp
    have hlt : (pre.length : Int) < (l.length : Int) := by rw [← HE.out, List.length_append, List.length_cons]; omega
    have hw1 : wrap64 ((pre.length : Int) + 1) = ((pre ++ [k]).length : Int) := by have := gY.out; rw [List.length_append, List.length_singleton]; unfold wrap64; omega
    have HW1 := ae.mk hw1
    have fM := ae.mk hgg
    have HK := ae.mk hk
    have Zh := ae.mk (show dU pre + sz k ≤ 1048576 by have h := EO.out; rw [← HE.out, pg, df] at h; omega)
    obtain ⟨gK, ua, uc, ek, S1⟩ := S.out.elem (.head _) (pre.length : Int) (Int.natCast_nonneg _) hlt
    subst ek
    have hrd : aA l (pre.length : Int) = k := by rw [← HE.out]; exact kE pre k rest
    rw [hrd] at S1
    simp only [Int.toNat_natCast] at S1
    replace S := ae.mk S1
    clear S1 hrd hk hgg hw1
    obtain ⟨gQ, iD, jd, iP, iQ, jL, jM⟩ := St.AQ S
    go_wp2_with (first | (refine boxS 8 _ 26 S ?_; clear S; intro b8 di S; clear gQ iD jd iP iQ jL jM) | (refine gy 26 8 23 #[.int .u8 k.f0, .int .i64 k.f1.f0, .int .i64 k.f1.f1, .int .i64 k.f1.f2, .int .i64 k.f1.f3, .int .i64 k.f2, .slice ua k.f3.length uc] 0 7 S ?_; clear S; intro dS S; obtain ⟨Zy, Zz, ZA, ZB, ZC, ZE, ZF⟩ := St.dD S (.head _)) | (refine bG (some 26) Try.func149 S (IH.out k HK.out ua uc _ (S.out.tree _ (.head _))) ?_; clear S; intro gq S; clear Zy Zz ZA ZB ZC ZE ZF))
    all_goals
     have hw1 := HW1.out
     go_wp2
     go_roundg rest.length
     case measure => exact Nat.lt_of_lt_of_le (Nat.lt_succ_self _) fM.out
     case rel => exact ⟨pre ++ [k], rest, (by rw [TP Zh.out (by have := gY.out; omega)]), (by rw [Ee]; congr 1; unfold mx; split <;> omega), (by rw [hw1]), ⟨by rw [List.append_assoc]; exact HE.out⟩, Nat.le_refl _, ⟨S.out.dV.bQ.aX.aX.aX.aX.aX.aX.aX⟩⟩
def mF.f (_ : Nat) (a0 a1 a2 a3 a4 a5 : Int) (l : List ai) (ax : Int) : Option Int := if sz ⟨a0, ⟨a1, a2, a3, a4⟩, a5, l⟩ ≤ 1048576 then some (bZ ax ⟨a0, ⟨a1, a2, a3, a4⟩, a5, l⟩) else none
theorem mF.calls (k : Nat) (az : Int) (aK : Int) (aI : Int) (aJ : Int) (bH : Int) (bI : Int) (dW : Option Addr) (dX : Nat) (aT : List (ai)) (a1 : Int) (r : Int) (w : World) (qR : Kd.C k26 w dW aT.length aT) (sO : aT.length ≤ dX) (h : mF.f k az aK aI aJ bH bI aT a1 = some r) :
  Calls Try.prog 149 #[.agg #[.int .u8 az, .int .i64 aK, .int .i64 aI, .int .i64 aJ, .int .i64 bH, .int .i64 bI, .slice dW aT.length dX], .int .u8 a1] w fun e w' => e = .returned (.int .i64 r) ∧ Below w.heap.size w w' := by
 unfold mF.f at h
 split at h
 ·rename_i hz
  injection h with h
  subst h
  exact Yu a1 _ ⟨az, ⟨aK, aI, aJ, bH⟩, bI, aT⟩ (Nat.le_refl _) hz w.heap.size (fun _ => True) dW dX w (Kd.x_ sO (Kd.sU (Kd.GY qM qR) (fun _ _ => trivial)))
 ·cases h
theorem Yv (ax : Int) (N : Nat) (c : ai) (hc : sz c ≤ N) (hN : N ≤ 1048576) : Ev (fun k => mF.f k c.f0 c.f1.f0 c.f1.f1 c.f1.f2 c.f1.f3 c.f2 c.f3 ax) (bZ ax c) := by
 refine Ev.congr (f := fun _ => some (bZ ax c)) (fun k => ?_) (Ev.now _)
 unfold mF.f
 rw [Gz, if_pos (Nat.le_trans hc hN)]
end Go.Proofs.Ytfdmfgaiblfbhaa.P
namespace Go.Proofs.Ytfdmfgaiblfbhaa.P
open Go.RowKit Go.Proofs.ag.aV Go.Proofs.ag.bP Go.Proofs.ag.cO
section
variable {W : World} {b : Nat} {P : Nat → Prop} {A : Option Addr} {cc : Nat}
theorem uY {c : ai} {ax : Int} {v : Bool} (h : fK ax c.f0 = v) (hV : Kd.V k26 26 W b P (.slice A c.f3.length cc) c.f3) :
  Calls Try.prog 88 #[.agg #[.int .u8 c.f0, .int .i64 c.f1.f0, .int .i64 c.f1.f1, .int .i64 c.f1.f2, .int .i64 c.f1.f3, .int .i64 c.f2, .slice A c.f3.length cc], .int .u8 ax] W fun e w' => e = .returned (.bool v) ∧ Below W.heap.size W w' :=
 have h2 := Kd.kQ hV
 qF.calls _ _ _ _ _ _ A cc c.f3 ax _ W h2.2.2 h2.2.1 ((Ho c ax).trans (congrArg some h))
end
theorem ahk (ax : Int) : ∀ (N : Nat) (c : ai), sz c ≤ N → N ≤ 1048576 → (iw c).all oh = true → ∀ (b : Nat) (P : Nat → Prop) (A : Option Addr) (cc : Nat) (w : World), Kd.V k26 26 w b P (.slice A c.f3.length cc) c.f3 →
  Calls Try.prog 152 #[.agg #[.int .u8 c.f0, .int .i64 c.f1.f0, .int .i64 c.f1.f1, .int .i64 c.f1.f2, .int .i64 c.f1.f3, .int .i64 c.f2, .slice A c.f3.length cc], .int .u8 ax] w fun e w' => e = .returned (.int .i64 (bZ ax c)) ∧ Below w.heap.size w w' := by
 intro N
 induction N with
 | zero => intro c h; rw [bV] at h; omega
 | succ N ih =>
  intro c hc hN hok b P A cc w hv
  have hsz := bV c
  have hlen := ig c.f3
  have S := ae.mk (St.start (ts := [(.slice A c.f3.length cc, c.f3)]) (b0 := w.heap.size) (w := w) (P := P) (fun t ht => by rw [List.mem_singleton.1 ht]; exact eY hv))
  have gY := ae.mk (show c.f3.length ≤ 1048576 by omega)
  have EO := ae.mk (show dU c.f3 ≤ 1048576 by omega)
  have IH := ae.mk fun (k : ai) (hk : k ∈ c.f3) A cc w {b P} h => ih k (by have := tC hk; omega) (by omega) (KX hok hk) b P A cc w h
  have hE := fun h1 h2 => @RI ax c h1 h2
  have hL := qx ax c
  have hkd := yQ (oG hok)
  generalize bZ ax c = R at hE hL ⊢
  obtain ⟨ck, ⟨cx, cy, cw, ch⟩, ay, l⟩ := c
  simp only [] at S gY EO IH hE hL ⊢
  clear ih hc hN hv hsz hlen
  simp only [] at hkd
  by_cases hz : l.length = 0
  case pos =>
   have HR := ae.mk (show R = 1 by rw [hL, if_pos (by omega)])
   obtain ⟨hza, hzb, hzd⟩ := rU (a := (l.length : Int)) (b := 0) (by omega)
   have hze : (l.length == 0) = true := beq_iff_eq.mpr (by omega)
   have hzf : decide (l.length = 0) = true := decide_eq_true (by omega)
   clear hkd hz hE hL
   go_enter Try.func152, Try.ntmps152
   go_wp2_with ((refine boxS 2 _ 26 S ?_; clear S; intro b2 di S; have fD := (S.out.at (.head _) 6).trans rfl))
   clear fD
   go_ret
   rw [HR.out]
   exact ⟨rfl, S.out.below⟩
  have HR := ae.mk (hE (by omega) hz)
  obtain ⟨hza, hzb, hzd⟩ := eqF (a := (l.length : Int)) (b := 0) (by omega)
  have hze : (l.length == 0) = false := beq_eq_false_iff_ne.mpr (by omega)
  have hzf : decide (l.length = 0) = false := decide_eq_false (by omega)
  clear hkd hz hE hL
  generalize ha : fK ax ck = a at HR
  have HA := ae.mk ha
  clear ha
  go_enter Try.func152, Try.ntmps152
  go_wp2_with ((refine boxS 2 _ 26 S ?_; clear S; intro b2 dS S; have fD := (S.out.at (.head _) 6).trans rfl))
  clear fD
  go_loopg [5, 15] l.length (fun gg v5 v15 wr => ∃ (pre rest : List ai), v5 = .int .i64 (yu ax a pre) ∧ v15 = .int .i64 (pre.length : Int) ∧ ae (pre ++ rest = l) ∧ rest.length ≤ gg ∧ ae (St w P [(some b2, .cells #[.int .u8 ck, .int .i64 cx, .int .i64 cy, .int .i64 cw, .int .i64 ch, .int .i64 ay, .slice A l.length cc] 26 (0, 0))] [] [(.slice A l.length cc, l)] [] wr))
  case atStart => exact ⟨[], l, (by cases a <;> rfl), rfl, ⟨rfl⟩, Nat.le_refl _, S⟩
  case round =>
   clear S
   obtain ⟨pre, rest, rfl, rfl, HE, hgg, S⟩ := hrel
   cases rest with
   | nil =>
    have hE := HE.out
    rw [List.append_nil] at hE
    have hE2 := hE.symm
    subst hE2
    clear hE HE hgg
    have hlt : ¬ ((l.length : Int) < (l.length : Int)) := by omega
    go_wp2
    go_ret
    rw [← HR.out]
    exact ⟨rfl, S.out.below⟩
   | cons k rest =>
    have hk : k ∈ l := by rw [← HE.out]; simp
    have hlt : (pre.length : Int) < (l.length : Int) := by rw [← HE.out, List.length_append, List.length_cons]; omega
    have hw1 : wrap64 ((pre.length : Int) + 1) = ((pre ++ [k]).length : Int) := by have := gY.out; rw [List.length_append, List.length_singleton]; unfold wrap64; omega
    have HW1 := ae.mk hw1
    have fM := ae.mk hgg
    have HK := ae.mk hk
    have Zh := ae.mk (show dU pre + sz k ≤ 1048576 by have h := EO.out; rw [← HE.out, pg, df] at h; omega)
    obtain ⟨gK, ua, uc, ek, S1⟩ := S.out.elem (.head _) (pre.length : Int) (Int.natCast_nonneg _) hlt
    subst ek
    have hrd : aA l (pre.length : Int) = k := by rw [← HE.out]; exact kE pre k rest
    rw [hrd] at S1
    simp only [Int.toNat_natCast] at S1
    replace S := ae.mk S1
    clear S1 hrd hk hgg hw1
    cases a with
    | true =>
     by_cases hp : pre.length = 0
     case pos =>
      have HP := ae.mk hp
      have hpn : ¬ (0 < pre.length) := by omega
      obtain ⟨hqa, V4⟩ := lY (a := 0) (b := (pre.length : Int)) (by omega)
      have hqc : decide (0 < pre.length) = false := decide_eq_false (by omega)
      have hqe : ¬ (0 < pre.length) := by omega
      clear hp
      obtain ⟨gQ, iD, jd, iP, iQ, jL, jM⟩ := St.AQ S
      have fD := (S.out.at (.head _) 6).trans rfl
      go_wp2_with (first | (refine bG (some 24) Try.func152 S (IH.out k HK.out ua uc _ (S.out.tree _ (.head _))) ?_; clear S; intro di S; clear gQ iD jd iP iQ jL jM fD; obtain ⟨jr, kU, kV, kW, kX, kY, fD⟩ := St.dD S (.head _)) | (refine bG (some 27) Try.func88 S (uY (c := ⟨ck, ⟨cx, cy, cw, ch⟩, ay, l⟩) HA.out (S.out.tree _ aY)) ?_; clear S; intro dS S; clear jr kU kV kW kX kY fD))
      have hw1 := HW1.out
      go_wp2
      go_roundg rest.length
      case measure => exact Nat.lt_of_lt_of_le (Nat.lt_succ_self _) fM.out
      case rel => exact ⟨pre ++ [k], rest, (by rw [Wy Zh.out HP.out]), (by (rw [List.length_append]; rfl)), ⟨by rw [List.append_assoc]; exact HE.out⟩, Nat.le_refl _, ⟨S.out.bQ.aX.aX.aX.aX.aX.aX.aX⟩⟩
     case neg =>
      have HP := ae.mk (show 0 < pre.length by omega)
      have hpn : 0 < pre.length := HP.out
      obtain ⟨hqa, V4⟩ := nz (a := 0) (b := (pre.length : Int)) (by omega)
      have hqc : decide (0 < pre.length) = true := decide_eq_true (by omega)
      have hqe : 0 < pre.length := by omega
      clear hp
      obtain ⟨gQ, iD, jd, iP, iQ, jL, jM⟩ := St.AQ S
      have fD := (S.out.at (.head _) 6).trans rfl
      go_wp2_with (first | (refine bG (some 24) Try.func152 S (IH.out k HK.out ua uc _ (S.out.tree _ (.head _))) ?_; clear S; intro di S; clear gQ iD jd iP iQ jL jM fD; obtain ⟨jr, kU, kV, kW, kX, kY, fD⟩ := St.dD S (.head _)) | (refine bG (some 27) Try.func88 S (uY (c := ⟨ck, ⟨cx, cy, cw, ch⟩, ay, l⟩) HA.out (S.out.tree _ aY)) ?_; clear S; intro dS S; clear jr kU kV kW kX kY fD))
      have hw1 := HW1.out
      go_wp2
      go_roundg rest.length
      case measure => exact Nat.lt_of_lt_of_le (Nat.lt_succ_self _) fM.out
      case rel => exact ⟨pre ++ [k], rest, (by rw [YG Zh.out HP.out]), (by rw [hw1]), ⟨by rw [List.append_assoc]; exact HE.out⟩, Nat.le_refl _, ⟨S.out.bQ.aX.aX.aX.aX.aX.aX.aX⟩⟩
    | false =>
     by_cases hp : yu ax false pre < bZ ax k
     case pos =>
      have HP := ae.mk hp
      obtain ⟨hpa, hpb⟩ := nz (a := yu ax false pre) (b := bZ ax k) (by omega)
      clear hp
      obtain ⟨gQ, iD, jd, iP, iQ, jL, jM⟩ := St.AQ S
      have fD := (S.out.at (.head _) 6).trans rfl
      go_wp2_with (first | (refine bG (some 24) Try.func152 S (IH.out k HK.out ua uc _ (S.out.tree _ (.head _))) ?_; clear S; intro di S; clear gQ iD jd iP iQ jL jM fD; obtain ⟨jr, kU, kV, kW, kX, kY, fD⟩ := St.dD S (.head _)) | (refine bG (some 27) Try.func88 S (uY (c := ⟨ck, ⟨cx, cy, cw, ch⟩, ay, l⟩) HA.out (S.out.tree _ aY)) ?_; clear S; intro dS S; clear jr kU kV kW kX kY fD))
      have hw1 := HW1.out
      go_wp2
      go_roundg rest.length
      case measure => exact Nat.lt_of_lt_of_le (Nat.lt_succ_self _) fM.out
      case rel => exact ⟨pre ++ [k], rest, (by rw [afS HP.out]), (by rw [hw1]), ⟨by rw [List.append_assoc]; exact HE.out⟩, Nat.le_refl _, ⟨S.out.bQ.aX.aX.aX.aX.aX.aX.aX⟩⟩
     case neg =>
      have HP := ae.mk hp
      obtain ⟨hpa, hpb⟩ := lY (a := yu ax false pre) (b := bZ ax k) (by omega)
      clear hp
      obtain ⟨gQ, iD, jd, iP, iQ, jL, jM⟩ := St.AQ S
      have fD := (S.out.at (.head _) 6).trans rfl
      go_wp2_with (first | (refine bG (some 24) Try.func152 S (IH.out k HK.out ua uc _ (S.out.tree _ (.head _))) ?_; clear S; intro di S; clear gQ iD jd iP iQ jL jM fD; obtain ⟨jr, kU, kV, kW, kX, kY, fD⟩ := St.dD S (.head _)) | (refine bG (some 27) Try.func88 S (uY (c := ⟨ck, ⟨cx, cy, cw, ch⟩, ay, l⟩) HA.out (S.out.tree _ aY)) ?_; clear S; intro dS S; clear jr kU kV kW kX kY fD))
      have hw1 := HW1.out
      go_wp2
      go_roundg rest.length
      case measure => exact Nat.lt_of_lt_of_le (Nat.lt_succ_self _) fM.out
      case rel => exact ⟨pre ++ [k], rest, (by rw [YH (Int.not_lt.mpr HP.out)]), (by rw [hw1]), ⟨by rw [List.append_assoc]; exact HE.out⟩, Nat.le_refl _, ⟨S.out.bQ.aX.aX.aX.aX.aX.aX.aX⟩⟩
def af7.f (_ : Nat) (a0 a1 a2 a3 a4 a5 : Int) (l : List ai) (ax : Int) : Option Int := if sz ⟨a0, ⟨a1, a2, a3, a4⟩, a5, l⟩ ≤ 1048576 ∧ (iw ⟨a0, ⟨a1, a2, a3, a4⟩, a5, l⟩).all oh = true then some (bZ ax ⟨a0, ⟨a1, a2, a3, a4⟩, a5, l⟩) else none
end Go.Proofs.Ytfdmfgaiblfbhaa.P

namespace Go.Proofs.Ytfdmfgaiblfbhaa.P
open Go.RowKit Go.Proofs.ag.aV Go.Proofs.ag.bP Go.Proofs.ag.cO
attribute [local go_sem] kJ kS lM l7 lI lJ mJ mO
def qy.f (az : Int) (aK : Int) (aI : Int) (aJ : Int) (a1 : Int) : Option (Int) := if a1 = 2 then (some aJ) else (if a1 = 1 then (some aI) else (some 0))
theorem qy.calls (az : Int) (aK : Int) (aI : Int) (aJ : Int) (a1 : Int) (r : Int) (w : World) (h : qy.f az aK aI aJ a1 = some r) :
  Calls Try.prog 98 #[.agg #[.int .i64 az, .int .i64 aK, .int .i64 aI, .int .i64 aJ], .int .u8 a1] w fun e w' => e = .returned (.int .i64 r) ∧ Below w.heap.size w w' := by
 have PS := Try.underlying23
 have HB := ae.mk (Below.refl w.heap.size w)
 have H : (if a1 = 2 then (some aJ) else (if a1 = 1 then (some aI) else (some 0))) = some r := h
 clear h
 by_cases c3 : a1 = 2
 ·rw [if_pos c3] at H
  have vW : (a1 == 2) = true := beq_iff_eq.mpr c3
  have BA : (a1 != 2) = false := bne_eq_false_iff_eq.mpr c3
  clear c3
  obtain rfl := Option.some.inj H
  go_enter Try.func98, Try.ntmps98
  go_wp2_with (((with_reducible refine aG (N := 2) rfl ?_); refine aU ?hg (N := 2) ?hd (cs := #[.int .i64 az, .int .i64 aK, .int .i64 aI, .int .i64 aJ]) (t := 23) ?hr ?_; (case hd => rfl); (case hg => rfl); (case hr => (go_simp; done)); intro vC hg w4 hbox hb; have pW := ae.mk (hbox); have SI := ae.mk ((by rw [hg]; exact (fB (by repeat ((with_reducible exact HB.out)))) : w.heap.size ≤ vC)); replace HB := ae.mk (au (by repeat ((with_reducible exact HB.out))) hb); clear hb hbox hg; have ae3 : w4.cell? ⟨vC, 0, none⟩ = some (.int .i64 az) := (af pW.out 0).trans rfl; have ae4 : w4.cell? ⟨vC, 1, none⟩ = some (.int .i64 aK) := (af pW.out 1).trans rfl; have ae5 : w4.cell? ⟨vC, 2, none⟩ = some (.int .i64 aI) := (af pW.out 2).trans rfl; have ae6 : w4.cell? ⟨vC, 3, none⟩ = some (.int .i64 aJ) := (af pW.out 3).trans rfl; have afg := ah pW.out 0; have afh := ah pW.out 1; have afi := ah pW.out 2; have afj := ah pW.out 3))
  go_ret
  exact ⟨by rfl, by repeat ((with_reducible first | exact HB.out | refine nZ ?_ SI.out))⟩
 ·rw [if_neg c3] at H
  have vW : (a1 == 2) = false := beq_eq_false_iff_ne.mpr c3
  have BA : (a1 != 2) = true := bne_iff_ne.mpr c3
  by_cases c6 : a1 = 1
  ·rw [if_pos c6] at H
   have DZ : (a1 == 1) = true := beq_iff_eq.mpr c6
   have XO : (a1 != 1) = false := bne_eq_false_iff_eq.mpr c6
   clear c6
   obtain rfl := Option.some.inj H
   go_enter Try.func98, Try.ntmps98
   go_wp2_with (((with_reducible refine aG (N := 2) rfl ?_); refine aU ?hg (N := 2) ?hd (cs := #[.int .i64 az, .int .i64 aK, .int .i64 aI, .int .i64 aJ]) (t := 23) ?hr ?_; (case hd => rfl); (case hg => rfl); (case hr => (go_simp; done)); intro vC hg w7 hbox hb; have pW := ae.mk (hbox); have SI := ae.mk ((by rw [hg]; exact (fB (by repeat ((with_reducible exact HB.out)))) : w.heap.size ≤ vC)); replace HB := ae.mk (au (by repeat ((with_reducible exact HB.out))) hb); clear hb hbox hg; have Vu : w7.cell? ⟨vC, 0, none⟩ = some (.int .i64 az) := (af pW.out 0).trans rfl; have Vw : w7.cell? ⟨vC, 1, none⟩ = some (.int .i64 aK) := (af pW.out 1).trans rfl; have Vx : w7.cell? ⟨vC, 2, none⟩ = some (.int .i64 aI) := (af pW.out 2).trans rfl; have Vy : w7.cell? ⟨vC, 3, none⟩ = some (.int .i64 aJ) := (af pW.out 3).trans rfl; have VN := ah pW.out 0; have VO := ah pW.out 1; have VQ := ah pW.out 2; have VR := ah pW.out 3))
   go_ret
   exact ⟨by rfl, by repeat ((with_reducible exact HB.out))⟩
  ·rw [if_neg c6] at H
   have DZ : (a1 == 1) = false := beq_eq_false_iff_ne.mpr c6
   have XO : (a1 != 1) = true := bne_iff_ne.mpr c6
   obtain rfl := Option.some.inj H
   go_enter Try.func98, Try.ntmps98
   go_wp2_with (((with_reducible refine aG (N := 2) rfl ?_); refine aU ?hg (N := 2) ?hd (cs := #[.int .i64 az, .int .i64 aK, .int .i64 aI, .int .i64 aJ]) (t := 23) ?hr ?_; (case hd => rfl); (case hg => rfl); (case hr => (go_simp; done)); intro vC hg w9 hbox hb; have pW := ae.mk (hbox); have SI := ae.mk ((by rw [hg]; exact (fB (by repeat ((with_reducible exact HB.out)))) : w.heap.size ≤ vC)); replace HB := ae.mk (au (by repeat ((with_reducible exact HB.out))) hb); clear hb hbox hg))
   go_ret
   exact ⟨by rfl, by repeat ((with_reducible exact HB.out))⟩
end Go.Proofs.Ytfdmfgaiblfbhaa.P
namespace Go.Proofs.Ytfdmfgaiblfbhaa.P
open Go.RowKit Go.Proofs.ag.aV Go.Proofs.ag.bP Go.Proofs.ag.cO
def aW (ax : Int) (r : dO) : Int := if ax = 1 then r.f2 else if ax = 2 then r.f3 else 0
theorem Nb (r : dO) (ax : Int) : qy.f r.f0 r.f1 r.f2 r.f3 ax = some (aW ax r) := by
 unfold qy.f aW
 by_cases h1 : ax = 1
 ·rw [if_neg (by omega), if_pos h1, if_pos h1]
 ·by_cases h2 : ax = 2
  ·rw [if_pos h2, if_neg h1, if_pos h2]
  ·rw [if_neg h2, if_neg h1, if_neg h1, if_neg h2]
end Go.Proofs.Ytfdmfgaiblfbhaa.P
namespace Go.Proofs.Ytfdmfgaiblfbhaa.P
open Go.RowKit Go.Proofs.ag.aV Go.Proofs.ag.bP Go.Proofs.ag.cO
attribute [local go_sem] kJ kS lM l7 lI lJ mJ mO
def lW.f (a0 : Int) : Option (Bool) := if a0 = 1 then (some true) else (some (a0 == 2))
theorem lW.aef (a0 : Int) (r : Bool) (w : World) (h : lW.f a0 = some r) :
  Calls Try.prog 147 #[.int .u8 a0] w fun e w' => e = .returned (.bool r) ∧ sS w w' := by
 have H : (if a0 = 1 then (some true) else (some (a0 == 2))) = some r := h
 clear h
 by_cases c2 : a0 = 1
 ·rw [if_pos c2] at H
  have OM : (a0 == 1) = true := beq_iff_eq.mpr c2
  have ait : (a0 != 1) = false := bne_eq_false_iff_eq.mpr c2
  clear c2
  obtain rfl := Option.some.inj H
  go_enter Try.func147, Try.ntmps147
  go_wp2
  go_ret
  exact ⟨by rfl, by repeat (exact sS.refl _)⟩
 ·rw [if_neg c2] at H
  have OM : (a0 == 1) = false := beq_eq_false_iff_ne.mpr c2
  have ait : (a0 != 1) = true := bne_iff_ne.mpr c2
  obtain rfl := Option.some.inj H
  go_enter Try.func147, Try.ntmps147
  go_wp2
  go_ret
  exact ⟨by rfl, by repeat (exact sS.refl _)⟩
theorem lW.calls (a0 : Int) (r : Bool) (w : World) (h : lW.f a0 = some r) :
  Calls Try.prog 147 #[.int .u8 a0] w fun e w' => e = .returned (.bool r) ∧ Below w.heap.size w w' := by
 refine (lW.aef a0 r w h).mono ?_
 rintro e w' ⟨he, n, rfl⟩
 exact ⟨he, eP (Below.refl _ _) n⟩
end Go.Proofs.Ytfdmfgaiblfbhaa.P
namespace Go.Proofs.Ytfdmfgaiblfbhaa.P
open Go.RowKit Go.Proofs.ag.aV Go.Proofs.ag.bP Go.Proofs.ag.cO
theorem aca (Inv : List ai → World → Prop) (r : ai → Bool) (g : Nat) (lb : Array Value) (eg : ∀ args w, (callFunc g args).run Try.prog w = .ok (.enter g args) w) (l : List ai) (A : Option Addr) (c : Nat)
  (w0 : World) (hR : Kd.C k26 w0 A l.length l) (hW : ∀ s W, Inv s W → Below w0.heap.size w0 W) (hD : ∀ s W n, Inv s W → Inv s (W.drewN n))
  (hcall : ∀ (x : ai) (rest : List ai) (W : World) (B : Option Addr) (cb : Nat), x ∈ l → (∃ pre, pre ++ x :: rest = l) → Inv (x :: rest) W → Kd.C k26 w0 B x.f3.length x.f3 → x.f3.length ≤ cb → Calls Try.prog g (#[.agg #[.int .u8 x.f0, .int .i64 x.f1.f0, .int .i64 x.f1.f1, .int .i64 x.f1.f2, .int .i64 x.f1.f3, .int .i64 x.f2, .slice B x.f3.length cb]] ++ lb) W fun e w' => e = .returned (.bool (r x)) ∧ Inv (if r x = true then [] else rest) w')
  (w : World) (hI : Inv l w) (hl : l.length ≤ 9223372036854775807) :
  Calls Try.prog 192 #[.slice A l.length c, .func (.func g) #[] lb] w fun e w' => ∃ i : Int, e = .returned (.int .i64 i) ∧ decide (i ≥ 0) = l.any r ∧ Inv [] w' := by
 have HR := ae.mk hR
 have HW := ae.mk hW
 have HD := ae.mk hD
 have HI := ae.mk hI
 have AV := ae.mk hcall
 clear hR hW hcall hD hI
 go_enter Try.func192, Try.ntmps192
 go_wp2
 go_loopg [5, 8] l.length (fun gg _ v8 wr => ∃ (kk : Nat), kk ≤ l.length ∧ l.length - kk ≤ gg ∧ v8 = .int .i64 kk ∧ ae (Inv (l.drop kk) wr) ∧ ae (l.any r = (l.drop kk).any r))
 case atStart => exact ⟨0, Nat.zero_le _, by omega, rfl, ⟨by simpa using HI.out⟩, ⟨by simp⟩⟩
 case round =>
  clear HI
  obtain ⟨kk, hkk, hg, rfl, HI, HS⟩ := hrel
  by_cases hlt : kk < l.length
  ·have hltz : (kk : Int) < (l.length : Int) := by omega
   obtain ⟨ad, B, cb, rfl, hc0, hc1, hc2, hc3, hc4, hc5, hc6, hlb, hgb⟩ := uC HR.out (kk : Int) (by omega) (by omega)
   have hbw := HW.out _ wr HI.out
   replace hc0 := (hbw.cell (World.block_lt_of_cell? w0 _ hc0)).trans hc0
   replace hc1 := (hbw.cell (World.block_lt_of_cell? w0 _ hc1)).trans hc1
   replace hc2 := (hbw.cell (World.block_lt_of_cell? w0 _ hc2)).trans hc2
   replace hc3 := (hbw.cell (World.block_lt_of_cell? w0 _ hc3)).trans hc3
   replace hc4 := (hbw.cell (World.block_lt_of_cell? w0 _ hc4)).trans hc4
   replace hc5 := (hbw.cell (World.block_lt_of_cell? w0 _ hc5)).trans hc5
   replace hc6 := (hbw.cell (World.block_lt_of_cell? w0 _ hc6)).trans hc6
   clear hbw
   have hmem : (aA l (kk : Int)) ∈ l := Es z26 l kk hlt
   have hdr : l.drop kk = aA l (kk : Int) :: l.drop (kk + 1) := by
    rw [List.drop_eq_getElem_cons hlt]
    simp only [aA, Int.toNat_natCast, List.getD_eq_getElem?_getD, List.getElem?_eq_getElem hlt, Option.getD_some]
   have HX : ae ((l.drop kk).any r = (r (aA l (kk : Int)) || (l.drop (kk + 1)).any r)) := ⟨by rw [hdr, List.any_cons]⟩
   have hcall := AV.out _ (l.drop (kk + 1)) wr B cb hmem ⟨l.take kk, by rw [← hdr]; exact List.take_append_drop kk l⟩ (by rw [← hdr]; exact HI.out) hgb hlb
   clear hmem hgb hlb hdr
   simp only [Int.toNat_natCast] at hc0 hc1 hc2 hc3 hc4 hc5 hc6
   generalize aA l (kk : Int) = x at hc0 hc1 hc2 hc3 hc4 hc5 hc6 HX hcall
   have HC := ae.mk hcall
   clear hcall
   cases hq : r x with
   | true =>
    have h := HC.out
    rw [hq, if_pos rfl] at h
    have HH := ae.mk h
    have HQ := ae.mk hq
    clear hq HC h
    go_wp2_with fail
    refine HH.out.mono ?_
    rintro e w' ⟨rfl, hb'⟩
    have HB := ae.mk hb'
    clear hb'
    go_wp2
    go_ret
    refine ⟨_, rfl, ?_, HB.out⟩
    rw [HS.out, HX.out, HQ.out, Bool.true_or]
    exact decide_eq_true (by omega)
   | false =>
    have h := HC.out
    rw [hq, if_neg (by simp)] at h
    have HH := ae.mk h
    have HQ := ae.mk hq
    clear hq HC h
    go_wp2_with fail
    refine HH.out.mono ?_
    rintro e w' ⟨rfl, hb'⟩
    have HB := ae.mk hb'
    clear hb'
    go_wp2
    go_roundg (l.length - (kk + 1))
    case measure => omega
    case rel =>
     refine ⟨kk + 1, by omega, by omega, by go_num, HB, ⟨?_⟩⟩
     rw [HS.out, HX.out, HQ.out, Bool.false_or]
  ·have hltz : ¬ (kk : Int) < (l.length : Int) := by omega
   have hd : l.drop kk = [] := List.drop_eq_nil_of_le (by omega)
   have HI2 := ae.mk (hd ▸ HI.out)
   have HS2 := ae.mk (hd ▸ HS.out)
   clear HI HS hd
   go_wp2
   go_ret
   refine ⟨_, rfl, ?_, HI2.out⟩
   rw [HS2.out]
   rfl
theorem QU (Inv : List ai → World → Prop) (r : ai → Bool) (g : Nat) (lb : Array Value) (eg : ∀ args w, (callFunc g args).run Try.prog w = .ok (.enter g args) w) (l : List ai) (A : Option Addr) (c : Nat)
  (w0 : World) (hR : Kd.C k26 w0 A l.length l) (hW : ∀ s W, Inv s W → Below w0.heap.size w0 W) (hD : ∀ s W n, Inv s W → Inv s (W.drewN n))
  (hcall : ∀ (x : ai) (rest : List ai) (W : World) (B : Option Addr) (cb : Nat), x ∈ l → (∃ pre, pre ++ x :: rest = l) → Inv (x :: rest) W → Kd.C k26 w0 B x.f3.length x.f3 → x.f3.length ≤ cb → Calls Try.prog g (#[.agg #[.int .u8 x.f0, .int .i64 x.f1.f0, .int .i64 x.f1.f1, .int .i64 x.f1.f2, .int .i64 x.f1.f3, .int .i64 x.f2, .slice B x.f3.length cb]] ++ lb) W fun e w' => e = .returned (.bool (r x)) ∧ Inv (if r x = true then [] else rest) w')
  (w : World) (hI : Inv l w) (hl : l.length ≤ 9223372036854775807) :
  Calls Try.prog 174 #[.slice A l.length c, .func (.func g) #[] lb] w fun e w' => e = .returned (.bool (l.any r)) ∧ Inv [] w' := by
 have hi := aca Inv r g lb eg l A c w0 hR hW hD hcall w hI hl
 clear hR hW hD hcall hI
 have HI := ae.mk hi
 clear hi
 go_enter Try.func174, Try.ntmps174
 go_wp2_with fail
 refine HI.out.mono ?_
 rintro e w' ⟨i, rfl, hd, hb'⟩
 have HB := ae.mk hb'
 have HN := ae.mk hd
 clear hb' hd
 go_wp2
 go_ret
 exact ⟨by rw [← HN.out]; rfl, HB.out⟩
theorem aeC (r : ai → dO → Bool) (g : Nat) (eg : ∀ args w, (callFunc g args).run Try.prog w = .ok (.enter g args) w) (la : List ai) (lb : List dO) (A B : Option Addr) (ca cb : Nat) (w : World) (hA : Kd.C k26 w A la.length la) (hB : Kd.C k23 w B lb.length lb)
  (hcall : ∀ W (x : ai) (X : Option Addr) (cx : Nat) (y : dO), x ∈ la → Below w.heap.size w W → Kd.C k26 w X x.f3.length x.f3 → x.f3.length ≤ cx → Calls Try.prog g #[.agg #[.int .u8 x.f0, .int .i64 x.f1.f0, .int .i64 x.f1.f1, .int .i64 x.f1.f2, .int .i64 x.f1.f3, .int .i64 x.f2, .slice X x.f3.length cx], .agg #[.int .i64 y.f0, .int .i64 y.f1, .int .i64 y.f2, .int .i64 y.f3]] W fun e w' => e = .returned (.bool (r x y)) ∧ Below W.heap.size W w') :
  Calls Try.prog 211 #[.slice A la.length ca, .slice B lb.length cb, .func (.func g) #[] #[]] w fun e w' => e = .returned (.bool (la.length == lb.length && uQ r la lb)) ∧ Below w.heap.size w w' := by
 have HA := ae.mk hA
 have HLB := ae.mk hB
 have HC := ae.mk hcall
 have HB := ae.mk (Below.refl w.heap.size w)
 have HL := ae.mk (show la.length ≤ 9223372036854775807 from hA.2.1)
 clear hA hB hcall
 by_cases hl : la.length = lb.length
 ·have hl1 : ((la.length : Int) != (lb.length : Int)) = false := by simp [hl]
  have hl2 : (la.length == lb.length) = true := by simp [hl]
  rw [hl2, Bool.true_and]
  have HE := ae.mk hl
  clear hl hl2
  go_enter Try.func211, Try.ntmps211
  go_wp2
  go_loopg [17] la.length (fun gg v17 wr => ∃ (kk : Nat), kk ≤ la.length ∧ la.length - kk ≤ gg ∧ v17 = .int .i64 kk ∧ ae (uQ r la lb = uQ r (la.drop kk) (lb.drop kk)) ∧ ae (Below w.heap.size w wr))
  case atStart => exact ⟨0, Nat.zero_le _, by omega, rfl, ⟨by simp⟩, HB⟩
  case round =>
   clear HB
   obtain ⟨kk, hkk, hgg, rfl, HS, HB⟩ := hrel
   by_cases hlt : kk < la.length
   ·have hltz : (kk : Int) < (la.length : Int) := by omega
    have aiS : (kk : Int) < (lb.length : Int) := by have := HE.out; omega
    have hw : wrap64 ((kk : Int) + 1) = ((kk + 1 : Nat) : Int) := by unfold wrap64; have := HL.out; omega
    have HX := ae.mk (aeB r z26 z23 la lb kk hlt (by omega))
    have hmem : aA la (kk : Int) ∈ la := Es z26 la kk hlt
    obtain ⟨cd, X, cx, rfl, c0, c1, c2, c3, c4, c5, c6, cl, cg⟩ := uC HA.out (kk : Int) (by omega) hltz
    obtain ⟨dd, rfl, d0, d1, d2, d3⟩ := OH HLB.out (kk : Int) (by omega) aiS
    simp only [Int.toNat_natCast] at c0 c1 c2 c3 c4 c5 c6 d0 d1 d2 d3
    replace c0 := (HB.out.cell (World.block_lt_of_cell? w _ c0)).trans c0
    replace c1 := (HB.out.cell (World.block_lt_of_cell? w _ c1)).trans c1
    replace c2 := (HB.out.cell (World.block_lt_of_cell? w _ c2)).trans c2
    replace c3 := (HB.out.cell (World.block_lt_of_cell? w _ c3)).trans c3
    replace c4 := (HB.out.cell (World.block_lt_of_cell? w _ c4)).trans c4
    replace c5 := (HB.out.cell (World.block_lt_of_cell? w _ c5)).trans c5
    replace c6 := (HB.out.cell (World.block_lt_of_cell? w _ c6)).trans c6
    have D0 := ae.mk d0
    have D1 := ae.mk d1
    have D2 := ae.mk d2
    have D3 := ae.mk d3
    clear d0 d1 d2 d3
    have HX := ae.mk (show uQ r (la.drop kk) (lb.drop kk) = (r (aA la (kk : Int)) (rM lb (kk : Int)) && uQ r (la.drop (kk + 1)) (lb.drop (kk + 1))) from HX.out)
    have cG := ae.mk cg
    have cL := ae.mk cl
    clear cg cl
    have HM := ae.mk hmem
    clear hmem
    generalize aA la (kk : Int) = x at *
    generalize rM lb (kk : Int) = y at *
    have HCx := ae.mk (fun W hW => HC.out W x X cx y HM.out hW cG.out cL.out )
    have HW := ae.mk hw
    have HKK := ae.mk (show kk + 1 ≤ la.length from hlt)
    have fM := ae.mk hgg
    clear hw hlt hgg hkk HM
    go_wp2_with (first | ((with_reducible refine aG (N := 8) rfl ?_); refine aU ?hg (N := 8) ?hd (cs := #[.int .u8 0, .int .i64 0, .int .i64 0, .int .i64 0, .int .i64 0, .int .i64 0, .slice none 0 0]) (t := 26) ?hr ?_; (case hd => rfl); (case hg => rfl); (case hr => (go_simp; done)); intro b8 hg wb8 hbox hb; have K8 := ae.mk hbox; have G8 := ae.mk (show w.heap.size ≤ b8 by rw [hg]; exact HB.out.size); have q_ := ae.mk (au HB.out hb); clear HB; have HB := q_; clear q_; clear hb hbox hg) | ((with_reducible refine mG (.store 26 (.tmp 8) (.tmp 21)) rfl ?_); go_loud (refine iO (w0 := w) rfl rfl 26 (.tmp 8) (.tmp 21) rfl (g := b8) (j := 0) (base := w.heap.size) #[.int .u8 x.f0, .int .i64 x.f1.f0, .int .i64 x.f1.f1, .int .i64 x.f1.f2, .int .i64 x.f1.f3, .int .i64 x.f2, .slice X x.f3.length cx] (u := .agg #[.int .u8 x.f0, .int .i64 x.f1.f0, .int .i64 x.f1.f1, .int .i64 x.f1.f2, .int .i64 x.f1.f3, .int .i64 x.f2, .slice X x.f3.length cx]) (bK := [.int .u8 x.f0, .int .i64 x.f1.f0, .int .i64 x.f1.f1, .int .i64 x.f1.f2, .int .i64 x.f1.f3, .int .i64 x.f2, .slice X x.f3.length cx]) ?sA ?sX rfl ?sT ?s1 K8.out ?sJ rfl HB.out HB.out.size G8.out ?_; (case sA => rfl); (case sX => rfl); (case sT => rfl); (case s1 => (simp [Value.oneCell'])); (case sJ => (simp)); intro ws8 hbk hbb hgg; clear K8 HB; have K8 := ae.mk hbk; have HB := ae.mk hbb; clear hbk hbb hgg; clear c0 c1 c2 c3 c4 c5 c6; have d0 := (HB.out.cell (World.block_lt_of_cell? w _ D0.out)).trans D0.out; have d1 := (HB.out.cell (World.block_lt_of_cell? w _ D1.out)).trans D1.out; have d2 := (HB.out.cell (World.block_lt_of_cell? w _ D2.out)).trans D2.out; have d3 := (HB.out.cell (World.block_lt_of_cell? w _ D3.out)).trans D3.out)) | ((with_reducible refine aG (N := 9) rfl ?_); refine aU ?hg (N := 9) ?hd (cs := #[.int .i64 0, .int .i64 0, .int .i64 0, .int .i64 0]) (t := 23) ?hr ?_; (case hd => rfl); (case hg => rfl); (case hr => (go_simp; done)); intro b9 hg wb9 hbox hb; have K9 := ae.mk hbox; have G9 := ae.mk (show w.heap.size ≤ b9 by rw [hg]; exact HB.out.size); have NE := ae.mk (show b8 ≠ b9 by rw [hg]; exact Nat.ne_of_lt (gJ K8.out)); have WO := ae.mk (aQ K8.out hb); clear K8; have K8 := WO; clear WO; have q_ := ae.mk (au HB.out hb); clear HB; have HB := q_; clear q_; clear hb hbox hg d0 d1 d2 d3) | ((with_reducible refine mG (.store 23 (.tmp 9) (.tmp 25)) rfl ?_); go_loud (refine iO (w0 := w) rfl rfl 23 (.tmp 9) (.tmp 25) rfl (g := b9) (j := 0) (base := w.heap.size) #[.int .i64 y.f0, .int .i64 y.f1, .int .i64 y.f2, .int .i64 y.f3] (u := .agg #[.int .i64 y.f0, .int .i64 y.f1, .int .i64 y.f2, .int .i64 y.f3]) (bK := [.int .i64 y.f0, .int .i64 y.f1, .int .i64 y.f2, .int .i64 y.f3]) ?sA ?sX rfl ?sT ?s1 K9.out ?sJ rfl HB.out HB.out.size G9.out ?_; (case sA => rfl); (case sX => rfl); (case sT => rfl); (case s1 => (simp [Value.oneCell'])); (case sJ => (simp)); intro ws9 hbk hbb hgg; have WO := ae.mk (dG K8.out hgg (fun e_ => absurd (Option.some.inj e_) NE.out)); clear K8; have K8 := WO; clear WO; clear K9 HB; have K9 := ae.mk hbk; have HB := ae.mk hbb; clear hbk hbb hgg; have e0 := (af K8.out 0).trans rfl; have e1 := (af K8.out 1).trans rfl; have e2 := (af K8.out 2).trans rfl; have e3 := (af K8.out 3).trans rfl; have e4 := (af K8.out 4).trans rfl; have e5 := (af K8.out 5).trans rfl; have e6 := (af K8.out 6).trans rfl; have f0 := (af K9.out 0).trans rfl; have f1 := (af K9.out 1).trans rfl; have f2 := (af K9.out 2).trans rfl; have f3 := (af K9.out 3).trans rfl)))
    clear e0 e1 e2 e3 e4 e5 e6 f0 f1 f2 f3 K8 K9 NE G8 G9
    refine (HCx.out _ HB.out).mono ?_
    rintro e w' ⟨rfl, hb⟩
    have q_ := ae.mk (au HB.out hb); clear HB; have HB := q_; clear q_
    clear hb
    cases hq : r x y with
    | true =>
     have HQ := ae.mk hq
     clear hq
     go_wp2
     go_roundg (la.length - (kk + 1))
     case measure => have h1 := fM.out; have h2 := HKK.out; omega
     case rel => exact ⟨kk + 1, HKK.out, Nat.le_refl _, (by rw [HW.out]), ⟨by rw [HS.out, HX.out, HQ.out, Bool.true_and]⟩, HB⟩
    | false =>
     have HQ := ae.mk hq
     clear hq
     go_wp2
     go_ret
     rw [HS.out, HX.out, HQ.out, Bool.false_and]
     exact ⟨rfl, HB.out⟩
   ·have hltz : ¬ (kk : Int) < (la.length : Int) := by omega
    go_wp2
    go_ret
    rw [HS.out, List.drop_eq_nil_of_le (by omega), J9]
    exact ⟨rfl, HB.out⟩
 ·have hl1 : ((la.length : Int) != (lb.length : Int)) = true := by simp; omega
  have hl2 : (la.length == lb.length) = false := by simp [hl]
  rw [hl2, Bool.false_and]
  clear hl hl2
  go_enter Try.func211, Try.ntmps211
  go_wp2
  go_ret
  exact ⟨rfl, HB.out⟩
theorem ag7 (X Y Wd H ax : Int) (sizes : List Int) (hl : sizes.length ≤ 1000000) (B : Option Addr) (cb : Nat) (w : World) (hi : Kd.C (Kd.int .i64) w B sizes.length sizes) :
  Calls Try.prog 45 #[.agg #[.int .i64 X, .int .i64 Y, .int .i64 Wd, .int .i64 H], .int .u8 ax, .slice B sizes.length cb] w (NQ w (sH X Y Wd H ax sizes)) := by
 have S := ae.mk (St.start (ts := []) (b0 := w.heap.size) (w := w) (P := fun _ => True) (fun _ h => by cases h))
 have HI := ae.mk hi
 have gY := ae.mk hl
 clear hi hl
 by_cases hax : ax = 1 ∨ ax = 2
 case neg =>
  have HQ := ae.mk (BI (X := X) (Y := Y) (W := Wd) (H := H) (sizes := sizes) (.inl hax))
  have jh := ae.mk hax
  clear hax
  go_enter Try.func45, Try.ntmps45
  go_wp2_with (first | (refine boxS 3 _ 23 S ?_; clear S; intro b3 di S; obtain ⟨bf, bg, bu, bz⟩ := St.at4 S (.head _)) | (refine bG (some 23) Try.func127 S (Xi jh.out _ _ _ _) ?_; clear S; intro dS S; clear bf bg bu bz) | (refine boxS 9 _ 23 S ?_; clear S; intro b9 gq S) | (refine gy 23 9 24 #[.int .i64 0, .int .i64 0, .int .i64 0, .int .i64 0] 0 4 S ?_; clear S; intro gz S))
  go_ret3
  rw [HQ.out]
  exact ⟨none, 0, none, 0, .cells #[] 0 (0, 0), .cells #[] 0 (0, 0), rfl, (fun h => by cases h), S.out.below⟩
 have jh := ae.mk hax
 obtain ⟨S0, hS0⟩ : ∃ s, s = tX ax X Y := ⟨_, rfl⟩
 obtain ⟨T0, hT0⟩ : ∃ s, s = tX ax Y X := ⟨_, rfl⟩
 obtain ⟨D, hD⟩ : ∃ s, s = tX ax Wd H := ⟨_, rfl⟩
 obtain ⟨E, hE⟩ : ∃ s, s = tX ax H Wd := ⟨_, rfl⟩
 have HTU := ae.mk (fun (W : World) => show Calls Try.prog 127 #[.agg #[.int .i64 X, .int .i64 Y, .int .i64 Wd, .int .i64 H], .int .u8 ax] W fun e w' => e = .returned (.tuple #[.agg #[.int .i64 S0, .int .i64 T0, .int .i64 D, .int .i64 E], .bool true]) ∧ Below W.heap.size W w' by rw [hS0, hT0, hD, hE]; exact I4 hax X Y Wd H)
 by_cases hm : qc X Y Wd H = true
 case neg =>
  have hm2 := Bool.eq_false_iff.mpr hm
  have HQ := ae.mk (BI (ax := ax) (sizes := sizes) (.inr (.inl hm2)))
  have zo := ae.mk hm2
  clear hm hm2 hax hS0 hT0 hD hE
  go_enter Try.func45, Try.ntmps45
  go_wp2_with (first | (refine boxS 3 _ 23 S ?_; clear S; intro b3 di S; obtain ⟨bf, bg, bu, bz⟩ := St.at4 S (.head _)) | (refine bG (some 23) Try.func127 S (HTU.out _) ?_; clear S; intro dS S; clear bf bg bu bz) | (refine boxS 9 _ 23 S ?_; clear S; intro b9 gq S) | (refine gy 23 9 24 #[.int .i64 S0, .int .i64 T0, .int .i64 D, .int .i64 E] 0 4 S ?_; clear S; intro gz S; obtain ⟨bf, bg, bu, bz⟩ := St.at4 S aY) | (refine iI 30 rfl ?_; (refine iV (by rfl) ?_; dsimp only); refine bG (some 30) Try.func128 S (Qb zo.out) ?_; clear S; intro kG S; clear bf bg bu bz))
  go_ret3
  rw [HQ.out]
  exact ⟨none, 0, none, 0, .cells #[] 0 (0, 0), .cells #[] 0 (0, 0), rfl, (fun h => by cases h), S.out.below⟩
 have zo := ae.mk hm
 by_cases h0 : sizes.length = 0
 case pos =>
  have HQ := ae.mk (BI (X := X) (Y := Y) (W := Wd) (H := H) (ax := ax) (.inr (.inr h0)))
  obtain ⟨MG, wP, Vh⟩ := rU (a := (sizes.length : Int)) (b := 0) (by omega)
  have Vj : (sizes.length == 0) = true := beq_iff_eq.mpr (by omega)
  have Vk : decide (sizes.length = 0) = true := decide_eq_true (by omega)
  clear hm h0 hax hS0 hT0 hD hE
  go_enter Try.func45, Try.ntmps45
  go_wp2_with (first | (refine boxS 3 _ 23 S ?_; clear S; intro b3 di S; obtain ⟨bf, bg, bu, bz⟩ := St.at4 S (.head _)) | (refine bG (some 23) Try.func127 S (HTU.out _) ?_; clear S; intro dS S; clear bf bg bu bz) | (refine boxS 9 _ 23 S ?_; clear S; intro b9 gq S) | (refine gy 23 9 24 #[.int .i64 S0, .int .i64 T0, .int .i64 D, .int .i64 E] 0 4 S ?_; clear S; intro gz S; obtain ⟨bf, bg, bu, bz⟩ := St.at4 S aY) | (refine iI 30 rfl ?_; (refine iV (by rfl) ?_; dsimp only); refine bG (some 30) Try.func128 S (Qb zo.out) ?_; clear S; intro kG S; clear bf bg bu bz))
  go_ret3
  rw [HQ.out]
  exact ⟨none, 0, none, 0, .cells #[] 0 (0, 0), .cells #[] 0 (0, 0), rfl, (fun h => by cases h), S.out.below⟩
 have hq := Va hax hm h0
 rw [← hS0, ← hT0, ← hD, ← hE] at hq
 have hb := Xh hax hm
 rw [← hS0, ← hD] at hb
 have HB := ae.mk hb
 rw [hq]
 obtain ⟨MG, wP, Vh⟩ := eqF (a := (sizes.length : Int)) (b := 0) (by omega)
 have Vj : (sizes.length == 0) = false := beq_eq_false_iff_ne.mpr (by omega)
 have Vk : decide (sizes.length = 0) = false := decide_eq_false (by omega)
 obtain ⟨R, hR⟩ : ∃ R, R = pI ax S0 T0 D E 0 true [] [] sizes := ⟨_, rfl⟩
 rw [← hR]
 have HR := ae.mk hR
 clear hq hb hm h0 hax hS0 hT0 hD hE hR
 go_enter Try.func45, Try.ntmps45
 go_wp2_with (first | (refine boxS 3 _ 23 S ?_; clear S; intro b3 di S; obtain ⟨bf, bg, bu, bz⟩ := St.at4 S (.head _)) | (refine bG (some 23) Try.func127 S (HTU.out _) ?_; clear S; intro dS S; clear bf bg bu bz) | (refine boxS 9 _ 23 S ?_; clear S; intro b9 gq S) | (refine gy 23 9 24 #[.int .i64 S0, .int .i64 T0, .int .i64 D, .int .i64 E] 0 4 S ?_; clear S; intro gz S; obtain ⟨bf, bg, bu, bz⟩ := St.at4 S aY) | (refine iI 30 rfl ?_; (refine iV (by rfl) ?_; dsimp only); refine bG (some 30) Try.func128 S (Qb zo.out) ?_; clear S; intro kG S; clear bf bg bu bz; have sG := (S.out.at (.head _) 0).trans rfl))
 clear sG
 clear MG wP Vh Vj Vk
 go_loopg [11, 12, 13, 42] sizes.length (fun gg v11 v12 v13 v42 wr => ∃ (pre rest : List Int) (off : Int) (ps ls : List dO) (Ap : Option Addr) (cp : Nat) (op : Obj) (Aq : Option Addr) (cq : Nat) (oq : Obj), v11 = .slice Ap ps.length cp ∧ v12 = .slice Aq ls.length cq ∧ v13 = .int .i64 (S0 + off) ∧ v42 = .int .i64 (pre.length : Int) ∧ ae (pre ++ rest = sizes) ∧ rest.length ≤ gg ∧ ae (0 ≤ off ∧ off ≤ D ∧ ps.length ≤ pre.length ∧ ls.length ≤ pre.length) ∧ ae (pI ax S0 T0 D E off (pre.length == 0) ps ls rest = R) ∧ ae (KR k23 23 w.heap.size (.slice Ap ps.length cp) ps op) ∧ ae (KR k23 23 w.heap.size (.slice Aq ls.length cq) ls oq) ∧ ae (St w (fun _ => True) [((Value.slice Aq ls.length cq).ownBlock, oq), ((Value.slice Ap ps.length cp).ownBlock, op), (some b9, .cells #[.int .i64 S0, .int .i64 T0, .int .i64 D, .int .i64 E] 23 (0, 0)), (some b3, .cells #[.int .i64 X, .int .i64 Y, .int .i64 Wd, .int .i64 H] 23 (0, 0))] [] [] [] wr))
 case atStart => exact ⟨[], sizes, 0, [], [], none, 0, _, none, 0, _, rfl, rfl, by rw [Int.add_zero], rfl, ⟨rfl⟩, Nat.le_refl _, ⟨by have := HB.out; simp; omega⟩, ⟨HR.out.symm⟩, ⟨Oc _ _ _⟩, ⟨Oc _ _ _⟩, ⟨S.out.noK.noK⟩⟩
 case round =>
  clear S HR
  obtain ⟨pre, rest, off, ps, ls, Ap, cp, op, Aq, cq, oq, rfl, rfl, rfl, rfl, HE, hgg, HO, HG, jy, oC, S⟩ := hrel
  cases rest with
  | nil =>
   have hE := HE.out
   rw [List.append_nil] at hE
   subst hE
   clear HE hgg
   have hlt : ¬ ((pre.length : Int) < (pre.length : Int)) := by omega
   have hw : wrap64 (S0 + D) = S0 + D := by have := HB.out; unfold wrap64; omega
   have UC := ae.mk (O4 HG.out)
   by_cases hod : off = D
   case pos =>
    obtain ⟨hza, hzb, hzd⟩ := rU (a := (S0 + off)) (b := wrap64 (S0 + D)) (by omega)
    obtain ⟨hya, hyb, MN⟩ := rU (a := (S0 + off)) (b := (S0 + D)) (by omega)
    have NZ := ae.mk hod
    clear hod hw
    have sG := (S.out.at dL 0).trans rfl
    have vz := (S.out.at dL 2).trans rfl
    go_wp2
    clear sG vz
    go_ret3
    rw [UC.out, if_pos NZ.out]
    have S2 := S.out.vS
    exact ⟨Ap, cp, Aq, cq, op, oq, rfl, fun _ => S2.WE jy.out oC.out, S.out.below⟩
   case neg =>
    obtain ⟨hza, hzb, hzd⟩ := eqF (a := (S0 + off)) (b := wrap64 (S0 + D)) (by omega)
    obtain ⟨hya, hyb, MN⟩ := eqF (a := (S0 + off)) (b := (S0 + D)) (by omega)
    have NZ := ae.mk hod
    clear hod hw
    have sG := (S.out.at dL 0).trans rfl
    have vz := (S.out.at dL 2).trans rfl
    go_wp2
    clear sG vz
    have HQ := ae.mk (UC.out.trans (if_neg NZ.out))
    go_ret3
    rw [HQ.out]
    exact ⟨none, 0, none, 0, .cells #[] 0 (0, 0), .cells #[] 0 (0, 0), rfl, (fun h => by cases h), S.out.below⟩
  | cons n ns =>
   have hlt : (pre.length : Int) < (sizes.length : Int) := by rw [← HE.out, List.length_append, List.length_cons]; omega
   have hw1 : wrap64 ((pre.length : Int) + 1) = ((pre ++ [n]).length : Int) := by have := gY.out; rw [List.length_append, List.length_singleton]; unfold wrap64; omega
   have HW1 := ae.mk hw1
   have fM := ae.mk hgg
   have Ci := ae.mk (show ps.length ≤ 1000000 ∧ ls.length ≤ 1000000 by have := HO.out; have := gY.out; omega)
   have hrd : rd sizes (pre.length : Int) = n := by rw [← HE.out]; simp [rd, List.getD_eq_getElem?_getD]
   obtain ⟨Zq, ek, xi⟩ := Kd.jl (Kd.iE HI.out S.out.below) (pre.length : Int) (Int.natCast_nonneg _) hlt
   subst ek
   rw [hrd] at xi
   simp only [Int.toNat_natCast] at xi
   clear hrd hgg hw1
   go_upto_if 48 with fail
   clear xi
   go_cut [12, 13] (fun v12 v13 wc => ∃ (o' : Int) (ls' : List dO) (Aq : Option Addr) (cq : Nat) (oq : Obj), v12 = .slice Aq ls'.length cq ∧ v13 = .int .i64 (S0 + o') ∧ ae (0 ≤ o' ∧ o' ≤ D + 1 ∧ ls'.length ≤ pre.length + 1) ∧ ae (Dc ax S0 T0 D E o' ps ls' n ns = R) ∧ ae (KR k23 23 w.heap.size (.slice Aq ls'.length cq) ls' oq) ∧ ae (St w (fun _ => True) [((Value.slice Aq ls'.length cq).ownBlock, oq), ((Value.slice Ap ps.length cp).ownBlock, op), (some b9, .cells #[.int .i64 S0, .int .i64 T0, .int .i64 D, .int .i64 E] 23 (0, 0)), (some b3, .cells #[.int .i64 X, .int .i64 Y, .int .i64 Wd, .int .i64 H] 23 (0, 0))] [] [] [] wc))
   case first =>
    by_cases hp2 : pre.length = 0
    case pos =>
     have hp : (pre.length == 0) = true := beq_iff_eq.mpr hp2
     obtain ⟨hpa, hpb⟩ := lY (a := 0) (b := (pre.length : Int)) (by omega)
     have hpc : decide (0 < pre.length) = false := decide_eq_false (by omega)
     have hpe : ¬ (0 < pre.length) := by omega
     have HG2 := ae.mk (show Dc ax S0 T0 D E off ps ls n ns = R by have h := HG.out; rw [hp] at h; exact h)
     clear hp hp2
     go_wp2
     go_meet
     case rel => exact ⟨off, ls, _, _, _, rfl, rfl, ⟨by have := HO.out; omega⟩, HG2, oC, S⟩
    case neg =>
     have hp : (pre.length == 0) = false := beq_eq_false_iff_ne.mpr hp2
     obtain ⟨hpa, hpb⟩ := nz (a := 0) (b := (pre.length : Int)) (by omega)
     have hpc : decide (0 < pre.length) = true := decide_eq_true (by omega)
     have hpe : 0 < pre.length := by omega
     have HG2 := ae.mk (show Dc ax S0 T0 D E (off + 1) ps (ls ++ [pM ax (S0 + off) T0 E 1]) n ns = R by have h := HG.out; rw [hp] at h; exact h)
     have QO := ae.mk (show wrap64 ((S0 + off) + 1) = S0 + (off + 1) by have := HO.out; have := HB.out; unfold wrap64; omega)
     clear hp hp2
     have A8 := (S.out.at dL 1).trans rfl
     have A_ := (S.out.at dL 3).trans rfl
     go_wp2_with (first | (refine bG (some 57) Try.func127 S (I4 jh.out (S0 + off) T0 1 E) ?_; clear S; intro di S; clear A8 A_) | (refine boxS 16 _ 23 S ?_; clear S; intro b16 dS S) | (refine gy 23 16 58 #[.int .i64 (tX ax (S0 + off) T0), .int .i64 (tX ax T0 (S0 + off)), .int .i64 (tX ax 1 E), .int .i64 (tX ax E 1)] 0 4 S ?_; clear S; intro gq S; obtain ⟨aeh, aei, aej, aek⟩ := St.at4 S (.head _)) | (refine iI 63 rfl ?_; at_builtin; replace S := ae.mk S.out.vS; refine xI k23 23 rfl 60 62 42 _ 32 Try.underlying42 info23 rfl (by decide) (by decide) (by decide) S oC ⟨tX ax (S0 + off) T0, tX ax T0 (S0 + off), tX ax 1 E, tX ax E 1⟩ [.int .i64 (tX ax (S0 + off) T0), .int .i64 (tX ax T0 (S0 + off)), .int .i64 (tX ax 1 E), .int .i64 (tX ax E 1)] (fun _ _ _ => tN _ _ _ _) (by have := Ci.out; omega) ?_; clear S oC; intro Aq2 cq2 oq2 gz S oC; clear aeh aei aej aek))
     go_meet
     case rel => exact ⟨off + 1, _, _, _, _, (by rw [List.length_append]; rfl), (by rw [QO.out]), ⟨by have := HO.out; rw [List.length_append, List.length_singleton]; omega⟩, HG2, oC, ⟨S.out.vS.dV.um.um.um.um⟩⟩
   case rest =>
    clear S oC HG
    obtain ⟨o', ls', Aq, cq, oq, rfl, rfl, qX, HG, oC, S⟩ := hcut
    rename World => wx
    have Ci := ae.mk (show ps.length ≤ 1000000 ∧ ls'.length ≤ 1000001 by have := HO.out; have := qX.out; have := gY.out; omega)
    have hg : wrap64 (wrap64 (S0 + D) - (S0 + o')) = D - o' := by have := HB.out; have := qX.out; unfold wrap64; omega
    by_cases hn : n < 1
    case pos =>
     obtain ⟨hna, hnb⟩ := nz (a := n) (b := 1) (by omega)
     have HQ := ae.mk (HG.out.symm.trans (Dw (.inl hn)))
     go_wp2
     go_ret3
     rw [HQ.out]
     exact ⟨none, 0, none, 0, .cells #[] 0 (0, 0), .cells #[] 0 (0, 0), rfl, (fun h => by cases h), S.out.below⟩
    obtain ⟨hna, hnb⟩ := lY (a := n) (b := 1) (by omega)
    by_cases hd : D < o' + n
    case pos =>
     obtain ⟨Fq, sZ⟩ := nz (a := wrap64 (wrap64 (S0 + D) - (S0 + o'))) (b := n) (by omega)
     obtain ⟨hea, heb⟩ := nz (a := D - o') (b := n) (by omega)
     have HQ := ae.mk (HG.out.symm.trans (Dw (.inr hd)))
     have sG := (S.out.at dL 0).trans rfl
     have vz := (S.out.at dL 2).trans rfl
     go_wp2
     clear sG vz
     go_ret3
     rw [HQ.out]
     exact ⟨none, 0, none, 0, .cells #[] 0 (0, 0), .cells #[] 0 (0, 0), rfl, (fun h => by cases h), S.out.below⟩
    obtain ⟨Fq, sZ⟩ := lY (a := wrap64 (wrap64 (S0 + D) - (S0 + o'))) (b := n) (by omega)
    obtain ⟨hea, heb⟩ := lY (a := D - o') (b := n) (by omega)
    have HG2 := ae.mk ((QV (fun h => h.elim hn hd)).symm.trans HG.out)
    have HN := ae.mk hn
    have HD2 := ae.mk hd
    have QO := ae.mk (show wrap64 ((S0 + o') + n) = S0 + (o' + n) by have := qX.out; have := HB.out; unfold wrap64; omega)
    clear hn hd hg
    obtain ⟨sG, A8, vz, A_⟩ := St.at4 S dL
    go_wp2_with (first | (refine bG (some 88) Try.func127 S (I4 jh.out (S0 + o') T0 n E) ?_; clear S; intro di S; clear sG A8 vz A_) | (refine boxS 18 _ 23 S ?_; clear S; intro b18 dS S) | (refine gy 23 18 89 #[.int .i64 (tX ax (S0 + o') T0), .int .i64 (tX ax T0 (S0 + o')), .int .i64 (tX ax n E), .int .i64 (tX ax E n)] 0 4 S ?_; clear S; intro gq S; obtain ⟨ael, aem, aen, aeo⟩ := St.at4 S (.head _)) | (refine iI 94 rfl ?_; at_builtin; replace S := ae.mk S.out.xJ; refine xI k23 23 rfl 91 93 42 _ 32 Try.underlying42 info23 rfl (by decide) (by decide) (by decide) S jy ⟨tX ax (S0 + o') T0, tX ax T0 (S0 + o'), tX ax n E, tX ax E n⟩ [.int .i64 (tX ax (S0 + o') T0), .int .i64 (tX ax T0 (S0 + o')), .int .i64 (tX ax n E), .int .i64 (tX ax E n)] (fun _ _ _ => tN _ _ _ _) (by have := Ci.out; omega) ?_; clear S jy; intro NK cp2 P8 gz S jy; clear ael aem aen aeo))
    have hw1 := HW1.out
    go_wp2
    go_roundg ns.length
    case measure => exact Nat.lt_of_lt_of_le (Nat.lt_succ_self _) fM.out
    case rel => exact ⟨pre ++ [n], ns, o' + n, _, ls', _, _, _, _, _, _, (by rw [List.length_append]; rfl), rfl, (by rw [QO.out]), (by rw [hw1]), ⟨by rw [List.append_assoc]; exact HE.out⟩, Nat.le_refl _, ⟨by have := HO.out; have := qX.out; have := HN.out; have := HD2.out; simp only [List.length_append, List.length_singleton]; omega⟩, ⟨by rw [show ((pre ++ [n]).length == 0) = false by simp]; exact HG2.out⟩, jy, oC, ⟨S.out.vS.dV.um.um.xJ.um⟩⟩
def aiY.f (_ : Nat) (X Y Wd H ax : Int) (sizes : List Int) : Option (List dO × List dO × Bool) := if sizes.length ≤ 1000000 then some (sH X Y Wd H ax sizes) else none
theorem Two.lower {α β : Type} {d : Kd α} {e : TypeId} {d' : Kd β} {e' : TypeId} {w W W1 : World} {v v' : Value} {l : List α} {l' : List β} {o o' : Obj} (h : Two d e d' e' W W1 v l v' l' o o') (hs : w.heap.size ≤ W.heap.size) : Two d e d' e' w W1 v l v' l' o o' :=
 ⟨DN h.one hs, DN h.two hs, fun g hg => ⟨Nat.le_trans hs (h.at1 g hg).1, (h.at1 g hg).2⟩, fun g hg => ⟨Nat.le_trans hs (h.at2 g hg).1, (h.at2 g hg).2⟩, h.ne⟩
theorem aew (c : ai) (hl : c.f3.length ≤ 1000000) (b : Nat) (P : Nat → Prop) (A : Option Addr) (cc : Nat) (w : World) (hv : Kd.V k26 26 w b P (.slice A c.f3.length cc) c.f3) :
  Calls Try.prog 210 #[.agg #[.int .u8 c.f0, .int .i64 c.f1.f0, .int .i64 c.f1.f1, .int .i64 c.f1.f2, .int .i64 c.f1.f3, .int .i64 c.f2, .slice A c.f3.length cc]] w (NQ w (Af c)) := by
 have S := ae.mk (St.start (ts := [(.slice A c.f3.length cc, c.f3)]) (b0 := w.heap.size) (w := w) (P := P) (fun t ht => by rw [List.mem_singleton.1 ht]; exact eY hv))
 have gY := ae.mk hl
 clear hl hv
 obtain ⟨ck, ⟨cx, cy, cw, ch⟩, ay, l⟩ := c
 simp only [] at S gY ⊢
 rw [show Af ⟨ck, ⟨cx, cy, cw, ch⟩, ay, l⟩ = sH cx cy cw ch (((ck - 2) % 256 + 1) % 256) (l.map (rX ck)) from rfl]
 obtain ⟨T, hT⟩ : ∃ T, T = sH cx cy cw ch (((ck - 2) % 256 + 1) % 256) (l.map (rX ck)) := ⟨_, rfl⟩
 rw [← hT]
 have HT := ae.mk hT
 clear hT
 go_enter Try.func210, Try.ntmps210
 go_wp2_with (first
  | (refine boxS 1 _ 26 S ?_; clear S; intro b1 di S; have jD := (S.out.at (.head _) 6).trans rfl)
  | fail)
 clear jD
 go_loopg [5, 11] l.length (fun gg v3 v9 wr => ∃ (pre rest : List ai) (Ap : Option Addr) (cp : Nat) (op : Obj), v3 = .slice Ap pre.length cp ∧ v9 = .int .i64 (pre.length : Int) ∧ ae (pre ++ rest = l) ∧ rest.length ≤ gg ∧ ae (KR (Kd.int .i64) 3 w.heap.size (.slice Ap pre.length cp) (pre.map (rX ck)) op) ∧ ae (St w P [((Value.slice Ap pre.length cp).ownBlock, op), (some b1, .cells #[.int .u8 ck, .int .i64 cx, .int .i64 cy, .int .i64 cw, .int .i64 ch, .int .i64 ay, .slice A l.length cc] 26 (0, 0))] [] [(.slice A l.length cc, l)] [] wr))
 case atStart => exact ⟨[], l, _, _, _, rfl, rfl, ⟨rfl⟩, Nat.le_refl _, ⟨Oc _ _ _⟩, ⟨S.out.noK⟩⟩
 case round =>
  clear S
  obtain ⟨pre, rest, Ap, cp, op, rfl, rfl, HE, hgg, jy, S⟩ := hrel
  cases rest with
  | nil =>
   have hE := HE.out
   rw [List.append_nil] at hE
   have hE2 := hE.symm
   subst hE2
   clear hE HE hgg
   have hlt : ¬ ((l.length : Int) < (l.length : Int)) := by omega
   have hlm : (l.map (rX ck)).length = l.length := List.length_map _
   have hcut := fun W hi => ag7 cx cy cw ch (((ck - 2) % 256 + 1) % 256) (l.map (rX ck)) (by have := gY.out; simpa using this) Ap cp W hi
   rw [hlm, ← HT.out] at hcut
   have I9 := ae.mk hcut
   clear hcut hlm
   have lQ := (S.out.at aY 1).trans rfl
   have lS := (S.out.at aY 2).trans rfl
   have lT := (S.out.at aY 3).trans rfl
   have lU := (S.out.at aY 4).trans rfl
   have iH := (S.out.at aY 0).trans rfl
   go_wp2_with (first
    | (refine iT (some 38) Try.func45 (I9.out _ (by have h := (Kd.eQ (Ob jy.out S.out (.head _))).2.2; rw [List.length_map] at h; exact h)) ?_; rintro e dS ⟨A1, c1, A2, c2, o1, o2, rfl, h1, hb⟩; refine ⟨_, rfl, ?_⟩; have HCU := ae.mk (fun h => (h1 h).lower S.out.below.size); replace S := ae.mk (S.out.call hb); clear h1 hb; clear lQ lS lT lU iH)
    | fail)
   go_ret3
   exact ⟨_, _, _, _, _, _, rfl, HCU.out, S.out.below⟩
  | cons k rest =>
   have hk : k ∈ l := by rw [← HE.out]; simp
   have hlt : (pre.length : Int) < (l.length : Int) := by rw [← HE.out, List.length_append, List.length_cons]; omega
   have hw1 : wrap64 ((pre.length : Int) + 1) = ((pre ++ [k]).length : Int) := by have := gY.out; rw [List.length_append, List.length_singleton]; unfold wrap64; omega
   have HW1 := ae.mk hw1
   have fM := ae.mk hgg
   have HK := ae.mk hk
   have yD := ae.mk (show pre.length ≤ 1048576 by have := gY.out; omega)
   obtain ⟨gK, ua, uc, ek, S1⟩ := S.out.elem (.head _) (pre.length : Int) (Int.natCast_nonneg _) hlt
   subst ek
   have hrd : aA l (pre.length : Int) = k := by rw [← HE.out]; exact kE pre k rest
   rw [hrd] at S1
   simp only [Int.toNat_natCast] at S1
   replace S := ae.mk S1
   clear S1 hrd hk hgg hw1
   by_cases hk2 : ck = 2
   case pos =>
    have hka : (ck == 2) = true := beq_iff_eq.mpr hk2
    have hkb : decide (ck = 2) = true := decide_eq_true hk2
    have N9 := ae.mk (show (pre ++ [k]).map (rX ck) = pre.map (rX ck) ++ [k.f1.f2] by rw [List.map_append]; exact congrArg (pre.map (rX ck) ++ [·]) (if_pos hk2))
    clear hk2
    obtain ⟨gQ, iD, jd, iP, iQ, jL, jM⟩ := St.AQ S
    go_wp2_with (first
     | (refine boxS 7 _ 26 S ?_; clear S; intro b7 gq S; clear gQ iD jd iP iQ jL jM)
     | (refine gy 26 7 14 #[.int .u8 k.f0, .int .i64 k.f1.f0, .int .i64 k.f1.f1, .int .i64 k.f1.f2, .int .i64 k.f1.f3, .int .i64 k.f2, .slice ua k.f3.length uc] 0 7 S ?_; clear S; intro gz S; have iH := (S.out.at dL 0).trans rfl; have ag4 := (S.out.at (.head _) 3).trans rfl)
     | (refine iI 23 rfl ?_; at_builtin; replace S := ae.mk S.out.vS; refine xI (Kd.int .i64) 3 rfl 18 22 41 (.int .i64 0) 8 Try.underlying41 info3 rfl (by decide) (by decide) (by decide) S jy k.f1.f2 [.int .i64 k.f1.f2] (fun _ _ _ => rfl) (by have := yD.out; simp only [List.length_map]; omega) ?_; clear S jy; intro NK cp2 P8 kG S jy; clear iH ag4)
     | fail)
    have e2 : ((pre.map (rX ck)) ++ [k.f1.f2]).length = (pre ++ [k]).length := by simp
    rw [e2, ← N9.out] at jy
    rw [e2] at S
    have hw1 := HW1.out
    go_wp2
    go_roundg rest.length
    case measure => exact Nat.lt_of_lt_of_le (Nat.lt_succ_self _) fM.out
    case rel => exact ⟨pre ++ [k], rest, _, _, _, (by rw [List.length_append]; rfl), (by rw [hw1]), ⟨by rw [List.append_assoc]; exact HE.out⟩, Nat.le_refl _, jy, ⟨S.out.vS.dV.vS.vS.bQ.aX.aX.aX.aX.aX.aX.aX⟩⟩
   case neg =>
    have hka : (ck == 2) = false := beq_eq_false_iff_ne.mpr hk2
    have hkb : decide (ck = 2) = false := decide_eq_false hk2
    have N9 := ae.mk (show (pre ++ [k]).map (rX ck) = pre.map (rX ck) ++ [k.f1.f3] by rw [List.map_append]; exact congrArg (pre.map (rX ck) ++ [·]) (if_neg hk2))
    clear hk2
    obtain ⟨gQ, iD, jd, iP, iQ, jL, jM⟩ := St.AQ S
    go_wp2_with (first
     | (refine boxS 7 _ 26 S ?_; clear S; intro b7 tJ S; clear gQ iD jd iP iQ jL jM)
     | (refine gy 26 7 14 #[.int .u8 k.f0, .int .i64 k.f1.f0, .int .i64 k.f1.f1, .int .i64 k.f1.f2, .int .i64 k.f1.f3, .int .i64 k.f2, .slice ua k.f3.length uc] 0 7 S ?_; clear S; intro vV S; have iH := (S.out.at dL 0).trans rfl; have ag5 := (S.out.at (.head _) 4).trans rfl)
     | (refine iI 29 rfl ?_; at_builtin; replace S := ae.mk S.out.vS; refine xI (Kd.int .i64) 3 rfl 24 28 41 (.int .i64 0) 8 Try.underlying41 info3 rfl (by decide) (by decide) (by decide) S jy k.f1.f3 [.int .i64 k.f1.f3] (fun _ _ _ => rfl) (by have := yD.out; simp only [List.length_map]; omega) ?_; clear S jy; intro NK cp2 P8 wV S jy; clear iH ag5)
     | fail)
    have e2 : ((pre.map (rX ck)) ++ [k.f1.f3]).length = (pre ++ [k]).length := by simp
    rw [e2, ← N9.out] at jy
    rw [e2] at S
    have hw1 := HW1.out
    go_wp2
    go_roundg rest.length
    case measure => exact Nat.lt_of_lt_of_le (Nat.lt_succ_self _) fM.out
    case rel => exact ⟨pre ++ [k], rest, _, _, _, (by rw [List.length_append]; rfl), (by rw [hw1]), ⟨by rw [List.append_assoc]; exact HE.out⟩, Nat.le_refl _, jy, ⟨S.out.vS.dV.vS.vS.bQ.aX.aX.aX.aX.aX.aX.aX⟩⟩
theorem aet (k : ai) (r : dO) (A : Option Addr) (cc : Nat) (w : World) :
  Calls Try.prog 212 #[.agg #[.int .u8 k.f0, .int .i64 k.f1.f0, .int .i64 k.f1.f1, .int .i64 k.f1.f2, .int .i64 k.f1.f3, .int .i64 k.f2, .slice A k.f3.length cc], .agg #[.int .i64 r.f0, .int .i64 r.f1, .int .i64 r.f2, .int .i64 r.f3]] w fun e w' => e = .returned (.bool (oH k.f1 r)) ∧ Below w.heap.size w w' := by
 have S := ae.mk (St.start (ts := []) (b0 := w.heap.size) (w := w) (P := fun _ => True) (fun _ h => by cases h))
 go_enter Try.func212, Try.ntmps212
 go_wp2_with (first
  | (refine boxS 2 _ 26 S ?_; clear S; intro b2 di S)
  | (refine boxS 3 _ 23 S ?_; clear S; intro b3 dS S; obtain ⟨bf, bg, bu, bz⟩ := St.at4 S (.head _); have kU := (S.out.at aY 1).trans rfl; have kV := (S.out.at aY 2).trans rfl; have kW := (S.out.at aY 3).trans rfl; have kX := (S.out.at aY 4).trans rfl)
  | fail)
 clear bf bg bu bz kU kV kW kX
 all_goals (go_ret; refine ⟨?_, S.out.below⟩; clear S; simp [oH, *])
theorem Yz (c : ai) (hl : c.f3.length ≤ 1000000) (b : Nat) (P : Nat → Prop) (A : Option Addr) (cc : Nat) (w : World) (hv : Kd.V k26 26 w b P (.slice A c.f3.length cc) c.f3) :
  Calls Try.prog 206 #[.agg #[.int .u8 c.f0, .int .i64 c.f1.f0, .int .i64 c.f1.f1, .int .i64 c.f1.f2, .int .i64 c.f1.f3, .int .i64 c.f2, .slice A c.f3.length cc]] w (SY w c) := by
 have S := ae.mk (St.start (ts := [(.slice A c.f3.length cc, c.f3)]) (b0 := w.heap.size) (w := w) (P := P) (fun t ht => by rw [List.mem_singleton.1 ht]; exact eY hv))
 have hcut := fun b P A cc W hV => aew c hl b P A cc W hV
 have ho : oM c = Ef c (Af c) := rfl
 have hl2 := (O6 c).2
 unfold SY
 generalize oM c = v at ho ⊢
 generalize Af c = T at ho hl2 hcut
 clear hl hv
 obtain ⟨ck, ⟨cx, cy, cw, ch⟩, ay, l⟩ := c
 obtain ⟨t1, t2, t3⟩ := T
 simp only [Ef] at S hl2 hcut ho ⊢
 have HL2 := ae.mk hl2
 clear hl2
 by_cases h1 : ck = 1
 case pos =>
  have hv : v = true := by rw [ho, h1]; rfl
  have ha : (ck == 1) = true := beq_iff_eq.mpr h1
  have hb : decide (ck = 1) = true := decide_eq_true h1
  have HL := ae.mk hv
  clear hv h1 ho hcut
  go_enter Try.func206, Try.ntmps206
  go_wp2_with (first
   | (refine boxS 1 _ 26 S ?_; clear S; intro b1 di S; have iH := (S.out.at (.head _) 0).trans rfl)
   | fail)
  clear iH
  go_ret2
  rw [HL.out]
  exact ⟨_, _, _, rfl, fun _ => ⟨[], rfl, Nat.zero_le _, Kd.wX _ _ _ _ _⟩, S.out.below⟩
 have ha : (ck == 1) = false := beq_eq_false_iff_ne.mpr h1
 have hd : decide (ck = 1) = false := decide_eq_false h1
 rw [ha, Bool.false_or] at ho
 clear h1
 cases t3 with
 | false =>
  rw [Bool.false_and] at ho
  have HL := ae.mk ho
  have I9 := ae.mk (fun b P A cc W hV => O7 (hcut b P A cc W hV))
  clear hcut ho
  go_enter Try.func206, Try.ntmps206
  go_wp2_with (first
   | (refine boxS 1 _ 26 S ?_; clear S; intro b1 di S; obtain ⟨iH, lQ, lS, lT, lU, nV, jD⟩ := St.dD S (.head _))
   | (refine iT (some 12) Try.func210 (I9.out _ _ _ _ _ (S.out.tree _ (.head _))) ?_; rintro e dS ⟨Ap, np, cp, Aq, nq, cq, rfl, hb⟩; refine ⟨_, rfl, ?_⟩; replace S := ae.mk (S.out.call hb); clear hb; clear iH lQ lS lT lU nV jD)
   | fail)
  go_ret2
  rw [HL.out]
  exact ⟨_, _, _, rfl, (fun h => by cases h), S.out.below⟩
 | true =>
  rw [Bool.true_and] at ho
  have I9 := ae.mk (fun b P A cc W hV => QW (hcut b P A cc W hV))
  have HEF := ae.mk (fun (A B : Option Addr) (ca cb : Nat) (W : World) (h1 : Kd.C k26 W A l.length l) (h2 : Kd.C k23 W B t1.length t1) => (show Calls Try.prog 211 #[.slice A l.length ca, .slice B t1.length cb, .func (.func 212) #[] #[]] W fun e w' => e = .returned (.bool v) ∧ Below W.heap.size W w' by rw [ho]; exact aeC (fun k r => oH k.f1 r) 212 (uP Try.func212 (by decide +kernel) (by kernel_rfl)) l t1 A B ca cb W h1 h2 (fun W x X cx y _ _ _ _ => aet x y X cx W)))
  clear hcut ho
  go_enter Try.func206, Try.ntmps206
  go_wp2_with (first
   | (refine boxS 1 _ 26 S ?_; clear S; intro b1 di S; obtain ⟨iH, lQ, lS, lT, lU, nV, jD⟩ := St.dD S (.head _))
   | (refine iT (some 12) Try.func210 (I9.out _ _ _ _ _ (S.out.tree _ (.head _))) ?_; rintro e dS ⟨Ap, cp, Aq, cq, op, oq, rfl, h1, hb⟩; refine ⟨_, rfl, ?_⟩; obtain ⟨S1, hp, hq⟩ := S.out.two h1 hb; replace S := ae.mk S1; have jy := ae.mk hp; have oC := ae.mk hq; clear S1 hp hq h1 hb; clear iH lQ lS lT lU nV jD; have jD := (S.out.at dL 6).trans rfl)
   | (refine iI 22 rfl ?_; (refine iV (by rfl) ?_; dsimp only); refine bG (some 22) Try.func211 S (HEF.out _ _ _ _ _ (Kd.kQ (S.out.tree _ (.head _))).2.2 (Xx jy.out S.out (.head _)).1) ?_; clear S; intro gq S; clear jD)
   | fail)
  go_ret2
  exact ⟨_, _, _, rfl, fun _ => ⟨t2, rfl, HL2.out, S.out.IG oC.out aY⟩, S.out.below⟩
end Go.Proofs.Ytfdmfgaiblfbhaa.P
